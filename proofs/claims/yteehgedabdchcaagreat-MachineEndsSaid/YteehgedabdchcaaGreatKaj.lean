import Derived.Test.YteehgedabdchcaaGreatKai
set_option linter.all false
set_option maxRecDepth 1000000
set_option maxHeartbeats 16000000
open Go renaming World->Aa,Calls->Ab,Value->Ac
open Go.RowKit renaming Below->Ae
open Go.Value renaming int->I,pointer->Ag,tuple->Aj,agg->Ak
open Go.IntKind renaming i64->Z
open Go.Ending renaming returned->O
namespace Go.Proofs.YteehgedabdchcaaGreat
open Go.RowKit Hp
attribute [local go_sem ↓] Go.wp_at_zero Go.wp_at_succ
theorem MU {n:Nat}(h:n<=4096):n+1<=maxLen/\(n+1)*8<=140737488355328:=by
 simp only[maxLen];omega
theorem si {n:Nat}(h:n<=1099511627776):n+1<=maxLen/\(n+1)*8<=140737488355328:=by
 simp only[maxLen];omega
section
variable {w : Aa} {o : Own} {l : Ba} {H : Hp} {vc vo vw vf : Ac} {f : Nat -> Nat}
theorem AE.Fj (h:AE w o l H vc vo vw vf f)(hu:H.use=true):Am w l.h #[Ag (some ⟨l.a,0,none⟩),I Z 1,I Z H.size,I Z H.BD,I Z (1+(H.size:Int)),I Z H.size,I Z H.top,vo,vc,I Z 1,.bool H.AF,I Z H.Bc,I Z H.scan,I Z H.Ax,vw,vf] 185:=by
 have hb:=h.hb;unfold Hp.cells at hb;rw[hu,if_pos rfl]at hb;exact hb
theorem Hp.Je {H:Hp}(hu:H.use=false):H.base H.use=1:=by rw[hu];rfl
theorem Hp.Hg {H:Hp}(hu:H.use=true):H.base H.use=1+H.size:=by rw[hu];rfl
theorem LR (h:AE w o l H vc vo vw vf f) (hk:H.ok) (hu:H.use=false) :
  Ab Tryz.prog 156 #[Ag (some ⟨l.h,0,none⟩)] w fun e w'=>e=O (I Z (H.left:Nat))/\Ae w.heap.size w w':=by
 have hb:=h.EI hu;have htop:=vj hk;have hroom:=hk.room;have hs:=hk.sz;unfold Hp.left;rw[Hp.Je hu]at htop hroom ⊢;obtain⟨sz,use,cur,top,mv,old,BD,Bc,scan,Ax,Az,final⟩:=H;simp only at hb hs htop hroom ⊢;have HL:=Qa (fun w=>RN (b:=1) (s:=sz) (t:=top) ⟨by omega,by omega,by omega,by omega⟩ w)
 obtain⟨r,hr⟩:∃ r:Nat,r=1+sz-top:=⟨_,rfl⟩;obtain⟨q,hq⟩:∃ q:Nat,q=1+sz-top-Bc:=⟨_,rfl⟩;have e1:IntKind.i64.wrap ((r:Int)-(Bc:Int))=(q:Int):=by rw[IntWalk.i64_in _ (by omega)];omega
 rw[<-hr]at HL;rw[<-hq];have HL:=Qa (show ∀ w:Aa,Ab Tryz.prog 219 #[Ak #[I Z 1,I Z sz,I Z top]] w fun e w'=>e=O (I Z r)/\Ae w.heap.size w w' from by have:=HL.out;unfold Dg at this;exact this)
 clear h hk hu hr hq htop hroom hs;have lA:=fun (e:Later w) (i:Nat)=>Later.cell hb e i
 go_enter Tryz.func156,Tryz.ntmps156;have cc:=hb.cell;go_upto_region 3 with fail;clear cc;refine qy (by kernel_rfl) (by kernel_rfl) ?_
 repeat (go_big_quiet_step ((go_at_call 219;exact kj (HL.out _))))
 refine wpQuiet_nil ?_
 rintro _ ⟨⟨wt,hbt⟩,rfl⟩
 go_wp2_with fail;go_ret;exact⟨rfl,hbt⟩
theorem LG (h:AE w o l H vc vo vw vf f) (hk:H.ok) (hu:H.use=true) :
  Ab Tryz.prog 156 #[Ag (some ⟨l.h,0,none⟩)] w fun e w'=>e=O (I Z (H.left:Nat))/\Ae w.heap.size w w':=by
 have hb:=h.Fj hu;have htop:=vj hk;have hroom:=hk.room;have hs:=hk.sz;unfold Hp.left;rw[Hp.Hg hu]at htop hroom ⊢;obtain⟨sz,use,cur,top,mv,old,BD,Bc,scan,Ax,Az,final⟩:=H;simp only at hb hs htop hroom ⊢;have HL:=Qa (fun w=>RN (b:=1+sz) (s:=sz) (t:=top) ⟨by omega,by omega,by omega,by omega⟩ w)
 obtain⟨r,hr⟩:∃ r:Nat,r=1+sz+sz-top:=⟨_,rfl⟩;obtain⟨q,hq⟩:∃ q:Nat,q=1+sz+sz-top-Bc:=⟨_,rfl⟩;have e1:IntKind.i64.wrap ((r:Int)-(Bc:Int))=(q:Int):=by rw[IntWalk.i64_in _ (by omega)];omega
 rw[<-hr]at HL;rw[<-hq];have HL:=Qa (show ∀ w:Aa,Ab Tryz.prog 219 #[Ak #[I Z (1+(sz:Int)),I Z sz,I Z top]] w fun e w'=>e=O (I Z r)/\Ae w.heap.size w w' from by have:=HL.out;unfold Dg at this;rw[show ((1+sz:Nat):Int)=1+(sz:Int) from by omega]at this;exact this)
 clear h hk hu hr hq htop hroom hs;have lA:=fun (e:Later w) (i:Nat)=>Later.cell hb e i
 go_enter Tryz.func156,Tryz.ntmps156;have cc:=hb.cell;go_upto_region 3 with fail;clear cc;refine qy (by kernel_rfl) (by kernel_rfl) ?_
 repeat (go_big_quiet_step ((go_at_call 219;exact kj (HL.out _))))
 refine wpQuiet_nil ?_
 rintro _ ⟨⟨wt,hbt⟩,rfl⟩
 go_wp2_with fail;go_ret;exact⟨rfl,hbt⟩
theorem Sr (h:AE w o l H vc vo vw vf f)(hk:H.ok) :
  Ab Tryz.prog 156 #[Ag (some ⟨l.h,0,none⟩)] w fun e w'=>e=O (I Z (H.left:Nat))/\Ae w.heap.size w w':=by
 cases hu:H.use
 ·exact LR h hk hu
 ·exact LG h hk hu
theorem AE.DC (h:AE w o l H vc vo vw vf f) (hw0:H.wf) (s:B3) (hs:s.ok) (hroom:H.roomy s=true) {w':Aa} {o':Own} {vc' vw' vf':Ac}
  (hb:Am w' l.h ((H.lay s).cells l.a vc' vo vw' vf') 185) (hw:BF w' l.a l.wd (2*H.size+1) (yv f H.top s (H.Ax+1)))
  (rc:Row w' o' (l.tc H.use) 3 1 vc' (H.cur.length+1) ((H.cur.map fun x=>nv x.1)++[nv H.top])) (ro:Row w' o' (l.Vf H.use) 3 1 vo H.old.length (H.old.map fun x=>nv x.1))
  (rw':Row w' o' (l.id,5) 3 1 vw' (H.lay s).Az.length ((H.lay s).Az.map nv)) (rf:Row w' o' (l.id,6) 3 1 vf' (H.lay s).final.length ((H.lay s).final.map nv))
  (ht:∀ b,b<w.heap.size->o' b=o b):AE w' o' l (H.lay s) vc' vo vw' vf' (yv f H.top s (H.Ax+1)):=by
 have hk:=hw0.ok;unfold Hp.roomy Hp.left at hroom;simp only[Bool.and_eq_true,decide_eq_true_eq]at hroom;have hrd:=zz (3+s.p+s.d) (by have:=hs.1;have:=hs.2.1;omega)
 have hr:=hk.room;have htop:=vj hk;have hsp:=lc H;refine⟨hb,hw,?_,?_,rw',rf,(ht _ h.hb.lt).trans h.oh,(ht _ h.B5.B2.lt).trans h.oa,(ht _ h.B5.lt).trans h.ow,?_,?_⟩
 ·show Row w' o' (l.tc H.use) _ 1 vc' (H.cur++[(H.top,Ob.new s (H.Ax+1))]).length ((H.cur++[(H.top,Ob.new s (H.Ax+1))]).map fun x=>nv x.1)
  simpa using rc
 ·exact ro
 ·intro x hx
  rcases Qs.1 (show x ∈ H.cur++[(H.top,Ob.new s (H.Ax+1))] from hx) with hx|hx
  ·refine (h.E3 x hx).of_eq (hk.ck x hx) fun j h1 h2=>gm _ _ _ _ _ (.inl ?_)
   have h3:=zr _ _ _ hk.cl x hx;have h4:=zz _ (Ob.AR (hk.ck x hx)).2;omega
  ·rw[Za.1 hx];exact Bi.new _ _ _ _
 ·intro x hx
  obtain⟨k1,k2,k3⟩:=GC hk hx;have h4:=zz _ (Ob.AR k1).2;have h5:=Ob.AR k1;refine⟨fun hn=>((h.B8 x hx).1 hn).of_eq k1 fun j h1 h2=>gm _ _ _ _ _ (by omega),fun q hq=>?_⟩
  rw[gm _ _ _ _ _ (by omega)]
  exact (h.B8 x hx).2 q hq
def NZ (w:Aa)(o:Own)(l:Ba)(H':Hp)(w':Aa):Prop:=∃ vc vo vw vf f o',AE w' o' l H' vc vo vw vf f/\Stp (zd l) o o' w w'
theorem Jv (h0:AE w o l H vc vo vw vf f) (hF:H.wf) (hu:H.use=false) (s:B3) (hs:s.ok) (hr:H.roomy s=true) :
  Ab Tryz.prog 167 #[Ag (some ⟨l.h,0,none⟩),ka s] w fun e w'=>e=O (Aj #[I Z H.top,I Z 0])/\NZ w o l (H.lay s) w':=by
 obtain⟨o1,ho1⟩:∃ o1,o1=ext o w.heap.size (l.id+1,0):=⟨_,rfl⟩;have h:=h0.retag (o':=o1) fun b hb=>by rw[ho1];exact qj hb
 have hS0:Stp (zd l) o o1 w w:=by rw[ho1];exact (Stp.refl _ o w).ext _ _ (Qk _)
 have hbx:o1 w.heap.size=(l.id+1,0):=by rw[ho1];exact qp (Qk _)
 clear ho1 h0;have hk:=hF.ok;have hcl:H.cur.length<16384:=by
  have h1:=po _ _ _ hk.cl hk.ck;have h2:=hk.room;have h3:=hk.sz;omega
 have hHF:=Qa hF;have hHr:=Qa hr;have hHz:=Qa hs;unfold Hp.roomy Hp.left at hr;simp only[Bool.and_eq_true,decide_eq_true_eq]at hr;obtain⟨hr,hser⟩:=hr;have hlf:(H.left:Nat)=H.base H.use+H.size-H.top-H.Bc:=rfl;have hHs:=Qa hser;clear hF;have hb:=h.EI hu;have htop:=vj hk;have hroom:=hk.room;rw[Hp.Je hu]at htop hroom hr hlf;have hrd:=zz (3+s.p+s.d) (by obtain⟨h1,h2,_⟩:=hs;omega)
 have hsz:=hk.sz;have hfit:H.top+Bo (3+s.p+s.d)+H.Bc<=1+H.size:=by omega
 have HR:=Qa (fun w' (hw:Ae w.heap.size w w')=>Sr (h.below hw) hk)
 have HS:=Qa (fun w=>xd s hs w)
 have HN:=Qa (fun w=>uu (3+s.p+s.d) (by omega) (by obtain⟨h1,h2,_⟩:=hs;omega) _ rfl w)
 have HT:=(fun w=>Rh (b:=1) (s:=H.size) (t:=H.top) ⟨by omega,by omega,by omega,by omega⟩ (3+s.p+s.d) (by omega) (by obtain⟨h1,h2,_⟩:=hs;omega) (by omega) _ rfl w)
 skip;replace HT:=Qa HT;have hng:¬((Bo (3+s.p+s.d):Nat):Int) > ((H.left:Nat):Int):=by omega
 have hse:(H.Ax:Int)<1099511627776:=by omega
 have hHI:=Qa h;have hHK:=Qa hk;generalize hzz:Bo (3+s.p+s.d)=rn at *;generalize H.left=Ee at HR hng;clear h hk hr hser hlf;have hse0:(0:Int)<=(H.Ax:Int):=by omega
 have hss:((H.Ax+1:Nat):Int)=(H.Ax:Int)+1:=by omega
 generalize hE1:(H.Ax:Int)=srl at hb hse hse0 hss;generalize hE2:H.size=sz at hb hsz HT htop hroom hfit;generalize hE3:H.top=tp at hb HT htop hroom hfit ⊢;generalize hE4:H.BD=otp at hb;generalize hE5:H.Bc=owd at hb hroom hfit;generalize hE6:H.scan=Ci at hb;generalize hE7:H.AF=mvg at hb;go_enter Tryz.func167,Tryz.ntmps167;have jS:=Am.new w #[I Z s.p,I Z s.d,.bool s.Az,.bool s.final] 93;have cS:=jS.cell;go_wp2_with fail;refine (HS.out _).mono ?_
 rintro e w1 ⟨rfl,hb1⟩
 have hw1:=qd (qa (qc w) _) hb1;have jS1:=jS.below hb1 jS.lt;clear hb1 cS;go_wp2_with fail;refine (HN.out _).mono ?_
 rintro e w2 ⟨rfl,hb2⟩
 have hw2:=qd hw1 hb2;have jS2:=jS1.below hb2 jS1.lt;go_wp2_with fail;refine (HR.out _ hw2).mono ?_
 rintro e w3 ⟨rfl,hb3⟩
 have hw3:=qd hw2 hb3;have jS3:=jS2.below hb3 jS2.lt;have jH3:=hb.below hw3 hb.lt;have cH:=jH3.cell;go_upto_region 7 with fail;have sH:=jH3.lt;clear jS2 jS1 hb3 hb2 HR HS HN;go_cut [7,10,11] (fun t7 t10 t11 wx=>∃ B,t10=Ag (some ⟨B,0,none⟩)/\t11=I Z tp/\t7=.bool true/\Am wx B #[I Z 1,I Z sz,I Z ((tp+rn:Nat):Int)] 181/\Ae w3.heap.size w3 wx/\w3.heap.size<=B)
 case first =>
  go_region_with (first|(go_at_call 228;refine (HT.out _).mono ?_;rintro e w4 ⟨rfl,hb4⟩;try (have jB4:Am w4 w3.heap.size #[I Z 0,I Z 0,I Z 0] 181:=Am.below (qi (Am.new w3 _ _)) hb4 (by simp);have cB4:=jB4.cell;have zB4:=jB4.free;have sB4:=jB4.lt))|fail)
  all_goals
   go_wp2_with fail;go_meet;first
    | exact⟨_,rfl,rfl,rfl,Am.Aq _ _ _ _ _ rfl (by simp),qa (qd (qe (qc w3)) hb4) _,hb4.size⟩
    | exact⟨w3.heap.size,rfl,rfl,rfl,by simpa using ((jB4.set 0 _).set 1 _).set 2 _,qo (qo (qo (qd (qe (qa (qc w3) _)) hb4) (Qk _) _) (Qk _) _) (Qk _) _,Qk _⟩
 case rest =>
  clear cH sH HT;obtain⟨B,rfl,rfl,rfl,jB,hbw,hBge⟩:=hcut;have hw3s:=hw3.size;obtain⟨tr,htr⟩:∃ tr:Nat,tr=tp+rn:=⟨_,rfl⟩;rw[<-htr]at jB;replace htr:=Qa htr;have jHc:=jH3.below hbw jH3.lt;have jSc:=jS3.below hbw jS3.lt;have hwc:=qd hw3 hbw;have HM:=Qa (VA (hHI.out.B5.below (qe hwc)) s hs (at':=tp) (by have:=zz (3+s.p+s.d) (by obtain⟨h1,h2,_⟩:=hs;omega);rw[hE2];omega) (H.Ax+1) (by have:=hHs.out;omega) _ _ rfl hss.symm)
  clear jH3 jS3 hbw hw3;have cH:=jHc.cell;have cS:=jSc.cell;have sB:=jB.lt;go_upto_region 10 with fail;go_still_tail 11,(by kernel_rfl)
  change wpList _ _ _ _ _ wc.drew;go_wp2_with fail;refine HM.out.mono ?_
  rintro e w5 ⟨rfl,hT⟩
  have nwd:l.h≠l.wd:=fun e=>by have h1:=hHI.out.oh;rw[e,hHI.out.ow]at h1;cases h1
  have lwd:=hHI.out.B5.lt;have jH5:=(qi jHc).wr hT.2 nwd;have jS5:=(qi jSc).wr hT.2 (by omega)
  have jB5:=(qi jB).wr hT.2 (by omega)
  have S5:Stp (fun t=>t=(l.id,2)) o1 o1 w w5:=(Stp.of_below (qe hwc)).trans (Stp.BR hT.2 hHI.out.ow)
  clear jHc jSc jB HM cH cS sB;have cH:=jH5.cell;have zH:=jH5.free;have cS:=jS5.cell;have sB:=jB5.lt;have sS:=jS5.lt;have cB:=jB5.cell;have neB:B≠l.h:=by have:=hHI.out.hb.lt;omega
  have neS:w.heap.size≠l.h:=by have:=hHI.out.hb.lt;omega
  go_wp2_with fail;obtain⟨w6,hw6⟩:∃ w6:Aa,w6=w5.setCell ⟨l.h,13,none⟩ (I Z (srl+1)):=⟨_,rfl⟩;rw[<-hw6];have S6:Stp (fun t=>t=(l.id,2)\/t=(l.id,0)) o1 o1 w w6:=by
   rw[hw6];exact Stp.setCell (T:=fun t=>t=(l.id,2)\/t=(l.id,0)) (S5.mono fun _ e=>Or.inl e) (Or.inr hHI.out.oh) _
  have jH6:Am w6 l.h #[Ag (some ⟨l.a,0,none⟩),I Z 1,I Z sz,I Z tp,I Z (1+(sz:Int)),I Z sz,I Z otp,vc,vo,I Z 0,.bool mvg,I Z owd,I Z Ci,I Z (srl+1),vw,vf] 185:=by rw[hw6];exact jH5.set 13 _
  have jS6:Am w6 w.heap.size #[I Z s.p,I Z s.d,.bool s.Az,.bool s.final] 93:=by rw[hw6];exact jS5.An neS _
  have R6:Row w6 o1 (l.id,3) 3 1 vc H.cur.length (H.cur.map fun x=>nv x.1):=by
   have:=hHI.out.rc;rw[hu]at this;exact this.Ao S6 (by simp)
  refine (Te jH6 R6 hcl hHI.out.oh (by simp) tp tr).mono ?_
  rintro e w7 ⟨rfl,vc',o2,jH7,R7,S7⟩
  have jS7:=jS6.Ao S7 (by rw[hbx];simp)
  have S07:=(S6.mono (U:=zd l) (by rintro _ (rfl|rfl)<;>simp[zd])).trans (S7.mono (by rintro _ (rfl|rfl)<;>simp[zd]))
  have W7:BF w7 l.a l.wd (2*H.size+1) (yv f tp s (H.Ax+1)):=by
   have h6:BF w6 l.a l.wd (2*H.size+1) (yv f tp s (H.Ax+1)):=by rw[hw6];exact (hE2▸hT.1:BF w5 l.a l.wd (2*H.size+1) (yv f tp s (H.Ax+1))).Ao (Stp.setCell (T:=fun t=>t=(l.id,0)) (Stp.refl _ o1 w5) hHI.out.oh _) (by rw[hHI.out.oa];simp) (by rw[hHI.out.ow];simp)
   exact h6.Ao S7 (by rw[hHI.out.oa];simp) (by rw[hHI.out.ow];simp)
  have RO7:Row w7 o2 (l.id,4) 3 1 vo H.old.length (H.old.map fun x=>nv x.1):=by
   have:=hHI.out.ro;rw[hu]at this;exact (this.Ao S6 (by simp)).Ao S7 (by simp)
  have RW7:=(hHI.out.rw.Ao S6 (by simp)).Ao S7 (by simp)
  have RF7:=(hHI.out.rf.Ao S6 (by simp)).Ao S7 (by simp)
  have hbx6:w.heap.size<w6.heap.size:=jS6.lt;have S7t:=S7.tags;clear hw6 jH6 jS6 R6 S6 S5 jH5 jS5 jB5 cH zH cS sB sS cB S7 hT neB nwd;have cH:=jH7.cell;have zH:=jH7.free;have sH:=jH7.lt;have cS:=jS7.cell;have sS:=jS7.lt;have hbx7:o2 w.heap.size=(l.id+1,0):=by rw[S7t _ hbx6];exact hbx
  have T7:∀ b,b<w.heap.size->o2 b=o1 b:=fun b hb=>S07.tags b hb
  obtain⟨iI,hi,hsI,hyI,hzI⟩:=zi;have hu64:=Tryz.underlying25;have hwl:H.Az.length+1<=maxLen/\(H.Az.length+1)*8<=140737488355328:=si (Qo hHF.out.wl (by have:=hHs.out;omega))
  have hfl:H.final.length+1<=maxLen/\(H.final.length+1)*8<=140737488355328:=si (Qo hHF.out.fl (by have:=hHs.out;omega))
  have HWk:=Qa hs.2.2;have HFin:=Qa (fun (w9:Aa) (o9:Own) (vw' vf':Ac) (hb:Am w9 l.h ((H.lay s).cells l.a vc' vo vw' vf') 185) (rw':Row w9 o9 (l.id,5) 3 1 vw' (H.lay s).Az.length ((H.lay s).Az.map nv)) (rf:Row w9 o9 (l.id,6) 3 1 vf' (H.lay s).final.length ((H.lay s).final.map nv))
    (S:Stp (fun t=>t=(l.id,0)\/t=(l.id,5)\/t=(l.id,6)) o2 o9 w7 w9) =>
   show NZ w o l (H.lay s) w9 from
    ⟨vc',vo,vw',vf',_,o9,hHI.out.DC hHF.out s hHz.out hHr.out hb (by
      have:=W7.Ao S (by rw[T7 _ hHI.out.B5.B2.lt,hHI.out.oa];simp) (by rw[T7 _ hHI.out.B5.lt,hHI.out.ow];simp)
      rw[hE3];exact this) (by have:=R7.Ao S (by simp);rw[hE3,hu];exact this) (by rw[hu];exact RO7.Ao S (by simp)) rw' rf
      (fun b hb=>(S.tags b (Qn hb S07.size)).trans (T7 b hb)),(hS0.trans S07).trans (S.mono (by rintro _ (rfl|rfl|rfl)<;>simp[zd]))⟩)
  have HCells:=Qa (show ∀ vw' vf',(H.lay s).cells l.a vc' vo vw' vf'=#[Ag (some ⟨l.a,0,none⟩),I Z 1,I Z sz,I Z tr,I Z (1+(sz:Int)),I Z sz,I Z otp,vc',vo,I Z 0,.bool mvg,I Z owd,I Z Ci,I Z (srl+1),vw',vf'] from fun vw' vf'=>by
   unfold Hp.cells Hp.lay;simp only[hu];rw[if_neg (by simp),hE2,hE3,hE4,hE5,hE6,hE7,htr.out,hss,hzz])
  clear W7 R7 RO7 hs;have oh7:o2 l.h=(l.id,0):=(T7 _ hHI.out.hb.lt).trans hHI.out.oh;have wF:s.Az=false->(H.lay s).Az=H.Az:=fun e=>by unfold Hp.lay;simp[e]
  have wT:s.Az=true->(H.lay s).Az=H.Az++[H.top]:=fun e=>by unfold Hp.lay;simp[e]
  have fF:s.final=false->(H.lay s).final=H.final:=fun e=>by unfold Hp.lay;simp[e]
  have fT:s.final=true->(H.lay s).final=H.final++[H.top]:=fun e=>by unfold Hp.lay;simp[e]
  rw[hE3]at wT fT;replace hwl:=Qa hwl;replace hfl:=Qa hfl;replace RW7:=Qa RW7;replace RF7:=Qa RF7;replace hbx7:=Qa hbx7;replace oh7:=Qa oh7
  cases hwk:s.Az
  ·rw[hwk]at jS7
   cases hfn:s.final
   ·rw[hfn]at jS7
    have cS:=jS7.cell;go_wp2_with fail;go_ret2;exact⟨rfl,HFin.out w7 o2 vw vf (by rw[HCells.out];exact jH7) (by rw[wF hwk];exact RW7.out) (by rw[fF hfn];exact RF7.out) (Stp.refl _ _ _)⟩
   ·rw[hfn]at jS7
    have cS:=jS7.cell;go_wp2_with (first|(at_builtin;refine qf _ rfl _ _ _ rfl 3 iI _ 1 8 hu64 hi hzI hsI hyI rfl (by decide) o2 (l.id,6) _ _ _ rfl (Row.below RF7.out (qa (qc w7) _)) ⟨w7.heap.size,0,none⟩ 1 1 [I Z tp] rfl rfl (qx (Am.new w7 _ _)) zw hfl.out.1 hfl.out.2 ?_;intro v' w8 hown hst;obtain⟨pa,cp,rfl⟩:=hown.AY;have jH8:=(jH7.alloc (.cells #[I Z tp] 3)).Ao hst (by rw[oh7.out];simp);have jS8:=(jS7.alloc (.cells #[I Z tp] 3)).Ao hst (by rw[hbx7.out];simp);have cH8:=jH8.cell;have zH8:=jH8.free;have sH8:=jH8.lt;have cS8:=jS8.cell;have sS8:=jS8.lt)|fail)
    go_ret2;have k8:=Stp.setCell (T:=fun t=>t=(l.id,0)) (Stp.refl _ (ext o2 (w7.alloc (.cells #[I Z tp] 3)).heap.size (l.id,6)) w8) (a:=⟨l.h,15,none⟩) (by show ext o2 _ _ l.h=_;rw[qj (jH7.alloc (.cells #[I Z tp] 3)).lt];exact oh7.out) (.slice pa (H.final.length+1) cp)
    have s8:Stp (fun t=>t=(l.id,0)\/t=(l.id,5)\/t=(l.id,6)) o2 _ w7 _:=((Stp.of_below (T:=fun t=>t=(l.id,6)) (qa (qc w7) (.cells #[I Z tp] 3))).trans hst |>.mono (by rintro _ rfl;simp)).trans (k8.mono (by rintro _ rfl;simp))
    refine⟨rfl,HFin.out _ _ _ _ (by rw[HCells.out];exact jH8.set 15 _) ?_ ?_ s8⟩
    ·rw[wF hwk];exact ((Row.below RW7.out (qa (qc w7) _)).Ao hst (by simp)).Ao k8 (by simp)
    ·rw[fT hfn];simpa [nv] using hown.Ao k8 (by simp)
  ·rw[hwk,(HWk.out hwk).2.2]at jS7
   have cS:=jS7.cell;go_wp2_with (first|(at_builtin;refine qf _ rfl _ _ _ rfl 3 iI _ 1 8 hu64 hi hzI hsI hyI rfl (by decide) o2 (l.id,5) _ _ _ rfl (Row.below RW7.out (qa (qc w7) _)) ⟨w7.heap.size,0,none⟩ 1 1 [I Z tp] rfl rfl (qx (Am.new w7 _ _)) zw hwl.out.1 hwl.out.2 ?_;intro v' w8 hown hst;obtain⟨pa,cp,rfl⟩:=hown.AY;have jH8:=(jH7.alloc (.cells #[I Z tp] 3)).Ao hst (by rw[oh7.out];simp);have jS8:=(jS7.alloc (.cells #[I Z tp] 3)).Ao hst (by rw[hbx7.out];simp);have cH8:=jH8.cell;have zH8:=jH8.free;have sH8:=jH8.lt;have cS8:=jS8.cell;have sS8:=jS8.lt)|fail)
   go_ret2;have k8:=Stp.setCell (T:=fun t=>t=(l.id,0)) (Stp.refl _ (ext o2 (w7.alloc (.cells #[I Z tp] 3)).heap.size (l.id,5)) w8) (a:=⟨l.h,14,none⟩) (by show ext o2 _ _ l.h=_;rw[qj (jH7.alloc (.cells #[I Z tp] 3)).lt];exact oh7.out) (.slice pa (H.Az.length+1) cp)
   have s8:Stp (fun t=>t=(l.id,0)\/t=(l.id,5)\/t=(l.id,6)) o2 _ w7 _:=((Stp.of_below (T:=fun t=>t=(l.id,5)) (qa (qc w7) (.cells #[I Z tp] 3))).trans hst |>.mono (by rintro _ rfl;simp)).trans (k8.mono (by rintro _ rfl;simp))
   refine⟨rfl,HFin.out _ _ _ _ (by rw[HCells.out];exact jH8.set 14 _) ?_ ?_ s8⟩
   ·rw[wT hwk];simpa [nv] using hown.Ao k8 (by simp)
   ·rw[fF (HWk.out hwk).2.2];exact ((Row.below RF7.out (qa (qc w7) _)).Ao hst (by simp)).Ao k8 (by simp)
theorem Gj (h0:AE w o l H vc vo vw vf f) (hF:H.wf) (hu:H.use=true) (s:B3) (hs:s.ok) (hr:H.roomy s=true) :
  Ab Tryz.prog 167 #[Ag (some ⟨l.h,0,none⟩),ka s] w fun e w'=>e=O (Aj #[I Z H.top,I Z 0])/\NZ w o l (H.lay s) w':=by
 obtain⟨o1,ho1⟩:∃ o1,o1=ext o w.heap.size (l.id+1,0):=⟨_,rfl⟩;have h:=h0.retag (o':=o1) fun b hb=>by rw[ho1];exact qj hb
 have hS0:Stp (zd l) o o1 w w:=by rw[ho1];exact (Stp.refl _ o w).ext _ _ (Qk _)
 have hbx:o1 w.heap.size=(l.id+1,0):=by rw[ho1];exact qp (Qk _)
 clear ho1 h0;have hk:=hF.ok;have hcl:H.cur.length<16384:=by
  have h1:=po _ _ _ hk.cl hk.ck;have h2:=hk.room;have h3:=hk.sz;omega
 have hHF:=Qa hF;have hHr:=Qa hr;have hHz:=Qa hs;unfold Hp.roomy Hp.left at hr;simp only[Bool.and_eq_true,decide_eq_true_eq]at hr;obtain⟨hr,hser⟩:=hr;have hlf:(H.left:Nat)=H.base H.use+H.size-H.top-H.Bc:=rfl;have hHs:=Qa hser;clear hF;have hb:=h.Fj hu;have htop:=vj hk;have hroom:=hk.room;rw[Hp.Hg hu]at htop hroom hr hlf;have hrd:=zz (3+s.p+s.d) (by obtain⟨h1,h2,_⟩:=hs;omega)
 have hsz:=hk.sz;have hfit:H.top+Bo (3+s.p+s.d)+H.Bc<=1+H.size+H.size:=by omega
 have HR:=Qa (fun w' (hw:Ae w.heap.size w w')=>Sr (h.below hw) hk)
 have HS:=Qa (fun w=>xd s hs w)
 have HN:=Qa (fun w=>uu (3+s.p+s.d) (by omega) (by obtain⟨h1,h2,_⟩:=hs;omega) _ rfl w)
 have HT:=(fun w=>Rh (b:=1+H.size) (s:=H.size) (t:=H.top) ⟨by omega,by omega,by omega,by omega⟩ (3+s.p+s.d) (by omega) (by obtain⟨h1,h2,_⟩:=hs;omega) (by omega) _ rfl w)
 unfold Dg at HT;rw[show ((1+H.size:Nat):Int)=1+(H.size:Int) from by omega]at HT
 replace HT:=Qa HT;have hng:¬((Bo (3+s.p+s.d):Nat):Int) > ((H.left:Nat):Int):=by omega
 have hse:(H.Ax:Int)<1099511627776:=by omega
 have hHI:=Qa h;have hHK:=Qa hk;generalize hzz:Bo (3+s.p+s.d)=rn at *;generalize H.left=Ee at HR hng;clear h hk hr hser hlf;have hse0:(0:Int)<=(H.Ax:Int):=by omega
 have hss:((H.Ax+1:Nat):Int)=(H.Ax:Int)+1:=by omega
 generalize hE1:(H.Ax:Int)=srl at hb hse hse0 hss;generalize hE2:H.size=sz at hb hsz HT htop hroom hfit;generalize hE3:H.top=tp at hb HT htop hroom hfit ⊢;generalize hE4:H.BD=otp at hb;generalize hE5:H.Bc=owd at hb hroom hfit;generalize hE6:H.scan=Ci at hb;generalize hE7:H.AF=mvg at hb;go_enter Tryz.func167,Tryz.ntmps167;have jS:=Am.new w #[I Z s.p,I Z s.d,.bool s.Az,.bool s.final] 93;have cS:=jS.cell;go_wp2_with fail;refine (HS.out _).mono ?_
 rintro e w1 ⟨rfl,hb1⟩
 have hw1:=qd (qa (qc w) _) hb1;have jS1:=jS.below hb1 jS.lt;clear hb1 cS;go_wp2_with fail;refine (HN.out _).mono ?_
 rintro e w2 ⟨rfl,hb2⟩
 have hw2:=qd hw1 hb2;have jS2:=jS1.below hb2 jS1.lt;go_wp2_with fail;refine (HR.out _ hw2).mono ?_
 rintro e w3 ⟨rfl,hb3⟩
 have hw3:=qd hw2 hb3;have jS3:=jS2.below hb3 jS2.lt;have jH3:=hb.below hw3 hb.lt;have cH:=jH3.cell;go_upto_region 7 with fail;have sH:=jH3.lt;clear jS2 jS1 hb3 hb2 HR HS HN;go_cut [7,10,11] (fun t7 t10 t11 wx=>∃ B,t10=Ag (some ⟨B,0,none⟩)/\t11=I Z tp/\t7=.bool true/\Am wx B #[I Z (1+(sz:Int)),I Z sz,I Z ((tp+rn:Nat):Int)] 181/\Ae w3.heap.size w3 wx/\w3.heap.size<=B)
 case first =>
  go_region_with (first|(go_at_call 228;refine (HT.out _).mono ?_;rintro e w4 ⟨rfl,hb4⟩;try (have jB4:Am w4 w3.heap.size #[I Z 0,I Z 0,I Z 0] 181:=Am.below (qi (Am.new w3 _ _)) hb4 (by simp);have cB4:=jB4.cell;have zB4:=jB4.free;have sB4:=jB4.lt))|fail)
  all_goals
   go_wp2_with fail;go_meet;first
    | exact⟨_,rfl,rfl,rfl,Am.Aq _ _ _ _ _ rfl (by simp),qa (qd (qe (qc w3)) hb4) _,hb4.size⟩
    | exact⟨w3.heap.size,rfl,rfl,rfl,by simpa using ((jB4.set 0 _).set 1 _).set 2 _,qo (qo (qo (qd (qe (qa (qc w3) _)) hb4) (Qk _) _) (Qk _) _) (Qk _) _,Qk _⟩
 case rest =>
  clear cH sH HT;obtain⟨B,rfl,rfl,rfl,jB,hbw,hBge⟩:=hcut;have hw3s:=hw3.size;obtain⟨tr,htr⟩:∃ tr:Nat,tr=tp+rn:=⟨_,rfl⟩;rw[<-htr]at jB;replace htr:=Qa htr;have jHc:=jH3.below hbw jH3.lt;have jSc:=jS3.below hbw jS3.lt;have hwc:=qd hw3 hbw;have HM:=Qa (VA (hHI.out.B5.below (qe hwc)) s hs (at':=tp) (by have:=zz (3+s.p+s.d) (by obtain⟨h1,h2,_⟩:=hs;omega);rw[hE2];omega) (H.Ax+1) (by have:=hHs.out;omega) _ _ rfl hss.symm)
  clear jH3 jS3 hbw hw3;have cH:=jHc.cell;have cS:=jSc.cell;have sB:=jB.lt;go_upto_region 10 with fail;go_still_tail 11,(by kernel_rfl)
  change wpList _ _ _ _ _ wc.drew;go_wp2_with fail;refine HM.out.mono ?_
  rintro e w5 ⟨rfl,hT⟩
  have nwd:l.h≠l.wd:=fun e=>by have h1:=hHI.out.oh;rw[e,hHI.out.ow]at h1;cases h1
  have lwd:=hHI.out.B5.lt;have jH5:=(qi jHc).wr hT.2 nwd;have jS5:=(qi jSc).wr hT.2 (by omega)
  have jB5:=(qi jB).wr hT.2 (by omega)
  have S5:Stp (fun t=>t=(l.id,2)) o1 o1 w w5:=(Stp.of_below (qe hwc)).trans (Stp.BR hT.2 hHI.out.ow)
  clear jHc jSc jB HM cH cS sB;have cH:=jH5.cell;have zH:=jH5.free;have cS:=jS5.cell;have sB:=jB5.lt;have sS:=jS5.lt;have cB:=jB5.cell;have neB:B≠l.h:=by have:=hHI.out.hb.lt;omega
  have neS:w.heap.size≠l.h:=by have:=hHI.out.hb.lt;omega
  go_wp2_with fail;obtain⟨w6,hw6⟩:∃ w6:Aa,w6=w5.setCell ⟨l.h,13,none⟩ (I Z (srl+1)):=⟨_,rfl⟩;rw[<-hw6];have S6:Stp (fun t=>t=(l.id,2)\/t=(l.id,0)) o1 o1 w w6:=by
   rw[hw6];exact Stp.setCell (T:=fun t=>t=(l.id,2)\/t=(l.id,0)) (S5.mono fun _ e=>Or.inl e) (Or.inr hHI.out.oh) _
  have jH6:Am w6 l.h #[Ag (some ⟨l.a,0,none⟩),I Z 1,I Z sz,I Z otp,I Z (1+(sz:Int)),I Z sz,I Z tp,vo,vc,I Z 1,.bool mvg,I Z owd,I Z Ci,I Z (srl+1),vw,vf] 185:=by rw[hw6];exact jH5.set 13 _
  have jS6:Am w6 w.heap.size #[I Z s.p,I Z s.d,.bool s.Az,.bool s.final] 93:=by rw[hw6];exact jS5.An neS _
  have R6:Row w6 o1 (l.id,4) 3 1 vc H.cur.length (H.cur.map fun x=>nv x.1):=by
   have:=hHI.out.rc;rw[hu]at this;exact this.Ao S6 (by simp)
  refine (UC jH6 R6 hcl hHI.out.oh (by simp) tp tr).mono ?_
  rintro e w7 ⟨rfl,vc',o2,jH7,R7,S7⟩
  have jS7:=jS6.Ao S7 (by rw[hbx];simp)
  have S07:=(S6.mono (U:=zd l) (by rintro _ (rfl|rfl)<;>simp[zd])).trans (S7.mono (by rintro _ (rfl|rfl)<;>simp[zd]))
  have W7:BF w7 l.a l.wd (2*H.size+1) (yv f tp s (H.Ax+1)):=by
   have h6:BF w6 l.a l.wd (2*H.size+1) (yv f tp s (H.Ax+1)):=by rw[hw6];exact (hE2▸hT.1:BF w5 l.a l.wd (2*H.size+1) (yv f tp s (H.Ax+1))).Ao (Stp.setCell (T:=fun t=>t=(l.id,0)) (Stp.refl _ o1 w5) hHI.out.oh _) (by rw[hHI.out.oa];simp) (by rw[hHI.out.ow];simp)
   exact h6.Ao S7 (by rw[hHI.out.oa];simp) (by rw[hHI.out.ow];simp)
  have RO7:Row w7 o2 (l.id,3) 3 1 vo H.old.length (H.old.map fun x=>nv x.1):=by
   have:=hHI.out.ro;rw[hu]at this;exact (this.Ao S6 (by simp)).Ao S7 (by simp)
  have RW7:=(hHI.out.rw.Ao S6 (by simp)).Ao S7 (by simp)
  have RF7:=(hHI.out.rf.Ao S6 (by simp)).Ao S7 (by simp)
  have hbx6:w.heap.size<w6.heap.size:=jS6.lt;have S7t:=S7.tags;clear hw6 jH6 jS6 R6 S6 S5 jH5 jS5 jB5 cH zH cS sB sS cB S7 hT neB nwd;have cH:=jH7.cell;have zH:=jH7.free;have sH:=jH7.lt;have cS:=jS7.cell;have sS:=jS7.lt;have hbx7:o2 w.heap.size=(l.id+1,0):=by rw[S7t _ hbx6];exact hbx
  have T7:∀ b,b<w.heap.size->o2 b=o1 b:=fun b hb=>S07.tags b hb
  obtain⟨iI,hi,hsI,hyI,hzI⟩:=zi;have hu64:=Tryz.underlying25;have hwl:H.Az.length+1<=maxLen/\(H.Az.length+1)*8<=140737488355328:=si (Qo hHF.out.wl (by have:=hHs.out;omega))
  have hfl:H.final.length+1<=maxLen/\(H.final.length+1)*8<=140737488355328:=si (Qo hHF.out.fl (by have:=hHs.out;omega))
  have HWk:=Qa hs.2.2;have HFin:=Qa (fun (w9:Aa) (o9:Own) (vw' vf':Ac) (hb:Am w9 l.h ((H.lay s).cells l.a vc' vo vw' vf') 185) (rw':Row w9 o9 (l.id,5) 3 1 vw' (H.lay s).Az.length ((H.lay s).Az.map nv)) (rf:Row w9 o9 (l.id,6) 3 1 vf' (H.lay s).final.length ((H.lay s).final.map nv))
    (S:Stp (fun t=>t=(l.id,0)\/t=(l.id,5)\/t=(l.id,6)) o2 o9 w7 w9) =>
   show NZ w o l (H.lay s) w9 from
    ⟨vc',vo,vw',vf',_,o9,hHI.out.DC hHF.out s hHz.out hHr.out hb (by
      have:=W7.Ao S (by rw[T7 _ hHI.out.B5.B2.lt,hHI.out.oa];simp) (by rw[T7 _ hHI.out.B5.lt,hHI.out.ow];simp)
      rw[hE3];exact this) (by have:=R7.Ao S (by simp);rw[hE3,hu];exact this) (by rw[hu];exact RO7.Ao S (by simp)) rw' rf
      (fun b hb=>(S.tags b (Qn hb S07.size)).trans (T7 b hb)),(hS0.trans S07).trans (S.mono (by rintro _ (rfl|rfl|rfl)<;>simp[zd]))⟩)
  have HCells:=Qa (show ∀ vw' vf',(H.lay s).cells l.a vc' vo vw' vf'=#[Ag (some ⟨l.a,0,none⟩),I Z 1,I Z sz,I Z otp,I Z (1+(sz:Int)),I Z sz,I Z tr,vo,vc',I Z 1,.bool mvg,I Z owd,I Z Ci,I Z (srl+1),vw',vf'] from fun vw' vf'=>by
   unfold Hp.cells Hp.lay;simp only[hu];rw[if_pos trivial,hE2,hE3,hE4,hE5,hE6,hE7,htr.out,hss,hzz])
  clear W7 R7 RO7 hs;have oh7:o2 l.h=(l.id,0):=(T7 _ hHI.out.hb.lt).trans hHI.out.oh;have wF:s.Az=false->(H.lay s).Az=H.Az:=fun e=>by unfold Hp.lay;simp[e]
  have wT:s.Az=true->(H.lay s).Az=H.Az++[H.top]:=fun e=>by unfold Hp.lay;simp[e]
  have fF:s.final=false->(H.lay s).final=H.final:=fun e=>by unfold Hp.lay;simp[e]
  have fT:s.final=true->(H.lay s).final=H.final++[H.top]:=fun e=>by unfold Hp.lay;simp[e]
  rw[hE3]at wT fT;replace hwl:=Qa hwl;replace hfl:=Qa hfl;replace RW7:=Qa RW7;replace RF7:=Qa RF7;replace hbx7:=Qa hbx7;replace oh7:=Qa oh7
  cases hwk:s.Az
  ·rw[hwk]at jS7
   cases hfn:s.final
   ·rw[hfn]at jS7
    have cS:=jS7.cell;go_wp2_with fail;go_ret2;exact⟨rfl,HFin.out w7 o2 vw vf (by rw[HCells.out];exact jH7) (by rw[wF hwk];exact RW7.out) (by rw[fF hfn];exact RF7.out) (Stp.refl _ _ _)⟩
   ·rw[hfn]at jS7
    have cS:=jS7.cell;go_wp2_with (first|(at_builtin;refine qf _ rfl _ _ _ rfl 3 iI _ 1 8 hu64 hi hzI hsI hyI rfl (by decide) o2 (l.id,6) _ _ _ rfl (Row.below RF7.out (qa (qc w7) _)) ⟨w7.heap.size,0,none⟩ 1 1 [I Z tp] rfl rfl (qx (Am.new w7 _ _)) zw hfl.out.1 hfl.out.2 ?_;intro v' w8 hown hst;obtain⟨pa,cp,rfl⟩:=hown.AY;have jH8:=(jH7.alloc (.cells #[I Z tp] 3)).Ao hst (by rw[oh7.out];simp);have jS8:=(jS7.alloc (.cells #[I Z tp] 3)).Ao hst (by rw[hbx7.out];simp);have cH8:=jH8.cell;have zH8:=jH8.free;have sH8:=jH8.lt;have cS8:=jS8.cell;have sS8:=jS8.lt)|fail)
    go_ret2;have k8:=Stp.setCell (T:=fun t=>t=(l.id,0)) (Stp.refl _ (ext o2 (w7.alloc (.cells #[I Z tp] 3)).heap.size (l.id,6)) w8) (a:=⟨l.h,15,none⟩) (by show ext o2 _ _ l.h=_;rw[qj (jH7.alloc (.cells #[I Z tp] 3)).lt];exact oh7.out) (.slice pa (H.final.length+1) cp)
    have s8:Stp (fun t=>t=(l.id,0)\/t=(l.id,5)\/t=(l.id,6)) o2 _ w7 _:=((Stp.of_below (T:=fun t=>t=(l.id,6)) (qa (qc w7) (.cells #[I Z tp] 3))).trans hst |>.mono (by rintro _ rfl;simp)).trans (k8.mono (by rintro _ rfl;simp))
    refine⟨rfl,HFin.out _ _ _ _ (by rw[HCells.out];exact jH8.set 15 _) ?_ ?_ s8⟩
    ·rw[wF hwk];exact ((Row.below RW7.out (qa (qc w7) _)).Ao hst (by simp)).Ao k8 (by simp)
    ·rw[fT hfn];simpa [nv] using hown.Ao k8 (by simp)
  ·rw[hwk,(HWk.out hwk).2.2]at jS7
   have cS:=jS7.cell;go_wp2_with (first|(at_builtin;refine qf _ rfl _ _ _ rfl 3 iI _ 1 8 hu64 hi hzI hsI hyI rfl (by decide) o2 (l.id,5) _ _ _ rfl (Row.below RW7.out (qa (qc w7) _)) ⟨w7.heap.size,0,none⟩ 1 1 [I Z tp] rfl rfl (qx (Am.new w7 _ _)) zw hwl.out.1 hwl.out.2 ?_;intro v' w8 hown hst;obtain⟨pa,cp,rfl⟩:=hown.AY;have jH8:=(jH7.alloc (.cells #[I Z tp] 3)).Ao hst (by rw[oh7.out];simp);have jS8:=(jS7.alloc (.cells #[I Z tp] 3)).Ao hst (by rw[hbx7.out];simp);have cH8:=jH8.cell;have zH8:=jH8.free;have sH8:=jH8.lt;have cS8:=jS8.cell;have sS8:=jS8.lt)|fail)
   go_ret2;have k8:=Stp.setCell (T:=fun t=>t=(l.id,0)) (Stp.refl _ (ext o2 (w7.alloc (.cells #[I Z tp] 3)).heap.size (l.id,5)) w8) (a:=⟨l.h,14,none⟩) (by show ext o2 _ _ l.h=_;rw[qj (jH7.alloc (.cells #[I Z tp] 3)).lt];exact oh7.out) (.slice pa (H.Az.length+1) cp)
   have s8:Stp (fun t=>t=(l.id,0)\/t=(l.id,5)\/t=(l.id,6)) o2 _ w7 _:=((Stp.of_below (T:=fun t=>t=(l.id,5)) (qa (qc w7) (.cells #[I Z tp] 3))).trans hst |>.mono (by rintro _ rfl;simp)).trans (k8.mono (by rintro _ rfl;simp))
   refine⟨rfl,HFin.out _ _ _ _ (by rw[HCells.out];exact jH8.set 14 _) ?_ ?_ s8⟩
   ·rw[wT hwk];simpa [nv] using hown.Ao k8 (by simp)
   ·rw[fF (HWk.out hwk).2.2];exact ((Row.below RF7.out (qa (qc w7) _)).Ao hst (by simp)).Ao k8 (by simp)
theorem AE.Fb (h:AE w o l H vc vo vw vf f){w':Aa}(hb:Ae w.heap.size w w'):NZ w o l H w':=⟨vc,vo,vw,vf,f,o,h.below hb,Stp.of_below hb⟩
theorem XS (h:AE w o l H vc vo vw vf f)(hk:H.ok)(s:B3)(hs:s.ok)(hr:H.roomy s=false) :
  Ab Tryz.prog 167 #[Ag (some ⟨l.h,0,none⟩),ka s] w fun e w'=>e=O (Aj #[I Z 0,I Z 100])/\Ae w.heap.size w w':=by
 have hser:=hk.Bt;have hrd:=zz (3+s.p+s.d) (by obtain⟨h1,h2,_⟩:=hs;omega)
 have HR:=Qa (fun w' (hw:Ae w.heap.size w w')=>Sr (h.below hw) hk)
 have HS:=Qa (fun w=>xd s hs w)
 have HN:=Qa (fun w=>uu (3+s.p+s.d) (by omega) (by obtain⟨h1,h2,_⟩:=hs;omega) _ rfl w)
 have QB:∀ w',Ae w.heap.size w w'->w'.cell? ⟨l.h,13,none⟩=some (I Z H.Ax):=fun w' hb=>by
  rw[(h.hb.below hb h.hb.lt).cell];unfold Hp.cells;split<;>rfl
 have HC:=Qa QB;unfold Hp.roomy at hr;have hd:((H.left:Nat):Int)<((Bo (3+s.p+s.d):Nat):Int)\/(¬((H.left:Nat):Int)<((Bo (3+s.p+s.d):Nat):Int)/\(1099511627776:Int)<=(H.Ax:Int)):=by
  simp only[Bool.and_eq_false_iff,decide_eq_false_iff_not]at hr;omega
 generalize ((H.left:Nat):Int)=q at HR hd;generalize ((Bo (3+s.p+s.d):Nat):Int)=rn at HN hd;generalize (H.Ax:Int)=sr at *;clear h hk hr hser hrd QB;rcases hd with hng|⟨hng,hse⟩
 all_goals
  go_enter Tryz.func167,Tryz.ntmps167;have jS:=Am.new w #[I Z s.p,I Z s.d,.bool s.Az,.bool s.final] 93;have cS:=jS.cell;go_wp2_with fail;refine (HS.out _).mono ?_
  rintro e w1 ⟨rfl,hb1⟩
  have hw1:=qd (qa (qc w) _) hb1;clear hb1 cS;go_wp2_with fail;refine (HN.out _).mono ?_
  rintro e w2 ⟨rfl,hb2⟩
  have hw2:=qd hw1 hb2;go_wp2_with fail;refine (HR.out _ hw2).mono ?_
  rintro e w3 ⟨rfl,hb3⟩
  have QB:=HC.out _ (qd hw2 hb3);go_wp2_with fail;go_ret2;exact⟨rfl,qd hw2 hb3⟩
theorem WX (h:AE w o l H vc vo vw vf f)(hw:H.wf)(s:B3)(hs:s.ok) :
  Ab Tryz.prog 167 #[Ag (some ⟨l.h,0,none⟩),ka s] w fun e w'=>e=O (Aj #[I Z ((H.AM s).2.1:Nat),I Z ((H.AM s).2.2:Nat)])/\NZ w o l (H.AM s).1 w':=by
 unfold Hp.AM
 cases hr:H.roomy s with
 | false =>
  rw[if_neg (by simp)]
  refine (XS h hw.ok s hs hr).mono ?_
  rintro e w' ⟨rfl,hb⟩
  exact⟨rfl,h.Fb hb⟩
 | true =>
  rw[if_pos rfl]
  cases hu:H.use
  ·exact Jv h hw hu s hs hr
  ·exact Gj h hw hu s hs hr
end
end Go.Proofs.YteehgedabdchcaaGreat
