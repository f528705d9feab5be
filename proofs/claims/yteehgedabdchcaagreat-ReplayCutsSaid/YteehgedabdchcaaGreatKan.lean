import Derived.Test.YteehgedabdchcaaGreatKam
set_option linter.all false
set_option maxRecDepth 1000000
set_option maxHeartbeats 0
open Go renaming World->Aa,Calls->Ab,Value->Ac
open Go.RowKit renaming Below->Ae
open Go.Value renaming int->I,pointer->Ag,tuple->Aj,agg->Ak
open Go.IntKind renaming i64->Z
open Go.Ending renaming returned->O
open Bool renaming and_eq_true->Ad
open Go.Proofs.Tryz
open Go.Proofs.Tryz renaming prog->ARt
open Go.Obj renaming cells->ARu
namespace Go.Proofs.YteehgedabdchcaaGreat
open Go.RowKit Hp
attribute [local go_sem ↓] Go.wp_at_zero Go.wp_at_succ
def QJ {n:Nat}(h:n<=4096):n+1<=maxLen/\(n+1)*8<=140737488355328:=by
 simp only[maxLen];omega
def Tn {n:Nat}(h:n<=1099511627776):n+1<=maxLen/\(n+1)*8<=140737488355328:=by
 simp only[maxLen];omega
section
variable {w : Aa} {o : Own} {l : A7} {H : Hp} {vc vo vw vf : Ac} {f : Nat -> Nat}
def AA.E8 (h:AA w o l H vc vo vw vf f)(hu:H.use=true):Al w l.h #[Ag (some ⟨l.a,0,none⟩),I Z 1,I Z H.size,I Z H.Bv,I Z (1+(H.size:Int)),I Z H.size,I Z H.top,vo,vc,I Z 1,.bool H.AD,I Z H.Bh,I Z H.scan,I Z H.Aw,vw,vf] 185:=by
 have hb:=h.hb;unfold Hp.cells at hb;rw[hu,if_pos rfl]at hb;exact hb
def Hp.F4 {H:Hp}(hu:H.use=false):H.base H.use=1:=by rw[hu];rfl
def Hp.F5 {H:Hp}(hu:H.use=true):H.base H.use=1+H.size:=by rw[hu];rfl
def Na (h:AA w o l H vc vo vw vf f) (hk:H.ok) (hu:H.use=false) :
  Ab ARt 156 #[Ag (some ⟨l.h,0,none⟩)] w fun e w'=>e=O (I Z (H.left:Nat))/\Ae w.1.size w w':=by
 have hb:=h.Em hu;have htop:=ww hk;have hroom:=hk.room;have hs:=hk.sz;unfold Hp.left;rw[Hp.F4 hu]at htop hroom ⊢;obtain⟨sz,use,cur,top,mv,old,Bv,Bh,scan,Aw,Az,final⟩:=H;simp only at hb hs htop hroom ⊢;have HL:=Qa (fun w=>UQ (b:=1) (s:=sz) (t:=top) ⟨by omega,by omega,by omega,by omega⟩ w)
 obtain⟨r,hr⟩:∃ r:Nat,r=1+sz-top:=⟨_,rfl⟩;obtain⟨q,hq⟩:∃ q:Nat,q=1+sz-top-Bh:=⟨_,rfl⟩;have e1:IntKind.i64.wrap ((r:Int)-(Bh:Int))=(q:Int):=by rw[IntWalk.i64_in _ (by omega)];omega
 rw[<-hr]at HL;rw[<-hq];have HL:=Qa (show ∀ w:Aa,Ab ARt 219 #[Ak #[I Z 1,I Z sz,I Z top]] w fun e w'=>e=O (I Z r)/\Ae w.1.size w w' from by have:=HL.out;unfold CW at this;exact this)
 clear h hk hu hr hq htop hroom hs;have lA:=fun (e:Later w) (i:Nat)=>Later.cell hb e i
 go_enter func156,ntmps156;have cc:=hb.cell;go_upto_region 3 with fail;clear cc;refine zr (by kernel_rfl) (by kernel_rfl) ?_
 repeat (go_big_quiet_step ((go_at_call 219;exact we (HL.out _))))
 refine wpQuiet_nil ?_
 rintro _ ⟨⟨wt,hbt⟩,rfl⟩
 go_wp2_with fail;go_ret;exact⟨rfl,hbt⟩
def Nb (h:AA w o l H vc vo vw vf f) (hk:H.ok) (hu:H.use=true) :
  Ab ARt 156 #[Ag (some ⟨l.h,0,none⟩)] w fun e w'=>e=O (I Z (H.left:Nat))/\Ae w.1.size w w':=by
 have hb:=h.E8 hu;have htop:=ww hk;have hroom:=hk.room;have hs:=hk.sz;unfold Hp.left;rw[Hp.F5 hu]at htop hroom ⊢;obtain⟨sz,use,cur,top,mv,old,Bv,Bh,scan,Aw,Az,final⟩:=H;simp only at hb hs htop hroom ⊢;have HL:=Qa (fun w=>UQ (b:=1+sz) (s:=sz) (t:=top) ⟨by omega,by omega,by omega,by omega⟩ w)
 obtain⟨r,hr⟩:∃ r:Nat,r=1+sz+sz-top:=⟨_,rfl⟩;obtain⟨q,hq⟩:∃ q:Nat,q=1+sz+sz-top-Bh:=⟨_,rfl⟩;have e1:IntKind.i64.wrap ((r:Int)-(Bh:Int))=(q:Int):=by rw[IntWalk.i64_in _ (by omega)];omega
 rw[<-hr]at HL;rw[<-hq];have HL:=Qa (show ∀ w:Aa,Ab ARt 219 #[Ak #[I Z (1+(sz:Int)),I Z sz,I Z top]] w fun e w'=>e=O (I Z r)/\Ae w.1.size w w' from by have:=HL.out;unfold CW at this;rw[show ((1+sz:Nat):Int)=1+(sz:Int) from by omega]at this;exact this)
 clear h hk hu hr hq htop hroom hs;have lA:=fun (e:Later w) (i:Nat)=>Later.cell hb e i
 go_enter func156,ntmps156;have cc:=hb.cell;go_upto_region 3 with fail;clear cc;refine zr (by kernel_rfl) (by kernel_rfl) ?_
 repeat (go_big_quiet_step ((go_at_call 219;exact we (HL.out _))))
 refine wpQuiet_nil ?_
 rintro _ ⟨⟨wt,hbt⟩,rfl⟩
 go_wp2_with fail;go_ret;exact⟨rfl,hbt⟩
def UX (h:AA w o l H vc vo vw vf f)(hk:H.ok) :
  Ab ARt 156 #[Ag (some ⟨l.h,0,none⟩)] w fun e w'=>e=O (I Z (H.left:Nat))/\Ae w.1.size w w':=by
 cases hu:H.use
 ·exact Na h hk hu
 ·exact Nb h hk hu
def AA.Dk (h:AA w o l H vc vo vw vf f) (hw0:H.wf) (s:BX) (hs:s.ok) (hroom:H.roomy s=true) {w':Aa} {o':Own} {bM gF eZ:Ac}
  (hb:Al w' l.h ((H.lay s).cells l.a bM vo gF eZ) 185) (hw:BB w' l.a l.wd (2*H.size+1) (pi f H.top s (H.Aw+1)))
  (rc:Row w' o' (l.tc H.use) 3 1 bM (H.cur.length+1) ((H.cur.map fun x=>nv x.1)++[nv H.top])) (ro:Row w' o' (l.to' H.use) 3 1 vo H.old.length (H.old.map fun x=>nv x.1))
  (rw':Row w' o' (l.id,5) 3 1 gF (H.lay s).Az.length ((H.lay s).Az.map nv)) (rf:Row w' o' (l.id,6) 3 1 eZ (H.lay s).final.length ((H.lay s).final.map nv))
  (ht:∀ b,b<w.1.size->o' b=o b):AA w' o' l (H.lay s) bM vo gF eZ (pi f H.top s (H.Aw+1)):=by
 have hk:=hw0.ok;unfold Hp.roomy Hp.left at hroom;simp only[Ad,decide_eq_true_eq]at hroom;have hrd:=kg (3+s.p+s.d) (by have:=hs.1;have:=hs.2.1;omega)
 have hr:=hk.room;have htop:=ww hk;have hsp:=Wx H;refine⟨hb,hw,?_,?_,rw',rf,(ht _ h.hb.lt).trans h.oh,(ht _ h.B6.BM.lt).trans h.oa,(ht _ h.B6.lt).trans h.ow,?_,?_⟩
 ·show Row w' o' (l.tc H.use) _ 1 bM (H.cur++[(H.top,Ob.new s (H.Aw+1))]).length ((H.cur++[(H.top,Ob.new s (H.Aw+1))]).map fun x=>nv x.1)
  simpa using rc
 ·exact ro
 ·intro x hx
  rcases Qs.1 (show x ∈ H.cur++[(H.top,Ob.new s (H.Aw+1))] from hx) with hx|hx
  ·refine (h.E0 x hx).of_eq (hk.ck x hx) fun j h1 h2=>dp _ _ _ _ _ (.inl ?_)
   have h3:=kf _ _ _ hk.cl x hx;have h4:=kg _ (Ob.AU (hk.ck x hx)).2;omega
  ·rw[Zc.1 hx];exact Bj.new _ _ _ _
 ·intro x hx
  obtain⟨k1,k2,k3⟩:=Ka hk hx;have h4:=kg _ (Ob.AU k1).2;have h5:=Ob.AU k1;refine⟨fun hn=>((h.BP x hx).1 hn).of_eq k1 fun j h1 h2=>dp _ _ _ _ _ (by omega),fun q hq=>?_⟩
  rw[dp _ _ _ _ _ (by omega)]
  exact (h.BP x hx).2 q hq
def RI (w:Aa)(o:Own)(l:A7)(H':Hp)(w':Aa):Prop:=∃ vc vo vw vf f o',AA w' o' l H' vc vo vw vf f/\Stp (zu l) o o' w w'
def FY (h0:AA w o l H vc vo vw vf f) (hF:H.wf) (hu:H.use=false) (s:BX) (hs:s.ok) (hr:H.roomy s=true) :
  Ab ARt 167 #[Ag (some ⟨l.h,0,none⟩),kw s] w fun e w'=>e=O (Aj #[I Z H.top,I Z 0])/\RI w o l (H.lay s) w':=by
 obtain⟨o1,ho1⟩:∃ o1,o1=ext o w.1.size (l.id+1,0):=⟨_,rfl⟩;have h:=h0.retag (o':=o1) fun b hb=>by rw[ho1];exact qr hb
 have hS0:Stp (zu l) o o1 w w:=by rw[ho1];exact (Stp.refl _ o w).ext _ _ (Qk _)
 have hbx:o1 w.1.size=(l.id+1,0):=by rw[ho1];exact qz (Qk _)
 clear ho1 h0;have hk:=hF.ok;have hcl:H.cur.length<16384:=by
  have h1:=mg _ _ _ hk.cl hk.ck;have h2:=hk.room;have h3:=hk.sz;omega
 have zD:=Qa hF;have hHr:=Qa hr;have hHz:=Qa hs;unfold Hp.roomy Hp.left at hr;simp only[Ad,decide_eq_true_eq]at hr;obtain⟨hr,gI⟩:=hr;have hlf:(H.left:Nat)=H.base H.use+H.size-H.top-H.Bh:=rfl;have zF:=Qa gI;clear hF;have hb:=h.Em hu;have htop:=ww hk;have hroom:=hk.room;rw[Hp.F4 hu]at htop hroom hr hlf;have hrd:=kg (3+s.p+s.d) (by obtain⟨h1,h2,_⟩:=hs;omega)
 have hsz:=hk.sz;have hfit:H.top+Bu (3+s.p+s.d)+H.Bh<=1+H.size:=by omega
 have HR:=Qa (fun w' (hw:Ae w.1.size w w')=>UX (h.below hw) hk)
 have HS:=Qa (fun w=>yg s hs w)
 have HN:=Qa (fun w=>pz (3+s.p+s.d) (by omega) (by obtain⟨h1,h2,_⟩:=hs;omega) _ rfl w)
 have HT:=(fun w=>UK (b:=1) (s:=H.size) (t:=H.top) ⟨by omega,by omega,by omega,by omega⟩ (3+s.p+s.d) (by omega) (by obtain⟨h1,h2,_⟩:=hs;omega) (by omega) _ rfl w)
 skip;replace HT:=Qa HT;have oU:¬((Bu (3+s.p+s.d):Nat):Int) > ((H.left:Nat):Int):=by omega
 have hse:(H.Aw:Int)<1099511627776:=by omega
 have hHI:=Qa h;have hHK:=Qa hk;generalize hzz:Bu (3+s.p+s.d)=rn at *;generalize H.left=D1 at HR oU;clear h hk hr gI hlf;have Aar:(0:Int)<=(H.Aw:Int):=by omega
 have hss:((H.Aw+1:Nat):Int)=(H.Aw:Int)+1:=by omega
 generalize hE1:(H.Aw:Int)=dE at hb hse Aar hss;generalize hE2:H.size=sz at hb hsz HT htop hroom hfit;generalize uU:H.top=tp at hb HT htop hroom hfit ⊢;generalize hE4:H.Bv=eT at hb;generalize hE5:H.Bh=dG at hb hroom hfit;generalize hE6:H.scan=Cd at hb;generalize hE7:H.AD=iC at hb;go_enter func167,ntmps167;have jS:=Al.new w #[I Z s.p,I Z s.d,.bool s.Az,.bool s.final] 93;have cS:=jS.cell;go_wp2_with fail;refine (HS.out _).mono ?_
 rintro e w1 ⟨rfl,hb1⟩
 have hw1:=qe (qc (qd w) _) hb1;have pK:=jS.below hb1 jS.lt;clear hb1 cS;go_wp2_with fail;refine (HN.out _).mono ?_
 rintro e w2 ⟨rfl,hb2⟩
 have hw2:=qe hw1 hb2;have dF:=pK.below hb2 pK.lt;go_wp2_with fail;refine (HR.out _ hw2).mono ?_
 rintro e w3 ⟨rfl,hb3⟩
 have hw3:=qe hw2 hb3;have iP:=dF.below hb3 dF.lt;have rY:=hb.below hw3 hb.lt;have cH:=rY.cell;go_upto_region 7 with fail;have sH:=rY.lt;clear dF pK hb3 hb2 HR HS HN;go_cut [7,10,11] (fun t7 t10 t11 wx=>∃ B,t10=Ag (some ⟨B,0,none⟩)/\t11=I Z tp/\t7=.bool true/\Al wx B #[I Z 1,I Z sz,I Z ((tp+rn:Nat):Int)] 181/\Ae w3.1.size w3 wx/\w3.1.size<=B)
 case first =>
  go_region_with (first|(go_at_call 228;refine (HT.out _).mono ?_;rintro e w4 ⟨rfl,hb4⟩;try (have dL:Al w4 w3.1.size #[I Z 0,I Z 0,I Z 0] 181:=Al.below (qj (Al.new w3 _ _)) hb4 (by simp);have cB4:=dL.cell;have zB4:=dL.free;have sB4:=dL.lt))|fail)
  all_goals
   go_wp2_with fail;go_meet;first
    | exact⟨_,rfl,rfl,rfl,Al.Ap _ _ _ _ _ rfl (by simp),qc (qe (qf (qd w3)) hb4) _,hb4.size⟩
    | exact⟨w3.1.size,rfl,rfl,rfl,by simpa using ((dL.set 0 _).set 1 _).set 2 _,zc (zc (zc (qe (qf (qc (qd w3) _)) hb4) (Qk _) _) (Qk _) _) (Qk _) _,Qk _⟩
 case rest =>
  clear cH sH HT;obtain⟨B,rfl,rfl,rfl,jB,hbw,uS⟩:=hcut;have Apb:=hw3.size;obtain⟨tr,htr⟩:=Ja0 (tp+rn);rw[<-htr]at jB;replace htr:=Qa htr;have jO:=rY.below hbw rY.lt;have gL:=iP.below hbw iP.lt;have hwc:=qe hw3 hbw;have HM:=Qa (YK (hHI.out.B6.below (qf hwc)) s hs (at':=tp) (by have:=kg (3+s.p+s.d) (by obtain⟨h1,h2,_⟩:=hs;omega);rw[hE2];omega) (H.Aw+1) (by have:=zF.out;omega) _ _ rfl hss.symm)
  clear rY iP hbw hw3;have cH:=jO.cell;have cS:=gL.cell;have sB:=jB.lt;go_upto_region 10 with fail;go_still_tail 11,(by kernel_rfl)
  change wpList _ _ _ _ _ wc.drew;go_wp2_with fail;refine HM.out.mono ?_;rintro e w5 ⟨rfl,hT⟩;have nwd:l.h≠l.wd:=fun e=>by have h1:=hHI.out.oh;rw[e,hHI.out.ow]at h1;cases h1
  have lwd:=hHI.out.B6.lt;have vW:=(qj jO).wr hT.2 nwd;have vX:=(qj gL).wr hT.2 (by omega)
  have iO:=(qj jB).wr hT.2 (by omega)
  have S5:Stp (fun t=>t=(l.id,2)) o1 o1 w w5:=(Stp.of_below (qf hwc)).trans (Stp.BE hT.2 hHI.out.ow);clear jO gL jB HM cH cS sB;have cH:=vW.cell;have zH:=vW.free;have cS:=vX.cell;have sB:=iO.lt;have sS:=vX.lt;have cB:=iO.cell;have neB:B≠l.h:=by have:=hHI.out.hb.lt;omega
  have neS:w.1.size≠l.h:=by have:=hHI.out.hb.lt;omega
  go_wp2_with fail;obtain⟨w6,lW⟩:=Ja0 (w5.setCell ⟨l.h,13,none⟩ (I Z (dE+1)));rw[<-lW];have S6:Stp (fun t=>t=(l.id,2)\/t=(l.id,0)) o1 o1 w w6:=by
   rw[lW];exact Stp.setCell (T:=fun t=>t=(l.id,2)\/t=(l.id,0)) (S5.mono fun _ e=>Or.inl e) (Or.inr hHI.out.oh) _
  have pJ:Al w6 l.h #[Ag (some ⟨l.a,0,none⟩),I Z 1,I Z sz,I Z tp,I Z (1+(sz:Int)),I Z sz,I Z eT,vc,vo,I Z 0,.bool iC,I Z dG,I Z Cd,I Z (dE+1),vw,vf] 185:=by rw[lW];exact vW.set 13 _
  have jS6:Al w6 w.1.size #[I Z s.p,I Z s.d,.bool s.Az,.bool s.final] 93:=by rw[lW];exact vX.Am neS _
  have R6:Row w6 o1 (l.id,3) 3 1 vc H.cur.length (H.cur.map fun x=>nv x.1):=by
   have:=hHI.out.rc;rw[hu]at this;exact this.Ao S6 (by simp)
  refine (qm7 pJ R6 hcl hHI.out.oh (by simp) tp tr).mono ?_
  rintro e w7 ⟨rfl,bM,o2,jM,R7,S7⟩;have gK:=jS6.Ao S7 (by rw[hbx];simp)
  have yV:=(S6.mono (U:=zu l) (by rintro _ (rfl|rfl)<;>simp[zu])).trans (S7.mono (by rintro _ (rfl|rfl)<;>simp[zu]))
  have W7:BB w7 l.a l.wd (2*H.size+1) (pi f tp s (H.Aw+1)):=by
   have h6:BB w6 l.a l.wd (2*H.size+1) (pi f tp s (H.Aw+1)):=by rw[lW];exact (hE2▸hT.1:BB w5 l.a l.wd (2*H.size+1) (pi f tp s (H.Aw+1))).Ao (Stp.setCell (T:=fun t=>t=(l.id,0)) (Stp.refl _ o1 w5) hHI.out.oh _) (by rw[hHI.out.oa];simp) (by rw[hHI.out.ow];simp)
   exact h6.Ao S7 (by rw[hHI.out.oa];simp) (by rw[hHI.out.ow];simp)
  have RO7:Row w7 o2 (l.id,4) 3 1 vo H.old.length (H.old.map fun x=>nv x.1):=by
   have:=hHI.out.ro;rw[hu]at this;exact (this.Ao S6 (by simp)).Ao S7 (by simp)
  have rC:=(hHI.out.rw.Ao S6 (by simp)).Ao S7 (by simp)
  have rA:=(hHI.out.rf.Ao S6 (by simp)).Ao S7 (by simp)
  have Aac:w.1.size<w6.1.size:=jS6.lt;have S7t:=S7.tags;clear lW pJ jS6 R6 S6 S5 vW vX iO cH zH cS sB sS cB S7 hT neB nwd;have cH:=jM.cell;have zH:=jM.free;have sH:=jM.lt;have cS:=gK.cell;have sS:=gK.lt;have ik:o2 w.1.size=(l.id+1,0):=by rw[S7t _ Aac];exact hbx
  have T7:∀ b,b<w.1.size->o2 b=o1 b:=fun b hb=>yV.tags b hb;obtain⟨iI,hi,hsI,bZ,bT⟩:=jh;have hu64:=underlying25;have hwl:H.Az.length+1<=maxLen/\(H.Az.length+1)*8<=140737488355328:=Tn (Qo zD.out.wl (by have:=zF.out;omega))
  have hfl:H.final.length+1<=maxLen/\(H.final.length+1)*8<=140737488355328:=Tn (Qo zD.out.fl (by have:=zF.out;omega))
  have qZ:=Qa hs.2.2;have HFin:=Qa (fun (w9:Aa) (o9:Own) (gF eZ:Ac) (hb:Al w9 l.h ((H.lay s).cells l.a bM vo gF eZ) 185) (rw':Row w9 o9 (l.id,5) 3 1 gF (H.lay s).Az.length ((H.lay s).Az.map nv)) (rf:Row w9 o9 (l.id,6) 3 1 eZ (H.lay s).final.length ((H.lay s).final.map nv))
    (S:Stp (fun t=>t=(l.id,0)\/t=(l.id,5)\/t=(l.id,6)) o2 o9 w7 w9) =>
   show RI w o l (H.lay s) w9 from
    ⟨bM,vo,gF,eZ,_,o9,hHI.out.Dk zD.out s hHz.out hHr.out hb (by
      have:=W7.Ao S (by rw[T7 _ hHI.out.B6.BM.lt,hHI.out.oa];simp) (by rw[T7 _ hHI.out.B6.lt,hHI.out.ow];simp)
      rw[uU];exact this) (by have:=R7.Ao S (by simp);rw[uU,hu];exact this) (by rw[hu];exact RO7.Ao S (by simp)) rw' rf
      (fun b hb=>(S.tags b (Qn hb yV.size)).trans (T7 b hb)),(hS0.trans yV).trans (S.mono (by rintro _ (rfl|rfl|rfl)<;>simp[zu]))⟩)
  have dP:=Qa (show ∀ gF eZ,(H.lay s).cells l.a bM vo gF eZ=#[Ag (some ⟨l.a,0,none⟩),I Z 1,I Z sz,I Z tr,I Z (1+(sz:Int)),I Z sz,I Z eT,bM,vo,I Z 0,.bool iC,I Z dG,I Z Cd,I Z (dE+1),gF,eZ] from fun gF eZ=>by
   unfold Hp.cells Hp.lay;simp only[hu];rw[if_neg (by simp),hE2,uU,hE4,hE5,hE6,hE7,htr.out,hss,hzz])
  clear W7 R7 RO7 hs;have pQ:o2 l.h=(l.id,0):=(T7 _ hHI.out.hb.lt).trans hHI.out.oh;have wF:s.Az=false->(H.lay s).Az=H.Az:=fun e=>by unfold Hp.lay;simp[e]
  have wT:s.Az=true->(H.lay s).Az=H.Az++[H.top]:=fun e=>by unfold Hp.lay;simp[e]
  have fF:s.final=false->(H.lay s).final=H.final:=fun e=>by unfold Hp.lay;simp[e]
  have fT:s.final=true->(H.lay s).final=H.final++[H.top]:=fun e=>by unfold Hp.lay;simp[e]
  rw[uU]at wT fT;replace hwl:=Qa hwl;replace hfl:=Qa hfl;replace rC:=Qa rC;replace rA:=Qa rA;replace ik:=Qa ik;replace pQ:=Qa pQ
  cases hwk:s.Az
  ·rw[hwk]at gK
   cases hfn:s.final
   ·rw[hfn]at gK
    have cS:=gK.cell;go_wp2_with fail;go_ret2;exact⟨rfl,HFin.out w7 o2 vw vf (by rw[dP.out];exact jM) (by rw[wF hwk];exact rC.out) (by rw[fF hfn];exact rA.out) (Stp.refl _ _ _)⟩
   ·rw[hfn]at gK
    have cS:=gK.cell;go_wp2_with (first|(at_builtin;refine qi _ rfl _ _ _ rfl 3 iI _ 1 8 hu64 hi bT hsI bZ rfl (by decide) o2 (l.id,6) _ _ _ rfl (Row.below rA.out (qc (qd w7) _)) ⟨w7.1.size,0,none⟩ 1 1 [I Z tp] rfl rfl (zj (Al.new w7 _ _)) ka hfl.out.1 hfl.out.2 ?_;intro v' w8 hown hst;obtain⟨pa,cp,rfl⟩:=hown.AS;have iy:=(jM.alloc (ARu #[I Z tp] 3)).Ao hst (by rw[pQ.out];simp);have sD:=(gK.alloc (ARu #[I Z tp] 3)).Ao hst (by rw[ik.out];simp);have cH8:=iy.cell;have zH8:=iy.free;have sH8:=iy.lt;have cS8:=sD.cell;have sS8:=sD.lt)|fail)
    go_ret2;have k8:=Stp.setCell (T:=fun t=>t=(l.id,0)) (Stp.refl _ (ext o2 (w7.alloc (ARu #[I Z tp] 3)).1.size (l.id,6)) w8) (a:=⟨l.h,15,none⟩) (by show ext o2 _ _ l.h=_;rw[qr (jM.alloc (ARu #[I Z tp] 3)).lt];exact pQ.out) (.slice pa (H.final.length+1) cp)
    have s8:Stp (fun t=>t=(l.id,0)\/t=(l.id,5)\/t=(l.id,6)) o2 _ w7 _:=((Stp.of_below (T:=fun t=>t=(l.id,6)) (qc (qd w7) (ARu #[I Z tp] 3))).trans hst |>.mono (by rintro _ rfl;simp)).trans (k8.mono (by rintro _ rfl;simp))
    refine⟨rfl,HFin.out _ _ _ _ (by rw[dP.out];exact iy.set 15 _) ?_ ?_ s8⟩
    ·rw[wF hwk];exact ((Row.below rC.out (qc (qd w7) _)).Ao hst (by simp)).Ao k8 (by simp)
    ·rw[fT hfn];simpa [nv] using hown.Ao k8 (by simp)
  ·rw[hwk,(qZ.out hwk).2.2]at gK
   have cS:=gK.cell;go_wp2_with (first|(at_builtin;refine qi _ rfl _ _ _ rfl 3 iI _ 1 8 hu64 hi bT hsI bZ rfl (by decide) o2 (l.id,5) _ _ _ rfl (Row.below rC.out (qc (qd w7) _)) ⟨w7.1.size,0,none⟩ 1 1 [I Z tp] rfl rfl (zj (Al.new w7 _ _)) ka hwl.out.1 hwl.out.2 ?_;intro v' w8 hown hst;obtain⟨pa,cp,rfl⟩:=hown.AS;have iy:=(jM.alloc (ARu #[I Z tp] 3)).Ao hst (by rw[pQ.out];simp);have sD:=(gK.alloc (ARu #[I Z tp] 3)).Ao hst (by rw[ik.out];simp);have cH8:=iy.cell;have zH8:=iy.free;have sH8:=iy.lt;have cS8:=sD.cell;have sS8:=sD.lt)|fail)
   go_ret2;have k8:=Stp.setCell (T:=fun t=>t=(l.id,0)) (Stp.refl _ (ext o2 (w7.alloc (ARu #[I Z tp] 3)).1.size (l.id,5)) w8) (a:=⟨l.h,14,none⟩) (by show ext o2 _ _ l.h=_;rw[qr (jM.alloc (ARu #[I Z tp] 3)).lt];exact pQ.out) (.slice pa (H.Az.length+1) cp)
   have s8:Stp (fun t=>t=(l.id,0)\/t=(l.id,5)\/t=(l.id,6)) o2 _ w7 _:=((Stp.of_below (T:=fun t=>t=(l.id,5)) (qc (qd w7) (ARu #[I Z tp] 3))).trans hst |>.mono (by rintro _ rfl;simp)).trans (k8.mono (by rintro _ rfl;simp))
   refine⟨rfl,HFin.out _ _ _ _ (by rw[dP.out];exact iy.set 14 _) ?_ ?_ s8⟩
   ·rw[wT hwk];simpa [nv] using hown.Ao k8 (by simp)
   ·rw[fF (qZ.out hwk).2.2];exact ((Row.below rA.out (qc (qd w7) _)).Ao hst (by simp)).Ao k8 (by simp)
def FZ (h0:AA w o l H vc vo vw vf f) (hF:H.wf) (hu:H.use=true) (s:BX) (hs:s.ok) (hr:H.roomy s=true) :
  Ab ARt 167 #[Ag (some ⟨l.h,0,none⟩),kw s] w fun e w'=>e=O (Aj #[I Z H.top,I Z 0])/\RI w o l (H.lay s) w':=by
 obtain⟨o1,ho1⟩:∃ o1,o1=ext o w.1.size (l.id+1,0):=⟨_,rfl⟩;have h:=h0.retag (o':=o1) fun b hb=>by rw[ho1];exact qr hb
 have hS0:Stp (zu l) o o1 w w:=by rw[ho1];exact (Stp.refl _ o w).ext _ _ (Qk _)
 have hbx:o1 w.1.size=(l.id+1,0):=by rw[ho1];exact qz (Qk _)
 clear ho1 h0;have hk:=hF.ok;have hcl:H.cur.length<16384:=by
  have h1:=mg _ _ _ hk.cl hk.ck;have h2:=hk.room;have h3:=hk.sz;omega
 have zD:=Qa hF;have hHr:=Qa hr;have hHz:=Qa hs;unfold Hp.roomy Hp.left at hr;simp only[Ad,decide_eq_true_eq]at hr;obtain⟨hr,gI⟩:=hr;have hlf:(H.left:Nat)=H.base H.use+H.size-H.top-H.Bh:=rfl;have zF:=Qa gI;clear hF;have hb:=h.E8 hu;have htop:=ww hk;have hroom:=hk.room;rw[Hp.F5 hu]at htop hroom hr hlf;have hrd:=kg (3+s.p+s.d) (by obtain⟨h1,h2,_⟩:=hs;omega)
 have hsz:=hk.sz;have hfit:H.top+Bu (3+s.p+s.d)+H.Bh<=1+H.size+H.size:=by omega
 have HR:=Qa (fun w' (hw:Ae w.1.size w w')=>UX (h.below hw) hk)
 have HS:=Qa (fun w=>yg s hs w)
 have HN:=Qa (fun w=>pz (3+s.p+s.d) (by omega) (by obtain⟨h1,h2,_⟩:=hs;omega) _ rfl w)
 have HT:=(fun w=>UK (b:=1+H.size) (s:=H.size) (t:=H.top) ⟨by omega,by omega,by omega,by omega⟩ (3+s.p+s.d) (by omega) (by obtain⟨h1,h2,_⟩:=hs;omega) (by omega) _ rfl w)
 unfold CW at HT;rw[show ((1+H.size:Nat):Int)=1+(H.size:Int) from by omega]at HT
 replace HT:=Qa HT;have oU:¬((Bu (3+s.p+s.d):Nat):Int) > ((H.left:Nat):Int):=by omega
 have hse:(H.Aw:Int)<1099511627776:=by omega
 have hHI:=Qa h;have hHK:=Qa hk;generalize hzz:Bu (3+s.p+s.d)=rn at *;generalize H.left=D1 at HR oU;clear h hk hr gI hlf;have Aar:(0:Int)<=(H.Aw:Int):=by omega
 have hss:((H.Aw+1:Nat):Int)=(H.Aw:Int)+1:=by omega
 generalize hE1:(H.Aw:Int)=dE at hb hse Aar hss;generalize hE2:H.size=sz at hb hsz HT htop hroom hfit;generalize uU:H.top=tp at hb HT htop hroom hfit ⊢;generalize hE4:H.Bv=eT at hb;generalize hE5:H.Bh=dG at hb hroom hfit;generalize hE6:H.scan=Cd at hb;generalize hE7:H.AD=iC at hb;go_enter func167,ntmps167;have jS:=Al.new w #[I Z s.p,I Z s.d,.bool s.Az,.bool s.final] 93;have cS:=jS.cell;go_wp2_with fail;refine (HS.out _).mono ?_
 rintro e w1 ⟨rfl,hb1⟩
 have hw1:=qe (qc (qd w) _) hb1;have pK:=jS.below hb1 jS.lt;clear hb1 cS;go_wp2_with fail;refine (HN.out _).mono ?_
 rintro e w2 ⟨rfl,hb2⟩
 have hw2:=qe hw1 hb2;have dF:=pK.below hb2 pK.lt;go_wp2_with fail;refine (HR.out _ hw2).mono ?_
 rintro e w3 ⟨rfl,hb3⟩
 have hw3:=qe hw2 hb3;have iP:=dF.below hb3 dF.lt;have rY:=hb.below hw3 hb.lt;have cH:=rY.cell;go_upto_region 7 with fail;have sH:=rY.lt;clear dF pK hb3 hb2 HR HS HN;go_cut [7,10,11] (fun t7 t10 t11 wx=>∃ B,t10=Ag (some ⟨B,0,none⟩)/\t11=I Z tp/\t7=.bool true/\Al wx B #[I Z (1+(sz:Int)),I Z sz,I Z ((tp+rn:Nat):Int)] 181/\Ae w3.1.size w3 wx/\w3.1.size<=B)
 case first =>
  go_region_with (first|(go_at_call 228;refine (HT.out _).mono ?_;rintro e w4 ⟨rfl,hb4⟩;try (have dL:Al w4 w3.1.size #[I Z 0,I Z 0,I Z 0] 181:=Al.below (qj (Al.new w3 _ _)) hb4 (by simp);have cB4:=dL.cell;have zB4:=dL.free;have sB4:=dL.lt))|fail)
  all_goals
   go_wp2_with fail;go_meet;first
    | exact⟨_,rfl,rfl,rfl,Al.Ap _ _ _ _ _ rfl (by simp),qc (qe (qf (qd w3)) hb4) _,hb4.size⟩
    | exact⟨w3.1.size,rfl,rfl,rfl,by simpa using ((dL.set 0 _).set 1 _).set 2 _,zc (zc (zc (qe (qf (qc (qd w3) _)) hb4) (Qk _) _) (Qk _) _) (Qk _) _,Qk _⟩
 case rest =>
  clear cH sH HT;obtain⟨B,rfl,rfl,rfl,jB,hbw,uS⟩:=hcut;have Apb:=hw3.size;obtain⟨tr,htr⟩:=Ja0 (tp+rn);rw[<-htr]at jB;replace htr:=Qa htr;have jO:=rY.below hbw rY.lt;have gL:=iP.below hbw iP.lt;have hwc:=qe hw3 hbw;have HM:=Qa (YK (hHI.out.B6.below (qf hwc)) s hs (at':=tp) (by have:=kg (3+s.p+s.d) (by obtain⟨h1,h2,_⟩:=hs;omega);rw[hE2];omega) (H.Aw+1) (by have:=zF.out;omega) _ _ rfl hss.symm)
  clear rY iP hbw hw3;have cH:=jO.cell;have cS:=gL.cell;have sB:=jB.lt;go_upto_region 10 with fail;go_still_tail 11,(by kernel_rfl)
  change wpList _ _ _ _ _ wc.drew;go_wp2_with fail;refine HM.out.mono ?_;rintro e w5 ⟨rfl,hT⟩;have nwd:l.h≠l.wd:=fun e=>by have h1:=hHI.out.oh;rw[e,hHI.out.ow]at h1;cases h1
  have lwd:=hHI.out.B6.lt;have vW:=(qj jO).wr hT.2 nwd;have vX:=(qj gL).wr hT.2 (by omega)
  have iO:=(qj jB).wr hT.2 (by omega)
  have S5:Stp (fun t=>t=(l.id,2)) o1 o1 w w5:=(Stp.of_below (qf hwc)).trans (Stp.BE hT.2 hHI.out.ow);clear jO gL jB HM cH cS sB;have cH:=vW.cell;have zH:=vW.free;have cS:=vX.cell;have sB:=iO.lt;have sS:=vX.lt;have cB:=iO.cell;have neB:B≠l.h:=by have:=hHI.out.hb.lt;omega
  have neS:w.1.size≠l.h:=by have:=hHI.out.hb.lt;omega
  go_wp2_with fail;obtain⟨w6,lW⟩:=Ja0 (w5.setCell ⟨l.h,13,none⟩ (I Z (dE+1)));rw[<-lW];have S6:Stp (fun t=>t=(l.id,2)\/t=(l.id,0)) o1 o1 w w6:=by
   rw[lW];exact Stp.setCell (T:=fun t=>t=(l.id,2)\/t=(l.id,0)) (S5.mono fun _ e=>Or.inl e) (Or.inr hHI.out.oh) _
  have pJ:Al w6 l.h #[Ag (some ⟨l.a,0,none⟩),I Z 1,I Z sz,I Z eT,I Z (1+(sz:Int)),I Z sz,I Z tp,vo,vc,I Z 1,.bool iC,I Z dG,I Z Cd,I Z (dE+1),vw,vf] 185:=by rw[lW];exact vW.set 13 _
  have jS6:Al w6 w.1.size #[I Z s.p,I Z s.d,.bool s.Az,.bool s.final] 93:=by rw[lW];exact vX.Am neS _
  have R6:Row w6 o1 (l.id,4) 3 1 vc H.cur.length (H.cur.map fun x=>nv x.1):=by
   have:=hHI.out.rc;rw[hu]at this;exact this.Ao S6 (by simp)
  refine (qms pJ R6 hcl hHI.out.oh (by simp) tp tr).mono ?_
  rintro e w7 ⟨rfl,bM,o2,jM,R7,S7⟩;have gK:=jS6.Ao S7 (by rw[hbx];simp)
  have yV:=(S6.mono (U:=zu l) (by rintro _ (rfl|rfl)<;>simp[zu])).trans (S7.mono (by rintro _ (rfl|rfl)<;>simp[zu]))
  have W7:BB w7 l.a l.wd (2*H.size+1) (pi f tp s (H.Aw+1)):=by
   have h6:BB w6 l.a l.wd (2*H.size+1) (pi f tp s (H.Aw+1)):=by rw[lW];exact (hE2▸hT.1:BB w5 l.a l.wd (2*H.size+1) (pi f tp s (H.Aw+1))).Ao (Stp.setCell (T:=fun t=>t=(l.id,0)) (Stp.refl _ o1 w5) hHI.out.oh _) (by rw[hHI.out.oa];simp) (by rw[hHI.out.ow];simp)
   exact h6.Ao S7 (by rw[hHI.out.oa];simp) (by rw[hHI.out.ow];simp)
  have RO7:Row w7 o2 (l.id,3) 3 1 vo H.old.length (H.old.map fun x=>nv x.1):=by
   have:=hHI.out.ro;rw[hu]at this;exact (this.Ao S6 (by simp)).Ao S7 (by simp)
  have rC:=(hHI.out.rw.Ao S6 (by simp)).Ao S7 (by simp)
  have rA:=(hHI.out.rf.Ao S6 (by simp)).Ao S7 (by simp)
  have Aac:w.1.size<w6.1.size:=jS6.lt;have S7t:=S7.tags;clear lW pJ jS6 R6 S6 S5 vW vX iO cH zH cS sB sS cB S7 hT neB nwd;have cH:=jM.cell;have zH:=jM.free;have sH:=jM.lt;have cS:=gK.cell;have sS:=gK.lt;have ik:o2 w.1.size=(l.id+1,0):=by rw[S7t _ Aac];exact hbx
  have T7:∀ b,b<w.1.size->o2 b=o1 b:=fun b hb=>yV.tags b hb;obtain⟨iI,hi,hsI,bZ,bT⟩:=jh;have hu64:=underlying25;have hwl:H.Az.length+1<=maxLen/\(H.Az.length+1)*8<=140737488355328:=Tn (Qo zD.out.wl (by have:=zF.out;omega))
  have hfl:H.final.length+1<=maxLen/\(H.final.length+1)*8<=140737488355328:=Tn (Qo zD.out.fl (by have:=zF.out;omega))
  have qZ:=Qa hs.2.2;have HFin:=Qa (fun (w9:Aa) (o9:Own) (gF eZ:Ac) (hb:Al w9 l.h ((H.lay s).cells l.a bM vo gF eZ) 185) (rw':Row w9 o9 (l.id,5) 3 1 gF (H.lay s).Az.length ((H.lay s).Az.map nv)) (rf:Row w9 o9 (l.id,6) 3 1 eZ (H.lay s).final.length ((H.lay s).final.map nv))
    (S:Stp (fun t=>t=(l.id,0)\/t=(l.id,5)\/t=(l.id,6)) o2 o9 w7 w9) =>
   show RI w o l (H.lay s) w9 from
    ⟨bM,vo,gF,eZ,_,o9,hHI.out.Dk zD.out s hHz.out hHr.out hb (by
      have:=W7.Ao S (by rw[T7 _ hHI.out.B6.BM.lt,hHI.out.oa];simp) (by rw[T7 _ hHI.out.B6.lt,hHI.out.ow];simp)
      rw[uU];exact this) (by have:=R7.Ao S (by simp);rw[uU,hu];exact this) (by rw[hu];exact RO7.Ao S (by simp)) rw' rf
      (fun b hb=>(S.tags b (Qn hb yV.size)).trans (T7 b hb)),(hS0.trans yV).trans (S.mono (by rintro _ (rfl|rfl|rfl)<;>simp[zu]))⟩)
  have dP:=Qa (show ∀ gF eZ,(H.lay s).cells l.a bM vo gF eZ=#[Ag (some ⟨l.a,0,none⟩),I Z 1,I Z sz,I Z eT,I Z (1+(sz:Int)),I Z sz,I Z tr,vo,bM,I Z 1,.bool iC,I Z dG,I Z Cd,I Z (dE+1),gF,eZ] from fun gF eZ=>by
   unfold Hp.cells Hp.lay;simp only[hu];rw[if_pos trivial,hE2,uU,hE4,hE5,hE6,hE7,htr.out,hss,hzz])
  clear W7 R7 RO7 hs;have pQ:o2 l.h=(l.id,0):=(T7 _ hHI.out.hb.lt).trans hHI.out.oh;have wF:s.Az=false->(H.lay s).Az=H.Az:=fun e=>by unfold Hp.lay;simp[e]
  have wT:s.Az=true->(H.lay s).Az=H.Az++[H.top]:=fun e=>by unfold Hp.lay;simp[e]
  have fF:s.final=false->(H.lay s).final=H.final:=fun e=>by unfold Hp.lay;simp[e]
  have fT:s.final=true->(H.lay s).final=H.final++[H.top]:=fun e=>by unfold Hp.lay;simp[e]
  rw[uU]at wT fT;replace hwl:=Qa hwl;replace hfl:=Qa hfl;replace rC:=Qa rC;replace rA:=Qa rA;replace ik:=Qa ik;replace pQ:=Qa pQ
  cases hwk:s.Az
  ·rw[hwk]at gK
   cases hfn:s.final
   ·rw[hfn]at gK
    have cS:=gK.cell;go_wp2_with fail;go_ret2;exact⟨rfl,HFin.out w7 o2 vw vf (by rw[dP.out];exact jM) (by rw[wF hwk];exact rC.out) (by rw[fF hfn];exact rA.out) (Stp.refl _ _ _)⟩
   ·rw[hfn]at gK
    have cS:=gK.cell;go_wp2_with (first|(at_builtin;refine qi _ rfl _ _ _ rfl 3 iI _ 1 8 hu64 hi bT hsI bZ rfl (by decide) o2 (l.id,6) _ _ _ rfl (Row.below rA.out (qc (qd w7) _)) ⟨w7.1.size,0,none⟩ 1 1 [I Z tp] rfl rfl (zj (Al.new w7 _ _)) ka hfl.out.1 hfl.out.2 ?_;intro v' w8 hown hst;obtain⟨pa,cp,rfl⟩:=hown.AS;have iy:=(jM.alloc (ARu #[I Z tp] 3)).Ao hst (by rw[pQ.out];simp);have sD:=(gK.alloc (ARu #[I Z tp] 3)).Ao hst (by rw[ik.out];simp);have cH8:=iy.cell;have zH8:=iy.free;have sH8:=iy.lt;have cS8:=sD.cell;have sS8:=sD.lt)|fail)
    go_ret2;have k8:=Stp.setCell (T:=fun t=>t=(l.id,0)) (Stp.refl _ (ext o2 (w7.alloc (ARu #[I Z tp] 3)).1.size (l.id,6)) w8) (a:=⟨l.h,15,none⟩) (by show ext o2 _ _ l.h=_;rw[qr (jM.alloc (ARu #[I Z tp] 3)).lt];exact pQ.out) (.slice pa (H.final.length+1) cp)
    have s8:Stp (fun t=>t=(l.id,0)\/t=(l.id,5)\/t=(l.id,6)) o2 _ w7 _:=((Stp.of_below (T:=fun t=>t=(l.id,6)) (qc (qd w7) (ARu #[I Z tp] 3))).trans hst |>.mono (by rintro _ rfl;simp)).trans (k8.mono (by rintro _ rfl;simp))
    refine⟨rfl,HFin.out _ _ _ _ (by rw[dP.out];exact iy.set 15 _) ?_ ?_ s8⟩
    ·rw[wF hwk];exact ((Row.below rC.out (qc (qd w7) _)).Ao hst (by simp)).Ao k8 (by simp)
    ·rw[fT hfn];simpa [nv] using hown.Ao k8 (by simp)
  ·rw[hwk,(qZ.out hwk).2.2]at gK
   have cS:=gK.cell;go_wp2_with (first|(at_builtin;refine qi _ rfl _ _ _ rfl 3 iI _ 1 8 hu64 hi bT hsI bZ rfl (by decide) o2 (l.id,5) _ _ _ rfl (Row.below rC.out (qc (qd w7) _)) ⟨w7.1.size,0,none⟩ 1 1 [I Z tp] rfl rfl (zj (Al.new w7 _ _)) ka hwl.out.1 hwl.out.2 ?_;intro v' w8 hown hst;obtain⟨pa,cp,rfl⟩:=hown.AS;have iy:=(jM.alloc (ARu #[I Z tp] 3)).Ao hst (by rw[pQ.out];simp);have sD:=(gK.alloc (ARu #[I Z tp] 3)).Ao hst (by rw[ik.out];simp);have cH8:=iy.cell;have zH8:=iy.free;have sH8:=iy.lt;have cS8:=sD.cell;have sS8:=sD.lt)|fail)
   go_ret2;have k8:=Stp.setCell (T:=fun t=>t=(l.id,0)) (Stp.refl _ (ext o2 (w7.alloc (ARu #[I Z tp] 3)).1.size (l.id,5)) w8) (a:=⟨l.h,14,none⟩) (by show ext o2 _ _ l.h=_;rw[qr (jM.alloc (ARu #[I Z tp] 3)).lt];exact pQ.out) (.slice pa (H.Az.length+1) cp)
   have s8:Stp (fun t=>t=(l.id,0)\/t=(l.id,5)\/t=(l.id,6)) o2 _ w7 _:=((Stp.of_below (T:=fun t=>t=(l.id,5)) (qc (qd w7) (ARu #[I Z tp] 3))).trans hst |>.mono (by rintro _ rfl;simp)).trans (k8.mono (by rintro _ rfl;simp))
   refine⟨rfl,HFin.out _ _ _ _ (by rw[dP.out];exact iy.set 14 _) ?_ ?_ s8⟩
   ·rw[wT hwk];simpa [nv] using hown.Ao k8 (by simp)
   ·rw[fF (qZ.out hwk).2.2];exact ((Row.below rA.out (qc (qd w7) _)).Ao hst (by simp)).Ao k8 (by simp)
def AA.EX (h:AA w o l H vc vo vw vf f){w':Aa}(hb:Ae w.1.size w w'):RI w o l H w':=⟨vc,vo,vw,vf,f,o,h.below hb,Stp.of_below hb⟩
def qlz (h:AA w o l H vc vo vw vf f)(hk:H.ok)(s:BX)(hs:s.ok)(hr:H.roomy s=false) :
  Ab ARt 167 #[Ag (some ⟨l.h,0,none⟩),kw s] w fun e w'=>e=O (Aj #[I Z 0,I Z 100])/\Ae w.1.size w w':=by
 have gI:=hk.Cw;have hrd:=kg (3+s.p+s.d) (by obtain⟨h1,h2,_⟩:=hs;omega)
 have HR:=Qa (fun w' (hw:Ae w.1.size w w')=>UX (h.below hw) hk)
 have HS:=Qa (fun w=>yg s hs w)
 have HN:=Qa (fun w=>pz (3+s.p+s.d) (by omega) (by obtain⟨h1,h2,_⟩:=hs;omega) _ rfl w)
 have Tk:∀ w',Ae w.1.size w w'->w'.cell? ⟨l.h,13,none⟩=some (I Z H.Aw):=fun w' hb=>by
  rw[(h.hb.below hb h.hb.lt).cell];unfold Hp.cells;split<;>rfl
 have HC:=Qa Tk;unfold Hp.roomy at hr;have hd:((H.left:Nat):Int)<((Bu (3+s.p+s.d):Nat):Int)\/(¬((H.left:Nat):Int)<((Bu (3+s.p+s.d):Nat):Int)/\(1099511627776:Int)<=(H.Aw:Int)):=by
  simp only[Bool.and_eq_false_iff,decide_eq_false_iff_not]at hr;omega
 generalize ((H.left:Nat):Int)=q at HR hd;generalize ((Bu (3+s.p+s.d):Nat):Int)=rn at HN hd;generalize (H.Aw:Int)=sr at *;clear h hk hr gI hrd Tk;rcases hd with oU|⟨oU,hse⟩
 all_goals
  go_enter func167,ntmps167;have jS:=Al.new w #[I Z s.p,I Z s.d,.bool s.Az,.bool s.final] 93;have cS:=jS.cell;go_wp2_with fail;refine (HS.out _).mono ?_;rintro e w1 ⟨rfl,hb1⟩;have hw1:=qe (qc (qd w) _) hb1;clear hb1 cS;go_wp2_with fail;refine (HN.out _).mono ?_;rintro e w2 ⟨rfl,hb2⟩;have hw2:=qe hw1 hb2;go_wp2_with fail;refine (HR.out _ hw2).mono ?_;rintro e w3 ⟨rfl,hb3⟩;have Tk:=HC.out _ (qe hw2 hb3);go_wp2_with fail;go_ret2;exact⟨rfl,qe hw2 hb3⟩
def qom (h:AA w o l H vc vo vw vf f)(hw:H.wf)(s:BX)(hs:s.ok) :
  Ab ARt 167 #[Ag (some ⟨l.h,0,none⟩),kw s] w fun e w'=>e=O (Aj #[I Z ((H.AR s).2.1:Nat),I Z ((H.AR s).2.2:Nat)])/\RI w o l (H.AR s).1 w':=by
 unfold Hp.AR
 cases hr:H.roomy s with
 | false =>
  rw[if_neg (by simp)]
  refine (qlz h hw.ok s hs hr).mono ?_;rintro e w' ⟨rfl,hb⟩;exact⟨rfl,h.EX hb⟩
 | true =>
  rw[if_pos rfl]
  cases hu:H.use
  ·exact FY h hw hu s hs hr
  ·exact FZ h hw hu s hs hr
