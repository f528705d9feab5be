import Derived.Test.YteehgedabdchcaaGreatKbf
import Derived.Test.YteehgedabdchcaaGreatKbi
import Derived.Test.YteehgedabdchcaaGreatKbl
set_option linter.all false
set_option maxRecDepth 1000000
set_option maxHeartbeats 16000000
open Go renaming World->Aa,Calls->Ab,Value->Ac
open Go.RowKit renaming Below->Ae
open Go.Value renaming int->I,pointer->Ag,slice->Ah,tuple->Aj,agg->Ak
open Go.IntKind renaming i64->Z
open Go.Ending renaming returned->O
namespace Go.Proofs.YteehgedabdchcaaGreat
section
open Go.RowKit Hp Go.Maps
attribute [local go_sem ↓] Go.wp_at_zero Go.wp_at_succ
def Shut (H:Hp):Prop:=∀ x ∈ H.cur,FV (lk H.cur) x.2.AL
def Hp.reach (H:Hp)(roots:List Nat):List Nat:=fc (lk H.cur) (H.cur.map (·.1)).length roots
def Hp.canon (H:Hp)(roots:List Nat):List Nd:=xw (lk H.cur) (H.reach roots) (H.reach roots)
section
variable {w : Aa} {o : Own} {l : Ba} {H : Hp} {vc vo vw vf : Ac} {f : Nat -> Nat}
theorem AE.V5 (h:AE w o l H vc vo vw vf f)(hk:H.ok):Nb w l.a l.wd (2*H.size+1) f (lk H.cur):=
 ⟨h.B5,fun p x hx=>by
  have hm:=zo hx;have h1:=zr _ _ _ hk.cl _ hm;have h2:=hk.room;have h3:=hk.ck _ hm;have h4:x.size<=Bo x.size:=by
   have a1:=h3.AN.1;have a2:=h3.AN.2.1;have a3:=h3.lp;have a4:=h3.ln;simp only at a1 a2 a3 a4;exact (zz x.size (by unfold Ob.size;omega)).1
  have h5:H.base H.use<=1+H.size:=by unfold Hp.base;split<;>omega
  simp only at h1;exact⟨h.E3 _ hm,h3,by omega⟩⟩
theorem Hp.ok.gok (hk:H.ok)(hs:Shut H):Nu (lk H.cur) (H.cur.map (·.1)):=
 ⟨fun p hp=>Fx.1 hp,by have:=Uc hk;rw[Qg];omega,fun p hp=>by
  obtain⟨x,hx⟩:=Option.isSome_iff_exists.1 hp;have h1:=zr _ _ _ hk.cl _ (zo hx);have h2:=hk.room;have h3:=hk.sz;have h5:H.base H.use<=1+H.size:=by unfold Hp.base;split<;>omega
  simp only at h1;omega,fun p x hx=>hs _ (zo hx)⟩
theorem Xj (h:AE w o l H vc vo vw vf f)(hk:H.ok)(hm:H.AF=false)(hs:Shut H){v:Ac}{roots:List Nat}{ov:Own}{t:Tag}(hv:Row w ov t 3 1 v roots.length (roots.map nv))(hr:FV (lk H.cur) roots)(hn:roots.length<=1000000) :
  Ab Tryz.prog 50 #[Ag (some ⟨l.h,0,none⟩),v] w fun e w'=>∃ v1 v2 oo,e=O (Aj #[v1,v2,I Z 0])/\Cw w' oo v1 (H.canon roots) /\
   Row w' oo (55,0) 3 1 v2 roots.length (Eb (H.reach roots) roots)/\Ae w.heap.size w w'/\Old w.heap.size oo:=by
 have HGC:=Qa (fun (W:Aa)(hb:Ae w.heap.size w W)=>show Ab Tryz.prog 114 #[Ag (some ⟨l.a,0,none⟩),v] W fun e w'=>∃ v1 v2 oo,e=O (Aj #[v1,v2,I Z 0])/\Cw w' oo v1 (H.canon roots) /\
   Row w' oo (55,0) 3 1 v2 roots.length (Eb (H.reach roots) roots)/\Ae W.heap.size W w'/\Old W.heap.size oo from YY ((h.V5 hk).below hb) (hk.gok hs) (hv.below hb) hr hn)
 have HH:=Qa (fun (W:Aa)(hb:Ae w.heap.size w W)(p:Nat)(hp:(lk H.cur p).isSome=true)=>show Ab Tryz.prog 61 #[Ag (some ⟨l.h,0,none⟩),I Z p] W fun e w'=>e=O (.bool true)/\Ae W.heap.size W w' from by
  have:=rq (h.below hb) hk p p rfl;rw[hp]at this;exact this)
 have HC:=Qa (fun (W:Aa)(hb:Ae w.heap.size w W)=>show W.cell? ⟨l.h,0,none⟩=some (Ag (some ⟨l.a,0,none⟩))/\W.cell? ⟨l.h,10,none⟩=some (.bool false) from by
  refine⟨(h.below hb).c0,?_⟩;rw[(h.below hb).hb.cell];unfold Hp.cells;rw[hm];split<;>rfl)
 obtain⟨pv,cv,rfl⟩:=hv.AY;have HV:=Qa hv;have HR:=Qa hr;obtain⟨n,hnn⟩:∃ n,n=roots.length:=⟨_,rfl⟩;rw[<-hnn]at HV HGC hn ⊢;have HN:=Qa hnn;have HNm:=Qa hn;clear h hk hm hs hv hr hn hnn;go_enter Tryz.func50,Tryz.ntmps50;go_wp2_with fail;go_loopw [13] (fun ix wr=>∃ k:Nat,ix=I Z k/\k<=n/\Ae w.heap.size w wr) (fun ix _=>n-(intOf ix).toNat)
 case atStart=>exact⟨0,rfl,Nat.zero_le _,qc w⟩
 case round =>
  obtain⟨k,rfl,hkn,hb⟩:=hrel;by_cases hlt:k<n
  ·have hkI:(k:Int)<(n:Int):=by omega
   have HW:=Qa (qw k (by have:=HNm.out;omega))
   obtain⟨x,hx⟩:∃ x,roots[k]?=some x:=⟨_,Qb (by rw[<-HN.out];exact hlt)⟩
   obtain⟨g,e,hcell,hcap⟩:∃ g,pv=some ⟨g,0,none⟩/\wr.cell? ⟨g,k,none⟩=some (I Z x)/\n<=cv:=by
    rcases (HV.out.below hb).form with ⟨_,h0⟩|⟨g,cap,e,hcap,_⟩
    ·omega
    ·injection e with e1 _ e3
     subst e1 e3;exact⟨g,rfl,(HV.out.below hb).cells k _ (by rw[Qj,hx];rfl),hcap⟩
   subst e;have hxG:=HR.out x (Qe hx);by_cases h0:x=0
   ·subst h0
    have HB:=Qa hb;clear hb hx hxG;obtain⟨hw1,hw2⟩:=HW.out;go_wp2_with fail;go_roundw
    case rel=>exact⟨k+1,by simp,hlt,HB.out⟩
    case measure=>simp[intOf];omega
   ·have hp0:((x:Int)==0)=false:=by rw[Qh];omega
    have HHx:=Qa (HH.out wr hb x (hxG.resolve_left h0));have HB:=Qa hb;clear hb hx hxG;obtain⟨hw1,hw2⟩:=HW.out;go_wp2_with (first
     | (go_at_call 61;refine HHx.out.mono ?_;rintro e w3 ⟨rfl,hb3⟩)
     | fail)
    go_roundw
    case rel=>exact⟨k+1,by simp,hlt,qd HB.out hb3⟩
    case measure=>simp[intOf];omega
  ·obtain rfl:k=n:=by omega
   obtain⟨c0,Ph⟩:=HC.out wr hb;have HG2:=Qa (HGC.out wr hb);have HB:=Qa hb;clear hb hlt hkn HV;go_wp2_with (first
    | (go_at_call 114;refine HG2.out.mono ?_;rintro e w3 ⟨v1,v2,oo,rfl,hN,hR2,hb3,hO⟩)
    | fail)
   go_ret3;exact⟨v1,v2,oo,rfl,hN,hR2,qd HB.out hb3,fun b hb=>hO b (Qn hb HB.out.size)⟩
end
section
variable {w : Aa} {o : Own} {y : A3} {S : Al}
theorem WR (h:Ap w o y S)(hk:S.ok)(hm:S.H.AF=false)(hs:Shut S.H){v:Ac}{ps:List Nat}{t:Tag}(hv:Row w o t 3 1 v ps.length (ps.map nv))(hp:ps.length<=100000)(hr:FV (lk S.H.cur) (S.places ps))(hn:(S.places ps).length<=1000000) :
  Ab Tryz.prog 15 #[ptr y.sb,v] w fun e w'=>∃ v1 v2 oo,e=O (Aj #[v1,v2,I Z 0])/\Cw w' oo v1 (S.H.canon (S.places ps)) /\
   Row w' oo (55,0) 3 1 v2 (S.places ps).length (Eb (S.H.reach (S.places ps)) (S.places ps))/\Ae w.heap.size w w'/\Old w.heap.size oo:=by
 have HPl:=Qa (fun (W:Aa)(hb:Ae w.heap.size w W)=>show Ab Tryz.prog 51 #[ptr y.sb,v] W fun e w'=>∃ v',e=O v'/\Row w' (fo W.heap.size) (1,0) 3 1 v' (S.places ps).length ((S.places ps).map nv)/\Ae W.heap.size W w' from by
  exact VY (h.below hb) hk (hv.below hb) hp)
 obtain⟨vq,vl,vm,jb,_⟩:=h.AU;unfold qk at jb;have HB:=Qa h;have HK:=Qa hk;have cb:w.cell? ⟨y.sb,0,none⟩=some (ptr y.l.h):=jb.cell 0;have lb:=jb.lt;have HHp:=Qa (fun (W W3:Aa)(hb:Ae w.heap.size w W)(hb3:Ae W.heap.size W W3)(v':Ac)(hr':Row W3 (fo W.heap.size) (1,0) 3 1 v' (S.places ps).length ((S.places ps).map nv))=>show Ab Tryz.prog 50 #[ptr y.l.h,v'] W3 fun e w'=>∃ v1 v2 oo,e=O (Aj #[v1,v2,I Z 0])/\Cw w' oo v1 (S.H.canon (S.places ps)) /\
   Row w' oo (55,0) 3 1 v2 (S.places ps).length (Eb (S.H.reach (S.places ps)) (S.places ps))/\Ae W3.heap.size W3 w'/\Old W3.heap.size oo from by
  obtain⟨vc,vo,vw,vf,f,hh⟩:=h.hp;exact Xj (hh.below (qd hb hb3)) hk.H.ok hm hs hr' hr hn)
 clear h hk hm hs hv hp hr hn jb;go_enter Tryz.func15,Tryz.ntmps15;go_upto_region 3 with fail;go_region_held3 (fun w'=>w'.cell? ⟨y.sb,0,none⟩=some (ptr y.l.h)) (first|with_reducible assumption|go_keep) (first
  | (go_at_call 51;refine (HPl.out w.drew (qe (qc w))).mono ?_;rintro e w3 ⟨v3,rfl,hr3,hb3⟩;have cb3:w3.cell? ⟨y.sb,0,none⟩=some (ptr y.l.h):=(hb3.cell (p:=⟨y.sb,0,none⟩) lb).trans cb)
  | (go_at_call 50;refine (HHp.out w.drew w3 (qe (qc w)) hb3 v3 hr3).mono ?_;rintro e w4 ⟨v1,v2,oo,rfl,hN,hR2,hb4,hO⟩;have cb4:w4.cell? ⟨y.sb,0,none⟩=some (ptr y.l.h):=(hb4.cell (p:=⟨y.sb,0,none⟩) (Qn lb hb3.size)).trans cb3)
  | fail)
 go_wp2_with fail;go_ret3;have hb5:Ae w.heap.size w w4:=qd (qd (qe (qc w)) hb3) hb4;exact⟨v1,v2,oo,rfl,hN,hR2,hb5,fun b hb=>hO b (Qn hb hb3.size)⟩
end
section
variable {w : Aa} {o : Own} {m : BZ} {M : Mc}
theorem YM (h:Bp w o m M)(hk:M.ok)(hm:M.S.H.AF=false)(hs:Shut M.S.H)(hr:FV (lk M.S.H.cur) (M.S.places M.roots))(hn:(M.S.places M.roots).length<=1000000) :
  Ab Tryz.prog 40 #[ptr m.mb] w fun e w'=>∃ v1 oo,e=O v1/\Cw w' oo v1 (M.S.H.canon (M.S.places M.roots))/\Ae w.heap.size w w'/\Old w.heap.size oo:=by
 have hrl:M.roots.length<=100000:=by
  have:M.roots.length=M.hs.length*12:=sa _;have:=hk.len;have:=hk.n8;omega
 have HRo:=Qa (fun (W:Aa)(hb:Ae w.heap.size w W)=>T6 (h.below hb) hk)
 obtain⟨ve,jb,_⟩:=h.AU;have cb:w.cell? ⟨m.mb,0,none⟩=some (ptr m.y.sb):=jb.cell 0;have lb:=jb.lt;have HSc:=Qa (fun (W W3:Aa)(hb:Ae w.heap.size w W)(hb3:Ae W.heap.size W W3)(v':Ac)(hr':Row W3 (fo W.heap.size) (1,0) 3 1 v' M.roots.length (M.roots.map nv))=>by
  have s3:Stp (fun _=>False) o (ext o W.heap.size (m.y.l.id+1,0)) W W3:=(Stp.of_below hb3).ext _ _ (Qk _)
  have hM3:Bp W3 (ext o W.heap.size (m.y.l.id+1,0)) m M:=(h.below hb).Ao s3 (fun _ h=>h) fun _ h=>h
  exact WR hM3.st hk.inv hm hs (hr'.out o (m.y.l.id+1,0)) hrl hr hn)
 clear h hk hm hs hr hn jb hrl;go_enter Tryz.func40,Tryz.ntmps40;go_upto_region 1 with fail;go_region_held3 (fun w'=>w'.cell? ⟨m.mb,0,none⟩=some (ptr m.y.sb)) (first|with_reducible assumption|go_keep) (first
  | (go_at_call 88;refine (HRo.out w.drew (qe (qc w))).mono ?_;rintro e w3 ⟨v3,rfl,hr3,hb3⟩;have cb3:w3.cell? ⟨m.mb,0,none⟩=some (ptr m.y.sb):=(hb3.cell (p:=⟨m.mb,0,none⟩) lb).trans cb)
  | (go_at_call 15;refine (HSc.out w.drew w3 (qe (qc w)) hb3 v3 hr3).mono ?_;rintro e w4 ⟨v1,v2,oo,rfl,hN,hR2,hb4,hO⟩;have cb4:w4.cell? ⟨m.mb,0,none⟩=some (ptr m.y.sb):=(hb4.cell (p:=⟨m.mb,0,none⟩) (Qn lb hb3.size)).trans cb3)
  | fail)
 go_wp2_with fail;go_ret;have hb5:Ae w.heap.size w w4:=qd (qd (qe (qc w)) hb3) hb4;exact⟨v1,oo,rfl,hN,hb5,fun b hb=>hO b (Qn hb hb3.size)⟩
end
end
section
open Go.RowKit Hp
attribute [local go_sem ↓] Go.wp_at_zero Go.wp_at_succ
section
variable {w w' : Aa} {o o' : Own} {m : BZ} {M : Mc}
theorem KB.AY {v:Ac}{tg:Tag}{bs:List (List Ay)}(h:KB w o tg v bs):∃ a c,v=.slice a bs.length c:=by
 obtain⟨_,vs,_,hr,_⟩:=h;obtain⟨a,c,e⟩:=hr.AY;exact⟨a,c,e⟩
theorem KT.at {v:Ac}{tg tr:Tag}{ths:List (List (List Ay))}(h:KT w o tg tr v ths){t:Nat}{bs:List (List Ay)}(ht:ths[t]?=some bs) :
  ∃ g cp a c,v=Ah (some ⟨g,0,none⟩) ths.length cp/\w.cell? ⟨g,t,none⟩=some (.slice a bs.length c)/\KB w o tg (.slice a bs.length c) bs:=by
 obtain⟨h8,vs,hl,hr,hd⟩:=h;obtain⟨u,hu,hb⟩:=hd t bs ht;have hlt:=(Qc.1 ht).1;obtain⟨a,c,rfl⟩:=hb.AY;rcases hr.form with ⟨_,h0⟩|⟨g,cap,e,_⟩
 ·omega
 ·subst e
  exact⟨g,cap,a,c,rfl,hr.cells t _ hu,hb⟩
theorem Y5 (h:∀ t,t<M.hs.length->((M.p t).length:Int)<=(M.h t).b):M.done=true:=by
 unfold Mc.done;rw[List.all_eq_true];intro t ht;exact decide_eq_true (h t (List.mem_range.1 ht))
theorem qjk {t:Nat}(ht:t<M.hs.length)(h:¬((M.p t).length:Int)<=(M.h t).b):M.done=false:=by
 unfold Mc.done
 cases hd:(List.range M.hs.length).all fun t=>decide (((M.p t).length:Int)<=(M.h t).b) with
 | false=>rfl
 | true=>exact absurd (of_decide_eq_true (List.all_eq_true.1 hd t (List.mem_range.2 ht))) h
theorem Vu (h:Bp w o m M) (hk:M.ok) :
  Ab Tryz.prog 37 #[ptr m.mb] w fun e w'=>e=O (.bool M.done)/\Ae w.heap.size w w':=by
 obtain⟨ve,jb,_⟩:=h.AU;have hn8:M.hs.length<=8:=by rw[hk.len];exact hk.n8
 have hlen:=hk.len;have hhs:=h.hs;have hps:=h.ps;obtain⟨ph,ch,hvh⟩:=hhs.AY;obtain⟨pp,cp,hvp⟩:∃ pp cp,m.vp=.slice pp M.hs.length cp:=by
  obtain⟨_,vs,_,hr,_⟩:=hps;obtain⟨a,c,e⟩:=hr.AY;exact⟨a,c,by rw[e,hlen]⟩
 rw[hvh]at hhs jb;rw[hvp]at hps jb;have HB:=Qa (fun (t:Nat) (ht:t<M.hs.length)=>(hk.nb ht).2.1)
 have HZ:=Qa (fun (t:Nat) (ht:t<M.hs.length)=>Mc.Fw (M:=M) ht)
 have HP:=Qa (fun (t:Nat) (ht:t<M.hs.length)=>hps.at (Mc.D2 (M:=M) (t:=t) (by rw[<-hlen];exact ht)))
 have HR:=Qa hhs;have HJ:=Qa jb;have HT:=Qa (Y5 (M:=M));have HFa:=Qa (fun (t:Nat) (ht:t<M.hs.length) (h:¬((M.p t).length:Int)<=(M.h t).b)=>qjk ht h)
 obtain⟨nh,hnh⟩:∃ nh,nh=M.hs.length:=⟨_,rfl⟩;rw[<-hnh]at HB HZ HP HR HJ HT HFa hn8 jb;rw[<-hlen]at HP;rw[<-hnh]at HP;have cb:=jb.cell;clear h hk hhs hps hvh hvp hlen hnh jb;go_enter Tryz.func37,Tryz.ntmps37;go_wp2_with fail;clear cb;go_loopw [10] (fun ix wr=>∃ k:Nat,ix=I Z k/\k<=nh/\Ae w.heap.size w wr/\∀ t,t<k->((M.p t).length:Int)<=(M.h t).b) (fun ix _=>nh-(intOf ix).toNat)
 case atStart=>exact⟨0,rfl,Nat.zero_le _,qc w,fun t ht=>absurd ht (Nat.not_lt_zero t)⟩
 case round =>
  obtain⟨k,rfl,hkn,hb,hd⟩:=hrel;have HD:=Qa hd;have HBl:=Qa hb;have HKN:=Qa hkn;clear hd;by_cases hlt:k<nh
  ·have hkI:(k:Int)<(nh:Int):=by omega
   obtain⟨gq,e1,hcap,q⟩:=(HR.out.below hb).E9 (HZ.out k hlt);obtain⟨gp,cp',a,c,e2,hcell,_⟩:=HP.out k hlt;injection e2 with e2 _ e3;subst e1 e2 e3;have hb0:=HB.out k hlt;have HF:=Qa (HFa.out k hlt);obtain⟨hw1,hw2⟩:=qw k (by omega)
   obtain⟨q0,q1,q2,q3,q4,q5,q6,q7,q8,q9,q10,q11,q12,q13,q14⟩:=q;have HTD:=Qa (fun (W:Aa)=>show Ab Tryz.prog 96 #[.slice a (M.p k).length c,(M.h k).v] W fun e w'=>e=O (.bool (decide (((M.p k).length:Int)<=(M.h k).b)))/\Ae W.heap.size W w' from by
    have:=ma (M.h k) a (M.p k).length c W;rwa [decide_eq_false (show ¬(M.h k).b<0 by omega),Bool.false_or]at this)
   have HC2:=Qa (show ((M.p k).length:Int)<=(M.h k).b↔((M.p k).length:Int)<=(M.h k).b from Iff.rfl);obtain⟨P,hP⟩:∃ P,P=(M.p k).length:=⟨_,rfl⟩;obtain⟨z,hz⟩:∃ z,z=M.h k:=⟨_,rfl⟩;rw[<-hz]at q0 q1 q2 q3 q4 q5 q6 q7 q8 q9 q10 q11 q12 q13 q14 HTD HF HC2;rw[<-hP]at HTD HF HC2 hcell;have hcell2:wr.cell? ⟨gp,k,none⟩=some (.slice a P c):=cell_below hcell hb;have HPZ:=Qa (And.intro hP hz);have cb:=(HJ.out.below hb HJ.out.lt).cell;obtain⟨D,hD⟩:∃ D,D=decide ((P:Int)<=z.b):=⟨_,rfl⟩;rw[<-hD]at HTD;have HDD:=Qa hD;clear hP hz hcell hb0 hb hD;obtain⟨zb,zn,⟨a0,a1,a2,a3,a4,a5⟩,⟨s0,s1,s2,s3,s4,s5⟩,zl⟩:=z;simp only at q0 q1 q2 q3 q4 q5 q6 q7 q8 q9 q10 q11 q12 q13 q14;unfold AD.v AD.cells at HTD;simp only at HTD;have jbr:=HJ.out.below HBl.out HJ.out.lt;go_upto_region 4 with fail;obtain⟨W,hW⟩:∃ W:Aa,W=wr.alloc (.cells #[I Z zb,I Z zn,I Z a0,I Z a1,I Z a2,I Z a3,I Z a4,I Z a5,I Z s0,I Z s1,I Z s2,I Z s3,I Z s4,I Z s5,.bool zl] 58):=⟨_,rfl⟩;rw[<-hW];have jx:Am W wr.heap.size #[I Z zb,I Z zn,I Z a0,I Z a1,I Z a2,I Z a3,I Z a4,I Z a5,I Z s0,I Z s1,I Z s2,I Z s3,I Z s4,I Z s5,.bool zl] 58:=by rw[hW];exact Am.new wr _ _
   have jm:Am W m.mb #[ptr m.y.sb,Ah (some ⟨gp,0,none⟩) nh cp,Ah (some ⟨gq,0,none⟩) nh ch,.int .i32 0,.int .u32 0,ve] 148:=by rw[hW];exact jbr.alloc _
   have hc3:W.cell? ⟨gp,k,none⟩=some (.slice a P c):=by rw[hW];exact cell_below hcell2 (qa (qc wr) _)
   have HBW:=Qa (show Ae w.heap.size w W from by rw[hW];exact qa HBl.out _)
   clear hW cb hcell2 q0 q1 q2 q3 q4 q5 q6 q7 q8 q9 q10 q11 q12 q13 q14 jbr;have l1:=fun (e:Later W) (i:Nat)=>Later.cell jm e i
   have l2:=fun (e:Later W) (i:Nat)=>Later.cell jx e i
   have l3:=fun (e:Later W)=>(e.2.cell (p:=⟨gp,k,none⟩) (QV hc3)).trans hc3
   refine qy (by kernel_rfl) (by kernel_rfl) ?_
   repeat (go_big_quiet_step ((go_at_call 96;exact kj (HTD.out _))))
   refine wpQuiet_nil ?_
   rintro _ ⟨⟨wt,hbt⟩,rfl⟩
   have HBt:=Qa (qd HBW.out hbt);clear l1 l2 l3 hbt
   cases D with
   | true =>
    have hle:((M.p k).length:Int)<=(M.h k).b:=by
     have h1:=of_decide_eq_true HDD.out.symm;rw[HPZ.out.1]at h1;rw[<-HPZ.out.2];exact h1
    have HLE:=Qa hle;clear hle;go_wp2_with fail;go_roundw
    case rel=>exact⟨k+1,by simp,hlt,HBt.out,fun t ht=>(Nat.lt_succ_iff_lt_or_eq.1 ht).elim (fun h=>HD.out t h) (fun h=>by rw[h];exact HLE.out)⟩
    case measure=>clear hw1 hw2;simp[intOf];omega
   | false =>
    have hle:M.done=false:=HF.out (Int.not_le.1 (of_decide_eq_false HDD.out.symm));have HLE:=Qa hle;clear hle;go_wp2_with fail;go_ret;exact⟨by rw[HLE.out];rfl,HBt.out⟩
  ·obtain rfl:k=nh:=by omega
   go_wp2_with fail;go_ret;exact⟨by rw[HT.out HD.out];rfl,HBl.out⟩
def Nr (S:Al)(h:AD)(k:Nat):AD:={ h with r:=h.r.set (S.Bt (h.r.get k).toNat) k,s:=h.s.set (S.Bt (h.s.get k).toNat) k }
def FU (S:Al)(h:AD):Nat->AD
 | 0=>h
 | k+1=>Nr S (FU S h k) k
theorem G5 (S:Al)(h:AD):FU S h 6=h.FJ S:=rfl
theorem Ji (S:Al)(h:AD){k:Nat}(hk:k<6):(FU S h k).r.get k=h.r.get k/\(FU S h k).s.get k=h.s.get k:=by
 rcases six hk with rfl|rfl|rfl|rfl|rfl|rfl<;>exact⟨rfl,rfl⟩
theorem Hs {w:Aa}{b:Nat}{t:TypeId}{h:AD}(j:Am w b h.cells t){A:Nat}(hA:A<6)(v:Int):Am (w.setCell ⟨b,8+A,none⟩ (I Z v)) b ({ h with s:=h.s.set v A }:AD).cells t:=by
 have e1:∀ x,x=({ h with s:=h.s.set v A }:AD).cells->Am (w.setCell ⟨b,8+A,none⟩ (I Z v)) b x t->Am (w.setCell ⟨b,8+A,none⟩ (I Z v)) b ({ h with s:=h.s.set v A }:AD).cells t:=fun x e k=>by rw[<-e];exact k
 refine e1 _ ?_ (j.set (8+A) (I Z v));rcases six hA with rfl|rfl|rfl|rfl|rfl|rfl
 all_goals simp only[AD.cells,R6.set,List.setIfInBounds_toArray,List.set_cons_zero,List.set_cons_succ,Nat.reduceAdd]
theorem R3 {w:Aa}{b:Nat}{t:TypeId}{h:AD}(j:Am w b h.cells t){A:Nat}(hA:A<6):w.cell? ⟨b,8+A,none⟩=some (I Z (h.s.get A)):=by
 rw[j.cell];rcases six hA with rfl|rfl|rfl|rfl|rfl|rfl<;>rfl
theorem JI (S:Al)(z:AD)(k:Nat):Nr S (FU S z k) k={ (FU S z k).put k (S.Bt ((FU S z k).r.get k).toNat) with s:=(FU S z k).s.set (S.Bt ((FU S z k).s.get k).toNat) k }:=rfl
theorem U7 (h:Bp w o m M) (hk:M.ok) (t:Int) :
  Ab Tryz.prog 33 #[ptr m.mb,I Z t] w fun e w'=>e=O (Aj #[(M.BO t).1.v,.bool (M.BO t).2])/\Ae w.heap.size w w':=by
 obtain⟨ve,jb,_⟩:=h.AU;have hhs:=h.hs;obtain⟨ph,ch,hvh⟩:=hhs.AY;rw[hvh]at hhs jb;unfold Mc.BO;by_cases h0:t<0
 ·rw[if_pos (.inl h0)]
  clear h hk hhs hvh jb;go_enter Tryz.func33,Tryz.ntmps33;go_wp2_with fail;refine bodyPost_ret (yw (h:=Cy) (b6:=w.heap.size) _ _ 4 5 rfl rfl rfl (Am.new w _ _)) rfl ⟨rfl,qa (qc w) _⟩
 ·by_cases h1:(M.hs.length:Int)<=t
  ·rw[if_pos (.inr h1)]
   obtain⟨nh,hnh⟩:∃ nh,nh=M.hs.length:=⟨_,rfl⟩;rw[<-hnh]at h1 jb;have cb:=jb.cell;have lb:=jb.lt;clear h hk hhs hvh hnh jb;go_enter Tryz.func33,Tryz.ntmps33;go_wp2_with fail;refine bodyPost_ret (yw (h:=Cy) (b6:=w.heap.size) _ _ 4 5 rfl rfl rfl (Am.new w _ _)) rfl ⟨rfl,qa (qc w) _⟩
  ·rw[if_neg (fun e=>e.elim h0 h1)]
   obtain⟨T,rfl⟩:∃ T:Nat,t=T:=⟨t.toNat,by omega⟩
   rw[Int.toNat_natCast];have hT:T<M.hs.length:=by omega
   have hz:=Mc.Fw (M:=M) hT;have HSer:=Qa (fun (W:Aa) (hb:Ae w.heap.size w W) (p:Nat)=>qhi (b:=m.mb) (h.st.below hb) hk.inv (by exact (jb.below hb jb.lt).cell 0) p)
   have HG:=Qa (hk.rg hz);obtain⟨gq,rfl,hcap,q⟩:=hhs.E9 hz;obtain⟨q0,q1,q2,q3,q4,q5,q6,q7,q8,q9,q10,q11,q12,q13,q14⟩:=q;obtain⟨z,hze⟩:∃ z,z=M.h T:=⟨_,rfl⟩;rw[<-hze]at q0 q1 q2 q3 q4 q5 q6 q7 q8 q9 q10 q11 q12 q13 q14 HG ⊢;obtain⟨nh,hnh⟩:∃ nh,nh=M.hs.length:=⟨_,rfl⟩;rw[<-hnh]at h1 hT jb;have cb:=jb.cell;have lb:=jb.lt;have lq:=hhs.blt;have HSK:=Qa (G5 M.S z);obtain⟨S,hS⟩:∃ S,S=M.S:=⟨_,rfl⟩;rw[<-hS]at HSer HSK ⊢;obtain⟨X,hX⟩:∃ X,X=z.FJ S:=⟨_,rfl⟩;rw[<-hX]at HSK ⊢;have jZ:=Am.new (w.alloc (.cells Ki 58)) z.cells 58;have jA:=(Am.new w Ki 58).alloc (.cells z.cells 58);have hb0:Ae w.heap.size w ((w.alloc (.cells Ki 58)).alloc (.cells z.cells 58)):=qa (qa (qc w) _) _;obtain⟨A,hA⟩:∃ A,A=w.heap.size:=⟨_,rfl⟩;have hA1:(w.alloc (.cells Ki 58)).heap.size=A+1:=by rw[hA];simp
   rw[hA1]at jZ;rw[<-hA]at jA;have HI:=Qa (And.intro jZ (And.intro jA hb0));have HZZ:=Qa (show Ki=#[I Z 0,I Z 0,I Z 0,I Z 0,I Z 0,I Z 0,I Z 0,I Z 0,I Z 0,I Z 0,I Z 0,I Z 0,I Z 0,I Z 0,.bool false] from rfl);clear h hk hhs hvh jb jZ jA hb0 hz hze hS hA1 hX;go_enter Tryz.func33,Tryz.ntmps33;go_wp2_with fail;have HAe:=Qa hA;rw[<-hA];clear hA cb q0 q1 q2 q3 q4 q5 q6 q7 q8 q9 q10 q11 q12 q13 q14;go_loopw [27] (fun ix wr=>∃ k:Nat,ix=I Z k/\k<=6/\Am wr (A+1) (FU S z k).cells 58/\Am wr A Ki 58/\Ae w.heap.size w wr) (fun ix _=>6-(intOf ix).toNat)
   case atStart=>exact⟨0,rfl,by omega,HI.out⟩
   case round =>
    obtain⟨k,rfl,hk6,jB,jA,hb⟩:=hrel;clear HI;by_cases hlt:k<6
    ·have hkI:(k:Int)<6:=by omega
     obtain⟨hw1,hw2⟩:=qw k (by omega)
     obtain⟨p,hp⟩:=HG.out.1 k hlt;obtain⟨p2,hp2⟩:=HG.out.2 k hlt;obtain⟨hg1,hg2⟩:=Ji S z hlt;have q2:=ji jB hlt;have q8:=R3 jB hlt;rw[hg1,hp]at q2;rw[hg2,hp2]at q8;have hs:=JI S z k;rw[hg1,hg2,hp,hp2,Int.toNat_natCast,Int.toNat_natCast]at hs;have HS:=Qa hs;have HSa:=Qa (HSer.out wr hb p);have cb:wr.cell? ⟨m.mb,0,none⟩=wr.cell? ⟨m.mb,0,none⟩:=rfl;clear hs hg1 hg2 hp hp2 cb;go_wp2_with fail;refine HSa.out.mono ?_
     rintro e w3 ⟨rfl,hb3⟩
     have jA3:=jA.below hb3 jA.lt;have jB3:=jB.below hb3 jB.lt;have hbw:=qd hb hb3;have z3:=jB3.free;have l3:=jB3.lt;have j4:=QI jB3 hlt (S.Bt p);have jA4:=jA3.An (a:=⟨A+1,2+k,none⟩) (by show A≠A+1;omega) (I Z (S.Bt p))
     have hb4:Ae w.heap.size w (w3.setCell ⟨A+1,2+k,none⟩ (I Z (S.Bt p))):=qo hbw (by show w.heap.size<=A+1;have:=HAe.out;omega) _
     have z4:=j4.free;have l4:=j4.lt;have q3:w3.cell? ⟨A+1,2+k,none⟩=some (I Z p):=(hb3.cell (p:=⟨A+1,2+k,none⟩) jB.lt).trans q2;have q9:(w3.setCell ⟨A+1,2+k,none⟩ (I Z (S.Bt p))).cell? ⟨A+1,8+k,none⟩=some (I Z p2):=by
      have e:=R3 j4 hlt;rw[e];have e2:=R3 jB hlt;rw[q8]at e2;exact e2.symm
     have HSb:=Qa (HSer.out _ hb4 p2);have J4:=Qa j4;have JA4:=Qa jA4;have HB4:=Qa hb4;clear jA jB jA3 jB3 hb hb3 hbw j4 jA4 hb4 q2 q8;go_wp2_with fail;refine HSb.out.mono ?_
     rintro e w5 ⟨rfl,hb5⟩
     have j5:=J4.out.below hb5 J4.out.lt;have z5:=j5.free;have l5:=j5.lt;have q5:w5.cell? ⟨A+1,8+k,none⟩=some (I Z p2):=(hb5.cell (p:=⟨A+1,8+k,none⟩) J4.out.lt).trans q9;have J6:=Qa (Hs j5 hlt (S.Bt p2));have JA6:=Qa ((JA4.out.below hb5 JA4.out.lt).An (a:=⟨A+1,8+k,none⟩) (by show A≠A+1;omega) (I Z (S.Bt p2)))
     have HB6:=Qa (qo (qd HB4.out hb5) (show w.heap.size<=A+1 by have:=HAe.out;omega) (a:=⟨A+1,8+k,none⟩) (I Z (S.Bt p2)))
     clear j5 hb5 q3 q9 z3 l3 z4 l4;go_wp2_with fail;go_roundw
     case rel=>exact⟨k+1,by simp,by omega,by rw[show FU S z (k+1)=Nr S (FU S z k) k from rfl,HS.out];exact J6.out,JA6.out,HB6.out⟩
     case measure=>simp[intOf];omega
    ·obtain rfl:k=6:=by omega
     rw[HSK.out]at jB;clear HSK HSer HG;obtain⟨xb,xn,⟨b0,b1,b2,b3,b4,b5⟩,⟨d0,d1,d2,d3,d4,d5⟩,xl⟩:=X;have cB:=jB.cell;unfold AD.cells at cB;simp only at cB;have cA:=jA.cell;rw[HZZ.out]at cA;have zA:=jA.free;have lA:=jA.lt;have hres:=Qa (me (g:=Cy) jA ⟨xb,xn,⟨b0,b1,b2,b3,b4,b5⟩,⟨d0,d1,d2,d3,d4,d5⟩,xl⟩);have hrb:=Qa (dh hb (show w.heap.size<=A by have:=HAe.out;omega) ⟨xb,xn,⟨b0,b1,b2,b3,b4,b5⟩,⟨d0,d1,d2,d3,d4,d5⟩,xl⟩)
     clear jA jB hb;go_wp2_with fail;change bodyPost _ _ _ _ _ (CN wr A ⟨xb,xn,⟨b0,b1,b2,b3,b4,b5⟩,⟨d0,d1,d2,d3,d4,d5⟩,xl⟩);generalize CN wr A ⟨xb,xn,⟨b0,b1,b2,b3,b4,b5⟩,⟨d0,d1,d2,d3,d4,d5⟩,xl⟩=Y at *;exact bodyPost_ret (yw _ _ 4 5 rfl rfl rfl hres.out) rfl ⟨rfl,hrb.out⟩
end
end
section
open Go.RowKit Hp
def RD (W:Aa)(v:Ac)(l:List Ay):Prop:=l.length<=12/\∃ (o:Own)(t:Tag),Row W o t 73 5 v l.length (jw (l.map Ay.D))
def RB (W:Aa)(v:Ac)(bs:List (List Ay)):Prop:=
 bs.length<=6/\∃ (vs:List Ac)(o:Own)(t:Tag),vs.length=bs.length/\Row W o t 71 1 v bs.length vs/\∀ (j:Nat)(l:List Ay),bs[j]?=some l->∃ u:Ac,vs[j]?=some u/\RD W u l
def RT (W:Aa)(v:Ac)(ths:List (List (List Ay))):Prop:=
 ths.length<=8/\∃ (vs:List Ac)(o:Own)(t:Tag),vs.length=ths.length/\Row W o t 67 1 v ths.length vs/\∀ (j:Nat)(bs:List (List Ay)),ths[j]?=some bs->∃ u:Ac,vs[j]?=some u/\RB W u bs
section
variable {W W' : Aa} {o o' : Own} {v : Ac} {T : Tag -> Prop} {tg : Tag}
theorem RD.below {l:List Ay}(h:RD W v l)(k:Ae W.heap.size W W'):RD W' v l:=by
 obtain⟨h0,o,t,h1⟩:=h;exact⟨h0,o,t,h1.below k⟩
theorem RB.below {bs:List (List Ay)}(h:RB W v bs)(k:Ae W.heap.size W W'):RB W' v bs:=by
 obtain⟨h0,vs,o,t,h1,h2,h3⟩:=h;exact⟨h0,vs,o,t,h1,h2.below k,fun j l hj=>let⟨u,hu,hd⟩:=h3 j l hj;⟨u,hu,hd.below k⟩⟩
theorem RT.below {ths:List (List (List Ay))}(h:RT W v ths)(k:Ae W.heap.size W W'):RT W' v ths:=by
 obtain⟨h0,vs,o,t,h1,h2,h3⟩:=h;exact⟨h0,vs,o,t,h1,h2.below k,fun j l hj=>let⟨u,hu,hd⟩:=h3 j l hj;⟨u,hu,hd.below k⟩⟩
def dD (ths:List (List (List Ay))):List (List (List Pg.D)):=ths.map fun t=>t.map fun l=>l.map Ay.D
theorem RD.at {l:List Ay}(h:RD W v l):B6 W v (l.map Ay.D):=by
 obtain⟨h0,o,t,h1⟩:=h;exact⟨by rw[Qg];simp only[maxLen];omega,by rw[Qg];exact h1.sl⟩
theorem RB.at {bs:List (List Ay)}(h:RB W v bs):BM W v (bs.map fun l=>l.map Ay.D):=by
 obtain⟨h0,vs,o,t,h1,h2,h3⟩:=h;refine⟨by rw[Qg];simp only[maxLen];omega,vs,by rw[Qg];exact h1,by rw[Qg];exact h2.sl,fun j l hj=>?_⟩
 rw[Qj]at hj
 cases hb:bs[j]? with
 | none=>rw[hb]at hj;cases hj
 | some l' =>
  rw[hb]at hj;injection hj with hj;subst hj;obtain⟨u,hu,hd⟩:=h3 j l' hb;exact⟨u,hu,hd.at⟩
theorem RT.at {ths:List (List (List Ay))}(h:RT W v ths):Bd W v (dD ths):=by
 obtain⟨h0,vs,o,t,h1,h2,h3⟩:=h;unfold dD;refine⟨by rw[Qg];simp only[maxLen];omega,vs,by rw[Qg];exact h1,by rw[Qg];exact h2.sl,fun j l hj=>?_⟩
 rw[Qj]at hj
 cases hb:ths[j]? with
 | none=>rw[hb]at hj;cases hj
 | some l' =>
  rw[hb]at hj;injection hj with hj;subst hj;obtain⟨u,hu,hd⟩:=h3 j l' hb;exact⟨u,hu,hd.at⟩
structure D4 (ths:List (List (List Ay))):Prop where
 n1:1<=ths.length
 n8:ths.length<=8
 dk:∀ p ∈ ths,p.length<=6/\∀ ds ∈ p,1<=ds.length/\ds.length<=12/\∀ d ∈ ds,d.ok/\Pg.right d.D=true
theorem D4.check {ths:List (List (List Ay))}(h:D4 ths):check (dD ths)=(0,0,0,0):=by
 refine Up (by unfold dD;rw[Qg];exact h.n1) (by unfold dD;rw[Qg];exact h.n8) fun j z _ hz=>?_
 unfold dD at hz;rw[Qj]at hz
 cases hb:ths[j]? with
 | none=>rw[hb]at hz;cases hz
 | some p =>
  rw[hb]at hz;injection hz with hz;subst hz;obtain⟨h6,hd⟩:=h.dk p (Qe hb);refine TP (by rw[Qg];exact h6) fun j z _ hz=>?_
  rw[Qj]at hz
  cases hb2:p[j]? with
  | none=>rw[hb2]at hz;cases hz
  | some l =>
   rw[hb2]at hz;injection hz with hz;subst hz;obtain⟨h1,h12,hr⟩:=hd l (Qe hb2);refine Ve (by rw[Qg];exact h1) (by rw[Qg];exact h12) fun j z _ hz=>?_
   rw[Qj]at hz
   cases hb3:l[j]? with
   | none=>rw[hb3]at hz;cases hz
   | some d =>
    rw[hb3]at hz;injection hz with hz;subst hz;exact (hr d (Qe hb3)).2
def Kj (W:Aa)(o:Own)(tg tr:Tag)(v:Ac)(bs:List (List Ay)):Prop:=
 bs.length<=6/\∃ vs:List Ac,vs.length=bs.length/\Row W o tr 71 1 v bs.length vs/\∀ (j:Nat)(l:List Ay),bs[j]?=some l->∃ u:Ac,vs[j]?=some u/\KD W o tg u l
theorem Kj.nil (W:Aa)(o:Own)(tg tr:Tag):Kj W o tg tr (Ah none 0 0) []:=⟨by simp,[],rfl,Row.nil _ _ _ _ _,fun j l hj=>by simp at hj⟩
theorem KT.nil (W:Aa)(o:Own)(tg tr:Tag):KT W o tg tr (Ah none 0 0) []:=⟨by simp,[],rfl,Row.nil _ _ _ _ _,fun j l hj=>by simp at hj⟩
theorem Kj.whole {bs:List (List Ay)}{n:Nat}(h:Kj W o (1,0) (3,0) v bs)(ho:∀ b,b<n->o b=(0,0))(o2:Own)(tg:Tag):KB W (ext o2 n tg) tg v bs:=by
 obtain⟨h0,vs,h1,h2,h3⟩:=h;have k:∀ t,t≠(0,0)->∀ b,o b=t->ext o2 n tg b=tg:=fun t ht b hb=>by
  refine qp ?_;refine Classical.byContradiction fun hn=>ht ?_
  rw[<-hb];exact ho b (by omega)
 exact⟨h0,vs,h1,h2.Cd _ _ (k _ (by simp)),fun j l hj=>let⟨u,hu,hd⟩:=h3 j l hj;⟨u,hu,hd.1,hd.2.Cd _ _ (k _ (by simp))⟩⟩
theorem Kj.snoc {w1 w2:Aa}{o2:Own}{bs:List (List Ay)}{vs:List Ac}{l:List Ay}{u v2:Ac}(h6:bs.length+1<=6)(hl:vs.length=bs.length)(h3:∀ (j:Nat)(l:List Ay),bs[j]?=some l->∃ u:Ac,vs[j]?=some u/\KD W o (1,0) u l)
  (hd:KD w1 o' (1,0) u l)(k1:Stp (fun _=>False) o o' W w1)(k2:Stp (fun t=>t=(3,0)) o' o2 w1 w2)(hr:Row w2 o2 (3,0) 71 1 v2 (bs.length+1) (vs++[u])):Kj w2 o2 (1,0) (3,0) v2 (bs++[l]):=by
 refine⟨by rw[Qd];exact h6,vs++[u],by rw[Qd,Qd,hl];rfl,hr.ite (by simp) rfl,fun j z hj=>?_⟩
 by_cases hlt:j<bs.length
 ·rw[Qm hlt]at hj
  obtain⟨x,hx,hk⟩:=h3 j z hj;exact⟨x,by rw[Qm (by omega)];exact hx,(hk.Ao k1 (fun h=>h)).Ao k2 (by simp)⟩
 ·rw[Ql (by omega)]at hj
  have hz:j=bs.length:=by
   have:=(Qc.1 hj).1;simp at this;omega
  subst hz;rw[Nat.sub_self]at hj;simp at hj;subst hj;exact⟨u,by rw[Ql (by omega),hl,Nat.sub_self];rfl,hd.Ao k2 (by simp)⟩
theorem KT.snoc {w1 w2:Aa}{o2:Own}{tr:Tag}{ths:List (List (List Ay))}{vs:List Ac}{bs:List (List Ay)}{u v2:Ac}(hne:tg≠tr)(h8:ths.length+1<=8)(hl:vs.length=ths.length)(h3:∀ (j:Nat)(bs:List (List Ay)),ths[j]?=some bs->∃ u:Ac,vs[j]?=some u/\KB W o tg u bs)
  (hd:KB w1 o' tg u bs)(k1:Stp (fun _=>False) o o' W w1)(k2:Stp (fun t=>t=tr) o' o2 w1 w2)(hr:Row w2 o2 tr 67 1 v2 (ths.length+1) (vs++[u])):KT w2 o2 tg tr v2 (ths++[bs]):=by
 refine⟨by rw[Qd];exact h8,vs++[u],by rw[Qd,Qd,hl];rfl,hr.ite (by simp) rfl,fun j z hj=>?_⟩
 by_cases hlt:j<ths.length
 ·rw[Qm hlt]at hj
  obtain⟨x,hx,hk⟩:=h3 j z hj;exact⟨x,by rw[Qm (by omega)];exact hx,(hk.Ao k1 (fun h=>h)).Ao k2 hne⟩
 ·rw[Ql (by omega)]at hj
  have hz:j=ths.length:=by
   have:=(Qc.1 hj).1;simp at this;omega
  subst hz;rw[Nat.sub_self]at hj;simp at hj;subst hj;exact⟨u,by rw[Ql (by omega),hl,Nat.sub_self];rfl,hd.Ao k2 hne⟩
theorem XD:∃ i,Tryz.prog.info? 58=some i/\i.size=15/\i.bytes=120/\i.zero=some (.agg Ki):=info_parts (by kernel_rfl)
theorem Ks {n:Nat}(h1:1<=n)(h8:n<=8)(w:Aa):(Instr.makeSlice 137 (I Z n) (I Z n)).run Tryz.prog w=.ok (Ah (some ⟨w.heap.size,0,none⟩) n n) (w.alloc (.cells (za (List.replicate n Cy)).toArray 58)):=by
 obtain⟨iI,hi,hsI,hyI,hzI⟩:=XD;have h:=run_make (P:=Tryz.prog) w 137 58 iI _ Tryz.underlying137 hi hzI .i64 .i64 n n (by omega) (by omega) (by rw[hyI];omega) (by omega)
 rw[hsI]at h;simp only[Int.toNat_natCast]at h;have e:madeCells (Value.agg Ki).cells (n*15)=(za (List.replicate n Cy)).toArray:=by
  clear h;obtain rfl|rfl|rfl|rfl|rfl|rfl|rfl|rfl:n=1\/n=2\/n=3\/n=4\/n=5\/n=6\/n=7\/n=8:=by omega
  all_goals kernel_rfl
 rw[h,e]
def Mc.fresh (S:Al)(ths:List (List (List Ay))):Mc:=⟨S,ths,List.replicate ths.length Cy,[]⟩
theorem Nv (l:List (List Ay)):Cp l Cy:=by
 refine⟨?_,?_,Int.le_refl _,⟨Int.le_refl _,by show (0:Int)<=_;omega⟩,fun h=>(by cases h),fun _=>⟨rfl,rfl⟩⟩
 all_goals
  intro j hj;rcases six hj with rfl|rfl|rfl|rfl|rfl|rfl<;>exact⟨0,rfl⟩
theorem Mc.CW {n r u m:Nat}{ths:List (List (List Ay))}(h1:16<=n)(h2:n<=16384)(hr:r<=200)(hu:u<=200)(hm:m<=1099511627776)(ht:D4 ths):(Mc.fresh (Al.fresh n ths.length r u m) ths).ok:=by
 refine⟨Al.CW h1 h2 ht.n1 ht.n8 hr hu hm,Qx,Qx,ht.n8,fun t h=>?_,fun p hp=>?_,Nat.zero_le _,rfl,rfl⟩
 ·have h':t<ths.length:=by simpa [Mc.fresh] using h
  have e:(Mc.fresh (Al.fresh n ths.length r u m) ths).h t=Cy:=by
   unfold Mc.h Mc.fresh;simp only[Qi,Qy,if_pos h',Option.getD_some]
  rw[e];refine⟨Nv _,?_⟩;show ((List.replicate ths.length (Tx.fresh r u)).getD t _).live=false;simp only[Qi,Qy,if_pos h',Option.getD_some];rfl
 ·obtain⟨h6,hd⟩:=ht.dk p hp
  exact⟨h6,fun ds hds=>⟨(hd ds hds).2.1,(hd ds hds).2.2⟩⟩
end
end
section
open Go.RowKit Hp
attribute [local go_sem ↓] Go.wp_at_zero Go.wp_at_succ
section
variable {w w' : Aa} {o o' : Own}
theorem RB.AY {v:Ac}{bs:List (List Ay)}(h:RB w v bs):∃ a c,v=.slice a bs.length c:=by
 obtain⟨_,vs,_,_,_,hr,_⟩:=h;exact hr.AY
theorem RT.at' {v:Ac}{ths:List (List (List Ay))}(h:RT w v ths){t:Nat}{bs:List (List Ay)}(ht:ths[t]?=some bs) :
  ∃ g cp a c,v=Ah (some ⟨g,0,none⟩) ths.length cp/\w.cell? ⟨g,t,none⟩=some (.slice a bs.length c)/\RB w (.slice a bs.length c) bs:=by
 obtain⟨h8,vs,o,tg,hl,hr,hd⟩:=h;obtain⟨u,hu,hb⟩:=hd t bs ht;have hlt:=(Qc.1 ht).1;obtain⟨a,c,rfl⟩:=hb.AY;rcases hr.form with ⟨_,h0⟩|⟨g,cap,e,_⟩
 ·omega
 ·subst e
  exact⟨g,cap,a,c,rfl,hr.cells t _ hu,hb⟩
theorem RB.at' {v:Ac}{bs:List (List Ay)}(h:RB w v bs){t:Nat}{l:List Ay}(ht:bs[t]?=some l) :
  ∃ g cp a c o tg,v=Ah (some ⟨g,0,none⟩) bs.length cp/\w.cell? ⟨g,t,none⟩=some (.slice a l.length c)/\l.length<=12/\Row w o tg 73 5 (.slice a l.length c) l.length (jw (l.map Ay.D)):=by
 obtain⟨h8,vs,o,tg,hl,hr,hd⟩:=h;obtain⟨u,hu,h12,o2,t2,hb⟩:=hd t l ht;have hlt:=(Qc.1 ht).1;obtain⟨a,c,rfl⟩:=hb.AY;rcases hr.form with ⟨_,h0⟩|⟨g,cap,e,_⟩
 ·omega
 ·subst e
  exact⟨g,cap,a,c,o2,t2,rfl,hr.cells t _ hu,h12,hb⟩
theorem WC (l:List Pg.D):∀ u ∈ jw l,u.oneCell'=true:=by
 induction l with
 | nil=>intro u hu;simp[jw]at hu
 | cons d l ih =>
  intro u hu;have e:jw (d::l)=[I Z d.k,I Z d.a,I Z d.b,I Z d.i,I Z d.n]++jw l:=rfl;rw[e,Qs]at hu;rcases hu with hu|hu
  ·exact T4 u hu
  ·exact ih u hu
theorem Yg {W:Aa}{b n:Nat}{l:List AD}{t:Tag}(h:Am W b (za l).toArray 58)(hn:l.length=n)(ht:o b=t)(h8:n<=8):Row W o t 58 15 (Ah (some ⟨b,0,none⟩) n n) n (za l):=by
 have e:=VM l;rw[hn]at e;refine⟨⟨e,.inr ⟨b,n,(za l).toArray,rfl,Nat.zero_le _,h,Qk _,by simp only[maxLen];omega,by simp[e],by simp[e,List.take_of_length_le]⟩⟩,fun k hk=>?_⟩
 have:b=k:=by simpa [Value.ownBlock] using hk
 subst this;exact ht
theorem Vq (n r u:Nat)(b:Int)(h1:16<=n)(h2:n<=16384)(hr:r<=200)(hu:u<=200){v:Ac}{ths:List (List (List Ay))}(ht:D4 ths)(o:Own)(id:Nat)(w:Aa)(hv:RT w v ths)(hfree:∀ b,b<w.heap.size->(o b).1≠id/\(o b).1≠id+2) :
  Ab Tryz.prog 29 #[I Z n,I Z r,I Z u,I Z b,v] w fun e w'=>∃ m o',e=O (Aj #[ptr m.mb,I Z 0])/\m.y.l.id=id /\
   Bp w' o' m (Mc.fresh (Al.fresh n ths.length r u (EB b).toNat) ths)/\Stp (fun _=>False) o o' w w':=by
 obtain⟨iD,hi5,hs5,hy5,hz5⟩:=SZ;obtain⟨iS,hi1,hs1,hy1,hz1⟩:=TO;obtain⟨iB,hi2,hs2,hy2,hz2⟩:=TU;have huD:=Tryz.underlying71;have huS:=Tryz.underlying67;have huB:=Tryz.underlying47;have hck:=UG v (dD ths) w hv.at;unfold yc at hck;rw[ht.check]at hck;have HCk:=Qa (show Ab Tryz.prog 86 #[v] w fun e w'=>e=O (Aj #[I Z 0,Ak #[I Z 0,I Z 0,I Z 0]])/\Ae w.heap.size w w' from hck)
 obtain⟨k,hk⟩:∃ k,k=ths.length:=⟨_,rfl⟩;have k1:1<=k:=by rw[hk];exact ht.n1
 have k8:k<=8:=by rw[hk];exact ht.n8
 have hmk:=@Ks k k1 k8;have HN:=Qa (fun (W:Aa)(hb:Ae w.heap.size w W)=>Nc n k r u b h1 h2 k1 k8 hr hu (ext o w.heap.size (id+1,0)) id W (fun c hc=>by
  by_cases hlt:c<w.heap.size
  ·rw[qj hlt];exact (hfree c hlt).1
  ·rw[qp (by omega)];simp))
 have HFr:=Qa hfree;have HV:=Qa hv;have HTh:=Qa ht;obtain⟨pv,cv,rfl⟩:∃ pv cv,v=.slice pv k cv:=by
  obtain⟨_,vs,_,_,_,hr',_⟩:=hv;rw[hk];exact hr'.AY
 rw[<-hk];have HK:=Qa hk;have kI1:(1:Int)<=(k:Int):=by omega
 have kI8:(k:Int)<=8:=by omega
 generalize (EB b).toNat=B at *;clear hck hfree hv ht hk h1 h2 hr hu;go_enter Tryz.func29,Tryz.ntmps29;go_wp2_with (first
  | (go_at_call 86;refine HCk.out.mono ?_;rintro e w1 ⟨rfl,hb1⟩)
  | (go_at_call 46;refine (HN.out _ (qa hb1 _)).mono ?_;rintro e w2 ⟨y,o1,rfl,hid,hS,hs⟩)
  | fail)
 obtain⟨W0,hW0⟩:∃ W0:Aa,W0=(w2.alloc (.cells (za (List.replicate k Cy)).toArray 58)).alloc (.cells #[ptr y.sb,Ah none 0 0,Ah (some ⟨w2.heap.size,0,none⟩) k k,.int .i32 0,.int .u32 0,Ah none 0 0] 148):=⟨_,rfl⟩;rw[<-hW0];obtain⟨o2,ho2⟩:∃ o2:Own,o2=fun b=>if b=w2.heap.size then (id+2,2) else if b=w2.heap.size+1 then (id+2,0) else o1 b:=⟨_,rfl⟩
 have hbW:Ae w2.heap.size w2 W0:=by rw[hW0];exact qa (qa (qc w2) _) _
 have o2l:∀ b,b<w2.heap.size->o2 b=o1 b:=fun b hb=>by rw[ho2];show (if _ then _ else _)=_;rw[if_neg (by omega),if_neg (by omega)]
 have o2g:o2 w2.heap.size=(id+2,2):=by rw[ho2];exact if_pos rfl
 have o2m:o2 (w2.heap.size+1)=(id+2,0):=by rw[ho2];show (if _ then _ else _)=_;rw[if_neg (by omega),if_pos rfl]
 have sA:Stp (fun _=>False) o (ext o w.heap.size (id+1,0)) w (w1.alloc (.cells #[I Z 0,I Z 0,I Z 0] 35)):=(Stp.of_below (qa hb1 _)).ext _ _ (Qk _)
 have sC:Stp (fun _=>False) o1 o2 w2 W0:=⟨hbW.os,hbW.tape,hbW.output,hbW.size,o2l,fun b hb _=>hbW.block b hb⟩
 have s2:=(sA.trans hs).trans sC;have S0:=hS.Ao sC fun _ h=>h
 have R0:Row W0 o2 (id+2,2) 58 15 (Ah (some ⟨w2.heap.size,0,none⟩) k k) k (za (List.replicate k Cy)):=Yg (by rw[hW0];exact (Am.new w2 _ _).alloc _) Qx o2g k8
 have B0:Am W0 (w2.heap.size+1) #[ptr y.sb,Ah none 0 0,Ah (some ⟨w2.heap.size,0,none⟩) k k,.int .i32 0,.int .u32 0,Ah none 0 0] 148:=by rw[hW0];exact Am.Aq _ _ _ _ _ (by simp) rfl
 obtain⟨mb,hmb⟩:∃ mb,mb=w2.heap.size+1:=⟨_,rfl⟩;obtain⟨g0,hg0⟩:∃ g0,g0=w2.heap.size:=⟨_,rfl⟩;rw[<-hmb]at B0 o2m ⊢;rw[<-hg0]at B0 R0 ⊢;have HS2:=Qa s2;have HS0:=Qa (And.intro S0 (And.intro R0 hid));have HB0:=Qa B0;have HOm:=Qa o2m;have HB0':=Qa (show mb<W0.heap.size from B0.lt);clear hW0 ho2 hbW o2l o2g o2m sA sC s2 S0 R0 B0 hs hS hid hmb hg0 hb1 hmk HN HCk;go_loopw [49] (fun ix wr=>∃ (q:Nat)(vp:Ac)(oo:Own),ix=I Z q/\q<=k/\Am wr mb #[ptr y.sb,vp,Ah (some ⟨g0,0,none⟩) k k,.int .i32 0,.int .u32 0,Ah none 0 0] 148/\KT wr oo (id+2,1) (id+2,4) vp (ths.take q)/\Stp (fun t=>t=(id+2,0)\/t=(id+2,4)) o2 oo W0 wr) (fun ix _=>k-(intOf ix).toNat)
 case atStart=>exact⟨0,_,o2,rfl,Nat.zero_le _,HB0.out,KT.nil _ _ _ _,Stp.refl _ _ _⟩
 case round =>
  clear HB0;obtain⟨q,vp,oo,rfl,hqk,hB,hKT,hs⟩:=hrel;obtain⟨wo,rfl⟩:∃ wo:Aa,wo=wr:=⟨_,rfl⟩;have hbw:Ae w.heap.size w wo:=((HS2.out.mono fun _ h=>h.elim).trans hs).below fun b hb e=>by
   have:=(HFr.out b hb).2;rcases e with e|e<;>rw[e]at this<;>simp at this
  by_cases hlt:q<k
  ·have qI:(q:Int)<(k:Int):=by omega
   have HW:=Qa (qw q (by omega))
   obtain⟨p,hp⟩:∃ p,ths[q]?=some p:=⟨_,Qb (by rw[<-HK.out];exact hlt)⟩
   obtain⟨g,cp,a,c,ev,hcell,hRB⟩:=(HV.out.below hbw).at' hp;injection ev with ev1 ev2 ev3;clear ev2;subst ev1 ev3;obtain⟨h6p,hdp⟩:=HTh.out.dk p (Qe hp);obtain⟨_,vs,hvl,hrow,hvs⟩:=hKT;have htk:(ths.take q).length=q:=by rw[Qp];have:=HK.out;omega
   rw[htk]at hrow hvl;obtain⟨pp,cpp,rfl⟩:=hrow.AY;have cb:=hB.cell;have lb:=hB.lt;have HB:=Qa hB;have HRB:=Qa hRB;have HRow:=Qa hrow;have HVs:=Qa hvs;have HVl:=Qa hvl;have HS:=Qa hs;have HTk:=Qa (show ths.take (q+1)=ths.take q++[p] from by rw[List.take_add_one,hp];rfl)
   have HLen:=Qa htk;have H6:=Qa h6p;obtain⟨np,hnp⟩:∃ np,np=p.length:=⟨_,rfl⟩;rw[<-hnp]at hcell h6p;have HNp:=Qa hnp;have HCL:=Qa (show wo.cell? ⟨g,q,none⟩=wo.cell? ⟨g,q,none⟩ from rfl);clear hB hs hp hRB hdp hrow hvs hvl htk hnp HCL;go_wp2_with fail;clear cb hcell;go_loopw [19,55] (fun vo jx wi=>∃ (j:Nat)(oi:Own),jx=I Z j/\j<=np/\Kj wi oi (1,0) (3,0) vo (p.take j)/\Ae wo.heap.size wo wi/\(∀ b,b<wo.heap.size->oi b=(0,0))) (fun _ jx _=>np-(intOf jx).toNat)
   case atStart=>exact⟨0,fun _=>(0,0),rfl,Nat.zero_le _,Kj.nil _ _ _ _,qc wo,fun _ _=>rfl⟩
   case round =>
    obtain⟨j,oi,rfl,hjn,hKB,hbi,hOi⟩:=hrel;obtain⟨wi,rfl⟩:∃ wi:Aa,wi=wr:=⟨_,rfl⟩;by_cases hlt2:j<np
    ·have hjI:(j:Int)<(np:Int):=by omega
     obtain⟨l,hl⟩:∃ l,p[j]?=some l:=⟨_,Qb (by rw[<-HNp.out];exact hlt2)⟩
     obtain⟨g2,cp2,a2,c2,o3,t3,ev,hcell2,hl12,hrowS⟩:=(HRB.out.below hbi).at' hl;injection ev with ev1 ev2 ev3
     try clear ev2
     subst ev1 ev3;have HW3:=Qa (qw j (by have:=H6.out;have:=HNp.out;omega))
     obtain⟨_,us,hul,hur,hus⟩:=hKB;have htj:(p.take j).length=j:=by rw[Qp];have:=HNp.out;omega
     rw[htj]at hur hul;obtain⟨pu,cu,rfl⟩:=hur.AY;have hk1:0+l.length<=maxLen:=by simp only[maxLen];omega
     have hk2:(0+l.length)*40<=140737488355328:=by omega
     have hml:j+1<=maxLen:=by simp only[maxLen];omega
     have hmb':(j+1)*24<=140737488355328:=by omega
     obtain⟨nl,hnl⟩:∃ nl,nl=l.length:=⟨_,rfl⟩;rw[<-hnl]at hcell2 hrowS hk1 hk2;have HSrc:=Qa hrowS;have HX7:=Qa (fun (w7:Aa)(p1:Option Addr)(c1:Nat)(hr1:Row w7 (fo wi.heap.size) (1,0) 73 5 (.slice p1 nl c1) nl (jw (l.map Ay.D)))(hb7:Ae wi.heap.size wi w7) =>
      show Stp (fun _=>False) oi (ext oi wi.heap.size (1,0)) wi (w7.alloc (.cells #[.slice p1 nl c1] 71))/\KD (w7.alloc (.cells #[.slice p1 nl c1] 71)) (ext oi wi.heap.size (1,0)) (1,0) (.slice p1 nl c1) l /\
       Row (w7.alloc (.cells #[.slice p1 nl c1] 71)) (ext oi wi.heap.size (1,0)) (3,0) 71 1 (.slice pu j cu) j us from by
       have sX:Stp (fun _=>False) oi (ext oi wi.heap.size (1,0)) wi (w7.alloc (.cells #[.slice p1 nl c1] 71)):=(Stp.of_below (qa hb7 _)).ext _ _ (Qk _)
       exact⟨sX,⟨hl12,by rw[<-hnl];exact (hr1.out oi (1,0)).below (qa (qc w7) _)⟩,hur.Ao sX fun h=>h⟩)
     have HSn:=Qa (fun (w7 w8:Aa)(p1:Option Addr)(c1:Nat)(v2:Ac)(o9:Own)(sX:Stp (fun _=>False) oi (ext oi wi.heap.size (1,0)) wi (w7.alloc (.cells #[.slice p1 nl c1] 71)))(hd:KD (w7.alloc (.cells #[.slice p1 nl c1] 71)) (ext oi wi.heap.size (1,0)) (1,0) (.slice p1 nl c1) l)
       (hst2:Stp (fun t=>t=(3,0)) (ext oi wi.heap.size (1,0)) o9 (w7.alloc (.cells #[.slice p1 nl c1] 71)) w8)(hown2:Row w8 o9 (3,0) 71 1 v2 (j+1) (us++[.slice p1 nl c1])) =>
      show Kj w8 o9 (1,0) (3,0) v2 (p.take (j+1))/\Ae wo.heap.size wo w8/\(∀ b,b<wo.heap.size->o9 b=(0,0)) from by
       have e:p.take (j+1)=p.take j++[l]:=by rw[List.take_add_one,hl];rfl
       have st:Stp (fun t=>t=(3,0)) oi o9 wo w8:=((Stp.of_below hbi).trans (sX.mono fun _ h=>h.elim)).trans hst2
       refine⟨?_,st.below fun b hb e=>?_,fun b hb=>(st.tags b hb).trans (hOi b hb)⟩
       ·rw[e]
        have h6:=H6.out;have hn6:=HNp.out;exact Kj.snoc (by rw[htj];omega) (by rw[htj];exact hul) hus hd sX hst2 (hown2.ite (by rw[htj]) rfl)
       ·rw[hOi b hb]at e;simp at e)
     obtain⟨hw3,hw4⟩:=HW3.out;clear hl hrowS hl12 hul hur hus htj hbi hOi hnl;go_wp2_with (first
      | (at_builtin;refine zk _ rfl _ _ _ rfl 73 iD _ 5 40 huD hi5 hz5 hs5 hy5 rfl (by decide) (fo wi.heap.size) (1,0) _ 0 [] rfl (Row.nil _ _ _ _ _) o3 t3 _ nl (jw (l.map Ay.D)) rfl HSrc.out (WC _) hk1 hk2 ?_;intro v1 w7 hown1 hst1;have hr1:=xz (qc wi) hown1;have hb7:=wz (qc wi) hst1;simp only[Nat.zero_add,List.nil_append]at hr1;obtain⟨p1,c1,rfl⟩:=hr1.AY;obtain⟨sX,hd7,rn⟩:=HX7.out w7 p1 c1 hr1 hb7;have jn:=Am.new w7 #[.slice p1 nl c1] 71;clear hr1 hb7 hown1 hst1)
      | (at_builtin;refine qf _ rfl _ _ _ rfl 71 iS _ 1 24 huS hi1 hz1 hs1 hy1 rfl (by decide) (ext oi wi.heap.size (1,0)) (3,0) _ _ _ rfl rn ⟨w7.heap.size,0,none⟩ 1 1 [.slice p1 nl c1] rfl rfl (qx jn) yd hml hmb' ?_;intro v2 w8 hown2 hst2)
      | fail)
     have hSn:=HSn.out w7 w8 p1 c1 v2 _ sX hd7 hst2 hown2;clear sX hd7 hst2 hown2 rn jn;go_roundw
     case rel=>exact⟨j+1,_,by simp,hlt2,hSn⟩
     case measure=>clear hw3 hw4 hk1 hk2 hml hmb';simp[intOf];omega
    ·obtain rfl:j=np:=by omega
     rw[HNp.out,List.take_length]at hKB;have hKB2:=hKB.whole (n:=wo.heap.size) hOi oo (id+2,1);obtain⟨av,cv',rfl⟩:=hKB2.AY;rw[<-HNp.out]at hKB2;rw[<-HNp.out];have jB:=HB.out.below hbi HB.out.lt;have sY:Stp (fun _=>False) oo (ext oo wo.heap.size (id+2,1)) wo (wi.alloc (.cells #[.slice av j cv'] 67)):=(Stp.of_below (qa hbi _)).ext _ _ (Qk _)
     have rn2:=HRow.out.Ao sY fun h=>h
     have hml2:q+1<=maxLen:=by simp only[maxLen];omega
     have hmb2:(q+1)*24<=140737488355328:=by omega
     have HFx:=Qa (fun (w4:Aa)(o4:Own)(p4:Option Addr)(c4:Nat)(hown4:Row w4 o4 (id+2,4) 67 1 (.slice p4 (q+1) c4) (q+1) (vs++[.slice av j cv']))(hst4:Stp (fun t=>t=(id+2,4)) (ext oo wo.heap.size (id+2,1)) o4 (wi.alloc (.cells #[.slice av j cv'] 67)) w4) =>
      show Am w4 mb #[ptr y.sb,.slice pp q cpp,Ah (some ⟨g0,0,none⟩) k k,.int .i32 0,.int .u32 0,Ah none 0 0] 148/\Am (w4.setCell ⟨mb,1,none⟩ (.slice p4 (q+1) c4)) mb #[ptr y.sb,.slice p4 (q+1) c4,Ah (some ⟨g0,0,none⟩) k k,.int .i32 0,.int .u32 0,Ah none 0 0] 148 /\
       KT (w4.setCell ⟨mb,1,none⟩ (.slice p4 (q+1) c4)) o4 (id+2,1) (id+2,4) (.slice p4 (q+1) c4) (ths.take (q+1))/\Stp (fun t=>t=(id+2,0)\/t=(id+2,4)) o2 o4 W0 (w4.setCell ⟨mb,1,none⟩ (.slice p4 (q+1) c4)) from by
       have eo:oo mb=(id+2,0):=(HS.out.tags _ HB0'.out).trans HOm.out;have e6:ext oo wo.heap.size (id+2,1) mb=(id+2,0):=(qj HB.out.lt).trans eo;have jb4:=(jB.alloc (.cells #[.slice av j cv'] 67)).Ao hst4 (by rw[e6];simp)
       have e4:o4 mb=(id+2,0):=(hst4.tags _ (jB.alloc _).lt).trans e6;have k5:Stp (fun t=>t=(id+2,0)) o4 o4 w4 (w4.setCell ⟨mb,1,none⟩ (.slice p4 (q+1) c4)):=(Stp.refl _ o4 w4).setCell (by show o4 mb=_;exact e4) _
       have kt:KT w4 o4 (id+2,1) (id+2,4) (.slice p4 (q+1) c4) (ths.take q++[p]):=KT.snoc (by simp) (by rw[HLen.out];omega) (by rw[HLen.out];exact HVl.out) HVs.out (hKB2.Ao (Stp.of_below (T:=fun _=>False) (qa (qc wi) _)) fun h=>h) sY hst4 (hown4.ite (by rw[HLen.out]) rfl)
       refine⟨jb4,jb4.set 1 _,?_,?_⟩
       ·rw[HTk.out];exact kt.Ao k5 (by simp) (by simp)
       ·exact (HS.out.trans ((sY.mono fun _ h=>h.elim).trans (hst4.mono fun _ h=>.inr h))).trans (k5.mono fun _ h=>.inl h))
     have cb:=jB.cell;have lb:=jB.lt;have HRn:=Qa rn2;obtain⟨hw1,hw2⟩:=HW.out;clear hKB hKB2 jB sY rn2 hbi hOi hlt2 hjn;go_wp2_with (first
      | (at_builtin;refine qf _ rfl _ _ _ rfl 67 iB _ 1 24 huB hi2 hz2 hs2 hy2 rfl (by decide) (ext oo wo.heap.size (id+2,1)) (id+2,4) _ _ _ rfl HRn.out ⟨wi.heap.size,0,none⟩ 1 1 [.slice av j cv'] rfl rfl (qx (Am.new wi _ _)) yd hml2 hmb2 ?_;intro v4 w4 hown4 hst4;obtain⟨p4,c4,rfl⟩:=hown4.AY;obtain⟨j4,hfx⟩:=HFx.out _ _ _ _ hown4 hst4;have c4':=j4.cell;have z4:=j4.free;have l4:=j4.lt)
      | fail)
     clear hown4 hst4 j4;go_roundw
     case rel=>exact⟨q+1,_,_,by simp,hlt,hfx⟩
     case measure=>clear hw1 hw2 hml2 hmb2;simp[intOf];omega
  ·obtain rfl:q=k:=by omega
   rw[HK.out,List.take_length]at hKT;have hM:Bp wo oo ⟨mb,y,vp,Ah (some ⟨g0,0,none⟩) q q⟩ (Mc.fresh (Al.fresh n q r u B) ths):=by
    obtain⟨hS0,hR0,hid⟩:=HS0.out;refine⟨⟨Ah none 0 0,hB,Row.nil _ _ _ _ _⟩,hS0.Ao hs fun j e=>by rw[hid]at e;simp at e,?_,?_,?_⟩
    ·show KT wo oo (y.l.id+2,1) (y.l.id+2,4) vp ths
     rw[hid];exact hKT
    ·show Row wo oo (y.l.id+2,2) _ 15 _ (List.replicate ths.length Cy).length (za (List.replicate ths.length Cy))
     rw[Qx,<-HK.out,hid];exact hR0.Ao hs (by simp)
    ·show oo mb=(y.l.id+2,0)
     rw[hid];exact (hs.tags _ HB0'.out).trans HOm.out
   have HFin:=Qa (And.intro hM (((HS2.out.mono fun _ h=>h.elim).trans hs).strict fun b hb e=>by
    have:=(HFr.out b hb).2;rcases e with e|e<;>rw[e]at this<;>simp at this))
   clear hM hB hKT hs hbw hlt hqk;go_wp2_with fail;go_ret2;exact⟨_,oo,rfl,HS0.out.2.2,HFin.out.1,HFin.out.2⟩
end
end
section
open Go.RowKit Hp
open Go.MuLone
attribute [local go_sem ↓] Go.wp_at_zero Go.wp_at_succ
theorem Gi {b:Nat} {c0 c1 c2 v:Ac} (x:CS) {es:List CS} {w:Aa} {o:Own} {tg:Tag} (jb:Am w b #[c0,c1,c2,.int .i32 0,.int .u32 0,v] 148)
  (hr:Row w o tg 69 6 v es.length (zc es)) (hn:es.length<2000) (nb:o b≠tg) :
  Ab Tryz.prog 91 #[Ag (some ⟨b,3,none⟩),x.val] w fun e w'=>e=O (Aj #[])/\∃ v' o',Am w' b #[c0,c1,c2,.int .i32 0,.int .u32 0,v'] 148 /\
   Row w' o' tg 69 6 v' (es++[x]).length (zc (es++[x]))/\Stp (fun u=>u=tg\/u=o b) o o' w w':=by
 obtain⟨iU,hi,hsI,hyI,hzI⟩:=Vp;have hu64:=Tryz.underlying62;have hlen:(es++[x]).length=es.length+1:=by simp
 rw[hlen,X2];obtain⟨xt,xb,xn,⟨xk,xe,xv⟩⟩:=x;obtain⟨pa,cp,rfl⟩:=hr.AY;obtain⟨cs,hcs⟩:∃ cs,cs=zc es:=⟨_,rfl⟩;obtain⟨n,hnn⟩:∃ n,n=es.length:=⟨_,rfl⟩;rw[<-hcs,<-hnn]at hr;rw[<-hnn]at jb;rw[<-hcs,<-hnn];rw[<-hnn]at hn;show Ab _ _ #[Ag (some ⟨b,3,none⟩),Ak #[I Z xt,I Z xb,I Z xn,I Z xk,I Z xe,I Z xv]] _ _;obtain⟨z,hz⟩:∃ z,z=w.heap.size:=⟨_,rfl⟩;obtain⟨W,hW⟩:∃ W:Aa,W=w.alloc (.cells #[I Z xt,I Z xb,I Z xn,I Z xk,I Z xe,I Z xv] 69):=⟨_,rfl⟩;have hb:Ae w.heap.size w W:=by rw[hW];exact qa (qc w) _
 have jW:=jb.below hb jb.lt;have jX:Am W z #[I Z xt,I Z xb,I Z xn,I Z xk,I Z xe,I Z xv] 69:=by rw[hW,hz];exact Am.new w _ _
 have q0:W.cell? ⟨b,3,none⟩=some (.int .i32 0):=jW.cell 3;have fW:W.frozen? ⟨b,3,none⟩=false:=jW.free 3;have hbz:b<z:=by rw[hz];exact jb.lt
 have hzW:z<W.heap.size:=jX.lt
 have H1:=Qa (fun (W1:Aa) (h:W1=W.setCell ⟨b,3,none⟩ (.int .i32 1)) =>
  show Am W1 b #[c0,c1,c2,.int .i32 1,.int .u32 0,.slice pa n cp] 148/\Am W1 z #[I Z xt,I Z xb,I Z xn,I Z xk,I Z xe,I Z xv] 69/\Row W1 o tg 69 6 (.slice pa n cp) n cs/\Stp (fun u=>u=o b) o o w W1 from by
   subst h;have k:Stp (fun u=>u=o b) o o W (W.setCell ⟨b,3,none⟩ (.int .i32 1)):=(Stp.refl _ o W).setCell (by show o b=o b;rfl) _
   exact⟨jW.set 3 _,jX.An (by show z≠b;omega) _,(hr.below hb).Ao k (fun e=>nb e.symm),(Stp.of_below hb).trans k⟩)
 have HF:=Qa (fun (W1 w5:Aa) (o5:Own) (p5:Option Addr) (c5:Nat) (j1:Am W1 b #[c0,c1,c2,.int .i32 1,.int .u32 0,.slice pa n cp] 148) (s1:Stp (fun u=>u=o b) o o w W1)
   (hown:Row w5 o5 tg 69 6 (.slice p5 (n+1) c5) (n+1) (cs++[I Z xt,I Z xb,I Z xn,I Z xk,I Z xe,I Z xv]))
   (hst:Stp (fun u=>u=tg) o o5 (W1.drew.alloc (.cells #[I Z xt,I Z xb,I Z xn,I Z xk,I Z xe,I Z xv] 69)) w5) =>
  show Am w5 b #[c0,c1,c2,.int .i32 1,.int .u32 0,.slice pa n cp] 148/\Am (w5.setCell ⟨b,5,none⟩ (.slice p5 (n+1) c5)) b #[c0,c1,c2,.int .i32 1,.int .u32 0,.slice p5 (n+1) c5] 148 /\
   ∃ o',Am ((w5.setCell ⟨b,5,none⟩ (.slice p5 (n+1) c5)).setCell ⟨b,3,none⟩ (.int .i32 0)) b #[c0,c1,c2,.int .i32 0,.int .u32 0,.slice p5 (n+1) c5] 148 /\
    Row ((w5.setCell ⟨b,5,none⟩ (.slice p5 (n+1) c5)).setCell ⟨b,3,none⟩ (.int .i32 0)) o' tg 69 6 (.slice p5 (n+1) c5) (n+1) (cs++[I Z xt,I Z xb,I Z xn,I Z xk,I Z xe,I Z xv]) /\
    Stp (fun u=>u=tg\/u=o b) o o' w ((w5.setCell ⟨b,5,none⟩ (.slice p5 (n+1) c5)).setCell ⟨b,3,none⟩ (.int .i32 0)) from by
   have kb:Ae W1.heap.size W1 (W1.drew.alloc (.cells #[I Z xt,I Z xb,I Z xn,I Z xk,I Z xe,I Z xv] 69)):=qa (qe (qc W1)) _;have j2:=(j1.below kb j1.lt).Ao hst nb;have e5:o5 b=o b:=hst.tags _ (j1.below kb j1.lt).lt;have j3:=j2.set 5 (.slice p5 (n+1) c5);have k3:Stp (fun u=>u=o b) o5 o5 w5 ((w5.setCell ⟨b,5,none⟩ (.slice p5 (n+1) c5)).setCell ⟨b,3,none⟩ (.int .i32 0)):=((Stp.refl _ o5 w5).setCell (by show o5 b=o b;exact e5) _).setCell (by show o5 b=o b;exact e5) _
   exact⟨j2,j3,o5,j3.set 3 _,hown.Ao k3 (fun e=>nb e.symm),(s1.mono fun _ h=>.inr h).trans (((Stp.of_below kb).trans hst).mono (fun _ h=>.inl h) |>.trans (k3.mono fun _ h=>.inr h))⟩)
 have hnI:(n:Int)<2000:=by omega
 have hml:n+1<=maxLen:=by simp only[maxLen];omega
 have hmb:(n+1)*48<=140737488355328:=by omega
 have h1c:∀ u ∈ [Value.int .i64 xt,I Z xb,I Z xn,I Z xk,I Z xe,I Z xv],u.oneCell'=true:=by intro u hu;simp at hu;rcases hu with rfl|rfl|rfl|rfl|rfl|rfl<;>rfl
 clear hr hn hcs hnn hb jW jX hbz hzW jb;go_enter_defers Tryz.func91,Tryz.ntmps91
 go_upto_region 4 with (first
  | (go_at_call 148;rw[<-hW];refine (lock_free Tryz.muLib ⟨b,3,none⟩ _ q0 fW).mono ?_;rintro e W1 ⟨rfl,hW1⟩;obtain⟨j1,jx1,r1,s1⟩:=H1.out W1 hW1;clear hW1 hW q0 fW H1;have d1:=j1.cell;have f1:=j1.free;have l1:=j1.lt;have d2:=jx1.cell;rw[hz]at d2)
  | fail)
 have S1:=Qa s1;have J1:=Qa j1;have jn:=Am.new W1.drew #[I Z xt,I Z xb,I Z xn,I Z xk,I Z xe,I Z xv] 69;have rn:=r1.below (qa (qe (qc W1)) (.cells #[I Z xt,I Z xb,I Z xn,I Z xk,I Z xe,I Z xv] 69));clear s1 j1 jx1 r1;refine wp_region_noPanic ?_;go_region_law ((refine zj _ (by rfl) _ _ _ (by rfl) 69 iU _ 6 48 hu64 hi hzI hsI hyI (by rfl) (by decide) o tg _ _ _ (by rfl) rn ⟨W1.heap.size,0,none⟩ 1 1 [I Z xt,I Z xb,I Z xn,I Z xk,I Z xe,I Z xv] (by rfl) (by rfl) (pw jn) h1c hml hmb ?_;intro v' w5 hown hst;obtain⟨p5,c5,rfl⟩:=hown.AY;obtain⟨jY,jZ,hfin⟩:=HF.out _ _ _ _ _ J1.out S1.out hown hst;have cX:=jY.cell;have zX:=jY.free;have sX:=jY.lt))
 all_goals
  refine NoPanic.normal ?_
  try go_wp2_with fail
  refine leaves_cons (f:=149) (args:=#[Ag (some ⟨b,3,none⟩)]) (by simp) (by simp[go_sem]) ?_
  refine (unlock_deferred Tryz.muLib ⟨b,3,none⟩ .returning _ (jZ.cell 3) (jZ.free 3)).mono ?_
  rintro e u' w'' ⟨rfl,rfl,rfl⟩
  exact⟨Aj #[],by simp[results,Tryz.results91,go_sem],rfl,_,hfin⟩
def y7 (m:BZ)(t:Tag):Prop:=t=(m.y.l.id+2,3)\/t=(m.y.l.id+2,0)
theorem SY {w:Aa}{o:Own}{m:BZ}{M:Mc}(h:Bp w o m M)(x:CS) :
  Ab Tryz.prog 91 #[Ag (some ⟨m.mb,3,none⟩),x.val] w fun e w'=>e=O (Aj #[])/\∃ o',Bp w' o' m { M with past:=kh M.past x }/\Stp (y7 m) o o' w w':=by
 obtain⟨ve,jb,hr⟩:=h.AU;have fin:∀ {w':Aa}{o':Own}{l:List CS},(∃ v',Am w' m.mb #[ptr m.y.sb,m.vp,m.vh,.int .i32 0,.int .u32 0,v'] 148/\Row w' o' (m.y.l.id+2,3) 69 6 v' l.length (zc l))->Stp (y7 m) o o' w w'->Bp w' o' m { M with past:=l }:=by
  intro w' o' l hb hs;have hn:∀ j,¬y7 m (m.y.l.id,j):=fun j e=>by rcases e with e|e<;>simp at e
  have hn2:∀ j,j≠0->j≠3->¬y7 m (m.y.l.id+2,j):=fun j h0 h3 e=>by rcases e with e|e<;>simp at e<;>omega
  exact⟨hb,h.st.Ao hs hn,h.ps.Ao hs (hn2 1 (by omega) (by omega)) (hn2 4 (by omega) (by omega)),h.hs.Ao hs (hn2 2 (by omega) (by omega)),(hs.tags _ h.lt).trans h.om⟩
 unfold kh;by_cases hl:M.past.length<2000
 ·rw[if_pos hl]
  refine (Gi x jb hr hl (by rw[h.om];simp)).mono ?_
  rintro e w' ⟨rfl,v',o',h1,h2,h3⟩
  have h4:Stp (y7 m) o o' w w':=h3.mono (by rintro t (rfl|rfl);exact .inl rfl;exact .inr h.om)
  exact⟨rfl,o',fin ⟨v',h1,h2⟩ h4,h4⟩
 ·rw[if_neg hl]
  obtain⟨pa,cp,rfl⟩:=hr.AY;refine (Xn m.mb M.past.length cp pa x w (jb.cell 3) (jb.cell 5) (jb.free 3) jb.lt (by omega)).mono ?_
  rintro e w' ⟨rfl,X,rfl⟩
  have e1:o m.mb=(m.y.l.id+2,0):=h.om;have k1:Stp (y7 m) o o w (w.setCell ⟨m.mb,3,none⟩ (.int .i32 1)):=(Stp.refl _ o w).setCell (by show y7 m (o m.mb);rw[e1];exact .inr rfl) _
  have k2:Stp (y7 m) o o w ((w.setCell ⟨m.mb,3,none⟩ (.int .i32 1)).alloc X):=k1.trans (Stp.of_below (qa (qc _) X));have k3:Stp (y7 m) o o w (((w.setCell ⟨m.mb,3,none⟩ (.int .i32 1)).alloc X).setCell ⟨m.mb,3,none⟩ (.int .i32 0)):=k2.setCell (by show y7 m (o m.mb);rw[e1];exact .inr rfl) _
  have j3:=((jb.set 3 (.int .i32 1)).alloc X).set 3 (.int .i32 0);have hr3:=hr.Ao ((Stp.refl (fun t=>t=(m.y.l.id+2,0)) o w).setCell (a:=⟨m.mb,3,none⟩) (by show o m.mb=_;exact e1) (.int .i32 1)) (by simp)
  have hr4:=hr3.below (qa (qc _) X);have hr5:=hr4.Ao ((Stp.refl (fun t=>t=(m.y.l.id+2,0)) o _).setCell (a:=⟨m.mb,3,none⟩) (by show o m.mb=_;exact e1) (.int .i32 0)) (by simp)
  exact⟨rfl,o,fin ⟨_,j3,hr5⟩ k3,k3⟩
end
section
open Hp
def bf (e:Int):Bool:=ry e||e==120
structure En (k i a b c d:Nat)(S:Al):Prop where
 ok:S.ok
 hi:i<S.Aw.length
 DY:∀ j,j≠i->(S.t j).live=false
 emp:∀ j,(S.t j).live=false->(S.t j).log.reads=[]/\(S.t j).log.keeps=[]/\(S.t j).log.holds=[]/\(S.t j).log.Au=[]
 lg:∀ j,j<S.Aw.length->(S.t j).log.mr=100/\(S.t j).log.mu=100
 he:HE S.H S.now i ((S.t i).log.holds.map (·.1)) k
 hv:∀ z ∈ (S.t i).log.holds,z.2<=S.now
 st:(S.t i).live=true->(S.t i).start=S.now
 ln:(S.t i).log.reads.length<=a/\(S.t i).log.keeps.length<=b/\(S.t i).log.holds.length<=c/\(S.t i).log.Au.length<=d
 nw:S.now<=k
 mo:S.most=999
 ho:S.Av=-1\/(S.Av=i/\(S.t i).live=true)
def pu (i:Nat)(S:Al):Nat:=S.H.pz+(S.t i).log.Au.length
section
variable {k i a b c d : Nat} {S S' : Al}
theorem En.holds0 (h:En k i a b c d S)(hl:(S.t i).live=false):(S.t i).log.holds=[]:=(h.emp i hl).2.2.1
theorem En.up (h:En k i a b c d S){k' a' b' c' d':Nat}(hk:k<=k')(ha:a<=a')(hb:b<=b')(hc:c<=c')(hd:d<=d'):En k' i a' b' c' d' S:=
 ⟨h.ok,h.hi,h.DY,h.emp,h.lg,⟨h.he.m,h.he.hu.mono hk⟩,h.hv,h.st,by have:=h.ln;omega,Qo h.nw hk,h.mo,h.ho⟩
theorem En.SR (h:En k i a b c d S)(hl:(S.t i).live=false){j:Nat}(hj:j<S.Aw.length):En k j 0 0 0 0 S:=by
 have hall:∀ u,(S.t u).live=false:=fun u=>by
  by_cases e:u=i
  ·rw[e];exact hl
  ·exact h.DY u e
 have e1:=h.emp j (hall j);have h0:=h.he;rw[h.holds0 hl]at h0;refine⟨h.ok,hj,fun u _=>hall u,h.emp,h.lg,?_,(fun z hz=>by rw[e1.2.2.1]at hz;cases hz),(fun h2=>by rw[hall j]at h2;cases h2),by rw[e1.1,e1.2.1,e1.2.2.1,e1.2.2.2];exact⟨Qk _,Qk _,Qk _,Qk _⟩,h.nw,h.mo,?_⟩
 ·rw[e1.2.2.1];exact⟨h0.m.SR j,h0.hu⟩
 ·rcases h.ho with h1|⟨_,h2⟩
  ·exact .inl h1
  ·rw[hl]at h2;cases h2
theorem En.tx (h:En k i a b c d S)(hl:(S.t i).live=true){x:Tx}(hk:(S.tx i x).ok)(e1:x.live=true)(e2:x.start=(S.t i).start)(e3:x.log.mr=(S.t i).log.mr)(e4:x.log.mu=(S.t i).log.mu)(e5:x.log.holds=(S.t i).log.holds)
  {a' b' c' d':Nat}(ln:x.log.reads.length<=a'/\x.log.keeps.length<=b'/\x.log.holds.length<=c'/\x.log.Au.length<=d'):En k i a' b' c' d' (S.tx i x):=by
 have hx:=Al.CO (S:=S) h.hi x;have hne:∀ j,j≠i->(S.tx i x).t j=S.t j:=fun j e=>Al.Dm S (fun z=>e z.symm) x
 have hlen:=Al.Cg S i x;refine⟨hk,by rw[hlen];exact h.hi,fun j e=>by rw[hne j e];exact h.DY j e,fun j hj=>?_,fun j hj=>?_,by rw[hx,e5];exact h.he,by rw[hx,e5];exact h.hv,fun _=>by rw[hx,e2];exact h.st hl,by rw[hx];exact ln,h.nw,h.mo,?_⟩
 ·by_cases e:j=i
  ·rw[e,hx,e1]at hj;cases hj
  ·rw[hne j e]at hj ⊢;exact h.emp j hj
 ·rw[hlen]at hj
  by_cases e:j=i
  ·rw[e,hx,e3,e4];exact h.lg i h.hi
  ·rw[hne j e];exact h.lg j hj
 ·rw[hx,e1]
  exact h.ho.imp id fun e=>⟨e.1,rfl⟩
theorem En.heap (h:En k i a b c d S){H:Hp}(hk:(S.h H).ok){k':Nat}(hkk:k<=k')(he:HE H S.now i ((S.t i).log.holds.map (·.1)) k'):En k' i a b c d (S.h H):=
 ⟨hk,h.hi,h.DY,h.emp,h.lg,he,h.hv,h.st,h.ln,Qo h.nw hkk,h.mo,h.ho⟩
theorem En.Fs (h:En k i a b c d S)(hl:(S.t i).live=true){p:Nat}{ob:Ob}(hp:lk S.H.cur p=some ob):vg i (S.t i).start ob.second=false:=by
 unfold vg;rcases h.he.m.c _ (zo hp) with h1|⟨h1,_⟩
 ·have h2:ob.second%2=0/\ob.second/2<=S.now:=h1
  rw[if_neg (by omega),h.st hl]
  exact decide_eq_false (by omega)
 ·have h2:ob.second=2*i+1:=h1
  rw[if_pos (by omega)]
  exact decide_eq_false (by omega)
theorem En.look (h:En k i a b c d S)(hl:(S.t i).live=true)(ha:a<100)(p:Nat):En k i (a+1) b c d (S.AK i p).1/\bf (S.AK i p).2.1=false/\(S.AK i p).1.H=S.H/\((S.AK i p).2.1=0->∃ ob,lk S.H.cur p=some ob)/\pu i (S.AK i p).1=pu i S:=by
 have hok:=Al.Dd h.ok h.hi p;have h0:=h.up (Qk k) (Nat.le_succ a) (Qk b) (Qk c) (Qk d);have hln:=h.ln;have hmr:=(h.lg i h.hi).1;have hnb:wv (S.t i).log.reads p (S.t i).log.mr=true:=by unfold wv;rw[hmr];exact decide_eq_true (.inr (by omega))
 unfold Al.AK at hok ⊢;split
 ·exact⟨h0,rfl,rfl,(fun e=>by simp at e),rfl⟩
 ·rename_i hp0
  rw[if_neg hp0]at hok;split
  ·exact⟨h0,rfl,rfl,(fun e=>by simp at e),rfl⟩
  ·rename_i ob hp
   simp only[hp]at hok;have hc:=h.Fs hl hp;rw[if_neg (by rw[hc];simp)]at hok
   rw[if_neg (by rw[hc];simp)]
   refine⟨h.tx hl hok hl rfl rfl rfl rfl ⟨?_,hln.2.1,hln.2.2.1,hln.2.2.2⟩,?_,rfl,(fun _=>⟨ob,hp⟩),?_⟩
   ·show (yk (S.t i).log.reads p (S.t i).log.mr).length<=a+1
    unfold yk;split
    ·omega
    ·split
     ·rw[Qd,List.length_singleton];omega
     ·omega
   ·simp only[hnb,if_true]
    split<;>rfl
   ·unfold pu
    rw[Al.CO h.hi];rfl
theorem En.fields (h:En k i a b c d S)(hl:(S.t i).live=true)(ha:a<100)(p:Nat):En k i (a+1) b c d (S.Ar i p).1/\bf (S.Ar i p).2=false/\(S.Ar i p).1.H=S.H/\((S.Ar i p).2=0->∃ ob,lk S.H.cur p=some ob)/\pu i (S.Ar i p).1=pu i S:=by
 obtain⟨h1,h2,h3,h4,h5⟩:=h.look hl ha p;refine⟨h1,?_,h3,fun e=>?_,h5⟩
 ·unfold Al.Ar
  simp only;split
  ·split<;>rfl
  ·exact h2
 ·unfold Al.Ar at e
  simp only at e;split at e
  ·rename_i e0;exact h4 e0
  ·rename_i e0;exact absurd e e0
theorem MY {H:Hp}{p:Nat}{ob:Ob}(hp:lk H.cur p=some ob):H.sec p=ob.second:=by unfold Hp.sec;rw[hp]
theorem En.E2 (h:En k i a b c d S) (hl:(S.t i).live=true) (hc:c<100) {p v:Nat} {ob:Ob} (hp:lk S.H.cur p=some ob) (hno:p ∉ (S.t i).log.holds.map (·.1)) (hv:v<=S.now) :
  (S.AZ i p v).2=true/\En k i a b (c+1) d ((S.AZ i p v).1.DW i p)/\pu i ((S.AZ i p v).1.DW i p)<=pu i S:=by
 have hln:=h.ln;have hlg:=h.lg i h.hi;have hm:wb (S.t i).log p=true:=by
  unfold wb;rw[hlg.2];simp only[Bool.and_eq_true,decide_eq_true_eq];exact⟨fun z hz e=>hno (Qt.2 ⟨z,hz,e⟩),by omega⟩
 have hn1:=h.ok.n1;have hn2:=h.ok.n2;have hok:=Al.Fa (Al.C8 h.ok h.hi p v (by omega)) (i:=i) (by rw[xg];exact h.hi) p
 unfold Al.AZ at hok ⊢;rw[if_pos hm]at hok ⊢;have hx:=Al.CO (S:=S) h.hi ((S.t i).holding p v);have hne:∀ j,j≠i->((S.tx i ((S.t i).holding p v)).DW i p).t j=S.t j:=fun j e=>Al.Dm S (fun z=>e z.symm) _
 refine⟨rfl,⟨hok,by show i<(S.Aw.set i _).length;rw[Qq];exact h.hi,fun j e=>by rw[hne j e];exact h.DY j e,fun j hj=>?_,fun j hj=>?_,?_,?_,?_,?_,h.nw,h.mo,?_⟩,?_⟩
 ·by_cases e:j=i
  ·rw[e]at hj
   have:((S.tx i ((S.t i).holding p v)).t i).live=false:=hj;rw[hx]at this;have h2:(S.t i).live=false:=this;rw[hl]at h2;cases h2
  ·rw[hne j e]at hj ⊢;exact h.emp j hj
 ·by_cases e:j=i
  ·rw[e]
   show ((S.tx i ((S.t i).holding p v)).t i).log.mr=100/\((S.tx i ((S.t i).holding p v)).t i).log.mu=100;rw[hx];exact hlg
  ·rw[hne j e]
   exact h.lg j (by have:j<(S.Aw.set i ((S.t i).holding p v)).length:=hj;rwa [Qq]at this)
 ·show HE (S.H.AB p (2*i+1)).1 S.now i (((S.tx i ((S.t i).holding p v)).t i).log.holds.map (·.1)) k
  rw[hx];show HE _ _ _ (((S.t i).log.holds++[(p,v)]).map (·.1)) k;rw[Qw];exact h.he.own hp
 ·show ∀ z ∈ ((S.tx i ((S.t i).holding p v)).t i).log.holds,z.2<=S.now
  rw[hx];intro z hz;rcases Qs.1 (show z ∈ (S.t i).log.holds++[(p,v)] from hz) with hz|hz
  ·exact h.hv z hz
  ·rw[Za.1 hz];exact hv
 ·intro _
  show ((S.tx i ((S.t i).holding p v)).t i).start=S.now;rw[hx];exact h.st hl
 ·show ((S.tx i ((S.t i).holding p v)).t i).log.reads.length<=a/\((S.tx i ((S.t i).holding p v)).t i).log.keeps.length<=b/\((S.tx i ((S.t i).holding p v)).t i).log.holds.length<=c+1/\((S.tx i ((S.t i).holding p v)).t i).log.Au.length<=d
  rw[hx];refine⟨hln.1,hln.2.1,?_,hln.2.2.2⟩;show ((S.t i).log.holds++[(p,v)]).length<=c+1;rw[Qd,List.length_singleton];omega
 ·show S.Av=-1\/(S.Av=i/\((S.tx i ((S.t i).holding p v)).t i).live=true)
  rw[hx];exact h.ho
 ·show (S.H.AB p (2*i+1)).1.pz+((S.tx i ((S.t i).holding p v)).t i).log.Au.length<=S.H.pz+(S.t i).log.Au.length
  rw[hx];have:=Rl h.ok.H.ok p (2*i+1);show _+(S.t i).log.Au.length<=_;omega
theorem En.hold (h:En k i a b c d S)(hl:(S.t i).live=true)(hc:c<100){p:Nat}{ob:Ob}(hp:lk S.H.cur p=some ob):(S.A2 i p).2=true/\En k i a b (c+1) d (S.A2 i p).1/\pu i (S.A2 i p).1<=pu i S:=by
 unfold Al.A2;split
 ·exact⟨rfl,h.up (Qk _) (Qk _) (Qk _) (Nat.le_succ _) (Qk _),Qk _⟩
 ·rename_i hs
  rw[MY hp]at hs ⊢;have hev:Ev S.now ob.second:=(h.he.m.c _ (zo hp)).resolve_right fun e=>by
   have:ob.second=2*i+1:=e.1;omega
  obtain⟨h1,h2,h3⟩:=h.E2 hl hc hp (v:=ob.second/2) (fun hm=>by
   obtain⟨o2,h3,h4⟩:=h.he.m.h p hm;rw[hp]at h3;injection h3 with h3;subst h3;omega) hev.2
  rw[if_pos h1];exact⟨rfl,h2,h3⟩
theorem En.DR (h:En k i a b c d S)(hl:(S.t i).live=true)(hd:d<100)(u:Un)(h1:-9223372036854775808<=u.old/\u.old<=9223372036854775807)(h2:u.kind=1->0<=u.old):(S.BC i u).2=true/\En k i a b c (d+1) (S.BC i u).1/\pu i (S.BC i u).1=pu i S+1:=by
 have hln:=h.ln;have hok:=Al.Dv h.ok h.hi u h1 h2;unfold Al.BC at hok ⊢;have hm:(S.t i).log.Au.length<(S.t i).log.mu:=by rw[(h.lg i h.hi).2];omega
 rw[if_pos hm]at hok ⊢;refine⟨rfl,h.tx hl hok hl rfl rfl rfl rfl ⟨hln.1,hln.2.1,hln.2.2.1,?_⟩,?_⟩
 ·show ((S.t i).log.Au++[u]).length<=d+1
  rw[Qd,List.length_singleton];omega
 ·unfold pu
  rw[Al.CO h.hi];show S.H.pz+((S.t i).log.Au++[u]).length=_;rw[Qd,List.length_singleton];omega
def Gd (k i n m:Nat)(r:Bv):Prop:=bf r.e=false/\En k i n n n n r.S/\pu i r.S<=m+2
theorem YX (p:Nat):((S.A2 i p).1.t i).live=(S.t i).live:=(Mv.hold i S p).lv
theorem Ri {n:Nat} (h:En k i (n+1) n n n S) (hl:(S.t i).live=true) (hn:n<100) {p:Nat} {ob:Ob} (hp:lk S.H.cur p=some ob) {u:Un} (h1:-9223372036854775808<=u.old/\u.old<=9223372036854775807) (h2:u.kind=1->0<=u.old)
  {set:Hp->Hp×Nat} (hs:∀ {T:Al},T.ok->(T.h (set T.H).1).ok) (hs2:∀ {H:Hp} {n i:Nat} {hs:List Nat} {k:Nat},HE H n i hs k->HE (set H).1 n i hs k) (hs3:∀ H,(set H).2=0\/(set H).2=70\/(set H).2=71) (hs4:∀ {H:Hp},H.ok->(set H).1.pz<=H.pz+1):Gd k i (n+1) (pu i S) (S.Cd i p u set):=by
 obtain⟨q1,q2,q5⟩:=h.hold hl hn hp;have hl2:=(YX (S:=S) (i:=i) p).trans hl;obtain⟨q3,q4,q6⟩:=q2.DR hl2 hn u h1 h2;unfold Al.Cd;rw[if_neg (by rw[q1];simp),if_neg (by rw[q3];simp)]
 refine⟨?_,(q4.heap (hs q4.ok) (Qk k) (hs2 q4.he)).up (Qk k) (Qk _) (Nat.le_succ n) (Qk _) (Qk _),?_⟩;rotate_left
 ·have:=hs4 q4.ok.H.ok
  show (set ((S.A2 i p).1.BC i u).1.H).1.pz+(((S.A2 i p).1.BC i u).1.t i).log.Au.length<=pu i S+2;unfold pu at q6 q5 ⊢;omega
 simp only;rcases hs3 ((S.A2 i p).1.BC i u).1.H with e|e|e<;>rw[e]<;>rfl
theorem lf {e:Nat}(h:e=0\/e=70\/e=71):bf (e:Int)=false:=by rcases h with rfl|rfl|rfl<;>rfl
theorem Lk {n:Nat}(h:En k i n n n n S)(hl:(S.t i).live=true)(hn:n<100)(p j:Nat):Gd k i (n+1) (pu i S) (S.Ct i p j):=by
 obtain⟨h1,h2,h3,h4,hpu⟩:=h.fields hl hn p;have h1':=h1.up (Qk k) (Qk _) (Nat.le_succ n) (Nat.le_succ n) (Nat.le_succ n);unfold Al.Ct;split
 ·exact⟨h2,h1',by rw[hpu];omega⟩
 ·exact⟨lf (Ft _ _ _),h1',by rw[hpu];omega⟩
theorem Rj {T:Al}(hk:T.H.ok)(p j:Nat){m:Nat}(h:pu i T=m):pu i (T.h (T.H.A5 p j).1)<=m+2:=by
 have:=RY hk p j;show (T.H.A5 p j).1.pz+(T.t i).log.Au.length<=m+2;unfold pu at h;omega
theorem MM {n:Nat}(h:En k i n n n n S)(hl:(S.t i).live=true)(hn:n<100)(p j:Nat):Gd k i (n+1) (pu i S) (S.CX i p j):=by
 obtain⟨h1,h2,h3,h4,hpu⟩:=h.fields hl hn p;have h1':=h1.up (Qk k) (Qk _) (Nat.le_succ n) (Nat.le_succ n) (Nat.le_succ n);unfold Al.CX;split
 ·exact⟨h2,h1',by rw[hpu];omega⟩
 ·exact⟨lf (N4 _ _ _),h1'.heap (Al.CV h1'.ok p j) (Qk k) (h1'.he.ptr h1'.ok.H.ok p j),Rj h1'.ok.H.ok p j hpu⟩
theorem Gy {n:Nat}(h:En k i n n n n S)(hl:(S.t i).live=true)(hn:n<100)(p j:Nat){v:Int}(hv:-9223372036854775808<=v/\v<=9223372036854775807):Gd k i (n+1) (pu i S) (S.BE i p j v):=by
 obtain⟨h1,h2,h3,h4,hpu⟩:=h.fields hl hn p;have h1':=h1.up (Qk k) (Qk _) (Nat.le_succ n) (Nat.le_succ n) (Nat.le_succ n);have hlv:=((Mv.fields i S p).lv).trans hl;unfold Al.BE;split
 ·exact⟨h2,h1',by rw[hpu];omega⟩
 ·rename_i e0
  split
  ·exact⟨lf (Ft _ _ _),h1',by rw[hpu];omega⟩
  ·obtain⟨ob,hp⟩:=h4 (by simpa using e0)
   rw[<-hpu];exact Ri h1 hlv hn (by rw[h3];exact hp) (h1.ok.E7 p j) (fun e=>by simp at e) (fun hT=>Al.DK hT p j hv) (fun hH=>hH.Ce p j v) (fun H=>U3 H p j v) fun hH=>Qu (Ja hH p j v)
theorem Nh {H:Hp}(p j:Nat){ob:Ob}(hp:lk H.cur p=some ob):∃ ob',lk (H.A5 p j).1.cur p=some ob':=by
 unfold Hp.A5;rw[hp];simp only;split
 ·exact⟨ob,hp⟩
 ·split
  ·rw[NA,if_pos rfl,yp hp];exact⟨_,rfl⟩
  ·exact⟨ob,hp⟩
theorem Nf {n:Nat} (h:En k i n n n n S) (hl:(S.t i).live=true) (hn:n<100) (p j q:Nat):Gd k i (n+1) (pu i S) (S.Dk i p j q):=by
 obtain⟨h1,h2,h3,h4,hpu⟩:=h.fields hl hn p;have h1':=h1.up (Qk k) (Qk _) (Nat.le_succ n) (Nat.le_succ n) (Nat.le_succ n);have hlv:=((Mv.fields i S p).lv).trans hl;have h5:=h1.heap (Al.CV h1.ok p j) (Qk k) (h1.he.ptr h1.ok.H.ok p j);have hb:=RE h1.ok.H p j;unfold Al.Dk;split
 ·exact⟨rfl,h.up (Qk k) (Nat.le_succ n) (Nat.le_succ n) (Nat.le_succ n) (Nat.le_succ n),by show pu i S<=_;omega⟩
 ·unfold Al.C9
  split
  ·exact⟨h2,h1',by rw[hpu];omega⟩
  ·rename_i e0
   split
   ·exact⟨lf (N4 _ _ _),h5.up (Qk k) (Qk _) (Nat.le_succ n) (Nat.le_succ n) (Nat.le_succ n),Rj h1.ok.H.ok p j hpu⟩
   ·obtain⟨ob,hp⟩:=h4 (by simpa using e0)
    obtain⟨ob',hp'⟩:=Nh (H:=(S.Ar i p).1.H) p j (by rw[h3];exact hp)
    have hg:=Ri h5 hlv hn hp' (u:=⟨1,p,j,((S.Ar i p).1.H.A5 p j).2.1⟩) (set:=fun H=>H.A9 p j q) (by simp only;omega) (fun _=>by simp only;omega) (fun hT=>Al.CG hT p j q) (fun hH=>hH.A4 p j q) (fun H=>VL H p j q) fun hH=>R5 hH p j q
    have hp0:=RY h1.ok.H.ok p j;have hp1:pu i ((S.Ar i p).1.h ((S.Ar i p).1.H.A5 p j).1)<=pu i S:=by
     show ((S.Ar i p).1.H.A5 p j).1.pz+((S.Ar i p).1.t i).log.Au.length<=_;unfold pu at hpu ⊢;omega
    exact⟨hg.1,hg.2.1,Qo hg.2.2 (by omega)⟩
theorem L8 {n:Nat}(h:En k i n n n n S)(hl:(S.t i).live=true)(hn:n<100)(p:Nat):Gd k i (n+1) (pu i S) (S.Ch i p):=by
 obtain⟨h1,h2,h3,h4,hpu⟩:=h.look hl hn p;have h1':=h1.up (Qk k) (Qk _) (Nat.le_succ n) (Nat.le_succ n) (Nat.le_succ n);have hlv:=((Mv.look i S p).lv).trans hl;unfold Al.Ch;split
 ·exact⟨h2,h1',by rw[hpu];omega⟩
 ·rename_i e0
  obtain⟨ob,hp⟩:=h4 (by simpa using e0)
  rw[<-hpu];exact Ri h1 hlv hn (by rw[h3];exact hp) (by simp) (fun e=>by simp at e) (fun hT=>Al.Cl hT p true) (fun hH=>hH.BL p true) (fun H=>by have:=U6 H p true;omega) fun hH=>Qu (Sn hH p true)
theorem Gr {n:Nat}(h:En k i n n n n S)(hl:(S.t i).live=true)(hn:n<100)(hk:k<=200){s:B3}(hs:s.ok)(hs9:s.p+s.d<=9) :
  En (k+1) i n n (n+1) n (S.Bh i s).1/\(S.Bh i s).2.2=0/\(S.Bh i s).2.1=S.H.top/\pu i (S.Bh i s).1<=pu i S:=by
 have hr:=h.he.hu.roomy hk hs9;have e1:S.H.AM s=(S.H.lay s,S.H.top,0):=by unfold Hp.AM;rw[if_pos hr]
 have hok:=Al.D6 h.ok hs;have h1:En (k+1) i n n n n (S.h (S.H.lay s)):=by
  have e2:(S.H.AM s).1=S.H.lay s:=by rw[e1]
  rw[e2]at hok;exact h.heap hok (Nat.le_succ k) (h.he.lay hs9)
 have hp:lk (S.H.lay s).cur S.H.top=some (Ob.new s (S.H.Ax+1)):=QD h.ok.H.ok _;obtain⟨q1,q2,q3⟩:=h1.E2 hl hn hp (v:=0) (fun hm=>by
  obtain⟨o2,h3,_⟩:=h.he.m.h _ hm;rw[cw h.ok.H.ok.cl h.ok.H.ok.ck (Qk _)]at h3;cases h3) (Nat.zero_le _)
 unfold Al.Bh;simp only[e1];rw[if_neg (by simp)]
 have q1':(Al.AZ { S with H:=S.H.lay s } i S.H.top 0).2=true:=q1;rw[if_pos q1'];refine⟨q2,rfl,rfl,Qo q3 ?_⟩;show (S.H.lay s).pz+(S.t i).log.Au.length<=pu i S;rw[Nm];exact Qk _
theorem Tl {n:Nat}(h:En k i n n n n S)(hl:(S.t i).live=true)(hn:n<100)(hk:k<=200){s:B3}(hs:s.ok)(hs9:s.p+s.d<=9):Gd (k+1) i (n+1) (pu i S) (S.AM i s):=by
 obtain⟨h1,h2,_,h4⟩:=Gr h hl hn hk hs hs9;exact⟨by show bf (S.Bh i s).2.2=false;rw[h2];rfl,h1.up (Qk _) (Nat.le_succ n) (Nat.le_succ n) (Qk _) (Nat.le_succ n),Qu (Qu h4)⟩
end
end
end Go.Proofs.YteehgedabdchcaaGreat
