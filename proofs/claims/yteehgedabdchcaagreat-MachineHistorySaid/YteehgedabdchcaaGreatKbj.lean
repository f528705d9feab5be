import Derived.Test.YteehgedabdchcaaGreatKbf
import Derived.Test.YteehgedabdchcaaGreatKbi
import Derived.Test.YteehgedabdchcaaGreatKbl
set_option linter.all false
set_option maxRecDepth 1000000
set_option maxHeartbeats 16000000
namespace Go.Proofs.YteehgedabdchcaaGreat
open Go.RowKit Hp Go.Maps
attribute [local go_sem ↓] Go.wp_at_zero Go.wp_at_succ
def Shut (H:Hp):Prop:=∀ x ∈ H.cur,OkP (lk H.cur) x.2.ptrs
def Hp.reach (H:Hp)(roots:List Nat):List Nat:=g6 (lk H.cur) (H.cur.map (·.1)).length roots
def Hp.canon (H:Hp)(roots:List Nat):List Nd:=xu (lk H.cur) (H.reach roots) (H.reach roots)
section
variable {w : World} {o : Own} {l : HLay} {H : Hp} {vc vo vw vf : Value} {f : Nat → Nat}
theorem HpIn.gin (h:HpIn w o l H vc vo vw vf f)(hk:H.ok):GIn w l.a l.wd (2*H.size+1) f (lk H.cur):=
 ⟨h.wds,fun p x hx=>by
  have hm:=zu hx;have h1:=zm _ _ _ hk.cl _ hm;have h2:=hk.room;have h3:=hk.ck _ hm;have h4:x.size≤rnd x.size:=by
   have a1:=h3.shp.1;have a2:=h3.shp.2.1;have a3:=h3.lp;have a4:=h3.ln;simp only at a1 a2 a3 a4;exact (jd x.size (by unfold Ob.size;omega)).1
  have h5:H.base H.use≤1+H.size:=by unfold Hp.base;split<;>omega
  simp only at h1;exact⟨h.obs _ hm,h3,by omega⟩⟩
theorem Hp.ok.gok (hk:H.ok)(hs:Shut H):GOk (lk H.cur) (H.cur.map (·.1)):=
 ⟨fun p hp=>lk_some.1 hp,by have:=qkf hk;rw[List.length_map];omega,fun p hp=>by
  obtain⟨x,hx⟩:=Option.isSome_iff_exists.1 hp;have h1:=zm _ _ _ hk.cl _ (zu hx);have h2:=hk.room;have h3:=hk.sz;have h5:H.base H.use≤1+H.size:=by unfold Hp.base;split<;>omega
  simp only at h1;omega,fun p x hx=>hs _ (zu hx)⟩
theorem qie (h:HpIn w o l H vc vo vw vf f)(hk:H.ok)(hm:H.moving=false)(hs:Shut H){v:Value}{roots:List Nat}{ov:Own}{t:Tag}(hv:Row w ov t 3 1 v roots.length (roots.map nv))(hr:OkP (lk H.cur) roots)(hn:roots.length≤1000000) :
  Calls Tryz.prog 50 #[.pointer (some ⟨l.h,0,none⟩),v] w fun e w'=>∃ v1 v2 oo,e=.returned (.tuple #[v1,v2,.int .i64 0])∧NdsIn w' oo v1 (H.canon roots) ∧
   Row w' oo (55,0) 3 1 v2 roots.length (ixs (H.reach roots) roots)∧Below w.heap.size w w'∧Old w.heap.size oo:=by
 have HGC:=Lib.hid (fun (W:World)(hb:Below w.heap.size w W)=>show Calls Tryz.prog 114 #[.pointer (some ⟨l.a,0,none⟩),v] W fun e w'=>∃ v1 v2 oo,e=.returned (.tuple #[v1,v2,.int .i64 0])∧NdsIn w' oo v1 (H.canon roots) ∧
   Row w' oo (55,0) 3 1 v2 roots.length (ixs (H.reach roots) roots)∧Below W.heap.size W w'∧Old W.heap.size oo from qj3 ((h.gin hk).below hb) (hk.gok hs) (hv.below hb) hr hn)
 have HH:=Lib.hid (fun (W:World)(hb:Below w.heap.size w W)(p:Nat)(hp:(lk H.cur p).isSome=true)=>show Calls Tryz.prog 61 #[.pointer (some ⟨l.h,0,none⟩),.int .i64 p] W fun e w'=>e=.returned (.bool true)∧Below W.heap.size W w' from by
  have:=tu (h.below hb) hk p p rfl;rw[hp]at this;exact this)
 have HC:=Lib.hid (fun (W:World)(hb:Below w.heap.size w W)=>show W.cell? ⟨l.h,0,none⟩=some (.pointer (some ⟨l.a,0,none⟩))∧W.cell? ⟨l.h,10,none⟩=some (.bool false) from by
  refine⟨(h.below hb).c0,?_⟩;rw[(h.below hb).hb.cell];unfold Hp.cells;rw[hm];split<;>rfl)
 obtain⟨pv,cv,rfl⟩:=hv.slc;have HV:=Lib.hid hv;have HR:=Lib.hid hr;obtain⟨n,hnn⟩:∃ n,n=roots.length:=⟨_,rfl⟩;rw[←hnn]at HV HGC hn ⊢;have HN:=Lib.hid hnn;have HNm:=Lib.hid hn;clear h hk hm hs hv hr hn hnn;go_enter Tryz.func50,Tryz.ntmps50;go_wp2_with fail;go_loopw [13] (fun ix wr=>∃ k:Nat,ix=.int .i64 k∧k≤n∧Below w.heap.size w wr) (fun ix _=>n-(intOf ix).toNat)
 case atStart=>exact⟨0,rfl,Nat.zero_le _,qc w⟩
 case round =>
  obtain⟨k,rfl,hkn,hb⟩:=hrel;by_cases hlt:k<n
  ·have hkI:(k:Int)<(n:Int):=by omega
   have HW:=Lib.hid (qr k (by have:=HNm.out;omega))
   obtain⟨x,hx⟩:∃ x,roots[k]?=some x:=⟨_,List.getElem?_eq_getElem (by rw[←HN.out];exact hlt)⟩
   obtain⟨g,e,hcell,hcap⟩:∃ g,pv=some ⟨g,0,none⟩∧wr.cell? ⟨g,k,none⟩=some (.int .i64 x)∧n≤cv:=by
    rcases (HV.out.below hb).form with ⟨_,h0⟩|⟨g,cap,e,hcap,_⟩
    ·omega
    ·injection e with e1 _ e3
     subst e1 e3;exact⟨g,rfl,(HV.out.below hb).cells k _ (by rw[List.getElem?_map,hx];rfl),hcap⟩
   subst e;have hxG:=HR.out x (List.mem_of_getElem? hx);by_cases h0:x=0
   ·subst h0
    have HB:=Lib.hid hb;clear hb hx hxG;obtain⟨hw1,hw2⟩:=HW.out;go_wp2_with fail;go_roundw
    case rel=>exact⟨k+1,by simp,hlt,HB.out⟩
    case measure=>simp[intOf];omega
   ·have hp0:((x:Int)==0)=false:=by rw[beq_eq_false_iff_ne];omega
    have HHx:=Lib.hid (HH.out wr hb x (hxG.resolve_left h0));have HB:=Lib.hid hb;clear hb hx hxG;obtain⟨hw1,hw2⟩:=HW.out;go_wp2_with (first
     | (go_at_call 61;refine HHx.out.mono ?_;rintro e w3 ⟨rfl,hb3⟩)
     | fail)
    go_roundw
    case rel=>exact⟨k+1,by simp,hlt,qd HB.out hb3⟩
    case measure=>simp[intOf];omega
  ·obtain rfl:k=n:=by omega
   obtain⟨c0,c10⟩:=HC.out wr hb;have HG2:=Lib.hid (HGC.out wr hb);have HB:=Lib.hid hb;clear hb hlt hkn HV;go_wp2_with (first
    | (go_at_call 114;refine HG2.out.mono ?_;rintro e w3 ⟨v1,v2,oo,rfl,hN,hR2,hb3,hO⟩)
    | fail)
   go_ret3;exact⟨v1,v2,oo,rfl,hN,hR2,qd HB.out hb3,fun b hb=>hO b (Nat.lt_of_lt_of_le hb HB.out.size)⟩
end
section
variable {w : World} {o : Own} {y : SLay} {S : Stt}
theorem qjf (h:StIn w o y S)(hk:S.ok)(hm:S.H.moving=false)(hs:Shut S.H){v:Value}{ps:List Nat}{t:Tag}(hv:Row w o t 3 1 v ps.length (ps.map nv))(hp:ps.length≤100000)(hr:OkP (lk S.H.cur) (S.places ps))(hn:(S.places ps).length≤1000000) :
  Calls Tryz.prog 15 #[ptr y.sb,v] w fun e w'=>∃ v1 v2 oo,e=.returned (.tuple #[v1,v2,.int .i64 0])∧NdsIn w' oo v1 (S.H.canon (S.places ps)) ∧
   Row w' oo (55,0) 3 1 v2 (S.places ps).length (ixs (S.H.reach (S.places ps)) (S.places ps))∧Below w.heap.size w w'∧Old w.heap.size oo:=by
 have HPl:=Lib.hid (fun (W:World)(hb:Below w.heap.size w W)=>show Calls Tryz.prog 51 #[ptr y.sb,v] W fun e w'=>∃ v',e=.returned v'∧Row w' (fo W.heap.size) (1,0) 3 1 v' (S.places ps).length ((S.places ps).map nv)∧Below W.heap.size W w' from by
  exact qa5 (h.below hb) hk (hv.below hb) hp)
 obtain⟨vq,vl,vm,jb,_⟩:=h.blk;unfold qk at jb;have HB:=Lib.hid h;have HK:=Lib.hid hk;have cb:w.cell? ⟨y.sb,0,none⟩=some (ptr y.l.h):=jb.cell 0;have lb:=jb.lt;have HHp:=Lib.hid (fun (W W3:World)(hb:Below w.heap.size w W)(hb3:Below W.heap.size W W3)(v':Value)(hr':Row W3 (fo W.heap.size) (1,0) 3 1 v' (S.places ps).length ((S.places ps).map nv))=>show Calls Tryz.prog 50 #[ptr y.l.h,v'] W3 fun e w'=>∃ v1 v2 oo,e=.returned (.tuple #[v1,v2,.int .i64 0])∧NdsIn w' oo v1 (S.H.canon (S.places ps)) ∧
   Row w' oo (55,0) 3 1 v2 (S.places ps).length (ixs (S.H.reach (S.places ps)) (S.places ps))∧Below W3.heap.size W3 w'∧Old W3.heap.size oo from by
  obtain⟨vc,vo,vw,vf,f,hh⟩:=h.hp;exact qie (hh.below (qd hb hb3)) hk.H.ok hm hs hr' hr hn)
 clear h hk hm hs hv hp hr hn jb;go_enter Tryz.func15,Tryz.ntmps15;go_upto_region 3 with fail;go_region_held3 (fun w'=>w'.cell? ⟨y.sb,0,none⟩=some (ptr y.l.h)) (first|with_reducible assumption|go_keep) (first
  | (go_at_call 51;refine (HPl.out w.drew (qe (qc w))).mono ?_;rintro e w3 ⟨v3,rfl,hr3,hb3⟩;have cb3:w3.cell? ⟨y.sb,0,none⟩=some (ptr y.l.h):=(hb3.cell (p:=⟨y.sb,0,none⟩) lb).trans cb)
  | (go_at_call 50;refine (HHp.out w.drew w3 (qe (qc w)) hb3 v3 hr3).mono ?_;rintro e w4 ⟨v1,v2,oo,rfl,hN,hR2,hb4,hO⟩;have cb4:w4.cell? ⟨y.sb,0,none⟩=some (ptr y.l.h):=(hb4.cell (p:=⟨y.sb,0,none⟩) (Nat.lt_of_lt_of_le lb hb3.size)).trans cb3)
  | fail)
 go_wp2_with fail;go_ret3;have hb5:Below w.heap.size w w4:=qd (qd (qe (qc w)) hb3) hb4;exact⟨v1,v2,oo,rfl,hN,hR2,hb5,fun b hb=>hO b (Nat.lt_of_lt_of_le hb hb3.size)⟩
end
section
variable {w : World} {o : Own} {m : MLay} {M : Mc}
theorem qh3 (h:MIn w o m M)(hk:M.ok)(hm:M.S.H.moving=false)(hs:Shut M.S.H)(hr:OkP (lk M.S.H.cur) (M.S.places M.roots))(hn:(M.S.places M.roots).length≤1000000) :
  Calls Tryz.prog 40 #[ptr m.mb] w fun e w'=>∃ v1 oo,e=.returned v1∧NdsIn w' oo v1 (M.S.H.canon (M.S.places M.roots))∧Below w.heap.size w w'∧Old w.heap.size oo:=by
 have hrl:M.roots.length≤100000:=by
  have:M.roots.length=M.hs.length*12:=td _;have:=hk.len;have:=hk.n8;omega
 have HRo:=Lib.hid (fun (W:World)(hb:Below w.heap.size w W)=>qb9 (h.below hb) hk)
 obtain⟨ve,jb,_⟩:=h.blk;have cb:w.cell? ⟨m.mb,0,none⟩=some (ptr m.y.sb):=jb.cell 0;have lb:=jb.lt;have HSc:=Lib.hid (fun (W W3:World)(hb:Below w.heap.size w W)(hb3:Below W.heap.size W W3)(v':Value)(hr':Row W3 (fo W.heap.size) (1,0) 3 1 v' M.roots.length (M.roots.map nv))=>by
  have s3:Stp (fun _=>False) o (ext o W.heap.size (m.y.l.id+1,0)) W W3:=(Stp.of_below hb3).ext _ _ (Nat.le_refl _)
  have hM3:MIn W3 (ext o W.heap.size (m.y.l.id+1,0)) m M:=(h.below hb).stp s3 (fun _ h=>h) fun _ h=>h
  exact qjf hM3.st hk.inv hm hs (hr'.out o (m.y.l.id+1,0)) hrl hr hn)
 clear h hk hm hs hr hn jb hrl;go_enter Tryz.func40,Tryz.ntmps40;go_upto_region 1 with fail;go_region_held3 (fun w'=>w'.cell? ⟨m.mb,0,none⟩=some (ptr m.y.sb)) (first|with_reducible assumption|go_keep) (first
  | (go_at_call 88;refine (HRo.out w.drew (qe (qc w))).mono ?_;rintro e w3 ⟨v3,rfl,hr3,hb3⟩;have cb3:w3.cell? ⟨m.mb,0,none⟩=some (ptr m.y.sb):=(hb3.cell (p:=⟨m.mb,0,none⟩) lb).trans cb)
  | (go_at_call 15;refine (HSc.out w.drew w3 (qe (qc w)) hb3 v3 hr3).mono ?_;rintro e w4 ⟨v1,v2,oo,rfl,hN,hR2,hb4,hO⟩;have cb4:w4.cell? ⟨m.mb,0,none⟩=some (ptr m.y.sb):=(hb4.cell (p:=⟨m.mb,0,none⟩) (Nat.lt_of_lt_of_le lb hb3.size)).trans cb3)
  | fail)
 go_wp2_with fail;go_ret;have hb5:Below w.heap.size w w4:=qd (qd (qe (qc w)) hb3) hb4;exact⟨v1,oo,rfl,hN,hb5,fun b hb=>hO b (Nat.lt_of_lt_of_le hb hb3.size)⟩
end
end Go.Proofs.YteehgedabdchcaaGreat
namespace Go.Proofs.YteehgedabdchcaaGreat
open Go.RowKit Hp
attribute [local go_sem ↓] Go.wp_at_zero Go.wp_at_succ
section
variable {w w' : World} {o o' : Own} {m : MLay} {M : Mc}
theorem KB.slc {v:Value}{tg:Tag}{bs:List (List DeedV)}(h:KB w o tg v bs):∃ a c,v=.slice a bs.length c:=by
 obtain⟨_,vs,_,hr,_⟩:=h;obtain⟨a,c,e⟩:=hr.slc;exact⟨a,c,e⟩
theorem KT.at {v:Value}{tg tr:Tag}{ths:List (List (List DeedV))}(h:KT w o tg tr v ths){t:Nat}{bs:List (List DeedV)}(ht:ths[t]?=some bs) :
  ∃ g cp a c,v=.slice (some ⟨g,0,none⟩) ths.length cp∧w.cell? ⟨g,t,none⟩=some (.slice a bs.length c)∧KB w o tg (.slice a bs.length c) bs:=by
 obtain⟨h8,vs,hl,hr,hd⟩:=h;obtain⟨u,hu,hb⟩:=hd t bs ht;have hlt:=(List.getElem?_eq_some_iff.1 ht).1;obtain⟨a,c,rfl⟩:=hb.slc;rcases hr.form with ⟨_,h0⟩|⟨g,cap,e,_⟩
 ·omega
 ·subst e
  exact⟨g,cap,a,c,rfl,hr.cells t _ hu,hb⟩
theorem qm1 (h:∀ t,t<M.hs.length→((M.p t).length:Int)≤(M.h t).b):M.done=true:=by
 unfold Mc.done;rw[List.all_eq_true];intro t ht;exact decide_eq_true (h t (List.mem_range.1 ht))
theorem qin {t:Nat}(ht:t<M.hs.length)(h:¬((M.p t).length:Int)≤(M.h t).b):M.done=false:=by
 unfold Mc.done
 cases hd:(List.range M.hs.length).all fun t=>decide (((M.p t).length:Int)≤(M.h t).b) with
 | false=>rfl
 | true=>exact absurd (of_decide_eq_true (List.all_eq_true.1 hd t (List.mem_range.2 ht))) h
theorem qmw (h:MIn w o m M) (hk:M.ok) :
  Calls Tryz.prog 37 #[ptr m.mb] w fun e w'=>e=.returned (.bool M.done)∧Below w.heap.size w w':=by
 obtain⟨ve,jb,_⟩:=h.blk;have hn8:M.hs.length≤8:=by rw[hk.len];exact hk.n8
 have hlen:=hk.len;have hhs:=h.hs;have hps:=h.ps;obtain⟨ph,ch,hvh⟩:=hhs.slc;obtain⟨pp,cp,hvp⟩:∃ pp cp,m.vp=.slice pp M.hs.length cp:=by
  obtain⟨_,vs,_,hr,_⟩:=hps;obtain⟨a,c,e⟩:=hr.slc;exact⟨a,c,by rw[e,hlen]⟩
 rw[hvh]at hhs jb;rw[hvp]at hps jb;have HB:=Lib.hid (fun (t:Nat) (ht:t<M.hs.length)=>(hk.nb ht).2.1)
 have HZ:=Lib.hid (fun (t:Nat) (ht:t<M.hs.length)=>Mc.h_get (M:=M) ht)
 have HP:=Lib.hid (fun (t:Nat) (ht:t<M.hs.length)=>hps.at (Mc.p_get (M:=M) (t:=t) (by rw[←hlen];exact ht)))
 have HR:=Lib.hid hhs;have HJ:=Lib.hid jb;have HT:=Lib.hid (qm1 (M:=M));have HFa:=Lib.hid (fun (t:Nat) (ht:t<M.hs.length) (h:¬((M.p t).length:Int)≤(M.h t).b)=>qin ht h)
 obtain⟨nh,hnh⟩:∃ nh,nh=M.hs.length:=⟨_,rfl⟩;rw[←hnh]at HB HZ HP HR HJ HT HFa hn8 jb;rw[←hlen]at HP;rw[←hnh]at HP;have cb:=jb.cell;clear h hk hhs hps hvh hvp hlen hnh jb;go_enter Tryz.func37,Tryz.ntmps37;go_wp2_with fail;clear cb;go_loopw [10] (fun ix wr=>∃ k:Nat,ix=.int .i64 k∧k≤nh∧Below w.heap.size w wr∧∀ t,t<k→((M.p t).length:Int)≤(M.h t).b) (fun ix _=>nh-(intOf ix).toNat)
 case atStart=>exact⟨0,rfl,Nat.zero_le _,qc w,fun t ht=>absurd ht (Nat.not_lt_zero t)⟩
 case round =>
  obtain⟨k,rfl,hkn,hb,hd⟩:=hrel;have HD:=Lib.hid hd;have HBl:=Lib.hid hb;have HKN:=Lib.hid hkn;clear hd;by_cases hlt:k<nh
  ·have hkI:(k:Int)<(nh:Int):=by omega
   obtain⟨gq,e1,hcap,q⟩:=(HR.out.below hb).th15 (HZ.out k hlt);obtain⟨gp,cp',a,c,e2,hcell,_⟩:=HP.out k hlt;injection e2 with e2 _ e3;subst e1 e2 e3;have hb0:=HB.out k hlt;have HF:=Lib.hid (HFa.out k hlt);obtain⟨hw1,hw2⟩:=qr k (by omega)
   obtain⟨q0,q1,q2,q3,q4,q5,q6,q7,q8,q9,q10,q11,q12,q13,q14⟩:=q;have HTD:=Lib.hid (fun (W:World)=>show Calls Tryz.prog 96 #[.slice a (M.p k).length c,(M.h k).v] W fun e w'=>e=.returned (.bool (decide (((M.p k).length:Int)≤(M.h k).b)))∧Below W.heap.size W w' from by
    have:=uq (M.h k) a (M.p k).length c W;rwa [decide_eq_false (show ¬(M.h k).b<0 by omega),Bool.false_or]at this)
   have HC2:=Lib.hid (show ((M.p k).length:Int)≤(M.h k).b↔((M.p k).length:Int)≤(M.h k).b from Iff.rfl);obtain⟨P,hP⟩:∃ P,P=(M.p k).length:=⟨_,rfl⟩;obtain⟨z,hz⟩:∃ z,z=M.h k:=⟨_,rfl⟩;rw[←hz]at q0 q1 q2 q3 q4 q5 q6 q7 q8 q9 q10 q11 q12 q13 q14 HTD HF HC2;rw[←hP]at HTD HF HC2 hcell;have hcell2:wr.cell? ⟨gp,k,none⟩=some (.slice a P c):=cell_below hcell hb;have HPZ:=Lib.hid (And.intro hP hz);have cb:=(HJ.out.below hb HJ.out.lt).cell;obtain⟨D,hD⟩:∃ D,D=decide ((P:Int)≤z.b):=⟨_,rfl⟩;rw[←hD]at HTD;have HDD:=Lib.hid hD;clear hP hz hcell hb0 hb hD;obtain⟨zb,zn,⟨a0,a1,a2,a3,a4,a5⟩,⟨s0,s1,s2,s3,s4,s5⟩,zl⟩:=z;simp only at q0 q1 q2 q3 q4 q5 q6 q7 q8 q9 q10 q11 q12 q13 q14;unfold ThV.v ThV.cells at HTD;simp only at HTD;have jbr:=HJ.out.below HBl.out HJ.out.lt;go_upto_region 4 with fail;obtain⟨W,hW⟩:∃ W:World,W=wr.alloc (.cells #[.int .i64 zb,.int .i64 zn,.int .i64 a0,.int .i64 a1,.int .i64 a2,.int .i64 a3,.int .i64 a4,.int .i64 a5,.int .i64 s0,.int .i64 s1,.int .i64 s2,.int .i64 s3,.int .i64 s4,.int .i64 s5,.bool zl] 58):=⟨_,rfl⟩;rw[←hW];have jx:Blk W wr.heap.size #[.int .i64 zb,.int .i64 zn,.int .i64 a0,.int .i64 a1,.int .i64 a2,.int .i64 a3,.int .i64 a4,.int .i64 a5,.int .i64 s0,.int .i64 s1,.int .i64 s2,.int .i64 s3,.int .i64 s4,.int .i64 s5,.bool zl] 58:=by rw[hW];exact Blk.new wr _ _
   have jm:Blk W m.mb #[ptr m.y.sb,.slice (some ⟨gp,0,none⟩) nh cp,.slice (some ⟨gq,0,none⟩) nh ch,.int .i32 0,.int .u32 0,ve] 148:=by rw[hW];exact jbr.alloc _
   have hc3:W.cell? ⟨gp,k,none⟩=some (.slice a P c):=by rw[hW];exact cell_below hcell2 (qa (qc wr) _)
   have HBW:=Lib.hid (show Below w.heap.size w W from by rw[hW];exact qa HBl.out _)
   clear hW cb hcell2 q0 q1 q2 q3 q4 q5 q6 q7 q8 q9 q10 q11 q12 q13 q14 jbr;have l1:=fun (e:Later W) (i:Nat)=>Later.cell jm e i
   have l2:=fun (e:Later W) (i:Nat)=>Later.cell jx e i
   have l3:=fun (e:Later W)=>(e.2.cell (p:=⟨gp,k,none⟩) (qbg hc3)).trans hc3
   refine qy (by kernel_rfl) (by kernel_rfl) ?_
   repeat (go_big_quiet_step ((go_at_call 96;exact kj (HTD.out _))))
   refine wpQuiet_nil ?_
   rintro _ ⟨⟨wt,hbt⟩,rfl⟩
   have HBt:=Lib.hid (qd HBW.out hbt);clear l1 l2 l3 hbt
   cases D with
   | true =>
    have hle:((M.p k).length:Int)≤(M.h k).b:=by
     have h1:=of_decide_eq_true HDD.out.symm;rw[HPZ.out.1]at h1;rw[←HPZ.out.2];exact h1
    have HLE:=Lib.hid hle;clear hle;go_wp2_with fail;go_roundw
    case rel=>exact⟨k+1,by simp,hlt,HBt.out,fun t ht=>(Nat.lt_succ_iff_lt_or_eq.1 ht).elim (fun h=>HD.out t h) (fun h=>by rw[h];exact HLE.out)⟩
    case measure=>clear hw1 hw2;simp[intOf];omega
   | false =>
    have hle:M.done=false:=HF.out (Int.not_le.1 (of_decide_eq_false HDD.out.symm));have HLE:=Lib.hid hle;clear hle;go_wp2_with fail;go_ret;exact⟨by rw[HLE.out];rfl,HBt.out⟩
  ·obtain rfl:k=nh:=by omega
   go_wp2_with fail;go_ret;exact⟨by rw[HT.out HD.out];rfl,HBl.out⟩
def ser1 (S:Stt)(h:ThV)(k:Nat):ThV:={ h with r:=h.r.set (S.ser (h.r.get k).toNat) k,s:=h.s.set (S.ser (h.s.get k).toNat) k }
def qa9 (S:Stt)(h:ThV):Nat→ThV
 | 0=>h
 | k+1=>ser1 S (qa9 S h k) k
theorem serK_six (S:Stt)(h:ThV):qa9 S h 6=h.sers S:=rfl
theorem serK_get (S:Stt)(h:ThV){k:Nat}(hk:k<6):(qa9 S h k).r.get k=h.r.get k∧(qa9 S h k).s.get k=h.s.get k:=by
 rcases six hk with rfl|rfl|rfl|rfl|rfl|rfl<;>exact⟨rfl,rfl⟩
theorem put_blk2 {w:World}{b:Nat}{t:TypeId}{h:ThV}(j:Blk w b h.cells t){A:Nat}(hA:A<6)(v:Int):Blk (w.setCell ⟨b,8+A,none⟩ (.int .i64 v)) b ({ h with s:=h.s.set v A }:ThV).cells t:=by
 have e1:∀ x,x=({ h with s:=h.s.set v A }:ThV).cells→Blk (w.setCell ⟨b,8+A,none⟩ (.int .i64 v)) b x t→Blk (w.setCell ⟨b,8+A,none⟩ (.int .i64 v)) b ({ h with s:=h.s.set v A }:ThV).cells t:=fun x e k=>by rw[←e];exact k
 refine e1 _ ?_ (j.set (8+A) (.int .i64 v));rcases six hA with rfl|rfl|rfl|rfl|rfl|rfl
 all_goals simp only[ThV.cells,R6.set,List.setIfInBounds_toArray,List.set_cons_zero,List.set_cons_succ,Nat.reduceAdd]
theorem qaa {w:World}{b:Nat}{t:TypeId}{h:ThV}(j:Blk w b h.cells t){A:Nat}(hA:A<6):w.cell? ⟨b,8+A,none⟩=some (.int .i64 (h.s.get A)):=by
 rw[j.cell];rcases six hA with rfl|rfl|rfl|rfl|rfl|rfl<;>rfl
theorem serK_put (S:Stt)(z:ThV)(k:Nat):ser1 S (qa9 S z k) k={ (qa9 S z k).put k (S.ser ((qa9 S z k).r.get k).toNat) with s:=(qa9 S z k).s.set (S.ser ((qa9 S z k).s.get k).toNat) k }:=rfl
theorem qau (h:MIn w o m M) (hk:M.ok) (t:Int) :
  Calls Tryz.prog 33 #[ptr m.mb,.int .i64 t] w fun e w'=>e=.returned (.tuple #[(M.thread t).1.v,.bool (M.thread t).2])∧Below w.heap.size w w':=by
 obtain⟨ve,jb,_⟩:=h.blk;have hhs:=h.hs;obtain⟨ph,ch,hvh⟩:=hhs.slc;rw[hvh]at hhs jb;unfold Mc.thread;by_cases h0:t<0
 ·rw[if_pos (.inl h0)]
  clear h hk hhs hvh jb;go_enter Tryz.func33,Tryz.ntmps33;go_wp2_with fail;refine bodyPost_ret (yz (h:=zTV) (b6:=w.heap.size) _ _ 4 5 rfl rfl rfl (Blk.new w _ _)) rfl ⟨rfl,qa (qc w) _⟩
 ·by_cases h1:(M.hs.length:Int)≤t
  ·rw[if_pos (.inr h1)]
   obtain⟨nh,hnh⟩:∃ nh,nh=M.hs.length:=⟨_,rfl⟩;rw[←hnh]at h1 jb;have cb:=jb.cell;have lb:=jb.lt;clear h hk hhs hvh hnh jb;go_enter Tryz.func33,Tryz.ntmps33;go_wp2_with fail;refine bodyPost_ret (yz (h:=zTV) (b6:=w.heap.size) _ _ 4 5 rfl rfl rfl (Blk.new w _ _)) rfl ⟨rfl,qa (qc w) _⟩
  ·rw[if_neg (fun e=>e.elim h0 h1)]
   obtain⟨T,rfl⟩:∃ T:Nat,t=T:=⟨t.toNat,by omega⟩
   rw[Int.toNat_natCast];have hT:T<M.hs.length:=by omega
   have hz:=Mc.h_get (M:=M) hT;have HSer:=Lib.hid (fun (W:World) (hb:Below w.heap.size w W) (p:Nat)=>qg1 (b:=m.mb) (h.st.below hb) hk.inv (by exact (jb.below hb jb.lt).cell 0) p)
   have HG:=Lib.hid (hk.rg hz);obtain⟨gq,rfl,hcap,q⟩:=hhs.th15 hz;obtain⟨q0,q1,q2,q3,q4,q5,q6,q7,q8,q9,q10,q11,q12,q13,q14⟩:=q;obtain⟨z,hze⟩:∃ z,z=M.h T:=⟨_,rfl⟩;rw[←hze]at q0 q1 q2 q3 q4 q5 q6 q7 q8 q9 q10 q11 q12 q13 q14 HG ⊢;obtain⟨nh,hnh⟩:∃ nh,nh=M.hs.length:=⟨_,rfl⟩;rw[←hnh]at h1 hT jb;have cb:=jb.cell;have lb:=jb.lt;have lq:=hhs.blt;have HSK:=Lib.hid (serK_six M.S z);obtain⟨S,hS⟩:∃ S,S=M.S:=⟨_,rfl⟩;rw[←hS]at HSer HSK ⊢;obtain⟨X,hX⟩:∃ X,X=z.sers S:=⟨_,rfl⟩;rw[←hX]at HSK ⊢;have jZ:=Blk.new (w.alloc (.cells zTh 58)) z.cells 58;have jA:=(Blk.new w zTh 58).alloc (.cells z.cells 58);have hb0:Below w.heap.size w ((w.alloc (.cells zTh 58)).alloc (.cells z.cells 58)):=qa (qa (qc w) _) _;obtain⟨A,hA⟩:∃ A,A=w.heap.size:=⟨_,rfl⟩;have hA1:(w.alloc (.cells zTh 58)).heap.size=A+1:=by rw[hA];simp
   rw[hA1]at jZ;rw[←hA]at jA;have HI:=Lib.hid (And.intro jZ (And.intro jA hb0));have HZZ:=Lib.hid (show zTh=#[.int .i64 0,.int .i64 0,.int .i64 0,.int .i64 0,.int .i64 0,.int .i64 0,.int .i64 0,.int .i64 0,.int .i64 0,.int .i64 0,.int .i64 0,.int .i64 0,.int .i64 0,.int .i64 0,.bool false] from rfl);clear h hk hhs hvh jb jZ jA hb0 hz hze hS hA1 hX;go_enter Tryz.func33,Tryz.ntmps33;go_wp2_with fail;have HAe:=Lib.hid hA;rw[←hA];clear hA cb q0 q1 q2 q3 q4 q5 q6 q7 q8 q9 q10 q11 q12 q13 q14;go_loopw [27] (fun ix wr=>∃ k:Nat,ix=.int .i64 k∧k≤6∧Blk wr (A+1) (qa9 S z k).cells 58∧Blk wr A zTh 58∧Below w.heap.size w wr) (fun ix _=>6-(intOf ix).toNat)
   case atStart=>exact⟨0,rfl,by omega,HI.out⟩
   case round =>
    obtain⟨k,rfl,hk6,jB,jA,hb⟩:=hrel;clear HI;by_cases hlt:k<6
    ·have hkI:(k:Int)<6:=by omega
     obtain⟨hw1,hw2⟩:=qr k (by omega)
     obtain⟨p,hp⟩:=HG.out.1 k hlt;obtain⟨p2,hp2⟩:=HG.out.2 k hlt;obtain⟨hg1,hg2⟩:=serK_get S z hlt;have q2:=jf jB hlt;have q8:=qaa jB hlt;rw[hg1,hp]at q2;rw[hg2,hp2]at q8;have hs:=serK_put S z k;rw[hg1,hg2,hp,hp2,Int.toNat_natCast,Int.toNat_natCast]at hs;have HS:=Lib.hid hs;have HSa:=Lib.hid (HSer.out wr hb p);have cb:wr.cell? ⟨m.mb,0,none⟩=wr.cell? ⟨m.mb,0,none⟩:=rfl;clear hs hg1 hg2 hp hp2 cb;go_wp2_with fail;refine HSa.out.mono ?_
     rintro e w3 ⟨rfl,hb3⟩
     have jA3:=jA.below hb3 jA.lt;have jB3:=jB.below hb3 jB.lt;have hbw:=qd hb hb3;have z3:=jB3.free;have l3:=jB3.lt;have j4:=qbh jB3 hlt (S.ser p);have jA4:=jA3.set_other (a:=⟨A+1,2+k,none⟩) (by show A≠A+1;omega) (.int .i64 (S.ser p))
     have hb4:Below w.heap.size w (w3.setCell ⟨A+1,2+k,none⟩ (.int .i64 (S.ser p))):=qo hbw (by show w.heap.size≤A+1;have:=HAe.out;omega) _
     have z4:=j4.free;have l4:=j4.lt;have q3:w3.cell? ⟨A+1,2+k,none⟩=some (.int .i64 p):=(hb3.cell (p:=⟨A+1,2+k,none⟩) jB.lt).trans q2;have q9:(w3.setCell ⟨A+1,2+k,none⟩ (.int .i64 (S.ser p))).cell? ⟨A+1,8+k,none⟩=some (.int .i64 p2):=by
      have e:=qaa j4 hlt;rw[e];have e2:=qaa jB hlt;rw[q8]at e2;exact e2.symm
     have HSb:=Lib.hid (HSer.out _ hb4 p2);have J4:=Lib.hid j4;have JA4:=Lib.hid jA4;have HB4:=Lib.hid hb4;clear jA jB jA3 jB3 hb hb3 hbw j4 jA4 hb4 q2 q8;go_wp2_with fail;refine HSb.out.mono ?_
     rintro e w5 ⟨rfl,hb5⟩
     have j5:=J4.out.below hb5 J4.out.lt;have z5:=j5.free;have l5:=j5.lt;have q5:w5.cell? ⟨A+1,8+k,none⟩=some (.int .i64 p2):=(hb5.cell (p:=⟨A+1,8+k,none⟩) J4.out.lt).trans q9;have J6:=Lib.hid (put_blk2 j5 hlt (S.ser p2));have JA6:=Lib.hid ((JA4.out.below hb5 JA4.out.lt).set_other (a:=⟨A+1,8+k,none⟩) (by show A≠A+1;omega) (.int .i64 (S.ser p2)))
     have HB6:=Lib.hid (qo (qd HB4.out hb5) (show w.heap.size≤A+1 by have:=HAe.out;omega) (a:=⟨A+1,8+k,none⟩) (.int .i64 (S.ser p2)))
     clear j5 hb5 q3 q9 z3 l3 z4 l4;go_wp2_with fail;go_roundw
     case rel=>exact⟨k+1,by simp,by omega,by rw[show qa9 S z (k+1)=ser1 S (qa9 S z k) k from rfl,HS.out];exact J6.out,JA6.out,HB6.out⟩
     case measure=>simp[intOf];omega
    ·obtain rfl:k=6:=by omega
     rw[HSK.out]at jB;clear HSK HSer HG;obtain⟨xb,xn,⟨b0,b1,b2,b3,b4,b5⟩,⟨d0,d1,d2,d3,d4,d5⟩,xl⟩:=X;have cB:=jB.cell;unfold ThV.cells at cB;simp only at cB;have cA:=jA.cell;rw[HZZ.out]at cA;have zA:=jA.free;have lA:=jA.lt;have hres:=Lib.hid (mj (g:=zTV) jA ⟨xb,xn,⟨b0,b1,b2,b3,b4,b5⟩,⟨d0,d1,d2,d3,d4,d5⟩,xl⟩);have hrb:=Lib.hid (dd hb (show w.heap.size≤A by have:=HAe.out;omega) ⟨xb,xn,⟨b0,b1,b2,b3,b4,b5⟩,⟨d0,d1,d2,d3,d4,d5⟩,xl⟩)
     clear jA jB hb;go_wp2_with fail;change bodyPost _ _ _ _ _ (thW wr A ⟨xb,xn,⟨b0,b1,b2,b3,b4,b5⟩,⟨d0,d1,d2,d3,d4,d5⟩,xl⟩);generalize thW wr A ⟨xb,xn,⟨b0,b1,b2,b3,b4,b5⟩,⟨d0,d1,d2,d3,d4,d5⟩,xl⟩=Y at *;exact bodyPost_ret (yz _ _ 4 5 rfl rfl rfl hres.out) rfl ⟨rfl,hrb.out⟩
end
end Go.Proofs.YteehgedabdchcaaGreat
namespace Go.Proofs.YteehgedabdchcaaGreat
open Go.RowKit Hp
def RD (W:World)(v:Value)(l:List DeedV):Prop:=l.length≤12∧∃ (o:Own)(t:Tag),Row W o t 73 5 v l.length (jt (l.map DeedV.D))
def RB (W:World)(v:Value)(bs:List (List DeedV)):Prop:=
 bs.length≤6∧∃ (vs:List Value)(o:Own)(t:Tag),vs.length=bs.length∧Row W o t 71 1 v bs.length vs∧∀ (j:Nat)(l:List DeedV),bs[j]?=some l→∃ u:Value,vs[j]?=some u∧RD W u l
def RT (W:World)(v:Value)(ths:List (List (List DeedV))):Prop:=
 ths.length≤8∧∃ (vs:List Value)(o:Own)(t:Tag),vs.length=ths.length∧Row W o t 67 1 v ths.length vs∧∀ (j:Nat)(bs:List (List DeedV)),ths[j]?=some bs→∃ u:Value,vs[j]?=some u∧RB W u bs
section
variable {W W' : World} {o o' : Own} {v : Value} {T : Tag → Prop} {tg : Tag}
theorem RD.below {l:List DeedV}(h:RD W v l)(k:Below W.heap.size W W'):RD W' v l:=by
 obtain⟨h0,o,t,h1⟩:=h;exact⟨h0,o,t,h1.below k⟩
theorem RB.below {bs:List (List DeedV)}(h:RB W v bs)(k:Below W.heap.size W W'):RB W' v bs:=by
 obtain⟨h0,vs,o,t,h1,h2,h3⟩:=h;exact⟨h0,vs,o,t,h1,h2.below k,fun j l hj=>let⟨u,hu,hd⟩:=h3 j l hj;⟨u,hu,hd.below k⟩⟩
theorem RT.below {ths:List (List (List DeedV))}(h:RT W v ths)(k:Below W.heap.size W W'):RT W' v ths:=by
 obtain⟨h0,vs,o,t,h1,h2,h3⟩:=h;exact⟨h0,vs,o,t,h1,h2.below k,fun j l hj=>let⟨u,hu,hd⟩:=h3 j l hj;⟨u,hu,hd.below k⟩⟩
def dD (ths:List (List (List DeedV))):List (List (List Pg.D)):=ths.map fun t=>t.map fun l=>l.map DeedV.D
theorem RD.at {l:List DeedV}(h:RD W v l):DeedsAt W v (l.map DeedV.D):=by
 obtain⟨h0,o,t,h1⟩:=h;exact⟨by rw[List.length_map];simp only[maxLen];omega,by rw[List.length_map];exact h1.sl⟩
theorem RB.at {bs:List (List DeedV)}(h:RB W v bs):BlocksAt W v (bs.map fun l=>l.map DeedV.D):=by
 obtain⟨h0,vs,o,t,h1,h2,h3⟩:=h;refine⟨by rw[List.length_map];simp only[maxLen];omega,vs,by rw[List.length_map];exact h1,by rw[List.length_map];exact h2.sl,fun j l hj=>?_⟩
 rw[List.getElem?_map]at hj
 cases hb:bs[j]? with
 | none=>rw[hb]at hj;cases hj
 | some l' =>
  rw[hb]at hj;injection hj with hj;subst hj;obtain⟨u,hu,hd⟩:=h3 j l' hb;exact⟨u,hu,hd.at⟩
theorem RT.at {ths:List (List (List DeedV))}(h:RT W v ths):ThreadsAt W v (dD ths):=by
 obtain⟨h0,vs,o,t,h1,h2,h3⟩:=h;unfold dD;refine⟨by rw[List.length_map];simp only[maxLen];omega,vs,by rw[List.length_map];exact h1,by rw[List.length_map];exact h2.sl,fun j l hj=>?_⟩
 rw[List.getElem?_map]at hj
 cases hb:ths[j]? with
 | none=>rw[hb]at hj;cases hj
 | some l' =>
  rw[hb]at hj;injection hj with hj;subst hj;obtain⟨u,hu,hd⟩:=h3 j l' hb;exact⟨u,hu,hd.at⟩
structure ThsOk (ths:List (List (List DeedV))):Prop where
 n1:1≤ths.length
 n8:ths.length≤8
 dk:∀ p ∈ ths,p.length≤6∧∀ ds ∈ p,1≤ds.length∧ds.length≤12∧∀ d ∈ ds,d.ok∧Pg.right d.D=true
theorem ThsOk.check {ths:List (List (List DeedV))}(h:ThsOk ths):check (dD ths)=(0,0,0,0):=by
 refine qhs (by unfold dD;rw[List.length_map];exact h.n1) (by unfold dD;rw[List.length_map];exact h.n8) fun j z _ hz=>?_
 unfold dD at hz;rw[List.getElem?_map]at hz
 cases hb:ths[j]? with
 | none=>rw[hb]at hz;cases hz
 | some p =>
  rw[hb]at hz;injection hz with hz;subst hz;obtain⟨h6,hd⟩:=h.dk p (List.mem_of_getElem? hb);refine qkx (by rw[List.length_map];exact h6) fun j z _ hz=>?_
  rw[List.getElem?_map]at hz
  cases hb2:p[j]? with
  | none=>rw[hb2]at hz;cases hz
  | some l =>
   rw[hb2]at hz;injection hz with hz;subst hz;obtain⟨h1,h12,hr⟩:=hd l (List.mem_of_getElem? hb2);refine qkq (by rw[List.length_map];exact h1) (by rw[List.length_map];exact h12) fun j z _ hz=>?_
   rw[List.getElem?_map]at hz
   cases hb3:l[j]? with
   | none=>rw[hb3]at hz;cases hz
   | some d =>
    rw[hb3]at hz;injection hz with hz;subst hz;exact (hr d (List.mem_of_getElem? hb3)).2
def KBr (W:World)(o:Own)(tg tr:Tag)(v:Value)(bs:List (List DeedV)):Prop:=
 bs.length≤6∧∃ vs:List Value,vs.length=bs.length∧Row W o tr 71 1 v bs.length vs∧∀ (j:Nat)(l:List DeedV),bs[j]?=some l→∃ u:Value,vs[j]?=some u∧KD W o tg u l
theorem KBr.nil (W:World)(o:Own)(tg tr:Tag):KBr W o tg tr (.slice none 0 0) []:=⟨by simp,[],rfl,Row.nil _ _ _ _ _,fun j l hj=>by simp at hj⟩
theorem KT.nil (W:World)(o:Own)(tg tr:Tag):KT W o tg tr (.slice none 0 0) []:=⟨by simp,[],rfl,Row.nil _ _ _ _ _,fun j l hj=>by simp at hj⟩
theorem KBr.whole {bs:List (List DeedV)}{n:Nat}(h:KBr W o (1,0) (3,0) v bs)(ho:∀ b,b<n→o b=(0,0))(o2:Own)(tg:Tag):KB W (ext o2 n tg) tg v bs:=by
 obtain⟨h0,vs,h1,h2,h3⟩:=h;have k:∀ t,t≠(0,0)→∀ b,o b=t→ext o2 n tg b=tg:=fun t ht b hb=>by
  refine qp ?_;refine Classical.byContradiction fun hn=>ht ?_
  rw[←hb];exact ho b (by omega)
 exact⟨h0,vs,h1,h2.chg _ _ (k _ (by simp)),fun j l hj=>let⟨u,hu,hd⟩:=h3 j l hj;⟨u,hu,hd.1,hd.2.chg _ _ (k _ (by simp))⟩⟩
theorem KBr.snoc {w1 w2:World}{o2:Own}{bs:List (List DeedV)}{vs:List Value}{l:List DeedV}{u v2:Value}(h6:bs.length+1≤6)(hl:vs.length=bs.length)(h3:∀ (j:Nat)(l:List DeedV),bs[j]?=some l→∃ u:Value,vs[j]?=some u∧KD W o (1,0) u l)
  (hd:KD w1 o' (1,0) u l)(k1:Stp (fun _=>False) o o' W w1)(k2:Stp (fun t=>t=(3,0)) o' o2 w1 w2)(hr:Row w2 o2 (3,0) 71 1 v2 (bs.length+1) (vs++[u])):KBr w2 o2 (1,0) (3,0) v2 (bs++[l]):=by
 refine⟨by rw[List.length_append];exact h6,vs++[u],by rw[List.length_append,List.length_append,hl];rfl,hr.ite (by simp) rfl,fun j z hj=>?_⟩
 by_cases hlt:j<bs.length
 ·rw[List.getElem?_append_left hlt]at hj
  obtain⟨x,hx,hk⟩:=h3 j z hj;exact⟨x,by rw[List.getElem?_append_left (by omega)];exact hx,(hk.stp k1 (fun h=>h)).stp k2 (by simp)⟩
 ·rw[List.getElem?_append_right (by omega)]at hj
  have hz:j=bs.length:=by
   have:=(List.getElem?_eq_some_iff.1 hj).1;simp at this;omega
  subst hz;rw[Nat.sub_self]at hj;simp at hj;subst hj;exact⟨u,by rw[List.getElem?_append_right (by omega),hl,Nat.sub_self];rfl,hd.stp k2 (by simp)⟩
theorem KT.snoc {w1 w2:World}{o2:Own}{tr:Tag}{ths:List (List (List DeedV))}{vs:List Value}{bs:List (List DeedV)}{u v2:Value}(hne:tg≠tr)(h8:ths.length+1≤8)(hl:vs.length=ths.length)(h3:∀ (j:Nat)(bs:List (List DeedV)),ths[j]?=some bs→∃ u:Value,vs[j]?=some u∧KB W o tg u bs)
  (hd:KB w1 o' tg u bs)(k1:Stp (fun _=>False) o o' W w1)(k2:Stp (fun t=>t=tr) o' o2 w1 w2)(hr:Row w2 o2 tr 67 1 v2 (ths.length+1) (vs++[u])):KT w2 o2 tg tr v2 (ths++[bs]):=by
 refine⟨by rw[List.length_append];exact h8,vs++[u],by rw[List.length_append,List.length_append,hl];rfl,hr.ite (by simp) rfl,fun j z hj=>?_⟩
 by_cases hlt:j<ths.length
 ·rw[List.getElem?_append_left hlt]at hj
  obtain⟨x,hx,hk⟩:=h3 j z hj;exact⟨x,by rw[List.getElem?_append_left (by omega)];exact hx,(hk.stp k1 (fun h=>h)).stp k2 hne⟩
 ·rw[List.getElem?_append_right (by omega)]at hj
  have hz:j=ths.length:=by
   have:=(List.getElem?_eq_some_iff.1 hj).1;simp at this;omega
  subst hz;rw[Nat.sub_self]at hj;simp at hj;subst hj;exact⟨u,by rw[List.getElem?_append_right (by omega),hl,Nat.sub_self];rfl,hd.stp k2 hne⟩
theorem qhd:∃ i,Tryz.prog.info? 58=some i∧i.size=15∧i.bytes=120∧i.zero=some (.agg zTh):=info_parts (by kernel_rfl)
theorem run_mkT {n:Nat}(h1:1≤n)(h8:n≤8)(w:World):(Instr.makeSlice 137 (.int .i64 n) (.int .i64 n)).run Tryz.prog w=.ok (.slice (some ⟨w.heap.size,0,none⟩) n n) (w.alloc (.cells (za (List.replicate n zTV)).toArray 58)):=by
 obtain⟨iI,hi,hsI,hyI,hzI⟩:=qhd;have h:=run_make (P:=Tryz.prog) w 137 58 iI _ Tryz.underlying137 hi hzI .i64 .i64 n n (by omega) (by omega) (by rw[hyI];omega) (by omega)
 rw[hsI]at h;simp only[Int.toNat_natCast]at h;have e:madeCells (Value.agg zTh).cells (n*15)=(za (List.replicate n zTV)).toArray:=by
  clear h;obtain rfl|rfl|rfl|rfl|rfl|rfl|rfl|rfl:n=1∨n=2∨n=3∨n=4∨n=5∨n=6∨n=7∨n=8:=by omega
  all_goals kernel_rfl
 rw[h,e]
def Mc.fresh (S:Stt)(ths:List (List (List DeedV))):Mc:=⟨S,ths,List.replicate ths.length zTV,[]⟩
theorem zTV_ok (l:List (List DeedV)):ThOk l zTV:=by
 refine⟨?_,?_,Int.le_refl _,⟨Int.le_refl _,by show (0:Int)≤_;omega⟩,fun h=>(by cases h),fun _=>⟨rfl,rfl⟩⟩
 all_goals
  intro j hj;rcases six hj with rfl|rfl|rfl|rfl|rfl|rfl<;>exact⟨0,rfl⟩
theorem Mc.fresh_ok {n r u m:Nat}{ths:List (List (List DeedV))}(h1:16≤n)(h2:n≤16384)(hr:r≤200)(hu:u≤200)(hm:m≤1099511627776)(ht:ThsOk ths):(Mc.fresh (Stt.fresh n ths.length r u m) ths).ok:=by
 refine⟨Stt.fresh_ok h1 h2 ht.n1 ht.n8 hr hu hm,List.length_replicate,List.length_replicate,ht.n8,fun t h=>?_,fun p hp=>?_,Nat.zero_le _,rfl,rfl⟩
 ·have h':t<ths.length:=by simpa [Mc.fresh] using h
  have e:(Mc.fresh (Stt.fresh n ths.length r u m) ths).h t=zTV:=by
   unfold Mc.h Mc.fresh;simp only[List.getD_eq_getElem?_getD,List.getElem?_replicate,if_pos h',Option.getD_some]
  rw[e];refine⟨zTV_ok _,?_⟩;show ((List.replicate ths.length (Tx.fresh r u)).getD t _).live=false;simp only[List.getD_eq_getElem?_getD,List.getElem?_replicate,if_pos h',Option.getD_some];rfl
 ·obtain⟨h6,hd⟩:=ht.dk p hp
  exact⟨h6,fun ds hds=>⟨(hd ds hds).2.1,(hd ds hds).2.2⟩⟩
end
end Go.Proofs.YteehgedabdchcaaGreat
namespace Go.Proofs.YteehgedabdchcaaGreat
open Go.RowKit Hp
attribute [local go_sem ↓] Go.wp_at_zero Go.wp_at_succ
section
variable {w w' : World} {o o' : Own}
theorem RB.slc {v:Value}{bs:List (List DeedV)}(h:RB w v bs):∃ a c,v=.slice a bs.length c:=by
 obtain⟨_,vs,_,_,_,hr,_⟩:=h;exact hr.slc
theorem RT.at' {v:Value}{ths:List (List (List DeedV))}(h:RT w v ths){t:Nat}{bs:List (List DeedV)}(ht:ths[t]?=some bs) :
  ∃ g cp a c,v=.slice (some ⟨g,0,none⟩) ths.length cp∧w.cell? ⟨g,t,none⟩=some (.slice a bs.length c)∧RB w (.slice a bs.length c) bs:=by
 obtain⟨h8,vs,o,tg,hl,hr,hd⟩:=h;obtain⟨u,hu,hb⟩:=hd t bs ht;have hlt:=(List.getElem?_eq_some_iff.1 ht).1;obtain⟨a,c,rfl⟩:=hb.slc;rcases hr.form with ⟨_,h0⟩|⟨g,cap,e,_⟩
 ·omega
 ·subst e
  exact⟨g,cap,a,c,rfl,hr.cells t _ hu,hb⟩
theorem RB.at' {v:Value}{bs:List (List DeedV)}(h:RB w v bs){t:Nat}{l:List DeedV}(ht:bs[t]?=some l) :
  ∃ g cp a c o tg,v=.slice (some ⟨g,0,none⟩) bs.length cp∧w.cell? ⟨g,t,none⟩=some (.slice a l.length c)∧l.length≤12∧Row w o tg 73 5 (.slice a l.length c) l.length (jt (l.map DeedV.D)):=by
 obtain⟨h8,vs,o,tg,hl,hr,hd⟩:=h;obtain⟨u,hu,h12,o2,t2,hb⟩:=hd t l ht;have hlt:=(List.getElem?_eq_some_iff.1 ht).1;obtain⟨a,c,rfl⟩:=hb.slc;rcases hr.form with ⟨_,h0⟩|⟨g,cap,e,_⟩
 ·omega
 ·subst e
  exact⟨g,cap,a,c,o2,t2,rfl,hr.cells t _ hu,h12,hb⟩
theorem qlx (l:List Pg.D):∀ u ∈ jt l,u.oneCell'=true:=by
 induction l with
 | nil=>intro u hu;simp[jt]at hu
 | cons d l ih =>
  intro u hu;have e:jt (d::l)=[.int .i64 d.k,.int .i64 d.a,.int .i64 d.b,.int .i64 d.i,.int .i64 d.n]++jt l:=rfl;rw[e,List.mem_append]at hu;rcases hu with hu|hu
  ·exact qb3 u hu
  ·exact ih u hu
theorem qfe {W:World}{b n:Nat}{l:List ThV}{t:Tag}(h:Blk W b (za l).toArray 58)(hn:l.length=n)(ht:o b=t)(h8:n≤8):Row W o t 58 15 (.slice (some ⟨b,0,none⟩) n n) n (za l):=by
 have e:=qao l;rw[hn]at e;refine⟨⟨e,.inr ⟨b,n,(za l).toArray,rfl,Nat.zero_le _,h,Nat.le_refl _,by simp only[maxLen];omega,by simp[e],by simp[e,List.take_of_length_le]⟩⟩,fun k hk=>?_⟩
 have:b=k:=by simpa [Value.ownBlock] using hk
 subst this;exact ht
theorem tb (n r u:Nat)(b:Int)(h1:16≤n)(h2:n≤16384)(hr:r≤200)(hu:u≤200){v:Value}{ths:List (List (List DeedV))}(ht:ThsOk ths)(o:Own)(id:Nat)(w:World)(hv:RT w v ths)(hfree:∀ b,b<w.heap.size→(o b).1≠id∧(o b).1≠id+2) :
  Calls Tryz.prog 29 #[.int .i64 n,.int .i64 r,.int .i64 u,.int .i64 b,v] w fun e w'=>∃ m o',e=.returned (.tuple #[ptr m.mb,.int .i64 0])∧m.y.l.id=id ∧
   MIn w' o' m (Mc.fresh (Stt.fresh n ths.length r u (bnd b).toNat) ths)∧Stp (fun _=>False) o o' w w':=by
 obtain⟨iD,hi5,hs5,hy5,hz5⟩:=qea;obtain⟨iS,hi1,hs1,hy1,hz1⟩:=qcf;obtain⟨iB,hi2,hs2,hy2,hz2⟩:=qan;have huD:=Tryz.underlying71;have huS:=Tryz.underlying67;have huB:=Tryz.underlying47;have hck:=qd8 v (dD ths) w hv.at;unfold ye at hck;rw[ht.check]at hck;have HCk:=Lib.hid (show Calls Tryz.prog 86 #[v] w fun e w'=>e=.returned (.tuple #[.int .i64 0,.agg #[.int .i64 0,.int .i64 0,.int .i64 0]])∧Below w.heap.size w w' from hck)
 obtain⟨k,hk⟩:∃ k,k=ths.length:=⟨_,rfl⟩;have k1:1≤k:=by rw[hk];exact ht.n1
 have k8:k≤8:=by rw[hk];exact ht.n8
 have hmk:=@run_mkT k k1 k8;have HN:=Lib.hid (fun (W:World)(hb:Below w.heap.size w W)=>new_in n k r u b h1 h2 k1 k8 hr hu (ext o w.heap.size (id+1,0)) id W (fun c hc=>by
  by_cases hlt:c<w.heap.size
  ·rw[qj hlt];exact (hfree c hlt).1
  ·rw[qp (by omega)];simp))
 have HFr:=Lib.hid hfree;have HV:=Lib.hid hv;have HTh:=Lib.hid ht;obtain⟨pv,cv,rfl⟩:∃ pv cv,v=.slice pv k cv:=by
  obtain⟨_,vs,_,_,_,hr',_⟩:=hv;rw[hk];exact hr'.slc
 rw[←hk];have HK:=Lib.hid hk;have kI1:(1:Int)≤(k:Int):=by omega
 have kI8:(k:Int)≤8:=by omega
 generalize (bnd b).toNat=B at *;clear hck hfree hv ht hk h1 h2 hr hu;go_enter Tryz.func29,Tryz.ntmps29;go_wp2_with (first
  | (go_at_call 86;refine HCk.out.mono ?_;rintro e w1 ⟨rfl,hb1⟩)
  | (go_at_call 46;refine (HN.out _ (qa hb1 _)).mono ?_;rintro e w2 ⟨y,o1,rfl,hid,hS,hs⟩)
  | fail)
 obtain⟨W0,hW0⟩:∃ W0:World,W0=(w2.alloc (.cells (za (List.replicate k zTV)).toArray 58)).alloc (.cells #[ptr y.sb,.slice none 0 0,.slice (some ⟨w2.heap.size,0,none⟩) k k,.int .i32 0,.int .u32 0,.slice none 0 0] 148):=⟨_,rfl⟩;rw[←hW0];obtain⟨o2,ho2⟩:∃ o2:Own,o2=fun b=>if b=w2.heap.size then (id+2,2) else if b=w2.heap.size+1 then (id+2,0) else o1 b:=⟨_,rfl⟩
 have hbW:Below w2.heap.size w2 W0:=by rw[hW0];exact qa (qa (qc w2) _) _
 have o2l:∀ b,b<w2.heap.size→o2 b=o1 b:=fun b hb=>by rw[ho2];show (if _ then _ else _)=_;rw[if_neg (by omega),if_neg (by omega)]
 have o2g:o2 w2.heap.size=(id+2,2):=by rw[ho2];exact if_pos rfl
 have o2m:o2 (w2.heap.size+1)=(id+2,0):=by rw[ho2];show (if _ then _ else _)=_;rw[if_neg (by omega),if_pos rfl]
 have sA:Stp (fun _=>False) o (ext o w.heap.size (id+1,0)) w (w1.alloc (.cells #[.int .i64 0,.int .i64 0,.int .i64 0] 35)):=(Stp.of_below (qa hb1 _)).ext _ _ (Nat.le_refl _)
 have sC:Stp (fun _=>False) o1 o2 w2 W0:=⟨hbW.os,hbW.tape,hbW.output,hbW.size,o2l,fun b hb _=>hbW.block b hb⟩
 have s2:=(sA.trans hs).trans sC;have S0:=hS.stp sC fun _ h=>h
 have R0:Row W0 o2 (id+2,2) 58 15 (.slice (some ⟨w2.heap.size,0,none⟩) k k) k (za (List.replicate k zTV)):=qfe (by rw[hW0];exact (Blk.new w2 _ _).alloc _) List.length_replicate o2g k8
 have B0:Blk W0 (w2.heap.size+1) #[ptr y.sb,.slice none 0 0,.slice (some ⟨w2.heap.size,0,none⟩) k k,.int .i32 0,.int .u32 0,.slice none 0 0] 148:=by rw[hW0];exact Blk.new_at _ _ _ _ _ (by simp) rfl
 obtain⟨mb,hmb⟩:∃ mb,mb=w2.heap.size+1:=⟨_,rfl⟩;obtain⟨g0,hg0⟩:∃ g0,g0=w2.heap.size:=⟨_,rfl⟩;rw[←hmb]at B0 o2m ⊢;rw[←hg0]at B0 R0 ⊢;have HS2:=Lib.hid s2;have HS0:=Lib.hid (And.intro S0 (And.intro R0 hid));have HB0:=Lib.hid B0;have HOm:=Lib.hid o2m;have HB0':=Lib.hid (show mb<W0.heap.size from B0.lt);clear hW0 ho2 hbW o2l o2g o2m sA sC s2 S0 R0 B0 hs hS hid hmb hg0 hb1 hmk HN HCk;go_loopw [49] (fun ix wr=>∃ (q:Nat)(vp:Value)(oo:Own),ix=.int .i64 q∧q≤k∧Blk wr mb #[ptr y.sb,vp,.slice (some ⟨g0,0,none⟩) k k,.int .i32 0,.int .u32 0,.slice none 0 0] 148∧KT wr oo (id+2,1) (id+2,4) vp (ths.take q)∧Stp (fun t=>t=(id+2,0)∨t=(id+2,4)) o2 oo W0 wr) (fun ix _=>k-(intOf ix).toNat)
 case atStart=>exact⟨0,_,o2,rfl,Nat.zero_le _,HB0.out,KT.nil _ _ _ _,Stp.refl _ _ _⟩
 case round =>
  clear HB0;obtain⟨q,vp,oo,rfl,hqk,hB,hKT,hs⟩:=hrel;obtain⟨wo,rfl⟩:∃ wo:World,wo=wr:=⟨_,rfl⟩;have hbw:Below w.heap.size w wo:=((HS2.out.mono fun _ h=>h.elim).trans hs).below fun b hb e=>by
   have:=(HFr.out b hb).2;rcases e with e|e<;>rw[e]at this<;>simp at this
  by_cases hlt:q<k
  ·have qI:(q:Int)<(k:Int):=by omega
   have HW:=Lib.hid (qr q (by omega))
   obtain⟨p,hp⟩:∃ p,ths[q]?=some p:=⟨_,List.getElem?_eq_getElem (by rw[←HK.out];exact hlt)⟩
   obtain⟨g,cp,a,c,ev,hcell,hRB⟩:=(HV.out.below hbw).at' hp;injection ev with ev1 ev2 ev3;clear ev2;subst ev1 ev3;obtain⟨h6p,hdp⟩:=HTh.out.dk p (List.mem_of_getElem? hp);obtain⟨_,vs,hvl,hrow,hvs⟩:=hKT;have htk:(ths.take q).length=q:=by rw[List.length_take];have:=HK.out;omega
   rw[htk]at hrow hvl;obtain⟨pp,cpp,rfl⟩:=hrow.slc;have cb:=hB.cell;have lb:=hB.lt;have HB:=Lib.hid hB;have HRB:=Lib.hid hRB;have HRow:=Lib.hid hrow;have HVs:=Lib.hid hvs;have HVl:=Lib.hid hvl;have HS:=Lib.hid hs;have HTk:=Lib.hid (show ths.take (q+1)=ths.take q++[p] from by rw[List.take_add_one,hp];rfl)
   have HLen:=Lib.hid htk;have H6:=Lib.hid h6p;obtain⟨np,hnp⟩:∃ np,np=p.length:=⟨_,rfl⟩;rw[←hnp]at hcell h6p;have HNp:=Lib.hid hnp;have HCL:=Lib.hid (show wo.cell? ⟨g,q,none⟩=wo.cell? ⟨g,q,none⟩ from rfl);clear hB hs hp hRB hdp hrow hvs hvl htk hnp HCL;go_wp2_with fail;clear cb hcell;go_loopw [19,55] (fun vo jx wi=>∃ (j:Nat)(oi:Own),jx=.int .i64 j∧j≤np∧KBr wi oi (1,0) (3,0) vo (p.take j)∧Below wo.heap.size wo wi∧(∀ b,b<wo.heap.size→oi b=(0,0))) (fun _ jx _=>np-(intOf jx).toNat)
   case atStart=>exact⟨0,fun _=>(0,0),rfl,Nat.zero_le _,KBr.nil _ _ _ _,qc wo,fun _ _=>rfl⟩
   case round =>
    obtain⟨j,oi,rfl,hjn,hKB,hbi,hOi⟩:=hrel;obtain⟨wi,rfl⟩:∃ wi:World,wi=wr:=⟨_,rfl⟩;by_cases hlt2:j<np
    ·have hjI:(j:Int)<(np:Int):=by omega
     obtain⟨l,hl⟩:∃ l,p[j]?=some l:=⟨_,List.getElem?_eq_getElem (by rw[←HNp.out];exact hlt2)⟩
     obtain⟨g2,cp2,a2,c2,o3,t3,ev,hcell2,hl12,hrowS⟩:=(HRB.out.below hbi).at' hl;injection ev with ev1 ev2 ev3
     try clear ev2
     subst ev1 ev3;have HW3:=Lib.hid (qr j (by have:=H6.out;have:=HNp.out;omega))
     obtain⟨_,us,hul,hur,hus⟩:=hKB;have htj:(p.take j).length=j:=by rw[List.length_take];have:=HNp.out;omega
     rw[htj]at hur hul;obtain⟨pu,cu,rfl⟩:=hur.slc;have hk1:0+l.length≤maxLen:=by simp only[maxLen];omega
     have hk2:(0+l.length)*40≤140737488355328:=by omega
     have hml:j+1≤maxLen:=by simp only[maxLen];omega
     have hmb':(j+1)*24≤140737488355328:=by omega
     obtain⟨nl,hnl⟩:∃ nl,nl=l.length:=⟨_,rfl⟩;rw[←hnl]at hcell2 hrowS hk1 hk2;have HSrc:=Lib.hid hrowS;have HX7:=Lib.hid (fun (w7:World)(p1:Option Addr)(c1:Nat)(hr1:Row w7 (fo wi.heap.size) (1,0) 73 5 (.slice p1 nl c1) nl (jt (l.map DeedV.D)))(hb7:Below wi.heap.size wi w7) =>
      show Stp (fun _=>False) oi (ext oi wi.heap.size (1,0)) wi (w7.alloc (.cells #[.slice p1 nl c1] 71))∧KD (w7.alloc (.cells #[.slice p1 nl c1] 71)) (ext oi wi.heap.size (1,0)) (1,0) (.slice p1 nl c1) l ∧
       Row (w7.alloc (.cells #[.slice p1 nl c1] 71)) (ext oi wi.heap.size (1,0)) (3,0) 71 1 (.slice pu j cu) j us from by
       have sX:Stp (fun _=>False) oi (ext oi wi.heap.size (1,0)) wi (w7.alloc (.cells #[.slice p1 nl c1] 71)):=(Stp.of_below (qa hb7 _)).ext _ _ (Nat.le_refl _)
       exact⟨sX,⟨hl12,by rw[←hnl];exact (hr1.out oi (1,0)).below (qa (qc w7) _)⟩,hur.stp sX fun h=>h⟩)
     have HSn:=Lib.hid (fun (w7 w8:World)(p1:Option Addr)(c1:Nat)(v2:Value)(o9:Own)(sX:Stp (fun _=>False) oi (ext oi wi.heap.size (1,0)) wi (w7.alloc (.cells #[.slice p1 nl c1] 71)))(hd:KD (w7.alloc (.cells #[.slice p1 nl c1] 71)) (ext oi wi.heap.size (1,0)) (1,0) (.slice p1 nl c1) l)
       (hst2:Stp (fun t=>t=(3,0)) (ext oi wi.heap.size (1,0)) o9 (w7.alloc (.cells #[.slice p1 nl c1] 71)) w8)(hown2:Row w8 o9 (3,0) 71 1 v2 (j+1) (us++[.slice p1 nl c1])) =>
      show KBr w8 o9 (1,0) (3,0) v2 (p.take (j+1))∧Below wo.heap.size wo w8∧(∀ b,b<wo.heap.size→o9 b=(0,0)) from by
       have e:p.take (j+1)=p.take j++[l]:=by rw[List.take_add_one,hl];rfl
       have st:Stp (fun t=>t=(3,0)) oi o9 wo w8:=((Stp.of_below hbi).trans (sX.mono fun _ h=>h.elim)).trans hst2
       refine⟨?_,st.below fun b hb e=>?_,fun b hb=>(st.tags b hb).trans (hOi b hb)⟩
       ·rw[e]
        have h6:=H6.out;have hn6:=HNp.out;exact KBr.snoc (by rw[htj];omega) (by rw[htj];exact hul) hus hd sX hst2 (hown2.ite (by rw[htj]) rfl)
       ·rw[hOi b hb]at e;simp at e)
     obtain⟨hw3,hw4⟩:=HW3.out;clear hl hrowS hl12 hul hur hus htj hbi hOi hnl;go_wp2_with (first
      | (at_builtin;refine zj _ rfl _ _ _ rfl 73 iD _ 5 40 huD hi5 hz5 hs5 hy5 rfl (by decide) (fo wi.heap.size) (1,0) _ 0 [] rfl (Row.nil _ _ _ _ _) o3 t3 _ nl (jt (l.map DeedV.D)) rfl HSrc.out (qlx _) hk1 hk2 ?_;intro v1 w7 hown1 hst1;have hr1:=xx (qc wi) hown1;have hb7:=wn (qc wi) hst1;simp only[Nat.zero_add,List.nil_append]at hr1;obtain⟨p1,c1,rfl⟩:=hr1.slc;obtain⟨sX,hd7,rn⟩:=HX7.out w7 p1 c1 hr1 hb7;have jn:=Blk.new w7 #[.slice p1 nl c1] 71;clear hr1 hb7 hown1 hst1)
      | (at_builtin;refine qf _ rfl _ _ _ rfl 71 iS _ 1 24 huS hi1 hz1 hs1 hy1 rfl (by decide) (ext oi wi.heap.size (1,0)) (3,0) _ _ _ rfl rn ⟨w7.heap.size,0,none⟩ 1 1 [.slice p1 nl c1] rfl rfl (qx jn) yg hml hmb' ?_;intro v2 w8 hown2 hst2)
      | fail)
     have hSn:=HSn.out w7 w8 p1 c1 v2 _ sX hd7 hst2 hown2;clear sX hd7 hst2 hown2 rn jn;go_roundw
     case rel=>exact⟨j+1,_,by simp,hlt2,hSn⟩
     case measure=>clear hw3 hw4 hk1 hk2 hml hmb';simp[intOf];omega
    ·obtain rfl:j=np:=by omega
     rw[HNp.out,List.take_length]at hKB;have hKB2:=hKB.whole (n:=wo.heap.size) hOi oo (id+2,1);obtain⟨av,cv',rfl⟩:=hKB2.slc;rw[←HNp.out]at hKB2;rw[←HNp.out];have jB:=HB.out.below hbi HB.out.lt;have sY:Stp (fun _=>False) oo (ext oo wo.heap.size (id+2,1)) wo (wi.alloc (.cells #[.slice av j cv'] 67)):=(Stp.of_below (qa hbi _)).ext _ _ (Nat.le_refl _)
     have rn2:=HRow.out.stp sY fun h=>h
     have hml2:q+1≤maxLen:=by simp only[maxLen];omega
     have hmb2:(q+1)*24≤140737488355328:=by omega
     have HFx:=Lib.hid (fun (w4:World)(o4:Own)(p4:Option Addr)(c4:Nat)(hown4:Row w4 o4 (id+2,4) 67 1 (.slice p4 (q+1) c4) (q+1) (vs++[.slice av j cv']))(hst4:Stp (fun t=>t=(id+2,4)) (ext oo wo.heap.size (id+2,1)) o4 (wi.alloc (.cells #[.slice av j cv'] 67)) w4) =>
      show Blk w4 mb #[ptr y.sb,.slice pp q cpp,.slice (some ⟨g0,0,none⟩) k k,.int .i32 0,.int .u32 0,.slice none 0 0] 148∧Blk (w4.setCell ⟨mb,1,none⟩ (.slice p4 (q+1) c4)) mb #[ptr y.sb,.slice p4 (q+1) c4,.slice (some ⟨g0,0,none⟩) k k,.int .i32 0,.int .u32 0,.slice none 0 0] 148 ∧
       KT (w4.setCell ⟨mb,1,none⟩ (.slice p4 (q+1) c4)) o4 (id+2,1) (id+2,4) (.slice p4 (q+1) c4) (ths.take (q+1))∧Stp (fun t=>t=(id+2,0)∨t=(id+2,4)) o2 o4 W0 (w4.setCell ⟨mb,1,none⟩ (.slice p4 (q+1) c4)) from by
       have eo:oo mb=(id+2,0):=(HS.out.tags _ HB0'.out).trans HOm.out;have e6:ext oo wo.heap.size (id+2,1) mb=(id+2,0):=(qj HB.out.lt).trans eo;have jb4:=(jB.alloc (.cells #[.slice av j cv'] 67)).stp hst4 (by rw[e6];simp)
       have e4:o4 mb=(id+2,0):=(hst4.tags _ (jB.alloc _).lt).trans e6;have k5:Stp (fun t=>t=(id+2,0)) o4 o4 w4 (w4.setCell ⟨mb,1,none⟩ (.slice p4 (q+1) c4)):=(Stp.refl _ o4 w4).setCell (by show o4 mb=_;exact e4) _
       have kt:KT w4 o4 (id+2,1) (id+2,4) (.slice p4 (q+1) c4) (ths.take q++[p]):=KT.snoc (by simp) (by rw[HLen.out];omega) (by rw[HLen.out];exact HVl.out) HVs.out (hKB2.stp (Stp.of_below (T:=fun _=>False) (qa (qc wi) _)) fun h=>h) sY hst4 (hown4.ite (by rw[HLen.out]) rfl)
       refine⟨jb4,jb4.set 1 _,?_,?_⟩
       ·rw[HTk.out];exact kt.stp k5 (by simp) (by simp)
       ·exact (HS.out.trans ((sY.mono fun _ h=>h.elim).trans (hst4.mono fun _ h=>.inr h))).trans (k5.mono fun _ h=>.inl h))
     have cb:=jB.cell;have lb:=jB.lt;have HRn:=Lib.hid rn2;obtain⟨hw1,hw2⟩:=HW.out;clear hKB hKB2 jB sY rn2 hbi hOi hlt2 hjn;go_wp2_with (first
      | (at_builtin;refine qf _ rfl _ _ _ rfl 67 iB _ 1 24 huB hi2 hz2 hs2 hy2 rfl (by decide) (ext oo wo.heap.size (id+2,1)) (id+2,4) _ _ _ rfl HRn.out ⟨wi.heap.size,0,none⟩ 1 1 [.slice av j cv'] rfl rfl (qx (Blk.new wi _ _)) yg hml2 hmb2 ?_;intro v4 w4 hown4 hst4;obtain⟨p4,c4,rfl⟩:=hown4.slc;obtain⟨j4,hfx⟩:=HFx.out _ _ _ _ hown4 hst4;have c4':=j4.cell;have z4:=j4.free;have l4:=j4.lt)
      | fail)
     clear hown4 hst4 j4;go_roundw
     case rel=>exact⟨q+1,_,_,by simp,hlt,hfx⟩
     case measure=>clear hw1 hw2 hml2 hmb2;simp[intOf];omega
  ·obtain rfl:q=k:=by omega
   rw[HK.out,List.take_length]at hKT;have hM:MIn wo oo ⟨mb,y,vp,.slice (some ⟨g0,0,none⟩) q q⟩ (Mc.fresh (Stt.fresh n q r u B) ths):=by
    obtain⟨hS0,hR0,hid⟩:=HS0.out;refine⟨⟨.slice none 0 0,hB,Row.nil _ _ _ _ _⟩,hS0.stp hs fun j e=>by rw[hid]at e;simp at e,?_,?_,?_⟩
    ·show KT wo oo (y.l.id+2,1) (y.l.id+2,4) vp ths
     rw[hid];exact hKT
    ·show Row wo oo (y.l.id+2,2) _ 15 _ (List.replicate ths.length zTV).length (za (List.replicate ths.length zTV))
     rw[List.length_replicate,←HK.out,hid];exact hR0.stp hs (by simp)
    ·show oo mb=(y.l.id+2,0)
     rw[hid];exact (hs.tags _ HB0'.out).trans HOm.out
   have HFin:=Lib.hid (And.intro hM (((HS2.out.mono fun _ h=>h.elim).trans hs).strict fun b hb e=>by
    have:=(HFr.out b hb).2;rcases e with e|e<;>rw[e]at this<;>simp at this))
   clear hM hB hKT hs hbw hlt hqk;go_wp2_with fail;go_ret2;exact⟨_,oo,rfl,HS0.out.2.2,HFin.out.1,HFin.out.2⟩
end
end Go.Proofs.YteehgedabdchcaaGreat
namespace Go.Proofs.YteehgedabdchcaaGreat
open Go.RowKit Hp
open Go.MuLone
attribute [local go_sem ↓] Go.wp_at_zero Go.wp_at_succ
theorem rnote_go {b:Nat} {c0 c1 c2 v:Value} (x:EnV) {es:List EnV} {w:World} {o:Own} {tg:Tag} (jb:Blk w b #[c0,c1,c2,.int .i32 0,.int .u32 0,v] 148)
  (hr:Row w o tg 69 6 v es.length (qw es)) (hn:es.length<2000) (nb:o b≠tg) :
  Calls Tryz.prog 91 #[.pointer (some ⟨b,3,none⟩),x.val] w fun e w'=>e=.returned (.tuple #[])∧∃ v' o',Blk w' b #[c0,c1,c2,.int .i32 0,.int .u32 0,v'] 148 ∧
   Row w' o' tg 69 6 v' (es++[x]).length (qw (es++[x]))∧Stp (fun u=>u=tg∨u=o b) o o' w w':=by
 obtain⟨iU,hi,hsI,hyI,hzI⟩:=dt;have hu64:=Tryz.underlying62;have hlen:(es++[x]).length=es.length+1:=by simp
 rw[hlen,nr];obtain⟨xt,xb,xn,⟨xk,xe,xv⟩⟩:=x;obtain⟨pa,cp,rfl⟩:=hr.slc;obtain⟨cs,hcs⟩:∃ cs,cs=qw es:=⟨_,rfl⟩;obtain⟨n,hnn⟩:∃ n,n=es.length:=⟨_,rfl⟩;rw[←hcs,←hnn]at hr;rw[←hnn]at jb;rw[←hcs,←hnn];rw[←hnn]at hn;show Calls _ _ #[.pointer (some ⟨b,3,none⟩),.agg #[.int .i64 xt,.int .i64 xb,.int .i64 xn,.int .i64 xk,.int .i64 xe,.int .i64 xv]] _ _;obtain⟨z,hz⟩:∃ z,z=w.heap.size:=⟨_,rfl⟩;obtain⟨W,hW⟩:∃ W:World,W=w.alloc (.cells #[.int .i64 xt,.int .i64 xb,.int .i64 xn,.int .i64 xk,.int .i64 xe,.int .i64 xv] 69):=⟨_,rfl⟩;have hb:Below w.heap.size w W:=by rw[hW];exact qa (qc w) _
 have jW:=jb.below hb jb.lt;have jX:Blk W z #[.int .i64 xt,.int .i64 xb,.int .i64 xn,.int .i64 xk,.int .i64 xe,.int .i64 xv] 69:=by rw[hW,hz];exact Blk.new w _ _
 have q0:W.cell? ⟨b,3,none⟩=some (.int .i32 0):=jW.cell 3;have fW:W.frozen? ⟨b,3,none⟩=false:=jW.free 3;have hbz:b<z:=by rw[hz];exact jb.lt
 have hzW:z<W.heap.size:=jX.lt
 have H1:=Lib.hid (fun (W1:World) (h:W1=W.setCell ⟨b,3,none⟩ (.int .i32 1)) =>
  show Blk W1 b #[c0,c1,c2,.int .i32 1,.int .u32 0,.slice pa n cp] 148∧Blk W1 z #[.int .i64 xt,.int .i64 xb,.int .i64 xn,.int .i64 xk,.int .i64 xe,.int .i64 xv] 69∧Row W1 o tg 69 6 (.slice pa n cp) n cs∧Stp (fun u=>u=o b) o o w W1 from by
   subst h;have k:Stp (fun u=>u=o b) o o W (W.setCell ⟨b,3,none⟩ (.int .i32 1)):=(Stp.refl _ o W).setCell (by show o b=o b;rfl) _
   exact⟨jW.set 3 _,jX.set_other (by show z≠b;omega) _,(hr.below hb).stp k (fun e=>nb e.symm),(Stp.of_below hb).trans k⟩)
 have HF:=Lib.hid (fun (W1 w5:World) (o5:Own) (p5:Option Addr) (c5:Nat) (j1:Blk W1 b #[c0,c1,c2,.int .i32 1,.int .u32 0,.slice pa n cp] 148) (s1:Stp (fun u=>u=o b) o o w W1)
   (hown:Row w5 o5 tg 69 6 (.slice p5 (n+1) c5) (n+1) (cs++[.int .i64 xt,.int .i64 xb,.int .i64 xn,.int .i64 xk,.int .i64 xe,.int .i64 xv]))
   (hst:Stp (fun u=>u=tg) o o5 (W1.drew.alloc (.cells #[.int .i64 xt,.int .i64 xb,.int .i64 xn,.int .i64 xk,.int .i64 xe,.int .i64 xv] 69)) w5) =>
  show Blk w5 b #[c0,c1,c2,.int .i32 1,.int .u32 0,.slice pa n cp] 148∧Blk (w5.setCell ⟨b,5,none⟩ (.slice p5 (n+1) c5)) b #[c0,c1,c2,.int .i32 1,.int .u32 0,.slice p5 (n+1) c5] 148 ∧
   ∃ o',Blk ((w5.setCell ⟨b,5,none⟩ (.slice p5 (n+1) c5)).setCell ⟨b,3,none⟩ (.int .i32 0)) b #[c0,c1,c2,.int .i32 0,.int .u32 0,.slice p5 (n+1) c5] 148 ∧
    Row ((w5.setCell ⟨b,5,none⟩ (.slice p5 (n+1) c5)).setCell ⟨b,3,none⟩ (.int .i32 0)) o' tg 69 6 (.slice p5 (n+1) c5) (n+1) (cs++[.int .i64 xt,.int .i64 xb,.int .i64 xn,.int .i64 xk,.int .i64 xe,.int .i64 xv]) ∧
    Stp (fun u=>u=tg∨u=o b) o o' w ((w5.setCell ⟨b,5,none⟩ (.slice p5 (n+1) c5)).setCell ⟨b,3,none⟩ (.int .i32 0)) from by
   have kb:Below W1.heap.size W1 (W1.drew.alloc (.cells #[.int .i64 xt,.int .i64 xb,.int .i64 xn,.int .i64 xk,.int .i64 xe,.int .i64 xv] 69)):=qa (qe (qc W1)) _;have j2:=(j1.below kb j1.lt).stp hst nb;have e5:o5 b=o b:=hst.tags _ (j1.below kb j1.lt).lt;have j3:=j2.set 5 (.slice p5 (n+1) c5);have k3:Stp (fun u=>u=o b) o5 o5 w5 ((w5.setCell ⟨b,5,none⟩ (.slice p5 (n+1) c5)).setCell ⟨b,3,none⟩ (.int .i32 0)):=((Stp.refl _ o5 w5).setCell (by show o5 b=o b;exact e5) _).setCell (by show o5 b=o b;exact e5) _
   exact⟨j2,j3,o5,j3.set 3 _,hown.stp k3 (fun e=>nb e.symm),(s1.mono fun _ h=>.inr h).trans (((Stp.of_below kb).trans hst).mono (fun _ h=>.inl h) |>.trans (k3.mono fun _ h=>.inr h))⟩)
 have hnI:(n:Int)<2000:=by omega
 have hml:n+1≤maxLen:=by simp only[maxLen];omega
 have hmb:(n+1)*48≤140737488355328:=by omega
 have h1c:∀ u ∈ [Value.int .i64 xt,.int .i64 xb,.int .i64 xn,.int .i64 xk,.int .i64 xe,.int .i64 xv],u.oneCell'=true:=by intro u hu;simp at hu;rcases hu with rfl|rfl|rfl|rfl|rfl|rfl<;>rfl
 clear hr hn hcs hnn hb jW jX hbz hzW jb;go_enter_defers Tryz.func91,Tryz.ntmps91
 go_upto_region 4 with (first
  | (go_at_call 148;rw[←hW];refine (lock_free Tryz.muLib ⟨b,3,none⟩ _ q0 fW).mono ?_;rintro e W1 ⟨rfl,hW1⟩;obtain⟨j1,jx1,r1,s1⟩:=H1.out W1 hW1;clear hW1 hW q0 fW H1;have d1:=j1.cell;have f1:=j1.free;have l1:=j1.lt;have d2:=jx1.cell;rw[hz]at d2)
  | fail)
 have S1:=Lib.hid s1;have J1:=Lib.hid j1;have jn:=Blk.new W1.drew #[.int .i64 xt,.int .i64 xb,.int .i64 xn,.int .i64 xk,.int .i64 xe,.int .i64 xv] 69;have rn:=r1.below (qa (qe (qc W1)) (.cells #[.int .i64 xt,.int .i64 xb,.int .i64 xn,.int .i64 xk,.int .i64 xe,.int .i64 xv] 69));clear s1 j1 jx1 r1;refine wp_region_noPanic ?_;go_region_law ((refine zi _ (by rfl) _ _ _ (by rfl) 69 iU _ 6 48 hu64 hi hzI hsI hyI (by rfl) (by decide) o tg _ _ _ (by rfl) rn ⟨W1.heap.size,0,none⟩ 1 1 [.int .i64 xt,.int .i64 xb,.int .i64 xn,.int .i64 xk,.int .i64 xe,.int .i64 xv] (by rfl) (by rfl) (yq jn) h1c hml hmb ?_;intro v' w5 hown hst;obtain⟨p5,c5,rfl⟩:=hown.slc;obtain⟨jY,jZ,hfin⟩:=HF.out _ _ _ _ _ J1.out S1.out hown hst;have cX:=jY.cell;have zX:=jY.free;have sX:=jY.lt))
 all_goals
  refine NoPanic.normal ?_
  try go_wp2_with fail
  refine leaves_cons (f:=149) (args:=#[.pointer (some ⟨b,3,none⟩)]) (by simp) (by simp[go_sem]) ?_
  refine (unlock_deferred Tryz.muLib ⟨b,3,none⟩ .returning _ (jZ.cell 3) (jZ.free 3)).mono ?_
  rintro e u' w'' ⟨rfl,rfl,rfl⟩
  exact⟨.tuple #[],by simp[results,Tryz.results91,go_sem],rfl,_,hfin⟩
def y9 (m:MLay)(t:Tag):Prop:=t=(m.y.l.id+2,3)∨t=(m.y.l.id+2,0)
theorem qeu {w:World}{o:Own}{m:MLay}{M:Mc}(h:MIn w o m M)(x:EnV) :
  Calls Tryz.prog 91 #[.pointer (some ⟨m.mb,3,none⟩),x.val] w fun e w'=>e=.returned (.tuple #[])∧∃ o',MIn w' o' m { M with past:=wu M.past x }∧Stp (y9 m) o o' w w':=by
 obtain⟨ve,jb,hr⟩:=h.blk;have fin:∀ {w':World}{o':Own}{l:List EnV},(∃ v',Blk w' m.mb #[ptr m.y.sb,m.vp,m.vh,.int .i32 0,.int .u32 0,v'] 148∧Row w' o' (m.y.l.id+2,3) 69 6 v' l.length (qw l))→Stp (y9 m) o o' w w'→MIn w' o' m { M with past:=l }:=by
  intro w' o' l hb hs;have hn:∀ j,¬y9 m (m.y.l.id,j):=fun j e=>by rcases e with e|e<;>simp at e
  have hn2:∀ j,j≠0→j≠3→¬y9 m (m.y.l.id+2,j):=fun j h0 h3 e=>by rcases e with e|e<;>simp at e<;>omega
  exact⟨hb,h.st.stp hs hn,h.ps.stp hs (hn2 1 (by omega) (by omega)) (hn2 4 (by omega) (by omega)),h.hs.stp hs (hn2 2 (by omega) (by omega)),(hs.tags _ h.lt).trans h.om⟩
 unfold wu;by_cases hl:M.past.length<2000
 ·rw[if_pos hl]
  refine (rnote_go x jb hr hl (by rw[h.om];simp)).mono ?_
  rintro e w' ⟨rfl,v',o',h1,h2,h3⟩
  have h4:Stp (y9 m) o o' w w':=h3.mono (by rintro t (rfl|rfl);exact .inl rfl;exact .inr h.om)
  exact⟨rfl,o',fin ⟨v',h1,h2⟩ h4,h4⟩
 ·rw[if_neg hl]
  obtain⟨pa,cp,rfl⟩:=hr.slc;refine (qh5 m.mb M.past.length cp pa x w (jb.cell 3) (jb.cell 5) (jb.free 3) jb.lt (by omega)).mono ?_
  rintro e w' ⟨rfl,X,rfl⟩
  have e1:o m.mb=(m.y.l.id+2,0):=h.om;have k1:Stp (y9 m) o o w (w.setCell ⟨m.mb,3,none⟩ (.int .i32 1)):=(Stp.refl _ o w).setCell (by show y9 m (o m.mb);rw[e1];exact .inr rfl) _
  have k2:Stp (y9 m) o o w ((w.setCell ⟨m.mb,3,none⟩ (.int .i32 1)).alloc X):=k1.trans (Stp.of_below (qa (qc _) X));have k3:Stp (y9 m) o o w (((w.setCell ⟨m.mb,3,none⟩ (.int .i32 1)).alloc X).setCell ⟨m.mb,3,none⟩ (.int .i32 0)):=k2.setCell (by show y9 m (o m.mb);rw[e1];exact .inr rfl) _
  have j3:=((jb.set 3 (.int .i32 1)).alloc X).set 3 (.int .i32 0);have hr3:=hr.stp ((Stp.refl (fun t=>t=(m.y.l.id+2,0)) o w).setCell (a:=⟨m.mb,3,none⟩) (by show o m.mb=_;exact e1) (.int .i32 1)) (by simp)
  have hr4:=hr3.below (qa (qc _) X);have hr5:=hr4.stp ((Stp.refl (fun t=>t=(m.y.l.id+2,0)) o _).setCell (a:=⟨m.mb,3,none⟩) (by show o m.mb=_;exact e1) (.int .i32 0)) (by simp)
  exact⟨rfl,o,fin ⟨_,j3,hr5⟩ k3,k3⟩
end Go.Proofs.YteehgedabdchcaaGreat
