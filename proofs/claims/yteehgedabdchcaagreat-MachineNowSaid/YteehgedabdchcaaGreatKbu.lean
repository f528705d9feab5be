import Derived.Test.YteehgedabdchcaaGreatKbt
set_option linter.all false
set_option maxRecDepth 1000000
set_option maxHeartbeats 16000000
namespace Go.Proofs.YteehgedabdchcaaGreat
open Hp
section
variable {S : Stt} {i : Nat} {M : Mc}
theorem kn {r:Res}(m:Mv i S r.S)(hi:i<S.txs.length)(hl:(S.t i).live=true):(S.deedR i r).S.now=S.now:=by
 rcases qko m hi hl with⟨_,h,_⟩|⟨_,h,_⟩<;>exact h.now
theorem lf (s e:Int):(ledA s e).k=2:=by unfold ledA;split<;>rfl
theorem qme (hi:i<S.txs.length)(hl:(S.t i).live=true)(h:ThV){d:DeedV}(hd:d.ok):(S.tdeed i h d).S.now=S.now∧(S.tdeed i h d).a.k=2:=by
 have hkd:=hd.k;by_cases k1:d.k=1
 ·rw[ry _ _ _ _ k1];exact⟨kn (Mv.allocR _ _ _) hi hl,lf _ _⟩
 by_cases k2:d.k=2
 ·rw[ni _ _ _ _ k2];exact⟨kn (Mv.allocR _ _ _) hi hl,lf _ _⟩
 by_cases k3:d.k=3
 ·rw[sn _ _ _ _ k3];exact⟨kn (Mv.weakR _ _ _) hi hl,lf _ _⟩
 by_cases k4:d.k=4
 ·rw[co _ _ _ _ k4];exact⟨kn (Mv.getR _ _ _ _) hi hl,lf _ _⟩
 by_cases k9:d.k=9
 ·rw[ce _ _ _ _ k9];exact⟨kn (Mv.loadR _ _ _) hi hl,lf _ _⟩
 by_cases k10:d.k=10
 ·rw[fw _ _ _ _ k10];exact⟨kn (Mv.takeR _ _) hi hl,lf _ _⟩
 by_cases k5:d.k=5
 ·rw[sm _ _ _ _ k5];exact⟨kn (Mv.putR _ _ _ _ _) hi hl,rfl⟩
 by_cases k6:d.k=6
 ·rw[nf _ _ _ _ k6];exact⟨kn (Mv.readR _ _ _ _) hi hl,rfl⟩
 by_cases k7:d.k=7
 ·rw[sa _ _ _ _ k7];exact⟨kn (Mv.writeR _ _ _ _ _) hi hl,rfl⟩
 by_cases k8:d.k=8
 ·rw[bw _ _ _ _ k8];exact⟨kn (Mv.freeR _ _ _) hi hl,rfl⟩
 by_cases k11:d.k=11
 ·rw[fx _ _ _ _ k11];exact⟨rfl,rfl⟩
 by_cases k12:d.k=12
 ·rw[ff _ _ _ _ k12];exact⟨rfl,rfl⟩
 by_cases k13:d.k=13
 ·rw[fp _ _ _ _ k13];exact⟨rfl,rfl⟩
 ·rw[fy _ _ _ _ (by omega)];exact⟨(Ed.abort hi).now,rfl⟩
structure Tk (S:Stt)(S':Stt)(a:ActV):Prop where
 com:a.k=3→a.e=0→a.v≠0→a.v=(S.now:Int)+1∧S'.now=S.now+1
 oth:¬(a.k=3∧a.e=0∧a.v≠0)→S'.now=S.now
 beg:a.k=1→a.e=0→a.v=S.now
theorem Tk.none {S':Stt}{a:ActV}(h:S'.now=S.now)(h3:a.k≠3∨a.e≠0∨a.v=0)(h1:a.k≠1∨a.e≠0∨a.v=S.now):Tk S S' a:=by
 refine⟨fun a1 a2 a3=>?_,fun _=>h,fun a1 a2=>?_⟩
 ·rcases h3 with h3|h3|h3
  ·exact absurd a1 h3
  ·exact absurd a2 h3
  ·exact absurd h3 a3
 ·rcases h1 with h1|h1|h1
  ·exact absurd a1 h1
  ·exact absurd a2 h1
  ·exact h1
theorem qld {l:List (List DeedV)}{h:ThV}(hT:Tst S i l h):Tk S (S.tstep i l h).S (S.tstep i l h).a:=by
 have hb:=hT.b;have hn:=hT.n;unfold Stt.tstep;split
 ·exact Tk.none rfl (.inl (by simp)) (.inl (by simp))
 ·rename_i h1
  split
  ·rename_i h2
   have hb1:(S.beginR i).1.now=S.now:=by
    unfold Stt.beginR;split
    ·rfl
    ·split<;>rfl
   unfold Stt.tbegin;split
   ·exact Tk.none hb1 (.inl (by simp)) (.inr (.inr rfl))
   ·rename_i h3
    exact Tk.none hb1 (.inl (by simp)) (.inr (.inl h3))
  ·rename_i h2
   have hl:(S.t i).live=true:=by rw[hT.lv];simpa using h2
   split
   ·have e1:S.commit i=(S.commitR i).fin i:=if_pos hl
    unfold Stt.tcommit;rcases qf3 S i with h0|h0
    ·have hf:(S.commitR i).fin i=S.commitR i:=by unfold Res.fin;rw[if_neg (by rw[h0];decide),if_pos h0]
     rw[e1,hf,if_pos h0];unfold Stt.commitR at h0 ⊢;by_cases a:(S.t i).log.holds=[]∧S.holder≠(i:Int)
     ·rw[if_pos a]
      exact Tk.none rfl (.inr (.inr rfl)) (.inl (by simp))
     ·rw[if_neg a]at h0 ⊢
      by_cases c:S.clashes i=true
      ·rw[if_pos c]at h0;simp at h0
      ·rw[if_neg c]
       refine⟨fun _ _ _=>⟨rfl,?_⟩,fun hno=>absurd ⟨rfl,rfl,?_⟩ hno,fun h=>by simp at h⟩
       ·show ((S.tickR i).tx i _).now=_
        unfold Stt.tx Stt.tickR;split<;>rfl
       ·show (S.now:Int)+1≠0
        omega
    ·have hs:(S.commitR i).S=S:=by
      unfold Stt.commitR at h0 ⊢;by_cases a:(S.t i).log.holds=[]∧S.holder≠(i:Int)
      ·rw[if_pos a]at h0;simp at h0
      ·rw[if_neg a]at h0 ⊢
       by_cases c:S.clashes i=true
       ·rw[if_pos c]
       ·rw[if_neg c]at h0;simp at h0
     have hf:(S.commitR i).fin i=⟨S.abort i,0,141⟩:=by unfold Res.fin;rw[if_pos (by rw[h0];decide),hs,h0]
     rw[e1,hf,if_neg (by simp)]
     exact Tk.none (Ed.abort hT.lt).now (.inr (.inl (by simp))) (.inl (by simp))
   ·rename_i d hdm
    by_cases hlt:h.b.toNat<l.length
    ·have e0:l.getD h.b.toNat []=l[h.b.toNat]:=by rw[List.getD_eq_getElem?_getD,List.getElem?_eq_getElem hlt];rfl
     rw[e0]at hdm;have hd:=(hT.dk _ (List.getElem_mem hlt) d (List.mem_of_getElem? hdm)).1;have h4:=qme hT.lt hl h hd;exact Tk.none h4.1 (.inl (by rw[h4.2];decide)) (.inl (by rw[h4.2];decide))
    ·have e0:l.getD h.b.toNat []=[]:=by rw[List.getD_eq_getElem?_getD,List.getElem?_eq_none (show l.length≤h.b.toNat by omega)];rfl
     rw[e0]at hdm;simp at hdm
theorem step_now (hk:M.ok)(t:Int):Tk M.S (M.step t).1.S (M.step t).2:=by
 unfold Mc.step;split
 ·exact Tk.none rfl (.inl (by simp)) (.inl (by simp))
 ·exact qld (hk.tst (t:=t.toNat) (by omega))
theorem cycR_now (S:Stt):S.cycR.1.now=S.now:=by
 unfold Stt.cycR;split
 ·rfl
 ·split
  ·rfl
  ·split<;>rfl
theorem qcd:∀ (l:List Nat)(S:Stt),(S.readyL l).now=S.now
 | [],_=>rfl
 | p::l,S=>by
  show ((S.ready1 p).readyL l).now=_;rw[qcd l (S.ready1 p)];unfold Stt.ready1;split<;>rfl
theorem qmg (S:Stt):S.stepR.1.now=S.now:=(qcd _ _).trans (cycR_now S)
theorem qgq (M:Mc):M.collect.1.S.now=M.S.now:=by
 unfold Mc.collect;split
 ·rfl
 ·split
  ·show (M.S.collectR M.roots).1.now=_
   unfold Stt.collectR;split<;>rfl
  ·exact qmg M.S
end
end Go.Proofs.YteehgedabdchcaaGreat
namespace Go.Proofs.YteehgedabdchcaaGreat
open Go.RowKit Hp
attribute [local go_sem ↓] Go.wp_at_zero Go.wp_at_succ
theorem qcv (v:Value)(raw:List (List (List Pg.D)))(vl:Value)(st:List Int)(w:World)(h:ThreadsAt w v raw)(hI:TI raw)(hl:IntsAt w vl st)(hz:∀ z ∈ st,Z64 z) :
  Calls Tryz.prog 7 #[v,vl] w fun e w'=>e=.returned (.bool true)∧Below w.heap.size w w':=by
 have HAw:=Lib.hid gr;have HPr:=Lib.hid (fun (w':World)(hb:Below w.heap.size w w')=>me v raw w' (h.below hb) hI)
 obtain⟨pl,cl,rfl,hlc,hlm,qg⟩:=hl;have HCells:=Lib.hid (fun (W:World)(hb:Below w.heap.size w W)(j:Nat)(z:Int)(hj:st[j]?=some z)=>show ∃ b off,pl=some ⟨b,off,none⟩∧W.cell? ⟨b,off+j,none⟩=some (.int .i64 z)∧Z64 z from by
  rcases qg with h0|⟨b,off,hpl,hc⟩
  ·rw[h0]at hj;simp at hj
  ·exact⟨b,off,hpl,(hb.cell (p:=⟨b,off+j,none⟩) (qfd (hc j z hj))).trans (hc j z hj),hz z (List.mem_of_getElem? hj)⟩)
 obtain⟨n,hn⟩:∃ n,n=st.length:=⟨_,rfl⟩;rw[←hn]at hlc hlm ⊢;have HN:=Lib.hid hn;have HLM:=Lib.hid (And.intro hlc hlm);obtain⟨p1,p4⟩:=dc raw;obtain⟨np,hnp⟩:∃ np,np=(kf raw).length:=⟨_,rfl⟩;rw[←hnp]at p1 p4;have HNP:=Lib.hid hnp;clear h hI qg hz hn hlc hlm hnp;go_enter Tryz.func7,Tryz.ntmps7;go_wp2_with (first
  | (go_at_call 26;refine (HAw.out _).mono ?_;rintro e w1 ⟨rfl,hb1⟩)
  | (go_at_call 28;refine (HPr.out _ hb1).mono ?_;rintro e w2 ⟨v2,oP,rfl,hF,hK⟩;obtain⟨q0,us,q1,q2,q3⟩:=hF;obtain⟨pv,cv,rfl⟩:=q2.slc;have HF:=Lib.hid (show FT (1,0) w2 oP (.slice pv (kf raw).length cv) (kf raw) from ⟨q0,us,q1,q2,q3⟩);have hb2:=qd hb1 hK.b;rw[←HNP.out]at HF ⊢;clear q0 q1 q2 q3 hK hb1)
  | (go_at_call 29;refine (qkv 500 60 60 300 (by omega) (by omega) (by omega) (by omega) HF.out).mono ?_;rintro e w3 ⟨m,o3,rfl,hR⟩;obtain⟨M0,hM0⟩:∃ M,M=Mc.fresh (Stt.fresh 500 (mm raw).length 60 60 (bnd 300).toNat) (mm raw):=⟨_,rfl⟩;have hz0:M0.S.now=0:=(by rw[hM0];rfl);rw[←hM0]at hR;have HR0:=Lib.hid (And.intro hR hz0);clear hM0 hz0 hR)
  | fail)
 have HB2:=Lib.hid hb2;clear hb2 HF HAw HPr;go_loopw [9,10] (fun lv iv wr=>∃ (k:Nat)(M:Mc)(o:Own),lv=.int .i64 M.S.now∧iv=.int .i64 k∧k≤n∧k≤100∧Run w2 m wr o M) (fun _ iv _=>n-(intOf iv).toNat)
 case atStart=>exact⟨0,M0,o3,by rw[HR0.out.2];rfl,rfl,Nat.zero_le _,by omega,HR0.out.1⟩
 case round =>
  clear HR0;obtain⟨k,M,o,rfl,rfl,hkn,hk100,hR⟩:=hrel;have HR:=Lib.hid hR;have hbw:=qd HB2.out hR.old;clear hR;by_cases hlt:k<n
  ·have kI:(k:Int)<(n:Int):=by omega
   by_cases hlt2:k<100
   ·have kJ:(k:Int)<100:=by omega
    have HW:=Lib.hid (qr k (by omega))
    obtain⟨z,hz⟩:∃ z,st[k]?=some z:=⟨_,List.getElem?_eq_getElem (by rw[←HN.out];exact hlt)⟩
    obtain⟨b,off,rfl,hc,hz64⟩:=HCells.out wr hbw k z hz;have hpw1:wrap64 ((np:Int)+2)=(np:Int)+2:=IntWalk.wrap64_in _ (by omega)
    have hpw2:IntKind.i64.wrap ((np:Int)+2)=(np:Int)+2:=IntWalk.i64_in _ (by omega)
    have HPk:=Lib.hid (fun (W:World)=>show Calls Tryz.prog 30 #[.int .i64 z,.int .i64 ((np:Int)+2)] W fun e w'=>e=.returned (.int .i64 (pk z (np+2)))∧W=w' from dw z hz64 (np+2) (by omega) (by omega) W)
    obtain⟨t,ht⟩:∃ t,t=pk z (np+2):=⟨_,rfl⟩;rw[←ht]at HPk;have hlc:=HLM.out.1;clear hz hz64 ht hbw;by_cases hcol:np≤t
    ·have hcI:¬((t:Int)<(np:Int)):=by omega
     go_wp2_with (first
      | (go_at_call 30;refine (HPk.out _).mono ?_;rintro e w4 ⟨rfl,rfl⟩)
      | (go_at_call 31;refine HR.out.collect.mono ?_;rintro e w5 ⟨rfl,o5,hR5,_⟩;obtain⟨hw1,hw2⟩:=HW.out;clear hpw1 hpw2)
      | fail)
     go_roundw
     case rel=>exact⟨k+1,_,o5,by rw[qgq],by simp,hlt,hlt2,hR5⟩
     case measure=>simp[intOf];omega
    ·have hcI:(t:Int)<(np:Int):=by omega
     have HSt:=Lib.hid (HR.out.step (t:Int));have hTk:=step_now HR.out.ok (t:Int);obtain⟨M',hM'⟩:∃ M',M'=(M.step (t:Int)).1:=⟨_,rfl⟩;obtain⟨a,ha⟩:∃ a,a=(M.step (t:Int)).2:=⟨_,rfl⟩;rw[←hM',←ha]at HSt hTk;clear hM' ha;obtain⟨ak,ae,av⟩:=a;simp only at HSt;have hnow:=Mc.now_le HR.out.ok;go_upto_region 14 with (first
      | (go_at_call 30;refine (HPk.out _).mono ?_;rintro e w4 ⟨rfl,rfl⟩)
      | (go_at_call 32;refine HSt.out.mono ?_;rintro e w5 ⟨rfl,o5,hR5,_⟩;obtain⟨hw1,hw2⟩:=HW.out;clear hpw1 hpw2)
      | fail)
     have jA:=Blk.new w5 #[.int .i64 ak,.int .i64 ae,.int .i64 av] 54;have cA:=jA.cell;have HR6:=Lib.hid (hR5.below (qa (qc w5) (.cells #[.int .i64 ak,.int .i64 ae,.int .i64 av] 54)));have HNw:=HR6.out.now;clear jA hR5;by_cases hcm:ak=3∧ae=0∧av≠0
     ·obtain⟨rfl,rfl,hv⟩:=hcm
      obtain⟨e1,e2⟩:=hTk.com rfl rfl hv;simp only at e1 e2;subst e1;have e3:(M'.S.now:Int)=(M.S.now:Int)+1:=by omega
      rw[e3]at HNw;have HNw:=Lib.hid HNw;have hb0:((M.S.now:Int)+1==0)=false:=by rw[beq_eq_false_iff_ne];omega
      obtain⟨hw3,hw4⟩:=qr M.S.now (by omega)
      have HE:=Lib.hid e3;clear e3 e2 hTk hv;go_wp2_with (first
       | (go_at_call 38;refine HNw.out.mono ?_;rintro e w7 ⟨rfl,rfl⟩)
       | fail)
      go_roundw
      case rel=>exact⟨k+1,M',o5,by rw[HE.out],by simp,hlt,hlt2,HR6.out⟩
      case measure=>clear hw3 hw4;simp[intOf];omega
     ·have e2:M'.S.now=M.S.now:=hTk.oth hcm
      rw[e2]at HNw;have HNw:=Lib.hid HNw;have HE:=Lib.hid e2;have hbeg:ak=1→ae=0→av=M.S.now:=hTk.beg;clear e2 hTk;obtain⟨kc,hkc⟩:∃ kc:Nat,(kc=0∧ak=3∧ae=0∧av=0)∨(kc=1∧ak=3∧(ae==0)=false)∨(kc=2∧ak=1∧ae=0∧av=M.S.now)∨(kc=3∧ak=1∧(ae==0)=false)∨(kc=4∧(ak==3)=false∧(ak==1)=false):=by
       by_cases k3:ak=3
       ·by_cases e0:ae=0
        ·by_cases v0:av=0
         ·exact⟨0,.inl ⟨rfl,k3,e0,v0⟩⟩
         ·exact absurd ⟨k3,e0,v0⟩ hcm
        ·exact⟨1,.inr (.inl ⟨rfl,k3,by rw[beq_eq_false_iff_ne];exact e0⟩)⟩
       ·by_cases k1:ak=1
        ·by_cases e0:ae=0
         ·exact⟨2,.inr (.inr (.inl ⟨rfl,k1,e0,hbeg k1 e0⟩))⟩
         ·exact⟨3,.inr (.inr (.inr (.inl ⟨rfl,k1,by rw[beq_eq_false_iff_ne];exact e0⟩)))⟩
        ·exact⟨4,.inr (.inr (.inr (.inr ⟨rfl,by rw[beq_eq_false_iff_ne];exact k3,by rw[beq_eq_false_iff_ne];exact k1⟩)))⟩
      clear hcm hbeg;rcases hkc with ⟨_,rfl,rfl,rfl⟩|⟨_,rfl,hq⟩|⟨_,rfl,rfl,rfl⟩|⟨_,rfl,hq⟩|⟨_,hq,hq2⟩
      all_goals
       go_wp2_with (first
        | (go_at_call 38;refine HNw.out.mono ?_;rintro e w7 ⟨rfl,rfl⟩)
        | fail)
       go_roundw
       case rel=>exact⟨k+1,M',o5,by rw[HE.out],by simp,hlt,hlt2,HR6.out⟩
       case measure=>simp[intOf];omega
   ·have kJ:¬((k:Int)<100):=by omega
    go_wp2_with fail;go_ret;exact⟨rfl,hbw⟩
  ·have kI:¬((k:Int)<(n:Int)):=by omega
   go_wp2_with fail;go_ret;exact⟨rfl,hbw⟩
end Go.Proofs.YteehgedabdchcaaGreat
