import Derived.Test.YteehgedabdchcaaGreatKbt
set_option linter.all false
set_option maxRecDepth 1000000
set_option maxHeartbeats 16000000
namespace Go.Proofs.YteehgedabdchcaaGreat
open Go.RowKit Hp
attribute [local go_sem ↓] Go.wp_at_zero Go.wp_at_succ
section
variable {w0 w w' : World} {m : MLay} {o o' : Own} {M M' : Mc}
theorem Run.history (h:Run w0 m w o M):Calls Tryz.prog 36 #[ptr m.mb] w fun e w'=>∃ v',e=.returned v'∧Row w' (ext o w.heap.size (9,6)) (9,6) 69 6 v' M.past.length (qw M.past)∧Run w0 m w' (ext o w.heap.size (9,6)) M∧Stp (jh m) o (ext o w.heap.size (9,6)) w w':=by
 have he:∀ b,b<w.heap.size→ext o w.heap.size (9,6) b=o b:=fun b hb=>qj hb
 refine (uz (h.mi.retag he) h.ok.pl).mono ?_
 rintro e w'⟨v',rfl,hr,hM,hs⟩
 have s:Stp (jh m) o (ext o w.heap.size (9,6)) w w':=⟨hs.os,hs.tape,hs.output,hs.size,fun b hb=>he b hb,fun k hk hn=>hs.block k hk fun e=>hn (by rw[he k hk]at e;rw[e];exact .inr rfl)⟩
 exact⟨v',rfl,hr.out o (9,6),h.go hM h.ok s,s⟩
theorem Mc.step_in {t:Nat}(ht:t<M.hs.length)(hp:M.past.length<2000):(M.step (t:Int)).1.hs.length=M.hs.length ∧
  (M.step (t:Int)).1.past=if (M.step (t:Int)).2.k≠0 then M.past++[⟨t,(M.h t).b,(M.h t).n,(M.step (t:Int)).2⟩] else M.past:=by
 have e:M.step (t:Int)=M.stepN t:=by
  unfold Mc.step;rw[if_neg (by omega),Int.toNat_natCast]
 rw[e];unfold Mc.stepN;refine⟨List.length_set,?_⟩;simp only[wu,if_pos hp]
theorem Mc.step_out {t:Int}(ht:t<0∨(M.hs.length:Int)≤t):M.step t=(M,⟨0,0,0⟩):=by
 unfold Mc.step;rw[if_pos (ht.elim .inl fun h=>.inr (.inl h))]
theorem Mc.thread_in {t:Nat}(ht:t<M.hs.length):(M.thread (t:Int)).2=true∧(M.thread (t:Int)).1.b=(M.h t).b∧(M.thread (t:Int)).1.n=(M.h t).n:=by
 unfold Mc.thread;rw[if_neg (by omega),Int.toNat_natCast]
 exact⟨rfl,rfl,rfl⟩
theorem Run.thread (h:Run w0 m w o M)(t:Int):Calls Tryz.prog 33 #[ptr m.mb,.int .i64 t] w fun e w'=>e=.returned (.tuple #[(M.thread t).1.v,.bool (M.thread t).2])∧Below w.heap.size w w':=qau h.mi h.ok t
end
theorem en_one {a b c d e f:Int}:∀ u ∈ [Value.int .i64 a,.int .i64 b,.int .i64 c,.int .i64 d,.int .i64 e,.int .i64 f],u.oneCell'=true:=by
 intro u hu;simp at hu;rcases hu with rfl|rfl|rfl|rfl|rfl|rfl<;>rfl
theorem dy (v:Value) (raw:List (List (List Pg.D))) (vl:Value) (st:List Int) (w:World) (h:ThreadsAt w v raw) (hI:TI raw) (hl:IntsAt w vl st) (hz:∀ z ∈ st,Z64 z) :
  Calls Tryz.prog 6 #[v,vl] w fun e w'=>e=.returned (.bool true)∧Below w.heap.size w w':=by
 have HAw:=Lib.hid gr;have HPr:=Lib.hid (fun (w':World) (hb:Below w.heap.size w w')=>me v raw w' (h.below hb) hI)
 obtain⟨pl,cl,rfl,hlc,hlm,qg⟩:=hl;have HCells:=Lib.hid (fun (W:World) (hb:Below w.heap.size w W) (j:Nat) (z:Int) (hj:st[j]?=some z)=>show ∃ b off,pl=some ⟨b,off,none⟩∧W.cell? ⟨b,off+j,none⟩=some (.int .i64 z)∧Z64 z from by
  rcases qg with h0|⟨b,off,hpl,hc⟩
  ·rw[h0]at hj;simp at hj
  ·exact⟨b,off,hpl,(hb.cell (p:=⟨b,off+j,none⟩) (qfd (hc j z hj))).trans (hc j z hj),hz z (List.mem_of_getElem? hj)⟩)
 obtain⟨n,hn⟩:∃ n,n=st.length:=⟨_,rfl⟩;rw[←hn]at hlc hlm ⊢;have HN:=Lib.hid hn;have HLM:=Lib.hid (And.intro hlc hlm);obtain⟨p1,p4⟩:=dc raw;obtain⟨np,hnp⟩:∃ np,np=(kf raw).length:=⟨_,rfl⟩;rw[←hnp]at p1 p4;have HNP:=Lib.hid hnp;clear h hI qg hz hn hlc hlm hnp;go_enter Tryz.func6,Tryz.ntmps6;go_wp2_with (first
  | (go_at_call 26;refine (HAw.out _).mono ?_;rintro e w1 ⟨rfl,hb1⟩)
  | (go_at_call 28;refine (HPr.out _ hb1).mono ?_;rintro e w2 ⟨v2,oP,rfl,hF,hK⟩;obtain⟨q0,us,q1,q2,q3⟩:=hF;obtain⟨pv,cv,rfl⟩:=q2.slc;have HF:=Lib.hid (show FT (1,0) w2 oP (.slice pv (kf raw).length cv) (kf raw) from ⟨q0,us,q1,q2,q3⟩);have hb2:=qd hb1 hK.b;rw[←HNP.out]at HF ⊢;clear q0 q1 q2 q3 hK hb1)
  | (go_at_call 29;refine (qkv 300 20 20 99 (by omega) (by omega) (by omega) (by omega) HF.out).mono ?_;rintro e w3 ⟨m,o3,rfl,hR⟩;obtain⟨M0,hM0⟩:∃ M,M=Mc.fresh (Stt.fresh 300 (mm raw).length 20 20 (bnd 99).toNat) (mm raw):=⟨_,rfl⟩;have hz0:M0.hs.length=np∧M0.past=[]:=(by rw[hM0,HNP.out,←qc6];exact⟨List.length_replicate,rfl⟩);rw[←hM0]at hR;have HR0:=Lib.hid (And.intro hR hz0);clear hM0 hz0 hR)
  | fail)
 have HB2:=Lib.hid hb2;clear hb2 HF HAw HPr;obtain⟨iU,hi,hsI,hyI,hzI⟩:=dt;have huE:=Tryz.underlying62;go_loopw [9,10] (fun wv iv wr=>∃ (k:Nat) (M:Mc) (o:Own),iv=.int .i64 k∧k≤n∧k≤80∧Run w2 m wr o M∧M.hs.length=np∧M.past.length≤k∧Row wr o (9,3) 69 6 wv M.past.length (qw M.past)) (fun _ iv _=>n-(intOf iv).toNat)
 case atStart=>exact⟨0,M0,o3,rfl,Nat.zero_le _,by omega,HR0.out.1,HR0.out.2.1,by rw[HR0.out.2.2];exact Nat.zero_le _,by rw[HR0.out.2.2];exact Row.nil _ _ _ _ _⟩
 case round =>
  clear HR0;obtain⟨k,M,o,rfl,hkn,hk80,hR,hnp,hpk,hrow⟩:=hrel;obtain⟨pw,cw,rfl⟩:=hrow.slc;have HR:=Lib.hid hR;have HRow:=Lib.hid hrow;have hbw:=qd HB2.out hR.old;have HL:=Lib.hid (show M.past.length≤1099511627776 from Nat.le_trans hpk (Nat.le_trans hk80 (by decide)))
  have HSm:=Lib.hid (fun (W:World) (oo:Own) (h:Run w2 m W oo M)=>show Calls Tryz.prog 32 #[ptr m.mb,.int .i64 (-1)] W fun e w'=>e=.returned (.agg #[.int .i64 0,.int .i64 0,.int .i64 0])∧∃ o',Run w2 m w' o' M from by
   have h1:=h.step (-1);rw[Mc.step_out (.inl (by omega))]at h1
   exact h1.mono fun _ _ ⟨a,o',b,_⟩=>⟨a,o',b⟩)
  have HSn:=Lib.hid (fun (W:World) (oo:Own) (h:Run w2 m W oo M)=>show Calls Tryz.prog 32 #[ptr m.mb,.int .i64 np] W fun e w'=>e=.returned (.agg #[.int .i64 0,.int .i64 0,.int .i64 0])∧∃ o',Run w2 m w' o' M from by
   have h1:=h.step (np:Int);rw[Mc.step_out (.inr (by omega))]at h1
   exact h1.mono fun _ _ ⟨a,o',b,_⟩=>⟨a,o',b⟩)
  clear hR hrow;by_cases hlt:k<n
  ·have kI:(k:Int)<(n:Int):=by omega
   by_cases hlt2:k<80
   ·have kJ:(k:Int)<80:=by omega
    have HW:=Lib.hid (qr k (by omega))
    obtain⟨z,hz⟩:∃ z,st[k]?=some z:=⟨_,List.getElem?_eq_getElem (by rw[←HN.out];exact hlt)⟩
    obtain⟨b,off,rfl,hc,hz64⟩:=HCells.out wr hbw k z hz;have HPk:=Lib.hid (fun (W:World)=>dw z hz64 np p1 (by omega) W)
    have htl:pk z np<np:=pk_lt z p1;obtain⟨t,ht⟩:∃ t,t=pk z np:=⟨_,rfl⟩;rw[←ht]at HPk htl;have hlc:=HLM.out.1;obtain⟨g2,gb,gn⟩:=Mc.thread_in (M:=M) (t:=t) (by omega)
    obtain⟨s1,s2⟩:=Mc.step_in (M:=M) (t:=t) (by omega) (by omega)
    rw[←gb,←gn]at s2;have hTh:=HR.out.thread (t:Int);rw[g2]at hTh;have hSt:=fun (w5:World) (o5:Own) (h:Run w2 m w5 o5 M)=>h.step (t:Int)
    obtain⟨M',hM'⟩:∃ M',M'=(M.step (t:Int)).1:=⟨_,rfl⟩;obtain⟨a,ha⟩:∃ a,a=(M.step (t:Int)).2:=⟨_,rfl⟩;obtain⟨G,hG⟩:∃ G,G=(M.thread (t:Int)).1:=⟨_,rfl⟩;rw[←hM',←ha]at hSt;rw[←hM']at s1;rw[←hM',←ha,←hG]at s2;rw[←hG]at hTh;clear hM' ha hG gb gn g2 hz hz64 ht hbw;obtain⟨ak,ae,av⟩:=a;obtain⟨gb,gn,⟨r0,r1,r2,r3,r4,r5⟩,⟨q0,q1,q2,q3,q4,q5⟩,gl⟩:=G;simp only at hSt s2;have HTh:=Lib.hid (show Calls Tryz.prog 33 #[ptr m.mb,.int .i64 t] wr fun e w'=>e=.returned (.tuple #[.agg #[.int .i64 gb,.int .i64 gn,.int .i64 r0,.int .i64 r1,.int .i64 r2,.int .i64 r3,.int .i64 r4,.int .i64 r5,.int .i64 q0,.int .i64 q1,.int .i64 q2,.int .i64 q3,.int .i64 q4,.int .i64 q5,.bool gl],.bool true])∧Below wr.heap.size wr w' from hTh)
    have HSt:=Lib.hid hSt;have HS2:=Lib.hid s2;clear hTh hSt s2;have HX:=Lib.hid (fun (w5 W8 w8:World) (o5 o8:Own) (v8:Value) (hR:Run w2 m w5 o5 M') (hb:Below w5.heap.size w5 W8) (hr8:Row w8 o8 (9,3) 69 6 v8 (M.past.length+1) (qw M.past++[.int .i64 t,.int .i64 gb,.int .i64 gn,.int .i64 ak,.int .i64 ae,.int .i64 av])) (hs8:Stp (fun t=>t=(9,3)) (ext o5 w5.heap.size (9,4)) o8 W8 w8) (hk0:ak≠0) =>
     show Run w2 m w8 o8 M'∧M'.past.length≤k+1∧Row w8 o8 (9,3) 69 6 v8 M'.past.length (qw M'.past) from by
      have e:M'.past=M.past++[⟨t,gb,gn,⟨ak,ae,av⟩⟩]:=by rw[HS2.out,if_pos hk0]
      have s:Stp (fun t=>t.1=9) o5 (ext o5 w5.heap.size (9,4)) w5 W8:=(Stp.of_below hb).ext _ _ (Nat.le_refl _)
      refine⟨hR.own (s.trans (hs8.mono (by rintro _ rfl;rfl))),by rw[e,List.length_append];simp;omega,?_⟩
      rw[e,List.length_append,nr];exact hr8)
    have HY:=Lib.hid (fun (hk0:ak=0)=>show M'.past=M.past from by rw[HS2.out,if_neg (by simp[hk0])])
    obtain⟨np0,hnp0⟩:∃ np0,np0=M.past.length:=⟨_,rfl⟩;rw[←hnp0]at HX HRow hpk ⊢;have HNp0:=Lib.hid hnp0;have hml:np0+1≤maxLen:=by simp only[maxLen];omega
    have hmb:(np0+1)*48≤140737488355328:=by omega
    clear hnp0;go_upto_region 13 with (first
     | (go_at_call 30;refine (HPk.out _).mono ?_;rintro e w4 ⟨rfl,rfl⟩)
     | (go_at_call 33;refine HTh.out.mono ?_;rintro e w4 ⟨rfl,hb4⟩;have HR4:=Lib.hid ((HR.out.below hb4).low (ka o w4 #[.int .i64 gb,.int .i64 gn,.int .i64 r0,.int .i64 r1,.int .i64 r2,.int .i64 r3,.int .i64 r4,.int .i64 r5,.int .i64 q0,.int .i64 q1,.int .i64 q2,.int .i64 q3,.int .i64 q4,.int .i64 q5,.bool gl] 58));have HB4:=Lib.hid (tf o w4 #[.int .i64 gb,.int .i64 gn,.int .i64 r0,.int .i64 r1,.int .i64 r2,.int .i64 r3,.int .i64 r4,.int .i64 r5,.int .i64 q0,.int .i64 q1,.int .i64 q2,.int .i64 q3,.int .i64 q4,.int .i64 q5,.bool gl] 58);have HRw4:=Lib.hid ((HRow.out.below hb4).stp (ka o w4 #[.int .i64 gb,.int .i64 gn,.int .i64 r0,.int .i64 r1,.int .i64 r2,.int .i64 r3,.int .i64 r4,.int .i64 r5,.int .i64 q0,.int .i64 q1,.int .i64 q2,.int .i64 q3,.int .i64 q4,.int .i64 q5,.bool gl] 58) id))
     | (go_at_call 32;refine (HSt.out _ _ HR4.out).mono ?_;rintro e w5 ⟨rfl,o5,hR5,hs5⟩;obtain⟨hw1,hw2⟩:=HW.out)
     | fail)
    have jA:=Blk.new w5 #[.int .i64 ak,.int .i64 ae,.int .i64 av] 54;have cA:=jA.cell;have jG:=((HB4.out.stp hs5 (rq HR.out.id (by omega) (by omega))).j).alloc (.cells #[.int .i64 ak,.int .i64 ae,.int .i64 av] 54)
    have cG:=jG.cell;have hRw5:=HRw4.out.stp hs5 (rq HR.out.id (by omega) (by omega))
    have HR5:=Lib.hid hR5;have HRw5:=Lib.hid hRw5;clear jA jG hR5 hRw5 hs5 HB4 HRw4 HR4;by_cases hk0:ak=0
    ·subst hk0
     have HE:=Lib.hid (HY.out rfl);clear hml hmb;go_wp2_with fail;go_roundw
     case rel=>exact⟨k+1,M',o5,by simp,hlt,hlt2,HR5.out.below (qa (qc w5) _),s1.trans hnp,by rw[HE.out,←HNp0.out];exact Nat.le_succ_of_le hpk,by rw[HE.out,←HNp0.out];exact HRw5.out.below (qa (qc w5) _)⟩
     case measure=>clear hw1 hw2;simp[intOf];omega
    ·have hkb:(ak==0)=false:=by rw[beq_eq_false_iff_ne];exact hk0
     have HK0:=Lib.hid hk0;clear hk0;have rn:=HRw5.out.stp (T:=fun _=>False) ((Stp.of_below (qa (qa (qc w5) (.cells #[.int .i64 ak,.int .i64 ae,.int .i64 av] 54)) (.cells #[.int .i64 t,.int .i64 gb,.int .i64 gn,.int .i64 ak,.int .i64 ae,.int .i64 av] 69))).ext (9,4) _ (Nat.le_refl _)) id
     have HRn:=Lib.hid rn;have HJn:=Lib.hid (Blk.new_at (w5.alloc (.cells #[.int .i64 ak,.int .i64 ae,.int .i64 av] 54)) _ #[.int .i64 t,.int .i64 gb,.int .i64 gn,.int .i64 ak,.int .i64 ae,.int .i64 av] 69 (w5.heap.size+1) (by simp) rfl)
     clear rn;go_wp2_with (first
      | (at_builtin;refine qf _ rfl _ _ _ rfl 69 iU _ 6 48 huE hi hzI hsI hyI rfl (by decide) (ext o5 w5.heap.size (9,4)) (9,3) _ _ _ rfl HRn.out ⟨w5.heap.size+1,0,none⟩ 1 1 [.int .i64 t,.int .i64 gb,.int .i64 gn,.int .i64 ak,.int .i64 ae,.int .i64 av] rfl rfl (yq HJn.out) en_one hml hmb ?_;intro v8 w8 hown hst;have HXX:=Lib.hid (HX.out w5 _ w8 o5 _ v8 HR5.out (qa (qa (qc w5) _) _) hown hst HK0.out);clear hown hst)
      | fail)
     clear hml hmb;go_roundw
     case rel=>exact⟨k+1,M',_,by simp,hlt,hlt2,HXX.out.1,s1.trans hnp,HXX.out.2⟩
     case measure=>clear hw1 hw2;simp[intOf];omega
   ·have kJ:¬((k:Int)<80):=by omega
    clear HCells;go_wp2_with (first
     | (go_at_call 36;refine HR.out.history.mono ?_;rintro e w4 ⟨vh,rfl,hrh,hR4,hs4⟩;have HR4:=Lib.hid hR4;have HRh:=Lib.hid hrh;have HRw:=Lib.hid (HRow.out.stp hs4 (rq HR.out.id (by omega) (by omega)));clear hrh hR4 hs4)
     | (go_at_call 34;refine (dz HRh.out HRw.out HL.out).mono ?_;rintro e w5 ⟨rfl,hb5⟩;have HR5:=Lib.hid (HR4.out.below hb5))
     | (go_at_call 32;refine (HSm.out _ _ HR5.out).mono ?_;rintro e w6 ⟨rfl,o6,hR6⟩;have HR6:=Lib.hid hR6;clear hR6 HR5 HSm)
     | (go_at_call 32;refine (HSn.out _ _ HR6.out).mono ?_;rintro e w7 ⟨rfl,o7,hR7⟩;have HR7:=Lib.hid hR7;clear hR7)
     | fail)
    go_ret;exact⟨rfl,qd HB2.out HR7.out.old⟩
  ·have kI:¬((k:Int)<(n:Int)):=by omega
   clear HCells;go_wp2_with (first
    | (go_at_call 36;refine HR.out.history.mono ?_;rintro e w4 ⟨vh,rfl,hrh,hR4,hs4⟩;have HR4:=Lib.hid hR4;have HRh:=Lib.hid hrh;have HRw:=Lib.hid (HRow.out.stp hs4 (rq HR.out.id (by omega) (by omega)));clear hrh hR4 hs4)
    | (go_at_call 34;refine (dz HRh.out HRw.out HL.out).mono ?_;rintro e w5 ⟨rfl,hb5⟩;have HR5:=Lib.hid (HR4.out.below hb5))
    | (go_at_call 32;refine (HSm.out _ _ HR5.out).mono ?_;rintro e w6 ⟨rfl,o6,hR6⟩;have HR6:=Lib.hid hR6;clear hR6 HR5 HSm)
    | (go_at_call 32;refine (HSn.out _ _ HR6.out).mono ?_;rintro e w7 ⟨rfl,o7,hR7⟩;have HR7:=Lib.hid hR7;clear hR7)
    | fail)
   go_ret;exact⟨rfl,qd HB2.out HR7.out.old⟩
end Go.Proofs.YteehgedabdchcaaGreat
