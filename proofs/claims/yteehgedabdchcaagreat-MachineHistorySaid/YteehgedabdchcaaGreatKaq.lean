import Derived.Test.YteehgedabdchcaaGreatKap
set_option linter.all false
set_option maxRecDepth 1000000
set_option maxHeartbeats 16000000
namespace Go.Proofs.YteehgedabdchcaaGreat
open Go.RowKit Hp
attribute [local go_sem ↓] Go.wp_at_zero Go.wp_at_succ
section
variable {w w' : World} {o o' : Own} {y : SLay} {S : Stt} {i : Nat}
theorem eg_free1 (args:Array Value)(w:World):(callFunc 117 args).run Tryz.prog w=.ok (.enter 117 args) w:=enters_of Tryz.func117 (by kernel_rfl) rfl args w
structure FreR (el se:Int)(hb ub:Bool)(S1 S3 S4 S5:Stt)(R:Res):Prop where
 r1:el≠0→R.S=S1∧R.e=el
 r3:el=0→hb=false→R.S=S3∧R.e=130
 r4:el=0→hb=true→ub=false→R.S=S4∧R.e=130
 r5:el=0→hb=true→ub=true→R.S=S5∧R.e=se
theorem qm8 (p:Nat)(el se:Int)(hb ub:Bool)(s:Shp)(S1 S3 S4 S5:Stt)(R:Res)(hR:FreR el se hb ub S1 S3 S4 S5 R)(hx3:i<S3.txs.length)
  (look:Calls Tryz.prog 118 #[ptr y.sb,ptr (y.xb i),.int .i64 p] w fun e w'=>e=.returned (.tuple #[jw s,.int .i64 el])∧Lft y S1 o w w')
  (hold:∀ w1 o1,StIn w1 o1 y S1→Calls Tryz.prog 119 #[ptr y.sb,ptr (y.xb i),.int .i64 p] w1 fun e w'=>e=.returned (.bool hb)∧Lft y S3 o1 w1 w')
  (hno:hb=false→S3=S1∧∀ w1 o1,StIn w1 o1 y S1→Calls Tryz.prog 119 #[ptr y.sb,ptr (y.xb i),.int .i64 p] w1 fun e w'=>e=.returned (.bool false)∧Below w1.heap.size w1 w')
  (undo:∀ w1 o1,StIn w1 o1 y S3→Calls Tryz.prog 120 #[ptr (y.lb i),.agg #[.int .i64 3,.int .i64 p,.int .i64 0,.int .i64 0]] w1 fun e w'=>e=.returned (.bool ub)∧Lft y S4 o1 w1 w')
  (free:∀ w1 o1,StIn w1 o1 y S4→Calls Tryz.prog 121 #[ptr y.l.h,.int .i64 p,.bool true] w1 fun e w'=>e=.returned (.int .i64 se)∧Lft y S5 o1 w1 w')
  {b1 b2:Nat}(j1:Blk w b1 #[ptr y.sb] 24)(j2:Blk w b2 #[.int .i64 p] 3)(t1:o b1=(y.l.id+1,0))(t2:o b2=(y.l.id+1,0)) :
  Calls Tryz.prog 117 #[ptr (y.xb i),ptr b1,ptr b2] w fun e w'=>e=.returned (.tuple #[.int .i64 0,.int .i64 R.e])∧Lft y R.S o w w':=by
 obtain⟨RS,Rv,Re⟩:=R;have HRR:=Lib.hid hR;have HL:=Lib.hid look;have HH:=Lib.hid hold;have HN:=Lib.hid hno;have HU:=Lib.hid undo;have HF:=Lib.hid free;have HB:=Lib.hid (qm y);have hX2:=Lib.hid (fun w' o' (hS:StIn w' o' y S3)=>(hS.txs i _ (Stt.t_get hx3)).blk)
 have c1:=j1.cell;have c2:=j2.cell;obtain⟨sp,sd,wk,fn⟩:=s;clear hR look hold hno undo free hx3;go_enter Tryz.func117,Tryz.ntmps117;go_wp2_with fail;refine HL.out.mono ?_
 rintro e w1⟨rfl,o1,hS1,hs1⟩
 have k1:=j1.stp hs1 (by rw[t1];exact HB.out)
 have k2:=j2.stp hs1 (by rw[t2];exact HB.out)
 have u1:o1 b1=(y.l.id+1,0):=(hs1.tags _ j1.lt).trans t1;have u2:o1 b2=(y.l.id+1,0):=(hs1.tags _ j2.lt).trans t2;clear c1 c2 j1 j2 t1 t2;by_cases he:el=0
 ·subst he
  go_upto_region 4 with fail;obtain⟨W,hW⟩:∃ W:World,W=w1.alloc (.cells #[.int .i64 sp,.int .i64 sd,.bool wk,.bool fn] 93):=⟨_,rfl⟩;rw[←hW];have hbW:Below w1.heap.size w1 W:=by rw[hW];exact qa (qc w1) _
  have k1:=k1.below hbW k1.lt;have k2:=k2.below hbW k2.lt;have hSW:=hS1.below hbW;have HS0:=Lib.hid (hs1.trans (Stp.of_below hbW));clear hW hS1 hs1 hbW;have c1:=k1.cell;have c2:=k2.cell
  cases hb with
  | false =>
   obtain⟨rfl,hn9⟩:=HN.out rfl;have e1:=(HRR.out.r3 rfl rfl);simp only at e1;obtain⟨rfl,rfl⟩:=e1;have HN2:=Lib.hid (fun (e:Later W)=>hn9 e.1 o1 (hSW.below e.2))
   have HSW:=Lib.hid hSW;have l1:=fun (e:Later W)(i:Nat)=>Later.cell k1 e i
   have l2:=fun (e:Later W)(i:Nat)=>Later.cell k2 e i
   clear c1 c2 hn9 HH HU HF hX2 hSW;refine qy (by kernel_rfl) (by kernel_rfl) ?_
   repeat (go_big_quiet_step ((go_at_call 119;exact kj (HN2.out _))))
   refine wpQuiet_nil ?_;intro w8 hW0;obtain⟨⟨W9,hb9⟩,hwt⟩:=hW0;have hwt:w8=W9:=hwt;subst hwt;go_wp2_with fail;go_ret2;exact⟨rfl,o1,HSW.out.below hb9,HS0.out.trans (Stp.of_below hb9)⟩
  | true =>
   have hSW2:=Lib.hid (hSW.below (qe (qc W)));clear hSW
   cases ub with
   | false =>
    have e1:=(HRR.out.r4 rfl rfl rfl);simp only at e1;obtain⟨rfl,rfl⟩:=e1
    go_region_with (first
     | (go_at_call 119;refine (HH.out _ o1 hSW2.out).mono ?_;rintro e w2⟨rfl,o2,hS2,hs2⟩;have m1:=(qi k1).stp hs2 (by rw[u1];exact HB.out);have m2:=(qi k2).stp hs2 (by rw[u2];exact HB.out);have d1:=m1.cell;have d2:=m2.cell;obtain⟨vt3,jx3,_⟩:=hX2.out _ _ hS2;unfold zd at jx3;have dx:=jx3.cell)
     | (go_at_call 120;refine (HU.out _ o2 hS2).mono ?_;rintro e w3⟨rfl,o3,hS3,hs3⟩)
     | fail)
    all_goals
     go_wp2_with fail;go_ret2;exact⟨rfl,o3,hS3,((HS0.out.trans (Stp.of_below (qe (qc W)))).trans hs2).trans hs3⟩
   | true =>
    have e1:=(HRR.out.r5 rfl rfl rfl);simp only at e1;obtain⟨rfl,rfl⟩:=e1
    go_region_with (first
     | (go_at_call 119;refine (HH.out _ o1 hSW2.out).mono ?_;rintro e w2⟨rfl,o2,hS2,hs2⟩;have m1:=(qi k1).stp hs2 (by rw[u1];exact HB.out);have m2:=(qi k2).stp hs2 (by rw[u2];exact HB.out);have d1:=m1.cell;have d2:=m2.cell;obtain⟨vt3,jx3,_⟩:=hX2.out _ _ hS2;unfold zd at jx3;have dx:=jx3.cell)
     | (go_at_call 120;refine (HU.out _ o2 hS2).mono ?_;rintro e w3⟨rfl,o3,hS3,hs3⟩)
     | fail)
    all_goals
     have n1:=m1.stp hs3 (by rw[(hs2.tags _ (qi k1).lt).trans u1];exact HB.out)
     have n2:=m2.stp hs3 (by rw[(hs2.tags _ (qi k2).lt).trans u2];exact HB.out)
     obtain⟨vq3,vl3,vm3,jb3,_⟩:=hS3.blk;unfold qk at jb3;clear d1 d2 dx c1 c2;have d1:=n1.cell;have d2:=n2.cell;have d3:=jb3.cell;go_upto_region 6 with fail;have HF2:=Lib.hid (HF.out w3.drew o3 (hS3.below (qe (qc w3))));go_region_with (first|(go_at_call 121;refine HF2.out.mono ?_;rintro e w4⟨rfl,o4,hS4,hs4⟩)|fail)
     all_goals
      go_wp2_with fail;go_ret2;exact⟨rfl,o4,hS4,(((HS0.out.trans (Stp.of_below (qe (qc W)))).trans hs2).trans hs3).trans ((Stp.of_below (qe (qc w3))).trans hs4)⟩
 ·have e1:=(HRR.out.r1 he)
  simp only at e1;obtain⟨rfl,rfl⟩:=e1;have hbb:(Re != 0)=true:=by rw[bne_iff_ne];exact he
  have hb2:(Re==0)=false:=by rw[beq_eq_false_iff_ne];exact he
  clear he;go_wp2_with fail;go_ret2;exact⟨rfl,o1,hS1.alloc _,hs1.alloc _⟩
theorem qk7 (S:Stt)(i p:Nat):FreR (S.lookR i p).2.1 ((((S.lookR i p).1.holdR i p).1.undoR i ⟨3,p,0,0⟩).1.H.setFreedR p true).2 ((S.lookR i p).1.holdR i p).2 (((S.lookR i p).1.holdR i p).1.undoR i ⟨3,p,0,0⟩).2
  (S.lookR i p).1 ((S.lookR i p).1.holdR i p).1 (((S.lookR i p).1.holdR i p).1.undoR i ⟨3,p,0,0⟩).1 ((((S.lookR i p).1.holdR i p).1.undoR i ⟨3,p,0,0⟩).1.h ((((S.lookR i p).1.holdR i p).1.undoR i ⟨3,p,0,0⟩).1.H.setFreedR p true).1) (S.freeR i p):=by
 refine⟨fun e=>?_,fun e1 e3=>?_,fun e1 e3 e4=>?_,fun e1 e3 e4=>?_⟩<;>unfold Stt.freeR
 ·rw[if_pos e];exact⟨rfl,rfl⟩
 ·rw[if_neg (by simpa using e1)];unfold Stt.chg;rw[if_pos e3];exact⟨rfl,rfl⟩
 ·rw[if_neg (by simpa using e1)];unfold Stt.chg;rw[if_neg (by rw[e3];simp),if_pos e4];exact⟨rfl,rfl⟩
 ·rw[if_neg (by simpa using e1)];unfold Stt.chg;rw[if_neg (by rw[e3];simp),if_neg (by rw[e4];simp)];exact⟨rfl,rfl⟩
theorem box2 (w:World)(a c:Value)(ta tc:TypeId):Below w.heap.size w ((w.alloc (.cells #[a] ta)).alloc (.cells #[c] tc))∧Blk ((w.alloc (.cells #[a] ta)).alloc (.cells #[c] tc)) w.heap.size #[a] ta∧Blk ((w.alloc (.cells #[a] ta)).alloc (.cells #[c] tc)) (w.heap.size+1) #[c] tc:=
 ⟨qa (qa (qc w) _) _,(Blk.new w _ _).alloc _,Blk.new_at _ _ _ _ _ (by simp) rfl⟩
theorem ql5 (h0:StIn w o y S)(hk:S.ok)(hi:i<S.txs.length)(p:Nat) :
  Calls Tryz.prog 56 #[ptr y.sb,.int .i64 i,.int .i64 p] w fun e w'=>e=.returned (.int .i64 (S.free i p).e)∧Lft y (S.free i p).S o w w':=by
 have hmf:∀ (fn:Fn)(first cap:Array Value)(w:World),(Instr.makeFunc fn first cap).run Tryz.prog w=.ok (.func fn first cap) w:=fun _ _ _ _=>rfl
 obtain⟨o1,ho1⟩:∃ o1,o1=ext o w.heap.size (y.l.id+1,0):=⟨_,rfl⟩;have h:=h0.retag (o':=o1) fun b hb=>by rw[ho1];exact qj hb
 have hS0:Stp (qh y) o o1 w w:=by rw[ho1];exact (Stp.refl _ o w).ext _ _ (Nat.le_refl _)
 have hbx:∀ b,w.heap.size≤b→o1 b=(y.l.id+1,0):=fun b hb=>by rw[ho1];exact qp hb
 clear ho1 h0;obtain⟨W,hW⟩:∃ W:World,W=(w.alloc (.cells #[ptr y.sb] 24)).alloc (.cells #[.int .i64 p] 3):=⟨_,rfl⟩;have hbj:=box2 w (ptr y.sb) (.int .i64 p) 24 3;rw[←hW]at hbj;obtain⟨hbW,j1,j2⟩:=hbj;have hlk:=Stt.ok_look hk hi p;have hl1:=gj S i p;have hi1:i<(S.lookR i p).1.txs.length:=by omega
 have hl2:=uo (S.lookR i p).1 i p;have hi2:i<((S.lookR i p).1.holdR i p).1.txs.length:=by omega
 have hu:=Stt.ok_undo (Stt.ok_hold hlk hi1 p) hi2 ⟨3,p,0,0⟩ (by simp) (fun h=>by simp at h)
 have HD:=Lib.hid (vx 117 [ptr w.heap.size,ptr (w.heap.size+1)] (h.below hbW) hk hi eg_free1 (S.freeR i p) (fun _=>ba hk hi p)
  (fun _ w1 o2 hb he2 hS=>by
   rw[freeR_v];exact qm8 p _ _ _ _ _ _ _ _ _ (S.freeR i p) (qk7 S i p) hi2 (qda hS hk hi p) (fun w1 o1 h1=>qcc h1 hlk hi1 p) (fun e=>⟨(tt e).2.2,fun w1 o1 h1=>qf2 h1 hlk hi1 p e⟩)
    (fun w1 o1 h1=>qam h1 (Stt.ok_hold hlk hi1 p) hi2 ⟨3,p,0,0⟩) (fun w1 o1 h1=>mh h1 hu p true) (j1.below hb j1.lt) (j2.below hb j2.lt) ((he2 _ j1.lt).trans (hbx _ (by omega))) ((he2 _ j2.lt).trans (hbx _ (by omega)))))
 have HS:=Lib.hid (hS0.trans (Stp.of_below hbW));unfold Stt.free;generalize S.deedR i (S.freeR i p)=R at *;clear h hbW j1 j2 hk hi hlk hl1 hi1 hl2 hi2 hu hbx hS0;go_enter Tryz.func56,Tryz.ntmps56;go_wp2_with fail;rw[←hW];refine HD.out.mono ?_
 rintro e w2 ⟨rfl,o2,hS2,hs2⟩
 go_wp2_with fail;go_ret;exact⟨rfl,o2,hS2,HS.out.trans hs2⟩
end
section
variable {w w' : World} {o o' : Own} {y : SLay} {S : Stt} {i : Nat}
def Stt.alloc (S:Stt)(i:Nat)(s:Shp):Res:=S.deedR i (S.allocR i s)
def Stt.weak (S:Stt)(i q:Nat):Res:=S.deedR i (S.weakR i q)
def Stt.load (S:Stt)(i p:Nat):Res:=S.deedR i (S.loadR i p)
theorem qib (h:StIn w o y S)(hk:S.ok)(hi:i<S.txs.length)(s:Shp)(hs:s.ok)(hwk:s.weak=false)
  {b1 b2:Nat}(j1:Blk w b1 #[.int .i64 s.p,.int .i64 s.d,.bool s.weak,.bool s.final] 93)(j2:Blk w b2 #[ptr y.sb] 24) :
  Calls Tryz.prog 105 #[ptr (y.xb i),ptr b1,ptr b2] w fun e w'=>e=.returned (.tuple #[.int .i64 (S.allocR i s).v,.int .i64 (S.allocR i s).e])∧Lft y (S.allocR i s).S o w w':=by
 have HR:=Lib.hid (fun w=>dp s hs w)
 have HL:=Lib.hid (fun w' (hw:Below w.heap.size w w')=>lay_any (h.below hw) hk hi s hs)
 rw[hwk]at j1;have c1:=j1.cell;have c2:=j2.cell;rw[show jw s=.agg #[.int .i64 s.p,.int .i64 s.d,.bool false,.bool s.final] from by rw[←hwk]]at HR HL
 show Calls _ _ _ _ fun e w'=>e=.returned (.tuple #[.int .i64 ((S.layR i s).2.1:Nat),.int .i64 (S.layR i s).2.2])∧Lft y (S.layR i s).1 o w w'
 generalize S.layR i s=R at *;clear h hk hi hs hwk;go_enter Tryz.func105,Tryz.ntmps105;go_wp2_with fail;refine (HR.out _).mono ?_
 rintro e w1⟨rfl,hb1⟩
 have c1:=(j1.below hb1 j1.lt).cell;have c2:=(j2.below hb1 j2.lt).cell;go_wp2_with fail;refine (HL.out _ hb1).mono ?_
 rintro e w2⟨rfl,o2,hS2,hs2⟩
 go_wp2_with fail;go_ret2;exact⟨rfl,o2,hS2,(Stp.of_below hb1).trans hs2⟩
theorem qmz (args:Array Value)(w:World):(callFunc 105 args).run Tryz.prog w=.ok (.enter 105 args) w:=enters_of Tryz.func105 (by kernel_rfl) rfl args w
theorem qi3 (h:StIn w o y S)(hk:S.ok)(hi:i<S.txs.length)(s:Shp)(hs:s.ok)(hwk:s.weak=false) :
  Calls Tryz.prog 47 #[ptr y.sb,.int .i64 i,jw s] w fun e w'=>e=.returned (.tuple #[.int .i64 (S.alloc i s).v,.int .i64 (S.alloc i s).e])∧Lft y (S.alloc i s).S o w w':=by
 have hmf:∀ (fn:Fn)(first cap:Array Value)(w:World),(Instr.makeFunc fn first cap).run Tryz.prog w=.ok (.func fn first cap) w:=fun _ _ _ _=>rfl
 have HD:=Lib.hid (fun w' b1 b2 (hw:Below w.heap.size w w')(j1:Blk w' b1 #[.int .i64 s.p,.int .i64 s.d,.bool s.weak,.bool s.final] 93)(j2:Blk w' b2 #[ptr y.sb] 24) =>
  vx 105 [ptr b1,ptr b2] (h.below hw) hk hi qmz (S.allocR i s) (fun _=>y8 hk hi hs)
   (fun _ w1 o1 hb _ hS=>qib hS hk hi s hs hwk (j1.below hb j1.lt) (j2.below hb j2.lt)))
 unfold Stt.alloc;generalize S.deedR i (S.allocR i s)=R at *;clear h hk hi hs hwk;go_enter Tryz.func47,Tryz.ntmps47;go_wp2_with fail;refine (HD.out _ (w.heap.size+1) w.heap.size (qa (qa (qc w) _) _) (Blk.new_at _ _ _ _ _ (by simp) rfl) ((Blk.new w _ _).alloc _)).mono ?_
 rintro e w2⟨rfl,o2,hS2,hs2⟩
 go_wp2_with fail;go_ret2;exact⟨rfl,o2,hS2,(Stp.of_below (qa (qa (qc w) _) _)).trans hs2⟩
theorem qli (q:Nat) (h:StIn w o y S) (hk:S.ok) (hi:i<S.txs.length)
  {b1 b2:Nat} (j1:Blk w b1 #[.int .i64 q] 3) (j2:Blk w b2 #[ptr y.sb] 24) (t1:o b1=(y.l.id+1,0)) (t2:o b2=(y.l.id+1,0)) :
  Calls Tryz.prog 259 #[ptr (y.xb i),ptr b1,ptr b2] w fun e w'=>e=.returned (.tuple #[.int .i64 (S.weakR i q).v,.int .i64 (S.weakR i q).e])∧Lft y (S.weakR i q).S o w w':=by
 by_cases h0:q=0
 ·subst h0
  have e1:S.weakR i 0=⟨S,0,143⟩:=by unfold Stt.weakR;rw[if_pos rfl]
  rw[e1];have c1:=j1.cell;have hfin:=Lib.hid h.lft_same;clear h hk hi j1 j2 e1;go_enter Tryz.func259,Tryz.ntmps259;go_wp2_with fail;go_ret2;exact⟨rfl,hfin.out⟩
 ·have hqb:((q:Int)==0)=false:=by rw[beq_eq_false_iff_ne];omega
  obtain⟨vq,vl,vm,jb,_⟩:=h.blk;unfold qk at jb;have HH:=(fun (e:Later w)=>qb5 (h.below e.2) hk q)
  have ht1:¬qh y (o b1):=by rw[t1];exact qm y
  have ht2:¬qh y (o b2):=by rw[t2];exact qm y
  have l1:=fun (e:Later w) (i:Nat)=>Later.cell j1 e i
  have l2:=fun (e:Later w) (i:Nat)=>Later.cell j2 e i
  have l5:=fun (e:Later w) (i:Nat)=>Later.cell jb e i
  have c1:=j1.cell;by_cases hr:lk S.H.cur q=none
  ·have e1:S.weakR i q=⟨S,0,70⟩:=by unfold Stt.weakR;rw[if_neg h0,if_pos hr]
   rw[e1];rw[hr]at HH;simp only[Option.isSome_none]at HH;have HH:=Lib.hid HH;have hfin:=Lib.hid (fun W (hW:Below w.heap.size w W)=>h.lft hW)
   clear h hk hi e1 h0 hr;go_enter Tryz.func259,Tryz.ntmps259;go_upto_region 3 with fail;refine qy (by kernel_rfl) (by kernel_rfl) ?_
   repeat (go_big_quiet_step ((go_at_call 61;exact kj (HH.out _))))
   refine wpQuiet_nil ?_;intro w8 hW0;obtain⟨⟨W0,hb0⟩,hwt⟩:=hW0;have hwt:w8=W0:=hwt;subst hwt;go_wp2_with fail;go_ret2;exact⟨rfl,hfin.out _ hb0⟩
  ·have hs1:(lk S.H.cur q).isSome=true:=by
    cases hl:lk S.H.cur q with
    | none=>exact absurd hl hr
    | some ob=>rfl
   rw[hs1]at HH;have HH:=Lib.hid HH;have e1:S.weakR i q=if (S.layR i wkS).2.2≠0 then⟨(S.layR i wkS).1,0,(S.layR i wkS).2.2⟩ else⟨(S.layR i wkS).1.h ((S.layR i wkS).1.H.setPtrR (S.layR i wkS).2.1 0 q).1,(S.layR i wkS).2.1,0⟩:=by unfold Stt.weakR;rw[if_neg h0,if_neg hr]
   have HL:=Lib.hid (fun W (hW:Below w.heap.size w W)=>show Calls Tryz.prog 107 #[ptr y.sb,ptr (y.xb i),.agg #[.int .i64 1,.int .i64 0,.bool true,.bool false]] W fun e w'=>e=.returned (.tuple #[.int .i64 ((S.layR i wkS).2.1:Nat),.int .i64 (S.layR i wkS).2.2])∧Lft y (S.layR i wkS).1 o W w' from lay_any (h.below hW) hk hi wkS qih)
   have hk2:=Stt.ok_layR hk hi qih;have HS:=Lib.hid (fun W o2 (h2:StIn W o2 y (S.layR i wkS).1)=>qbl h2 hk2 (S.layR i wkS).2.1 0 q)
   generalize S.weakR i q=RR at *;generalize S.layR i wkS=R at *;obtain⟨S2,tp,er⟩:=R;simp only at HL HS e1;have HRR:=Lib.hid e1;clear h hk hi hr h0 hs1 e1 hk2;go_enter Tryz.func259,Tryz.ntmps259;go_upto_region 3 with fail;refine qy (by kernel_rfl) (by kernel_rfl) ?_
   repeat (go_big_quiet_step ((go_at_call 61;exact kj (HH.out _))))
   refine wpQuiet_nil ?_;intro w8 hW0;obtain⟨⟨W0,hb0⟩,hwt⟩:=hW0;have hwt:w8=W0:=hwt;subst hwt;clear l1 l2 l5 c1;have c2:=(j2.below hb0 j2.lt).cell;go_wp2_with fail;refine (HL.out _ hb0).mono ?_
   rintro e w2⟨rfl,o2,hS2,hs2⟩
   have hst:=(Stp.of_below (T:=qh y) (o:=o) hb0).trans hs2;by_cases he:er=0
   ·subst he
    have k1:=j1.stp hst ht1;have k2:=j2.stp hst ht2;obtain⟨vq2,vl2,vm2,kb,_⟩:=hS2.blk;unfold qk at kb;clear c2;have c1:=k1.cell;have c2:=k2.cell;have cb:=kb.cell;have HS2:=Lib.hid (HS.out _ _ (hS2.below (qe (qc w2))));go_upto_region 8 with fail;go_still_tail 6,(by kernel_rfl)
    change wpList _ _ _ _ _ w2.drew;go_wp2_with fail;refine HS2.out.mono ?_
    rintro e w3⟨rfl,o3,hS3,hs3⟩
    go_wp2_with fail;go_ret2;rw[HRR.out,if_neg (by simp)]
    exact⟨rfl,o3,hS3,(hst.trans (Stp.of_below (qe (qc w2)))).trans hs3⟩
   ·have HE:=Lib.hid he
    have hbb:(er != 0)=true:=by rw[bne_iff_ne];exact he
    have hb2:(er==0)=false:=by rw[beq_eq_false_iff_ne];exact he
    clear he;go_wp2_with fail;go_ret2;rw[HRR.out,if_pos HE.out];exact⟨rfl,o2,hS2,hst⟩
theorem eg_weak1 (args:Array Value)(w:World):(callFunc 259 args).run Tryz.prog w=.ok (.enter 259 args) w:=enters_of Tryz.func259 (by kernel_rfl) rfl args w
theorem qlb (h0:StIn w o y S)(hk:S.ok)(hi:i<S.txs.length)(q:Nat) :
  Calls Tryz.prog 217 #[ptr y.sb,.int .i64 i,.int .i64 q] w fun e w'=>e=.returned (.tuple #[.int .i64 (S.weak i q).v,.int .i64 (S.weak i q).e])∧Lft y (S.weak i q).S o w w':=by
 have hmf:∀ (fn:Fn)(first cap:Array Value)(w:World),(Instr.makeFunc fn first cap).run Tryz.prog w=.ok (.func fn first cap) w:=fun _ _ _ _=>rfl
 obtain⟨o1,ho1⟩:∃ o1,o1=ext o w.heap.size (y.l.id+1,0):=⟨_,rfl⟩;have h:=h0.retag (o':=o1) fun b hb=>by rw[ho1];exact qj hb
 have hS0:Stp (qh y) o o1 w w:=by rw[ho1];exact (Stp.refl _ o w).ext _ _ (Nat.le_refl _)
 have hbx:∀ b,w.heap.size≤b→o1 b=(y.l.id+1,0):=fun b hb=>by rw[ho1];exact qp hb
 clear ho1 h0;obtain⟨W,hW⟩:∃ W:World,W=(w.alloc (.cells #[ptr y.sb] 24)).alloc (.cells #[.int .i64 q] 3):=⟨_,rfl⟩;have hbj:=box2 w (ptr y.sb) (.int .i64 q) 24 3;rw[←hW]at hbj;obtain⟨hbW,j1,j2⟩:=hbj;have HD:=Lib.hid (vx 259 [ptr (w.heap.size+1),ptr w.heap.size] (h.below hbW) hk hi eg_weak1 (S.weakR i q) (fun _=>du hk hi q)
  (fun _ w1 o2 hb he2 hS=>qli q hS hk hi (j2.below hb j2.lt) (j1.below hb j1.lt) ((he2 _ j2.lt).trans (hbx _ (by omega))) ((he2 _ j1.lt).trans (hbx _ (by omega)))))
 have HS:=Lib.hid (hS0.trans (Stp.of_below hbW));unfold Stt.weak;generalize S.deedR i (S.weakR i q)=R at *;clear h hbW j1 j2 hk hi hbx hS0;go_enter Tryz.func217,Tryz.ntmps217;go_wp2_with fail;rw[←hW];refine HD.out.mono ?_
 rintro e w2⟨rfl,o2,hS2,hs2⟩
 go_wp2_with fail;go_ret2;exact⟨rfl,o2,hS2,HS.out.trans hs2⟩
theorem eg_load1 (args:Array Value)(w:World):(callFunc 260 args).run Tryz.prog w=.ok (.enter 260 args) w:=enters_of Tryz.func260 (by kernel_rfl) rfl args w
theorem qlr (h:StIn w o y S) (hk:S.ok) (hi:i<S.txs.length) (p:Nat)
  {b1 b2:Nat} (j1:Blk w b1 #[ptr y.sb] 24) (j2:Blk w b2 #[.int .i64 p] 3) (t1:o b1=(y.l.id+1,0)) (t2:o b2=(y.l.id+1,0)) :
  Calls Tryz.prog 260 #[ptr (y.xb i),ptr b1,ptr b2] w fun e w'=>e=.returned (.tuple #[.int .i64 (S.loadR i p).v,.int .i64 (S.loadR i p).e])∧Lft y (S.loadR i p).S o w w':=by
 have HL:=Lib.hid (qda h hk hi p);have hk1:=Stt.ok_look hk hi p;have hl1:=gj S i p;have hi1:i<(S.lookR i p).1.txs.length:=by omega
 have HG:=Lib.hid (fun w1 o1 (h1:StIn w1 o1 y (S.lookR i p).1)=>s_ptr h1 hk1 p 0)
 have hk2:((S.lookR i p).1.h ((S.lookR i p).1.H.ptrR p 0).1).ok:=Stt.ok_ptr hk1 p 0;have HK:=Lib.hid (fun w1 o1 (h1:StIn w1 o1 y ((S.lookR i p).1.h ((S.lookR i p).1.H.ptrR p 0).1))=>s_keep h1 hk2 hi1 ((S.lookR i p).1.H.ptrR p 0).2.1)
 have HX:=Lib.hid (fun w1 o1 (h1:StIn w1 o1 y ((S.lookR i p).1.h ((S.lookR i p).1.H.ptrR p 0).1))=>(h1.txs i _ (Stt.t_get hi1)).blk)
 have HB:=Lib.hid (qm y);obtain⟨RR,hRR⟩:∃ RR,RR=S.loadR i p:=⟨_,rfl⟩;rw[←hRR];unfold Stt.loadR Stt.keepR at hRR;generalize S.lookR i p=L at *;obtain⟨S1,el,sp,sd,sw,sf⟩:=L;simp only at HL HG HK HX hRR;have c1:=j1.cell;have c2:=j2.cell;generalize S1.H.ptrR p 0=G at *;obtain⟨H2,q,eg⟩:=G;simp only at HG HK HX hRR;change Hid (∀ w1 o1,StIn w1 o1 y S1→Calls _ _ _ _ fun e w'=>_∧Lft y (S1.h H2) o1 w1 w') at HG
 generalize S1.h H2=S2 at *;have HRR:=Lib.hid hRR;clear h hk hi hk1 hl1 hi1 hk2 hRR;by_cases he:el=0
 ·subst he
  cases sw with
  | false =>
   rw[HRR.out,if_neg (by simp),if_pos rfl]
   go_enter Tryz.func260,Tryz.ntmps260;go_wp2_with fail;refine HL.out.mono ?_
   rintro e w1 ⟨rfl,o1,hS1,hs1⟩
   go_wp2_with fail;go_ret2;exact⟨rfl,o1,hS1.alloc _,hs1.alloc _⟩
  | true =>
   go_enter Tryz.func260,Tryz.ntmps260;go_wp2_with fail;refine HL.out.mono ?_
   rintro e w1 ⟨rfl,o1,hS1,hs1⟩
   obtain⟨W1,hW1⟩:∃ W:World,W=w1.alloc (.cells #[.int .i64 sp,.int .i64 sd,.bool true,.bool sf] 93):=⟨_,rfl⟩;have hb1:Below w1.heap.size w1 W1:=by rw[hW1];exact qa (qc w1) _
   have hSW:=hS1.below hb1;have hsW:=hs1.trans (Stp.of_below (T:=qh y) (o:=o1) hb1);have k1:=(j1.stp hs1 (by rw[t1];exact HB.out)).below hb1 (j1.stp hs1 (by rw[t1];exact HB.out)).lt
   have k2:=(j2.stp hs1 (by rw[t2];exact HB.out)).below hb1 (j2.stp hs1 (by rw[t2];exact HB.out)).lt
   have u1:o1 b1=(y.l.id+1,0):=(hs1.tags _ j1.lt).trans t1;have u2:o1 b2=(y.l.id+1,0):=(hs1.tags _ j2.lt).trans t2;obtain⟨vq,vl,vm,kb,_⟩:=hSW.blk;unfold qk at kb;clear c1 c2 hS1 hs1 hb1;go_upto_region 6 with fail;rw[←hW1];clear hW1;have c1:W1.cell? ⟨b1,0,none⟩=some (ptr y.sb):=k1.cell 0;have c2:W1.cell? ⟨b2,0,none⟩=some (.int .i64 p):=k2.cell 0;have cb:W1.cell? ⟨y.sb,0,none⟩=some (ptr y.l.h):=kb.cell 0;have HG2:=Lib.hid (HG.out _ _ (hSW.below (qe (qc W1))));have HsW:=Lib.hid hsW
   have HKc:=Lib.hid (fun (w2:World) (o2:Own) (hs2:Stp (qh y) o1 o2 W1.drew w2) =>
    show w2.cell? ⟨b1,0,none⟩=some (ptr y.sb)∧w2.cell? ⟨b2,0,none⟩=some (.int .i64 p) from
     ⟨((qi k1).stp hs2 (by rw[u1];exact HB.out)).cell 0,((qi k2).stp hs2 (by rw[u2];exact HB.out)).cell 0⟩)
   have HSb:=Lib.hid (fun (w2:World) (o2:Own) (h2:StIn w2 o2 y S2)=>show w2.cell? ⟨y.sb,0,none⟩=some (ptr y.l.h) from by
    obtain⟨_,_,_,jb2,_⟩:=h2.blk;exact jb2.cell 0)
   clear hSW hsW HL k1 k2 kb u1 u2
   go_region_held3 (fun w'=>w'.cell? ⟨b1,0,none⟩=some (ptr y.sb)∧w'.cell? ⟨b2,0,none⟩=some (.int .i64 p)∧w'.cell? ⟨y.sb,0,none⟩=some (ptr y.l.h)) (first|exact⟨by assumption,by assumption,by assumption⟩|go_keep) (first
    | (go_at_call 112;refine HG2.out.mono ?_;rintro e w2 ⟨rfl,o2,hS2,hs2⟩;obtain⟨d1,d2⟩:=HKc.out _ _ hs2;have db:=HSb.out _ _ hS2)
    | fail)
   all_goals
    have hst:=HsW.out.trans ((Stp.of_below (qe (qc W1))).trans hs2);by_cases heg:eg=0
    ·subst heg
     by_cases h0:q=0
     ·subst h0
      go_wp2_with fail;go_ret2;rw[HRR.out,if_neg (by simp),if_neg (by simp),if_neg (by simp),if_pos (by simp)]
      exact⟨rfl,o2,hS2,hst⟩
     ·have HE:=Lib.hid h0
      have hqb:((q:Int) != 0)=true:=by rw[bne_iff_ne];omega
      have HK2:=Lib.hid (HK.out _ _ hS2);obtain⟨vt,jx,_⟩:=HX.out _ _ hS2;unfold zd at jx;have cx:=jx.cell;clear HK;generalize yn (S2.t i).log.keeps q (S2.t i).log.mr=nb at *;clear h0
      cases nb
      all_goals
       go_wp2_with fail;refine HK2.out.mono ?_
       rintro e w3 ⟨rfl,o3,hS3,hs3⟩
       go_wp2_with fail;go_ret2;rw[HRR.out,if_neg (by simp),if_neg (by simp),if_neg (by simp),if_neg HE.out]
       simp only[if_true,Bool.false_eq_true,if_false];exact⟨rfl,o3,hS3,hst.trans hs3⟩
    ·have heI:((eg:Nat):Int)≠0:=by omega
     have HE:=Lib.hid heg;have hbb:((eg:Int) != 0)=true:=by rw[bne_iff_ne];exact heI
     have hb2:((eg:Int)==0)=false:=by rw[beq_eq_false_iff_ne];exact heI
     clear heI heg;go_wp2_with fail;go_ret2;rw[HRR.out,if_neg (by simp),if_neg (by simp),if_pos HE.out]
     exact⟨rfl,o2,hS2,hst⟩
 ·rw[HRR.out,if_pos he]
  have hbb:(el != 0)=true:=by rw[bne_iff_ne];exact he
  have hb2:(el==0)=false:=by rw[beq_eq_false_iff_ne];exact he
  clear he;go_enter Tryz.func260,Tryz.ntmps260;go_wp2_with fail;refine HL.out.mono ?_
  rintro e w1 ⟨rfl,o1,hS1,hs1⟩
  go_wp2_with fail;go_ret2;exact⟨rfl,o1,hS1.alloc _,hs1.alloc _⟩
theorem qlo (h0:StIn w o y S)(hk:S.ok)(hi:i<S.txs.length)(p:Nat) :
  Calls Tryz.prog 218 #[ptr y.sb,.int .i64 i,.int .i64 p] w fun e w'=>e=.returned (.tuple #[.int .i64 (S.load i p).v,.int .i64 (S.load i p).e])∧Lft y (S.load i p).S o w w':=by
 have hmf:∀ (fn:Fn)(first cap:Array Value)(w:World),(Instr.makeFunc fn first cap).run Tryz.prog w=.ok (.func fn first cap) w:=fun _ _ _ _=>rfl
 obtain⟨o1,ho1⟩:∃ o1,o1=ext o w.heap.size (y.l.id+1,0):=⟨_,rfl⟩;have h:=h0.retag (o':=o1) fun b hb=>by rw[ho1];exact qj hb
 have hS0:Stp (qh y) o o1 w w:=by rw[ho1];exact (Stp.refl _ o w).ext _ _ (Nat.le_refl _)
 have hbx:∀ b,w.heap.size≤b→o1 b=(y.l.id+1,0):=fun b hb=>by rw[ho1];exact qp hb
 clear ho1 h0;obtain⟨W,hW⟩:∃ W:World,W=(w.alloc (.cells #[ptr y.sb] 24)).alloc (.cells #[.int .i64 p] 3):=⟨_,rfl⟩;have hbj:=box2 w (ptr y.sb) (.int .i64 p) 24 3;rw[←hW]at hbj;obtain⟨hbW,j1,j2⟩:=hbj;have HD:=Lib.hid (vx 260 [ptr w.heap.size,ptr (w.heap.size+1)] (h.below hbW) hk hi eg_load1 (S.loadR i p) (fun _=>bi hk hi p)
  (fun _ w1 o2 hb he2 hS=>qlr hS hk hi p (j1.below hb j1.lt) (j2.below hb j2.lt) ((he2 _ j1.lt).trans (hbx _ (by omega))) ((he2 _ j2.lt).trans (hbx _ (by omega)))))
 have HS:=Lib.hid (hS0.trans (Stp.of_below hbW));unfold Stt.load;generalize S.deedR i (S.loadR i p)=R at *;clear h hbW j1 j2 hk hi hbx hS0;go_enter Tryz.func218,Tryz.ntmps218;go_wp2_with fail;rw[←hW];refine HD.out.mono ?_
 rintro e w2⟨rfl,o2,hS2,hs2⟩
 go_wp2_with fail;go_ret2;exact⟨rfl,o2,hS2,HS.out.trans hs2⟩
end
end Go.Proofs.YteehgedabdchcaaGreat
