import Derived.Test.YteehgedabdchcaaGreatKba
import Derived.Test.YteehgedabdchcaaGreatKbf
set_option linter.all false
set_option maxRecDepth 1000000
set_option maxHeartbeats 0
open Go renaming World->Aa,Calls->Ab,Value->Ac
open Go.RowKit renaming Below->Ae
open Go.Value renaming int->I,pointer->Ag,slice->Ah,tuple->Aj,agg->Ak
open Go.IntKind renaming i64->Z
open Go.Ending renaming returned->O
open List renaming take_length->Ad,take_succ_eq_append_getElem->aa,take_add_one->ag,flatMap_append->ai,append_assoc->aj
open Go.Instr renaming makeFunc->Ai
open Nat renaming zero_le->af
open Go.Proofs.Tryz
open Go.Proofs.Tryz renaming prog->ARt
open Go.Obj renaming cells->ARu
namespace Go.Proofs.YteehgedabdchcaaGreat
section
open Go.RowKit Hp
attribute [local go_sem ↓] Go.wp_at_zero Go.wp_at_succ
section
variable {w w' : Aa} {o o' : Own} {y : A6} {S : An} {i : Nat}
def An.alloc (S:An)(i:Nat)(s:BX):BD:=S.AG i (S.AR i s)
def An.Az (S:An)(i q:Nat):BD:=S.AG i (S.BG i q)
def An.load (S:An)(i p:Nat):BD:=S.AG i (S.B8 i p)
def qlj (h:Aq w o y S)(hk:S.ok)(hi:i<S.Au.length)(s:BX)(hs:s.ok)(hwk:s.Az=false)
  {b1 b2:Nat}(j1:Al w b1 #[I Z s.p,I Z s.d,.bool s.Az,.bool s.final] 93)(j2:Al w b2 #[ptr y.sb] 24) :
  Ab ARt 105 #[ptr (y.xb i),ptr b1,ptr b2] w fun e w'=>e=O (Aj #[I Z (S.AR i s).v,I Z (S.AR i s).e])/\Bl y (S.AR i s).S o w w':=by
 have HR:=Qa (fun w=>ss s hs w)
 have HL:=Qa (fun w' (hw:Ae w.1.size w w')=>Dk (h.below hw) hk hi s hs)
 rw[hwk]at j1;have c1:=j1.cell;have c2:=j2.cell;rw[show kw s=Ak #[I Z s.p,I Z s.d,.bool false,.bool s.final] from by rw[<-hwk]]at HR HL
 show Ab _ _ _ _ fun e w'=>e=O (Aj #[I Z ((S.Bq i s).2.1:Nat),I Z (S.Bq i s).2.2])/\Bl y (S.Bq i s).1 o w w'
 generalize S.Bq i s=R at *;clear h hk hi hs hwk;go_enter func105,ntmps105;go_wp2_with fail;refine (HR.out _).mono ?_
 rintro e w1⟨rfl,hb1⟩
 have c1:=(j1.below hb1 j1.lt).cell;have c2:=(j2.below hb1 j2.lt).cell;go_wp2_with fail;refine (HL.out _ hb1).mono ?_
 rintro e w2⟨rfl,o2,hS2,hs2⟩
 go_wp2_with fail;go_ret2;exact⟨rfl,o2,hS2,(Stp.of_below hb1).trans hs2⟩
def qno (args:Array Ac)(w:Aa):(callFunc 105 args).run ARt w=.ok (.enter 105 args) w:=enters_of func105 (by kernel_rfl) rfl args w
def qj2 (h:Aq w o y S)(hk:S.ok)(hi:i<S.Au.length)(s:BX)(hs:s.ok)(hwk:s.Az=false) :
  Ab ARt 47 #[ptr y.sb,I Z i,kw s] w fun e w'=>e=O (Aj #[I Z (S.alloc i s).v,I Z (S.alloc i s).e])/\Bl y (S.alloc i s).S o w w':=by
 have gD:∀ (fn:Fn)(first cap:Array Ac)(w:Aa),(Ai fn first cap).run ARt w=.ok (.func fn first cap) w:=fun _ _ _ _=>rfl
 have HD:=Qa (fun w' b1 b2 (hw:Ae w.1.size w w')(j1:Al w' b1 #[I Z s.p,I Z s.d,.bool s.Az,.bool s.final] 93)(j2:Al w' b2 #[ptr y.sb] 24) =>
  xa 105 [ptr b1,ptr b2] (h.below hw) hk hi qno (S.AR i s) (fun _=>pc hk hi hs)
   (fun _ w1 o1 hb _ hS=>qlj hS hk hi s hs hwk (j1.below hb j1.lt) (j2.below hb j2.lt)))
 unfold An.alloc;generalize S.AG i (S.AR i s)=R at *;clear h hk hi hs hwk;go_enter func47,ntmps47;go_wp2_with fail;refine (HD.out _ (w.1.size+1) w.1.size (qc (qc (qd w) _) _) (Al.Ap _ _ _ _ _ (by simp) rfl) ((Al.new w _ _).alloc _)).mono ?_
 rintro e w2⟨rfl,o2,hS2,hs2⟩
 go_wp2_with fail;go_ret2;exact⟨rfl,o2,hS2,(Stp.of_below (qc (qc (qd w) _) _)).trans hs2⟩
def qoi (q:Nat) (h:Aq w o y S) (hk:S.ok) (hi:i<S.Au.length)
  {b1 b2:Nat} (j1:Al w b1 #[I Z q] 3) (j2:Al w b2 #[ptr y.sb] 24) (t1:o b1=(y.l.id+1,0)) (t2:o b2=(y.l.id+1,0)) :
  Ab ARt 259 #[ptr (y.xb i),ptr b1,ptr b2] w fun e w'=>e=O (Aj #[I Z (S.BG i q).v,I Z (S.BG i q).e])/\Bl y (S.BG i q).S o w w':=by
 by_cases h0:q=0
 ·subst h0
  have e1:S.BG i 0=⟨S,0,143⟩:=by unfold An.BG;rw[if_pos rfl]
  rw[e1];have c1:=j1.cell;have hfin:=Qa h.DK;clear h hk hi j1 j2 e1;go_enter func259,ntmps259;go_wp2_with fail;go_ret2;exact⟨rfl,hfin.out⟩
 ·have vH:((q:Int)==0)=false:=by rw[Qh];omega
  obtain⟨vq,vl,vm,jb,_⟩:=h.AM;unfold qw at jb;have HH:=(fun (e:Later w)=>SD (h.below e.2) hk q);have ht1:¬qo y (o b1):=by rw[t1];exact qy y
  have ht2:¬qo y (o b2):=by rw[t2];exact qy y
  have l1:=fun (e:Later w) (i:Nat)=>Later.cell j1 e i;have l2:=fun (e:Later w) (i:Nat)=>Later.cell j2 e i;have l5:=fun (e:Later w) (i:Nat)=>Later.cell jb e i;have c1:=j1.cell;by_cases hr:lk S.H.cur q=none
  ·have e1:S.BG i q=⟨S,0,70⟩:=by unfold An.BG;rw[if_neg h0,if_pos hr]
   rw[e1];rw[hr]at HH;simp only[Option.isSome_none]at HH;have HH:=Qa HH;have hfin:=Qa (fun W (hW:Ae w.1.size w W)=>h.D1 hW);clear h hk hi e1 h0 hr;go_enter func259,ntmps259;go_upto_region 3 with fail;refine zr (by kernel_rfl) (by kernel_rfl) ?_
   repeat (go_big_quiet_step ((go_at_call 61;exact we (HH.out _))))
   refine wpQuiet_nil ?_;intro w8 hW0;obtain⟨⟨W0,hb0⟩,hwt⟩:=hW0;have hwt:w8=W0:=hwt;subst hwt;go_wp2_with fail;go_ret2;exact⟨rfl,hfin.out _ hb0⟩
  ·have hs1:(lk S.H.cur q).isSome=true:=by
    cases hl:lk S.H.cur q with
    | none=>exact absurd hl hr
    | some ob=>rfl
   rw[hs1]at HH;have HH:=Qa HH;have e1:S.BG i q=if (S.Bq i DF).2.2≠0 then⟨(S.Bq i DF).1,0,(S.Bq i DF).2.2⟩ else⟨(S.Bq i DF).1.h ((S.Bq i DF).1.H.Br (S.Bq i DF).2.1 0 q).1,(S.Bq i DF).2.1,0⟩:=by unfold An.BG;rw[if_neg h0,if_neg hr]
   have HL:=Qa (fun W (hW:Ae w.1.size w W)=>show Ab ARt 107 #[ptr y.sb,ptr (y.xb i),Ak #[I Z 1,I Z 0,.bool true,.bool false]] W fun e w'=>e=O (Aj #[I Z ((S.Bq i DF).2.1:Nat),I Z (S.Bq i DF).2.2])/\Bl y (S.Bq i DF).1 o W w' from Dk (h.below hW) hk hi DF VN);have hk2:=An.Eo hk hi VN;have HS:=Qa (fun W o2 (h2:Aq W o2 y (S.Bq i DF).1)=>U5 h2 hk2 (S.Bq i DF).2.1 0 q);generalize S.BG i q=RR at *;generalize S.Bq i DF=R at *;obtain⟨S2,tp,er⟩:=R;simp only at HL HS e1;have HRR:=Qa e1;clear h hk hi hr h0 hs1 e1 hk2;go_enter func259,ntmps259;go_upto_region 3 with fail;refine zr (by kernel_rfl) (by kernel_rfl) ?_
   repeat (go_big_quiet_step ((go_at_call 61;exact we (HH.out _))))
   refine wpQuiet_nil ?_;intro w8 hW0;obtain⟨⟨W0,hb0⟩,hwt⟩:=hW0;have hwt:w8=W0:=hwt;subst hwt;clear l1 l2 l5 c1;have c2:=(j2.below hb0 j2.lt).cell;go_wp2_with fail;refine (HL.out _ hb0).mono ?_;rintro e w2⟨rfl,o2,hS2,hs2⟩;have hst:=(Stp.of_below (T:=qo y) (o:=o) hb0).trans hs2;by_cases he:er=0
   ·subst he
    have k1:=j1.Ao hst ht1;have k2:=j2.Ao hst ht2;obtain⟨vq2,vl2,vm2,kb,_⟩:=hS2.AM;unfold qw at kb;clear c2;have c1:=k1.cell;have c2:=k2.cell;have cb:=kb.cell;have HS2:=Qa (HS.out _ _ (hS2.below (qf (qd w2))));go_upto_region 8 with fail;go_still_tail 6,(by kernel_rfl)
    change wpList _ _ _ _ _ w2.drew;go_wp2_with fail;refine HS2.out.mono ?_;rintro e w3⟨rfl,o3,dB,hs3⟩;go_wp2_with fail;go_ret2;rw[HRR.out,if_neg (by simp)]
    exact⟨rfl,o3,dB,(hst.trans (Stp.of_below (qf (qd w2)))).trans hs3⟩
   ·have HE:=Qa he
    have hbb:(er != 0)=true:=by rw[bne_iff_ne];exact he
    have hb2:(er==0)=false:=by rw[Qh];exact he
    clear he;go_wp2_with fail;go_ret2;rw[HRR.out,if_pos HE.out];exact⟨rfl,o2,hS2,hst⟩
def GZ (args:Array Ac)(w:Aa):(callFunc 259 args).run ARt w=.ok (.enter 259 args) w:=enters_of func259 (by kernel_rfl) rfl args w
def qoa (h0:Aq w o y S)(hk:S.ok)(hi:i<S.Au.length)(q:Nat) :
  Ab ARt 217 #[ptr y.sb,I Z i,I Z q] w fun e w'=>e=O (Aj #[I Z (S.Az i q).v,I Z (S.Az i q).e])/\Bl y (S.Az i q).S o w w':=by
 have gD:∀ (fn:Fn)(first cap:Array Ac)(w:Aa),(Ai fn first cap).run ARt w=.ok (.func fn first cap) w:=fun _ _ _ _=>rfl
 obtain⟨o1,ho1⟩:∃ o1,o1=ext o w.1.size (y.l.id+1,0):=⟨_,rfl⟩;have h:=h0.retag (o':=o1) fun b hb=>by rw[ho1];exact qr hb
 have hS0:Stp (qo y) o o1 w w:=by rw[ho1];exact (Stp.refl _ o w).ext _ _ (Qk _)
 have hbx:∀ b,w.1.size<=b->o1 b=(y.l.id+1,0):=fun b hb=>by rw[ho1];exact qz hb
 clear ho1 h0;obtain⟨W,hW⟩:=Ja0 ((w.alloc (ARu #[ptr y.sb] 24)).alloc (ARu #[I Z q] 3));have hbj:=PF w (ptr y.sb) (I Z q) 24 3;rw[<-hW]at hbj;obtain⟨hbW,j1,j2⟩:=hbj;have HD:=Qa (xa 259 [ptr (w.1.size+1),ptr w.1.size] (h.below hbW) hk hi GZ (S.BG i q) (fun _=>tq hk hi q)
  (fun _ w1 o2 hb he2 hS=>qoi q hS hk hi (j2.below hb j2.lt) (j1.below hb j1.lt) ((he2 _ j2.lt).trans (hbx _ (by omega))) ((he2 _ j1.lt).trans (hbx _ (by omega)))))
 have HS:=Qa (hS0.trans (Stp.of_below hbW));unfold An.Az;generalize S.AG i (S.BG i q)=R at *;clear h hbW j1 j2 hk hi hbx hS0;go_enter func217,ntmps217;go_wp2_with fail;rw[<-hW];refine HD.out.mono ?_
 rintro e w2⟨rfl,o2,hS2,hs2⟩
 go_wp2_with fail;go_ret2;exact⟨rfl,o2,hS2,HS.out.trans hs2⟩
def GX (args:Array Ac)(w:Aa):(callFunc 260 args).run ARt w=.ok (.enter 260 args) w:=enters_of func260 (by kernel_rfl) rfl args w
def qoo (h:Aq w o y S) (hk:S.ok) (hi:i<S.Au.length) (p:Nat)
  {b1 b2:Nat} (j1:Al w b1 #[ptr y.sb] 24) (j2:Al w b2 #[I Z p] 3) (t1:o b1=(y.l.id+1,0)) (t2:o b2=(y.l.id+1,0)) :
  Ab ARt 260 #[ptr (y.xb i),ptr b1,ptr b2] w fun e w'=>e=O (Aj #[I Z (S.B8 i p).v,I Z (S.B8 i p).e])/\Bl y (S.B8 i p).S o w w':=by
 have HL:=Qa (U3 h hk hi p);have hk1:=An.Dp hk hi p;have hl1:=dc S i p;have hi1:i<(S.AO i p).1.Au.length:=by omega
 have HG:=Qa (fun w1 o1 (h1:Aq w1 o1 y (S.AO i p).1)=>Kx h1 hk1 p 0)
 have hk2:((S.AO i p).1.h ((S.AO i p).1.H.Bi p 0).1).ok:=An.DR hk1 p 0;have HK:=Qa (fun w1 o1 (h1:Aq w1 o1 y ((S.AO i p).1.h ((S.AO i p).1.H.Bi p 0).1))=>Q5 h1 hk2 hi1 ((S.AO i p).1.H.Bi p 0).2.1)
 have HX:=Qa (fun w1 o1 (h1:Aq w1 o1 y ((S.AO i p).1.h ((S.AO i p).1.H.Bi p 0).1))=>(h1.Au i _ (An.AV hi1)).AM)
 have HB:=Qa (qy y);obtain⟨RR,hRR⟩:=Ja0 (S.B8 i p);rw[<-hRR];unfold An.B8 An.CP at hRR;generalize S.AO i p=L at *;obtain⟨S1,el,sp,sd,sw,sf⟩:=L;simp only at HL HG HK HX hRR;have c1:=j1.cell;have c2:=j2.cell;generalize S1.H.Bi p 0=G at *;obtain⟨H2,q,eg⟩:=G;simp only at HG HK HX hRR;change Hid (∀ w1 o1,Aq w1 o1 y S1->Ab _ _ _ _ fun e w'=>_/\Bl y (S1.h H2) o1 w1 w') at HG
 generalize S1.h H2=S2 at *;have HRR:=Qa hRR;clear h hk hi hk1 hl1 hi1 hk2 hRR;by_cases he:el=0
 ·subst he
  cases sw with
  | false =>
   rw[HRR.out,if_neg (by simp),if_pos rfl]
   go_enter func260,ntmps260;go_wp2_with fail;refine HL.out.mono ?_;rintro e w1 ⟨rfl,o1,hS1,hs1⟩;go_wp2_with fail;go_ret2;exact⟨rfl,o1,hS1.alloc _,hs1.alloc _⟩
  | true =>
   go_enter func260,ntmps260;go_wp2_with fail;refine HL.out.mono ?_;rintro e w1 ⟨rfl,o1,hS1,hs1⟩;obtain⟨W1,hW1⟩:=Ja0 (w1.alloc (ARu #[I Z sp,I Z sd,.bool true,.bool sf] 93));have hb1:Ae w1.1.size w1 W1:=by rw[hW1];exact qc (qd w1) _
   have hSW:=hS1.below hb1;have cZ:=hs1.trans (Stp.of_below (T:=qo y) (o:=o1) hb1);have k1:=(j1.Ao hs1 (by rw[t1];exact HB.out)).below hb1 (j1.Ao hs1 (by rw[t1];exact HB.out)).lt
   have k2:=(j2.Ao hs1 (by rw[t2];exact HB.out)).below hb1 (j2.Ao hs1 (by rw[t2];exact HB.out)).lt
   have u1:o1 b1=(y.l.id+1,0):=(hs1.tags _ j1.lt).trans t1;have u2:o1 b2=(y.l.id+1,0):=(hs1.tags _ j2.lt).trans t2;obtain⟨vq,vl,vm,kb,_⟩:=hSW.AM;unfold qw at kb;clear c1 c2 hS1 hs1 hb1;go_upto_region 6 with fail;rw[<-hW1];clear hW1;have c1:W1.cell? ⟨b1,0,none⟩=some (ptr y.sb):=k1.cell 0;have c2:W1.cell? ⟨b2,0,none⟩=some (I Z p):=k2.cell 0;have cb:W1.cell? ⟨y.sb,0,none⟩=some (ptr y.l.h):=kb.cell 0;have HG2:=Qa (HG.out _ _ (hSW.below (qf (qd W1))));have HsW:=Qa cZ;have HKc:=Qa (fun (w2:Aa) (o2:Own) (hs2:Stp (qo y) o1 o2 W1.drew w2) =>
    show w2.cell? ⟨b1,0,none⟩=some (ptr y.sb)/\w2.cell? ⟨b2,0,none⟩=some (I Z p) from
     ⟨((qj k1).Ao hs2 (by rw[u1];exact HB.out)).cell 0,((qj k2).Ao hs2 (by rw[u2];exact HB.out)).cell 0⟩)
   have HSb:=Qa (fun (w2:Aa) (o2:Own) (h2:Aq w2 o2 y S2)=>show w2.cell? ⟨y.sb,0,none⟩=some (ptr y.l.h) from by
    obtain⟨_,_,_,nK,_⟩:=h2.AM;exact nK.cell 0)
   clear hSW cZ HL k1 k2 kb u1 u2;go_region_held3 (fun w'=>w'.cell? ⟨b1,0,none⟩=some (ptr y.sb)/\w'.cell? ⟨b2,0,none⟩=some (I Z p)/\w'.cell? ⟨y.sb,0,none⟩=some (ptr y.l.h)) (first|exact⟨by assumption,by assumption,by assumption⟩|go_keep) (first
    | (go_at_call 112;refine HG2.out.mono ?_;rintro e w2 ⟨rfl,o2,hS2,hs2⟩;obtain⟨d1,d2⟩:=HKc.out _ _ hs2;have db:=HSb.out _ _ hS2)
    | fail)
   all_goals
    have hst:=HsW.out.trans ((Stp.of_below (qf (qd W1))).trans hs2);by_cases heg:eg=0
    ·subst heg
     by_cases h0:q=0
     ·subst h0
      go_wp2_with fail;go_ret2;rw[HRR.out,if_neg (by simp),if_neg (by simp),if_neg (by simp),if_pos (by simp)]
      exact⟨rfl,o2,hS2,hst⟩
     ·have HE:=Qa h0
      have vH:((q:Int) != 0)=true:=by rw[bne_iff_ne];omega
      have HK2:=Qa (HK.out _ _ hS2);obtain⟨vt,jx,_⟩:=HX.out _ _ hS2;unfold zw at jx;have cx:=jx.cell;clear HK;generalize um (S2.t i).log.keeps q (S2.t i).log.mr=nb at *;clear h0
      cases nb
      all_goals
       go_wp2_with fail;refine HK2.out.mono ?_;rintro e w3 ⟨rfl,o3,dB,hs3⟩;go_wp2_with fail;go_ret2;rw[HRR.out,if_neg (by simp),if_neg (by simp),if_neg (by simp),if_neg HE.out]
       simp only[if_true,Bool.false_eq_true,if_false];exact⟨rfl,o3,dB,hst.trans hs3⟩
    ·have heI:((eg:Nat):Int)≠0:=by omega
     have HE:=Qa heg;have hbb:((eg:Int) != 0)=true:=by rw[bne_iff_ne];exact heI
     have hb2:((eg:Int)==0)=false:=by rw[Qh];exact heI
     clear heI heg;go_wp2_with fail;go_ret2;rw[HRR.out,if_neg (by simp),if_neg (by simp),if_pos HE.out]
     exact⟨rfl,o2,hS2,hst⟩
 ·rw[HRR.out,if_pos he]
  have hbb:(el != 0)=true:=by rw[bne_iff_ne];exact he
  have hb2:(el==0)=false:=by rw[Qh];exact he
  clear he;go_enter func260,ntmps260;go_wp2_with fail;refine HL.out.mono ?_;rintro e w1 ⟨rfl,o1,hS1,hs1⟩;go_wp2_with fail;go_ret2;exact⟨rfl,o1,hS1.alloc _,hs1.alloc _⟩
def qo7 (h0:Aq w o y S)(hk:S.ok)(hi:i<S.Au.length)(p:Nat) :
  Ab ARt 218 #[ptr y.sb,I Z i,I Z p] w fun e w'=>e=O (Aj #[I Z (S.load i p).v,I Z (S.load i p).e])/\Bl y (S.load i p).S o w w':=by
 have gD:∀ (fn:Fn)(first cap:Array Ac)(w:Aa),(Ai fn first cap).run ARt w=.ok (.func fn first cap) w:=fun _ _ _ _=>rfl
 obtain⟨o1,ho1⟩:∃ o1,o1=ext o w.1.size (y.l.id+1,0):=⟨_,rfl⟩;have h:=h0.retag (o':=o1) fun b hb=>by rw[ho1];exact qr hb
 have hS0:Stp (qo y) o o1 w w:=by rw[ho1];exact (Stp.refl _ o w).ext _ _ (Qk _)
 have hbx:∀ b,w.1.size<=b->o1 b=(y.l.id+1,0):=fun b hb=>by rw[ho1];exact qz hb
 clear ho1 h0;obtain⟨W,hW⟩:=Ja0 ((w.alloc (ARu #[ptr y.sb] 24)).alloc (ARu #[I Z p] 3));have hbj:=PF w (ptr y.sb) (I Z p) 24 3;rw[<-hW]at hbj;obtain⟨hbW,j1,j2⟩:=hbj;have HD:=Qa (xa 260 [ptr w.1.size,ptr (w.1.size+1)] (h.below hbW) hk hi GX (S.B8 i p) (fun _=>lf hk hi p)
  (fun _ w1 o2 hb he2 hS=>qoo hS hk hi p (j1.below hb j1.lt) (j2.below hb j2.lt) ((he2 _ j1.lt).trans (hbx _ (by omega))) ((he2 _ j2.lt).trans (hbx _ (by omega)))))
 have HS:=Qa (hS0.trans (Stp.of_below hbW));unfold An.load;generalize S.AG i (S.B8 i p)=R at *;clear h hbW j1 j2 hk hi hbx hS0;go_enter func218,ntmps218;go_wp2_with fail;rw[<-hW];refine HD.out.mono ?_
 rintro e w2⟨rfl,o2,hS2,hs2⟩
 go_wp2_with fail;go_ret2;exact⟨rfl,o2,hS2,HS.out.trans hs2⟩
end
section
variable {w w' : Aa} {o o' : Own} {y : A6} {S : An} {i : Nat}
def WY (hk:S.ok)(hi:i<S.Au.length):Good S.Au.length (S.AL i):=by
 unfold An.AL An.AG
 cases hl:(S.t i).live with
 | false=>rw[if_neg (by simp)];exact⟨hk,rfl⟩
 | true =>
  rw[if_pos rfl];have hg:=Wv hk hi hl;exact⟨An.J0 hg.1 (by have:=hg.2;omega),by rw[qma];exact hg.2⟩
def qjf (h:Aq w o y S)(hk:S.ok)(hi:i<S.Au.length)(hl:(S.t i).live=true){b1:Nat}(j1:Al w b1 #[ptr y.sb] 24)(t1:o b1=(y.l.id+1,0)) :
  Ab ARt 78 #[ptr (y.xb i),ptr b1] w fun e w'=>e=O (Aj #[I Z (S.AY i).v,I Z (S.AY i).e])/\Bl y (S.AY i).S o w w':=by
 by_cases hw:(S.t i).log.holds=[]/\S.Av≠(i:Int)
 ·have e1:S.AY i=⟨S.tx i (S.t i).ended,0,0⟩:=by unfold An.AY;rw[if_pos hw]
  rw[e1];exact qgk h hk hi hw.1 hw.2 j1
 ·exact qev h hk hi hl hw j1 t1
def qi3 (h0:Aq w o y S)(hk:S.ok)(hi:i<S.Au.length) :
  Ab ARt 25 #[ptr y.sb,I Z i] w fun e w'=>e=O (Aj #[I Z (S.AL i).v,I Z (S.AL i).e])/\Bl y (S.AL i).S o w w':=by
 have gD:∀ (fn:Fn)(first cap:Array Ac)(w:Aa),(Ai fn first cap).run ARt w=.ok (.func fn first cap) w:=fun _ _ _ _=>rfl
 obtain⟨o1,ho1⟩:∃ o1,o1=ext o w.1.size (y.l.id+1,0):=⟨_,rfl⟩;have h:=h0.retag (o':=o1) fun b hb=>by rw[ho1];exact qr hb
 have hS0:Stp (qo y) o o1 w w:=by rw[ho1];exact (Stp.refl _ o w).ext _ _ (Qk _)
 have hbx:o1 w.1.size=(y.l.id+1,0):=by rw[ho1];exact qz (Qk _)
 clear ho1 h0;have j1:=Al.new w #[ptr y.sb] 24;have HD:=Qa (xa 78 [ptr w.1.size] (h.below (qc (qd w) (ARu #[ptr y.sb] 24))) hk hi qln (S.AY i) (fun hl=>Wv hk hi hl)
  (fun hl w1 o2 hb he2 hS=>qjf hS hk hi hl (j1.below hb j1.lt) ((he2 _ j1.lt).trans hbx)))
 have HS:=Qa (hS0.trans (Stp.of_below (qc (qd w) (ARu #[ptr y.sb] 24))));unfold An.AL;generalize S.AG i (S.AY i)=R at *;clear h hbx hS0 j1 hk hi;go_enter func25,ntmps25;go_wp2_with fail;refine HD.out.mono ?_
 rintro e w2⟨rfl,o2,hS2,hs2⟩
 go_wp2_with fail;go_ret2;exact⟨rfl,o2,hS2,HS.out.trans hs2⟩
def qll (h:Aq w o y S)(hk:S.ok)(hi:i<S.Au.length) :
  Ab ARt 20 #[ptr y.sb,I Z i] w fun e w'=>e=O (I Z (S.CO i).2)/\Bl y (S.CO i).1 o w w':=by
 have HT:=Qa (yf h hk (An.AV hi));have HA:=Qa (YC h hk hi);have H:=Qa h;unfold An.CO;clear h hk hi
 cases hl:(S.t i).live
 ·rw[hl]at HT
  simp only[if_false,Bool.false_eq_true]at HT ⊢;have hfin:=Qa H.out.DK;clear hl HA H;go_enter func20,ntmps20;go_wp2_with fail;refine HT.out.mono ?_;rintro e w1⟨rfl,rfl⟩;go_wp2_with fail;go_ret;exact⟨rfl,hfin.out⟩
 ·rw[hl]at HT
  simp only[if_true]at HT ⊢;generalize S.abort i=S2 at *;clear hl H;go_enter func20,ntmps20;go_wp2_with fail;refine HT.out.mono ?_;rintro e w1⟨rfl,rfl⟩;go_wp2_with fail;refine HA.out.mono ?_;rintro e w2⟨rfl,hl2⟩;go_wp2_with fail;go_ret;exact⟨rfl,hl2⟩
def Aq.DW (h:Aq w o y S)(h1:1<=S.Au.length):∃ g cap,y.EM=Ah (some ⟨g,0,none⟩) S.Au.length cap/\(∀ k,k<S.Au.length->w.cell? ⟨g,k,none⟩=some (ptr (y.xb k)))/\S.Au.length<=cap:=by
 obtain⟨g,cap,e,_,hc⟩:=h.DD 0 (by omega)
 refine⟨g,cap,e,fun k hk=>?_,hc⟩
 obtain⟨g',cap',e',hk',_⟩:=h.DD k hk;rw[e]at e';injection e' with e1 _ _;injection e1 with e1;injection e1 with e1 _ _;rw[e1];exact hk'
def qlq (h:Aq w o y S)(hk:S.ok)(hi:i<S.Au.length)(hl:(S.t i).live=true) :
  Ab ARt 16 #[ptr y.sb,I Z i] w fun e w'=>e=O (I Z 140)/\w=w':=by
 have HT:=Qa (Uw h hk hi);obtain⟨vt,jx,_⟩:=(h.Au i _ (An.AV hi)).AM;unfold zw at jx;have c:=jx.cell;rw[hl]at c;clear h hk hi;go_enter func16,ntmps16;go_wp2_with fail;refine HT.out.mono ?_
 rintro e w1⟨rfl,rfl⟩
 go_wp2_with fail;go_ret;exact⟨rfl,rfl⟩
def FO (l:List Tx)(k n:Nat):Prop:=k<=l.length/\n=kp (l.take k)/\n<=k
def FO.z (l:List Tx):FO l 0 0:=⟨af _,rfl,Qk _⟩
def XV (l:List Tx)(z:Tx):kp (l++[z])=kp l+if z.live then 1 else 0:=by
 unfold kp;rw[List.filter_append,Qd]
 cases hz:z.live<;>simp[hz]
def FO.t {l:List Tx}{k n:Nat}(h:FO l k n){z:Tx}(hz:l[k]?=some z)(hl:z.live=true):FO l (k+1) (n+1):=by
 obtain⟨hk,he⟩:=Qc.1 hz;refine⟨hk,?_,by have:=h.2.2;omega⟩
 rw[aa hk,XV,he,hl,if_pos rfl,<-h.2.1]
def FO.f {l:List Tx}{k n:Nat}(h:FO l k n){z:Tx}(hz:l[k]?=some z)(hl:z.live=false):FO l (k+1) n:=by
 obtain⟨hk,he⟩:=Qc.1 hz;refine⟨hk,?_,by have:=h.2.2;omega⟩
 rw[aa hk,XV,he,hl,if_neg (by simp),<-h.2.1];rfl
def FO.e {l:List Tx}{n:Nat}(h:FO l l.length n):n=kp l:=by have:=h.2.1;rwa [Ad]at this
def F6 (h:Aq w o y S)(hk:S.ok)(hi:i<S.Au.length)(hl:(S.t i).live=false) :
  Ab ARt 16 #[ptr y.sb,I Z i] w fun e w'=>e=O (I Z (S.AW i).2)/\Bl y (S.AW i).1 o w w':=by
 have hx:=An.AV hi;have HB1:=Qa (fun (hm:S.now+(kp S.Au+1)<=S.most)=>show S.AW i=(S.tx i ((S.t i).begun S.now S.next),0) from by unfold An.AW;rw[if_neg (by rw[hl];simp),if_pos hm])
 have HB2:=Qa (fun (hm:¬S.now+(kp S.Au+1)<=S.most)=>show S.AW i=(S,120) from by unfold An.AW;rw[if_neg (by rw[hl];simp),if_neg hm])
 generalize S.AW i=R at *;have HT:=Qa (Uw h hk hi);have HI:=Qa h;have HX:=Qa (h.Au i _ hx);obtain⟨vt,jx,hrow⟩:=(h.Au i _ hx).AM;unfold zw at jx;have iR:=Qa hrow;have cx:=jx.cell;rw[hl]at cx;obtain⟨g,cap,ev,hcs,hcap⟩:=h.DW hk.t1;obtain⟨vq,v14,v15,jb,_⟩:=h.AM;unfold qw at jb;rw[ev]at jb;have c:=jb.cell;have hn1:=hk.n1;have hn2:=hk.n2;have h8:=hk.t8;have HM:=Qa (fun (k:Nat)(hk:k<=9)=>LN h.ck (k:Int) (by omega) (by omega) (by omega) (by omega))
 have HMd:=Qa (fun (k:Nat)(hk:S.now+k<=S.most)=>show decide ((k:Int)<=(S.most:Int)-(S.now:Int))=true from by rw[decide_eq_true_eq];omega)
 have HMn:=Qa (fun (k:Nat)(hk:¬S.now+k<=S.most)=>show decide ((k:Int)<=(S.most:Int)-(S.now:Int))=false from by rw[decide_eq_false_iff_not];omega)
 have HN:=Qa (fun w' (hw:Ae w.1.size w w')=>qmx (h.ck.below hw h.ck.lt))
 have HXS:=Qa (fun k (hk:k<S.Au.length)=>show ∃ z,S.Au[k]?=some z/\∃ vt,(∀ j,w.cell? ⟨y.xb k,j,none⟩=(#[I Z k,.bool z.live,I Z z.start,I Z z.seen,ptr (y.lb k),vt]:Array Ac)[j]?) from by
  obtain⟨vt,jz,_⟩:=(h.Au k _ (Qb hk)).AM;exact⟨S.Au[k],Qb hk,vt,jz.cell⟩)
 have hcs:=Qa hcs;clear h hk hi hx hn1 hn2 hrow;go_enter func16,ntmps16;go_wp2_with fail;refine HT.out.mono ?_
 rintro e w1 ⟨rfl,rfl⟩
 go_wp2_with fail;go_loopw [25,6,8] (fun ix cn _ wr=>∃ k n:Nat,ix=I Z k/\cn=I Z n/\FO S.Au k n/\wr=w) (fun ix _ _ _=>S.Au.length-(intOf ix).toNat)
 case atStart=>exact⟨0,0,rfl,rfl,FO.z _,rfl⟩
 case round =>
  obtain⟨k,n,rfl,rfl,hJ,rfl⟩:=hrel;have HJ:=Qa hJ;have hkl:=hJ.1;have hnk:=hJ.2.2;clear hJ;by_cases hlt:k<S.Au.length
  ·have ck:=hcs.out k hlt
   obtain⟨z,hz,vz,cz⟩:=HXS.out k hlt;have hI:(k:Int)<(S.Au.length:Int):=by omega
   cases hzl:z.live
   ·rw[hzl]at cz
    have HJ2:=Qa (HJ.out.f hz hzl);clear hz hzl;go_wp2_with fail;go_roundw
    case rel=>exact⟨k+1,n,by simp,rfl,HJ2.out,trivial⟩
    case measure=>simp[intOf];omega
   ·rw[hzl]at cz
    have tZ:(n:Int)<9:=by omega
    have HJ2:=Qa (HJ.out.t hz hzl);clear hz hzl;go_wp2_with fail;go_roundw
    case rel=>exact⟨k+1,n+1,by simp,by simp,HJ2.out,trivial⟩
    case measure=>simp[intOf];omega
  ·obtain rfl:k=S.Au.length:=by omega
   have tZ:(n:Int)<9:=by omega
   have hne:=HJ.out.e;have eH:=Qa (HM.out (n+1) (by omega))
   by_cases hm:S.now+(n+1)<=S.most
   ·rw[HMd.out (n+1) hm,show ((n+1:Nat):Int)=(n:Int)+1 from by omega]at eH
    have HR:=Qa (HB1.out (by rw[<-hne];exact hm))
    clear hm hne;go_wp2_with fail;refine eH.out.mono ?_;rintro e w2 ⟨rfl,hb2⟩;have jx2:=jx.below hb2 jx.lt;rw[hl]at jx2;have nK:=jb.below hb2 jb.lt;clear cx c eH;have cx:=jx2.cell;have zx:=jx2.free;have sx:=jx2.lt;have c:=nK.cell;have sb:=nK.lt;have nsb:y.sb≠y.xb i:=fun e=>by have h1:=HI.out.os;rw[e,HX.out.ob]at h1;injection h1 with _ h1;omega
    have wQ:=Qa (HN.out w2.drew (qf hb2));have hfin:=Qa (show Bl y (S.tx i ((S.t i).begun S.now S.next)) o wr (((w2.setCell ⟨y.xb i,1,none⟩ (.bool true)).setCell ⟨y.xb i,2,none⟩ (I Z S.now)).setCell ⟨y.xb i,3,none⟩ (I Z S.next)).drew from by
     have ob:=HX.out.ob;have hs0:Stp (fun t=>t=(y.l.id,16+8*i)) o o w2 (((w2.setCell ⟨y.xb i,1,none⟩ (.bool true)).setCell ⟨y.xb i,2,none⟩ (I Z S.now)).setCell ⟨y.xb i,3,none⟩ (I Z S.next)).drew:=
      ((((Stp.refl _ o w2).setCell (by show o (y.xb i)=_;exact ob) _).setCell (by show o (y.xb i)=_;exact ob) _).setCell (by show o (y.xb i)=_;exact ob) _).drew
     have hs:Stp (pj y i) o o wr _:=(Stp.of_below hb2).trans (hs0.mono (by rintro _ rfl;exact⟨rfl,by simp,by simp⟩))
     obtain⟨vr,vk,vh,vu,hlg⟩:=HX.out.log;refine⟨o,HI.out.tx ⟨⟨vt,qj (((jx2.set 1 _).set 2 _).set 3 _),(iR.out.below hb2).Ao hs0 (by simp)⟩,⟨vr,vk,vh,vu,(hlg.below hb2).Ao hs0 fun j hj=>by simp;omega⟩,ob⟩ hs,hs.mono fun _=>To⟩)
    go_upto_region 13 with fail;go_region_with (first|(go_at_call 54;refine wQ.out.mono ?_;rintro e w3 ⟨rfl,rfl⟩)|fail)
    all_goals
     go_wp2_with fail;go_ret;rw[HR.out];exact⟨rfl,hfin.out⟩
   ·rw[HMn.out (n+1) hm,show ((n+1:Nat):Int)=(n:Int)+1 from by omega]at eH
    have HR:=Qa (HB2.out (by rw[<-hne];exact hm))
    have HL:=Qa (fun W (hb:Ae wr.1.size wr W)=>HI.out.D1 hb);clear hm hne;go_wp2_with fail;refine eH.out.mono ?_;rintro e w2 ⟨rfl,hb2⟩;go_wp2_with fail;go_ret;rw[HR.out];exact⟨rfl,HL.out _ hb2⟩
def qkn (h:Aq w o y S)(hk:S.ok)(hi:i<S.Au.length) :
  Ab ARt 16 #[ptr y.sb,I Z i] w fun e w'=>e=O (I Z (S.AW i).2)/\Bl y (S.AW i).1 o w w':=by
 cases hl:(S.t i).live with
 | false=>exact F6 h hk hi hl
 | true =>
  have e1:S.AW i=(S,140):=by unfold An.AW;rw[if_pos hl]
  rw[e1];refine (qlq h hk hi hl).mono ?_;rintro e w'⟨rfl,rfl⟩;exact⟨rfl,h.DK⟩
end
end
section
open Go.RowKit Hp
def Inv (S:An):Prop:=S.ok
def Inv.ok {S:An}(h:Inv S):S.ok:=h
def An.Dg (S:An)(i:Nat):Bool:=decide (i<S.Au.length)
def jj {S:An}{i:Nat}(h:S.Dg i=true):i<S.Au.length:=of_decide_eq_true h
def Ea (_:An)(_:Nat):Prop:=True
section
variable {w w' : Aa} {o o' : Own} {y : A6} {S : An} {i : Nat}
def Left (y:A6)(S:An)(o:Own)(w w':Aa):Prop:=∃ o',Aq w' o' y S/\Inv S/\Stp (qo y) o o' w w'
def Bl.left (h:Bl y S o w w')(hk:S.ok):Left y S o w w':=by
 obtain⟨o',h1,h2⟩:=h;exact⟨o',h1,hk,h2⟩
def LK (h:Aq w o y S)(hI:Inv S)(hc:S.Dg i=true){p:Nat}(_:Ea S p)(j:Nat)(v:Int)(hv:-9223372036854775808<=v/\v<=9223372036854775807) :
  Ab ARt 48 #[ptr y.sb,I Z i,I Z p,I Z j,I Z v] w fun e w'=>e=O (I Z (S.write i p j v).e)/\Left y (S.write i p j v).S o w w':=
 (qjx h hI (jj hc) p j v hv).mono fun _ _⟨a,b⟩=>⟨a,b.left (Good.Bs hI (jj hc) (df hI (jj hc) p j hv)).1⟩
def Sf (h:Aq w o y S)(hI:Inv S)(hc:S.Dg i=true){p q:Nat}(_:Ea S p)(_:Ea S q)(j:Nat) :
  Ab ARt 49 #[ptr y.sb,I Z i,I Z p,I Z j,I Z q] w fun e w'=>e=O (I Z (S.put i p j q).e)/\Left y (S.put i p j q).S o w w':=
 (KM h hI (jj hc) p j q).mono fun _ _⟨a,b⟩=>⟨a,b.left (Good.Bs hI (jj hc) (Uo hI (jj hc) p j q)).1⟩
def PL (h:Aq w o y S)(hI:Inv S)(hc:S.Dg i=true){p:Nat}(_:Ea S p)(j:Nat) :
  Ab ARt 24 #[ptr y.sb,I Z i,I Z p,I Z j] w fun e w'=>e=O (Aj #[I Z (S.read i p j).v,I Z (S.read i p j).e])/\Left y (S.read i p j).S o w w':=
 (qnj h hI (jj hc) p j).mono fun _ _⟨a,b⟩=>⟨a,b.left (Good.Bs hI (jj hc) (tu hI (jj hc) p j)).1⟩
def Se (h:Aq w o y S)(hI:Inv S)(hc:S.Dg i=true){p:Nat}(_:Ea S p)(j:Nat) :
  Ab ARt 57 #[ptr y.sb,I Z i,I Z p,I Z j] w fun e w'=>e=O (Aj #[I Z (S.get i p j).v,I Z (S.get i p j).e])/\Left y (S.get i p j).S o w w':=
 (KI h hI (jj hc) p j).mono fun _ _⟨a,b⟩=>⟨a,b.left (Good.Bs hI (jj hc) (Ur hI (jj hc) p j)).1⟩
def PH (h:Aq w o y S)(hI:Inv S)(hc:S.Dg i=true){p:Nat}(_:Ea S p) :
  Ab ARt 56 #[ptr y.sb,I Z i,I Z p] w fun e w'=>e=O (I Z (S.free i p).e)/\Left y (S.free i p).S o w w':=
 (qnn h hI (jj hc) p).mono fun _ _⟨a,b⟩=>⟨a,b.left (Good.Bs hI (jj hc) (sy hI (jj hc) p)).1⟩
def qmz (h:Aq w o y S)(hI:Inv S)(hc:S.Dg i=true)(s:BX)(hs:s.ok)(hwk:s.Az=false) :
  Ab ARt 47 #[ptr y.sb,I Z i,kw s] w fun e w'=>e=O (Aj #[I Z (S.alloc i s).v,I Z (S.alloc i s).e])/\Left y (S.alloc i s).S o w w':=
 (qj2 h hI (jj hc) s hs hwk).mono fun _ _⟨a,b⟩=>⟨a,b.left (Good.Bs hI (jj hc) (pc hI (jj hc) hs)).1⟩
def PN (h:Aq w o y S)(hI:Inv S)(hc:S.Dg i=true){q:Nat}(_:Ea S q) :
  Ab ARt 217 #[ptr y.sb,I Z i,I Z q] w fun e w'=>e=O (Aj #[I Z (S.Az i q).v,I Z (S.Az i q).e])/\Left y (S.Az i q).S o w w':=
 (qoa h hI (jj hc) q).mono fun _ _⟨a,b⟩=>⟨a,b.left (Good.Bs hI (jj hc) (tq hI (jj hc) q)).1⟩
def PK (h:Aq w o y S)(hI:Inv S)(hc:S.Dg i=true){p:Nat}(_:Ea S p) :
  Ab ARt 218 #[ptr y.sb,I Z i,I Z p] w fun e w'=>e=O (Aj #[I Z (S.load i p).v,I Z (S.load i p).e])/\Left y (S.load i p).S o w w':=
 (qo7 h hI (jj hc) p).mono fun _ _⟨a,b⟩=>⟨a,b.left (Good.Bs hI (jj hc) (lf hI (jj hc) p)).1⟩
def PM (h:Aq w o y S)(hI:Inv S)(hc:S.Dg i=true) :
  Ab ARt 59 #[ptr y.sb,I Z i] w fun e w'=>e=O (Aj #[I Z (S.take i).v,I Z (S.take i).e])/\Left y (S.take i).S o w w':=
 (qnq h hI (jj hc)).mono fun _ _⟨a,b⟩=>⟨a,b.left (Good.Bs hI (jj hc) (r7 hI (jj hc))).1⟩
def qhv (h:Aq w o y S)(hI:Inv S)(hc:S.Dg i=true) :
  Ab ARt 25 #[ptr y.sb,I Z i] w fun e w'=>e=O (Aj #[I Z (S.AL i).v,I Z (S.AL i).e])/\Left y (S.AL i).S o w w':=
 (qi3 h hI (jj hc)).mono fun _ _⟨a,b⟩=>⟨a,b.left (WY hI (jj hc)).1⟩
def qmw (h:Aq w o y S)(hI:Inv S)(hi:i<S.Au.length) :
  Ab ARt 16 #[ptr y.sb,I Z i] w fun e w'=>e=O (I Z (S.AW i).2)/\Left y (S.AW i).1 o w w':=
 (qkn h hI hi).mono fun _ _⟨a,b⟩=>⟨a,b.left (YA hI hi)⟩
def LJ (h:Aq w o y S)(hI:Inv S)(hi:i<S.Au.length) :
  Ab ARt 20 #[ptr y.sb,I Z i] w fun e w'=>e=O (I Z (S.CO i).2)/\Left y (S.CO i).1 o w w':=
 (qll h hI hi).mono fun _ _⟨a,b⟩=>⟨a,b.left (qoe hI hi)⟩
def PI (h:Aq w o y S)(hI:Inv S)(hi:i<S.Au.length) :
  Ab ARt 21 #[ptr y.sb,I Z i] w fun e w'=>e=O (Aj #[I Z (if (S.t i).live then ((S.t i).start:Int) else 0),.bool (S.t i).live])/\w=w':=
 MD h hI (An.AV hi)
end
end
section
open Go.RowKit Hp
attribute [local go_sem ↓] Go.wp_at_zero Go.wp_at_succ
section
variable {w w' : Aa} {o o' : Own} {y : A6} {S : An} {i : Nat}
def An.Cw (S:An)(p:Nat):Nat:=if p=0 then 0 else (S.H.C2 p).1
def qi4 (h:Aq w o y S)(hk:S.ok){p:Nat}(_:Ea S p) :
  Ab ARt 216 #[ptr y.sb,I Z p] w fun e w'=>e=O (I Z (S.Cw p))/\Ae w.1.size w w':=by
 unfold An.Cw;by_cases h0:p=0
 ·subst h0
  rw[if_pos rfl];clear h hk;go_enter func216,ntmps216;go_wp2_with fail;go_ret;exact⟨rfl,qd w⟩
 ·rw[if_neg h0]
  have HS:=Qa (qlp h hk p);have hpb:((p:Int)==0)=false:=by rw[Qh];omega
  generalize S.H.C2 p=r at *;clear h hk h0;go_enter func216,ntmps216;go_wp2_with fail;refine HS.out.mono ?_;rintro e w1⟨rfl,hb1⟩;go_wp2_with fail;go_ret;exact⟨rfl,hb1⟩
end
def bc (h:AE)(a:Option Addr)(n c:Nat)(w:Aa) :
  Ab ARt 96 #[.slice a n c,h.v] w fun e w'=>e=O (.bool (decide (h.b<0)||decide ((n:Int)<=h.b)))/\Ae w.1.size w w':=by
 obtain⟨hb,hn,⟨a0,a1,a2,a3,a4,a5⟩,⟨s0,s1,s2,s3,s4,s5⟩,hl⟩:=h;show Ab _ _ #[.slice a n c,Ak #[I Z hb,I Z hn,I Z a0,I Z a1,I Z a2,I Z a3,I Z a4,I Z a5,I Z s0,I Z s1,I Z s2,I Z s3,I Z s4,I Z s5,.bool hl]] _ _;simp only;by_cases h0:hb<0
 ·rw[decide_eq_true h0,Bool.true_or]
  go_enter func96,ntmps96;go_wp2_with fail;go_ret;exact⟨rfl,qc (qd w) _⟩
 ·rw[decide_eq_false h0,Bool.false_or]
  by_cases h1:(n:Int)<=hb
  ·rw[decide_eq_true h1]
   go_enter func96,ntmps96;go_wp2_with fail;go_ret;exact⟨rfl,qc (qd w) _⟩
  ·rw[decide_eq_false h1]
   go_enter func96,ntmps96;go_wp2_with fail;go_ret;exact⟨rfl,qc (qd w) _⟩
def R6.get (r:R6):Nat->Int
 | 0=>r.a0|1=>r.a1|2=>r.a2|3=>r.a3|4=>r.a4|_=>r.a5
def R6.set (r:R6)(v:Int):Nat->R6
 | 0=>{ r with a0:=v }|1=>{ r with a1:=v }|2=>{ r with a2:=v }|3=>{ r with a3:=v }|4=>{ r with a4:=v }|_=>{ r with a5:=v }
def AE.put (h:AE)(A:Nat)(v:Int):AE:={ h with r:=h.r.set v A }
def six {A:Nat}(h:A<6):A=0\/A=1\/A=2\/A=3\/A=4\/A=5:=by omega
def VM {w:Aa}{b:Nat}{t:TypeId}{h:AE}(j:Al w b h.cells t){A:Nat}(hA:A<6)(v:Int):Al (w.setCell ⟨b,2+A,none⟩ (I Z v)) b (h.put A v).cells t:=by
 have e1:∀ x,x=(h.put A v).cells->Al (w.setCell ⟨b,2+A,none⟩ (I Z v)) b x t->Al (w.setCell ⟨b,2+A,none⟩ (I Z v)) b (h.put A v).cells t:=fun x e k=>by rw[<-e];exact k
 refine e1 _ ?_ (j.set (2+A) (I Z v));rcases six hA with rfl|rfl|rfl|rfl|rfl|rfl
 all_goals simp only[AE.cells,AE.put,R6.set,List.setIfInBounds_toArray,List.set_cons_zero,List.set_cons_succ,Nat.reduceAdd]
def ki {w:Aa}{b:Nat}{t:TypeId}{h:AE}(j:Al w b h.cells t){A:Nat}(hA:A<6):w.cell? ⟨b,2+A,none⟩=some (I Z (h.r.get A)):=by
 rw[j.cell];rcases six hA with rfl|rfl|rfl|rfl|rfl|rfl<;>rfl
def WI {w:Aa}{b c i j:Nat}{v x:Ac}(h:w.cell? ⟨c,j,none⟩=some v)(hne:c≠b):(w.setCell ⟨b,i,none⟩ x).cell? ⟨c,j,none⟩=some v:=by
 rw[World.cell?_of_block (w:=w) (Below.heap_setCell _ _ _ _ hne)];exact h
def wh {T:Tag->Prop}{o o':Own}{w W:Aa}{b6 b7:Nat}(h1:Stp T o o' w W)(h6:w.1.size<=b6)(h7:w.1.size<=b7)(h:AE)(a:A0):Stp T o o' w (jy W b6 b7 h a):=((((((((((((((((((h1.setCell_new (a:=⟨b6,0,none⟩) h6 _).setCell_new (a:=⟨b6,1,none⟩) h6 _).setCell_new (a:=⟨b6,2,none⟩) h6 _).setCell_new (a:=⟨b6,3,none⟩) h6 _).setCell_new (a:=⟨b6,4,none⟩) h6 _).setCell_new (a:=⟨b6,5,none⟩) h6 _).setCell_new (a:=⟨b6,6,none⟩) h6 _).setCell_new (a:=⟨b6,7,none⟩) h6 _).setCell_new (a:=⟨b6,8,none⟩) h6 _).setCell_new (a:=⟨b6,9,none⟩) h6 _).setCell_new (a:=⟨b6,10,none⟩) h6 _).setCell_new (a:=⟨b6,11,none⟩) h6 _).setCell_new (a:=⟨b6,12,none⟩) h6 _).setCell_new (a:=⟨b6,13,none⟩) h6 _).setCell_new (a:=⟨b6,14,none⟩) h6 _).setCell_new (a:=⟨b7,0,none⟩) h7 _).setCell_new (a:=⟨b7,1,none⟩) h7 _).setCell_new (a:=⟨b7,2,none⟩) h7 _)
def Wr.Bb {b:Nat}{w W:Aa}(h:Wr b w W){a:Addr}(ha:w.1.size<=a.block)(v:Ac):Wr b w (W.setCell a v):=
 ⟨h.os,h.tape,h.output,by rw[World.size_setCell];exact h.size,fun k hk hn=>(Below.heap_setCell _ _ _ _ (show k≠a.block by omega)).trans (h.block k hk hn)⟩
def Stp.CK {T:Tag->Prop}{o o':Own}{b:Nat}{w W W':Aa}(h:Stp T o o' w W)(k:Wr b W W')(hb:w.1.size<=b):Stp T o o' w W':=
 ⟨k.os.trans h.os,k.tape.trans h.tape,k.output.trans h.output,Qo h.size k.size,h.tags,fun j hj hn=>(k.block j (Qn hj h.size) (by omega)).trans (h.block j hj hn)⟩
def Q4 {b:Nat} {w W:Aa} {b6 b7:Nat} (h1:Wr b w W) (h6:w.1.size<=b6) (h7:w.1.size<=b7) (h:AE) (a:A0):Wr b w (jy W b6 b7 h a):=(Wr.Bb (Wr.Bb (Wr.Bb (Wr.Bb (Wr.Bb (Wr.Bb (Wr.Bb (Wr.Bb (Wr.Bb (Wr.Bb (Wr.Bb (Wr.Bb (Wr.Bb (Wr.Bb (Wr.Bb (Wr.Bb (Wr.Bb (Wr.Bb h1 (a:=⟨b6,0,none⟩) h6 _) (a:=⟨b6,1,none⟩) h6 _) (a:=⟨b6,2,none⟩) h6 _) (a:=⟨b6,3,none⟩) h6 _) (a:=⟨b6,4,none⟩) h6 _) (a:=⟨b6,5,none⟩) h6 _) (a:=⟨b6,6,none⟩) h6 _) (a:=⟨b6,7,none⟩) h6 _) (a:=⟨b6,8,none⟩) h6 _) (a:=⟨b6,9,none⟩) h6 _) (a:=⟨b6,10,none⟩) h6 _) (a:=⟨b6,11,none⟩) h6 _) (a:=⟨b6,12,none⟩) h6 _) (a:=⟨b6,13,none⟩) h6 _) (a:=⟨b6,14,none⟩) h6 _) (a:=⟨b7,0,none⟩) h7 _) (a:=⟨b7,1,none⟩) h7 _) (a:=⟨b7,2,none⟩) h7 _)
structure As where
 k:Int
 A:Nat
 B:Nat
 i:Int
 n:Int
def As.cells (d:As):Array Ac:=#[I Z d.k,I Z d.A,I Z d.B,I Z d.i,I Z d.n]
def As.v (d:As):Ac:=.agg d.cells
def AE.Pj (h:AE)(A:Nat)(p e:Int):AE:=if e=0 then (h.put A p).ended 0 else h.ended e
def ED (s e:Int):A0:=if e=0 then ws s 0 else ws 0 e
def CL (y:A6)(t:Tag):Prop:=t=(y.l.id+1,0)
def pw {y:A6}{t:Tag}(h:CL y t):¬qo y t:=by rw[h];exact qy y
def Aq.bx {w w':Aa}{o o':Own}{y:A6}{S:An}(h:Aq w o y S)(hs:Stp (CL y) o o' w w'):Aq w' o' y S:=h.Ao hs fun j e=>by
 have e:(y.l.id,j)=(y.l.id+1,0):=e;injection e with e1 e2;omega
def ya (W:Aa)(b6 b7:Nat){y:A6}{o:Own}(h6:CL y (o b6))(h7:CL y (o b7))(h:AE)(a:A0):Stp (CL y) o o W (jy W b6 b7 h a):=(((((((((((((((((((Stp.refl _ o W).setCell (a:=⟨b6,0,none⟩) h6 _).setCell (a:=⟨b6,1,none⟩) h6 _).setCell (a:=⟨b6,2,none⟩) h6 _).setCell (a:=⟨b6,3,none⟩) h6 _).setCell (a:=⟨b6,4,none⟩) h6 _).setCell (a:=⟨b6,5,none⟩) h6 _).setCell (a:=⟨b6,6,none⟩) h6 _).setCell (a:=⟨b6,7,none⟩) h6 _).setCell (a:=⟨b6,8,none⟩) h6 _).setCell (a:=⟨b6,9,none⟩) h6 _).setCell (a:=⟨b6,10,none⟩) h6 _).setCell (a:=⟨b6,11,none⟩) h6 _).setCell (a:=⟨b6,12,none⟩) h6 _).setCell (a:=⟨b6,13,none⟩) h6 _).setCell (a:=⟨b6,14,none⟩) h6 _).setCell (a:=⟨b7,0,none⟩) h7 _).setCell (a:=⟨b7,1,none⟩) h7 _).setCell (a:=⟨b7,2,none⟩) h7 _)
section
variable {w w' : Aa} {o o' : Own} {y : A6} {S : An}
def QI (h:AE) (p e:Int) (he:e≠0) (hn:0<=h.n/\h.n<=4096) (hb:0<=h.b/\h.b<=4096) (w:Aa) {b10 b7 b6 b4:Nat}
  (j10:Al w b10 #[.func (.func 213) #[] #[ptr b7]] 295) (j7:Al w b7 h.cells 58) :
  Ab ARt 215 #[I Z p,I Z e,ptr b10,ptr b7,ptr b6,ptr b4] w fun e' w'=>e'=O (Aj #[(h.ended e).v,(ws 0 e).val])/\Ae w.1.size w w':=by
 have HT:=Qa (fun W (hW:Ae w.1.size w W)=>mn h 0 e hn hb W (j7.below hW j7.lt))
 have heb:(e != 0)=true:=by rw[bne_iff_ne];exact he
 have LI:=j10.cell;have l10:=j10.lt;generalize h.ended e=h' at *;generalize ws 0 e=a' at *;clear hn hb he j7;obtain⟨b',n',⟨r0,r1,r2,r3,r4,r5⟩,⟨p0,p1,p2,p3,p4,p5⟩,hl'⟩:=h';obtain⟨ak,ae,av⟩:=a';have HT:=Qa (fun W hW=>show Ab ARt 213 #[I Z 0,I Z e,ptr b7] W fun e' w'=>e'=O (Aj #[Ak #[I Z b',I Z n',I Z r0,I Z r1,I Z r2,I Z r3,I Z r4,I Z r5,I Z p0,I Z p1,I Z p2,I Z p3,I Z p4,I Z p5,.bool hl'],Ak #[I Z ak,I Z ae,I Z av]])/\Ae W.1.size W w' from HT.out W hW)
 clear j10;go_enter func215,ntmps215;go_wp2_with fail;refine (HT.out _ (qc (qc (qd w) _) _)).mono ?_
 rintro e1 w1 ⟨rfl,hb1⟩
 have j5:=(Al.Ap w (AE.cells ⟨0,0,⟨0,0,0,0,0,0⟩,⟨0,0,0,0,0,0⟩,false⟩) _ 58 w.1.size rfl rfl).alloc (ARu #[I Z 0,I Z 0,I Z 0] 54);have j6:Al _ (w.1.size+1) EN 54:=Al.Ap (w.alloc (.cells (AE.cells ⟨0,0,⟨0,0,0,0,0,0⟩,⟨0,0,0,0,0,0⟩,false⟩) 58)) #[I Z 0,I Z 0,I Z 0] EN 54 (w.1.size+1) (by simp) rfl
 replace j5:=j5.below hb1 j5.lt;replace j6:=j6.below hb1 j6.lt;have hb2:=qe (qc (qc (qd w) _) _) hb1;have c5:=j5.cell;unfold AE.cells at c5;have z5:=j5.free;have l5:=j5.lt;have c6:=j6.cell;unfold EN at c6;have z6:=j6.free;have l6:=j6.lt;have hres:=Qa (jt j5 j6 (by omega) ⟨b',n',⟨r0,r1,r2,r3,r4,r5⟩,⟨p0,p1,p2,p3,p4,p5⟩,hl'⟩ ⟨ak,ae,av⟩)
 have hrb:=Qa (xy hb2 (b6:=w.1.size) (b7:=w.1.size+1) (by omega) (by omega) ⟨b',n',⟨r0,r1,r2,r3,r4,r5⟩,⟨p0,p1,p2,p3,p4,p5⟩,hl'⟩ ⟨ak,ae,av⟩)
 clear hb1 hb2 j5 j6 LI l10 HT;go_wp2_with fail;change bodyPost _ _ _ _ _ (jy w1 (w.1.size) (w.1.size+1) ⟨b',n',⟨r0,r1,r2,r3,r4,r5⟩,⟨p0,p1,p2,p3,p4,p5⟩,hl'⟩ ⟨ak,ae,av⟩);generalize jy w1 (w.1.size) (w.1.size+1) ⟨b',n',⟨r0,r1,r2,r3,r4,r5⟩,⟨p0,p1,p2,p3,p4,p5⟩,hl'⟩ ⟨ak,ae,av⟩=X at *;exact bodyPost_ret (ze _ _ 8 9 rfl rfl rfl hres.out.1 hres.out.2) rfl ⟨rfl,hrb.out⟩
def MC (hS:Aq w o y S) (hk:S.ok) (h:AE) (d:As) {p:Nat} (hp:Ea S p) (hA:d.A<6) (hn:0<=h.n/\h.n<=4096) (hb:0<=h.b/\h.b<=4096) {b10 b7 b6 b4:Nat}
  (j10:Al w b10 #[.func (.func 213) #[] #[ptr b7]] 295) (j7:Al w b7 h.cells 58) (j6:Al w b6 d.cells 73) (j4:Al w b4 #[ptr y.sb] 24) (t7:CL y (o b7)) (n10:b10≠b7) (n4:b4≠b7) :
  Ab ARt 215 #[I Z p,I Z 0,ptr b10,ptr b7,ptr b6,ptr b4] w fun e' w'=>e'=O (Aj #[((h.put d.A p).ended 0).v,(ws (S.Cw p) 0).val])/\Wr b7 w w':=by
 have hAI:(d.A:Int)<6:=by omega
 have c7:=j7.cell;have l7:=j7.lt;have z7:=j7.free;have c6:=j6.cell;unfold As.cells at c6;have l6:=j6.lt;have hr:=ki j7 hA;clear c7;obtain⟨h',hh'⟩:=Ja0 ((h.put d.A p).ended 0);obtain⟨a',ha'⟩:=Ja0 (ws (S.Cw p) 0);rw[<-hh',<-ha'];obtain⟨b',n',⟨r0,r1,r2,r3,r4,r5⟩,⟨p0,p1,p2,p3,p4,p5⟩,hl'⟩:=h';obtain⟨ak,ae,av⟩:=a';go_enter func215,ntmps215;go_upto_region 4 with fail;obtain⟨W,hW⟩:=Ja0 (((w.setCell ⟨b7,2+d.A,none⟩ (I Z p)).alloc (ARu #[I Z 0,I Z 0,I Z 0,I Z 0,I Z 0,I Z 0,I Z 0,I Z 0,I Z 0,I Z 0,I Z 0,I Z 0,I Z 0,I Z 0,.bool false] 58)).alloc (ARu #[I Z 0,I Z 0,I Z 0] 54));rw[<-hW];have cZ:Wr b7 w W:=by rw[hW];exact (Wr.set b7 w _ _).Bz (qc (qc (qd _) _) _)
 have hSW:=hS.bx (Stp.BE cZ t7);have i7:Al W b7 (h.put d.A p).cells 58:=by rw[hW];exact ((VM j7 hA p).alloc _).alloc _
 have i10:Al W b10 #[.func (.func 213) #[] #[ptr b7]] 295:=by rw[hW];exact ((j10.Am (a:=⟨b7,2+d.A,none⟩) n10 _).alloc _).alloc _
 have i4:Al W b4 #[ptr y.sb] 24:=by rw[hW];exact ((j4.Am (a:=⟨b7,2+d.A,none⟩) n4 _).alloc _).alloc _
 have i8:Al W w.1.size #[I Z 0,I Z 0,I Z 0,I Z 0,I Z 0,I Z 0,I Z 0,I Z 0,I Z 0,I Z 0,I Z 0,I Z 0,I Z 0,I Z 0,.bool false] 58:=by rw[hW];exact (Al.Ap _ _ _ _ _ (by simp) rfl).alloc _
 have i9:Al W (w.1.size+1) #[I Z 0,I Z 0,I Z 0] 54:=by rw[hW];exact Al.Ap _ _ _ _ _ (by simp) rfl
 have Ame:=Qa (fun X (hX:Ae W.1.size W X)=>qi4 (hSW.below hX) hk hp)
 have HT:=Qa (fun X (hX:Ae W.1.size W X)=>mn (h.put d.A p) (S.Cw p) 0 hn hb X (i7.below hX i7.lt))
 have oF:=Qa cZ;rw[<-hh',<-ha']at HT;generalize S.Cw p=sp at *;have HT:=Qa (fun X hX=>show Ab ARt 213 #[I Z sp,I Z 0,ptr b7] X fun e' w'=>e'=O (Aj #[Ak #[I Z b',I Z n',I Z r0,I Z r1,I Z r2,I Z r3,I Z r4,I Z r5,I Z p0,I Z p1,I Z p2,I Z p3,I Z p4,I Z p5,.bool hl'],Ak #[I Z ak,I Z ae,I Z av]])/\Ae X.1.size X w' from HT.out X hX)
 have N10:=Qa (show b10≠w.1.size/\b10≠w.1.size+1/\b4≠w.1.size/\b4≠w.1.size+1 from by have:=j10.lt;have:=j4.lt;omega)
 have H8:=Qa i8;have H9:=Qa i9;have H10:=Qa i10;have H4:=Qa i4;have LI:=i10.cell 0;have c4:=i4.cell 0;simp at LI c4;clear hh' ha' hW cZ hSW i7 i10 i4 i8 i9 hS hk hp hn hb j10 j7 j6 j4 t7 n10 n4 l7 z7 c6 l6 hr;go_region_held3 (fun w'=>w'.cell? ⟨b10,0,none⟩=some (.func (.func 213) #[] #[ptr b7])/\w'.cell? ⟨b4,0,none⟩=some (ptr y.sb)) (first|(refine⟨?_,?_⟩<;>with_reducible assumption)|go_keep|(refine⟨?_,?_⟩<;>(repeat (refine WI ?_ (by with_reducible assumption)))<;>with_reducible assumption)) (first
  | (go_at_call 216;refine (Ame.out _ (qf (qd W))).mono ?_;rintro e3 w3 ⟨rfl,hb3⟩;have hb3:=qe (qf (qd W)) hb3;have d10:=(H10.out.below hb3 H10.out.lt).cell 0;have d4:=(H4.out.below hb3 H4.out.lt).cell 0;simp at d10 d4)
  | (go_at_call 213;refine (HT.out _ hb3).mono ?_;rintro e5 w5 ⟨rfl,hb5⟩;have hb5:=qe hb3 hb5;have f10:=(H10.out.below hb5 H10.out.lt).cell 0;have f4:=(H4.out.below hb5 H4.out.lt).cell 0;simp at f10 f4;have k8:=H8.out.below hb5 H8.out.lt;have k9:=H9.out.below hb5 H9.out.lt;have c8:=k8.cell;have z8:=k8.free;have l8:=k8.lt;have c9:=k9.cell;have z9:=k9.free;have l9:=k9.lt;have hres:=Qa (jt k8 k9 (by omega) ⟨b',n',⟨r0,r1,r2,r3,r4,r5⟩,⟨p0,p1,p2,p3,p4,p5⟩,hl'⟩ ⟨ak,ae,av⟩);clear k8 k9;have m10:b10≠w.1.size:=N10.out.1;have AGj:b10≠w.1.size+1:=N10.out.2.1;have m4:b4≠w.1.size:=N10.out.2.2.1;have m4':b4≠w.1.size+1:=N10.out.2.2.2)
  | fail)
 go_wp2_with fail;change bodyPost _ _ _ _ _ (jy w5 (w.1.size) (w.1.size+1) ⟨b',n',⟨r0,r1,r2,r3,r4,r5⟩,⟨p0,p1,p2,p3,p4,p5⟩,hl'⟩ ⟨ak,ae,av⟩);have hrs:=Qa (Q4 (oF.out.Bz hb5) (b6:=w.1.size) (b7:=w.1.size+1) (by omega) (by omega) ⟨b',n',⟨r0,r1,r2,r3,r4,r5⟩,⟨p0,p1,p2,p3,p4,p5⟩,hl'⟩ ⟨ak,ae,av⟩)
 generalize jy w5 (w.1.size) (w.1.size+1) ⟨b',n',⟨r0,r1,r2,r3,r4,r5⟩,⟨p0,p1,p2,p3,p4,p5⟩,hl'⟩ ⟨ak,ae,av⟩=X at *;exact bodyPost_ret (ze _ _ 8 9 rfl rfl rfl hres.out.1 hres.out.2) rfl ⟨rfl,hrs.out⟩
def MB (R:BD)(hS:Aq w o y R.S)(hk:R.S.ok)(h:AE)(d:As)(hp:R.e=0->∃ p:Nat,R.v=p/\Ea R.S p)(hA:d.A<6)(hn:0<=h.n/\h.n<=4096)(hb:0<=h.b/\h.b<=4096){b10 b7 b6 b4:Nat}
  (j10:Al w b10 #[.func (.func 213) #[] #[ptr b7]] 295)(j7:Al w b7 h.cells 58)(j6:Al w b6 d.cells 73)(j4:Al w b4 #[ptr y.sb] 24)(t7:CL y (o b7))(n10:b10≠b7)(n4:b4≠b7) :
  Ab ARt 215 #[I Z R.v,I Z R.e,ptr b10,ptr b7,ptr b6,ptr b4] w fun e' w'=>e'=O (Aj #[(h.Pj d.A R.v R.e).v,(ED (R.S.Cw R.v.toNat) R.e).val])/\Wr b7 w w':=by
 obtain⟨S,v,e⟩:=R;simp only at hS hk hp ⊢;by_cases he:e=0
 ·obtain⟨p,rfl,hq⟩:=hp he
  subst he;exact MC hS hk h d hq hA hn hb j10 j7 j6 j4 t7 n10 n4
 ·have e1:h.Pj d.A v e=h.ended e:=by unfold AE.Pj;rw[if_neg he]
  have e2:ED (S.Cw v.toNat) e=ws 0 e:=by unfold ED;rw[if_neg he]
  rw[e1,e2];refine (QI h v e he hn hb w j10 j7).mono ?_;rintro e' w'⟨rfl,h1⟩;exact⟨rfl,Wr.of_below h1⟩
end
def Q8 (W:Aa)(b:Nat)(h:AE):Wr b W (CS W b h):=((((((((((((((((Wr.refl b W).trans (Wr.set b _ 0 _)).trans (Wr.set b _ 1 _)).trans (Wr.set b _ 2 _)).trans (Wr.set b _ 3 _)).trans (Wr.set b _ 4 _)).trans (Wr.set b _ 5 _)).trans (Wr.set b _ 6 _)).trans (Wr.set b _ 7 _)).trans (Wr.set b _ 8 _)).trans (Wr.set b _ 9 _)).trans (Wr.set b _ 10 _)).trans (Wr.set b _ 11 _)).trans (Wr.set b _ 12 _)).trans (Wr.set b _ 13 _)).trans (Wr.set b _ 14 _))
section
variable {w w' : Aa} {o o' : Own} {y : A6} {S : An} {i : Nat}
def qi1 (hS:Aq w o y S) (hI:Inv S) (hb hn a0 a1 a2 a3 a4 a5 s0 s1 s2 s3 s4 s5:Int) (hl:Bool) (A B:Nat) (fi fn:Int) (ra rb:Nat)
  (hi:i<S.Au.length) (hlv:(S.t i).live=true) (hA:A<6) (hB:B<6) (hra:R6.get ⟨a0,a1,a2,a3,a4,a5⟩ A=ra) (hrb:R6.get ⟨a0,a1,a2,a3,a4,a5⟩ B=rb) (hb0:0<=hb/\hb<=4096) :
  Ab ARt 154 #[ptr y.sb,I Z i,Ak #[I Z 14,I Z A,I Z B,I Z fi,I Z fn],Ak #[I Z hb,I Z hn,I Z a0,I Z a1,I Z a2,I Z a3,I Z a4,I Z a5,I Z s0,I Z s1,I Z s2,I Z s3,I Z s4,I Z s5,.bool hl]] w fun e' w'=>e'=O (Aj #[AE.v ⟨(hb+1),0,⟨s0,s1,s2,s3,s4,s5⟩,⟨s0,s1,s2,s3,s4,s5⟩,false⟩,A0.val ⟨2,0,0⟩])/\Left y (S.abort i) o w w':=by
 have gD:∀ (fn:Fn) (first cap:Array Ac) (w:Aa),(Ai fn first cap).run ARt w=.ok (.func fn first cap) w:=fun _ _ _ _=>rfl
 obtain⟨o1,ho1⟩:∃ o1,o1=ext o w.1.size (y.l.id+1,0):=⟨_,rfl⟩;have h1:=hS.retag (o':=o1) fun b hb=>by rw[ho1];exact qr hb
 have hS0:Stp (qo y) o o1 w w:=by rw[ho1];exact (Stp.refl _ o w).ext _ _ (Qk _)
 have hbx:∀ b,w.1.size<=b->CL y (o1 b):=fun b hb=>by rw[ho1];exact qz hb
 clear ho1 hS;obtain⟨W,hW⟩:=Ja0 ((((((w.alloc (ARu #[ptr y.sb] 24)).alloc (ARu #[I Z 14,I Z A,I Z B,I Z fi,I Z fn] 73)).alloc (ARu #[I Z hb,I Z hn,I Z a0,I Z a1,I Z a2,I Z a3,I Z a4,I Z a5,I Z s0,I Z s1,I Z s2,I Z s3,I Z s4,I Z s5,.bool hl] 58)).alloc (ARu #[I Z 0,I Z 0,I Z 0,I Z 0,I Z 0,I Z 0,I Z 0,I Z 0,I Z 0,I Z 0,I Z 0,I Z 0,I Z 0,I Z 0,.bool false] 58)).alloc (ARu #[I Z 0,I Z 0,I Z 0] 54)).alloc (ARu #[.func (.func 213) #[] #[ptr (w.1.size+1+1)]] 295));have hbW:Ae w.1.size w W:=by rw[hW];exact qc (qc (qc (qc (qc (qc (qd w) _) _) _) _) _) _
 have k0:Al W w.1.size #[ptr y.sb] 24:=by rw[hW];exact (((((Al.new w _ _).alloc _).alloc _).alloc _).alloc _).alloc _
 have k1:Al W (w.1.size+1) #[I Z 14,I Z A,I Z B,I Z fi,I Z fn] 73:=by rw[hW];exact ((((Al.Ap _ _ _ _ _ (by simp) rfl).alloc _).alloc _).alloc _).alloc _
 have k2:Al W (w.1.size+1+1) #[I Z hb,I Z hn,I Z a0,I Z a1,I Z a2,I Z a3,I Z a4,I Z a5,I Z s0,I Z s1,I Z s2,I Z s3,I Z s4,I Z s5,.bool hl] 58:=by rw[hW];exact (((Al.Ap _ _ _ _ _ (by simp) rfl).alloc _).alloc _).alloc _
 have k3:Al W (w.1.size+1+1+1) #[I Z 0,I Z 0,I Z 0,I Z 0,I Z 0,I Z 0,I Z 0,I Z 0,I Z 0,I Z 0,I Z 0,I Z 0,I Z 0,I Z 0,.bool false] 58:=by rw[hW];exact ((Al.Ap _ _ _ _ _ (by simp) rfl).alloc _).alloc _
 have k4:Al W (w.1.size+1+1+1+1) #[I Z 0,I Z 0,I Z 0] 54:=by rw[hW];exact (Al.Ap _ _ _ _ _ (by simp) rfl).alloc _
 have k5:Al W (w.1.size+1+1+1+1+1) #[.func (.func 213) #[] #[ptr (w.1.size+1+1)]] 295:=by rw[hW];exact Al.Ap _ _ _ _ _ (by simp) rfl
 have hSW:=h1.below hbW;have cZ:Stp (qo y) o o1 w W:=hS0.trans (Stp.of_below hbW);have AI:(A:Int)<6:=by omega
 have BI:(B:Int)<6:=by omega
 have HB:=Qa hbx;have HC:=Qa (fun X o2 (h2:Aq X o2 y S)=>by have:=LJ h2 hI hi;rw[show S.CO i=(S.abort i,0) from if_pos hlv]at this;exact this)
 have HK:=Qa (fun X=>show Ab ARt 212 #[Ak #[I Z hb,I Z hn,I Z a0,I Z a1,I Z a2,I Z a3,I Z a4,I Z a5,I Z s0,I Z s1,I Z s2,I Z s3,I Z s4,I Z s5,.bool hl]] X fun e w'=>e=O (Ak #[I Z hb,I Z 0,I Z s0,I Z s1,I Z s2,I Z s3,I Z s4,I Z s5,I Z s0,I Z s1,I Z s2,I Z s3,I Z s4,I Z s5,.bool false])/\Ae X.1.size X w' from Tv ⟨hb,hn,⟨a0,a1,a2,a3,a4,a5⟩,⟨s0,s1,s2,s3,s4,s5⟩,hl⟩ X)
 obtain⟨b1,b2⟩:=hb0;generalize S.abort i=SA at *;clear hI hi hlv h1 hS0 hbx;go_enter func154,ntmps154;go_upto_region 3 with fail;rw[<-hW];clear hW;have cA:=ki (h:=⟨hb,hn,⟨a0,a1,a2,a3,a4,a5⟩,⟨s0,s1,s2,s3,s4,s5⟩,hl⟩) k2 hA;have cB:=ki (h:=⟨hb,hn,⟨a0,a1,a2,a3,a4,a5⟩,⟨s0,s1,s2,s3,s4,s5⟩,hl⟩) k2 hB;rw[hra]at cA;rw[hrb]at cB;have c1:=k1.cell;have l2:=k2.lt;go_quiet (fail);obtain⟨V,hV⟩:=Ja0 (W.drewN nq);have dC:Ae W.1.size W V:=by rw[hV];exact qx (qd _) _
 rw[<-hV];clear hV cA cB c1 l2;replace k0:=k0.below dC k0.lt;replace k1:=k1.below dC k1.lt;replace k2:=k2.below dC k2.lt;replace k3:=k3.below dC k3.lt;replace k4:=k4.below dC k4.lt;replace k5:=k5.below dC k5.lt;replace hSW:=hSW.below dC;replace cZ:=cZ.trans (Stp.of_below dC);have c0:=k0.cell;have c1:=k1.cell;go_wp2_with fail;refine (HC.out _ _ hSW).mono ?_
 rintro e2 w2 ⟨rfl,o2,hS2,hI2,hs2⟩
 have nt:∀ b,w.1.size<=b->¬qo y (o1 b):=fun b q1=>pw (HB.out b q1)
 have tg:∀ b,w.1.size<=b->b<V.1.size->CL y (o2 b):=fun b q1 q2=>by have:=HB.out b q1;rw[<-hs2.tags b q2]at this;exact this
 have t2:=tg (w.1.size+1+1) (by omega) k2.lt
 have t3:=tg (w.1.size+1+1+1) (by omega) k3.lt
 have t4:=tg (w.1.size+1+1+1+1) (by omega) k4.lt
 replace k2:=k2.Ao hs2 (nt _ (by omega))
 replace k3:=k3.Ao hs2 (nt _ (by omega))
 replace k4:=k4.Ao hs2 (nt _ (by omega))
 have hs3:=cZ.trans hs2;have HI2:=Qa hI2;clear c0 c1 k0 k1 k5 hs2 hSW cZ HC tg nt hI2;have c2:=k2.cell;go_wp2_with fail;refine (HK.out _).mono ?_
 rintro e3 w3 ⟨rfl,hb3⟩
 replace k2:=k2.below hb3 k2.lt;replace k3:=k3.below hb3 k3.lt;replace k4:=k4.below hb3 k4.lt;have dB:=hS2.below hb3;replace hs3:=hs3.trans (Stp.of_below hb3);clear c2 hb3 hS2 HK;have c2:=k2.cell;have z2:=k2.free;have l2:=k2.lt;go_upto_region 37 with fail;clear c2 z2 l2;obtain⟨V2,hV2⟩:=Ja0 ((CS w3 (w.1.size+1+1) ⟨hb,0,⟨s0,s1,s2,s3,s4,s5⟩,⟨s0,s1,s2,s3,s4,s5⟩,false⟩).setCell ⟨(w.1.size+1+1),0,none⟩ (I Z (hb+1)));change Code.wp _ _ _ _ ((CS w3 (w.1.size+1+1) ⟨hb,0,⟨s0,s1,s2,s3,s4,s5⟩,⟨s0,s1,s2,s3,s4,s5⟩,false⟩).setCell ⟨(w.1.size+1+1),0,none⟩ (I Z (hb+1)));rw[<-hV2];have hw:Wr (w.1.size+1+1) w3 V2:=by rw[hV2];exact (Q8 w3 (w.1.size+1+1) ⟨hb,0,⟨s0,s1,s2,s3,s4,s5⟩,⟨s0,s1,s2,s3,s4,s5⟩,false⟩).trans (Wr.set _ _ _ _)
 have i2:Al V2 (w.1.size+1+1) #[I Z (hb+1),I Z 0,I Z s0,I Z s1,I Z s2,I Z s3,I Z s4,I Z s5,I Z s0,I Z s1,I Z s2,I Z s3,I Z s4,I Z s5,.bool false] 58:=by rw[hV2];exact (d8 (g:=⟨hb,hn,⟨a0,a1,a2,a3,a4,a5⟩,⟨s0,s1,s2,s3,s4,s5⟩,hl⟩) k2 ⟨hb,0,⟨s0,s1,s2,s3,s4,s5⟩,⟨s0,s1,s2,s3,s4,s5⟩,false⟩).set 0 (I Z (hb+1))
 have i3:=k3.wr hw (by omega)
 have i4:=k4.wr hw (by omega)
 have hS5:=dB.bx (Stp.BE hw t2);have hs5:=hs3.CK hw (by omega)
 clear hV2 hw k2 k3 k4 dB hs3;have c2:=i2.cell;have c3:=i3.cell;have z3:=i3.free;have l3:=i3.lt;have c4:=i4.cell;have z4:=i4.free;have l4:=i4.lt;have hres:=Qa (jt i3 i4 (by omega) ⟨(hb+1),0,⟨s0,s1,s2,s3,s4,s5⟩,⟨s0,s1,s2,s3,s4,s5⟩,false⟩ ⟨2,0,0⟩)
 have hrs:=Qa (wh hs5 (b6:=(w.1.size+1+1+1)) (b7:=(w.1.size+1+1+1+1)) (by omega) (by omega) ⟨(hb+1),0,⟨s0,s1,s2,s3,s4,s5⟩,⟨s0,s1,s2,s3,s4,s5⟩,false⟩ ⟨2,0,0⟩)
 have fO:=Qa (hS5.bx (ya V2 (w.1.size+1+1+1) (w.1.size+1+1+1+1) (o:=o2) t3 t4 ⟨(hb+1),0,⟨s0,s1,s2,s3,s4,s5⟩,⟨s0,s1,s2,s3,s4,s5⟩,false⟩ ⟨2,0,0⟩));clear i2 i3 i4 hS5 hs5;go_wp2_with fail;change bodyPost _ _ _ _ _ (jy V2 (w.1.size+1+1+1) (w.1.size+1+1+1+1) ⟨(hb+1),0,⟨s0,s1,s2,s3,s4,s5⟩,⟨s0,s1,s2,s3,s4,s5⟩,false⟩ ⟨2,0,0⟩);generalize jy V2 (w.1.size+1+1+1) (w.1.size+1+1+1+1) ⟨(hb+1),0,⟨s0,s1,s2,s3,s4,s5⟩,⟨s0,s1,s2,s3,s4,s5⟩,false⟩ ⟨2,0,0⟩=X at *;exact bodyPost_ret (ze _ _ 8 9 rfl rfl rfl hres.out.1 hres.out.2) rfl ⟨rfl,o2,fO.out,HI2.out,hrs.out⟩
end
section
variable {w w' : Aa} {o o' : Own} {y : A6} {S : An} {i : Nat}
def Inv.Sg (h:Inv S):Inv { S with came:=[] }:=⟨h.H,h.n2,h.lv,h.t1,h.t8,h.lg,h.st,h.ve,h.ho,h.sc,h.so,h.qu,h.nx,af _,h.se,h.ph⟩
def Inv.Sr (h:Inv S):Inv { S with lost:=[] }:=⟨h.H,h.n2,h.lv,h.t1,h.t8,h.lg,h.st,h.ve,h.ho,h.sc,h.so,h.qu,h.nx,h.cm,h.se,h.ph⟩
def qo5 (h:Aq w o y S) :
  Ab ARt 90 #[ptr y.sb] w fun e w'=>∃ v,e=O v/\Row w' o (y.l.id,15) 3 1 v S.came.length (S.came.map nv)/\Aq w' o y { S with came:=[] }/\Stp (fun t=>t=(y.l.id,11)) o o w w':=by
 obtain⟨vq,vl,vm,jb,hrw⟩:=h.AM;have hfin:=Qa (show Row (w.setCell ⟨y.sb,9,none⟩ (Ah none 0 0)) o (y.l.id,15) 3 1 vm S.came.length (S.came.map nv)/\Aq (w.setCell ⟨y.sb,9,none⟩ (Ah none 0 0)) o y { S with came:=[] }/\Stp (fun t=>t=(y.l.id,11)) o o w (w.setCell ⟨y.sb,9,none⟩ (Ah none 0 0)) from by
  have k:Stp (fun t=>t=(y.l.id,11)) o o w (w.setCell ⟨y.sb,9,none⟩ (Ah none 0 0)):=(Stp.refl _ o w).setCell (by show o y.sb=_;exact h.os) _
  exact⟨hrw.m.Ao k (by simp),h.own (S':={ S with came:=[] }) rfl rfl rfl rfl rfl (jb.set 9 (Ah none 0 0)) ⟨hrw.q.Ao k (by simp),hrw.l.Ao k (by simp),Row.nil _ _ _ _ _⟩ (k.mono (by rintro _ rfl;exact⟨rfl,.inl rfl⟩)),k⟩)
 obtain⟨pa,cp,rfl⟩:=hrw.m.AS;unfold qw at jb;have c:=jb.cell;have z:=jb.free;have s:=jb.lt;clear h hrw;go_enter func90,ntmps90;go_wp2_with fail;go_ret;exact⟨_,rfl,hfin.out⟩
def qpa (h:Aq w o y S) :
  Ab ARt 92 #[ptr y.sb] w fun e w'=>∃ v,e=O v/\Row w' o (y.l.id,14) 3 1 v S.lost.length (S.lost.map nv)/\Aq w' o y { S with lost:=[] }/\Stp (fun t=>t=(y.l.id,11)) o o w w':=by
 obtain⟨vq,vl,vm,jb,hrw⟩:=h.AM;have hfin:=Qa (show Row (w.setCell ⟨y.sb,8,none⟩ (Ah none 0 0)) o (y.l.id,14) 3 1 vl S.lost.length (S.lost.map nv)/\Aq (w.setCell ⟨y.sb,8,none⟩ (Ah none 0 0)) o y { S with lost:=[] }/\Stp (fun t=>t=(y.l.id,11)) o o w (w.setCell ⟨y.sb,8,none⟩ (Ah none 0 0)) from by
  have k:Stp (fun t=>t=(y.l.id,11)) o o w (w.setCell ⟨y.sb,8,none⟩ (Ah none 0 0)):=(Stp.refl _ o w).setCell (by show o y.sb=_;exact h.os) _
  exact⟨hrw.l.Ao k (by simp),h.own (S':={ S with lost:=[] }) rfl rfl rfl rfl rfl (jb.set 8 (Ah none 0 0)) ⟨hrw.q.Ao k (by simp),Row.nil _ _ _ _ _,hrw.m.Ao k (by simp)⟩ (k.mono (by rintro _ rfl;exact⟨rfl,.inl rfl⟩)),k⟩)
 obtain⟨pa,cp,rfl⟩:=hrw.l.AS;unfold qw at jb;have c:=jb.cell;have z:=jb.free;have s:=jb.lt;clear h hrw;go_enter func92,ntmps92;go_wp2_with fail;go_ret;exact⟨_,rfl,hfin.out⟩
end
end
section
open Go.RowKit Hp
open Go.MuLone
attribute [local go_sem ↓] Go.wp_at_zero Go.wp_at_succ
def Hw (b n cp:Nat) (pa:Option Addr) (w:Aa) (h0:w.cell? ⟨b,3,none⟩=some (.int .i32 0)) (h2:w.cell? ⟨b,5,none⟩=some (.slice pa n cp)) (f0:w.frozen? ⟨b,3,none⟩=false) :
  Ab ARt 87 #[Ag (some ⟨b,3,none⟩)] w fun e w'=>e=O (.bool (decide (2000<=n)))/\w'=(w.setCell ⟨b,3,none⟩ (.int .i32 1)).setCell ⟨b,3,none⟩ (.int .i32 0):=by
 go_enter_defers func87,ntmps87;go_wp2_with (go_at_call 148;refine (lock_free Tryz.muLib ⟨b,3,none⟩ _ h0 f0).mono ?_;rintro e w' ⟨rfl,rfl⟩);refine leaves_cons (f:=149) (args:=#[Ag (some ⟨b,3,none⟩)]) (by simp) (by simp[go_sem]) ?_
 refine (unlock_deferred Tryz.muLib ⟨b,3,none⟩ .returning _ ?_ ?_).mono ?_
 ·exact World.cell?_setCell_same w ⟨b,3,none⟩ (.int .i32 1) h0
 ·simp[f0]
 rintro e u' w'' ⟨rfl,rfl,rfl⟩
 exact⟨_,results_tmp rfl _ _ _,by simp;omega,rfl⟩
end
section
open Go.RowKit Hp
attribute [local go_sem ↓] Go.wp_at_zero Go.wp_at_succ
def Row.PO {w:Aa}{o:Own}{t:Tag}{e:TypeId}{l:List (Nat×Nat)}{g n cap:Nat}(h:Row w o t e 2 (Ah (some ⟨g,0,none⟩) n cap) n (qk l))(i:Nat)(x:Nat×Nat)(hx:l[i]?=some x) :
  w.cell? ⟨g,i*2,none⟩=some (nv x.1)/\w.cell? ⟨g,i*2+1,none⟩=some (nv x.2):=by
 have h2:=yu l i x hx;have f:=fun j u hu=>h.own.cells (g:=g) rfl j u hu
 have a1:=f _ _ h2.1;have a2:=f _ _ h2.2;rw[addr_add]at a1 a2;rw[Nat.mul_comm i 2];exact⟨a1,a2⟩
def Row.Sa {w:Aa}{o:Own}{t:Tag}{e:TypeId}{l:List (Nat×Nat)}{n cap:Nat}{pa:Option Addr}(h:Row w o t e 2 (.slice pa n cap) n (qk l))(i:Nat)(x:Nat×Nat)(hx:l[i]?=some x) :
  ∃ g,pa=some ⟨g,0,none⟩/\w.cell? ⟨g,i*2,none⟩=some (I Z x.1)/\w.cell? ⟨g,i*2+1,none⟩=some (I Z x.2):=by
 rcases h.B7 with ⟨_,h0⟩|⟨g,cap',e',hn⟩
 ·have:=yu l i x hx
  rw[h0]at this;simp at this
 ·injection e' with e1 _ e3
  subst e1 e3;obtain⟨a,b⟩:=h.PO i x hx;exact⟨g,rfl,a,b⟩
def Dy (ts:List Tx)(k:Nat):List Nat:=(ts.take k).flatMap Tx.places
def K8 {ts:List Tx}{k:Nat}{x:Tx}(h:ts[k]?=some x):Dy ts (k+1)=Dy ts k++x.log.roots++x.AP.map (·.1):=by
 unfold Dy;rw[ag,h,ai];simp[Tx.places]
def U7:∀ (ts:List Tx)(k:Nat),(∀ x ∈ ts,x.log.fit)->(Dy ts k).length<=1000*k+wg ts
 | [],k,_=>by simp[Dy]
 | x::ts,0,_=>by simp[Dy]
 | x::ts,k+1,h=>by
  have h1:=U7 ts k fun z hz=>h z (.tail _ hz);have h2:=qh1 (h x (.head _));have e:Dy (x::ts) (k+1)=x.places++Dy ts k:=by unfold Dy;rw[List.take_succ_cons,List.flatMap_cons]
  have e2:wg (x::ts)=x.AP.length+wg ts:=rfl;rw[e,e2,Qd];unfold Tx.places;rw[Qd,Qg];omega
def WL (l:List Nat)(x:Nat):(l++[x]).map nv=l.map nv++[I Z x]:=vx l x
section
variable {w w' : Aa} {o o' : Own} {y : A6} {S : An}
def WR (hk:S.ok)(ps:List Nat):(S.places ps).length<=ps.length+S.next+8000:=by
 have h1:=U7 S.Au S.Au.length hk.lg;have h2:=hk.qu;have h3:=hk.t8;have e:Dy S.Au S.Au.length=S.Au.flatMap Tx.places:=by unfold Dy;rw[Ad]
 rw[e]at h1;unfold An.places;simp only[Qd,Qg];omega
def qil (h:Aq w o y S) (hk:S.ok) {v:Ac} {ps:List Nat} {ta:Tag} (hv:Row w o ta 3 1 v ps.length (ps.map nv)) (hp:ps.length<=100000) :
  Ab ARt 51 #[ptr y.sb,v] w fun e w'=>∃ v',e=O v'/\Row w' (fo w.1.size) (1,0) 3 1 v' (S.places ps).length ((S.places ps).map nv)/\Ae w.1.size w w':=by
 obtain⟨iI,hi,hsI,bZ,bT⟩:=jh;have hu64:=underlying25;have hpl:=WR hk ps;have hn2:=hk.Lr;have hv0:Row w (fun _=>(0,0)) (0,0) 3 1 v ps.length (ps.map nv):=⟨hv.own,fun _ _=>rfl⟩
 have HC:=Qa (show Ab ARt 63 #[v] w fun e w'=>∃ v',e=O v'/\Row w' (fo w.1.size) (1,0) 3 1 v' ps.length (ps.map nv)/\Ae w.1.size w w' from Uv hv0 hp (tt ps) (1,0))
 obtain⟨vq,vl,vm,jb,hrw⟩:=h.AM;have hq:=hrw.q;obtain⟨pq,cq,rfl⟩:=hq.AS;obtain⟨pv,cv,rfl⟩:=hv.AS;obtain⟨gt,ct,qG,hct,uZ⟩:=h.DW hk.t1;unfold qw at jb;rw[qG]at jb;obtain⟨q,hqe⟩:=Ja0 S.queue;obtain⟨ts,hts⟩:=Ja0 S.Au;have hq2:q.length+(Dy ts ts.length).length<=S.next+8000:=by
  have h1:=U7 ts ts.length (by rw[hts];exact hk.lg)
  have h2:=hk.qu;have h3:=hk.t8;rw[hqe,hts]at *;omega
 have hmx:∀ k,k<=S.next+200000->k<=maxLen/\k*8<=140737488355328:=fun k hk'=>by simp only[maxLen];omega
 have hpm:∀ k,(Dy ts k).length<=(Dy ts ts.length).length:=fun k=>by
  unfold Dy;rw[Ad];conv=>rhs;rw[<-Qw k ts]
  rw[ai,Qd];omega
 have HT8:Hid (ts.length<=8):=by show _<=_;rw[hts];exact hk.t8
 have HMX:=Qa hmx;have wQ:=Qa hn2;have HPM:=Qa hpm;have qW:=Qa hq2;have HP:=Qa hp;have HPL:=Qa (show S.places ps=ps++q.map (·.1)++Dy ts ts.length from by unfold An.places Dy;rw[hqe,hts,Ad])
 rw[<-hqe]at hq jb;rw[<-hts]at jb hct uZ;have HQ:=Qa hq;have HCT:=Qa hct;have HTX:=Qa (fun (i:Nat) (x:Tx) (hx:ts[i]?=some x)=>show (∃ pk ck,∀ (w2:Aa),Ae w.1.size w w2->Al w2 (y.xb i) (zw i x (y.lb i) (.slice pk x.AP.length ck)) 107/\Row w2 o (y.l.id,22+8*i) 117 2 (.slice pk x.AP.length ck) x.AP.length (qk x.AP)) /\
   ∀ (w2:Aa),Ae w.1.size w w2->Ab ARt 65 #[ptr (y.lb i)] w2 (fun e w'=>∃ v,e=O v/\Row w' (fo w2.1.size) (1,0) 3 1 v x.log.roots.length (x.log.roots.map nv)/\Ae w2.1.size w2 w') from by
  have hx':S.Au[i]?=some x:=by rw[<-hts];exact hx
  have h2:=h.Au i x hx';obtain⟨vt,hb',hr'⟩:=h2.AM;obtain⟨pk,ck,rfl⟩:=hr'.AS;refine⟨⟨pk,ck,fun w2 hb=>⟨hb'.below hb hb'.lt,hr'.below hb⟩⟩,fun w2 hb=>?_⟩;obtain⟨vr,vk,vh,vu,hl⟩:=h2.log;exact YU (hl.below hb) (hk.lg x (Qe hx')))
 have HS:=Qa (fun (w2:Aa) (hb:Ae w.1.size w w2)=>hb)
 have hgl:gt<w.1.size:=by
  have h1:=h.DV;rw[qG]at h1;exact h1.blt
 have HGL:=Qa hgl;have yI:=Qa jb;have c:=jb.cell;rw[HPL.out];generalize S.next=N at *;generalize S.Av=N1 at *;generalize S.version=N2 at *;clear h hk hv hv0 hrw hq hq2 hpl hn2 hp hct hmx hpm jb hqe hts hgl qG;go_enter func51,ntmps51;go_wp2_with fail;refine HC.out.mono ?_
 rintro e w1 ⟨v1,rfl,hr1,hb1⟩
 obtain⟨p1,c1,rfl⟩:=hr1.AS;have j1:=yI.out.below hb1 yI.out.lt;clear c HC;have c:=j1.cell;go_wp2_with fail;go_loopw [5,19] (fun vv ix wr=>∃ k:Nat,ix=I Z k/\k<=q.length/\Row wr (fo w.1.size) (1,0) 3 1 vv (ps.length+k) ((ps++(q.take k).map (·.1)).map nv)/\Ae w.1.size w wr) (fun _ ix _=>q.length-(intOf ix).toNat)
 case atStart=>exact⟨0,rfl,af _,by simpa using hr1,hb1⟩
 case round =>
  clear c j1 hr1 hb1;obtain⟨k,rfl,hkn,hr,hb⟩:=hrel;obtain⟨pp,cc,rfl⟩:=hr.AS;by_cases hlt:k<q.length
  ·have gT:(k:Int)<(q.length:Int):=by omega
   obtain⟨z,hz⟩:∃ z,q[k]?=some z:=⟨_,Qb hlt⟩;obtain⟨gq,rfl,q0,q1⟩:=(HQ.out.below hb).Sa k z hz;obtain⟨hw1,hw2⟩:=jd k (by have:=qW.out;have:=wQ.out;omega)
   have hk1:Hid (ps.length+k+1<=maxLen/\(ps.length+k+1)*8<=140737488355328):=HMX.out _ (by have:=qW.out;have:=HP.out;omega)
   have htk:(q.take (k+1)).map (·.1)=(q.take k).map (·.1)++[z.1]:=by rw[ag,hz];simp
   have qA:=Qa htk;obtain⟨zp,zs⟩:=z;simp only at q0 q1 qA;have HR:=Qa hr;clear hr hz htk;go_wp2_with (first|(at_builtin;refine qi _ rfl _ _ _ rfl 3 iI _ 1 8 hu64 hi bT hsI bZ rfl (by decide) (fo w.1.size) (1,0) _ _ _ rfl (Row.below (Row.below HR.out (qc (qd _) _)) (qc (qd _) _)) ⟨wr.1.size+1,0,none⟩ 1 1 [I Z zp] rfl rfl (zj (Al.Ap _ _ _ _ _ (by simp) rfl)) ka hk1.out.1 hk1.out.2 ?_;intro v' w8 hown hst)|fail)
   have gB:=qc (qc hb (ARu #[I Z zp,I Z zs] 117)) (ARu #[I Z zp] 3);have xI:=yr gB hown;have eX:=xx gB hst;go_roundw
   case rel=>exact⟨k+1,by simp,by omega,by rw[qA.out,<-aj,WL];exact xI,eX⟩
   case measure=>simp[intOf];omega
  ·obtain rfl:k=q.length:=by omega
   rw[Ad]at hr;have j1:=yI.out.below hb yI.out.lt;have c:=j1.cell;go_wp2_with fail;clear c j1 hkn hlt;have HR0:=Qa hr;have HB0:=Qa hb;clear hr hb;obtain⟨P1,hP1⟩:=Ja0 (ps++q.map (·.1));have HP1:Hid (P1.length=ps.length+q.length):=by show _=_;rw[hP1];simp
   rw[<-hP1,<-HP1.out]at HR0;have mH:=Qa hP1;rw[<-HP1.out];have HL2:Hid (∀ k,(P1++Dy ts k).length<=N+200000):=fun k=>by
    have h1:=HPM.out k;have h2:=qW.out;have h3:=HP.out;have h4:=HP1.out;rw[Qd];omega
   clear hP1;go_loopw [5,34] (fun vv ix wr=>∃ k:Nat,ix=I Z k/\k<=ts.length/\Row wr (fo w.1.size) (1,0) 3 1 vv (P1.length+(Dy ts k).length) ((P1++Dy ts k).map nv)/\Ae w.1.size w wr) (fun _ ix _=>ts.length-(intOf ix).toNat)
   case atStart=>exact⟨0,rfl,af _,by rw[show Dy ts 0=[] from rfl,List.append_nil];exact HR0.out,HB0.out⟩
   case round =>
    clear HR0 HB0;obtain⟨k,rfl,hkn,hr,hb⟩:=hrel;obtain⟨wo,rfl⟩:=Ja0 wr;obtain⟨pp,cc,rfl⟩:=hr.AS;by_cases hlt:k<ts.length
    ·have gT:(k:Int)<(ts.length:Int):=by omega
     obtain⟨x,hx⟩:∃ x,ts[k]?=some x:=⟨_,Qb hlt⟩;obtain⟨⟨pk,ck,hX2⟩,hRt⟩:=HTX.out k x hx;have jx:=(hX2 wo hb).1;have HX2:=Qa hX2;have HRt:=hRt wo hb;have ct0:wo.cell? ⟨gt,k,none⟩=some (ptr (y.xb k)):=by rw[hb.cell (p:=⟨gt,k,none⟩) HGL.out];exact HCT.out k hlt
     have HTS:=Qa (K8 hx);obtain⟨n2,hn2⟩:=Ja0 (P1.length+(Dy ts k).length);rw[<-hn2]at hr ⊢;have HNN:=Qa hn2;have HLk:=Qa (HL2.out (k+1));have HR:=Qa hr;have HRT:=Qa HRt;unfold zw at jx;have cx:=jx.cell;have HB:=Qa hb;obtain⟨r,hre⟩:=Ja0 x.log.roots;obtain⟨P2,hP2⟩:=Ja0 (P1++Dy ts k);rw[<-hre]at HRT HTS;rw[<-hP2]at HR;have uP:Hid (P1++Dy ts (k+1)=P2++r++x.AP.map (·.1)):=by show _=_;rw[HTS.out,hP2];simp
     rw[uP.out]at HLk;have HP2:Hid (P2.length=n2):=by show _=_;rw[hP2,hn2,Qd]
     have hk1:Hid (n2+r.length<=maxLen/\(n2+r.length)*8<=140737488355328):=HMX.out _ (by have:=HLk.out;have:=HP2.out;simp only[Qd,Qg]at *;omega)
     have HKL:=Qa (jd k (by have:=HT8.out;omega))
     clear hr hRt HRt jx hre HTS hx hb hn2 hX2;go_wp2_with (first
      | (go_at_call 65;refine HRT.out.mono ?_;rintro e w3 ⟨v3,rfl,hr3,hb3⟩;obtain⟨p3,c3,rfl⟩:=hr3.AS)
      | (at_builtin;go_loud (refine zi _ rfl _ _ _ rfl 3 iI _ 1 8 hu64 hi bT hsI bZ rfl (by decide) (fo w.1.size) (1,0) _ _ _ rfl (Row.below HR.out hb3) _ _ _ _ _ rfl hr3 (tt _) hk1.out.1 hk1.out.2 ?_;intro v' w8 hown hst;obtain⟨p8,c8,rfl⟩:=hown.AS;have gB:=xx (qe HB.out hb3) hst;have xI:=yr (qe HB.out hb3) hown;have jx8:=(HX2.out w8 gB).1;unfold zw at jx8;have cx8:=jx8.cell))
      | fail)
     clear hown hst hb3 hr3 cx jx8 cx8 ct0 HRT HR HB;have HR9:=Qa xI;have uF:=Qa gB;have HRX:=Qa (fun w2 hb=>(HX2.out w2 hb).2);obtain⟨tk,htk⟩:=Ja0 x.AP;rw[<-htk]at HRX uP HLk ⊢;clear xI gB hk1 HX2 htk;go_loopw [5,50] (fun vv ix wr=>∃ j:Nat,ix=I Z j/\j<=tk.length/\Row wr (fo w.1.size) (1,0) 3 1 vv (n2+r.length+j) ((P2++r++(tk.take j).map (·.1)).map nv)/\Ae w.1.size w wr) (fun _ ix _=>tk.length-(intOf ix).toNat)
     case atStart=>exact⟨0,rfl,af _,by simpa using HR9.out,uF.out⟩
     case round =>
      clear HR9 uF;obtain⟨j,rfl,hjn,hr,hb⟩:=hrel;obtain⟨wi,rfl⟩:=Ja0 wr;obtain⟨pp,cc,rfl⟩:=hr.AS;by_cases hj:j<tk.length
      ·have hjI:(j:Int)<(tk.length:Int):=by omega
       obtain⟨z,hz⟩:∃ z,tk[j]?=some z:=⟨_,Qb hj⟩;obtain⟨gq,rfl,q0,q1⟩:=(HRX.out wi hb).Sa j z hz;have hlen:n2+r.length+tk.length<=N+200000:=by have:=HLk.out;have:=HP2.out;simp only[Qd,Qg]at *;omega
       have hk1:Hid (n2+r.length+j+1<=maxLen/\(n2+r.length+j+1)*8<=140737488355328):=HMX.out _ (by omega)
       obtain⟨hw1,hw2⟩:=jd j (by have:=wQ.out;omega)
       have htk:(tk.take (j+1)).map (·.1)=(tk.take j).map (·.1)++[z.1]:=by rw[ag,hz];simp
       have qA:=Qa htk;obtain⟨zp,zs⟩:=z;simp only at q0 q1 qA;have HR:=Qa hr;clear hr hz htk hlen;go_wp2_with (first|(at_builtin;refine qi _ rfl _ _ _ rfl 3 iI _ 1 8 hu64 hi bT hsI bZ rfl (by decide) (fo w.1.size) (1,0) _ _ _ rfl (Row.below (Row.below HR.out (qc (qd _) _)) (qc (qd _) _)) ⟨wi.1.size+1,0,none⟩ 1 1 [I Z zp] rfl rfl (zj (Al.Ap _ _ _ _ _ (by simp) rfl)) ka hk1.out.1 hk1.out.2 ?_;intro v' w9 hown hst)|fail)
       have eX:=qc (qc hb (ARu #[I Z zp,I Z zs] 117)) (ARu #[I Z zp] 3);have xI:=yr eX hown;have ic:=xx eX hst;go_roundw
       case rel=>exact⟨j+1,by simp,by omega,by rw[qA.out,<-aj,WL];exact xI,ic⟩
       case measure=>simp[intOf];omega
      ·obtain rfl:j=tk.length:=by omega
       rw[Ad,<-uP.out]at hr;have hr2:=hr.ite (n':=P1.length+(Dy ts (k+1)).length) (by
        have e:=congrArg List.length uP.out;have e2:=HP2.out;simp only[Qd,Qg]at e;omega) rfl
       have HR2:=Qa hr2;have HB2:=Qa hb;obtain⟨hw1,hw2⟩:=HKL.out;clear hr hr2 hb hj hjn;go_wp2_with fail;go_roundw
       case rel=>exact⟨k+1,by simp,by omega,HR2.out,HB2.out⟩
       case measure=>simp[intOf];omega
    ·obtain rfl:k=ts.length:=by omega
     have hr2:=hr.ite (n':=(ps++q.map (·.1)++Dy ts ts.length).length) (by rw[<-mH.out,Qd]) (xs':=(ps++q.map (·.1)++Dy ts ts.length).map nv) (by rw[mH.out])
     have HR2:=Qa hr2;have HB2:=Qa hb;clear hr hr2 hb hlt;go_wp2_with fail;go_ret;exact⟨_,rfl,HR2.out.ite (by simp) (by simp),HB2.out⟩
