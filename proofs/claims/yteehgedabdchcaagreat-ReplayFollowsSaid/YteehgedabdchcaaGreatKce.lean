import Derived.Test.YteehgedabdchcaaGreatKaq
import Derived.Test.YteehgedabdchcaaGreatKbo
set_option linter.all false
set_option maxRecDepth 1000000
set_option maxHeartbeats 0
open Go renaming World->Aa,Calls->Ab,Value->Ac
open Go.RowKit renaming Below->Ae
open Go.Value renaming int->I,pointer->Ag,slice->Ah,tuple->Aj,agg->Ak
open Go.IntKind renaming i64->Z
open Go.Ending renaming returned->O
open List renaming setIfInBounds_toArray->Ad,set_cons_zero->Ai,set_cons_succ->aa,getElem_cons_succ->af,getElem_cons_zero->ag,getElem_toArray->ai
open And renaming intro->aj
open Nat renaming ne_of_gt->ay,ne_of_lt->az,le_succ->aA,le_add_right->aB,le_of_lt->aC
open Go.Proofs.Tryz
open Go.Proofs.Tryz renaming prog->ARt
open Go.Obj renaming cells->ARu
namespace Go.Proofs.YteehgedabdchcaaGreat
open Go.RowKit Hp
attribute [local go_sem ↓] Go.wp_at_zero Go.wp_at_succ
noncomputable def SU (n:Nat):Code:=((Tryz.f157.body.bind (wq n)).getD .skip)
def RY (Q:Exit->Act->Aa->Prop) (W:Aa) (B:Nat) (v u:Ac) {u0 u2 u3 u4 u5 u6 u7 u8 u9 Nj Nk Nm Nn Np Nq Nr Ns Nt Nu Nv Nw Nx Ny Nz N0 N1 N2 N3 N4 N5 N6 N7 N8 N9 Ra Rb Rc Rd Re Rf Rg Rh Ri:Ac} (jB:Al W B #[v,u] 157) (hv:Nl W 299 8 v) (hu:Nl W 117 2 u)
  (bV:∀ c d x a w,Q (.panic c) (a.put d x) w->Q (.panic c) a w)
  (bO:∀ (X:Aa) (C:Nat) (v' u':Ac) (z5 z6 z7 z8 z9 Ro Rp:Ac),Al X C #[v',u'] 157->W.1.size<=C->Da W.1.size X 299 8 v'->Da W.1.size X 117 2 u'->Ae W.1.size W X->Q .normal ⟨#[u0,Ag (some ⟨B,0,none⟩),u2,Ag (some ⟨C,0,none⟩),u4,z5,z6,z7,z8,z9,Ro,Rp,Nm,Nn,Np,Nq,Nr,Ns,Nt,Nu,Nv,Nw,Nx,Ny,Nz,N0,N1,N2,N3,N4,N5,N6,N7,N8,N9,Ra,Rb,Rc,Rd,Re,Rf,Rg,Rh,Ri],[]⟩ X) :
  Code.wp ARt (SU 1) Q ⟨#[u0,Ag (some ⟨B,0,none⟩),u2,u3,u4,u5,u6,u7,u8,u9,Nj,Nk,Nm,Nn,Np,Nq,Nr,Ns,Nt,Nu,Nv,Nw,Nx,Ny,Nz,N0,N1,N2,N3,N4,N5,N6,N7,N8,N9,Ra,Rb,Rc,Rd,Re,Rf,Rg,Rh,Ri],[]⟩ W:=by
 conv=>arg 2;whnf
 have HX:=Qa bO;have nW:=Qa (fun (X:Aa) (hb:Ae W.1.size W X)=>qky X v (hv.below hb))
 have fZ:=Qa (fun (X:Aa) (hb:Ae W.1.size W X)=>qle X u (hu.below hb))
 have lB:=jB.lt;have cO:=Qa (fun (w':Aa) (hb:Ae W.1.size W w')=>show w'.cell? ⟨B,0,none⟩=some v/\w'.cell? ⟨B,1,none⟩=some u from ⟨(jB.below hb lB).cell 0,(jB.below hb lB).cell 1⟩)
 have HJ:=Qa jB;clear bO hv hu;refine zo (fun w'=>w'.cell? ⟨B,0,none⟩=some v/\w'.cell? ⟨B,1,none⟩=some u) 8 (by kernel_rfl) ?_
 have HS:=aj (show W.drew.cell? ⟨B,0,none⟩=some v from jB.cell 0) (show W.drew.cell? ⟨B,1,none⟩=some u from jB.cell 1);clear jB;refine qp (by kernel_rfl) bV [0,1,3,4] (by kernel_rfl) (by decide) HS ?_
 iterate 4 (refine De (v:=?_) rfl ?_ ?_;rotate_left;(· (first|(refine Or.inl ⟨by rfl,?_⟩;rintro w' ⟨h0,h1⟩;go_simp;try with_reducible rfl)));simp only[ai,af,ag,Act.put,Ad,Ai,aa])
 refine Df ?_;refine kq (i:=2) (j:=7) (by kernel_rfl) rfl rfl (fun K hK=>?_) (fun K hK=>?_)
 ·go_simp
  refine (nW.out W.drew (qf (qd W))).mono ?_
  rintro e w3 ⟨y3,rfl,hv3,hb3⟩
  obtain⟨p3,c3,rfl⟩:=Row.AS hv3;have bQ:=qe (qf (qd W)) hb3;refine hK.out _ _ (fun _=>cO.out w3 bQ) ?_
  clear hK K
  try simp only[Act.put,Ad,Ai,aa]
  refine kq (i:=5) (j:=7) (by kernel_rfl) rfl rfl (fun K hK=>?_) (fun K hK=>?_)
  ·go_simp
   refine (fZ.out w3 (bQ)).mono ?_
   rintro e w4 ⟨y4,rfl,fQ,hb4⟩
   obtain⟨p4,c4,rfl⟩:=Row.AS fQ;have eP:=qe (bQ) hb4;refine hK.out _ _ (fun _=>cO.out w4 eP) ?_
   clear hK K
   try simp only[Act.put,Ad,Ai,aa]
   refine qp (by kernel_rfl) bV [6] (by kernel_rfl) (by decide) (cO.out w4 eP) ?_
   iterate 1 (refine De (v:=?_) rfl ?_ ?_;rotate_left;(· (first|(refine Or.inl ⟨by rfl,?_⟩;rintro w' ⟨h0,h1⟩;go_simp;try with_reducible rfl)));simp only[ai,af,ag,Act.put,Ad,Ai,aa])
   refine Df ?_;refine qg (i:=7) (by kernel_rfl) rfl fun K hK=>?_
   go_simp;refine hK.out _ _ (fun _=>cO.out _ (qc eP _)) ?_
   clear hK K
   try simp only[Act.put,Ad,Ai,aa]
   refine qg (i:=8) (by kernel_rfl) rfl fun K hK=>?_
   go_simp;refine hK.out _ _ (fun h=>absurd h (by decide)) ?_
   clear hK K
   try simp only[Act.put,Ad,Ai,aa]
   refine zd (by kernel_rfl) ?_
   exact HX.out _ w4.1.size _ _ _ _ _ _ _ _ _ (Al.new w4 _ _) eP.size (((hv3.mono (by exact Qk _)).below hb4).below (qc (qd w4) _)) ((fQ.mono bQ.size).below (qc (qd w4) _)) (qc eP _)
  ·go_simp
   refine hK.out _ _ (fun _=>cO.out _ (qc bQ _)) ?_
   clear hK K
   try simp only[Act.put,Ad,Ai,aa]
   refine qg (i:=5) (by kernel_rfl) rfl fun K hK=>?_
   go_simp;refine (fZ.out _ (qc bQ _)).mono ?_
   rintro e w4 ⟨y4,rfl,fQ,hb4⟩
   obtain⟨p4,c4,rfl⟩:=Row.AS fQ;have eP:=qe (qc bQ _) hb4;refine hK.out _ _ (fun _=>cO.out w4 eP) ?_
   clear hK K
   try simp only[Act.put,Ad,Ai,aa]
   have jC:Al w4 w3.1.size #[Ah none 0 0,Ah none 0 0] 157:=(Al.new w3 _ _).below hb4 (Al.new w3 _ _).lt;have cC:=jC.cell;have zC:=jC.free;have lC:=jC.lt;refine qp (by kernel_rfl) bV [6] (by kernel_rfl) (by decide) (cO.out w4 eP) ?_
   iterate 1 (refine De (v:=?_) rfl ?_ ?_;rotate_left;(· (first|(refine Or.inl ⟨by rfl,?_⟩;rintro w' ⟨h0,h1⟩;go_simp;try with_reducible rfl)));simp only[ai,af,ag,Act.put,Ad,Ai,aa])
   refine Df ?_;refine qg (i:=8) (by kernel_rfl) rfl fun K hK=>?_
   go_simp;refine hK.out _ _ (fun h=>absurd h (by decide)) ?_
   clear hK K
   try simp only[Act.put,Ad,Ai,aa]
   refine zd (by kernel_rfl) ?_
   exact HX.out _ w3.1.size _ _ _ _ _ _ _ _ _ ((jC.set 0 _).set 1 _) bQ.size (((((hv3.mono (by exact Qk _)).below (qc (qd w3) _)).below hb4).set (fun k hk=>az (hv3.lt hk)) _).set (fun k hk=>az (hv3.lt hk)) _) ((((fQ.mono (Qo bQ.size (by simp))).set (fun k hk=>ay (Qn (by simp) (fQ.ge hk))) _).set (fun k hk=>ay (Qn (by simp) (fQ.ge hk))) _)) ((eP.setCell (by exact bQ.size) _).setCell (by exact bQ.size) _)
 ·go_simp
  refine hK.out _ _ (fun _=>cO.out _ (qc (qf (qd W)) _)) ?_
  clear hK K
  try simp only[Act.put,Ad,Ai,aa]
  refine qg (i:=2) (by kernel_rfl) rfl fun K hK=>?_
  go_simp;refine (nW.out _ (qc (qf (qd W)) _)).mono ?_
  rintro e w3 ⟨y3,rfl,hv3,hb3⟩
  obtain⟨p3,c3,rfl⟩:=Row.AS hv3;have bQ:=qe (qc (qf (qd W)) _) hb3;refine hK.out _ _ (fun _=>cO.out w3 bQ) ?_
  clear hK K
  try simp only[Act.put,Ad,Ai,aa]
  refine qg (i:=5) (by kernel_rfl) rfl fun K hK=>?_
  go_simp;refine (fZ.out w3 (bQ)).mono ?_
  rintro e w4 ⟨y4,rfl,fQ,hb4⟩
  obtain⟨p4,c4,rfl⟩:=Row.AS fQ;have eP:=qe (bQ) hb4;refine hK.out _ _ (fun _=>cO.out w4 eP) ?_
  clear hK K
  try simp only[Act.put,Ad,Ai,aa]
  have jC:Al w4 W.1.size #[Ah none 0 0,Ah none 0 0] 157:=((Al.new W.drew _ _).below hb3 (Al.new W.drew _ _).lt).below hb4 ((Al.new W.drew _ _).below hb3 (Al.new W.drew _ _).lt).lt;have cC:=jC.cell;have zC:=jC.free;have lC:=jC.lt;refine qp (by kernel_rfl) bV [6] (by kernel_rfl) (by decide) (cO.out w4 eP) ?_
  iterate 1 (refine De (v:=?_) rfl ?_ ?_;rotate_left;(· (first|(refine Or.inl ⟨by rfl,?_⟩;rintro w' ⟨h0,h1⟩;go_simp;try with_reducible rfl)));simp only[ai,af,ag,Act.put,Ad,Ai,aa])
  refine Df ?_;refine qg (i:=8) (by kernel_rfl) rfl fun K hK=>?_
  go_simp;refine hK.out _ _ (fun h=>absurd h (by decide)) ?_
  clear hK K
  try simp only[Act.put,Ad,Ai,aa]
  refine zd (by kernel_rfl) ?_
  exact HX.out _ W.1.size _ _ _ _ _ _ _ _ _ ((jC.set 0 _).set 1 _) (Qk _) (((((hv3.mono (by simp)).below hb4).set (fun k hk=>ay (Qn (by simp) (hv3.ge hk))) _).set (fun k hk=>ay (Qn (by simp) (hv3.ge hk))) _)) ((((fQ.mono bQ.size).set (fun k hk=>ay (Qn (Qn (by simp) hb3.size) (fQ.ge hk))) _).set (fun k hk=>ay (Qn (Qn (by simp) hb3.size) (fQ.ge hk))) _)) ((eP.setCell (by exact Qk _) _).setCell (by exact Qk _) _)
noncomputable def SS (n:Nat):Code:=((Tryz.f223.body.bind (wq n)).getD .skip)
def RQ (Q:Exit->Act->Aa->Prop) (W:Aa) (B:Nat) (v u:Ac) {u0 u2 u3 u4 u5 u6 u7 u8 u9 Nj Nk Nm Nn Np Nq Nr Ns Nt Nu Nv Nw Nx Ny Nz N0 N1 N2 N3:Ac} (jB:Al W B #[v,u] 157) (hv:Nl W 299 8 v) (hu:Nl W 117 2 u)
  (bV:∀ c d x a w,Q (.panic c) (a.put d x) w->Q (.panic c) a w)
  (bO:∀ (X:Aa) (C:Nat) (v' u':Ac) (z6 z7 z8 z9 Ro Rp Rq:Ac),Al X C #[v',u'] 157->W.1.size<=C->Da W.1.size X 299 8 v'->Da W.1.size X 117 2 u'->Ae W.1.size W X->Q .normal ⟨#[u0,Ag (some ⟨B,0,none⟩),u2,Ag (some ⟨C,0,none⟩),u4,u5,z6,z7,z8,z9,Ro,Rp,Rq,Nn,Np,Nq,Nr,Ns,Nt,Nu,Nv,Nw,Nx,Ny,Nz,N0,N1,N2,N3],[]⟩ X) :
  Code.wp ARt (SS 1) Q ⟨#[u0,Ag (some ⟨B,0,none⟩),u2,u3,u4,u5,u6,u7,u8,u9,Nj,Nk,Nm,Nn,Np,Nq,Nr,Ns,Nt,Nu,Nv,Nw,Nx,Ny,Nz,N0,N1,N2,N3],[]⟩ W:=by
 conv=>arg 2;whnf
 have HX:=Qa bO;have nW:=Qa (fun (X:Aa) (hb:Ae W.1.size W X)=>qlm X v (hv.below hb))
 have fZ:=Qa (fun (X:Aa) (hb:Ae W.1.size W X)=>ql3 X u (hu.below hb))
 have lB:=jB.lt;have cO:=Qa (fun (w':Aa) (hb:Ae W.1.size W w')=>show w'.cell? ⟨B,0,none⟩=some v/\w'.cell? ⟨B,1,none⟩=some u from ⟨(jB.below hb lB).cell 0,(jB.below hb lB).cell 1⟩)
 have HJ:=Qa jB;clear bO hv hu;refine zo (fun w'=>w'.cell? ⟨B,0,none⟩=some v/\w'.cell? ⟨B,1,none⟩=some u) 8 (by kernel_rfl) ?_
 have HS:=aj (show W.drew.cell? ⟨B,0,none⟩=some v from jB.cell 0) (show W.drew.cell? ⟨B,1,none⟩=some u from jB.cell 1);clear jB;refine qp (by kernel_rfl) bV [0,1,3,4] (by kernel_rfl) (by decide) HS ?_
 iterate 4 (refine De (v:=?_) rfl ?_ ?_;rotate_left;(· (first|(refine Or.inl ⟨by rfl,?_⟩;rintro w' ⟨h0,h1⟩;go_simp;try with_reducible rfl)));simp only[ai,af,ag,Act.put,Ad,Ai,aa])
 refine Df ?_;refine kq (i:=2) (j:=7) (by kernel_rfl) rfl rfl (fun K hK=>?_) (fun K hK=>?_)
 ·go_simp
  refine (nW.out W.drew (qf (qd W))).mono ?_
  rintro e w3 ⟨y3,rfl,hv3,hb3⟩
  obtain⟨p3,c3,rfl⟩:=Row.AS hv3;have bQ:=qe (qf (qd W)) hb3;refine hK.out _ _ (fun _=>cO.out w3 bQ) ?_
  clear hK K
  try simp only[Act.put,Ad,Ai,aa]
  refine kq (i:=5) (j:=7) (by kernel_rfl) rfl rfl (fun K hK=>?_) (fun K hK=>?_)
  ·go_simp
   refine (fZ.out w3 (bQ)).mono ?_
   rintro e w4 ⟨y4,rfl,fQ,hb4⟩
   obtain⟨p4,c4,rfl⟩:=Row.AS fQ;have eP:=qe (bQ) hb4;refine hK.out _ _ (fun _=>cO.out w4 eP) ?_
   clear hK K
   try simp only[Act.put,Ad,Ai,aa]
   refine qp (by kernel_rfl) bV [6] (by kernel_rfl) (by decide) (cO.out w4 eP) ?_
   iterate 1 (refine De (v:=?_) rfl ?_ ?_;rotate_left;(· (first|(refine Or.inl ⟨by rfl,?_⟩;rintro w' ⟨h0,h1⟩;go_simp;try with_reducible rfl)));simp only[ai,af,ag,Act.put,Ad,Ai,aa])
   refine Df ?_;refine qg (i:=7) (by kernel_rfl) rfl fun K hK=>?_
   go_simp;refine hK.out _ _ (fun _=>cO.out _ (qc eP _)) ?_
   clear hK K
   try simp only[Act.put,Ad,Ai,aa]
   refine qg (i:=8) (by kernel_rfl) rfl fun K hK=>?_
   go_simp;refine hK.out _ _ (fun h=>absurd h (by decide)) ?_
   clear hK K
   try simp only[Act.put,Ad,Ai,aa]
   refine zd (by kernel_rfl) ?_
   exact HX.out _ w4.1.size _ _ _ _ _ _ _ _ _ (Al.new w4 _ _) eP.size (((hv3.mono (by exact Qk _)).below hb4).below (qc (qd w4) _)) ((fQ.mono bQ.size).below (qc (qd w4) _)) (qc eP _)
  ·go_simp
   refine hK.out _ _ (fun _=>cO.out _ (qc bQ _)) ?_
   clear hK K
   try simp only[Act.put,Ad,Ai,aa]
   refine qg (i:=5) (by kernel_rfl) rfl fun K hK=>?_
   go_simp;refine (fZ.out _ (qc bQ _)).mono ?_
   rintro e w4 ⟨y4,rfl,fQ,hb4⟩
   obtain⟨p4,c4,rfl⟩:=Row.AS fQ;have eP:=qe (qc bQ _) hb4;refine hK.out _ _ (fun _=>cO.out w4 eP) ?_
   clear hK K
   try simp only[Act.put,Ad,Ai,aa]
   have jC:Al w4 w3.1.size #[Ah none 0 0,Ah none 0 0] 157:=(Al.new w3 _ _).below hb4 (Al.new w3 _ _).lt;have cC:=jC.cell;have zC:=jC.free;have lC:=jC.lt;refine qp (by kernel_rfl) bV [6] (by kernel_rfl) (by decide) (cO.out w4 eP) ?_
   iterate 1 (refine De (v:=?_) rfl ?_ ?_;rotate_left;(· (first|(refine Or.inl ⟨by rfl,?_⟩;rintro w' ⟨h0,h1⟩;go_simp;try with_reducible rfl)));simp only[ai,af,ag,Act.put,Ad,Ai,aa])
   refine Df ?_;refine qg (i:=8) (by kernel_rfl) rfl fun K hK=>?_
   go_simp;refine hK.out _ _ (fun h=>absurd h (by decide)) ?_
   clear hK K
   try simp only[Act.put,Ad,Ai,aa]
   refine zd (by kernel_rfl) ?_
   exact HX.out _ w3.1.size _ _ _ _ _ _ _ _ _ ((jC.set 0 _).set 1 _) bQ.size (((((hv3.mono (by exact Qk _)).below (qc (qd w3) _)).below hb4).set (fun k hk=>az (hv3.lt hk)) _).set (fun k hk=>az (hv3.lt hk)) _) ((((fQ.mono (Qo bQ.size (by simp))).set (fun k hk=>ay (Qn (by simp) (fQ.ge hk))) _).set (fun k hk=>ay (Qn (by simp) (fQ.ge hk))) _)) ((eP.setCell (by exact bQ.size) _).setCell (by exact bQ.size) _)
 ·go_simp
  refine hK.out _ _ (fun _=>cO.out _ (qc (qf (qd W)) _)) ?_
  clear hK K
  try simp only[Act.put,Ad,Ai,aa]
  refine qg (i:=2) (by kernel_rfl) rfl fun K hK=>?_
  go_simp;refine (nW.out _ (qc (qf (qd W)) _)).mono ?_
  rintro e w3 ⟨y3,rfl,hv3,hb3⟩
  obtain⟨p3,c3,rfl⟩:=Row.AS hv3;have bQ:=qe (qc (qf (qd W)) _) hb3;refine hK.out _ _ (fun _=>cO.out w3 bQ) ?_
  clear hK K
  try simp only[Act.put,Ad,Ai,aa]
  refine qg (i:=5) (by kernel_rfl) rfl fun K hK=>?_
  go_simp;refine (fZ.out w3 (bQ)).mono ?_
  rintro e w4 ⟨y4,rfl,fQ,hb4⟩
  obtain⟨p4,c4,rfl⟩:=Row.AS fQ;have eP:=qe (bQ) hb4;refine hK.out _ _ (fun _=>cO.out w4 eP) ?_
  clear hK K
  try simp only[Act.put,Ad,Ai,aa]
  have jC:Al w4 W.1.size #[Ah none 0 0,Ah none 0 0] 157:=((Al.new W.drew _ _).below hb3 (Al.new W.drew _ _).lt).below hb4 ((Al.new W.drew _ _).below hb3 (Al.new W.drew _ _).lt).lt;have cC:=jC.cell;have zC:=jC.free;have lC:=jC.lt;refine qp (by kernel_rfl) bV [6] (by kernel_rfl) (by decide) (cO.out w4 eP) ?_
  iterate 1 (refine De (v:=?_) rfl ?_ ?_;rotate_left;(· (first|(refine Or.inl ⟨by rfl,?_⟩;rintro w' ⟨h0,h1⟩;go_simp;try with_reducible rfl)));simp only[ai,af,ag,Act.put,Ad,Ai,aa])
  refine Df ?_;refine qg (i:=8) (by kernel_rfl) rfl fun K hK=>?_
  go_simp;refine hK.out _ _ (fun h=>absurd h (by decide)) ?_
  clear hK K
  try simp only[Act.put,Ad,Ai,aa]
  refine zd (by kernel_rfl) ?_
  exact HX.out _ W.1.size _ _ _ _ _ _ _ _ _ ((jC.set 0 _).set 1 _) (Qk _) (((((hv3.mono (by simp)).below hb4).set (fun k hk=>ay (Qn (by simp) (hv3.ge hk))) _).set (fun k hk=>ay (Qn (by simp) (hv3.ge hk))) _)) ((((fQ.mono bQ.size).set (fun k hk=>ay (Qn (Qn (by simp) hb3.size) (fQ.ge hk))) _).set (fun k hk=>ay (Qn (Qn (by simp) hb3.size) (fQ.ge hk))) _)) ((eP.setCell (by exact Qk _) _).setCell (by exact Qk _) _)
def qpi (w:Aa)(v u:Ac)(h:Nl w 299 8 v)(k:Nl w 117 2 u):Ab ARt 157 #[Ak #[v,u]] w fun e w'=>∃ v' u',e=O (Ak #[v',u'])/\Da w.1.size w' 299 8 v'/\Da w.1.size w' 117 2 u'/\Ae w.1.size w w':=by
 have HV:=Qa h;have HU:=Qa k;clear h k;go_enter func157,ntmps157;go_upto_region 1 with fail;obtain⟨W,hW⟩:=Ja0 ((w.alloc (ARu #[v,u] 157)).alloc (ARu #[Ah none 0 0,Ah none 0 0] 157));rw[<-hW];have HB:=Qa (show Ae w.1.size w W from by rw[hW];exact qc (qc (qd w) _) _)
 have jB:Al W w.1.size #[v,u] 157:=by rw[hW];exact (Al.new w _ _).alloc _
 have jR:Al W (w.1.size+1) #[Ah none 0 0,Ah none 0 0] 157:=by rw[hW];exact Al.Ap _ _ _ _ _ (by simp) rfl
 have hws:W.1.size=w.1.size+2:=by rw[hW];simp
 clear hW;refine RY _ W w.1.size v u jB (HV.out.below HB.out) (HU.out.below HB.out) (fun c d x a w h=>by cases d<;>exact h) ?_
 intro X C v' u' z0 z1 z2 z3 z4 z5 z6 jC hC hv hu hbX;obtain⟨pv,cv,rfl⟩:=Row.AS hv;obtain⟨pu,cu,rfl⟩:=Row.AS hu;have fU:=jR.below hbX jR.lt;have HR:=Qa (aj hv (aj hu (aj hbX fU)));have HWs:=Qa hws;have cC:=jC.cell;have sC:=jC.lt;clear jB jR hv hu hbX fU hws hC jC;go_wp2_with fail;go_loopw [15] (fun ix wr=>ix=I Z 0/\X=wr) (fun _ _=>0)
 case atStart=>exact⟨rfl,rfl⟩
 case round =>
  obtain⟨rfl,rfl⟩:=hrel;obtain⟨hv,hu,hbX,fU⟩:=HR.out;have cR:=fU.cell;have zR:=fU.free;have sR:=fU.lt;go_wp2_with fail;have j9:=(fU.set 0 (.slice pv 0 cv)).set 1 (.slice pu 0 cu);have c9:=j9.cell;have s9:=j9.lt;have hg:∀ (y:Ac)(e:TypeId)(sz:Nat),Da W.1.size X e sz y->∀ k,y.ownBlock=some k->k≠w.1.size+1:=fun y e sz hy k hk=>by have:=hy.ge hk;have:=HWs.out;omega
  refine bodyPost_ret (v:=Ak #[.slice pv 0 cv,.slice pu 0 cu]) (by simp[results,results157,go_sem,c9,s9]) rfl ⟨_,_,rfl,(((hv.set (hg _ _ _ hv) _).set (hg _ _ _ hv) _).mono HB.out.size),(((hu.set (hg _ _ _ hu) _).set (hg _ _ _ hu) _).mono HB.out.size),((qe HB.out hbX).setCell (by exact aA _) _).setCell (by exact aA _) _⟩
def qhi (w:Aa)(v u:Ac)(h:Nl w 299 8 v)(k:Nl w 117 2 u):Ab ARt 223 #[Ak #[v,u]] w fun e w'=>∃ v' u',e=O (Ak #[v',u'])/\Da w.1.size w' 299 8 v'/\Da w.1.size w' 117 2 u'/\Ae w.1.size w w':=by
 have HV:=Qa h;have HU:=Qa k;clear h k;go_enter func223,ntmps223;go_upto_region 1 with fail;obtain⟨W,hW⟩:=Ja0 ((w.alloc (ARu #[v,u] 157)).alloc (ARu #[Ah none 0 0,Ah none 0 0] 157));rw[<-hW];have HB:=Qa (show Ae w.1.size w W from by rw[hW];exact qc (qc (qd w) _) _)
 have jB:Al W w.1.size #[v,u] 157:=by rw[hW];exact (Al.new w _ _).alloc _
 have jR:Al W (w.1.size+1) #[Ah none 0 0,Ah none 0 0] 157:=by rw[hW];exact Al.Ap _ _ _ _ _ (by simp) rfl
 have hws:W.1.size=w.1.size+2:=by rw[hW];simp
 clear hW;refine RQ _ W w.1.size v u jB (HV.out.below HB.out) (HU.out.below HB.out) (fun c d x a w h=>by cases d<;>exact h) ?_
 intro X C v' u' z0 z1 z2 z3 z4 z5 z6 jC hC hv hu hbX;obtain⟨pv,cv,rfl⟩:=Row.AS hv;obtain⟨pu,cu,rfl⟩:=Row.AS hu;have fU:=jR.below hbX jR.lt;have HR:=Qa (aj hv (aj hu (aj hbX fU)));have HWs:=Qa hws;have cC:=jC.cell;have sC:=jC.lt;clear jB jR hv hu hbX fU hws hC jC;go_wp2_with fail;go_loopw [16] (fun ix wr=>ix=I Z 0/\X=wr) (fun _ _=>0)
 case atStart=>exact⟨rfl,rfl⟩
 case round =>
  obtain⟨rfl,rfl⟩:=hrel;obtain⟨hv,hu,hbX,fU⟩:=HR.out;have cR:=fU.cell;have zR:=fU.free;have sR:=fU.lt;go_wp2_with fail;have j9:=(fU.set 0 (.slice pv 0 cv)).set 1 (.slice pu 0 cu);have c9:=j9.cell;have s9:=j9.lt;have hg:∀ (y:Ac)(e:TypeId)(sz:Nat),Da W.1.size X e sz y->∀ k,y.ownBlock=some k->k≠w.1.size+1:=fun y e sz hy k hk=>by have:=hy.ge hk;have:=HWs.out;omega
  refine bodyPost_ret (v:=Ak #[.slice pv 0 cv,.slice pu 0 cu]) (by simp[results,results223,go_sem,c9,s9]) rfl ⟨_,_,rfl,(((hv.set (hg _ _ _ hv) _).set (hg _ _ _ hv) _).mono HB.out.size),(((hu.set (hg _ _ _ hu) _).set (hg _ _ _ hu) _).mono HB.out.size),((qe HB.out hbX).setCell (by exact aA _) _).setCell (by exact aA _) _⟩
def qm8 {w:Aa}{B:Nat}{cs:Array Ac}{t:TypeId}(h:Al w B cs t):∀ j u,cs.toList[j]?=some u->w.cell? ((⟨B,0,none⟩:Addr).add j)=some u:=fun j u hu=>by
 have hadd:(⟨B,0,none⟩:Addr).add j=⟨B,j,none⟩:=by unfold Addr.add;split<;>simp_all
 rw[hadd,h.cell];simpa using hu
def st2 (W:Aa)(b:Nat)(u v:Ac):Aa:=(W.setCell ⟨b,0,none⟩ u).setCell ⟨b,1,none⟩ v
def Ps (W:Aa)(b:Nat)(r:Int):Aa:=(((((W.setCell ⟨b,0,none⟩ (I Z r)).setCell ⟨b,1,none⟩ (I Z 0)).setCell ⟨b,2,none⟩ (I Z 0)).setCell ⟨b,3,none⟩ (I Z 0)).setCell ⟨b,4,none⟩ (I Z 0)).setCell ⟨b,5,none⟩ (I Z 0)
section
variable {w W : Aa} {b c n : Nat} {cs : Array Ac} {t : TypeId} {u v x y : Ac}
def gi (j:Al W c cs t)(h:c≠b):Al (st2 W b u v) c cs t:=(j.Am (a:=⟨b,0,none⟩) h _).Am (a:=⟨b,1,none⟩) h _
def qm9 (j:Al W b #[x,y] t):Al (st2 W b u v) b #[u,v] t:=(j.set 0 u).set 1 v
def qfw (k:Ae n w W)(h:n<=b):Ae n w (st2 W b u v):=(k.setCell (p:=⟨b,0,none⟩) h _).setCell (p:=⟨b,1,none⟩) h _
def m9 (j:Al W c cs t)(h:c≠b)(r:Int):Al (Ps W b r) c cs t:=((((((j.Am (a:=⟨b,0,none⟩) h _).Am (a:=⟨b,1,none⟩) h _).Am (a:=⟨b,2,none⟩) h _).Am (a:=⟨b,3,none⟩) h _).Am (a:=⟨b,4,none⟩) h _).Am (a:=⟨b,5,none⟩) h _)
def NH (j:Al W b (ER 0) t)(r:Int):Al (Ps W b r) b (ER r) t:=((((((j.set 0 _).set 1 _).set 2 _).set 3 _).set 4 _).set 5 _)
def YW (k:Ae n w W)(h:n<=b)(r:Int):Ae n w (Ps W b r):=((((((k.setCell (p:=⟨b,0,none⟩) h _).setCell (p:=⟨b,1,none⟩) h _).setCell (p:=⟨b,2,none⟩) h _).setCell (p:=⟨b,3,none⟩) h _).setCell (p:=⟨b,4,none⟩) h _).setCell (p:=⟨b,5,none⟩) h _)
end
def Nc (w:Aa):(Instr.makeSlice 25 (I Z 0) (I Z 0)).run ARt w=.ok (Ah (some ⟨w.1.size,0,none⟩) 0 0) (w.alloc (ARu #[] 3)):=by
 kernel_rfl
def Nf (w:Aa):(Instr.makeSlice 25 (I Z 1) (I Z 1)).run ARt w=.ok (Ah (some ⟨w.1.size,0,none⟩) 1 1) (w.alloc (ARu #[I Z 0] 3)):=by
 kernel_rfl
noncomputable def SR (n:Nat):Code:=((Tryz.f159.body.bind (wq n)).getD .skip)
abbrev Ub (bX bS bD:Nat)(p:Option Addr)(c:Nat)(w':Aa):Prop:=w'.cell? ⟨bX,0,none⟩=some (.slice p 0 c)/\w'.cell? ⟨bS,0,none⟩=some (I Z 0)/\w'.cell? ⟨bS,1,none⟩=some (I Z 1)/\w'.cell? ⟨bS,2,none⟩=some (.bool false)/\w'.cell? ⟨bS,3,none⟩=some (.bool false)/\w'.cell? ⟨bD,3,none⟩=some (I Z 0)/\w'.cell? ⟨bD,4,none⟩=some (I Z 1)
abbrev SM (b b2:Nat)(p:Option Addr)(c:Nat)(q:Option Addr)(d:Nat)(w':Aa):Prop:=w'.cell? ⟨b,0,none⟩=some (.slice p 1 c)/\w'.cell? ⟨b,1,none⟩=some (.slice q 0 d)/\w'.cell? ⟨b2,0,none⟩=some (I Z 1)/\w'.cell? ⟨b2,1,none⟩=some (I Z 0)/\w'.cell? ⟨b2,2,none⟩=some (I Z 0)/\w'.cell? ⟨b2,3,none⟩=some (I Z 0)/\w'.cell? ⟨b2,4,none⟩=some (I Z 0)/\w'.cell? ⟨b2,5,none⟩=some (I Z 0)
def PU (Q:Exit->Act->Aa->Prop) (W:Aa) (n bX bS bD:Nat) (p:Option Addr) (c:Nat) (u:Ac) {u0 u1 u2 u4 u5 u6 u8 u9 Ni Nj Nk Nl Nm Nn Np Nq Nr Ns Nt Nu Nv Nw Nx Ny Nz N0 N1 N2 N3 N4 N5 N6 N7 N8 N9 Ra Rb Rc Re Rf Rg Rh Ri Rj Rk Rl Rm Rn Ro Rp Rq Rr Rs Rt Ru Rv Rw Rx Ry Rz R0 R1 R2 R3 R4 R5 R6 R7 R8 R9 Va Vb Vc Vd Ve Vf Vg Vh Vi Vj Vk Vl Vm Vn Vo Vp Vq Vr Vs Vt Vu Vv Vw Vx Vy Vz V0 V1 V2 V3 V4 V5 V6 V7 V8 V9 Xa Xb Xc Xd Xe Xf Xg Xh Xi Xj Xk Xl Xm Xn Xo Xp Xq Xr Xs Xt Xu Xv Xw Xx Xy Xz X0 X1 X2 X3 X4 X5 X6 X7 X8 X9 Ya Yb Yc Yd Ye Yf Yg Yh Yi Yj Yk Yl Ym Yn Yo Yp Yr Ys Yt Yu Yv Yw Yx Yy Yz Y0 Y1 Y2 Y3 Y4 Y5 Y6 Y7 Y8 Y9 Ga Gb Gc Gd Ge Gf Gg Gh Gi Gj Gk Gl Gm Gn Gp Gq Gr Gs Gt Gu Gv Gw Gx Gy Gz G0 G1 G2 G3 G4 G5 G6 G7 G8 G9 Ja Jb Jc Jd:Ac} (hn:n<=bX) (jX:Al W bX #[.slice p 0 c,u] 157) (jS:Al W bS #[I Z 0,I Z 1,.bool false,.bool false] 93) (jD:Al W bD GP 73) (hr:Da n W 299 8 (.slice p 0 c)) (eQ:∀ k,(Value.slice p 0 c).ownBlock=some k->k≠bX/\k≠bS/\k≠bD)
  (bV:∀ c d x a w,Q (.panic c) (a.put d x) w->Q (.panic c) a w)
  (bO:∀ (X:Aa) (p':Option Addr) (c':Nat) (Je Jf Jg Jh Ji Jj Jk Jl Jm Jn Jo Jp Jq Jr:Ac),Ae n W X->Al X bX #[.slice p' 1 c',u] 157->Q .normal ⟨#[u0,u1,u2,I Z 1,u4,u5,u6,Ag (some ⟨bD,0,none⟩),u8,u9,Ni,Nj,Nk,Nl,Ag (some ⟨bX,0,none⟩),Nm,Nn,Np,Nq,Ag (some ⟨bS,0,none⟩),Nr,Ns,Nt,Nu,Nv,Nw,Nx,Ny,Nz,N0,N1,N2,N3,N4,N5,N6,N7,N8,N9,Ra,Rb,Rc,Re,Rf,Rg,Rh,Ri,Rj,Rk,Rl,Rm,Rn,Ro,Rp,Rq,Rr,Rs,Rt,Ru,Je,Jf,Jg,Jh,Ji,Jj,Jk,Jl,Jm,Jn,Jo,Jp,Jq,Jr,R9,Va,Vb,Vc,Vd,Ve,Vf,Vg,Vh,Vi,Vj,Vk,Vl,Vm,Vn,Vo,Vp,Vq,Vr,Vs,Vt,Vu,Vv,Vw,Vx,Vy,Vz,V0,V1,V2,V3,V4,V5,V6,V7,V8,V9,Xa,Xb,Xc,Xd,Xe,Xf,Xg,Xh,Xi,Xj,Xk,Xl,Xm,Xn,Xo,Xp,Xq,Xr,Xs,Xt,Xu,Xv,Xw,Xx,Xy,Xz,X0,X1,X2,X3,X4,X5,X6,X7,X8,X9,Ya,Yb,Yc,Yd,Ye,Yf,Yg,Yh,Yi,Yj,Yk,Yl,Ym,Yn,Yo,Yp,Yr,Ys,Yt,Yu,Yv,Yw,Yx,Yy,Yz,Y0,Y1,Y2,Y3,Y4,Y5,Y6,Y7,Y8,Y9,Ga,Gb,Gc,Gd,Ge,Gf,Gg,Gh,Gi,Gj,Gk,Gl,Gm,Gn,Gp,Gq,Gr,Gs,Gt,Gu,Gv,Gw,Gx,Gy,Gz,G0,G1,G2,G3,G4,G5,G6,G7,G8,G9,Ja,Jb,Jc,Jd],[]⟩ X) :
  Code.wp ARt (SR 13) Q ⟨#[u0,u1,u2,I Z 1,u4,u5,u6,Ag (some ⟨bD,0,none⟩),u8,u9,Ni,Nj,Nk,Nl,Ag (some ⟨bX,0,none⟩),Nm,Nn,Np,Nq,Ag (some ⟨bS,0,none⟩),Nr,Ns,Nt,Nu,Nv,Nw,Nx,Ny,Nz,N0,N1,N2,N3,N4,N5,N6,N7,N8,N9,Ra,Rb,Rc,Re,Rf,Rg,Rh,Ri,Rj,Rk,Rl,Rm,Rn,Ro,Rp,Rq,Rr,Rs,Rt,Ru,Rv,Rw,Rx,Ry,Rz,R0,R1,R2,R3,R4,R5,R6,R7,R8,R9,Va,Vb,Vc,Vd,Ve,Vf,Vg,Vh,Vi,Vj,Vk,Vl,Vm,Vn,Vo,Vp,Vq,Vr,Vs,Vt,Vu,Vv,Vw,Vx,Vy,Vz,V0,V1,V2,V3,V4,V5,V6,V7,V8,V9,Xa,Xb,Xc,Xd,Xe,Xf,Xg,Xh,Xi,Xj,Xk,Xl,Xm,Xn,Xo,Xp,Xq,Xr,Xs,Xt,Xu,Xv,Xw,Xx,Xy,Xz,X0,X1,X2,X3,X4,X5,X6,X7,X8,X9,Ya,Yb,Yc,Yd,Ye,Yf,Yg,Yh,Yi,Yj,Yk,Yl,Ym,Yn,Yo,Yp,Yr,Ys,Yt,Yu,Yv,Yw,Yx,Yy,Yz,Y0,Y1,Y2,Y3,Y4,Y5,Y6,Y7,Y8,Y9,Ga,Gb,Gc,Gd,Ge,Gf,Gg,Gh,Gi,Gj,Gk,Gl,Gm,Gn,Gp,Gq,Gr,Gs,Gt,Gu,Gv,Gw,Gx,Gy,Gz,G0,G1,G2,G3,G4,G5,G6,G7,G8,G9,Ja,Jb,Jc,Jd],[]⟩ W:=by
 conv=>arg 2;whnf
 obtain⟨iU,hi,hsI,bZ,bT⟩:=UG;have huA:=underlying155;have HX:=Qa bO;have HR:=Qa hr;have HJ:=Qa (aj jX (aj jS jD));have cO:=Qa (fun (w':Aa) (hb:Ae W.1.size W w')=>show Ub bX bS bD p c w' from
  ⟨((jX.below hb jX.lt).cell 0),((jS.below hb jS.lt).cell 0),((jS.below hb jS.lt).cell 1),((jS.below hb jS.lt).cell 2),((jS.below hb jS.lt).cell 3),((jD.below hb jD.lt).cell 3),((jD.below hb jD.lt).cell 4)⟩)
 have lX:=jX.lt;obtain⟨o1,ho1⟩:∃ o1:Own,o1=fun b=>if (Value.slice p 0 c).ownBlock=some b then (1,0) else (0,0):=⟨_,rfl⟩
 have wS:=Qa (fun (w':Aa) (hb:Ae W.1.size W w')=>show Row w' o1 (1,0) 299 8 (.slice p 0 c) 0 [] from ⟨(hr.below hb).own,fun k hk=>by rw[ho1];exact if_pos hk⟩)
 have HFin:=Qa (fun (W3 w5:Aa) (o5:Own) (hb:Ae W.1.size W W3) (hst:Stp (fun u=>u=(1,0)) o1 o5 W3 w5)=>show (Ub bX bS bD p c w5)/\Al w5 bX #[.slice p 0 c,u] 157/\Ae n W w5 from by
  have e1:∀ k,(∀ b,(Value.slice p 0 c).ownBlock=some b->b≠k)->o1 k=(0,0):=fun k hk=>by rw[ho1];exact if_neg fun h=>hk k h rfl
  have kX:=(jX.below hb jX.lt).Ao hst (by rw[e1 bX fun b h=>(eQ b h).1];simp)
  have kS:=(jS.below hb jS.lt).Ao hst (by rw[e1 bS fun b h=>(eQ b h).2.1];simp)
  have kD:=(jD.below hb jD.lt).Ao hst (by rw[e1 bD fun b h=>(eQ b h).2.2];simp)
  refine⟨⟨kX.cell 0,kS.cell 0,kS.cell 1,kS.cell 2,kS.cell 3,kD.cell 3,kD.cell 4⟩,kX,(hb.mono (Qo hn (aC jX.lt))).trans ⟨hst.os,hst.tape,hst.output,hst.size,fun k hk=>hst.block k (Qn (Qn (Qn hk hn) (aC jX.lt)) hb.size) ?_⟩⟩
  rw[e1 k fun b h=>ay (Qn hk (hr.ge h))];simp)
 clear bO hr jX jS jD ho1 eQ;have m0:=Nc;have m1:=Nf;refine zo (Ub bX bS bD p c) 14 (by kernel_rfl) ?_
 have HS:=cO.out W.drew (qf (qd W));refine qp (by kernel_rfl) bV [0,1,2,3,4,5,7,8] (by kernel_rfl) (by decide) HS ?_
 iterate 8 (refine De (v:=?_) rfl ?_ ?_;rotate_left;(· (first|(refine Or.inl ⟨by rfl,?_⟩;rintro w' ⟨h0,h1,h2,h3,h4,h5,h6⟩;go_simp;try with_reducible rfl)));simp only[ai,af,ag,Act.put,Ad,Ai,aa])
 refine Df ?_;refine kq (i:=6) (j:=9) (by kernel_rfl) rfl rfl (fun K hK=>?_) (fun K hK=>?_)
 ·go_simp
  refine hK.out _ _ (fun _=>cO.out _ (qc (qf (qd W)) _)) ?_
  clear hK K
  try simp only[Act.put,Ad,Ai,aa]
  refine qg (i:=9) (by kernel_rfl) rfl fun K hK=>?_
  go_simp;refine hK.out _ _ (fun _=>cO.out _ (qc (qc (qf (qd W)) _) _)) ?_
  clear hK K
  try simp only[Act.put,Ad,Ai,aa]
  refine qp (by kernel_rfl) bV [10] (by kernel_rfl) (by decide) (cO.out _ (qc (qc (qf (qd W)) _) _)) ?_
  iterate 1 (refine De (v:=?_) rfl ?_ ?_;rotate_left;(· (first|(refine Or.inl ⟨by rfl,?_⟩;rintro w' ⟨h0,h1,h2,h3,h4,h5,h6⟩;go_simp;try with_reducible rfl)));simp only[ai,af,ag,Act.put,Ad,Ai,aa])
  refine Df ?_;obtain⟨W2,hW2⟩:=Ja0 (((W.alloc (ARu #[] 3)).alloc (ARu #[I Z 0] 3)).drew);rw[<-hW2];have hb2:Ae W.1.size W W2:=by rw[hW2];exact qf (qc (qc (qd W) _) _)
  clear hW2 m0 m1;refine qg (i:=11) (by kernel_rfl) rfl fun K hK=>?_
  go_simp;refine hK.out _ _ (fun _=>cO.out _ (qc hb2 _)) ?_
  clear hK K
  try simp only[Act.put,Ad,Ai,aa]
  refine qg (i:=12) (by kernel_rfl) rfl fun K hK=>?_
  have jn:=Al.new W2 #[I Z 1,I Z 0,I Z 1,.bool false,.bool false,Ah (some ⟨W.1.size,0,none⟩) 0 0,Ah (some ⟨W.1.size+1,0,none⟩) 1 1,.bool false] 299;refine qv _ (by rfl) _ _ _ (by rfl) 299 iU _ 8 88 huA hi bT hsI bZ (by rfl) (by decide) o1 (1,0) _ 0 [] (by rfl) (wS.out _ (qc hb2 _)) ⟨W2.1.size,0,none⟩ 1 1 [I Z 1,I Z 0,I Z 1,.bool false,.bool false,Ah (some ⟨W.1.size,0,none⟩) 0 0,Ah (some ⟨W.1.size+1,0,none⟩) 1 1,.bool false] (by rfl) (by rfl) (qm8 jn) (by intro x hx;simp at hx;rcases hx with rfl|rfl|rfl|rfl|rfl|rfl|rfl|rfl<;>rfl) (by decide) (by decide) ?_
  intro v5 w5 hown hst;obtain⟨p5,c5,rfl⟩:=hown.AS;obtain⟨hS5,uX,hB5⟩:=HFin.out _ w5 _ (qc hb2 _) hst;have cX:=uX.cell;have zX:=uX.free;have sX:=uX.lt;have iG:=hS5;clear hown hst jn;refine hK.out _ _ (fun _=>iG) ?_
  clear hK K
  try simp only[Act.put,Ad,Ai,aa]
  refine qp (by kernel_rfl) bV [13] (by kernel_rfl) (by decide) iG ?_
  iterate 1 (refine De (v:=?_) rfl ?_ ?_;rotate_left;(· (first|(refine Or.inl ⟨by rfl,?_⟩;rintro w' ⟨h0,h1,h2,h3,h4,h5,h6⟩;go_simp;try with_reducible rfl)));simp only[ai,af,ag,Act.put,Ad,Ai,aa])
  refine Df ?_;refine qg (i:=14) (by kernel_rfl) rfl fun K hK=>?_
  go_simp;refine hK.out _ _ (fun h=>absurd h (by decide)) ?_
  clear hK K
  try simp only[Act.put,Ad,Ai,aa]
  refine zd (by kernel_rfl) ?_
  exact HX.out _ _ _ _ _ _ _ _ _ _ _ _ _ _ _ _ _ (hB5.setCell (by exact hn) _) (uX.set 0 _)
 ·go_simp
  refine hK.out _ _ (fun _=>cO.out _ (qc (qf (qd W)) _)) ?_
  clear hK K
  try simp only[Act.put,Ad,Ai,aa]
  refine qg (i:=6) (by kernel_rfl) rfl fun K hK=>?_
  go_simp;refine hK.out _ _ (fun _=>cO.out _ (qc (qc (qf (qd W)) _) _)) ?_
  clear hK K
  try simp only[Act.put,Ad,Ai,aa]
  refine qp (by kernel_rfl) bV [10] (by kernel_rfl) (by decide) (cO.out _ (qc (qc (qf (qd W)) _) _)) ?_
  iterate 1 (refine De (v:=?_) rfl ?_ ?_;rotate_left;(· (first|(refine Or.inl ⟨by rfl,?_⟩;rintro w' ⟨h0,h1,h2,h3,h4,h5,h6⟩;go_simp;try with_reducible rfl)));simp only[ai,af,ag,Act.put,Ad,Ai,aa])
  refine Df ?_;obtain⟨W2,hW2⟩:=Ja0 (((W.alloc (ARu #[I Z 0] 3)).alloc (ARu #[] 3)).drew);rw[<-hW2];have hb2:Ae W.1.size W W2:=by rw[hW2];exact qf (qc (qc (qd W) _) _)
  clear hW2 m0 m1;refine qg (i:=11) (by kernel_rfl) rfl fun K hK=>?_
  go_simp;refine hK.out _ _ (fun _=>cO.out _ (qc hb2 _)) ?_
  clear hK K
  try simp only[Act.put,Ad,Ai,aa]
  refine qg (i:=12) (by kernel_rfl) rfl fun K hK=>?_
  have jn:=Al.new W2 #[I Z 1,I Z 0,I Z 1,.bool false,.bool false,Ah (some ⟨W.1.size+1,0,none⟩) 0 0,Ah (some ⟨W.1.size,0,none⟩) 1 1,.bool false] 299;refine qv _ (by rfl) _ _ _ (by rfl) 299 iU _ 8 88 huA hi bT hsI bZ (by rfl) (by decide) o1 (1,0) _ 0 [] (by rfl) (wS.out _ (qc hb2 _)) ⟨W2.1.size,0,none⟩ 1 1 [I Z 1,I Z 0,I Z 1,.bool false,.bool false,Ah (some ⟨W.1.size+1,0,none⟩) 0 0,Ah (some ⟨W.1.size,0,none⟩) 1 1,.bool false] (by rfl) (by rfl) (qm8 jn) (by intro x hx;simp at hx;rcases hx with rfl|rfl|rfl|rfl|rfl|rfl|rfl|rfl<;>rfl) (by decide) (by decide) ?_
  intro v5 w5 hown hst;obtain⟨p5,c5,rfl⟩:=hown.AS;obtain⟨hS5,uX,hB5⟩:=HFin.out _ w5 _ (qc hb2 _) hst;have cX:=uX.cell;have zX:=uX.free;have sX:=uX.lt;have iG:=hS5;clear hown hst jn;refine hK.out _ _ (fun _=>iG) ?_
  clear hK K
  try simp only[Act.put,Ad,Ai,aa]
  refine qp (by kernel_rfl) bV [13] (by kernel_rfl) (by decide) iG ?_
  iterate 1 (refine De (v:=?_) rfl ?_ ?_;rotate_left;(· (first|(refine Or.inl ⟨by rfl,?_⟩;rintro w' ⟨h0,h1,h2,h3,h4,h5,h6⟩;go_simp;try with_reducible rfl)));simp only[ai,af,ag,Act.put,Ad,Ai,aa])
  refine Df ?_;refine qg (i:=14) (by kernel_rfl) rfl fun K hK=>?_
  go_simp;refine hK.out _ _ (fun h=>absurd h (by decide)) ?_
  clear hK K
  try simp only[Act.put,Ad,Ai,aa]
  refine zd (by kernel_rfl) ?_
  exact HX.out _ _ _ _ _ _ _ _ _ _ _ _ _ _ _ _ _ (hB5.setCell (by exact hn) _) (uX.set 0 _)
def Sj (w:Aa) (p:Option Addr) (c:Nat) (u:Ac) (seen:Int) (h:Nl w 299 8 (.slice p 0 c)) (k:Nl w 117 2 u):Ab ARt 159 #[Ak #[.slice p 0 c,u],.agg (ER 0),.agg GP,I Z 1,I Z seen] w fun e w'=>∃ p' c' q d,e=O (Aj #[Ak #[.slice p' 1 c',.slice q 0 d],.agg (ER 1),I Z 1,I Z 0])/\Ae w.1.size w w':=by
 obtain⟨pu,cu,rfl⟩:=Row.AS k;have HV:=Qa h;have HU:=Qa k;clear h k;unfold ER GP;go_enter func159,ntmps159;go_upto_region 1 with fail;obtain⟨W0,hW0⟩:=Ja0 (((((w.alloc (ARu #[.slice p 0 c,.slice pu 0 cu] 157)).alloc (ARu #[I Z 0,I Z 0,I Z 0,I Z 0,I Z 0,I Z 0] 56)).alloc (ARu #[I Z 1,I Z 0,I Z 0,I Z 0,I Z 1] 73)).alloc (ARu #[Ah none 0 0,Ah none 0 0] 157)).alloc (ARu #[I Z 0,I Z 0,I Z 0,I Z 0,I Z 0,I Z 0] 56));rw[<-hW0];have hB0:Ae w.1.size w W0:=by rw[hW0];exact qc (qc (qc (qc (qc (qd w) _) _) _) _) _
 have j5:Al W0 w.1.size #[.slice p 0 c,.slice pu 0 cu] 157:=by rw[hW0];exact ((((Al.new w _ _).alloc _).alloc _).alloc _).alloc _
 have j6:Al W0 (w.1.size+1) #[I Z 0,I Z 0,I Z 0,I Z 0,I Z 0,I Z 0] 56:=by rw[hW0];exact ((((Al.Ap _ _ _ _ _ (by simp) rfl).alloc _).alloc _).alloc _)
 have j7:Al W0 (w.1.size+2) #[I Z 1,I Z 0,I Z 0,I Z 0,I Z 1] 73:=by rw[hW0];exact ((Al.Ap _ _ _ _ _ (by simp) rfl).alloc _).alloc _
 have j10:Al W0 (w.1.size+3) #[Ah none 0 0,Ah none 0 0] 157:=by rw[hW0];exact (Al.Ap _ _ _ _ _ (by simp) rfl).alloc _
 have j11:Al W0 (w.1.size+4) #[I Z 0,I Z 0,I Z 0,I Z 0,I Z 0,I Z 0] 56:=by rw[hW0];exact Al.Ap _ _ _ _ _ (by simp) rfl
 have hs0:W0.1.size=w.1.size+5:=by rw[hW0];simp
 clear hW0;have HB0:=Qa hB0;have HJ:=Qa (aj j5 (aj j6 (aj j7 (aj j10 j11))));have iV:=Qa hs0;have HOm:=Qa (qhi W0 _ _ (HV.out.below hB0) (HU.out.below hB0));have c5:=j5.cell;have s5:=j5.lt;clear j5 j6 j7 j10 j11 hs0 hB0;go_upto_region 2 with (first
  | (go_at_call 223;refine HOm.out.mono ?_;rintro e w3 ⟨y3,y4,rfl,hv3,hu3,hb3⟩;obtain⟨p3,c3,rfl⟩:=Row.AS hv3;obtain⟨p4,c4,rfl⟩:=Row.AS hu3;have uQ:=Qa hv3;have HB3:=Qa hb3;clear hv3 hu3 hb3 c5 s5)
  | fail)
 obtain⟨W1,hW1⟩:=Ja0 (w3.alloc (ARu #[.slice p3 0 c3,.slice p4 0 c4] 157));rw[<-hW1];have HB1:=Qa (show Ae W0.1.size W0 W1 from by rw[hW1];exact qc HB3.out _)
 have jX:Al W1 w3.1.size #[.slice p3 0 c3,.slice p4 0 c4] 157:=by rw[hW1];exact Al.new w3 _ _
 have hV1:Da W0.1.size W1 299 8 (.slice p3 0 c3):=by rw[hW1];exact uQ.out.below (qc (qd w3) _)
 have HX1:=Qa (aj jX hV1);have lX:=jX.lt;have c7:=(HJ.out.2.2.1.below HB1.out HJ.out.2.2.1.lt).cell;have s7:=(HJ.out.2.2.1.below HB1.out HJ.out.2.2.1.lt).lt;have HR:=Qa (br 1 0 0 0 1);clear hW1 jX hV1 HOm;go_upto_region 4 with (first
  | (go_at_call 147;refine (HR.out _).mono ?_;rw[qh5];rintro e w4 ⟨rfl,hb4⟩;have mE:=Qa hb4;clear hb4 c7 s7)
  | fail)
 have kT:=Qa (qe HB1.out mE.out);have c5:=(HJ.out.1.below kT.out HJ.out.1.lt).cell;have s5:=(HJ.out.1.below kT.out HJ.out.1.lt).lt;have c6:=(HJ.out.2.1.below kT.out HJ.out.2.1.lt).cell;have s6:=(HJ.out.2.1.below kT.out HJ.out.2.1.lt).lt;have c7:=(HJ.out.2.2.1.below kT.out HJ.out.2.2.1.lt).cell;have s7:=(HJ.out.2.2.1.below kT.out HJ.out.2.2.1.lt).lt;have HF:=Qa (qpb w4 p c (.slice pu 0 cu));unfold ER GP at HF;go_upto_region 5 with (first
  | (go_at_call 224;refine HF.out.mono ?_;rintro e w5 ⟨rfl,hb5⟩;have gN:=Qa hb5;clear hb5 c5 s5 c6 s6 c7 s7)
  | fail)
 have qO:=Qa (qe kT.out gN.out);have c6:=(HJ.out.2.1.below qO.out HJ.out.2.1.lt).cell;have s6:=(HJ.out.2.1.below qO.out HJ.out.2.1.lt).lt;have c7:=(HJ.out.2.2.1.below qO.out HJ.out.2.2.1.lt).cell;have s7:=(HJ.out.2.2.1.below qO.out HJ.out.2.2.1.lt).lt;go_upto_region 7 with fail;go_quiet (fail);obtain⟨W6,eF⟩:=Ja0 (w5.drewN nq);rw[<-eF];have yA:=Qa (show Ae w5.1.size w5 W6 from by rw[eF];exact qx (qd w5) nq)
 clear eF c6 s6 c7 s7;have yB:=Qa (qe qO.out yA.out);have c7:=(HJ.out.2.2.1.below yB.out HJ.out.2.2.1.lt).cell;have s7:=(HJ.out.2.2.1.below yB.out HJ.out.2.2.1.lt).lt;go_upto_region 13 with fail;have hb:=qc (qd W6) (ARu #[I Z 0,I Z 1,.bool false,.bool false] 93);have hb1:Ae W1.1.size W1 W6:=qe mE.out (qe gN.out yA.out);have eX:=qe yB.out hb;have hlX:=lX;have hlW:=hb1.size;have hs0:=iV.out;have hb3:=HB3.out.size;clear c7 s7;refine PU _ _ W0.1.size w3.1.size W6.1.size (w.1.size+2) p3 c3 _ hb3 ((HX1.out.1.below hb1 HX1.out.1.lt).alloc _) (Al.new W6 _ _) (HJ.out.2.2.1.below eX HJ.out.2.2.1.lt) ((HX1.out.2.below hb1).below hb) (fun k hk=>⟨az (uQ.out.lt hk),az (Qn (Nat.lt_trans (uQ.out.lt hk) lX) hlW),ay (Qn (by omega) (uQ.out.ge hk))⟩) (fun c d x a w h=>by cases d<;>exact h) ?_
 intro X p' c' z59 z60 z61 z62 z63 z64 z65 z66 z67 z68 z69 z70 z71 z72 hbX kX;have l6:=HJ.out.2.1.lt;have l7:=HJ.out.2.2.1.lt;have l10:=HJ.out.2.2.2.1.lt;have l11:=HJ.out.2.2.2.2.lt;have k6:=(HJ.out.2.1.below eX l6).of_eq (hbX.block _ l6);have k7:=(HJ.out.2.2.1.below eX l7).of_eq (hbX.block _ l7);have k10:=(HJ.out.2.2.2.1.below eX l10).of_eq (hbX.block _ l10);have k11:=(HJ.out.2.2.2.2.below eX l11).of_eq (hbX.block _ l11);have sM:=Qa (((HB0.out.trans (eX.mono HB0.out.size)).mono (Qk _)).trans (hbX.mono HB0.out.size));have c6:=k6.cell;have z6:=k6.free;have s6:=k6.lt;have c7:=k7.cell;have s7:=k7.lt;have K:=Qa (aj kX (aj k6 (aj k10 k11)));clear hb hb1 eX hlX hlW hbX kX k6 k7 k10 k11 l6 l7 l10 l11;go_upto_region 43 with fail;obtain⟨W9,oL⟩:=Ja0 (X.setCell ⟨w.1.size+1,0,none⟩ (I Z 1));rw[<-oL];obtain⟨kX,k6,k10,k11⟩:=K.out;have n6:w3.1.size≠w.1.size+1:=by omega
 have n10:w3.1.size≠w.1.size+3:=by omega
 have n11:w3.1.size≠w.1.size+4:=by omega
 have jX:Al W9 w3.1.size #[.slice p' 1 c',.slice p4 0 c4] 157:=by rw[oL];exact kX.Am n6 _
 have j6:Al W9 (w.1.size+1) #[I Z 1,I Z 0,I Z 0,I Z 0,I Z 0,I Z 0] 56:=by rw[oL];exact k6.set 0 _
 have j10:Al W9 (w.1.size+3) #[Ah none 0 0,Ah none 0 0] 157:=by rw[oL];exact k10.Am (by show _≠w.1.size+1;omega) _
 have j11:Al W9 (w.1.size+4) #[I Z 0,I Z 0,I Z 0,I Z 0,I Z 0,I Z 0] 56:=by rw[oL];exact k11.Am (by show _≠w.1.size+1;omega) _
 have HB9:Ae w.1.size w W9:=by rw[oL];exact sM.out.setCell (by exact aA _) _
 clear kX k6 k10 k11 oL c6 z6 s6 c7 s7;have HS:=(show (SM w3.1.size (w.1.size+1) p' c' p4 c4) W9.drew from ⟨jX.cell 0,jX.cell 1,j6.cell 0,j6.cell 1,j6.cell 2,j6.cell 3,j6.cell 4,j6.cell 5⟩);refine zo (SM w3.1.size (w.1.size+1) p' c' p4 c4) 7 (by kernel_rfl) ?_
 refine qp (by kernel_rfl) (fun c d x a w h=>by cases d<;>exact h) [0,1,2] (by kernel_rfl) (by decide) HS ?_
 iterate 3 (refine De (v:=?_) rfl ?_ ?_;rotate_left;(· (first|(refine Or.inl ⟨by rfl,?_⟩;rintro w' ⟨h0,h1,h2,h3,h4,h5,h6,h7⟩;go_simp;try with_reducible rfl)));simp only[ai,af,ag,Act.put,Ad,Ai,aa])
 refine Df ?_;have J9:=Qa (aj jX (aj j6 (aj j10 j11)));have LI:=j10.cell;have z10:=j10.free;have s10:=j10.lt;refine qg (i:=3) (by kernel_rfl) rfl fun K hK=>?_
 go_simp;have n63:w.1.size+1≠w.1.size+3:=by omega
 have n64:w.1.size+1≠w.1.size+4:=by omega
 have n34:w.1.size+3≠w.1.size+4:=by omega
 have mX:=qj (gi (b:=w.1.size+3) (u:=.slice p' 1 c') (v:=.slice p4 0 c4) jX n10);have m6:=qj (gi (b:=w.1.size+3) (u:=.slice p' 1 c') (v:=.slice p4 0 c4) j6 n63);have m10:=qj (qm9 (u:=.slice p' 1 c') (v:=.slice p4 0 c4) j10);have m11:=qj (gi (b:=w.1.size+3) (u:=.slice p' 1 c') (v:=.slice p4 0 c4) j11 n34.symm);have mB:=qf (qfw (b:=w.1.size+3) (u:=.slice p' 1 c') (v:=.slice p4 0 c4) HB9 (aB _ _));have HS:=(show (SM w3.1.size (w.1.size+1) p' c' p4 c4) (st2 W9 (w.1.size+3) (.slice p' 1 c') (.slice p4 0 c4)).drew from ⟨mX.cell 0,mX.cell 1,m6.cell 0,m6.cell 1,m6.cell 2,m6.cell 3,m6.cell 4,m6.cell 5⟩);refine hK.out _ ((st2 W9 (w.1.size+3) (.slice p' 1 c') (.slice p4 0 c4)).drew) (fun _=>HS) ?_
 clear hK K
 try simp only[Act.put,Ad,Ai,aa]
 obtain⟨W10,Aev⟩:=Ja0 ((st2 W9 (w.1.size+3) (.slice p' 1 c') (.slice p4 0 c4)).drew);simp only[Nat.add_assoc,Nat.reduceAdd];rw[<-Aev]at mX m6 m10 m11 mB HS ⊢;clear Aev LI z10 s10 jX j6 j10 j11 J9 HB9;have Tj:=m11.cell;have z11:=m11.free;have s11:=m11.lt;refine qg (i:=4) (by kernel_rfl) rfl fun K hK=>?_
 go_simp;have oX:=m9 (b:=w.1.size+4) mX n11 1;have o6:=m9 (b:=w.1.size+4) m6 n64 1;have o10:=m9 (b:=w.1.size+4) m10 n34 1;have o11:=NH m11 1;unfold ER at o11;have oB:=YW (b:=w.1.size+4) mB (aB _ _) 1;have HS:=(show (SM w3.1.size (w.1.size+1) p' c' p4 c4) (Ps W10 (w.1.size+4) 1) from ⟨oX.cell 0,oX.cell 1,o6.cell 0,o6.cell 1,o6.cell 2,o6.cell 3,o6.cell 4,o6.cell 5⟩);refine hK.out _ (Ps W10 (w.1.size+4) 1) (fun _=>HS) ?_
 clear hK K
 try simp only[Act.put,Ad,Ai,aa]
 obtain⟨W11,Aew⟩:=Ja0 (Ps W10 (w.1.size+4) 1);rw[<-Aew]at oX o6 o10 o11 oB HS ⊢;clear Aew Tj z11 s11 mX m6 m10 m11 mB;refine qp (by kernel_rfl) (fun c d x a w h=>by cases d<;>exact h) [5,6] (by kernel_rfl) (by decide) HS ?_
 iterate 2 (refine De (v:=?_) rfl ?_ ?_;rotate_left;(· (first|(refine Or.inl ⟨by rfl,?_⟩;rintro w' ⟨h0,h1,h2,h3,h4,h5,h6,h7⟩;go_simp;try with_reducible rfl)));simp only[ai,af,ag,Act.put,Ad,Ai,aa])
 refine Df ?_;refine zd (by kernel_rfl) ?_
 have LI:=o10.cell;have s10:=o10.lt;have Tj:=o11.cell;have s11:=o11.lt;go_wp2_with fail;refine bodyPost_ret (v:=Aj #[Ak #[.slice p' 1 c',.slice p4 0 c4],Ak #[I Z 1,I Z 0,I Z 0,I Z 0,I Z 0,I Z 0],I Z 1,I Z 0]) (by simp[results,results159,go_sem,LI,Tj,s10,s11]) rfl ?_
 first|exact⟨⟨_,_,_,_,rfl⟩,oB⟩|exact⟨_,_,_,_,rfl,oB⟩
def L4 (w:Aa):Ab ARt 158 #[I Z 0] w fun e w'=>e=O (.bool false)/\w=w':=by
 go_enter func158,ntmps158;go_wp2_with fail;go_ret;exact⟨rfl,rfl⟩
def Kf (w:Aa) (gd cd gA cA cT:Nat) (pT:Option Addr) (t0 t1 t2 t4 t5 tv:Int) (hcd:1<=cd) (hcA:1<=cA) (hd:∀ j u,GP[j]?=some u->w.cell? ⟨gd,j,none⟩=some u) (a0:w.cell? ⟨gA,0,none⟩=some (I Z 2)) (a1:w.cell? ⟨gA,1,none⟩=some (I Z 0)) (a2:w.cell? ⟨gA,2,none⟩=some (I Z 1)) :
  Ab ARt 98 #[Ak #[Ah none 0 0,Ah none 0 0],.agg (ER 0),Ah (some ⟨gd,0,none⟩) 1 cd,Ak #[I Z t0,I Z t1,I Z t2,I Z 0,I Z t4,I Z t5,Ah (some ⟨gA,0,none⟩) 1 cA,.slice pT 1 cT,I Z 1,I Z tv],Ah none 0 0] w
   fun e w'=>∃ p' c' q d,e=O (Aj #[Ak #[.slice p' 1 c',.slice q 0 d],.bool true])/\Ae w.1.size w w':=by
 unfold ER;have d0:w.cell? ⟨gd,0,none⟩=some (I Z 1):=hd 0 _ rfl;have d1:w.cell? ⟨gd,1,none⟩=some (I Z 0):=hd 1 _ rfl;have d2:w.cell? ⟨gd,2,none⟩=some (I Z 0):=hd 2 _ rfl;have d3:w.cell? ⟨gd,3,none⟩=some (I Z 0):=hd 3 _ rfl;have d4:w.cell? ⟨gd,4,none⟩=some (I Z 1):=hd 4 _ rfl;have HC:=Qa (fun (W:Aa) (hb:Ae w.1.size w W)=>aj ((hb.cell (p:=⟨gd,0,none⟩) (qh d0)).trans d0) (aj ((hb.cell (p:=⟨gd,1,none⟩) (qh d1)).trans d1) (aj ((hb.cell (p:=⟨gd,2,none⟩) (qh d2)).trans d2) (aj ((hb.cell (p:=⟨gd,3,none⟩) (qh d3)).trans d3) (aj ((hb.cell (p:=⟨gd,4,none⟩) (qh d4)).trans d4) (aj ((hb.cell (p:=⟨gA,0,none⟩) (qh a0)).trans a0) (aj ((hb.cell (p:=⟨gA,1,none⟩) (qh a1)).trans a1) ((hb.cell (p:=⟨gA,2,none⟩) (qh a2)).trans a2))))))))
 clear hd d0 d1 d2 d3 d4 a0 a1 a2;go_enter func98,ntmps98;go_upto_region 1 with fail;obtain⟨W0,hW0⟩:=Ja0 ((((w.alloc (ARu #[Ah none 0 0,Ah none 0 0] 157)).alloc (ARu #[I Z 0,I Z 0,I Z 0,I Z 0,I Z 0,I Z 0] 56)).alloc (ARu #[I Z t0,I Z t1,I Z t2,I Z 0,I Z t4,I Z t5,Ah (some ⟨gA,0,none⟩) 1 cA,.slice pT 1 cT,I Z 1,I Z tv] 86)).alloc (ARu #[Ah none 0 0,Ah none 0 0] 157));rw[<-hW0];have hB0:Ae w.1.size w W0:=by rw[hW0];exact qc (qc (qc (qc (qd w) _) _) _) _
 have j5:Al W0 w.1.size #[Ah none 0 0,Ah none 0 0] 157:=by rw[hW0];exact (((Al.new w _ _).alloc _).alloc _).alloc _
 have j6:Al W0 (w.1.size+1) #[I Z 0,I Z 0,I Z 0,I Z 0,I Z 0,I Z 0] 56:=by rw[hW0];exact ((Al.Ap _ _ _ _ _ (by simp) rfl).alloc _).alloc _
 have j8:Al W0 (w.1.size+2) #[I Z t0,I Z t1,I Z t2,I Z 0,I Z t4,I Z t5,Ah (some ⟨gA,0,none⟩) 1 cA,.slice pT 1 cT,I Z 1,I Z tv] 86:=by rw[hW0];exact (Al.Ap _ _ _ _ _ (by simp) rfl).alloc _
 have j10:Al W0 (w.1.size+3) #[Ah none 0 0,Ah none 0 0] 157:=by rw[hW0];exact Al.Ap _ _ _ _ _ (by simp) rfl
 have hs0:W0.1.size=w.1.size+4:=by rw[hW0];simp
 clear hW0;have HB0:=Qa hB0;have HJ:=Qa (aj j6 (aj j8 j10));have iV:=Qa hs0;have HWh:=Qa (qpi W0 _ _ (Nl.nil W0 _ _) (Nl.nil W0 _ _));have c5:=j5.cell;have s5:=j5.lt;have c8:=j8.cell;have s8:=j8.lt;clear j5 j6 j8 j10 hs0 hB0;go_step3;go_upto_region 4 with (first
  | (go_at_call 157;refine HWh.out.mono ?_;rintro e w3 ⟨y3,y4,rfl,hv3,hu3,hb3⟩;obtain⟨p3,c3,rfl⟩:=Row.AS hv3;obtain⟨p4,c4,rfl⟩:=Row.AS hu3;have uQ:=Qa hv3;have HU3:=Qa hu3;have HB3:=Qa hb3;clear hv3 hu3 hb3 c5 s5 c8 s8)
  | fail)
 obtain⟨W1,hW1⟩:=Ja0 (w3.alloc (ARu #[.slice p3 0 c3,.slice p4 0 c4] 157));rw[<-hW1];have hB1:Ae W0.1.size W0 W1:=by rw[hW1];exact qc HB3.out _
 have k12:Al W1 w3.1.size #[.slice p3 0 c3,.slice p4 0 c4] 157:=by rw[hW1];exact Al.new w3 _ _
 have hV1:Nl W1 299 8 (.slice p3 0 c3):=by rw[hW1];exact (uQ.out.below (qc (qd w3) _)).nl
 have hU1:Nl W1 117 2 (.slice p4 0 c4):=by rw[hW1];exact (HU3.out.below (qc (qd w3) _)).nl
 have K1:=Qa (aj k12 (aj (HJ.out.1.below hB1 HJ.out.1.lt) (aj (HJ.out.2.1.below hB1 HJ.out.2.1.lt) (HJ.out.2.2.below hB1 HJ.out.2.2.lt))));have HV1:=Qa (aj hV1 hU1);have HB1:=Qa (qe HB0.out hB1);have L3:=Qa (show w.1.size+4<=w3.1.size from by have:=HB3.out.size;have:=iV.out;omega)
 have HDo:=Qa (fun (W:Aa) (hb:Ae W1.1.size W1 W)=>Sj W p3 c3 (.slice p4 0 c4) 0 (hV1.below hb) (hU1.below hb))
 unfold ER GP at HDo;clear hW1 hB1 k12 hV1 hU1 HWh uQ HU3 HJ;go_step3;have c8:=K1.out.2.2.1.cell;have s8:=K1.out.2.2.1.lt;go_wp2_with fail;clear c8 s8;go_loopw [13,43] (fun rt ix wr=>∃ i:Nat,ix=I Z i/\rt=.bool true/\((i=0/\W1=wr)\/(i=1/\Ae w.1.size w wr/\∃ p' c' q' d',Al wr w3.1.size #[.slice p' 1 c',.slice q' 0 d'] 157/\Al wr (w.1.size+3) #[Ah none 0 0,Ah none 0 0] 157))) (fun _ ix _=>1-(intOf ix).toNat)
 case atStart=>exact⟨0,rfl,rfl,.inl ⟨rfl,rfl⟩⟩
 case round =>
  obtain⟨i,rfl,rfl,⟨rfl,rfl⟩|⟨rfl,hbw,p',c',q',d',k12,k10⟩⟩:=hrel
  ·obtain⟨d0,d1,d2,d3,d4,a0,a1,a2⟩:=HC.out W1 HB1.out
   have lgA:gA<W1.1.size:=qh a0;have c8:=K1.out.2.2.1.cell;have s8:=K1.out.2.2.1.lt;have lgd:gd<W1.1.size:=qh d0;have El:=K1.out.1.cell;have s12:=K1.out.1.lt;have c6:=K1.out.2.1.cell;have s6:=K1.out.2.1.lt;have l0:w.1.size<W1.1.size:=Nat.lt_of_succ_lt s6;have n0:w.1.size≠W1.1.size:=az l0;have bQ:=qc (qc (qd W1) (ARu #[I Z 2,I Z 0,I Z 1] 54)) (ARu #[I Z 1,I Z 0,I Z 0,I Z 0,I Z 1] 73);have HBA:=Qa bQ;have J15:=Qa ((Al.new W1 #[I Z 2,I Z 0,I Z 1] 54).alloc (ARu #[I Z 1,I Z 0,I Z 0,I Z 0,I Z 1] 73));have J16:Hid (Al ((W1.alloc (ARu #[I Z 2,I Z 0,I Z 1] 54)).alloc (ARu #[I Z 1,I Z 0,I Z 0,I Z 0,I Z 1] 73)) (W1.1.size+1) #[I Z 1,I Z 0,I Z 0,I Z 0,I Z 1] 73):=Qa (Al.Ap _ _ _ _ _ (by simp) rfl)
   clear bQ;go_upto_region 10 with (first
    | (go_at_call 158;refine (L4 _).mono ?_;rintro e w4 ⟨rfl,rfl⟩)
    | (go_at_call 159;refine (HDo.out _ HBA.out).mono ?_;rintro e w5 ⟨p',c',q',d',rfl,hb5⟩;have gN:=Qa (qe HBA.out hb5);have k15:=J15.out.below hb5 J15.out.lt;have k16:=J16.out.below hb5 J16.out.lt;clear El s12 c6 s6 c8 s8 d0 d1 d2 d3 d4 a0 a1 a2 lgA lgd;have k12:=K1.out.1.below gN.out K1.out.1.lt;have k6:=K1.out.2.1.below gN.out K1.out.2.1.lt;have El:=k12.cell;have s12:=k12.lt;have c6:=k6.cell;have s6:=k6.lt;have EU:=k15.cell;have s15:=k15.lt;have c16:=k16.cell;have s16:=k16.lt)
    | fail)
   go_quiet (fail);obtain⟨W6,eF⟩:=Ja0 (((w5.alloc (ARu #[.slice p' 1 c',.slice q' 0 d'] 157)).alloc (ARu #[I Z 1,I Z 0,I Z 0,I Z 0,I Z 0,I Z 0] 56)).drewN nq);rw[<-eF];have hb6:Ae w5.1.size w5 W6:=by rw[eF];exact qx (qc (qc (qd w5) _) _) _
   have k17:Al W6 w5.1.size #[.slice p' 1 c',.slice q' 0 d'] 157:=by rw[eF];exact ((Al.new w5 _ _).alloc _).drewN _
   have k18:Al W6 (w5.1.size+1) #[I Z 1,I Z 0,I Z 0,I Z 0,I Z 0,I Z 0] 56:=by rw[eF];exact (Al.Ap _ _ _ _ _ (by simp) rfl).drewN _
   have m12:=k12.below hb6 k12.lt;have m6:=k6.below hb6 k6.lt;have m10:=K1.out.2.2.2.below (qe gN.out hb6) K1.out.2.2.2.lt;have yA:=Qa (qe HB1.out (qe gN.out hb6));have EU:=(k15.below hb6 k15.lt).cell;have s15:=(k15.below hb6 k15.lt).lt;have l5:=gN.out.size;have l3:=L3.out;have n12:w5.1.size≠w3.1.size:=ay (Qn K1.out.1.lt l5);have n12':w5.1.size+1≠w3.1.size:=by have:=K1.out.1.lt;omega
   have n6:w3.1.size≠w.1.size+1:=by omega
   have n10:w.1.size+3≠w3.1.size:=by omega
   have n10':w.1.size+3≠w.1.size+1:=by omega
   have n6':w5.1.size≠w.1.size+1:=by omega
   have Aqg:w5.1.size+1≠w.1.size+1:=by omega
   clear eF hb6 k12 k6 k15 k16 El s12 c6 s6 c16 s16 hb5 l5 l3;go_upto_region 15 with fail;have HS:=(show (SM w5.1.size (w5.1.size+1) p' c' q' d') W6.drew from ⟨k17.cell 0,k17.cell 1,k18.cell 0,k18.cell 1,k18.cell 2,k18.cell 3,k18.cell 4,k18.cell 5⟩);refine zo (SM w5.1.size (w5.1.size+1) p' c' q' d') 4 (by kernel_rfl) ?_
   refine qp (by kernel_rfl) (fun c d x a w h=>by cases d<;>exact h) [0,1] (by kernel_rfl) (by decide) HS ?_
   iterate 2 (refine De (v:=?_) rfl ?_ ?_;rotate_left;(· (first|(refine Or.inl ⟨by rfl,?_⟩;rintro w' ⟨h0,h1,h2,h3,h4,h5,h6,h7⟩;go_simp;try with_reducible rfl)));simp only[ai,af,ag,Act.put,Ad,Ai,aa])
   refine Df ?_;have El:=m12.cell;have z12:=m12.free;have s12:=m12.lt;refine qg (i:=2) (by kernel_rfl) rfl fun K hK=>?_
   go_simp;have r17:=qj (gi (b:=w3.1.size) (u:=.slice p' 1 c') (v:=.slice q' 0 d') k17 n12);have xR:=qj (gi (b:=w3.1.size) (u:=.slice p' 1 c') (v:=.slice q' 0 d') k18 n12');have r12:=qj (qm9 (u:=.slice p' 1 c') (v:=.slice q' 0 d') m12);have r6:=qj (gi (b:=w3.1.size) (u:=.slice p' 1 c') (v:=.slice q' 0 d') m6 n6.symm);have r10:=qj (gi (b:=w3.1.size) (u:=.slice p' 1 c') (v:=.slice q' 0 d') m10 n10);have rB:=qf (qfw (b:=w3.1.size) (u:=.slice p' 1 c') (v:=.slice q' 0 d') yA.out (by have:=L3.out;omega))
   have HS:=(show (SM w5.1.size (w5.1.size+1) p' c' q' d') (st2 W6 w3.1.size (.slice p' 1 c') (.slice q' 0 d')).drew from ⟨r17.cell 0,r17.cell 1,xR.cell 0,xR.cell 1,xR.cell 2,xR.cell 3,xR.cell 4,xR.cell 5⟩);refine hK.out _ ((st2 W6 w3.1.size (.slice p' 1 c') (.slice q' 0 d')).drew) (fun _=>HS) ?_;clear hK K;try simp only[Act.put,Ad,Ai,aa]
   obtain⟨W7,qD⟩:=Ja0 ((st2 W6 w3.1.size (.slice p' 1 c') (.slice q' 0 d')).drew);rw[<-qD]at r17 xR r12 r6 r10 rB HS ⊢;clear qD k17 k18 m12 m6 m10 El z12 s12 EU s15;have c6:=r6.cell;have z6:=r6.free;have s6:=r6.lt;refine qg (i:=3) (by kernel_rfl) rfl fun K hK=>?_
   go_simp;have Ahj:=m9 (b:=w.1.size+1) r17 n6' 1;have pR:=m9 (b:=w.1.size+1) xR Aqg 1;have HS:=(show (SM w5.1.size (w5.1.size+1) p' c' q' d') (Ps W7 (w.1.size+1) 1) from ⟨Ahj.cell 0,Ahj.cell 1,pR.cell 0,pR.cell 1,pR.cell 2,pR.cell 3,pR.cell 4,pR.cell 5⟩);refine hK.out _ (Ps W7 (w.1.size+1) 1) (fun _=>HS) ?_;clear hK K HS;try simp only[Act.put,Ad,Ai,aa]
   refine zd (by kernel_rfl) ?_
   have f12:=m9 (b:=w.1.size+1) r12 n6 1;have f10:=m9 (b:=w.1.size+1) r10 n10' 1;have fB:=YW (b:=w.1.size+1) rB (aA _) 1;go_wp2_with fail;go_roundw
   case rel=>exact⟨1,rfl,rfl,.inr ⟨rfl,fB,_,_,_,_,f12,f10⟩⟩
   case measure=>simp[intOf]
  ·have El:=k12.cell
   have s12:=k12.lt;have LI:=k10.cell;have z10:=k10.free;have s10:=k10.lt;go_wp2_with fail;rw[Exit.noGoto_ret];have f10:=(k10.set 0 (.slice p' 1 c')).set 1 (.slice q' 0 d');have fB:=(hbw.setCell (p:=⟨w.1.size+3,0,none⟩) (by exact aB _ _) (.slice p' 1 c')).setCell (p:=⟨w.1.size+3,1,none⟩) (by exact aB _ _) (.slice q' 0 d')
   have c9:=f10.cell;have s9:=f10.lt;refine bodyPost_ret (v:=Aj #[Ak #[.slice p' 1 c',.slice q' 0 d'],.bool true]) (by simp[results,results98,go_sem,c9,s9]) rfl ⟨_,_,_,_,rfl,fB⟩
noncomputable def Pp (n:Nat):Code:=((Tryz.f41.body.bind (wq n)).getD .skip)
abbrev Wl (gp gq gd gt gA cA cT:Nat)(pT:Option Addr)(w':Aa):Prop:=w'.cell? ⟨gp,0,none⟩=some (Ah (some ⟨gq,0,none⟩) 1 1)/\w'.cell? ⟨gq,0,none⟩=some (Ah (some ⟨gd,0,none⟩) 1 1)/\w'.cell? ⟨gt,0,none⟩=some (I Z 0)/\w'.cell? ⟨gt,1,none⟩=some (I Z 0)/\w'.cell? ⟨gt,2,none⟩=some (I Z 0)/\w'.cell? ⟨gt,3,none⟩=some (I Z 0)/\w'.cell? ⟨gt,4,none⟩=some (I Z 0)/\w'.cell? ⟨gt,5,none⟩=some (I Z 2)/\w'.cell? ⟨gt,6,none⟩=some (Ah (some ⟨gA,0,none⟩) 1 cA)/\w'.cell? ⟨gt,7,none⟩=some (.slice pT 1 cT)/\w'.cell? ⟨gt,8,none⟩=some (I Z 1)/\w'.cell? ⟨gt,9,none⟩=some (I Z 1)
abbrev Wm (gp gq gd gt gA cA:Nat)(w':Aa):Prop:=w'.cell? ⟨gp,0,none⟩=some (Ah (some ⟨gq,0,none⟩) 1 1)/\w'.cell? ⟨gq,0,none⟩=some (Ah (some ⟨gd,0,none⟩) 1 1)/\w'.cell? ⟨gt,6,none⟩=some (Ah (some ⟨gA,0,none⟩) 1 cA)
def Sc (Q:Exit->Act->Aa->Prop) (W:Aa) (gp gq gd gt ct gA cA cT:Nat) (pT:Option Addr) {u0 u2 u4 u5 u6 u7 u8 u9 Ni Nj Nk Nl Nm Nn Np Nq Nr Ns Nt Nu Nv Nw Nx Ny Nz N0 N1 N2 N3 N4 N5 N6 N7 N8 N9 Ra Rb Rc Rd Re Rf Rg Rh Ri Rj Rk Rl Rm Rn Ro Rp Rq Rr Rs Rt Ru Rv Rw Rx Ry Rz R0 R1 R2 R3 R4 R5 R6 R7 R8 R9 Va Vb Vc Vd Ve Vf Vg Vh Vi Vj Vk Vl Vm Vn Vo Vp Vq Vr Vs Vt Vu Vv Vw Vx Vy Vz V0 V1 V2 V3:Ac} (hct:1<=ct)
  (hS:∀ w':Aa,Ae W.1.size W w'->Wl gp gq gd gt gA cA cT pT w')
  (hC:∀ X:Aa,Ae W.1.size W X->Ab ARt 98 #[Ak #[Ah none 0 0,Ah none 0 0],Ak #[I Z 0,I Z 0,I Z 0,I Z 0,I Z 0,I Z 0],Ah (some ⟨gd,0,none⟩) 1 1,Ak #[I Z 0,I Z 0,I Z 0,I Z 0,I Z 0,I Z 2,Ah (some ⟨gA,0,none⟩) 1 cA,.slice pT 1 cT,I Z 1,I Z 1],Ah none 0 0] X fun e w'=>∃ p' c' q d,e=O (Aj #[Ak #[.slice p' 1 c',.slice q 0 d],.bool true])/\Ae X.1.size X w')
  (bV:∀ c d x a w,Q (.panic c) (a.put d x) w->Q (.panic c) a w)
  (bO:∀ (X:Aa) (C:Nat) (p':Option Addr) (c':Nat) (q:Option Addr) (d:Nat) (V4 V5 V6 V7 V8 V9 Xa Xb Xc Xd Xe Xf Xg Xh:Ac),Ae W.1.size W X->Al X C #[.slice p' 1 c',.slice q 0 d] 157->W.1.size<=C->Q .normal ⟨#[u0,Ah (some ⟨gp,0,none⟩) 1 1,u2,Ah (some ⟨gt,0,none⟩) 1 ct,u4,u5,u6,Ag (some ⟨C,0,none⟩),.bool true,u9,Ni,Nj,Nk,Nl,Nm,Nn,Np,Nq,Nr,Ns,Nt,Nu,Nv,Nw,Nx,Ny,Nz,N0,N1,N2,N3,N4,N5,N6,N7,N8,N9,Ra,Rb,Rc,Rd,V4,V5,V6,V7,V8,V9,Xa,Xb,Xc,Xd,Xe,Xf,Xg,Xh,Rs,Rt,Ru,Rv,Rw,Rx,Ry,Rz,R0,R1,R2,R3,R4,R5,R6,R7,R8,R9,Va,Vb,Vc,Vd,Ve,Vf,Vg,Vh,Vi,Vj,Vk,Vl,Vm,Vn,Vo,Vp,Vq,Vr,Vs,Vt,Vu,Vv,Vw,Vx,Vy,Vz,V0,V1,V2,V3],[]⟩ X) :
  Code.wp ARt (Pp 7) Q ⟨#[u0,Ah (some ⟨gp,0,none⟩) 1 1,u2,Ah (some ⟨gt,0,none⟩) 1 ct,u4,u5,u6,u7,u8,u9,Ni,Nj,Nk,Nl,Nm,Nn,Np,Nq,Nr,Ns,Nt,Nu,Nv,Nw,Nx,Ny,Nz,N0,N1,N2,N3,N4,N5,N6,N7,N8,N9,Ra,Rb,Rc,Rd,Re,Rf,Rg,Rh,Ri,Rj,Rk,Rl,Rm,Rn,Ro,Rp,Rq,Rr,Rs,Rt,Ru,Rv,Rw,Rx,Ry,Rz,R0,R1,R2,R3,R4,R5,R6,R7,R8,R9,Va,Vb,Vc,Vd,Ve,Vf,Vg,Vh,Vi,Vj,Vk,Vl,Vm,Vn,Vo,Vp,Vq,Vr,Vs,Vt,Vu,Vv,Vw,Vx,Vy,Vz,V0,V1,V2,V3],[]⟩ W:=by
 conv=>arg 2;whnf
 have HX:=Qa bO;have HC:=Qa hC;have cO:=Qa hS;clear bO hC hS;refine zo (Wl gp gq gd gt gA cA cT pT) 17 (by kernel_rfl) ?_
 have HS:=cO.out W.drew (qf (qd W));refine qp (by kernel_rfl) bV [0,1,2,3,4,5,6,7,8,9] (by kernel_rfl) (by decide) HS ?_
 iterate 10 (refine De (v:=?_) rfl ?_ ?_;rotate_left;(· (first|(refine Or.inl ⟨by rfl,?_⟩;rintro w' ⟨h0,h1,h2,h3,h4,h5,h6,h7,h8,h9,h10,h11⟩;go_simp;try with_reducible rfl)));simp only[ai,af,ag,Act.put,Ad,Ai,aa])
 refine Df ?_;refine kq (i:=10) (j:=14) (by kernel_rfl) rfl rfl (fun K hK=>?_) (fun K hK=>?_)
 ·go_simp
  refine (HC.out W.drew (qf (qd W))).mono ?_
  rintro e w5 ⟨p',c',q,d,rfl,hb5⟩
  have bQ:=qe (qf (qd W)) hb5;refine hK.out _ _ (fun _=>cO.out w5 bQ) ?_
  clear hK K
  try simp only[Act.put,Ad,Ai,aa]
  refine qp (by kernel_rfl) bV [11,12,13] (by kernel_rfl) (by decide) (cO.out w5 bQ) ?_
  iterate 3 (refine De (v:=?_) rfl ?_ ?_;rotate_left;(· (first|(refine Or.inl ⟨by rfl,?_⟩;rintro w' ⟨h0,h1,h2,h3,h4,h5,h6,h7,h8,h9,h10,h11⟩;go_simp;try with_reducible rfl)));simp only[ai,af,ag,Act.put,Ad,Ai,aa])
  refine Df ?_;refine qg (i:=14) (by kernel_rfl) rfl fun K hK=>?_
  go_simp;refine hK.out _ _ (fun _=>cO.out _ (qc bQ _)) ?_
  clear hK K
  try simp only[Act.put,Ad,Ai,aa]
  refine qg (i:=15) (by kernel_rfl) rfl fun K hK=>?_
  go_simp;refine hK.out _ _ (fun _=>cO.out _ (qc bQ _)) ?_
  clear hK K
  try simp only[Act.put,Ad,Ai,aa]
  refine qp (by kernel_rfl) bV [16] (by kernel_rfl) (by decide) (cO.out _ (qc bQ _)) ?_
  iterate 1 (refine De (v:=?_) rfl ?_ ?_;rotate_left;(· (first|(refine Or.inl ⟨by rfl,?_⟩;rintro w' ⟨h0,h1,h2,h3,h4,h5,h6,h7,h8,h9,h10,h11⟩;go_simp;try with_reducible rfl)));simp only[ai,af,ag,Act.put,Ad,Ai,aa])
  refine Df ?_;refine zd (by kernel_rfl) ?_
  exact HX.out _ w5.1.size _ _ _ _ _ _ _ _ _ _ _ _ _ _ _ _ _ _ (qc bQ _) (Al.new w5 _ _) bQ.size
 ·go_simp
  refine hK.out _ _ (fun _=>cO.out _ (qc (qf (qd W)) _)) ?_
  clear hK K
  try simp only[Act.put,Ad,Ai,aa]
  refine qg (i:=10) (by kernel_rfl) rfl fun K hK=>?_
  go_simp;refine (HC.out _ (qc (qf (qd W)) _)).mono ?_;rintro e w5 ⟨p',c',q,d,rfl,hb5⟩;have bQ:=qe (qc (qf (qd W)) _) hb5;refine hK.out _ _ (fun _=>cO.out w5 bQ) ?_;clear hK K
  try simp only[Act.put,Ad,Ai,aa]
  have jC:Al w5 W.1.size #[Ah none 0 0,Ah none 0 0] 157:=(Al.new W.drew #[Ah none 0 0,Ah none 0 0] 157).below hb5 (Al.new W.drew _ _).lt;have cC:=jC.cell;have zC:=jC.free;have lC:=jC.lt;refine qp (by kernel_rfl) bV [11,12,13] (by kernel_rfl) (by decide) (cO.out w5 bQ) ?_
  iterate 3 (refine De (v:=?_) rfl ?_ ?_;rotate_left;(· (first|(refine Or.inl ⟨by rfl,?_⟩;rintro w' ⟨h0,h1,h2,h3,h4,h5,h6,h7,h8,h9,h10,h11⟩;go_simp;try with_reducible rfl)));simp only[ai,af,ag,Act.put,Ad,Ai,aa])
  refine Df ?_;refine qg (i:=15) (by kernel_rfl) rfl fun K hK=>?_
  go_simp;refine hK.out _ _ (fun _=>cO.out _ (((bQ.setCell (p:=⟨W.1.size,0,none⟩) (by exact Qk _) _).setCell (p:=⟨W.1.size,1,none⟩) (by exact Qk _) _))) ?_
  clear hK K
  try simp only[Act.put,Ad,Ai,aa]
  refine qp (by kernel_rfl) bV [16] (by kernel_rfl) (by decide) (cO.out _ ((bQ.setCell (p:=⟨W.1.size,0,none⟩) (by exact Qk _) _).setCell (p:=⟨W.1.size,1,none⟩) (by exact Qk _) _)) ?_
  iterate 1 (refine De (v:=?_) rfl ?_ ?_;rotate_left;(· (first|(refine Or.inl ⟨by rfl,?_⟩;rintro w' ⟨h0,h1,h2,h3,h4,h5,h6,h7,h8,h9,h10,h11⟩;go_simp;try with_reducible rfl)));simp only[ai,af,ag,Act.put,Ad,Ai,aa])
  refine Df ?_;refine zd (by kernel_rfl) ?_
  exact HX.out _ W.1.size _ _ _ _ _ _ _ _ _ _ _ _ _ _ _ _ _ _ ((bQ.setCell (p:=⟨W.1.size,0,none⟩) (by exact Qk _) _).setCell (p:=⟨W.1.size,1,none⟩) (by exact Qk _) _) ((jC.set 0 _).set 1 _) (Qk _)
def Sd (Q:Exit->Act->Aa->Prop) (W:Aa) (gp gq gd gt ct gA cA cT:Nat) (pT:Option Addr) {u0 u2 u4 u5 u6 u7 u8 u9 Ni Nj Nk Nl Nm Nn Np Nq Nr Ns Nt Nu Nv Nw Nx Ny Nz N0 N1 N2 N3 N4 N5 N6 N7 N8 N9 Ra Rb Rc Rd Re Rf Rg Rh Ri Rj Rk Rl Rm Rn Ro Rp Rq Rr Rs Rt Ru Rv Rw Rx Ry Rz R0 R1 R2 R3 R4 R5 R6 R7 R8 R9 Va Vb Vc Vd Ve Vf Vg Vh Vi Vj Vk Vl Vm Vn Vo Vp Vq Vr Vs Vt Vu Vv Vw Vx Vy Vz V0 V1 V2 V3:Ac} (hct:1<=ct)
  (hS:∀ w':Aa,Ae W.1.size W w'->Wm gp gq gd gt gA cA w')
  (hC:∀ X:Aa,Ae W.1.size W X->Ab ARt 99 #[Ak #[I Z 0,I Z 0,I Z 0,I Z 0,I Z 0,I Z 0],Ah (some ⟨gd,0,none⟩) 1 1,Ah (some ⟨gA,0,none⟩) 1 cA] X fun e w'=>e=O (Ak #[I Z 1,I Z 0,I Z 0,I Z 0,I Z 0,I Z 0])/\Ae X.1.size X w')
  (bV:∀ c d x a w,Q (.panic c) (a.put d x) w->Q (.panic c) a w)
  (bO:∀ (X:Aa) (C:Nat) (Xi Xj Xk Xl Xm Xn Xo Xp Xq Xr Xs:Ac),Ae W.1.size W X->Al X C #[I Z 1,I Z 0,I Z 0,I Z 0,I Z 0,I Z 0] 56->W.1.size<=C->Q .normal ⟨#[u0,Ah (some ⟨gp,0,none⟩) 1 1,u2,Ah (some ⟨gt,0,none⟩) 1 ct,u4,u5,u6,u7,u8,Ag (some ⟨C,0,none⟩),Ni,Nj,Nk,Nl,Nm,Nn,Np,Nq,Nr,Ns,Nt,Nu,Nv,Nw,Nx,Ny,Nz,N0,N1,N2,N3,N4,N5,N6,N7,N8,N9,Ra,Rb,Rc,Rd,Re,Rf,Rg,Rh,Ri,Rj,Rk,Rl,Rm,Rn,Ro,Rp,Rq,Rr,Xi,Xj,Xk,Xl,Xm,Xn,Xo,Xp,Xq,Xr,Xs,R3,R4,R5,R6,R7,R8,R9,Va,Vb,Vc,Vd,Ve,Vf,Vg,Vh,Vi,Vj,Vk,Vl,Vm,Vn,Vo,Vp,Vq,Vr,Vs,Vt,Vu,Vv,Vw,Vx,Vy,Vz,V0,V1,V2,V3],[]⟩ X) :
  Code.wp ARt (Pp 8) Q ⟨#[u0,Ah (some ⟨gp,0,none⟩) 1 1,u2,Ah (some ⟨gt,0,none⟩) 1 ct,u4,u5,u6,u7,u8,u9,Ni,Nj,Nk,Nl,Nm,Nn,Np,Nq,Nr,Ns,Nt,Nu,Nv,Nw,Nx,Ny,Nz,N0,N1,N2,N3,N4,N5,N6,N7,N8,N9,Ra,Rb,Rc,Rd,Re,Rf,Rg,Rh,Ri,Rj,Rk,Rl,Rm,Rn,Ro,Rp,Rq,Rr,Rs,Rt,Ru,Rv,Rw,Rx,Ry,Rz,R0,R1,R2,R3,R4,R5,R6,R7,R8,R9,Va,Vb,Vc,Vd,Ve,Vf,Vg,Vh,Vi,Vj,Vk,Vl,Vm,Vn,Vo,Vp,Vq,Vr,Vs,Vt,Vu,Vv,Vw,Vx,Vy,Vz,V0,V1,V2,V3],[]⟩ W:=by
 conv=>arg 2;whnf
 have HX:=Qa bO;have HC:=Qa hC;have cO:=Qa hS;clear bO hC hS;refine zo (Wm gp gq gd gt gA cA) 13 (by kernel_rfl) ?_
 have HS:=cO.out W.drew (qf (qd W));refine qp (by kernel_rfl) bV [0,1,2,3,4,5,6,7,8,9] (by kernel_rfl) (by decide) HS ?_
 iterate 10 (refine De (v:=?_) rfl ?_ ?_;rotate_left;(· (first|(refine Or.inl ⟨by rfl,?_⟩;rintro w' ⟨h0,h1,h2⟩;go_simp;try with_reducible rfl)));simp only[ai,af,ag,Act.put,Ad,Ai,aa])
 refine Df ?_;refine kq (i:=10) (j:=11) (by kernel_rfl) rfl rfl (fun K hK=>?_) (fun K hK=>?_)
 ·go_simp
  refine (HC.out W.drew (qf (qd W))).mono ?_
  rintro e w5 ⟨rfl,hb5⟩
  have bQ:=qe (qf (qd W)) hb5;refine hK.out _ _ (fun _=>cO.out w5 bQ) ?_
  clear hK K
  try simp only[Act.put,Ad,Ai,aa]
  refine qg (i:=11) (by kernel_rfl) rfl fun K hK=>?_
  go_simp;refine hK.out _ _ (fun _=>cO.out _ (qc bQ _)) ?_
  clear hK K
  try simp only[Act.put,Ad,Ai,aa]
  refine qg (i:=12) (by kernel_rfl) rfl fun K hK=>?_
  go_simp;refine hK.out _ _ (fun _=>cO.out _ (qc bQ _)) ?_
  clear hK K
  try simp only[Act.put,Ad,Ai,aa]
  refine zd (by kernel_rfl) ?_
  exact HX.out _ w5.1.size _ _ _ _ _ _ _ _ _ _ _ (qc bQ _) (Al.new w5 _ _) bQ.size
 ·go_simp
  refine hK.out _ _ (fun _=>cO.out _ (qc (qf (qd W)) _)) ?_
  clear hK K
  try simp only[Act.put,Ad,Ai,aa]
  refine qg (i:=10) (by kernel_rfl) rfl fun K hK=>?_
  go_simp;refine (HC.out _ (qc (qf (qd W)) _)).mono ?_;rintro e w5 ⟨rfl,hb5⟩;have bQ:=qe (qc (qf (qd W)) _) hb5;refine hK.out _ _ (fun _=>cO.out w5 bQ) ?_;clear hK K
  try simp only[Act.put,Ad,Ai,aa]
  have jC:Al w5 W.1.size #[I Z 0,I Z 0,I Z 0,I Z 0,I Z 0,I Z 0] 56:=(Al.new W.drew #[I Z 0,I Z 0,I Z 0,I Z 0,I Z 0,I Z 0] 56).below hb5 (Al.new W.drew _ _).lt;have cC:=jC.cell;have zC:=jC.free;have lC:=jC.lt;refine qg (i:=12) (by kernel_rfl) rfl fun K hK=>?_
  go_simp;refine hK.out _ _ (fun _=>cO.out _ (((((((bQ.setCell (p:=⟨W.1.size,0,none⟩) (by exact Qk _) _).setCell (p:=⟨W.1.size,1,none⟩) (by exact Qk _) _).setCell (p:=⟨W.1.size,2,none⟩) (by exact Qk _) _).setCell (p:=⟨W.1.size,3,none⟩) (by exact Qk _) _).setCell (p:=⟨W.1.size,4,none⟩) (by exact Qk _) _).setCell (p:=⟨W.1.size,5,none⟩) (by exact Qk _) _))) ?_
  clear hK K
  try simp only[Act.put,Ad,Ai,aa]
  refine zd (by kernel_rfl) ?_
  exact HX.out _ W.1.size _ _ _ _ _ _ _ _ _ _ _ ((((((bQ.setCell (p:=⟨W.1.size,0,none⟩) (by exact Qk _) _).setCell (p:=⟨W.1.size,1,none⟩) (by exact Qk _) _).setCell (p:=⟨W.1.size,2,none⟩) (by exact Qk _) _).setCell (p:=⟨W.1.size,3,none⟩) (by exact Qk _) _).setCell (p:=⟨W.1.size,4,none⟩) (by exact Qk _) _).setCell (p:=⟨W.1.size,5,none⟩) (by exact Qk _) _) ((((((jC.set 0 _).set 1 _).set 2 _).set 3 _).set 4 _).set 5 _) (Qk _)
