import Derived.Test.YteehgedabdchcaaGreatKaw
import Derived.Test.YteehgedabdchcaaGreatKcb
import Derived.Test.YteehgedabdchcaaGreatKce
set_option linter.all false
set_option maxRecDepth 1000000
set_option maxHeartbeats 0
open Go renaming World->Aa,Calls->Ab,Value->Ac
open Go.RowKit renaming Below->Ae
open Go.Value renaming int->I,slice->Ah
open Go.IntKind renaming i64->Z
open Go.Ending renaming returned->O
open List renaming getElem?_cons_zero->Ad,getElem?_cons_succ->Ai,drop_succ_cons->af,drop_zero->ag
open And renaming intro->aa
namespace Go.Proofs.YteehgedabdchcaaGreat
open Go.RowKit Hp
attribute [local go_sem ↓] Go.wp_at_zero Go.wp_at_succ
section
variable {bK : List (List (List Pg.D))} {R : Rd} {es : List Bg}
def TS:∀ (l:List Bg){R0:Rd}{i:Nat},R0.bd bK i->za bK (some R0) i l=some R->R.bd bK (i+l.length)
 | [],R0,i,h,hr=>by injection hr with hr;subst hr;exact h
 | e::l,R0,i,h,hr=>by
  have h2:za bK (R0.take bK i e) (i+1) l=some R:=hr
  cases ht:R0.take bK i e with
  | none=>rw[ht,zy]at h2;cases h2
  | some R1 =>
   rw[ht]at h2;have:=TS l (qme h ht) h2;rw[Qv,show i+(l.length+1)=i+1+l.length from by omega];exact this
end
structure ES (w:Aa)(o:Own)(M:List A2)(v:Ac):Prop where
 r:Row w o (70,0) 86 10 v M.length (FK M)
 a:Du w o M
section
variable {w w' : Aa} {o : Own} {M : List A2} {v : Ac}
def ES.below (h:ES w o M v)(k:Ae w.1.size w w'):ES w' o M v:=
 ⟨h.r.Ao (T:=fun _=>False) (Stp.of_below k) id,h.a.Ao (T:=fun _=>False) (Stp.of_below k) fun _=>⟨id,id⟩⟩
def ES.at (h:ES w o M v){k:Nat}{m:A2}(hm:M[k]?=some m) :
  ∃ g c pa ca pt ct,v=Ah (some ⟨g,0,none⟩) M.length c/\M.length<=c/\m.va=.slice pa m.x.AX.length ca/\m.vt=.slice pt m.x.Cu.length ct/\(∀ j u,m.cells[j]?=some u->w.cell? ⟨g,k*10+j,none⟩=some u)/\D3 w m.x m.va m.vt:=by
 have hr:=h.r;have ht:=T0 hm;obtain⟨h1,h2⟩:=h.a k m hm;obtain⟨pa,ca,e1⟩:=h1.AS;obtain⟨pt,ct,e2⟩:=h2.AS;rcases hr.B7 with ⟨_,hh⟩|⟨g,cp,rfl,hc⟩
 ·have:=ht 0 (by omega)
  rw[hh]at this;simp[A2.cells]at this
 ·refine⟨g,cp,pa,ca,pt,ct,rfl,hc,e1,e2,fun j u hu=>?_,⟨⟨_,_,h1⟩,_,_,h2⟩⟩
  have hj:j<10:=(Qc.1 hu).1;have:=hr.own.cells (g:=g) rfl (k*10+j) u ((ht j hj).trans hu);rwa [addr_add]at this
end
def Dw:List Bg:=[⟨0,0,0,⟨1,0,0⟩⟩,⟨0,0,0,⟨2,0,1⟩⟩,⟨0,0,1,⟨3,0,1⟩⟩]
def DU:List (List (List Pg.D)):=[[[⟨1,0,0,0,1⟩]]]
def FJ:AK:=⟨0,0,0,0,0,2,[⟨2,0,1⟩],[1],1,1⟩
def Q2:za DU (some (Rd.new DU.length)) 0 Dw=some ⟨[⟨1,-1⟩],[FJ],0⟩:=by kernel_rfl
def M8:za DU (some (Rd.new DU.length)) 0 (Dw.drop 1)=none:=by kernel_rfl
def qmf:check DU=(0,0,0,0):=by kernel_rfl
def Si:Array Ac:=#[I Z 0,I Z 0,I Z 0,I Z 1,I Z 0,I Z 0,I Z 0,I Z 0,I Z 0,I Z 2,I Z 0,I Z 1,I Z 0,I Z 0,I Z 1,I Z 3,I Z 0,I Z 1]
def SZ {W:Aa}{n t0 t1 t2:Nat}(j0:Al W n GP t0)(j1:Al W (n+1) #[Ah (some ⟨n,0,none⟩) 1 1] t1)(j2:Al W (n+2) #[Ah (some ⟨n+1,0,none⟩) 1 1] t2):AH W (Ah (some ⟨n+2,0,none⟩) 1 1) DU:=by
 refine⟨by simp[DU,maxLen],[Ah (some ⟨n+1,0,none⟩) 1 1],rfl,Sl.AM j2,fun j l hl=>?_⟩
 match j,hl with
 | 0,hl =>
  simp only[DU,Ad,Zd]at hl;subst hl;refine⟨_,rfl,by simp[maxLen],[Ah (some ⟨n,0,none⟩) 1 1],rfl,Sl.AM j1,fun j l hl=>?_⟩
  match j,hl with
  | 0,hl =>
   simp only[Ad,Zd]at hl;subst hl;exact⟨_,rfl,by simp[maxLen],Sl.AM j0⟩
  | j+1,hl=>simp at hl
 | j+1,hl=>simp[DU]at hl
def Sm {W:Aa}{g t:Nat}(j:Al W g Si t):Ci W (Ah (some ⟨g,0,none⟩) 3 3) Dw/\Ci W (Ah (some ⟨g,6,none⟩) 2 2) (Dw.drop 1):=by
 have c:=j.cell;refine⟨⟨by simp[Dw,maxLen],_,_,rfl,Qk _,.inr ⟨g,0,rfl,fun k x hx=>?_⟩⟩,⟨by simp[Dw,maxLen],_,_,rfl,Qk _,.inr ⟨g,6,rfl,fun k x hx=>?_⟩⟩⟩
 ·match k,hx with
  | 0,hx=>simp only[Dw,Ad,Zd]at hx;subst hx;exact⟨c 0,c 1,c 2,c 3,c 4,c 5⟩
  | 1,hx=>simp only[Dw,Ai,Ad,Zd]at hx;subst hx;exact⟨c 6,c 7,c 8,c 9,c 10,c 11⟩
  | 2,hx=>simp only[Dw,Ai,Ad,Zd]at hx;subst hx;exact⟨c 12,c 13,c 14,c 15,c 16,c 17⟩
  | k+3,hx=>simp[Dw]at hx
 ·match k,hx with
  | 0,hx=>simp only[Dw,af,ag,Ai,Ad,Zd]at hx;subst hx;exact⟨c 6,c 7,c 8,c 9,c 10,c 11⟩
  | 1,hx=>simp only[Dw,af,ag,Ai,Ad,Zd]at hx;subst hx;exact⟨c 12,c 13,c 14,c 15,c 16,c 17⟩
  | k+2,hx=>simp[Dw]at hx
structure Lu (W:Aa)(gt ct gA cA:Nat)(pT:Option Addr)(cT:Nat):Prop where
 c:1<=ct
 a:1<=cA
 l:∀ j u,(#[I Z 0,I Z 0,I Z 0,I Z 0,I Z 0,I Z 2,Ah (some ⟨gA,0,none⟩) 1 cA,.slice pT 1 cT,I Z 1,I Z 1]:Array Ac)[j]?=some u->W.cell? ⟨gt,j,none⟩=some u
 t:∀ j u,(#[I Z 2,I Z 0,I Z 1]:Array Ac)[j]?=some u->W.cell? ⟨gA,j,none⟩=some u
def Tb {W:Aa}{o:Own}{m:A2}{pa:Option Addr}{ca:Nat}(hm:m.x=FJ)(h:ES W o [m] (.slice pa 1 ca)):∃ gt gA cA pT cT,pa=some ⟨gt,0,none⟩/\Lu W gt ca gA cA pT cT:=by
 obtain⟨g,c,pa',ca',pt,ct,ev,hc,e1,e2,fa,qC⟩:=h.at (k:=0) rfl;injection ev with ev _ iY;obtain⟨x,va,vt⟩:=m;simp only at hm;subst hm;simp only at e1 e2 qC;subst e1 e2;obtain⟨⟨o1,t1,hr⟩,_⟩:=qC;rcases hr.B7 with ⟨_,h0⟩|⟨g2,c2,e,hc2⟩
 ·exact absurd h0 (by simp[FJ,acl,A0.cells])
 ·injection e with e4 _ e6
  subst e4 e6;refine⟨g,g2,_,pt,ct,ev,by rw[iY];exact hc,hc2,fun j u hu=>?_,fun j u hu=>?_⟩
  ·have:=fa j u (by simpa [A2.cells,FJ] using hu)
   rw[Nat.zero_mul,Nat.zero_add]at this;exact this
  ·have:=hr.own.cells (g:=g2) rfl j u (by simpa [FJ,acl,A0.cells] using hu)
   rw[addr_add]at this;exact this
def Lu.below {W W':Aa}{gt ct gA cA:Nat}{pT:Option Addr}{cT:Nat}(h:Lu W gt ct gA cA pT cT)(k:Ae W.1.size W W'):Lu W' gt ct gA cA pT cT:=
 ⟨h.c,h.a,fun j u hu=>(k.cell (p:=⟨gt,j,none⟩) (qh (h.l j u hu))).trans (h.l j u hu),fun j u hu=>(k.cell (p:=⟨gA,j,none⟩) (qh (h.t j u hu))).trans (h.t j u hu)⟩
def Ec.yes {w w':World}{e:Ending}{R:Rd}(h:Ec w w' e (some R)):∃ (M:List A2)(pa:Option Addr)(ca:Nat)(o:Own),e=.returned (.tuple #[.slice pa M.length ca,.bool true])/\Below w.1.size w w'/\M.map A2.x=R.M/\ES w' o M (.slice pa M.length ca):=by
 obtain⟨M,va,o,h1,h2,h3,h4,h5⟩:=h;obtain⟨pa,ca,rfl⟩:=h4.AS;exact⟨M,pa,ca,o,h1,h2,h3,h4,h5⟩
def dh (w:Aa):Ab Tryz.prog 41 #[] w fun e w'=>e=O (.bool true)/\Ae w.1.size w w':=by
 go_enter Tryz.func41,Tryz.ntmps41;go_upto_region 3 with fail;obtain⟨W,hW⟩:=Ja0 ((((w.alloc (.cells #[I Z 1,I Z 0,I Z 0,I Z 0,I Z 1] 73)).alloc (.cells #[Ah (some ⟨w.1.size,0,none⟩) 1 1] 71)).alloc (.cells #[Ah (some ⟨w.1.size+1,0,none⟩) 1 1] 67)).alloc (.cells #[I Z 0,I Z 0,I Z 0,I Z 1,I Z 0,I Z 0,I Z 0,I Z 0,I Z 0,I Z 2,I Z 0,I Z 1,I Z 0,I Z 0,I Z 1,I Z 3,I Z 0,I Z 1] 69));rw[<-hW];have hB:Ae w.1.size w W:=by rw[hW];exact qc (qc (qc (qc (qd w) _) _) _) _
 have j0:Al W w.1.size GP 73:=by rw[hW];exact (((Al.new w _ _).alloc _).alloc _).alloc _
 have j1:Al W (w.1.size+1) #[Ah (some ⟨w.1.size,0,none⟩) 1 1] 71:=by rw[hW];exact ((Al.Ap _ _ _ _ _ (by simp) rfl).alloc _).alloc _
 have j2:Al W (w.1.size+2) #[Ah (some ⟨w.1.size+1,0,none⟩) 1 1] 67:=by rw[hW];exact (Al.Ap _ _ _ _ _ (by simp) rfl).alloc _
 have j3:Al W (w.1.size+3) Si 69:=by rw[hW];exact Al.Ap _ _ _ _ _ (by simp) rfl
 clear hW;have HB:=Qa hB;have HJ:=Qa (aa j0 (aa j1 j2));have hT:=SZ j0 j1 j2;obtain⟨hE1,hE2⟩:=Sm j3;have HT1:=Qa (Uu hT qmf (by decide) (by decide) (by intro bs hbs;simp[DU]at hbs;subst hbs;decide) hE1 (by decide))
 have HT2:=Qa (fun (X:Aa)(hb:Ae W.1.size W X)=>Uu (hT.below hb) qmf (by decide) (by decide) (by intro bs hbs;simp[DU]at hbs;subst hbs;decide) (hE2.below hb) (by decide))
 rw[Q2]at HT1;rw[M8]at HT2;clear hB j0 j1 j2 j3 hT hE1 hE2;go_upto_region 4 with (first
  | (go_at_call 43;refine HT1.out.mono ?_;rintro e w3 h3;obtain⟨M,pa,ca,o,rfl,hb3,hM,hTr⟩:=h3.yes;obtain⟨m,rfl⟩:∃ m,M=[m]:=(by cases M with|nil=>simp at hM|cons m l=>cases l with|nil=>exact⟨m,rfl⟩|cons _ _=>simp at hM);have hm:m.x=FJ:=(by simpa using hM);have HB3:=Qa hb3;have HTr:=Qa (aa hm hTr);clear h3 hM hTr hb3 hm)
  | fail)
 obtain⟨gt,gA,cA,pT,cT,rfl,hr⟩:=Tb HTr.out.1 HTr.out.2;have HR:=Qa hr;clear HTr hr;go_upto_region 7 with (first
  | (go_at_call 43;refine (HT2.out _ HB3.out).mono ?_;rintro e w4 ⟨rfl,hb4⟩;have mE:=Qa hb4;clear hb4)
  | fail)
 have hb4:=qe HB3.out mE.out;have HR4:=Qa (HR.out.below mE.out);have HDl:=Qa (fun (X:Aa)(hb:Ae w4.1.size w4 X)=>(HJ.out.1.below (qe hb4 hb) HJ.out.1.lt).cell)
 have mF:=Qa (qe HB.out hb4);have HS:=Qa (fun (X:Aa)(hb:Ae w4.1.size w4 X)=>aa ((HJ.out.2.2.below (qe hb4 hb) HJ.out.2.2.lt).cell 0) (aa ((HJ.out.2.1.below (qe hb4 hb) HJ.out.2.1.lt).cell 0) (HR4.out.below hb)))
 clear hb4;refine Sc _ w4 (w.1.size+2) (w.1.size+1) w.1.size gt ca gA cA cT pT HR.out.c (fun X hb=>⟨(HS.out X hb).1,(HS.out X hb).2.1,(HS.out X hb).2.2.l 0 _ rfl,(HS.out X hb).2.2.l 1 _ rfl,(HS.out X hb).2.2.l 2 _ rfl,(HS.out X hb).2.2.l 3 _ rfl,(HS.out X hb).2.2.l 4 _ rfl,(HS.out X hb).2.2.l 5 _ rfl,(HS.out X hb).2.2.l 6 _ rfl,(HS.out X hb).2.2.l 7 _ rfl,(HS.out X hb).2.2.l 8 _ rfl,(HS.out X hb).2.2.l 9 _ rfl⟩) (fun X hb=>Kf X w.1.size 1 gA cA cT pT 0 0 0 0 2 1 (Qk _) HR.out.a (fun j u hu=>by rw[HDl.out X hb];exact hu) ((HS.out X hb).2.2.t 0 _ rfl) ((HS.out X hb).2.2.t 1 _ rfl) ((HS.out X hb).2.2.t 2 _ rfl)) (fun c d x a w h=>by cases d<;>exact h) ?_
 intro X C p' c' q d z0 z1 z2 z3 z4 z5 z6 z7 z8 z9 z10 z11 z12 z13 hbX jC hC;have sM:=Qa hbX;have JC:=Qa jC;clear hbX jC;go_upto_region 8 with fail;refine Sd _ X (w.1.size+2) (w.1.size+1) w.1.size gt ca gA cA cT pT HR.out.c (fun Y hb=>⟨(HS.out Y (qe sM.out hb)).1,(HS.out Y (qe sM.out hb)).2.1,(HS.out Y (qe sM.out hb)).2.2.l 6 _ rfl⟩) (fun Y hb=>Kt Y w.1.size 1 gA cA (Qk _) HR.out.a (fun j u hu=>by rw[HDl.out Y (qe sM.out hb)];exact hu) ((HS.out Y (qe sM.out hb)).2.2.t 0 _ rfl) ((HS.out Y (qe sM.out hb)).2.2.t 1 _ rfl) ((HS.out Y (qe sM.out hb)).2.2.t 2 _ rfl)) (fun c d x a w h=>by cases d<;>exact h) ?_
 intro Y D y0 y1 y2 y3 y4 y5 y6 y7 y8 y9 y10 hbY jD hD;have hbZ:=qe sM.out hbY;have l8:=(HS.out Y hbZ).2.2.l 8 _ rfl;have l5:=(HS.out Y hbZ).2.2.l 5 _ rfl;have l9:=(HS.out Y hbZ).2.2.l 9 _ rfl;have cC:=(JC.out.below hbY JC.out.lt).cell;have cD:=jD.cell;have hct:=HR.out.c;have HF:=Qa (qe mF.out hbZ);clear hbZ hbY jD;go_wp2_with fail;go_ret;exact⟨rfl,HF.out⟩
