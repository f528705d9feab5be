import Derived.Test.YteehgedabdchcaaGreatKap
import Derived.Laws.IdiomCopy
import Derived.Laws.MakeOwn
set_option linter.all false
set_option maxRecDepth 1000000
set_option maxHeartbeats 0
open Go renaming World->Aa,Calls->Ab,Value->Ac
open Go.RowKit renaming Below->Ae
open Go.Value renaming int->I,pointer->Ag,slice->Ah,tuple->Aj,agg->Ak
open Go.IntKind renaming i64->Z
open Go.Ending renaming returned->O
open List renaming replicate->Ad,setIfInBounds_toArray->Ai,range->aa,replicate_succ->ag,set_cons_zero->ai,set_cons_succ->aj
open Nat renaming zero_le->af
open Go.Proofs.Tryz
open Go.Proofs.Tryz renaming prog->ARt
open Go.Obj renaming cells->ARu
namespace Go.Proofs.YteehgedabdchcaaGreat
open Go.RowKit Hp
attribute [local go_sem ↓] Go.wp_at_zero Go.wp_at_succ
def Kw (w:Aa):(Instr.makeSlice 25 (I Z 0) (I Z 12)).run ARt w=.ok (Ah (some ⟨w.1.size,0,none⟩) 0 12) (w.alloc (ARu #[I Z 0,I Z 0,I Z 0,I Z 0,I Z 0,I Z 0,I Z 0,I Z 0,I Z 0,I Z 0,I Z 0,I Z 0] 3)):=by
 obtain⟨iI,hi,hsI,bZ,bT⟩:=jh;have h:=run_make (P:=ARt) w 25 3 iI _ underlying25 hi bT .i64 .i64 0 12 (by omega) (by omega) (by rw[bZ];omega) (by omega)
 rw[hsI,show madeCells (Value.int IntKind.i64 0).cells (Int.toNat 12*1)=#[I Z 0,I Z 0,I Z 0,I Z 0,I Z 0,I Z 0,I Z 0,I Z 0,I Z 0,I Z 0,I Z 0,I Z 0] from by kernel_rfl]at h
 exact h
def qjb {X:Aa}{b6:Nat}{t6:TypeId}{h:AE}{v:Ac}(fn:Func)(tmps:Array Ac)(i j:Nat)(hres:fn.results=#[.cell i 58,.tmp j])(ti:tmps.getD i undef=ptr b6)(tj:tmps.getD j undef=v)
  (j6:Al X b6 h.cells t6):(results fn tmps).run ARt X=.ok (Aj #[h.v,v]) X:=by
 have d6:=j6.cell;unfold AE.cells at d6;rw[Array.getD_eq_getD_getElem?]at ti tj;unfold ptr at ti;simp only[results,hres];simp[go_sem,ti,tj,d6,AE.v,AE.cells]
def YY (h:AE)(w:Aa):Ab ARt 150 #[h.v] w fun e w'=>e=O (Ah (some ⟨w.1.size+1,0,none⟩) 12 12) /\
  Al w' (w.1.size+1) #[I Z h.r.a0,I Z h.r.a1,I Z h.r.a2,I Z h.r.a3,I Z h.r.a4,I Z h.r.a5,I Z h.s.a0,I Z h.s.a1,I Z h.s.a2,I Z h.s.a3,I Z h.s.a4,I Z h.s.a5] 3/\Ae w.1.size w w':=by
 have hmk:=Kw;obtain⟨hb,hn,⟨a0,a1,a2,a3,a4,a5⟩,⟨s0,s1,s2,s3,s4,s5⟩,hl⟩:=h;show Ab _ _ #[Ak #[I Z hb,I Z hn,I Z a0,I Z a1,I Z a2,I Z a3,I Z a4,I Z a5,I Z s0,I Z s1,I Z s2,I Z s3,I Z s4,I Z s5,.bool hl]] _ _;simp only;go_enter func150,ntmps150;go_wp2_with fail;refine bodyPost_ret (v:=Ah (some ⟨w.1.size+1,0,none⟩) 12 12) ?_ rfl ⟨rfl,Al.Ap _ _ _ _ _ (by simp) rfl,qc (qc (qd w) _) _⟩
 simp[results,results150,go_sem]
def qmr (W:Aa)(b o g off c:Nat)(b0 b1 b2 b3 b4 b5:Int)(hc:∀ j,j<6->(W.cell? ⟨b,o+j,none⟩).isSome=true)(hf:∀ j,W.frozen? ⟨b,o+j,none⟩=false)
  (k0:W.cell? ⟨g,off,none⟩=some (I Z b0))(k1:W.cell? ⟨g,off+1,none⟩=some (I Z b1))(k2:W.cell? ⟨g,off+2,none⟩=some (I Z b2))(k3:W.cell? ⟨g,off+3,none⟩=some (I Z b3))(k4:W.cell? ⟨g,off+4,none⟩=some (I Z b4))(k5:W.cell? ⟨g,off+5,none⟩=some (I Z b5)) :
  (Builtin.copy_ #[25,25] 3 #[Ah (some ⟨b,o,none⟩) 6 6,Ah (some ⟨g,off,none⟩) 6 c]).run ARt W=.ok (I Z 6) ((((((W.setCell ⟨b,o+0,none⟩ (I Z b0)).setCell ⟨b,o+1,none⟩ (I Z b1)).setCell ⟨b,o+2,none⟩ (I Z b2)).setCell ⟨b,o+3,none⟩ (I Z b3)).setCell ⟨b,o+4,none⟩ (I Z b4)).setCell ⟨b,o+5,none⟩ (I Z b5)):=by
 obtain⟨iI,hi,hsI,bZ,bT⟩:=jh;refine (run_copy_cells (P:=ARt) W 25 25 3 3 b o 6 6 ⟨g,off,none⟩ 6 c [I Z b0,I Z b1,I Z b2,I Z b3,I Z b4,I Z b5] underlying25 (by rw[hi];simp[hsI]) rfl (fun j v hj=>?_) (fun j hj=>hc j hj) (fun j _=>hf j) (fun v hv=>?_)).trans ?_
 ·have hadd:(⟨g,off,none⟩:Addr).add j=⟨g,off+j,none⟩:=by unfold Addr.add;split<;>simp_all
  rw[hadd];obtain rfl|rfl|rfl|rfl|rfl|rfl|hq:j=0\/j=1\/j=2\/j=3\/j=4\/j=5\/6<=j:=by omega
  ·exact k0.trans hj
  ·exact k1.trans hj
  ·exact k2.trans hj
  ·exact k3.trans hj
  ·exact k4.trans hj
  ·exact k5.trans hj
  ·rw[Zb (by simpa using hq)]at hj;cases hj
 ·simp only[List.mem_cons,List.not_mem_nil,or_false]at hv
  rcases hv with rfl|rfl|rfl|rfl|rfl|rfl<;>rfl
 ·rfl
def qiq (h:AE)(g off c:Nat)(r s:R6)(w:Aa)(hc:12<=c)(hg:g<w.1.size)(hl:∀ j,j<12->w.cell? ⟨g,off+j,none⟩=#[Value.int .i64 r.a0,I Z r.a1,I Z r.a2,I Z r.a3,I Z r.a4,I Z r.a5,I Z s.a0,I Z s.a1,I Z s.a2,I Z s.a3,I Z s.a4,I Z s.a5][j]?) :
  Ab ARt 151 #[h.v,Ah (some ⟨g,off,none⟩) 12 c] w fun e w'=>e=O (Aj #[(AE.mk h.b h.n r s h.l).v,.bool true])/\Ae w.1.size w w':=by
 obtain⟨hb,hn,⟨a0,a1,a2,a3,a4,a5⟩,⟨s0,s1,s2,s3,s4,s5⟩,hl'⟩:=h;show Ab _ _ #[Ak #[I Z hb,I Z hn,I Z a0,I Z a1,I Z a2,I Z a3,I Z a4,I Z a5,I Z s0,I Z s1,I Z s2,I Z s3,I Z s4,I Z s5,.bool hl'],Ah (some ⟨g,off,none⟩) 12 c] _ _;obtain⟨b0,b1,b2,b3,b4,b5⟩:=r;obtain⟨c0,c1,c2,c3,c4,c5⟩:=s;simp only at hl ⊢;have k0:=hl 0 (by omega)
 have k1:=hl 1 (by omega)
 have k2:=hl 2 (by omega)
 have k3:=hl 3 (by omega)
 have k4:=hl 4 (by omega)
 have k5:=hl 5 (by omega)
 have k6:=hl 6 (by omega)
 have k7:=hl 7 (by omega)
 have k8:=hl 8 (by omega)
 have k9:=hl 9 (by omega)
 have k10:=hl 10 (by omega)
 have k11:=hl 11 (by omega)
 simp at k0 k1 k2 k3 k4 k5 k6 k7 k8 k9 k10 k11;clear hl;have oU:g≠w.1.size:=by omega
 have hcI:(6:Int)<=(c:Int):=by omega
 have hcJ:(12:Int)<=(c:Int):=by omega
 go_enter func151,ntmps151;go_upto_region 3 with fail;obtain⟨W,hW⟩:=Ja0 ((w.alloc (ARu #[I Z hb,I Z hn,I Z a0,I Z a1,I Z a2,I Z a3,I Z a4,I Z a5,I Z s0,I Z s1,I Z s2,I Z s3,I Z s4,I Z s5,.bool hl'] 58)).alloc (ARu #[I Z 0,I Z 0,I Z 0,I Z 0,I Z 0,I Z 0,I Z 0,I Z 0,I Z 0,I Z 0,I Z 0,I Z 0,I Z 0,I Z 0,.bool false] 58));rw[<-hW];have j2:Al W w.1.size #[I Z hb,I Z hn,I Z a0,I Z a1,I Z a2,I Z a3,I Z a4,I Z a5,I Z s0,I Z s1,I Z s2,I Z s3,I Z s4,I Z s5,.bool hl'] 58:=by rw[hW];exact (Al.new w _ _).alloc _
 have j4:Al W (w.1.size+1) #[I Z 0,I Z 0,I Z 0,I Z 0,I Z 0,I Z 0,I Z 0,I Z 0,I Z 0,I Z 0,I Z 0,I Z 0,I Z 0,I Z 0,.bool false] 58:=by rw[hW];exact Al.Ap _ _ _ _ _ (by simp) rfl
 have hbW:Ae w.1.size w W:=by rw[hW];exact qc (qc (qd w) _) _
 have kk:∀ j,j<12->W.cell? ⟨g,off+j,none⟩=w.cell? ⟨g,off+j,none⟩:=fun j _=>hbW.cell (p:=⟨g,off+j,none⟩) hg
 have q0:=(kk 0 (by omega)).trans k0
 have q1:=(kk 1 (by omega)).trans k1
 have q2:=(kk 2 (by omega)).trans k2
 have q3:=(kk 3 (by omega)).trans k3
 have q4:=(kk 4 (by omega)).trans k4
 have q5:=(kk 5 (by omega)).trans k5
 clear hW k0 k1 k2 k3 k4 k5 kk;rw[Nat.add_zero]at q0;have c2:=j2.cell;have z2:=j2.free;have l2:=j2.lt;have hcp:=qmr W.drew w.1.size 2 g off c b0 b1 b2 b3 b4 b5 (fun j hj=>by
  have e:=c2 (2+j);rw[show W.drew.cell? ⟨w.1.size,2+j,none⟩=W.cell? ⟨w.1.size,2+j,none⟩ from rfl,e];obtain rfl|rfl|rfl|rfl|rfl|rfl:j=0\/j=1\/j=2\/j=3\/j=4\/j=5:=by omega
  all_goals rfl) (fun j=>z2 (2+j)) q0 q1 q2 q3 q4 q5
 go_region;obtain⟨X,hX⟩:=Ja0 (((((((W.setCell ⟨w.1.size,2,none⟩ (I Z b0)).setCell ⟨w.1.size,3,none⟩ (I Z b1)).setCell ⟨w.1.size,4,none⟩ (I Z b2)).setCell ⟨w.1.size,5,none⟩ (I Z b3)).setCell ⟨w.1.size,6,none⟩ (I Z b4)).setCell ⟨w.1.size,7,none⟩ (I Z b5)).drew);rw[<-hX];have i2:Al X w.1.size #[I Z hb,I Z hn,I Z b0,I Z b1,I Z b2,I Z b3,I Z b4,I Z b5,I Z s0,I Z s1,I Z s2,I Z s3,I Z s4,I Z s5,.bool hl'] 58:=by
  rw[hX];have k:=qj ((((((j2.set 2 (I Z b0)).set 3 (I Z b1)).set 4 (I Z b2)).set 5 (I Z b3)).set 6 (I Z b4)).set 7 (I Z b5));simp only[Ai,ai,aj]at k;exact k
 have i4:Al X (w.1.size+1) #[I Z 0,I Z 0,I Z 0,I Z 0,I Z 0,I Z 0,I Z 0,I Z 0,I Z 0,I Z 0,I Z 0,I Z 0,I Z 0,I Z 0,.bool false] 58:=by rw[hX];exact qj ((((((j4.Am (a:=⟨w.1.size,2,none⟩) (by show w.1.size+1≠w.1.size;omega) (I Z b0)).Am (a:=⟨w.1.size,3,none⟩) (by show w.1.size+1≠w.1.size;omega) (I Z b1)).Am (a:=⟨w.1.size,4,none⟩) (by show w.1.size+1≠w.1.size;omega) (I Z b2)).Am (a:=⟨w.1.size,5,none⟩) (by show w.1.size+1≠w.1.size;omega) (I Z b3)).Am (a:=⟨w.1.size,6,none⟩) (by show w.1.size+1≠w.1.size;omega) (I Z b4)).Am (a:=⟨w.1.size,7,none⟩) (by show w.1.size+1≠w.1.size;omega) (I Z b5))
 have hbX:Ae w.1.size w X:=by rw[hX];exact qf (zc (zc (zc (zc (zc (zc hbW (Qk _) _) (Qk _) _) (Qk _) _) (Qk _) _) (Qk _) _) (Qk _) _)
 have kk:∀ j,j<12->X.cell? ⟨g,off+j,none⟩=w.cell? ⟨g,off+j,none⟩:=fun j _=>hbX.cell (p:=⟨g,off+j,none⟩) hg
 have q6:=(kk 6 (by omega)).trans k6
 have q7:=(kk 7 (by omega)).trans k7
 have q8:=(kk 8 (by omega)).trans k8
 have q9:=(kk 9 (by omega)).trans k9
 have nN:=(kk 10 (by omega)).trans k10
 have nO:=(kk 11 (by omega)).trans k11
 clear hX c2 z2 l2 j2 j4 hbW q0 q1 q2 q3 q4 q5 hcp;have d2:=i2.cell;have z2:=i2.free;have l2:=i2.lt;go_upto_region 4 with fail;have hcp:=qmr X.drew w.1.size 8 g (off+6) (c-6) c0 c1 c2 c3 c4 c5 (fun j hj=>by
  have e:=d2 (8+j);rw[show X.drew.cell? ⟨w.1.size,8+j,none⟩=X.cell? ⟨w.1.size,8+j,none⟩ from rfl,e];obtain rfl|rfl|rfl|rfl|rfl|rfl:j=0\/j=1\/j=2\/j=3\/j=4\/j=5:=by omega
  all_goals rfl) (fun j=>z2 (8+j)) q6 q7 q8 q9 nN nO
 go_region;obtain⟨Y,hY⟩:=Ja0 (((((((X.setCell ⟨w.1.size,8,none⟩ (I Z c0)).setCell ⟨w.1.size,9,none⟩ (I Z c1)).setCell ⟨w.1.size,10,none⟩ (I Z c2)).setCell ⟨w.1.size,11,none⟩ (I Z c3)).setCell ⟨w.1.size,12,none⟩ (I Z c4)).setCell ⟨w.1.size,13,none⟩ (I Z c5)).drew);rw[<-hY];have m2:Al Y w.1.size #[I Z hb,I Z hn,I Z b0,I Z b1,I Z b2,I Z b3,I Z b4,I Z b5,I Z c0,I Z c1,I Z c2,I Z c3,I Z c4,I Z c5,.bool hl'] 58:=by
  rw[hY];have k:=qj ((((((i2.set 8 (I Z c0)).set 9 (I Z c1)).set 10 (I Z c2)).set 11 (I Z c3)).set 12 (I Z c4)).set 13 (I Z c5));simp only[Ai,ai,aj]at k;exact k
 have m4:Al Y (w.1.size+1) #[I Z 0,I Z 0,I Z 0,I Z 0,I Z 0,I Z 0,I Z 0,I Z 0,I Z 0,I Z 0,I Z 0,I Z 0,I Z 0,I Z 0,.bool false] 58:=by rw[hY];exact qj ((((((i4.Am (a:=⟨w.1.size,8,none⟩) (by show w.1.size+1≠w.1.size;omega) (I Z c0)).Am (a:=⟨w.1.size,9,none⟩) (by show w.1.size+1≠w.1.size;omega) (I Z c1)).Am (a:=⟨w.1.size,10,none⟩) (by show w.1.size+1≠w.1.size;omega) (I Z c2)).Am (a:=⟨w.1.size,11,none⟩) (by show w.1.size+1≠w.1.size;omega) (I Z c3)).Am (a:=⟨w.1.size,12,none⟩) (by show w.1.size+1≠w.1.size;omega) (I Z c4)).Am (a:=⟨w.1.size,13,none⟩) (by show w.1.size+1≠w.1.size;omega) (I Z c5))
 have hbY:Ae w.1.size w Y:=by rw[hY];exact qf (zc (zc (zc (zc (zc (zc hbX (Qk _) _) (Qk _) _) (Qk _) _) (Qk _) _) (Qk _) _) (Qk _) _)
 clear hY d2 z2 l2 i2 i4 hbX hcp;have d2:=m2.cell;have d4:=m4.cell;have z4:=m4.free;have l4:=m4.lt;go_wp2_with fail;change bodyPost _ _ _ _ _ (CS Y (w.1.size+1) ⟨hb,hn,⟨b0,b1,b2,b3,b4,b5⟩,⟨c0,c1,c2,c3,c4,c5⟩,hl'⟩);have hres:=Qa (d8 (g:=⟨0,0,⟨0,0,0,0,0,0⟩,⟨0,0,0,0,0,0⟩,false⟩) m4 ⟨hb,hn,⟨b0,b1,b2,b3,b4,b5⟩,⟨c0,c1,c2,c3,c4,c5⟩,hl'⟩);have hrb:=Qa (Ux hbY (Nat.le_succ w.1.size) ⟨hb,hn,⟨b0,b1,b2,b3,b4,b5⟩,⟨c0,c1,c2,c3,c4,c5⟩,hl'⟩);clear d2 d4 z4 l4 m2 m4 hbY;generalize CS Y (w.1.size+1) ⟨hb,hn,⟨b0,b1,b2,b3,b4,b5⟩,⟨c0,c1,c2,c3,c4,c5⟩,hl'⟩=X at *;exact bodyPost_ret (qjb _ _ 4 5 rfl rfl rfl hres.out) rfl ⟨rfl,hrb.out⟩
def Tx.fresh (r u:Nat):Tx:=⟨false,0,0,Lg.fresh r u,[]⟩
def An.fresh (n k r u m:Nat):An:=⟨Hp.fresh n,0,0,m,Ad k (Tx.fresh r u),[],0,-1,0,[],[]⟩
def qia (k r u:Nat):kp (Ad k (Tx.fresh r u))=0:=by
 induction k with
 | zero=>rfl
 | succ k ih=>rw[ag,kz,ih];rfl
def qir (k r u:Nat):wg (Ad k (Tx.fresh r u))=0:=by
 induction k with
 | zero=>rfl
 | succ k ih=>rw[ag];show 0+wg _=0;rw[ih]
def An.Dj {n k r u m:Nat}(h1:16<=n)(h2:n<=16384)(k1:1<=k)(k8:k<=8)(hr:r<=200)(hu:u<=200)(hm:m<=1099511627776):(An.fresh n k r u m).ok:=by
 have hfx:∀ x ∈ (An.fresh n k r u m).Au,x=Tx.fresh r u:=fun x hx=>List.eq_of_mem_replicate hx
 refine⟨Hp.Hv h1 h2,hm,?_,by simpa [An.fresh] using k1,by simpa [An.fresh] using k8,fun x hx=>?_,fun x hx=>?_,Qk _,by simp[An.fresh],fun x hx=>(by cases hx),fun x hx=>(by cases hx),?_,by simp[An.fresh,Hp.fresh],by simp[An.fresh],fun x hx=>?_,?_⟩
 ·show 0+kp (Ad k (Tx.fresh r u))<=m
  rw[qia];omega
 ·rw[hfx x hx]
  exact⟨⟨hr,hu,af _,af _,af _,af _⟩,fun z hz=>(by cases hz),fun z hz=>(by cases hz),fun z hz=>(by cases hz)⟩
 ·rw[hfx x hx];exact Qk _
 ·show 0+wg (Ad k (Tx.fresh r u))<=0
  rw[qir];omega
 ·rw[hfx x hx];exact Qk _
 ·exact⟨by simp[An.fresh],by simp[An.fresh,Hp.fresh]⟩
def Stp.strict {T:Tag->Prop}{o o':Own}{w w':Aa}(h:Stp T o o' w w')(ht:∀ b,b<w.1.size->¬T (o b)):Stp (fun _=>False) o o' w w':=
 ⟨h.os,h.tape,h.output,h.size,h.tags,fun b hb _=>h.block b hb (ht b hb)⟩
def Mu:∃ i,ARt.info? 103=some i/\i.size=1/\i.bytes=8/\i.zero=some (Ag none):=info_parts (by kernel_rfl)
section
variable {w w' : Aa} {o o' : Own} {y : A6} {S : An}
def Aq.more {n k r u m:Nat}(h:Aq w o y (An.fresh n k r u m)){v':Ac}{lb:Nat}
  (hs:Stp (fun t=>t=(y.l.id,11)\/t=(y.l.id,12)) o o' w w')
  (hb:Al w' y.sb #[ptr y.l.h,ptr y.cy,ptr y.ck,v',Ah none 0 0,I Z 0,I Z (-1),I Z 0,Ah none 0 0,Ah none 0 0] 101)
  (hr:Row w' o' (y.l.id,12) 103 1 v' (k+1) (((aa k).map fun i=>ptr (y.xb i))++[ptr (lb+1)]))
  (jx:Al w' (lb+1) #[I Z k,.bool false,I Z 0,I Z 0,ptr lb,Ah none 0 0] 107)
  (jl:Al w' lb #[I Z r,I Z u,Ah none 0 0,Ah none 0 0,Ah none 0 0,Ah none 0 0] 219)
  (ox:o' (lb+1)=(y.l.id,16+8*k))(ol:o' lb=(y.l.id,17+8*k)) :
  Aq w' o' { y with EM:=v',xb:=fun j=>if j=k then lb+1 else y.xb j,lb:=fun j=>if j=k then lb else y.lb j } (An.fresh n (k+1) r u m):=by
 refine⟨⟨Ah none 0 0,Ah none 0 0,Ah none 0 0,hb,⟨Row.nil _ _ _ _ _,Row.nil _ _ _ _ _,Row.nil _ _ _ _ _⟩⟩,h.cy.Ao hs (by rw[h.oy];simp),h.hp.Ao hs fun j hj=>by simp;omega,h.ck.Ao hs (by rw[h.oc];simp),?_,fun i x hx=>?_,(hs.tags _ h.ck.lt).trans h.oc,(hs.tags _ h.lt).trans h.os,(hs.tags _ h.cy.lt).trans h.oy⟩
 ·show Row w' o' (y.l.id,12) _ 1 v' (Ad (k+1) (Tx.fresh r u)).length ((aa (Ad (k+1) (Tx.fresh r u)).length).map _)
  rw[Qy,List.range_succ,Qx];have e1:((aa k).map fun i=>ptr (if i=k then lb+1 else y.xb i))=(aa k).map fun i=>ptr (y.xb i):=by
   refine List.map_congr_left fun i hi=>?_;rw[if_neg (by have:=List.mem_range.1 hi;omega)]
  simp only[List.map_cons,List.map_nil,if_true];rw[e1];exact hr
 ·have hx':(Ad (k+1) (Tx.fresh r u))[i]?=some x:=hx
  have hi:i<k+1:=by have:=(Qc.1 hx').1;simpa using this
  have hxe:x=Tx.fresh r u:=by rw[Qz,if_pos hi]at hx';injection hx' with hx';exact hx'.symm
  subst hxe;by_cases e:i=k
  ·subst e
   simp only[if_true];exact⟨⟨Ah none 0 0,jx,Row.nil _ _ _ _ _⟩,⟨_,_,_,_,jl,Row.nil _ _ _ _ _,Row.nil _ _ _ _ _,Row.nil _ _ _ _ _,Row.nil _ _ _ _ _,ol⟩,ox⟩
  ·simp only[if_neg e]
   have hk:(Ad k (Tx.fresh r u))[i]?=some (Tx.fresh r u):=by rw[Qz,if_pos (by omega)]
   exact (h.Au i _ hk).Ao hs fun j hj=>by simp;omega
def QO (n k r u:Nat)(m:Int)(h1:16<=n)(h2:n<=16384)(k1:1<=k)(k8:k<=8)(hr:r<=200)(hu:u<=200)(o:Own)(id:Nat)(w:Aa)(hfree:∀ b,b<w.1.size->(o b).1≠id) :
  Ab ARt 46 #[I Z n,I Z k,I Z r,I Z u,I Z m] w fun e w'=>∃ y o',e=O (Aj #[ptr y.sb,I Z 0])/\y.l.id=id /\
   Aq w' o' y (An.fresh n k r u (Ek m).toNat)/\Stp (fun _=>False) o o' w w':=by
 have HN:=Qa (fun w=>H5 n h1 h2 o id w)
 have HF:=Qa hfree;clear hfree;have HC:=Qa (fun b w=>qoc b w)
 have HK:=Qa (fun w=>LO m w)
 have HL:=Qa (fun w=>MF r u hr hu w)
 have hb0:0<=Ek m:=by unfold Ek;omega
 have hb1:Ek m=((Ek m).toNat:Int):=by omega
 rw[hb1]at HK;generalize (Ek m).toNat=M at *;clear hb0 hb1 hr hu h1 h2;have hu64:=underlying98;have kI1:(1:Int)<=(k:Int):=by omega
 have kI8:(k:Int)<=8:=by omega
 go_enter func46,ntmps46;go_wp2_with fail;refine (HN.out _).mono ?_
 rintro e w1 ⟨h,a,wd,o1,rfl,hH,hs1,hle,hid⟩
 go_wp2_with fail;refine (HC.out _ _).mono ?_
 rintro e w2 ⟨rfl,hw2⟩
 have hb2:Ae w1.1.size w1 w2:=by rw[hw2];exact qc (qd w1) _
 have jY0:Al w2 w1.1.size #[ptr h,.nilFunc,Ah none 0 0,Ah none 0 0] 201:=by rw[hw2];exact Al.new w1 _ _
 have hz2:w1.1.size<w2.1.size:=by rw[hw2];simp
 clear hw2;go_wp2_with fail;refine (HK.out _).mono ?_
 rintro e w3 ⟨rfl,rfl⟩
 obtain⟨W,hW⟩:=Ja0 ((w2.alloc (ARu #[I Z 0,I Z M] 193)).alloc (ARu #[ptr h,ptr w1.1.size,ptr w2.1.size,Ah none 0 0,Ah none 0 0,I Z 0,I Z (-1),I Z 0,Ah none 0 0,Ah none 0 0] 101));have hb3:Ae w1.1.size w1 W:=by rw[hW];exact qc (qc hb2 _) _
 have jC:Al W w2.1.size #[I Z 0,I Z M] 193:=by rw[hW];exact (Al.new w2 _ _).alloc _
 have jB:Al W (w2.1.size+1) #[ptr h,ptr w1.1.size,ptr w2.1.size,Ah none 0 0,Ah none 0 0,I Z 0,I Z (-1),I Z 0,Ah none 0 0,Ah none 0 0] 101:=by rw[hW];exact Al.Ap _ _ _ _ _ (by simp) rfl
 have jY:Al W w1.1.size #[ptr h,.nilFunc,Ah none 0 0,Ah none 0 0] 201:=by rw[hW];exact (jY0.alloc _).alloc _
 have Aph:w1.1.size<=w2.1.size:=hb2.size;obtain⟨o2,ho2⟩:∃ o2:Own,o2=fun b=>if b=w2.1.size then (id,10) else if b=w2.1.size+1 then (id,11) else if b=w1.1.size then (id,7) else o1 b:=⟨_,rfl⟩
 have dN:∀ b,b<w1.1.size->o2 b=o1 b:=fun b hb=>by rw[ho2];show (if _ then _ else _)=_;rw[if_neg (by omega),if_neg (by omega),if_neg (by omega)]
 have oC:o2 w2.1.size=(id,10):=by rw[ho2];exact if_pos rfl
 have oB:o2 (w2.1.size+1)=(id,11):=by rw[ho2];show (if _ then _ else _)=_;rw[if_neg (by omega),if_pos rfl]
 have oY:o2 w1.1.size=(id,7):=by rw[ho2];show (if _ then _ else _)=_;rw[if_neg (by omega),if_neg (by omega),if_pos rfl]
 have hs2:Stp (fun _=>False) o1 o2 w1 W:=⟨hb3.os,hb3.tape,hb3.output,hb3.size,dN,fun b hb _=>hb3.block b hb⟩
 have hS0:Aq W o2 ⟨w2.1.size+1,⟨id,h,a,wd⟩,w1.1.size,w2.1.size,Ah none 0 0,fun _=>0,fun _=>0⟩ (An.fresh n 0 r u M):=
  ⟨⟨Ah none 0 0,Ah none 0 0,Ah none 0 0,jB,⟨Row.nil _ _ _ _ _,Row.nil _ _ _ _ _,Row.nil _ _ _ _ _⟩⟩,jY,⟨_,_,_,_,_,hH.Ao hs2 fun _ _ h=>h⟩,jC,Row.nil _ _ _ _ _,fun i x hx=>(by cases hx),oC,oB,oY⟩
 have hs3:Stp (fun t=>t.1=id) o o2 w W:=(hs1.trans hs2).mono (fun _ h=>h.elim)
 have iV:=Qa hS0;have HS3:=Qa hs3;clear hH hs1 hle hid hb2 hb3 jC jY jY0 hz2 dN oC oB oY hs2 hS0 hs3 ho2;go_wp2_with fail;rw[<-hW];obtain⟨sb,hsb⟩:=Ja0 (w2.1.size+1);rw[<-hsb]at iV jB ⊢;obtain⟨cy,hcy⟩:=Ja0 w1.1.size;obtain⟨ck,hck⟩:=Ja0 w2.1.size;rw[<-hcy,<-hck]at iV jB;have yI:=Qa jB;clear hW hsb Aph hcy hck jB;go_loopw [37] (fun ix wr=>∃ (q:Nat)(v:Ac)(xb lb:Nat->Nat)(oo:Own),ix=I Z q/\q<=k/\Aq wr oo ⟨sb,⟨id,h,a,wd⟩,cy,ck,v,xb,lb⟩ (An.fresh n q r u M)/\Al wr sb #[ptr h,ptr cy,ptr ck,v,Ah none 0 0,I Z 0,I Z (-1),I Z 0,Ah none 0 0,Ah none 0 0] 101/\Stp (fun t=>t.1=id) o oo w wr) (fun ix _=>k-(intOf ix).toNat)
 case atStart=>exact⟨0,_,_,_,_,rfl,by omega,iV.out,yI.out,HS3.out⟩
 case round =>
  obtain⟨q,v,xb,lb,oo,rfl,hqk,hS,hB,hs⟩:=hrel;clear iV HS3 yI;by_cases hlt:q<k
  ·have qI:(q:Int)<(k:Int):=by omega
   have hH:=Qa hS;have hBH:=Qa hB;have hsH:=Qa hs;obtain⟨wo,rfl⟩:=Ja0 wr;have DV:=hS.DV;have hqz:(An.fresh n q r u M).Au.length=q:=Qy;rw[hqz]at DV;simp only at DV;clear hqz hS hs hqk;obtain⟨pa,cp,rfl⟩:=DV.AS;have c:=hB.cell;have sB:=hB.lt;obtain⟨z,hz⟩:=Ja0 wo.1.size;have HL2:=Qa (show Ab ARt 104 #[I Z r,I Z u] wo.drew fun e w'=>e=O (ptr z)/\Al w' z #[I Z r,I Z u,Ah none 0 0,Ah none 0 0,Ah none 0 0,Ah none 0 0] 219/\Ae wo.1.size wo w'/\w'.1.size=z+1 from by
    rw[hz];exact (HL.out wo.drew).mono fun e w' ⟨h1,h2,h3,h4⟩=>⟨h1,h2,qe (qf (qd wo)) h3,h4⟩)
   obtain⟨op,hop⟩:∃ op:Own,op=fun b=>if b=z then (id,17+8*q) else if b=z+1 then (id,16+8*q) else if b<z then oo b else (id+1,0):=⟨_,rfl⟩;have opl:∀ b,b<wo.1.size->op b=oo b:=fun b hb=>by rw[hop];show (if _ then _ else _)=_;rw[if_neg (by omega),if_neg (by omega),if_pos (by omega)]
   have opz:op z=(id,17+8*q):=by rw[hop];exact if_pos rfl
   have Abd:op (z+1)=(id,16+8*q):=by rw[hop];show (if _ then _ else _)=_;rw[if_neg (by omega),if_pos rfl]
   have Aqw:=DV.retag opl;obtain⟨iT,hi,hsI,bZ,bT⟩:=Mu;have dX:q+1<=maxLen:=by simp only[maxLen];omega
   have hmb:(q+1)*8<=140737488355328:=by omega
   have sbz:sb<z:=by rw[hz];exact sB
   have HZ:=Qa hz;have hone:∀ u ∈ [ptr (z+1)],u.oneCell'=true:=by intro u hu;simp at hu;subst hu;rfl
   have hfin:=Qa (fun (w3 w4:Aa)(o4:Own)(v':Ac)(jl:Al w3 z #[I Z r,I Z u,Ah none 0 0,Ah none 0 0,Ah none 0 0,Ah none 0 0] 219)(hbl:Ae wo.1.size wo w3)(hz3:w3.1.size=z+1)
     (hown:Row w4 o4 (id,12) 103 1 v' (q+1) (((aa q).map fun i=>ptr (xb i))++[ptr (z+1)]))
     (hst:Stp (fun t=>t=(id,12)) op o4 ((w3.alloc (ARu #[I Z q,.bool false,I Z 0,I Z 0,ptr z,Ah none 0 0] 107)).alloc (ARu #[ptr (z+1)] 103)) w4) =>
    show ∃ (xb lb:Nat->Nat)(oo:Own),Aq (w4.setCell ⟨sb,3,none⟩ v') oo ⟨sb,⟨id,h,a,wd⟩,cy,ck,v',xb,lb⟩ (An.fresh n (q+1) r u M)/\Al (w4.setCell ⟨sb,3,none⟩ v') sb #[ptr h,ptr cy,ptr ck,v',Ah none 0 0,I Z 0,I Z (-1),I Z 0,Ah none 0 0,Ah none 0 0] 101/\Stp (fun t=>t.1=id) o oo w (w4.setCell ⟨sb,3,none⟩ v') from by
     have hz:=HZ.out;have e0:op sb=(id,11):=(opl _ (by omega)).trans hH.out.os
     have k1:Ae wo.1.size wo ((w3.alloc (ARu #[I Z q,.bool false,I Z 0,I Z 0,ptr z,Ah none 0 0] 107)).alloc (ARu #[ptr (z+1)] 103)):=qc (qc hbl _) _;have k2:Stp (fun _=>False) oo op wo ((w3.alloc (ARu #[I Z q,.bool false,I Z 0,I Z 0,ptr z,Ah none 0 0] 107)).alloc (ARu #[ptr (z+1)] 103)):=⟨k1.os,k1.tape,k1.output,k1.size,opl,fun b hb _=>k1.block b hb⟩;have jX:Al ((w3.alloc (ARu #[I Z q,.bool false,I Z 0,I Z 0,ptr z,Ah none 0 0] 107)).alloc (ARu #[ptr (z+1)] 103)) (z+1) #[I Z q,.bool false,I Z 0,I Z 0,ptr z,Ah none 0 0] 107:=(Al.Ap _ _ _ _ _ hz3.symm rfl).alloc _;have jL:=(jl.alloc (ARu #[I Z q,.bool false,I Z 0,I Z 0,ptr z,Ah none 0 0] 107)).alloc (ARu #[ptr (z+1)] 103);have jS:=(hBH.out.below k1 (by omega)).Ao hst (by rw[e0];simp)
     have e4:o4 sb=(id,11):=(hst.tags _ (hBH.out.below k1 (by omega)).lt).trans e0
     have k3:Stp (fun t=>t=(id,11)) o4 o4 w4 (w4.setCell ⟨sb,3,none⟩ v'):=(Stp.refl _ o4 w4).setCell (by show o4 sb=_;exact e4) _
     have k4:Stp (fun t=>t=(id,11)\/t=(id,12)) oo o4 wo (w4.setCell ⟨sb,3,none⟩ v'):=(k2.mono fun _ h=>h.elim).trans ((hst.mono fun _ h=>Or.inr h).trans (k3.mono fun _ h=>Or.inl h));have iP:Al (w4.setCell ⟨sb,3,none⟩ v') sb #[ptr h,ptr cy,ptr ck,v',Ah none 0 0,I Z 0,I Z (-1),I Z 0,Ah none 0 0,Ah none 0 0] 101:=jS.set 3 v';refine⟨_,_,o4,hH.out.more k4 iP (hown.Ao k3 (by simp)) ((jX.Ao hst (by rw[Abd];simp;omega)).Am (by show z+1≠sb;omega) _) ((jL.Ao hst (by rw[opz];simp;omega)).Am (by show z≠sb;omega) _) ?_ ?_,iP,hsH.out.trans (k4.mono (by rintro _ (rfl|rfl)<;>rfl))⟩
     ·exact (hst.tags _ jX.lt).trans Abd
     ·exact (hst.tags _ jL.lt).trans opz)
   clear hz opz Abd hop DV;go_upto_region 10 with fail;go_region_law (first
    | (refine qv _ (by rfl) _ _ _ (by rfl) 103 iT _ 1 8 hu64 hi bT hsI bZ (by rfl) (by decide) op (id,12) _ _ _ (by rfl) rn ⟨z+1+1,0,none⟩ 1 1 [ptr (z+1)] (by rfl) (by rfl) (zj jn) hone dX hmb ?_;intro v' w4 hown hst;obtain⟨pa',cp',rfl⟩:=hown.AS;have jX:=(xN.alloc _).alloc _ |>.Ao hst (by rw[opl _ sB,hH.out.os];simp);have cX:=jX.cell;have zX:=jX.free;have sX:=jX.lt)
    | (go_simp;go_wp2_with ((go_at_call 104;refine HL2.out.mono ?_;rintro e w3 ⟨rfl,jl,hbl,hz3⟩;have xN:=hB.below hbl sB;have cB3:=xN.cell;have sB3:=xN.lt;have cA3:=(xN.alloc (ARu #[I Z q,.bool false,I Z 0,I Z 0,ptr z,Ah none 0 0] 107)).cell;have cD3:=((xN.alloc (ARu #[I Z q,.bool false,I Z 0,I Z 0,ptr z,Ah none 0 0] 107)).alloc (ARu #[ptr (z+1)] 103)).cell;have rn:=((Aqw.below (w':=w3) hbl).below (qc (qd w3) (ARu #[I Z q,.bool false,I Z 0,I Z 0,ptr z,Ah none 0 0] 107))).below (qc (qd _) (ARu #[ptr (z+1)] 103));have jn:=Al.Ap (w3.alloc (ARu #[I Z q,.bool false,I Z 0,I Z 0,ptr z,Ah none 0 0] 107)) #[ptr (z+1)] #[ptr (z+1)] 103 (z+1+1) (by rw[World.size_alloc,hz3]) rfl))))
   all_goals
    obtain⟨xb',lb',oo',hS',hB',hs'⟩:=hfin.out _ _ _ _ jl hbl hz3 hown hst;go_wp2_with fail;go_roundw
    case rel=>exact⟨q+1,_,xb',lb',oo',by simp,by omega,hS',hB',hs'⟩
    case measure=>simp[intOf];omega
  ·obtain rfl:q=k:=by omega
   clear hlt;go_wp2_with fail;go_ret2;exact⟨_,oo,rfl,rfl,hS,hs.strict HF.out⟩
