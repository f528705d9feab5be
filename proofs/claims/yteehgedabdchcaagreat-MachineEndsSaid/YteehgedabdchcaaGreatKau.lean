import Derived.Test.YteehgedabdchcaaGreatKak
import Derived.Test.YteehgedabdchcaaGreatKbe
import Derived.Defers
import Derived.Laws.CopyRow
import Derived.Shelf.Spec.SlicesGrow
import Derived.Sort.CutIn
import Derived.Stop.RegionWithIn
import Derived.Conc.MuLone
import Derived.Laws.IdiomCopy
import Derived.Laws.MakeOwn
set_option linter.all false
set_option maxRecDepth 1000000
set_option maxHeartbeats 16000000
open Go renaming World->Aa,Calls->Ab,Value->Ac
open Go.RowKit renaming Below->Ae
open Go.Value renaming int->I,pointer->Ag,slice->Ah,tuple->Aj,agg->Ak
open Go.IntKind renaming i64->Z
open Go.Ending renaming returned->O
namespace Go.Proofs.YteehgedabdchcaaGreat
section
open Go.RowKit Hp
attribute [local go_sem ↓] Go.wp_at_zero Go.wp_at_succ
structure R6 where
 a0:Int
 a1:Int
 a2:Int
 a3:Int
 a4:Int
 a5:Int
deriving DecidableEq
structure AD where
 b:Int
 n:Int
 r:R6
 s:R6
 l:Bool
deriving DecidableEq
def AD.cells (h:AD):Array Ac:=#[I Z h.b,I Z h.n,I Z h.r.a0,I Z h.r.a1,I Z h.r.a2,I Z h.r.a3,I Z h.r.a4,I Z h.r.a5,I Z h.s.a0,I Z h.s.a1,I Z h.s.a2,I Z h.s.a3,I Z h.s.a4,I Z h.s.a5,.bool h.l]
def AD.v (h:AD):Ac:=.agg h.cells
structure Bf where
 k:Int
 e:Int
 v:Int
deriving DecidableEq
def Bf.cells (a:Bf):Array Ac:=#[I Z a.k,I Z a.e,I Z a.v]
def Bf.val (a:Bf):Ac:=.agg a.cells
def AD.back (h:AD):AD:=⟨h.b,0,h.s,h.s,false⟩
theorem tu (h:AD)(w:Aa):Ab Tryz.prog 212 #[h.v] w fun e w'=>e=O h.back.v/\Ae w.heap.size w w':=by
 obtain⟨hb,hn,⟨a0,a1,a2,a3,a4,a5⟩,⟨s0,s1,s2,s3,s4,s5⟩,hl⟩:=h;show Ab _ _ #[Ak #[I Z hb,I Z hn,I Z a0,I Z a1,I Z a2,I Z a3,I Z a4,I Z a5,I Z s0,I Z s1,I Z s2,I Z s3,I Z s4,I Z s5,.bool hl]] _ _;go_enter Tryz.func212,Tryz.ntmps212;go_wp2_with fail;obtain⟨W,hW⟩:∃ W:Aa,W=(w.alloc (.cells #[I Z hb,I Z 0,I Z s0,I Z s1,I Z s2,I Z s3,I Z s4,I Z s5,I Z s0,I Z s1,I Z s2,I Z s3,I Z s4,I Z s5,.bool false] 58)).alloc (.cells #[I Z hb,I Z 0,I Z s0,I Z s1,I Z s2,I Z s3,I Z s4,I Z s5,I Z s0,I Z s1,I Z s2,I Z s3,I Z s4,I Z s5,.bool false] 58):=⟨_,rfl⟩;rw[<-hW];have j8:Am W (w.heap.size+1) #[I Z hb,I Z 0,I Z s0,I Z s1,I Z s2,I Z s3,I Z s4,I Z s5,I Z s0,I Z s1,I Z s2,I Z s3,I Z s4,I Z s5,.bool false] 58:=by rw[hW];exact Am.Aq _ _ _ _ _ (by simp) rfl
 have hbl:Ae w.heap.size w W:=by rw[hW];exact qa (qa (qc w) _) _
 clear hW;have c8:=j8.cell;refine bodyPost_ret (v:=AD.v ⟨hb,0,⟨s0,s1,s2,s3,s4,s5⟩,⟨s0,s1,s2,s3,s4,s5⟩,false⟩) ?_ rfl ⟨rfl,hbl⟩;simp[results,Tryz.results212,go_sem,c8,AD.v,AD.cells]
def jd (W:Aa)(b6 b7:Nat)(h:AD)(a:Bf):Aa:=((((((((((((((((((W.setCell ⟨b6,0,none⟩ (I Z h.b)).setCell ⟨b6,1,none⟩ (I Z h.n)).setCell ⟨b6,2,none⟩ (I Z h.r.a0)).setCell ⟨b6,3,none⟩ (I Z h.r.a1)).setCell ⟨b6,4,none⟩ (I Z h.r.a2)).setCell ⟨b6,5,none⟩ (I Z h.r.a3)).setCell ⟨b6,6,none⟩ (I Z h.r.a4)).setCell ⟨b6,7,none⟩ (I Z h.r.a5)).setCell ⟨b6,8,none⟩ (I Z h.s.a0)).setCell ⟨b6,9,none⟩ (I Z h.s.a1)).setCell ⟨b6,10,none⟩ (I Z h.s.a2)).setCell ⟨b6,11,none⟩ (I Z h.s.a3)).setCell ⟨b6,12,none⟩ (I Z h.s.a4)).setCell ⟨b6,13,none⟩ (I Z h.s.a5)).setCell ⟨b6,14,none⟩ (.bool h.l)).setCell ⟨b7,0,none⟩ (I Z a.k)).setCell ⟨b7,1,none⟩ (I Z a.e)).setCell ⟨b7,2,none⟩ (I Z a.v))
def Ki:Array Ac:=#[I Z 0,I Z 0,I Z 0,I Z 0,I Z 0,I Z 0,I Z 0,I Z 0,I Z 0,I Z 0,I Z 0,I Z 0,I Z 0,I Z 0,.bool false]
def EN:Array Ac:=#[I Z 0,I Z 0,I Z 0]
theorem zu {W:Aa}{b6 b7:Nat}{t6 t7:TypeId}(j6:Am W b6 Ki t6)(j7:Am W b7 EN t7)(hne:b6≠b7)(h:AD)(a:Bf):Am (jd W b6 b7 h a) b6 h.cells t6/\Am (jd W b6 b7 h a) b7 a.cells t7:=by
 have hne':b7≠b6:=fun e=>hne e.symm
 have a1:=((((((((((((((((((j6.set 0 (I Z h.b)).set 1 (I Z h.n)).set 2 (I Z h.r.a0)).set 3 (I Z h.r.a1)).set 4 (I Z h.r.a2)).set 5 (I Z h.r.a3)).set 6 (I Z h.r.a4)).set 7 (I Z h.r.a5)).set 8 (I Z h.s.a0)).set 9 (I Z h.s.a1)).set 10 (I Z h.s.a2)).set 11 (I Z h.s.a3)).set 12 (I Z h.s.a4)).set 13 (I Z h.s.a5)).set 14 (.bool h.l)).An (a:=⟨b7,0,none⟩) hne (I Z a.k)).An (a:=⟨b7,1,none⟩) hne (I Z a.e)).An (a:=⟨b7,2,none⟩) hne (I Z a.v));have a2:=((((((((((((((((((j7.An (a:=⟨b6,0,none⟩) hne' (I Z h.b)).An (a:=⟨b6,1,none⟩) hne' (I Z h.n)).An (a:=⟨b6,2,none⟩) hne' (I Z h.r.a0)).An (a:=⟨b6,3,none⟩) hne' (I Z h.r.a1)).An (a:=⟨b6,4,none⟩) hne' (I Z h.r.a2)).An (a:=⟨b6,5,none⟩) hne' (I Z h.r.a3)).An (a:=⟨b6,6,none⟩) hne' (I Z h.r.a4)).An (a:=⟨b6,7,none⟩) hne' (I Z h.r.a5)).An (a:=⟨b6,8,none⟩) hne' (I Z h.s.a0)).An (a:=⟨b6,9,none⟩) hne' (I Z h.s.a1)).An (a:=⟨b6,10,none⟩) hne' (I Z h.s.a2)).An (a:=⟨b6,11,none⟩) hne' (I Z h.s.a3)).An (a:=⟨b6,12,none⟩) hne' (I Z h.s.a4)).An (a:=⟨b6,13,none⟩) hne' (I Z h.s.a5)).An (a:=⟨b6,14,none⟩) hne' (.bool h.l)).set 0 (I Z a.k)).set 1 (I Z a.e)).set 2 (I Z a.v));have e1:∀ x,x=h.cells->Am (jd W b6 b7 h a) b6 x t6->Am (jd W b6 b7 h a) b6 h.cells t6:=fun x e k=>by rw[<-e];exact k
 have e2:∀ x,x=a.cells->Am (jd W b6 b7 h a) b7 x t7->Am (jd W b6 b7 h a) b7 a.cells t7:=fun x e k=>by rw[<-e];exact k
 refine⟨e1 _ ?_ a1,e2 _ ?_ a2⟩
 ·simp only[Ki,AD.cells,List.setIfInBounds_toArray,List.set_cons_zero,List.set_cons_succ]
 ·simp only[EN,Bf.cells,List.setIfInBounds_toArray,List.set_cons_zero,List.set_cons_succ]
theorem xf {w W:Aa}{b6 b7:Nat}(h1:Ae w.heap.size w W)(h6:w.heap.size<=b6)(h7:w.heap.size<=b7)(h:AD)(a:Bf):Ae w.heap.size w (jd W b6 b7 h a):=(qo (qo (qo (qo (qo (qo (qo (qo (qo (qo (qo (qo (qo (qo (qo (qo (qo (qo h1 h6 _) h6 _) h6 _) h6 _) h6 _) h6 _) h6 _) h6 _) h6 _) h6 _) h6 _) h6 _) h6 _) h6 _) h6 _) h7 _) h7 _) h7 _)
def CN (W:Aa)(b:Nat)(h:AD):Aa:=(((((((((((((((W.setCell ⟨b,0,none⟩ (I Z h.b)).setCell ⟨b,1,none⟩ (I Z h.n)).setCell ⟨b,2,none⟩ (I Z h.r.a0)).setCell ⟨b,3,none⟩ (I Z h.r.a1)).setCell ⟨b,4,none⟩ (I Z h.r.a2)).setCell ⟨b,5,none⟩ (I Z h.r.a3)).setCell ⟨b,6,none⟩ (I Z h.r.a4)).setCell ⟨b,7,none⟩ (I Z h.r.a5)).setCell ⟨b,8,none⟩ (I Z h.s.a0)).setCell ⟨b,9,none⟩ (I Z h.s.a1)).setCell ⟨b,10,none⟩ (I Z h.s.a2)).setCell ⟨b,11,none⟩ (I Z h.s.a3)).setCell ⟨b,12,none⟩ (I Z h.s.a4)).setCell ⟨b,13,none⟩ (I Z h.s.a5)).setCell ⟨b,14,none⟩ (.bool h.l))
theorem me {W:Aa}{b:Nat}{t:TypeId}{g:AD}(j:Am W b g.cells t)(h:AD):Am (CN W b h) b h.cells t:=by
 have a1:=(((((((((((((((j.set 0 (I Z h.b)).set 1 (I Z h.n)).set 2 (I Z h.r.a0)).set 3 (I Z h.r.a1)).set 4 (I Z h.r.a2)).set 5 (I Z h.r.a3)).set 6 (I Z h.r.a4)).set 7 (I Z h.r.a5)).set 8 (I Z h.s.a0)).set 9 (I Z h.s.a1)).set 10 (I Z h.s.a2)).set 11 (I Z h.s.a3)).set 12 (I Z h.s.a4)).set 13 (I Z h.s.a5)).set 14 (.bool h.l));have e1:∀ x,x=h.cells->Am (CN W b h) b x t->Am (CN W b h) b h.cells t:=fun x e k=>by rw[<-e];exact k
 refine e1 _ ?_ a1;simp only[AD.cells,List.setIfInBounds_toArray,List.set_cons_zero,List.set_cons_succ]
theorem ya {W:Aa}{b c:Nat}{t:TypeId}{cs:Array Ac}(j:Am W c cs t)(hne:c≠b)(h:AD):Am (CN W b h) c cs t:=by
 have a1:=(((((((((((((((j.An (a:=⟨b,0,none⟩) hne (I Z h.b)).An (a:=⟨b,1,none⟩) hne (I Z h.n)).An (a:=⟨b,2,none⟩) hne (I Z h.r.a0)).An (a:=⟨b,3,none⟩) hne (I Z h.r.a1)).An (a:=⟨b,4,none⟩) hne (I Z h.r.a2)).An (a:=⟨b,5,none⟩) hne (I Z h.r.a3)).An (a:=⟨b,6,none⟩) hne (I Z h.r.a4)).An (a:=⟨b,7,none⟩) hne (I Z h.r.a5)).An (a:=⟨b,8,none⟩) hne (I Z h.s.a0)).An (a:=⟨b,9,none⟩) hne (I Z h.s.a1)).An (a:=⟨b,10,none⟩) hne (I Z h.s.a2)).An (a:=⟨b,11,none⟩) hne (I Z h.s.a3)).An (a:=⟨b,12,none⟩) hne (I Z h.s.a4)).An (a:=⟨b,13,none⟩) hne (I Z h.s.a5)).An (a:=⟨b,14,none⟩) hne (.bool h.l));exact a1
theorem dh {w W:Aa}{b:Nat}(h1:Ae w.heap.size w W)(h6:w.heap.size<=b)(h:AD):Ae w.heap.size w (CN W b h):=(qo (qo (qo (qo (qo (qo (qo (qo (qo (qo (qo (qo (qo (qo (qo h1 h6 _) h6 _) h6 _) h6 _) h6 _) h6 _) h6 _) h6 _) h6 _) h6 _) h6 _) h6 _) h6 _) h6 _) h6 _)
theorem qq {X:Aa}{b6 b7:Nat}{t6 t7:TypeId}{h:AD}{a:Bf}(fn:Func)(tmps:Array Ac)(i j:Nat)(hres:fn.results=#[.cell i 58,.cell j 54])(ti:tmps.getD i undef=ptr b6)(tj:tmps.getD j undef=ptr b7)
  (j6:Am X b6 h.cells t6)(j7:Am X b7 a.cells t7):(results fn tmps).run Tryz.prog X=.ok (Aj #[h.v,a.val]) X:=by
 have d6:=j6.cell;have d7:=j7.cell;unfold AD.cells at d6;unfold Bf.cells at d7;rw[Array.getD_eq_getD_getElem?]at ti tj;unfold ptr at ti tj;simp only[results,hres];simp[go_sem,ti,tj,d6,d7,AD.v,AD.cells,Bf.val,Bf.cells]
end
section
open Go.RowKit Hp
open Go.MuLone
attribute [local go_sem ↓] Go.wp_at_zero Go.wp_at_succ
structure CS where
 t:Int
 b:Int
 n:Int
 a:Bf
deriving DecidableEq
def zc:List CS->List Ac
 | []=>[]
 | x::l=>I Z x.t::I Z x.b::I Z x.n::I Z x.a.k::I Z x.a.e::I Z x.a.v::zc l
theorem YC (l:List CS):∀ u ∈ zc l,u.oneCell'=true:=by
 induction l with
 | nil=>intro u hu;simp[zc]at hu
 | cons x l ih =>
  intro u hu;simp only[zc,List.mem_cons]at hu;rcases hu with rfl|rfl|rfl|rfl|rfl|rfl|hu
  ·rfl
  ·rfl
  ·rfl
  ·rfl
  ·rfl
  ·rfl
  ·exact ih u hu
theorem X2 (l:List CS)(x:CS):zc (l++[x])=zc l++[I Z x.t,I Z x.b,I Z x.n,I Z x.a.k,I Z x.a.e,I Z x.a.v]:=by
 induction l with
 | nil=>rfl
 | cons y l ih=>simp[zc,ih]
theorem Vp:∃ i,Tryz.prog.info? 69=some i/\i.size=6/\i.bytes=48/\i.zero=some (Ak #[I Z 0,I Z 0,I Z 0,I Z 0,I Z 0,I Z 0]):=info_parts (by kernel_rfl)
theorem L0 (b:Nat) (es:List CS) (v:Ac) (w:Aa) (o:Own) (tg:Tag) (h0:w.cell? ⟨b,3,none⟩=some (.int .i32 0)) (h2:w.cell? ⟨b,5,none⟩=some v) (f0:w.frozen? ⟨b,3,none⟩=false) (hlt:b<w.heap.size)
  (hr:Row w o tg 69 6 v es.length (zc es)) (hn:es.length<=2000) (nb:o b≠tg) :
  Ab Tryz.prog 95 #[Ag (some ⟨b,3,none⟩)] w fun e w'=>∃ v' w1,e=O v'/\Row w1 (fo w.heap.size) (1,0) 69 6 v' es.length (zc es)/\Ae w.heap.size (w.setCell ⟨b,3,none⟩ (.int .i32 1)) w1/\w'=w1.setCell ⟨b,3,none⟩ (.int .i32 0):=by
 obtain⟨iU,hi,hsI,hyI,hzI⟩:=Vp;have hu64:=Tryz.underlying62;have hr1:=hr.Ao (T:=fun u=>u=o b) ((Stp.refl _ o w).setCell (a:=⟨b,3,none⟩) (by show o b=o b;rfl) (.int .i32 1)) (fun e=>nb e.symm)
 obtain⟨n,hnn⟩:∃ n,n=es.length:=⟨_,rfl⟩;rw[<-hnn]at hr1 hn ⊢;have HR:=Qa hr1;have hk1:Hid (0+n<=maxLen):=by show 0+n<=_;simp only[maxLen];omega
 have hk2:Hid ((0+n)*48<=140737488355328):=by show (0+n)*48<=_;omega
 obtain⟨pa,cp,rfl⟩:=hr.AY;rw[<-hnn]at HR h2;clear hr hr1 hn hnn nb;go_enter_defers Tryz.func95,Tryz.ntmps95;go_wp2_with (first
  | (go_at_call 148;refine (lock_free Tryz.muLib ⟨b,3,none⟩ _ h0 f0).mono ?_;rintro e w' ⟨rfl,rfl⟩)
  | (at_builtin;refine zk _ rfl _ _ _ rfl 69 iU _ 6 48 hu64 hi hzI hsI hyI rfl (by decide) (fo w.heap.size) (1,0) _ 0 [] rfl (Row.nil _ _ _ _ _) _ _ _ n (zc es) rfl HR.out (YC es) hk1.out hk2.out ?_;intro v' w8 hown hst))
 have hz:w.heap.size=(w.setCell ⟨b,3,none⟩ (.int .i32 1)).heap.size:=by simp
 have hc1:(w.setCell ⟨b,3,none⟩ (.int .i32 1)).cell? ⟨b,3,none⟩=some (.int .i32 1):=World.cell?_setCell_same w ⟨b,3,none⟩ (.int .i32 1) h0;have hf1:(w.setCell ⟨b,3,none⟩ (.int .i32 1)).frozen? ⟨b,3,none⟩=false:=by simp[f0]
 rw[hz]at hown hst hlt;have hr8:=xz (qc _) hown;have hb8:=wz (qc _) hst;simp only[Nat.zero_add,List.nil_append]at hr8;have hc8:w8.cell? ⟨b,3,none⟩=some (.int .i32 1):=by rw[hb8.cell (p:=⟨b,3,none⟩) hlt];exact hc1
 have hf8:w8.frozen? ⟨b,3,none⟩=false:=by
  have e:=hb8.block b hlt;simp only[World.frozen?,e]at hf1 ⊢;exact hf1
 refine leaves_cons (f:=149) (args:=#[Ag (some ⟨b,3,none⟩)]) (by simp) (by simp[go_sem]) ?_
 refine (unlock_deferred Tryz.muLib ⟨b,3,none⟩ .returning _ hc8 hf8).mono ?_
 rintro e u' w'' ⟨rfl,rfl,rfl⟩
 refine⟨_,results_tmp rfl _ _ _,v',w8,rfl,?_,?_,rfl⟩
 ·rw[hz];exact hr8
 ·rw[hz];exact hb8
end
section
open Go.RowKit Hp
attribute [local go_sem ↓] Go.wp_at_zero Go.wp_at_succ
theorem JR (w:Aa):(Instr.makeSlice 25 (I Z 0) (I Z 12)).run Tryz.prog w=.ok (Ah (some ⟨w.heap.size,0,none⟩) 0 12) (w.alloc (.cells #[I Z 0,I Z 0,I Z 0,I Z 0,I Z 0,I Z 0,I Z 0,I Z 0,I Z 0,I Z 0,I Z 0,I Z 0] 3)):=by
 obtain⟨iI,hi,hsI,hyI,hzI⟩:=zi;have h:=run_make (P:=Tryz.prog) w 25 3 iI _ Tryz.underlying25 hi hzI .i64 .i64 0 12 (by omega) (by omega) (by rw[hyI];omega) (by omega)
 rw[hsI,show madeCells (Value.int IntKind.i64 0).cells (Int.toNat 12*1)=#[I Z 0,I Z 0,I Z 0,I Z 0,I Z 0,I Z 0,I Z 0,I Z 0,I Z 0,I Z 0,I Z 0,I Z 0] from by kernel_rfl]at h
 exact h
theorem yw {X:Aa}{b6:Nat}{t6:TypeId}{h:AD}{v:Ac}(fn:Func)(tmps:Array Ac)(i j:Nat)(hres:fn.results=#[.cell i 58,.tmp j])(ti:tmps.getD i undef=ptr b6)(tj:tmps.getD j undef=v)
  (j6:Am X b6 h.cells t6):(results fn tmps).run Tryz.prog X=.ok (Aj #[h.v,v]) X:=by
 have d6:=j6.cell;unfold AD.cells at d6;rw[Array.getD_eq_getD_getElem?]at ti tj;unfold ptr at ti;simp only[results,hres];simp[go_sem,ti,tj,d6,AD.v,AD.cells]
theorem Tk (h:AD)(w:Aa):Ab Tryz.prog 150 #[h.v] w fun e w'=>e=O (Ah (some ⟨w.heap.size+1,0,none⟩) 12 12) /\
  Am w' (w.heap.size+1) #[I Z h.r.a0,I Z h.r.a1,I Z h.r.a2,I Z h.r.a3,I Z h.r.a4,I Z h.r.a5,I Z h.s.a0,I Z h.s.a1,I Z h.s.a2,I Z h.s.a3,I Z h.s.a4,I Z h.s.a5] 3/\Ae w.heap.size w w':=by
 have hmk:=JR;obtain⟨hb,hn,⟨a0,a1,a2,a3,a4,a5⟩,⟨s0,s1,s2,s3,s4,s5⟩,hl⟩:=h;show Ab _ _ #[Ak #[I Z hb,I Z hn,I Z a0,I Z a1,I Z a2,I Z a3,I Z a4,I Z a5,I Z s0,I Z s1,I Z s2,I Z s3,I Z s4,I Z s5,.bool hl]] _ _;simp only;go_enter Tryz.func150,Tryz.ntmps150;go_wp2_with fail;refine bodyPost_ret (v:=Ah (some ⟨w.heap.size+1,0,none⟩) 12 12) ?_ rfl ⟨rfl,Am.Aq _ _ _ _ _ (by simp) rfl,qa (qa (qc w) _) _⟩
 simp[results,Tryz.results150,go_sem]
theorem Tn (W:Aa)(b o g off c:Nat)(b0 b1 b2 b3 b4 b5:Int)(hc:∀ j,j<6->(W.cell? ⟨b,o+j,none⟩).isSome=true)(hf:∀ j,W.frozen? ⟨b,o+j,none⟩=false)
  (k0:W.cell? ⟨g,off,none⟩=some (I Z b0))(k1:W.cell? ⟨g,off+1,none⟩=some (I Z b1))(k2:W.cell? ⟨g,off+2,none⟩=some (I Z b2))(k3:W.cell? ⟨g,off+3,none⟩=some (I Z b3))(k4:W.cell? ⟨g,off+4,none⟩=some (I Z b4))(k5:W.cell? ⟨g,off+5,none⟩=some (I Z b5)) :
  (Builtin.copy_ #[25,25] 3 #[Ah (some ⟨b,o,none⟩) 6 6,Ah (some ⟨g,off,none⟩) 6 c]).run Tryz.prog W=.ok (I Z 6) ((((((W.setCell ⟨b,o+0,none⟩ (I Z b0)).setCell ⟨b,o+1,none⟩ (I Z b1)).setCell ⟨b,o+2,none⟩ (I Z b2)).setCell ⟨b,o+3,none⟩ (I Z b3)).setCell ⟨b,o+4,none⟩ (I Z b4)).setCell ⟨b,o+5,none⟩ (I Z b5)):=by
 obtain⟨iI,hi,hsI,hyI,hzI⟩:=zi;refine (run_copy_cells (P:=Tryz.prog) W 25 25 3 3 b o 6 6 ⟨g,off,none⟩ 6 c [I Z b0,I Z b1,I Z b2,I Z b3,I Z b4,I Z b5] Tryz.underlying25 (by rw[hi];simp[hsI]) rfl (fun j v hj=>?_) (fun j hj=>hc j hj) (fun j _=>hf j) (fun v hv=>?_)).trans ?_
 ·have hadd:(⟨g,off,none⟩:Addr).add j=⟨g,off+j,none⟩:=by unfold Addr.add;split<;>simp_all
  rw[hadd];obtain rfl|rfl|rfl|rfl|rfl|rfl|hq:j=0\/j=1\/j=2\/j=3\/j=4\/j=5\/6<=j:=by omega
  ·exact k0.trans hj
  ·exact k1.trans hj
  ·exact k2.trans hj
  ·exact k3.trans hj
  ·exact k4.trans hj
  ·exact k5.trans hj
  ·rw[Qz (by simpa using hq)]at hj;cases hj
 ·simp only[List.mem_cons,List.not_mem_nil,or_false]at hv
  rcases hv with rfl|rfl|rfl|rfl|rfl|rfl<;>rfl
 ·rfl
theorem qg6 (h:AD)(g off c:Nat)(r s:R6)(w:Aa)(hc:12<=c)(hg:g<w.heap.size)(hl:∀ j,j<12->w.cell? ⟨g,off+j,none⟩=#[Value.int .i64 r.a0,I Z r.a1,I Z r.a2,I Z r.a3,I Z r.a4,I Z r.a5,I Z s.a0,I Z s.a1,I Z s.a2,I Z s.a3,I Z s.a4,I Z s.a5][j]?) :
  Ab Tryz.prog 151 #[h.v,Ah (some ⟨g,off,none⟩) 12 c] w fun e w'=>e=O (Aj #[(AD.mk h.b h.n r s h.l).v,.bool true])/\Ae w.heap.size w w':=by
 obtain⟨hb,hn,⟨a0,a1,a2,a3,a4,a5⟩,⟨s0,s1,s2,s3,s4,s5⟩,hl'⟩:=h;show Ab _ _ #[Ak #[I Z hb,I Z hn,I Z a0,I Z a1,I Z a2,I Z a3,I Z a4,I Z a5,I Z s0,I Z s1,I Z s2,I Z s3,I Z s4,I Z s5,.bool hl'],Ah (some ⟨g,off,none⟩) 12 c] _ _;obtain⟨b0,b1,b2,b3,b4,b5⟩:=r;obtain⟨c0,c1,c2,c3,c4,c5⟩:=s;simp only at hl ⊢;have k0:=hl 0 (by omega)
 have k1:=hl 1 (by omega)
 have k2:=hl 2 (by omega)
 have k3:=hl 3 (by omega)
 have k4:=hl 4 (by omega)
 have k5:=hl 5 (by omega)
 have k6:=hl 6 (by omega)
 have k7:=hl 7 (by omega)
 have k8:=hl 8 (by omega)
 have k9:=hl 9 (by omega)
 have k10:=hl 10 (by omega)
 have k11:=hl 11 (by omega)
 simp at k0 k1 k2 k3 k4 k5 k6 k7 k8 k9 k10 k11;clear hl;have hng:g≠w.heap.size:=by omega
 have hcI:(6:Int)<=(c:Int):=by omega
 have hcJ:(12:Int)<=(c:Int):=by omega
 go_enter Tryz.func151,Tryz.ntmps151;go_upto_region 3 with fail;obtain⟨W,hW⟩:∃ W:Aa,W=(w.alloc (.cells #[I Z hb,I Z hn,I Z a0,I Z a1,I Z a2,I Z a3,I Z a4,I Z a5,I Z s0,I Z s1,I Z s2,I Z s3,I Z s4,I Z s5,.bool hl'] 58)).alloc (.cells #[I Z 0,I Z 0,I Z 0,I Z 0,I Z 0,I Z 0,I Z 0,I Z 0,I Z 0,I Z 0,I Z 0,I Z 0,I Z 0,I Z 0,.bool false] 58):=⟨_,rfl⟩;rw[<-hW];have j2:Am W w.heap.size #[I Z hb,I Z hn,I Z a0,I Z a1,I Z a2,I Z a3,I Z a4,I Z a5,I Z s0,I Z s1,I Z s2,I Z s3,I Z s4,I Z s5,.bool hl'] 58:=by rw[hW];exact (Am.new w _ _).alloc _
 have j4:Am W (w.heap.size+1) #[I Z 0,I Z 0,I Z 0,I Z 0,I Z 0,I Z 0,I Z 0,I Z 0,I Z 0,I Z 0,I Z 0,I Z 0,I Z 0,I Z 0,.bool false] 58:=by rw[hW];exact Am.Aq _ _ _ _ _ (by simp) rfl
 have hbW:Ae w.heap.size w W:=by rw[hW];exact qa (qa (qc w) _) _
 have kk:∀ j,j<12->W.cell? ⟨g,off+j,none⟩=w.cell? ⟨g,off+j,none⟩:=fun j _=>hbW.cell (p:=⟨g,off+j,none⟩) hg
 have q0:=(kk 0 (by omega)).trans k0
 have q1:=(kk 1 (by omega)).trans k1
 have q2:=(kk 2 (by omega)).trans k2
 have q3:=(kk 3 (by omega)).trans k3
 have q4:=(kk 4 (by omega)).trans k4
 have q5:=(kk 5 (by omega)).trans k5
 clear hW k0 k1 k2 k3 k4 k5 kk;rw[Nat.add_zero]at q0;have c2:=j2.cell;have z2:=j2.free;have l2:=j2.lt;have hcp:=Tn W.drew w.heap.size 2 g off c b0 b1 b2 b3 b4 b5 (fun j hj=>by
  have e:=c2 (2+j);rw[show W.drew.cell? ⟨w.heap.size,2+j,none⟩=W.cell? ⟨w.heap.size,2+j,none⟩ from rfl,e];obtain rfl|rfl|rfl|rfl|rfl|rfl:j=0\/j=1\/j=2\/j=3\/j=4\/j=5:=by omega
  all_goals rfl) (fun j=>z2 (2+j)) q0 q1 q2 q3 q4 q5
 go_region;obtain⟨X,hX⟩:∃ X:Aa,X=((((((W.setCell ⟨w.heap.size,2,none⟩ (I Z b0)).setCell ⟨w.heap.size,3,none⟩ (I Z b1)).setCell ⟨w.heap.size,4,none⟩ (I Z b2)).setCell ⟨w.heap.size,5,none⟩ (I Z b3)).setCell ⟨w.heap.size,6,none⟩ (I Z b4)).setCell ⟨w.heap.size,7,none⟩ (I Z b5)).drew:=⟨_,rfl⟩;rw[<-hX];have i2:Am X w.heap.size #[I Z hb,I Z hn,I Z b0,I Z b1,I Z b2,I Z b3,I Z b4,I Z b5,I Z s0,I Z s1,I Z s2,I Z s3,I Z s4,I Z s5,.bool hl'] 58:=by
  rw[hX];have k:=qi ((((((j2.set 2 (I Z b0)).set 3 (I Z b1)).set 4 (I Z b2)).set 5 (I Z b3)).set 6 (I Z b4)).set 7 (I Z b5));simp only[List.setIfInBounds_toArray,List.set_cons_zero,List.set_cons_succ]at k;exact k
 have i4:Am X (w.heap.size+1) #[I Z 0,I Z 0,I Z 0,I Z 0,I Z 0,I Z 0,I Z 0,I Z 0,I Z 0,I Z 0,I Z 0,I Z 0,I Z 0,I Z 0,.bool false] 58:=by rw[hX];exact qi ((((((j4.An (a:=⟨w.heap.size,2,none⟩) (by show w.heap.size+1≠w.heap.size;omega) (I Z b0)).An (a:=⟨w.heap.size,3,none⟩) (by show w.heap.size+1≠w.heap.size;omega) (I Z b1)).An (a:=⟨w.heap.size,4,none⟩) (by show w.heap.size+1≠w.heap.size;omega) (I Z b2)).An (a:=⟨w.heap.size,5,none⟩) (by show w.heap.size+1≠w.heap.size;omega) (I Z b3)).An (a:=⟨w.heap.size,6,none⟩) (by show w.heap.size+1≠w.heap.size;omega) (I Z b4)).An (a:=⟨w.heap.size,7,none⟩) (by show w.heap.size+1≠w.heap.size;omega) (I Z b5))
 have hbX:Ae w.heap.size w X:=by rw[hX];exact qe (qo (qo (qo (qo (qo (qo hbW (Qk _) _) (Qk _) _) (Qk _) _) (Qk _) _) (Qk _) _) (Qk _) _)
 have kk:∀ j,j<12->X.cell? ⟨g,off+j,none⟩=w.cell? ⟨g,off+j,none⟩:=fun j _=>hbX.cell (p:=⟨g,off+j,none⟩) hg
 have q6:=(kk 6 (by omega)).trans k6
 have q7:=(kk 7 (by omega)).trans k7
 have q8:=(kk 8 (by omega)).trans k8
 have q9:=(kk 9 (by omega)).trans k9
 have q10:=(kk 10 (by omega)).trans k10
 have q11:=(kk 11 (by omega)).trans k11
 clear hX c2 z2 l2 j2 j4 hbW q0 q1 q2 q3 q4 q5 hcp;have d2:=i2.cell;have z2:=i2.free;have l2:=i2.lt;go_upto_region 4 with fail;have hcp:=Tn X.drew w.heap.size 8 g (off+6) (c-6) c0 c1 c2 c3 c4 c5 (fun j hj=>by
  have e:=d2 (8+j);rw[show X.drew.cell? ⟨w.heap.size,8+j,none⟩=X.cell? ⟨w.heap.size,8+j,none⟩ from rfl,e];obtain rfl|rfl|rfl|rfl|rfl|rfl:j=0\/j=1\/j=2\/j=3\/j=4\/j=5:=by omega
  all_goals rfl) (fun j=>z2 (8+j)) q6 q7 q8 q9 q10 q11
 go_region;obtain⟨Y,hY⟩:∃ Y:Aa,Y=((((((X.setCell ⟨w.heap.size,8,none⟩ (I Z c0)).setCell ⟨w.heap.size,9,none⟩ (I Z c1)).setCell ⟨w.heap.size,10,none⟩ (I Z c2)).setCell ⟨w.heap.size,11,none⟩ (I Z c3)).setCell ⟨w.heap.size,12,none⟩ (I Z c4)).setCell ⟨w.heap.size,13,none⟩ (I Z c5)).drew:=⟨_,rfl⟩;rw[<-hY];have m2:Am Y w.heap.size #[I Z hb,I Z hn,I Z b0,I Z b1,I Z b2,I Z b3,I Z b4,I Z b5,I Z c0,I Z c1,I Z c2,I Z c3,I Z c4,I Z c5,.bool hl'] 58:=by
  rw[hY];have k:=qi ((((((i2.set 8 (I Z c0)).set 9 (I Z c1)).set 10 (I Z c2)).set 11 (I Z c3)).set 12 (I Z c4)).set 13 (I Z c5));simp only[List.setIfInBounds_toArray,List.set_cons_zero,List.set_cons_succ]at k;exact k
 have m4:Am Y (w.heap.size+1) #[I Z 0,I Z 0,I Z 0,I Z 0,I Z 0,I Z 0,I Z 0,I Z 0,I Z 0,I Z 0,I Z 0,I Z 0,I Z 0,I Z 0,.bool false] 58:=by rw[hY];exact qi ((((((i4.An (a:=⟨w.heap.size,8,none⟩) (by show w.heap.size+1≠w.heap.size;omega) (I Z c0)).An (a:=⟨w.heap.size,9,none⟩) (by show w.heap.size+1≠w.heap.size;omega) (I Z c1)).An (a:=⟨w.heap.size,10,none⟩) (by show w.heap.size+1≠w.heap.size;omega) (I Z c2)).An (a:=⟨w.heap.size,11,none⟩) (by show w.heap.size+1≠w.heap.size;omega) (I Z c3)).An (a:=⟨w.heap.size,12,none⟩) (by show w.heap.size+1≠w.heap.size;omega) (I Z c4)).An (a:=⟨w.heap.size,13,none⟩) (by show w.heap.size+1≠w.heap.size;omega) (I Z c5))
 have hbY:Ae w.heap.size w Y:=by rw[hY];exact qe (qo (qo (qo (qo (qo (qo hbX (Qk _) _) (Qk _) _) (Qk _) _) (Qk _) _) (Qk _) _) (Qk _) _)
 clear hY d2 z2 l2 i2 i4 hbX hcp;have d2:=m2.cell;have d4:=m4.cell;have z4:=m4.free;have l4:=m4.lt;go_wp2_with fail;change bodyPost _ _ _ _ _ (CN Y (w.heap.size+1) ⟨hb,hn,⟨b0,b1,b2,b3,b4,b5⟩,⟨c0,c1,c2,c3,c4,c5⟩,hl'⟩);have hres:=Qa (me (g:=⟨0,0,⟨0,0,0,0,0,0⟩,⟨0,0,0,0,0,0⟩,false⟩) m4 ⟨hb,hn,⟨b0,b1,b2,b3,b4,b5⟩,⟨c0,c1,c2,c3,c4,c5⟩,hl'⟩);have hrb:=Qa (dh hbY (Nat.le_succ w.heap.size) ⟨hb,hn,⟨b0,b1,b2,b3,b4,b5⟩,⟨c0,c1,c2,c3,c4,c5⟩,hl'⟩);clear d2 d4 z4 l4 m2 m4 hbY;generalize CN Y (w.heap.size+1) ⟨hb,hn,⟨b0,b1,b2,b3,b4,b5⟩,⟨c0,c1,c2,c3,c4,c5⟩,hl'⟩=X at *;exact bodyPost_ret (yw _ _ 4 5 rfl rfl rfl hres.out) rfl ⟨rfl,hrb.out⟩
def Tx.fresh (r u:Nat):Tx:=⟨false,0,0,Lg.fresh r u,[]⟩
def Al.fresh (n k r u m:Nat):Al:=⟨Hp.fresh n,0,0,m,List.replicate k (Tx.fresh r u),[],0,-1,0,[],[]⟩
theorem Wt (k r u:Nat):js (List.replicate k (Tx.fresh r u))=0:=by
 induction k with
 | zero=>rfl
 | succ k ih=>rw[List.replicate_succ,jy,ih];rfl
theorem qg9 (k r u:Nat):kq (List.replicate k (Tx.fresh r u))=0:=by
 induction k with
 | zero=>rfl
 | succ k ih=>rw[List.replicate_succ];show 0+kq _=0;rw[ih]
theorem Al.CW {n k r u m:Nat}(h1:16<=n)(h2:n<=16384)(k1:1<=k)(k8:k<=8)(hr:r<=200)(hu:u<=200)(hm:m<=1099511627776):(Al.fresh n k r u m).ok:=by
 have hfx:∀ x ∈ (Al.fresh n k r u m).Aw,x=Tx.fresh r u:=fun x hx=>List.eq_of_mem_replicate hx
 refine⟨Hp.Gg h1 h2,hm,?_,by simpa [Al.fresh] using k1,by simpa [Al.fresh] using k8,fun x hx=>?_,fun x hx=>?_,Qk _,by simp[Al.fresh],fun x hx=>(by cases hx),fun x hx=>(by cases hx),?_,by simp[Al.fresh,Hp.fresh],by simp[Al.fresh],fun x hx=>?_,?_⟩
 ·show 0+js (List.replicate k (Tx.fresh r u))<=m
  rw[Wt];omega
 ·rw[hfx x hx]
  exact⟨⟨hr,hu,Nat.zero_le _,Nat.zero_le _,Nat.zero_le _,Nat.zero_le _⟩,fun z hz=>(by cases hz),fun z hz=>(by cases hz),fun z hz=>(by cases hz)⟩
 ·rw[hfx x hx];exact Qk _
 ·show 0+kq (List.replicate k (Tx.fresh r u))<=0
  rw[qg9];omega
 ·rw[hfx x hx];exact Qk _
 ·exact⟨by simp[Al.fresh],by simp[Al.fresh,Hp.fresh]⟩
theorem Stp.strict {T:Tag->Prop}{o o':Own}{w w':Aa}(h:Stp T o o' w w')(ht:∀ b,b<w.heap.size->¬T (o b)):Stp (fun _=>False) o o' w w':=
 ⟨h.os,h.tape,h.output,h.size,h.tags,fun b hb _=>h.block b hb (ht b hb)⟩
theorem Lb:∃ i,Tryz.prog.info? 103=some i/\i.size=1/\i.bytes=8/\i.zero=some (Ag none):=info_parts (by kernel_rfl)
section
variable {w w' : Aa} {o o' : Own} {y : A3} {S : Al}
theorem Ap.more {n k r u m:Nat}(h:Ap w o y (Al.fresh n k r u m)){v':Ac}{lb:Nat}
  (hs:Stp (fun t=>t=(y.l.id,11)\/t=(y.l.id,12)) o o' w w')
  (hb:Am w' y.sb #[ptr y.l.h,ptr y.cy,ptr y.ck,v',Ah none 0 0,I Z 0,I Z (-1),I Z 0,Ah none 0 0,Ah none 0 0] 101)
  (hr:Row w' o' (y.l.id,12) 103 1 v' (k+1) (((List.range k).map fun i=>ptr (y.xb i))++[ptr (lb+1)]))
  (jx:Am w' (lb+1) #[I Z k,.bool false,I Z 0,I Z 0,ptr lb,Ah none 0 0] 107)
  (jl:Am w' lb #[I Z r,I Z u,Ah none 0 0,Ah none 0 0,Ah none 0 0,Ah none 0 0] 219)
  (ox:o' (lb+1)=(y.l.id,16+8*k))(ol:o' lb=(y.l.id,17+8*k)) :
  Ap w' o' { y with EO:=v',xb:=fun j=>if j=k then lb+1 else y.xb j,lb:=fun j=>if j=k then lb else y.lb j } (Al.fresh n (k+1) r u m):=by
 refine⟨⟨Ah none 0 0,Ah none 0 0,Ah none 0 0,hb,⟨Row.nil _ _ _ _ _,Row.nil _ _ _ _ _,Row.nil _ _ _ _ _⟩⟩,h.cy.Ao hs (by rw[h.oy];simp),h.hp.Ao hs fun j hj=>by simp;omega,h.ck.Ao hs (by rw[h.oc];simp),?_,fun i x hx=>?_,(hs.tags _ h.ck.lt).trans h.oc,(hs.tags _ h.lt).trans h.os,(hs.tags _ h.cy.lt).trans h.oy⟩
 ·show Row w' o' (y.l.id,12) _ 1 v' (List.replicate (k+1) (Tx.fresh r u)).length ((List.range (List.replicate (k+1) (Tx.fresh r u)).length).map _)
  rw[Qx,List.range_succ,Qw];have e1:((List.range k).map fun i=>ptr (if i=k then lb+1 else y.xb i))=(List.range k).map fun i=>ptr (y.xb i):=by
   refine List.map_congr_left fun i hi=>?_
   rw[if_neg (by have:=List.mem_range.1 hi;omega)]
  simp only[List.map_cons,List.map_nil,if_true];rw[e1];exact hr
 ·have hx':(List.replicate (k+1) (Tx.fresh r u))[i]?=some x:=hx
  have hi:i<k+1:=by have:=(Qc.1 hx').1;simpa using this
  have hxe:x=Tx.fresh r u:=by rw[Qy,if_pos hi]at hx';injection hx' with hx';exact hx'.symm
  subst hxe;by_cases e:i=k
  ·subst e
   simp only[if_true];exact⟨⟨Ah none 0 0,jx,Row.nil _ _ _ _ _⟩,⟨_,_,_,_,jl,Row.nil _ _ _ _ _,Row.nil _ _ _ _ _,Row.nil _ _ _ _ _,Row.nil _ _ _ _ _,ol⟩,ox⟩
  ·simp only[if_neg e]
   have hk:(List.replicate k (Tx.fresh r u))[i]?=some (Tx.fresh r u):=by rw[Qy,if_pos (by omega)]
   exact (h.Aw i _ hk).Ao hs fun j hj=>by simp;omega
theorem Nc (n k r u:Nat)(m:Int)(h1:16<=n)(h2:n<=16384)(k1:1<=k)(k8:k<=8)(hr:r<=200)(hu:u<=200)(o:Own)(id:Nat)(w:Aa)(hfree:∀ b,b<w.heap.size->(o b).1≠id) :
  Ab Tryz.prog 46 #[I Z n,I Z k,I Z r,I Z u,I Z m] w fun e w'=>∃ y o',e=O (Aj #[ptr y.sb,I Z 0])/\y.l.id=id /\
   Ap w' o' y (Al.fresh n k r u (EB m).toNat)/\Stp (fun _=>False) o o' w w':=by
 have HN:=Qa (fun w=>Ju n h1 h2 o id w)
 have HF:=Qa hfree;clear hfree;have HC:=Qa (fun b w=>XP b w)
 have HK:=Qa (fun w=>Km m w)
 have HL:=Qa (fun w=>Lw r u hr hu w)
 have hb0:0<=EB m:=by unfold EB;omega
 have hb1:EB m=((EB m).toNat:Int):=by omega
 rw[hb1]at HK;generalize (EB m).toNat=M at *;clear hb0 hb1 hr hu h1 h2;have hu64:=Tryz.underlying98;have kI1:(1:Int)<=(k:Int):=by omega
 have kI8:(k:Int)<=8:=by omega
 go_enter Tryz.func46,Tryz.ntmps46;go_wp2_with fail;refine (HN.out _).mono ?_
 rintro e w1 ⟨h,a,wd,o1,rfl,hH,hs1,hle,hid⟩
 go_wp2_with fail;refine (HC.out _ _).mono ?_
 rintro e w2 ⟨rfl,hw2⟩
 have hb2:Ae w1.heap.size w1 w2:=by rw[hw2];exact qa (qc w1) _
 have jY0:Am w2 w1.heap.size #[ptr h,.nilFunc,Ah none 0 0,Ah none 0 0] 201:=by rw[hw2];exact Am.new w1 _ _
 have hz2:w1.heap.size<w2.heap.size:=by rw[hw2];simp
 clear hw2;go_wp2_with fail;refine (HK.out _).mono ?_
 rintro e w3 ⟨rfl,rfl⟩
 obtain⟨W,hW⟩:∃ W:Aa,W=(w2.alloc (.cells #[I Z 0,I Z M] 193)).alloc (.cells #[ptr h,ptr w1.heap.size,ptr w2.heap.size,Ah none 0 0,Ah none 0 0,I Z 0,I Z (-1),I Z 0,Ah none 0 0,Ah none 0 0] 101):=⟨_,rfl⟩;have hb3:Ae w1.heap.size w1 W:=by rw[hW];exact qa (qa hb2 _) _
 have jC:Am W w2.heap.size #[I Z 0,I Z M] 193:=by rw[hW];exact (Am.new w2 _ _).alloc _
 have jB:Am W (w2.heap.size+1) #[ptr h,ptr w1.heap.size,ptr w2.heap.size,Ah none 0 0,Ah none 0 0,I Z 0,I Z (-1),I Z 0,Ah none 0 0,Ah none 0 0] 101:=by rw[hW];exact Am.Aq _ _ _ _ _ (by simp) rfl
 have jY:Am W w1.heap.size #[ptr h,.nilFunc,Ah none 0 0,Ah none 0 0] 201:=by rw[hW];exact (jY0.alloc _).alloc _
 have hz12:w1.heap.size<=w2.heap.size:=hb2.size;obtain⟨o2,ho2⟩:∃ o2:Own,o2=fun b=>if b=w2.heap.size then (id,10) else if b=w2.heap.size+1 then (id,11) else if b=w1.heap.size then (id,7) else o1 b:=⟨_,rfl⟩
 have hext:∀ b,b<w1.heap.size->o2 b=o1 b:=fun b hb=>by rw[ho2];show (if _ then _ else _)=_;rw[if_neg (by omega),if_neg (by omega),if_neg (by omega)]
 have oC:o2 w2.heap.size=(id,10):=by rw[ho2];exact if_pos rfl
 have oB:o2 (w2.heap.size+1)=(id,11):=by rw[ho2];show (if _ then _ else _)=_;rw[if_neg (by omega),if_pos rfl]
 have oY:o2 w1.heap.size=(id,7):=by rw[ho2];show (if _ then _ else _)=_;rw[if_neg (by omega),if_neg (by omega),if_pos rfl]
 have hs2:Stp (fun _=>False) o1 o2 w1 W:=⟨hb3.os,hb3.tape,hb3.output,hb3.size,hext,fun b hb _=>hb3.block b hb⟩
 have hS0:Ap W o2 ⟨w2.heap.size+1,⟨id,h,a,wd⟩,w1.heap.size,w2.heap.size,Ah none 0 0,fun _=>0,fun _=>0⟩ (Al.fresh n 0 r u M):=
  ⟨⟨Ah none 0 0,Ah none 0 0,Ah none 0 0,jB,⟨Row.nil _ _ _ _ _,Row.nil _ _ _ _ _,Row.nil _ _ _ _ _⟩⟩,jY,⟨_,_,_,_,_,hH.Ao hs2 fun _ _ h=>h⟩,jC,Row.nil _ _ _ _ _,fun i x hx=>(by cases hx),oC,oB,oY⟩
 have hs3:Stp (fun t=>t.1=id) o o2 w W:=(hs1.trans hs2).mono (fun _ h=>h.elim)
 have HS0:=Qa hS0;have HS3:=Qa hs3;clear hH hs1 hle hid hb2 hb3 jC jY jY0 hz2 hext oC oB oY hs2 hS0 hs3 ho2;go_wp2_with fail;rw[<-hW];obtain⟨sb,hsb⟩:∃ sb,sb=w2.heap.size+1:=⟨_,rfl⟩;rw[<-hsb]at HS0 jB ⊢;obtain⟨cy,hcy⟩:∃ cy,cy=w1.heap.size:=⟨_,rfl⟩;obtain⟨ck,hck⟩:∃ ck,ck=w2.heap.size:=⟨_,rfl⟩;rw[<-hcy,<-hck]at HS0 jB;have HJB:=Qa jB;clear hW hsb hz12 hcy hck jB;go_loopw [37] (fun ix wr=>∃ (q:Nat)(v:Ac)(xb lb:Nat->Nat)(oo:Own),ix=I Z q/\q<=k/\Ap wr oo ⟨sb,⟨id,h,a,wd⟩,cy,ck,v,xb,lb⟩ (Al.fresh n q r u M)/\Am wr sb #[ptr h,ptr cy,ptr ck,v,Ah none 0 0,I Z 0,I Z (-1),I Z 0,Ah none 0 0,Ah none 0 0] 101/\Stp (fun t=>t.1=id) o oo w wr) (fun ix _=>k-(intOf ix).toNat)
 case atStart=>exact⟨0,_,_,_,_,rfl,by omega,HS0.out,HJB.out,HS3.out⟩
 case round =>
  obtain⟨q,v,xb,lb,oo,rfl,hqk,hS,hB,hs⟩:=hrel;clear HS0 HS3 HJB;by_cases hlt:q<k
  ·have qI:(q:Int)<(k:Int):=by omega
   have hH:=Qa hS;have hBH:=Qa hB;have hsH:=Qa hs;obtain⟨wo,rfl⟩:∃ wo:Aa,wo=wr:=⟨_,rfl⟩;have Ea:=hS.Ea;have hqz:(Al.fresh n q r u M).Aw.length=q:=Qx;rw[hqz]at Ea;simp only at Ea;clear hqz hS hs hqk;obtain⟨pa,cp,rfl⟩:=Ea.AY;have c:=hB.cell;have sB:=hB.lt;obtain⟨z,hz⟩:∃ z,z=wo.heap.size:=⟨_,rfl⟩;have HL2:=Qa (show Ab Tryz.prog 104 #[I Z r,I Z u] wo.drew fun e w'=>e=O (ptr z)/\Am w' z #[I Z r,I Z u,Ah none 0 0,Ah none 0 0,Ah none 0 0,Ah none 0 0] 219/\Ae wo.heap.size wo w'/\w'.heap.size=z+1 from by
    rw[hz];exact (HL.out wo.drew).mono fun e w' ⟨h1,h2,h3,h4⟩=>⟨h1,h2,qd (qe (qc wo)) h3,h4⟩)
   obtain⟨op,hop⟩:∃ op:Own,op=fun b=>if b=z then (id,17+8*q) else if b=z+1 then (id,16+8*q) else if b<z then oo b else (id+1,0):=⟨_,rfl⟩
   have opl:∀ b,b<wo.heap.size->op b=oo b:=fun b hb=>by rw[hop];show (if _ then _ else _)=_;rw[if_neg (by omega),if_neg (by omega),if_pos (by omega)]
   have opz:op z=(id,17+8*q):=by rw[hop];exact if_pos rfl
   have opz1:op (z+1)=(id,16+8*q):=by rw[hop];show (if _ then _ else _)=_;rw[if_neg (by omega),if_pos rfl]
   have thr2:=Ea.retag opl;obtain⟨iT,hi,hsI,hyI,hzI⟩:=Lb;have hml:q+1<=maxLen:=by simp only[maxLen];omega
   have hmb:(q+1)*8<=140737488355328:=by omega
   have sbz:sb<z:=by rw[hz];exact sB
   have HZ:=Qa hz;have hone:∀ u ∈ [ptr (z+1)],u.oneCell'=true:=by intro u hu;simp at hu;subst hu;rfl
   have hfin:=Qa (fun (w3 w4:Aa)(o4:Own)(v':Ac)(jl:Am w3 z #[I Z r,I Z u,Ah none 0 0,Ah none 0 0,Ah none 0 0,Ah none 0 0] 219)(hbl:Ae wo.heap.size wo w3)(hz3:w3.heap.size=z+1)
     (hown:Row w4 o4 (id,12) 103 1 v' (q+1) (((List.range q).map fun i=>ptr (xb i))++[ptr (z+1)]))
     (hst:Stp (fun t=>t=(id,12)) op o4 ((w3.alloc (.cells #[I Z q,.bool false,I Z 0,I Z 0,ptr z,Ah none 0 0] 107)).alloc (.cells #[ptr (z+1)] 103)) w4) =>
    show ∃ (xb lb:Nat->Nat)(oo:Own),Ap (w4.setCell ⟨sb,3,none⟩ v') oo ⟨sb,⟨id,h,a,wd⟩,cy,ck,v',xb,lb⟩ (Al.fresh n (q+1) r u M)/\Am (w4.setCell ⟨sb,3,none⟩ v') sb #[ptr h,ptr cy,ptr ck,v',Ah none 0 0,I Z 0,I Z (-1),I Z 0,Ah none 0 0,Ah none 0 0] 101/\Stp (fun t=>t.1=id) o oo w (w4.setCell ⟨sb,3,none⟩ v') from by
     have hz:=HZ.out;have e0:op sb=(id,11):=(opl _ (by omega)).trans hH.out.os
     have k1:Ae wo.heap.size wo ((w3.alloc (.cells #[I Z q,.bool false,I Z 0,I Z 0,ptr z,Ah none 0 0] 107)).alloc (.cells #[ptr (z+1)] 103)):=qa (qa hbl _) _;have k2:Stp (fun _=>False) oo op wo ((w3.alloc (.cells #[I Z q,.bool false,I Z 0,I Z 0,ptr z,Ah none 0 0] 107)).alloc (.cells #[ptr (z+1)] 103)):=⟨k1.os,k1.tape,k1.output,k1.size,opl,fun b hb _=>k1.block b hb⟩
     have jX:Am ((w3.alloc (.cells #[I Z q,.bool false,I Z 0,I Z 0,ptr z,Ah none 0 0] 107)).alloc (.cells #[ptr (z+1)] 103)) (z+1) #[I Z q,.bool false,I Z 0,I Z 0,ptr z,Ah none 0 0] 107:=(Am.Aq _ _ _ _ _ hz3.symm rfl).alloc _;have jL:=(jl.alloc (.cells #[I Z q,.bool false,I Z 0,I Z 0,ptr z,Ah none 0 0] 107)).alloc (.cells #[ptr (z+1)] 103);have jS:=(hBH.out.below k1 (by omega)).Ao hst (by rw[e0];simp)
     have e4:o4 sb=(id,11):=(hst.tags _ (hBH.out.below k1 (by omega)).lt).trans e0
     have k3:Stp (fun t=>t=(id,11)) o4 o4 w4 (w4.setCell ⟨sb,3,none⟩ v'):=(Stp.refl _ o4 w4).setCell (by show o4 sb=_;exact e4) _
     have k4:Stp (fun t=>t=(id,11)\/t=(id,12)) oo o4 wo (w4.setCell ⟨sb,3,none⟩ v'):=(k2.mono fun _ h=>h.elim).trans ((hst.mono fun _ h=>Or.inr h).trans (k3.mono fun _ h=>Or.inl h))
     have jS3:Am (w4.setCell ⟨sb,3,none⟩ v') sb #[ptr h,ptr cy,ptr ck,v',Ah none 0 0,I Z 0,I Z (-1),I Z 0,Ah none 0 0,Ah none 0 0] 101:=jS.set 3 v';refine⟨_,_,o4,hH.out.more k4 jS3 (hown.Ao k3 (by simp)) ((jX.Ao hst (by rw[opz1];simp;omega)).An (by show z+1≠sb;omega) _) ((jL.Ao hst (by rw[opz];simp;omega)).An (by show z≠sb;omega) _) ?_ ?_,jS3,hsH.out.trans (k4.mono (by rintro _ (rfl|rfl)<;>rfl))⟩
     ·exact (hst.tags _ jX.lt).trans opz1
     ·exact (hst.tags _ jL.lt).trans opz)
   clear hz opz opz1 hop Ea;go_upto_region 10 with fail;go_region_law (first
    | (refine zj _ (by rfl) _ _ _ (by rfl) 103 iT _ 1 8 hu64 hi hzI hsI hyI (by rfl) (by decide) op (id,12) _ _ _ (by rfl) rn ⟨z+1+1,0,none⟩ 1 1 [ptr (z+1)] (by rfl) (by rfl) (qx jn) hone hml hmb ?_;intro v' w4 hown hst;obtain⟨pa',cp',rfl⟩:=hown.AY;have jX:=(jB3.alloc _).alloc _ |>.Ao hst (by rw[opl _ sB,hH.out.os];simp);have cX:=jX.cell;have zX:=jX.free;have sX:=jX.lt)
    | (go_simp;go_wp2_with ((go_at_call 104;refine HL2.out.mono ?_;rintro e w3 ⟨rfl,jl,hbl,hz3⟩;have jB3:=hB.below hbl sB;have cB3:=jB3.cell;have sB3:=jB3.lt;have cA3:=(jB3.alloc (.cells #[I Z q,.bool false,I Z 0,I Z 0,ptr z,Ah none 0 0] 107)).cell;have cD3:=((jB3.alloc (.cells #[I Z q,.bool false,I Z 0,I Z 0,ptr z,Ah none 0 0] 107)).alloc (.cells #[ptr (z+1)] 103)).cell;have rn:=((thr2.below (w':=w3) hbl).below (qa (qc w3) (.cells #[I Z q,.bool false,I Z 0,I Z 0,ptr z,Ah none 0 0] 107))).below (qa (qc _) (.cells #[ptr (z+1)] 103));have jn:=Am.Aq (w3.alloc (.cells #[I Z q,.bool false,I Z 0,I Z 0,ptr z,Ah none 0 0] 107)) #[ptr (z+1)] #[ptr (z+1)] 103 (z+1+1) (by rw[World.size_alloc,hz3]) rfl))))
   all_goals
    obtain⟨xb',lb',oo',hS',hB',hs'⟩:=hfin.out _ _ _ _ jl hbl hz3 hown hst;go_wp2_with fail;go_roundw
    case rel=>exact⟨q+1,_,xb',lb',oo',by simp,by omega,hS',hB',hs'⟩
    case measure=>simp[intOf];omega
  ·obtain rfl:q=k:=by omega
   clear hlt;go_wp2_with fail;go_ret2;exact⟨_,oo,rfl,rfl,hS,hs.strict HF.out⟩
end
end
section
open Go.RowKit Hp
open Go.MuLone
attribute [local go_sem ↓] Go.wp_at_zero Go.wp_at_succ
def CS.val (x:CS):Ac:=Ak #[I Z x.t,I Z x.b,I Z x.n,I Z x.a.k,I Z x.a.e,I Z x.a.v]
theorem Xn (b n cp:Nat) (pa:Option Addr) (x:CS) (w:Aa) (h0:w.cell? ⟨b,3,none⟩=some (.int .i32 0)) (h2:w.cell? ⟨b,5,none⟩=some (.slice pa n cp)) (f0:w.frozen? ⟨b,3,none⟩=false) (hlt:b<w.heap.size) (hn:2000<=n) :
  Ab Tryz.prog 91 #[Ag (some ⟨b,3,none⟩),x.val] w fun e w'=>e=O (Aj #[])/\∃ X,w'=((w.setCell ⟨b,3,none⟩ (.int .i32 1)).alloc X).setCell ⟨b,3,none⟩ (.int .i32 0):=by
 obtain⟨xt,xb,xn,⟨xk,xe,xv⟩⟩:=x;show Ab _ _ #[Ag (some ⟨b,3,none⟩),Ak #[I Z xt,I Z xb,I Z xn,I Z xk,I Z xe,I Z xv]] _ _;obtain⟨W,hW⟩:∃ W:Aa,W=w.alloc (.cells #[I Z xt,I Z xb,I Z xn,I Z xk,I Z xe,I Z xv] 69):=⟨_,rfl⟩;have hb:Ae w.heap.size w W:=by rw[hW];exact qa (qc w) _
 have c0:W.cell? ⟨b,3,none⟩=some (.int .i32 0):=by rw[hb.cell (p:=⟨b,3,none⟩) hlt];exact h0
 have c2:W.cell? ⟨b,5,none⟩=some (.slice pa n cp):=by rw[hb.cell (p:=⟨b,5,none⟩) hlt];exact h2
 have fW:W.frozen? ⟨b,3,none⟩=false:=by
  have e:=hb.block b hlt;simp only[World.frozen?,e]at f0 ⊢;exact f0
 have hnI:¬(n:Int)<2000:=by omega
 have a0:(w.alloc (.cells #[I Z xt,I Z xb,I Z xn,I Z xk,I Z xe,I Z xv] 69)).cell? ⟨b,5,none⟩=some (.slice pa n cp):=by rw[<-hW];exact c2
 go_enter_defers Tryz.func91,Tryz.ntmps91;go_wp2_with (first
  | (go_at_call 148;rw[<-hW];refine (lock_free Tryz.muLib ⟨b,3,none⟩ _ c0 fW).mono ?_;rintro e w' ⟨rfl,rfl⟩))
 have hlt1:b<(w.setCell ⟨b,3,none⟩ (.int .i32 1)).heap.size:=by simpa using hlt
 have hba:=qa (qc (w.setCell ⟨b,3,none⟩ (.int .i32 1))) (.cells #[I Z xt,I Z xb,I Z xn,I Z xk,I Z xe,I Z xv] 69);have hc1:=(hba.cell (p:=⟨b,3,none⟩) hlt1).trans (World.cell?_setCell_same w ⟨b,3,none⟩ (.int .i32 1) h0);have hf0:(w.setCell ⟨b,3,none⟩ (.int .i32 1)).frozen? ⟨b,3,none⟩=false:=by simp[f0]
 have hf1:((w.setCell ⟨b,3,none⟩ (.int .i32 1)).alloc (.cells #[I Z xt,I Z xb,I Z xn,I Z xk,I Z xe,I Z xv] 69)).frozen? ⟨b,3,none⟩=false:=by
  have e:=hba.block b hlt1;simp only[World.frozen?,e]at hf0 ⊢;exact hf0
 refine leaves_cons (f:=149) (args:=#[Ag (some ⟨b,3,none⟩)]) (by simp) (by simp[go_sem]) ?_
 refine (unlock_deferred Tryz.muLib ⟨b,3,none⟩ .returning _ hc1 hf1).mono ?_
 rintro e u' w'' ⟨rfl,rfl,rfl⟩
 exact⟨Aj #[],by simp[results,Tryz.results91,go_sem],rfl,_,rfl⟩
end
section
open Go.RowKit Hp
attribute [local go_sem ↓] Go.wp_at_zero Go.wp_at_succ
section
variable {w w' : Aa} {o o' : Own} {y : A3} {S : Al} {i : Nat}
structure Co (w:Aa)(o:Own)(y:A3)(S:Al)(vr vs:Ac)(rd ls:List Nat):Prop where
 AU:∃ vq vl vm,Am w y.sb (qk y S vq vl vm) 101/\Cf w o y.l.id S vq vl vm
 cb:Am w y.cy #[ptr y.l.h,Ff y.cy S.ph,vr,vs] 201
 cr:Row w o (y.l.id,8) 3 1 vr rd.length (rd.map nv)
 cl:Row w o (y.l.id,9) 3 1 vs ls.length (ls.map nv)
 oy:o y.cy=(y.l.id,7)
 hp:Bu w o y.l S.H
 ck:Am w y.ck #[I Z S.now,I Z S.most] 193
 Ea:Row w o (y.l.id,12) 103 1 y.EO S.Aw.length ((List.range S.Aw.length).map fun i=>ptr (y.xb i))
 Aw:∀ i x,S.Aw[i]?=some x->ES w o y.l.id i (y.xb i) (y.lb i) x
 oc:o y.ck=(y.l.id,10)
 os:o y.sb=(y.l.id,11)
theorem Ap.Pj (h:Ap w o y S):Co w o y S (Ah none 0 0) (Ah none 0 0) [] []:=⟨h.AU,h.cy,Row.nil _ _ _ _ _,Row.nil _ _ _ _ _,h.oy,h.hp,h.ck,h.Ea,h.Aw,h.oc,h.os⟩
theorem Co.close (h:Co w o y S (Ah none 0 0) (Ah none 0 0) [] []):Ap w o y S:=⟨h.AU,h.cb,h.hp,h.ck,h.Ea,h.Aw,h.oc,h.os,h.oy⟩
theorem Co.lt {vr vs:Ac}{rd ls:List Nat}(h:Co w o y S vr vs rd ls):y.sb<w.heap.size:=by obtain⟨_,_,_,hb,_⟩:=h.AU;exact hb.lt
theorem Co.ER {vr vs vr' vs':Ac}{rd ls rd' ls':List Nat}(h:Co w o y S vr vs rd ls){H':Hp}{n:Nat}(hH:Bu w' o' y.l H')(hb':Am w' y.cy #[ptr y.l.h,Ff y.cy n,vr',vs'] 201)(hr1:Row w' o' (y.l.id,8) 3 1 vr' rd'.length (rd'.map nv))(hr2:Row w' o' (y.l.id,9) 3 1 vs' ls'.length (ls'.map nv))(hs:Stp (Fe y.l) o o' w w'):Co w' o' y { S with H:=H',ph:=n } vr' vs' rd' ls':=by
 obtain⟨vq,vl,vm,hb,hr⟩:=h.AU;have hn:∀ j,10<=j->¬Fe y.l (y.l.id,j):=fun j hj e=>by have:=e.2;simp only at this;omega
 have hr':=hr.Ao hs fun j _ _=>hn j (by omega)
 exact⟨⟨vq,vl,vm,hb.Ao hs (by rw[h.os];exact hn _ (by omega)),hr'.1,hr'.2,hr'.3⟩,hb',hr1,hr2,(hs.tags _ h.cb.lt).trans h.oy,hH,h.ck.Ao hs (by rw[h.oc];exact hn _ (by omega)),h.Ea.Ao hs (hn _ (by omega)),fun i x hx=>(h.Aw i x hx).Ao hs fun j _=>hn _ (by omega),(hs.tags _ h.ck.lt).trans h.oc,(hs.tags _ h.lt).trans h.os⟩
theorem Co.Tf {vr vs vr' vs':Ac}{rd ls rd' ls':List Nat}(h:Co w o y S vr vs rd ls)(hb':Am w' y.cy #[ptr y.l.h,Ff y.cy S.ph,vr',vs'] 201)(hr1:Row w' o' (y.l.id,8) 3 1 vr' rd'.length (rd'.map nv))(hr2:Row w' o' (y.l.id,9) 3 1 vs' ls'.length (ls'.map nv))(hs:Stp (fun t=>t=(y.l.id,7)) o o' w w'):Co w' o' y S vr' vs' rd' ls':=
 h.ER (h.hp.Ao hs fun j hj=>by simp;omega) hb' hr1 hr2 (hs.mono (by rintro _ rfl;exact⟨rfl,.inl (Qk _)⟩))
theorem Co.below {vr vs:Ac}{rd ls:List Nat}(h:Co w o y S vr vs rd ls)(hb:Ae w.heap.size w w'):Co w' o y S vr vs rd ls:=by
 have hs:Stp (fun _=>False) o o w w':=Stp.of_below hb
 obtain⟨vq,vl,vm,hbk,hr⟩:=h.AU;exact⟨⟨vq,vl,vm,hbk.below hb hbk.lt,hr.Ao hs fun _ _ _ h=>h⟩,h.cb.below hb h.cb.lt,h.cr.below hb,h.cl.below hb,h.oy,h.hp.Ao hs fun _ _ h=>h,h.ck.below hb h.ck.lt,h.Ea.Ao hs fun h=>h,fun i x hx=>(h.Aw i x hx).Ao hs fun _ _ h=>h,h.oc,h.os⟩
theorem Co.own {vr vs:Ac}{rd ls:List Nat}(h:Co w o y S vr vs rd ls){S':Al}(e1:S'.H=S.H)(e2:S'.ph=S.ph)(e3:S'.now=S.now)(e4:S'.most=S.most)(e5:S'.Aw=S.Aw)
  {vq vl vm:Ac}(hb:Am w' y.sb (qk y S' vq vl vm) 101)(hr:Cf w' o' y.l.id S' vq vl vm)(hs:Stp (jr y) o o' w w'):Co w' o' y S' vr vs rd ls:=by
 have hn:∀ j,j≠11->j≠13->j≠14->j≠15->¬jr y (y.l.id,j):=fun j a b c d=>dl a b c d
 exact⟨⟨vq,vl,vm,hb,hr⟩,by rw[e2];exact h.cb.Ao hs (by rw[h.oy];exact hn _ (by omega) (by omega) (by omega) (by omega)),h.cr.Ao hs (hn _ (by omega) (by omega) (by omega) (by omega)),h.cl.Ao hs (hn _ (by omega) (by omega) (by omega) (by omega)),(hs.tags _ h.cb.lt).trans h.oy,by rw[e1];exact h.hp.Ao hs fun j hj=>hn _ (by omega) (by omega) (by omega) (by omega),
  by rw[e3,e4];exact h.ck.Ao hs (by rw[h.oc];exact hn _ (by omega) (by omega) (by omega) (by omega)),by rw[e5];exact h.Ea.Ao hs (hn _ (by omega) (by omega) (by omega) (by omega)),fun i x hx=>(h.Aw i x (by rw[<-e5];exact hx)).Ao hs fun j _=>hn _ (by omega) (by omega) (by omega) (by omega),
  (hs.tags _ h.ck.lt).trans h.oc,(hs.tags _ h.lt).trans h.os⟩
end
end
end Go.Proofs.YteehgedabdchcaaGreat
