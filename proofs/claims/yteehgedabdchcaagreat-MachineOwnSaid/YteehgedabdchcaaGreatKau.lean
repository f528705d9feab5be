import Derived.Test.YteehgedabdchcaaGreatKak
import Derived.Test.YteehgedabdchcaaGreatKbe
import Derived.Defers
import Derived.Laws.CopyRow
import Derived.Shelf.Spec.SlicesGrow
import Derived.Sort.CutIn
import Derived.Stop.RegionWithIn
import Derived.Conc.MuLone
import Derived.Laws.IdiomCopy
import Derived.Laws.MakeOwn
set_option linter.all false
set_option maxRecDepth 1000000
set_option maxHeartbeats 16000000
namespace Go.Proofs.YteehgedabdchcaaGreat
open Go.RowKit Hp
attribute [local go_sem ↓] Go.wp_at_zero Go.wp_at_succ
structure R6 where
 a0:Int
 a1:Int
 a2:Int
 a3:Int
 a4:Int
 a5:Int
deriving DecidableEq
structure ThV where
 b:Int
 n:Int
 r:R6
 s:R6
 l:Bool
deriving DecidableEq
def ThV.cells (h:ThV):Array Value:=#[.int .i64 h.b,.int .i64 h.n,.int .i64 h.r.a0,.int .i64 h.r.a1,.int .i64 h.r.a2,.int .i64 h.r.a3,.int .i64 h.r.a4,.int .i64 h.r.a5,.int .i64 h.s.a0,.int .i64 h.s.a1,.int .i64 h.s.a2,.int .i64 h.s.a3,.int .i64 h.s.a4,.int .i64 h.s.a5,.bool h.l]
def ThV.v (h:ThV):Value:=.agg h.cells
structure ActV where
 k:Int
 e:Int
 v:Int
deriving DecidableEq
def ActV.cells (a:ActV):Array Value:=#[.int .i64 a.k,.int .i64 a.e,.int .i64 a.v]
def ActV.val (a:ActV):Value:=.agg a.cells
def ThV.back (h:ThV):ThV:=⟨h.b,0,h.s,h.s,false⟩
theorem cf (h:ThV)(w:World):Calls Tryz.prog 212 #[h.v] w fun e w'=>e=.returned h.back.v∧Below w.heap.size w w':=by
 obtain⟨hb,hn,⟨a0,a1,a2,a3,a4,a5⟩,⟨s0,s1,s2,s3,s4,s5⟩,hl⟩:=h;show Calls _ _ #[.agg #[.int .i64 hb,.int .i64 hn,.int .i64 a0,.int .i64 a1,.int .i64 a2,.int .i64 a3,.int .i64 a4,.int .i64 a5,.int .i64 s0,.int .i64 s1,.int .i64 s2,.int .i64 s3,.int .i64 s4,.int .i64 s5,.bool hl]] _ _;go_enter Tryz.func212,Tryz.ntmps212;go_wp2_with fail;obtain⟨W,hW⟩:∃ W:World,W=(w.alloc (.cells #[.int .i64 hb,.int .i64 0,.int .i64 s0,.int .i64 s1,.int .i64 s2,.int .i64 s3,.int .i64 s4,.int .i64 s5,.int .i64 s0,.int .i64 s1,.int .i64 s2,.int .i64 s3,.int .i64 s4,.int .i64 s5,.bool false] 58)).alloc (.cells #[.int .i64 hb,.int .i64 0,.int .i64 s0,.int .i64 s1,.int .i64 s2,.int .i64 s3,.int .i64 s4,.int .i64 s5,.int .i64 s0,.int .i64 s1,.int .i64 s2,.int .i64 s3,.int .i64 s4,.int .i64 s5,.bool false] 58):=⟨_,rfl⟩;rw[←hW];have j8:Blk W (w.heap.size+1) #[.int .i64 hb,.int .i64 0,.int .i64 s0,.int .i64 s1,.int .i64 s2,.int .i64 s3,.int .i64 s4,.int .i64 s5,.int .i64 s0,.int .i64 s1,.int .i64 s2,.int .i64 s3,.int .i64 s4,.int .i64 s5,.bool false] 58:=by rw[hW];exact Blk.new_at _ _ _ _ _ (by simp) rfl
 have hbl:Below w.heap.size w W:=by rw[hW];exact qa (qa (qc w) _) _
 clear hW;have c8:=j8.cell;refine bodyPost_ret (v:=ThV.v ⟨hb,0,⟨s0,s1,s2,s3,s4,s5⟩,⟨s0,s1,s2,s3,s4,s5⟩,false⟩) ?_ rfl ⟨rfl,hbl⟩;simp[results,Tryz.results212,go_sem,c8,ThV.v,ThV.cells]
def zy (W:World)(b6 b7:Nat)(h:ThV)(a:ActV):World:=((((((((((((((((((W.setCell ⟨b6,0,none⟩ (.int .i64 h.b)).setCell ⟨b6,1,none⟩ (.int .i64 h.n)).setCell ⟨b6,2,none⟩ (.int .i64 h.r.a0)).setCell ⟨b6,3,none⟩ (.int .i64 h.r.a1)).setCell ⟨b6,4,none⟩ (.int .i64 h.r.a2)).setCell ⟨b6,5,none⟩ (.int .i64 h.r.a3)).setCell ⟨b6,6,none⟩ (.int .i64 h.r.a4)).setCell ⟨b6,7,none⟩ (.int .i64 h.r.a5)).setCell ⟨b6,8,none⟩ (.int .i64 h.s.a0)).setCell ⟨b6,9,none⟩ (.int .i64 h.s.a1)).setCell ⟨b6,10,none⟩ (.int .i64 h.s.a2)).setCell ⟨b6,11,none⟩ (.int .i64 h.s.a3)).setCell ⟨b6,12,none⟩ (.int .i64 h.s.a4)).setCell ⟨b6,13,none⟩ (.int .i64 h.s.a5)).setCell ⟨b6,14,none⟩ (.bool h.l)).setCell ⟨b7,0,none⟩ (.int .i64 a.k)).setCell ⟨b7,1,none⟩ (.int .i64 a.e)).setCell ⟨b7,2,none⟩ (.int .i64 a.v))
def zTh:Array Value:=#[.int .i64 0,.int .i64 0,.int .i64 0,.int .i64 0,.int .i64 0,.int .i64 0,.int .i64 0,.int .i64 0,.int .i64 0,.int .i64 0,.int .i64 0,.int .i64 0,.int .i64 0,.int .i64 0,.bool false]
def zAct:Array Value:=#[.int .i64 0,.int .i64 0,.int .i64 0]
theorem zr {W:World}{b6 b7:Nat}{t6 t7:TypeId}(j6:Blk W b6 zTh t6)(j7:Blk W b7 zAct t7)(hne:b6≠b7)(h:ThV)(a:ActV):Blk (zy W b6 b7 h a) b6 h.cells t6∧Blk (zy W b6 b7 h a) b7 a.cells t7:=by
 have hne':b7≠b6:=fun e=>hne e.symm
 have a1:=((((((((((((((((((j6.set 0 (.int .i64 h.b)).set 1 (.int .i64 h.n)).set 2 (.int .i64 h.r.a0)).set 3 (.int .i64 h.r.a1)).set 4 (.int .i64 h.r.a2)).set 5 (.int .i64 h.r.a3)).set 6 (.int .i64 h.r.a4)).set 7 (.int .i64 h.r.a5)).set 8 (.int .i64 h.s.a0)).set 9 (.int .i64 h.s.a1)).set 10 (.int .i64 h.s.a2)).set 11 (.int .i64 h.s.a3)).set 12 (.int .i64 h.s.a4)).set 13 (.int .i64 h.s.a5)).set 14 (.bool h.l)).set_other (a:=⟨b7,0,none⟩) hne (.int .i64 a.k)).set_other (a:=⟨b7,1,none⟩) hne (.int .i64 a.e)).set_other (a:=⟨b7,2,none⟩) hne (.int .i64 a.v));have a2:=((((((((((((((((((j7.set_other (a:=⟨b6,0,none⟩) hne' (.int .i64 h.b)).set_other (a:=⟨b6,1,none⟩) hne' (.int .i64 h.n)).set_other (a:=⟨b6,2,none⟩) hne' (.int .i64 h.r.a0)).set_other (a:=⟨b6,3,none⟩) hne' (.int .i64 h.r.a1)).set_other (a:=⟨b6,4,none⟩) hne' (.int .i64 h.r.a2)).set_other (a:=⟨b6,5,none⟩) hne' (.int .i64 h.r.a3)).set_other (a:=⟨b6,6,none⟩) hne' (.int .i64 h.r.a4)).set_other (a:=⟨b6,7,none⟩) hne' (.int .i64 h.r.a5)).set_other (a:=⟨b6,8,none⟩) hne' (.int .i64 h.s.a0)).set_other (a:=⟨b6,9,none⟩) hne' (.int .i64 h.s.a1)).set_other (a:=⟨b6,10,none⟩) hne' (.int .i64 h.s.a2)).set_other (a:=⟨b6,11,none⟩) hne' (.int .i64 h.s.a3)).set_other (a:=⟨b6,12,none⟩) hne' (.int .i64 h.s.a4)).set_other (a:=⟨b6,13,none⟩) hne' (.int .i64 h.s.a5)).set_other (a:=⟨b6,14,none⟩) hne' (.bool h.l)).set 0 (.int .i64 a.k)).set 1 (.int .i64 a.e)).set 2 (.int .i64 a.v));have e1:∀ x,x=h.cells→Blk (zy W b6 b7 h a) b6 x t6→Blk (zy W b6 b7 h a) b6 h.cells t6:=fun x e k=>by rw[←e];exact k
 have e2:∀ x,x=a.cells→Blk (zy W b6 b7 h a) b7 x t7→Blk (zy W b6 b7 h a) b7 a.cells t7:=fun x e k=>by rw[←e];exact k
 refine⟨e1 _ ?_ a1,e2 _ ?_ a2⟩
 ·simp only[zTh,ThV.cells,List.setIfInBounds_toArray,List.set_cons_zero,List.set_cons_succ]
 ·simp only[zAct,ActV.cells,List.setIfInBounds_toArray,List.set_cons_zero,List.set_cons_succ]
theorem xg {w W:World}{b6 b7:Nat}(h1:Below w.heap.size w W)(h6:w.heap.size≤b6)(h7:w.heap.size≤b7)(h:ThV)(a:ActV):Below w.heap.size w (zy W b6 b7 h a):=(qo (qo (qo (qo (qo (qo (qo (qo (qo (qo (qo (qo (qo (qo (qo (qo (qo (qo h1 h6 _) h6 _) h6 _) h6 _) h6 _) h6 _) h6 _) h6 _) h6 _) h6 _) h6 _) h6 _) h6 _) h6 _) h6 _) h7 _) h7 _) h7 _)
def thW (W:World)(b:Nat)(h:ThV):World:=(((((((((((((((W.setCell ⟨b,0,none⟩ (.int .i64 h.b)).setCell ⟨b,1,none⟩ (.int .i64 h.n)).setCell ⟨b,2,none⟩ (.int .i64 h.r.a0)).setCell ⟨b,3,none⟩ (.int .i64 h.r.a1)).setCell ⟨b,4,none⟩ (.int .i64 h.r.a2)).setCell ⟨b,5,none⟩ (.int .i64 h.r.a3)).setCell ⟨b,6,none⟩ (.int .i64 h.r.a4)).setCell ⟨b,7,none⟩ (.int .i64 h.r.a5)).setCell ⟨b,8,none⟩ (.int .i64 h.s.a0)).setCell ⟨b,9,none⟩ (.int .i64 h.s.a1)).setCell ⟨b,10,none⟩ (.int .i64 h.s.a2)).setCell ⟨b,11,none⟩ (.int .i64 h.s.a3)).setCell ⟨b,12,none⟩ (.int .i64 h.s.a4)).setCell ⟨b,13,none⟩ (.int .i64 h.s.a5)).setCell ⟨b,14,none⟩ (.bool h.l))
theorem mj {W:World}{b:Nat}{t:TypeId}{g:ThV}(j:Blk W b g.cells t)(h:ThV):Blk (thW W b h) b h.cells t:=by
 have a1:=(((((((((((((((j.set 0 (.int .i64 h.b)).set 1 (.int .i64 h.n)).set 2 (.int .i64 h.r.a0)).set 3 (.int .i64 h.r.a1)).set 4 (.int .i64 h.r.a2)).set 5 (.int .i64 h.r.a3)).set 6 (.int .i64 h.r.a4)).set 7 (.int .i64 h.r.a5)).set 8 (.int .i64 h.s.a0)).set 9 (.int .i64 h.s.a1)).set 10 (.int .i64 h.s.a2)).set 11 (.int .i64 h.s.a3)).set 12 (.int .i64 h.s.a4)).set 13 (.int .i64 h.s.a5)).set 14 (.bool h.l));have e1:∀ x,x=h.cells→Blk (thW W b h) b x t→Blk (thW W b h) b h.cells t:=fun x e k=>by rw[←e];exact k
 refine e1 _ ?_ a1;simp only[ThV.cells,List.setIfInBounds_toArray,List.set_cons_zero,List.set_cons_succ]
theorem yf {W:World}{b c:Nat}{t:TypeId}{cs:Array Value}(j:Blk W c cs t)(hne:c≠b)(h:ThV):Blk (thW W b h) c cs t:=by
 have a1:=(((((((((((((((j.set_other (a:=⟨b,0,none⟩) hne (.int .i64 h.b)).set_other (a:=⟨b,1,none⟩) hne (.int .i64 h.n)).set_other (a:=⟨b,2,none⟩) hne (.int .i64 h.r.a0)).set_other (a:=⟨b,3,none⟩) hne (.int .i64 h.r.a1)).set_other (a:=⟨b,4,none⟩) hne (.int .i64 h.r.a2)).set_other (a:=⟨b,5,none⟩) hne (.int .i64 h.r.a3)).set_other (a:=⟨b,6,none⟩) hne (.int .i64 h.r.a4)).set_other (a:=⟨b,7,none⟩) hne (.int .i64 h.r.a5)).set_other (a:=⟨b,8,none⟩) hne (.int .i64 h.s.a0)).set_other (a:=⟨b,9,none⟩) hne (.int .i64 h.s.a1)).set_other (a:=⟨b,10,none⟩) hne (.int .i64 h.s.a2)).set_other (a:=⟨b,11,none⟩) hne (.int .i64 h.s.a3)).set_other (a:=⟨b,12,none⟩) hne (.int .i64 h.s.a4)).set_other (a:=⟨b,13,none⟩) hne (.int .i64 h.s.a5)).set_other (a:=⟨b,14,none⟩) hne (.bool h.l));exact a1
theorem dd {w W:World}{b:Nat}(h1:Below w.heap.size w W)(h6:w.heap.size≤b)(h:ThV):Below w.heap.size w (thW W b h):=(qo (qo (qo (qo (qo (qo (qo (qo (qo (qo (qo (qo (qo (qo (qo h1 h6 _) h6 _) h6 _) h6 _) h6 _) h6 _) h6 _) h6 _) h6 _) h6 _) h6 _) h6 _) h6 _) h6 _) h6 _)
theorem qq {X:World}{b6 b7:Nat}{t6 t7:TypeId}{h:ThV}{a:ActV}(fn:Func)(tmps:Array Value)(i j:Nat)(hres:fn.results=#[.cell i 58,.cell j 54])(ti:tmps.getD i undef=ptr b6)(tj:tmps.getD j undef=ptr b7)
  (j6:Blk X b6 h.cells t6)(j7:Blk X b7 a.cells t7):(results fn tmps).run Tryz.prog X=.ok (.tuple #[h.v,a.val]) X:=by
 have d6:=j6.cell;have d7:=j7.cell;unfold ThV.cells at d6;unfold ActV.cells at d7;rw[Array.getD_eq_getD_getElem?]at ti tj;unfold ptr at ti tj;simp only[results,hres];simp[go_sem,ti,tj,d6,d7,ThV.v,ThV.cells,ActV.val,ActV.cells]
end Go.Proofs.YteehgedabdchcaaGreat
namespace Go.Proofs.YteehgedabdchcaaGreat
open Go.RowKit Hp
open Go.MuLone
attribute [local go_sem ↓] Go.wp_at_zero Go.wp_at_succ
structure EnV where
 t:Int
 b:Int
 n:Int
 a:ActV
deriving DecidableEq
def qw:List EnV→List Value
 | []=>[]
 | x::l=>.int .i64 x.t::.int .i64 x.b::.int .i64 x.n::.int .i64 x.a.k::.int .i64 x.a.e::.int .i64 x.a.v::qw l
theorem qgs (l:List EnV):∀ u ∈ qw l,u.oneCell'=true:=by
 induction l with
 | nil=>intro u hu;simp[qw]at hu
 | cons x l ih =>
  intro u hu;simp only[qw,List.mem_cons]at hu;rcases hu with rfl|rfl|rfl|rfl|rfl|rfl|hu
  ·rfl
  ·rfl
  ·rfl
  ·rfl
  ·rfl
  ·rfl
  ·exact ih u hu
theorem nr (l:List EnV)(x:EnV):qw (l++[x])=qw l++[.int .i64 x.t,.int .i64 x.b,.int .i64 x.n,.int .i64 x.a.k,.int .i64 x.a.e,.int .i64 x.a.v]:=by
 induction l with
 | nil=>rfl
 | cons y l ih=>simp[qw,ih]
theorem dt:∃ i,Tryz.prog.info? 69=some i∧i.size=6∧i.bytes=48∧i.zero=some (.agg #[.int .i64 0,.int .i64 0,.int .i64 0,.int .i64 0,.int .i64 0,.int .i64 0]):=info_parts (by kernel_rfl)
theorem all_any (b:Nat) (es:List EnV) (v:Value) (w:World) (o:Own) (tg:Tag) (h0:w.cell? ⟨b,3,none⟩=some (.int .i32 0)) (h2:w.cell? ⟨b,5,none⟩=some v) (f0:w.frozen? ⟨b,3,none⟩=false) (hlt:b<w.heap.size)
  (hr:Row w o tg 69 6 v es.length (qw es)) (hn:es.length≤2000) (nb:o b≠tg) :
  Calls Tryz.prog 95 #[.pointer (some ⟨b,3,none⟩)] w fun e w'=>∃ v' w1,e=.returned v'∧Row w1 (fo w.heap.size) (1,0) 69 6 v' es.length (qw es)∧Below w.heap.size (w.setCell ⟨b,3,none⟩ (.int .i32 1)) w1∧w'=w1.setCell ⟨b,3,none⟩ (.int .i32 0):=by
 obtain⟨iU,hi,hsI,hyI,hzI⟩:=dt;have hu64:=Tryz.underlying62;have hr1:=hr.stp (T:=fun u=>u=o b) ((Stp.refl _ o w).setCell (a:=⟨b,3,none⟩) (by show o b=o b;rfl) (.int .i32 1)) (fun e=>nb e.symm)
 obtain⟨n,hnn⟩:∃ n,n=es.length:=⟨_,rfl⟩;rw[←hnn]at hr1 hn ⊢;have HR:=Lib.hid hr1;have hk1:Hid (0+n≤maxLen):=by show 0+n≤_;simp only[maxLen];omega
 have hk2:Hid ((0+n)*48≤140737488355328):=by show (0+n)*48≤_;omega
 obtain⟨pa,cp,rfl⟩:=hr.slc;rw[←hnn]at HR h2;clear hr hr1 hn hnn nb;go_enter_defers Tryz.func95,Tryz.ntmps95;go_wp2_with (first
  | (go_at_call 148;refine (lock_free Tryz.muLib ⟨b,3,none⟩ _ h0 f0).mono ?_;rintro e w' ⟨rfl,rfl⟩)
  | (at_builtin;refine zj _ rfl _ _ _ rfl 69 iU _ 6 48 hu64 hi hzI hsI hyI rfl (by decide) (fo w.heap.size) (1,0) _ 0 [] rfl (Row.nil _ _ _ _ _) _ _ _ n (qw es) rfl HR.out (qgs es) hk1.out hk2.out ?_;intro v' w8 hown hst))
 have hz:w.heap.size=(w.setCell ⟨b,3,none⟩ (.int .i32 1)).heap.size:=by simp
 have hc1:(w.setCell ⟨b,3,none⟩ (.int .i32 1)).cell? ⟨b,3,none⟩=some (.int .i32 1):=World.cell?_setCell_same w ⟨b,3,none⟩ (.int .i32 1) h0;have hf1:(w.setCell ⟨b,3,none⟩ (.int .i32 1)).frozen? ⟨b,3,none⟩=false:=by simp[f0]
 rw[hz]at hown hst hlt;have hr8:=xx (qc _) hown;have hb8:=wn (qc _) hst;simp only[Nat.zero_add,List.nil_append]at hr8;have hc8:w8.cell? ⟨b,3,none⟩=some (.int .i32 1):=by rw[hb8.cell (p:=⟨b,3,none⟩) hlt];exact hc1
 have hf8:w8.frozen? ⟨b,3,none⟩=false:=by
  have e:=hb8.block b hlt;simp only[World.frozen?,e]at hf1 ⊢;exact hf1
 refine leaves_cons (f:=149) (args:=#[.pointer (some ⟨b,3,none⟩)]) (by simp) (by simp[go_sem]) ?_
 refine (unlock_deferred Tryz.muLib ⟨b,3,none⟩ .returning _ hc8 hf8).mono ?_
 rintro e u' w'' ⟨rfl,rfl,rfl⟩
 refine⟨_,results_tmp rfl _ _ _,v',w8,rfl,?_,?_,rfl⟩
 ·rw[hz];exact hr8
 ·rw[hz];exact hb8
end Go.Proofs.YteehgedabdchcaaGreat
namespace Go.Proofs.YteehgedabdchcaaGreat
open Go.RowKit Hp
attribute [local go_sem ↓] Go.wp_at_zero Go.wp_at_succ
theorem run_mk12 (w:World):(Instr.makeSlice 25 (.int .i64 0) (.int .i64 12)).run Tryz.prog w=.ok (.slice (some ⟨w.heap.size,0,none⟩) 0 12) (w.alloc (.cells #[.int .i64 0,.int .i64 0,.int .i64 0,.int .i64 0,.int .i64 0,.int .i64 0,.int .i64 0,.int .i64 0,.int .i64 0,.int .i64 0,.int .i64 0,.int .i64 0] 3)):=by
 obtain⟨iI,hi,hsI,hyI,hzI⟩:=zg;have h:=run_make (P:=Tryz.prog) w 25 3 iI _ Tryz.underlying25 hi hzI .i64 .i64 0 12 (by omega) (by omega) (by rw[hyI];omega) (by omega)
 rw[hsI,show madeCells (Value.int IntKind.i64 0).cells (Int.toNat 12*1)=#[.int .i64 0,.int .i64 0,.int .i64 0,.int .i64 0,.int .i64 0,.int .i64 0,.int .i64 0,.int .i64 0,.int .i64 0,.int .i64 0,.int .i64 0,.int .i64 0] from by kernel_rfl]at h
 exact h
theorem yz {X:World}{b6:Nat}{t6:TypeId}{h:ThV}{v:Value}(fn:Func)(tmps:Array Value)(i j:Nat)(hres:fn.results=#[.cell i 58,.tmp j])(ti:tmps.getD i undef=ptr b6)(tj:tmps.getD j undef=v)
  (j6:Blk X b6 h.cells t6):(results fn tmps).run Tryz.prog X=.ok (.tuple #[h.v,v]) X:=by
 have d6:=j6.cell;unfold ThV.cells at d6;rw[Array.getD_eq_getD_getElem?]at ti tj;unfold ptr at ti;simp only[results,hres];simp[go_sem,ti,tj,d6,ThV.v,ThV.cells]
theorem qew (h:ThV)(w:World):Calls Tryz.prog 150 #[h.v] w fun e w'=>e=.returned (.slice (some ⟨w.heap.size+1,0,none⟩) 12 12) ∧
  Blk w' (w.heap.size+1) #[.int .i64 h.r.a0,.int .i64 h.r.a1,.int .i64 h.r.a2,.int .i64 h.r.a3,.int .i64 h.r.a4,.int .i64 h.r.a5,.int .i64 h.s.a0,.int .i64 h.s.a1,.int .i64 h.s.a2,.int .i64 h.s.a3,.int .i64 h.s.a4,.int .i64 h.s.a5] 3∧Below w.heap.size w w':=by
 have hmk:=run_mk12;obtain⟨hb,hn,⟨a0,a1,a2,a3,a4,a5⟩,⟨s0,s1,s2,s3,s4,s5⟩,hl⟩:=h;show Calls _ _ #[.agg #[.int .i64 hb,.int .i64 hn,.int .i64 a0,.int .i64 a1,.int .i64 a2,.int .i64 a3,.int .i64 a4,.int .i64 a5,.int .i64 s0,.int .i64 s1,.int .i64 s2,.int .i64 s3,.int .i64 s4,.int .i64 s5,.bool hl]] _ _;simp only;go_enter Tryz.func150,Tryz.ntmps150;go_wp2_with fail;refine bodyPost_ret (v:=.slice (some ⟨w.heap.size+1,0,none⟩) 12 12) ?_ rfl ⟨rfl,Blk.new_at _ _ _ _ _ (by simp) rfl,qa (qa (qc w) _) _⟩
 simp[results,Tryz.results150,go_sem]
theorem qkm (W:World)(b o g off c:Nat)(b0 b1 b2 b3 b4 b5:Int)(hc:∀ j,j<6→(W.cell? ⟨b,o+j,none⟩).isSome=true)(hf:∀ j,W.frozen? ⟨b,o+j,none⟩=false)
  (k0:W.cell? ⟨g,off,none⟩=some (.int .i64 b0))(k1:W.cell? ⟨g,off+1,none⟩=some (.int .i64 b1))(k2:W.cell? ⟨g,off+2,none⟩=some (.int .i64 b2))(k3:W.cell? ⟨g,off+3,none⟩=some (.int .i64 b3))(k4:W.cell? ⟨g,off+4,none⟩=some (.int .i64 b4))(k5:W.cell? ⟨g,off+5,none⟩=some (.int .i64 b5)) :
  (Builtin.copy_ #[25,25] 3 #[.slice (some ⟨b,o,none⟩) 6 6,.slice (some ⟨g,off,none⟩) 6 c]).run Tryz.prog W=.ok (.int .i64 6) ((((((W.setCell ⟨b,o+0,none⟩ (.int .i64 b0)).setCell ⟨b,o+1,none⟩ (.int .i64 b1)).setCell ⟨b,o+2,none⟩ (.int .i64 b2)).setCell ⟨b,o+3,none⟩ (.int .i64 b3)).setCell ⟨b,o+4,none⟩ (.int .i64 b4)).setCell ⟨b,o+5,none⟩ (.int .i64 b5)):=by
 obtain⟨iI,hi,hsI,hyI,hzI⟩:=zg;refine (run_copy_cells (P:=Tryz.prog) W 25 25 3 3 b o 6 6 ⟨g,off,none⟩ 6 c [.int .i64 b0,.int .i64 b1,.int .i64 b2,.int .i64 b3,.int .i64 b4,.int .i64 b5] Tryz.underlying25 (by rw[hi];simp[hsI]) rfl (fun j v hj=>?_) (fun j hj=>hc j hj) (fun j _=>hf j) (fun v hv=>?_)).trans ?_
 ·have hadd:(⟨g,off,none⟩:Addr).add j=⟨g,off+j,none⟩:=by unfold Addr.add;split<;>simp_all
  rw[hadd];obtain rfl|rfl|rfl|rfl|rfl|rfl|hq:j=0∨j=1∨j=2∨j=3∨j=4∨j=5∨6≤j:=by omega
  ·exact k0.trans hj
  ·exact k1.trans hj
  ·exact k2.trans hj
  ·exact k3.trans hj
  ·exact k4.trans hj
  ·exact k5.trans hj
  ·rw[List.getElem?_eq_none (by simpa using hq)]at hj;cases hj
 ·simp only[List.mem_cons,List.not_mem_nil,or_false]at hv
  rcases hv with rfl|rfl|rfl|rfl|rfl|rfl<;>rfl
 ·rfl
theorem qhh (h:ThV)(g off c:Nat)(r s:R6)(w:World)(hc:12≤c)(hg:g<w.heap.size)(hl:∀ j,j<12→w.cell? ⟨g,off+j,none⟩=#[Value.int .i64 r.a0,.int .i64 r.a1,.int .i64 r.a2,.int .i64 r.a3,.int .i64 r.a4,.int .i64 r.a5,.int .i64 s.a0,.int .i64 s.a1,.int .i64 s.a2,.int .i64 s.a3,.int .i64 s.a4,.int .i64 s.a5][j]?) :
  Calls Tryz.prog 151 #[h.v,.slice (some ⟨g,off,none⟩) 12 c] w fun e w'=>e=.returned (.tuple #[(ThV.mk h.b h.n r s h.l).v,.bool true])∧Below w.heap.size w w':=by
 obtain⟨hb,hn,⟨a0,a1,a2,a3,a4,a5⟩,⟨s0,s1,s2,s3,s4,s5⟩,hl'⟩:=h;show Calls _ _ #[.agg #[.int .i64 hb,.int .i64 hn,.int .i64 a0,.int .i64 a1,.int .i64 a2,.int .i64 a3,.int .i64 a4,.int .i64 a5,.int .i64 s0,.int .i64 s1,.int .i64 s2,.int .i64 s3,.int .i64 s4,.int .i64 s5,.bool hl'],.slice (some ⟨g,off,none⟩) 12 c] _ _;obtain⟨b0,b1,b2,b3,b4,b5⟩:=r;obtain⟨c0,c1,c2,c3,c4,c5⟩:=s;simp only at hl ⊢;have k0:=hl 0 (by omega)
 have k1:=hl 1 (by omega)
 have k2:=hl 2 (by omega)
 have k3:=hl 3 (by omega)
 have k4:=hl 4 (by omega)
 have k5:=hl 5 (by omega)
 have k6:=hl 6 (by omega)
 have k7:=hl 7 (by omega)
 have k8:=hl 8 (by omega)
 have k9:=hl 9 (by omega)
 have k10:=hl 10 (by omega)
 have k11:=hl 11 (by omega)
 simp at k0 k1 k2 k3 k4 k5 k6 k7 k8 k9 k10 k11;clear hl;have hng:g≠w.heap.size:=by omega
 have hcI:(6:Int)≤(c:Int):=by omega
 have hcJ:(12:Int)≤(c:Int):=by omega
 go_enter Tryz.func151,Tryz.ntmps151;go_upto_region 3 with fail;obtain⟨W,hW⟩:∃ W:World,W=(w.alloc (.cells #[.int .i64 hb,.int .i64 hn,.int .i64 a0,.int .i64 a1,.int .i64 a2,.int .i64 a3,.int .i64 a4,.int .i64 a5,.int .i64 s0,.int .i64 s1,.int .i64 s2,.int .i64 s3,.int .i64 s4,.int .i64 s5,.bool hl'] 58)).alloc (.cells #[.int .i64 0,.int .i64 0,.int .i64 0,.int .i64 0,.int .i64 0,.int .i64 0,.int .i64 0,.int .i64 0,.int .i64 0,.int .i64 0,.int .i64 0,.int .i64 0,.int .i64 0,.int .i64 0,.bool false] 58):=⟨_,rfl⟩;rw[←hW];have j2:Blk W w.heap.size #[.int .i64 hb,.int .i64 hn,.int .i64 a0,.int .i64 a1,.int .i64 a2,.int .i64 a3,.int .i64 a4,.int .i64 a5,.int .i64 s0,.int .i64 s1,.int .i64 s2,.int .i64 s3,.int .i64 s4,.int .i64 s5,.bool hl'] 58:=by rw[hW];exact (Blk.new w _ _).alloc _
 have j4:Blk W (w.heap.size+1) #[.int .i64 0,.int .i64 0,.int .i64 0,.int .i64 0,.int .i64 0,.int .i64 0,.int .i64 0,.int .i64 0,.int .i64 0,.int .i64 0,.int .i64 0,.int .i64 0,.int .i64 0,.int .i64 0,.bool false] 58:=by rw[hW];exact Blk.new_at _ _ _ _ _ (by simp) rfl
 have hbW:Below w.heap.size w W:=by rw[hW];exact qa (qa (qc w) _) _
 have kk:∀ j,j<12→W.cell? ⟨g,off+j,none⟩=w.cell? ⟨g,off+j,none⟩:=fun j _=>hbW.cell (p:=⟨g,off+j,none⟩) hg
 have q0:=(kk 0 (by omega)).trans k0
 have q1:=(kk 1 (by omega)).trans k1
 have q2:=(kk 2 (by omega)).trans k2
 have q3:=(kk 3 (by omega)).trans k3
 have q4:=(kk 4 (by omega)).trans k4
 have q5:=(kk 5 (by omega)).trans k5
 clear hW k0 k1 k2 k3 k4 k5 kk;rw[Nat.add_zero]at q0;have c2:=j2.cell;have z2:=j2.free;have l2:=j2.lt;have hcp:=qkm W.drew w.heap.size 2 g off c b0 b1 b2 b3 b4 b5 (fun j hj=>by
  have e:=c2 (2+j);rw[show W.drew.cell? ⟨w.heap.size,2+j,none⟩=W.cell? ⟨w.heap.size,2+j,none⟩ from rfl,e];obtain rfl|rfl|rfl|rfl|rfl|rfl:j=0∨j=1∨j=2∨j=3∨j=4∨j=5:=by omega
  all_goals rfl) (fun j=>z2 (2+j)) q0 q1 q2 q3 q4 q5
 go_region;obtain⟨X,hX⟩:∃ X:World,X=((((((W.setCell ⟨w.heap.size,2,none⟩ (.int .i64 b0)).setCell ⟨w.heap.size,3,none⟩ (.int .i64 b1)).setCell ⟨w.heap.size,4,none⟩ (.int .i64 b2)).setCell ⟨w.heap.size,5,none⟩ (.int .i64 b3)).setCell ⟨w.heap.size,6,none⟩ (.int .i64 b4)).setCell ⟨w.heap.size,7,none⟩ (.int .i64 b5)).drew:=⟨_,rfl⟩;rw[←hX];have i2:Blk X w.heap.size #[.int .i64 hb,.int .i64 hn,.int .i64 b0,.int .i64 b1,.int .i64 b2,.int .i64 b3,.int .i64 b4,.int .i64 b5,.int .i64 s0,.int .i64 s1,.int .i64 s2,.int .i64 s3,.int .i64 s4,.int .i64 s5,.bool hl'] 58:=by
  rw[hX];have k:=qi ((((((j2.set 2 (.int .i64 b0)).set 3 (.int .i64 b1)).set 4 (.int .i64 b2)).set 5 (.int .i64 b3)).set 6 (.int .i64 b4)).set 7 (.int .i64 b5));simp only[List.setIfInBounds_toArray,List.set_cons_zero,List.set_cons_succ]at k;exact k
 have i4:Blk X (w.heap.size+1) #[.int .i64 0,.int .i64 0,.int .i64 0,.int .i64 0,.int .i64 0,.int .i64 0,.int .i64 0,.int .i64 0,.int .i64 0,.int .i64 0,.int .i64 0,.int .i64 0,.int .i64 0,.int .i64 0,.bool false] 58:=by rw[hX];exact qi ((((((j4.set_other (a:=⟨w.heap.size,2,none⟩) (by show w.heap.size+1≠w.heap.size;omega) (.int .i64 b0)).set_other (a:=⟨w.heap.size,3,none⟩) (by show w.heap.size+1≠w.heap.size;omega) (.int .i64 b1)).set_other (a:=⟨w.heap.size,4,none⟩) (by show w.heap.size+1≠w.heap.size;omega) (.int .i64 b2)).set_other (a:=⟨w.heap.size,5,none⟩) (by show w.heap.size+1≠w.heap.size;omega) (.int .i64 b3)).set_other (a:=⟨w.heap.size,6,none⟩) (by show w.heap.size+1≠w.heap.size;omega) (.int .i64 b4)).set_other (a:=⟨w.heap.size,7,none⟩) (by show w.heap.size+1≠w.heap.size;omega) (.int .i64 b5))
 have hbX:Below w.heap.size w X:=by rw[hX];exact qe (qo (qo (qo (qo (qo (qo hbW (Nat.le_refl _) _) (Nat.le_refl _) _) (Nat.le_refl _) _) (Nat.le_refl _) _) (Nat.le_refl _) _) (Nat.le_refl _) _)
 have kk:∀ j,j<12→X.cell? ⟨g,off+j,none⟩=w.cell? ⟨g,off+j,none⟩:=fun j _=>hbX.cell (p:=⟨g,off+j,none⟩) hg
 have q6:=(kk 6 (by omega)).trans k6
 have q7:=(kk 7 (by omega)).trans k7
 have q8:=(kk 8 (by omega)).trans k8
 have q9:=(kk 9 (by omega)).trans k9
 have q10:=(kk 10 (by omega)).trans k10
 have q11:=(kk 11 (by omega)).trans k11
 clear hX c2 z2 l2 j2 j4 hbW q0 q1 q2 q3 q4 q5 hcp;have d2:=i2.cell;have z2:=i2.free;have l2:=i2.lt;go_upto_region 4 with fail;have hcp:=qkm X.drew w.heap.size 8 g (off+6) (c-6) c0 c1 c2 c3 c4 c5 (fun j hj=>by
  have e:=d2 (8+j);rw[show X.drew.cell? ⟨w.heap.size,8+j,none⟩=X.cell? ⟨w.heap.size,8+j,none⟩ from rfl,e];obtain rfl|rfl|rfl|rfl|rfl|rfl:j=0∨j=1∨j=2∨j=3∨j=4∨j=5:=by omega
  all_goals rfl) (fun j=>z2 (8+j)) q6 q7 q8 q9 q10 q11
 go_region;obtain⟨Y,hY⟩:∃ Y:World,Y=((((((X.setCell ⟨w.heap.size,8,none⟩ (.int .i64 c0)).setCell ⟨w.heap.size,9,none⟩ (.int .i64 c1)).setCell ⟨w.heap.size,10,none⟩ (.int .i64 c2)).setCell ⟨w.heap.size,11,none⟩ (.int .i64 c3)).setCell ⟨w.heap.size,12,none⟩ (.int .i64 c4)).setCell ⟨w.heap.size,13,none⟩ (.int .i64 c5)).drew:=⟨_,rfl⟩;rw[←hY];have m2:Blk Y w.heap.size #[.int .i64 hb,.int .i64 hn,.int .i64 b0,.int .i64 b1,.int .i64 b2,.int .i64 b3,.int .i64 b4,.int .i64 b5,.int .i64 c0,.int .i64 c1,.int .i64 c2,.int .i64 c3,.int .i64 c4,.int .i64 c5,.bool hl'] 58:=by
  rw[hY];have k:=qi ((((((i2.set 8 (.int .i64 c0)).set 9 (.int .i64 c1)).set 10 (.int .i64 c2)).set 11 (.int .i64 c3)).set 12 (.int .i64 c4)).set 13 (.int .i64 c5));simp only[List.setIfInBounds_toArray,List.set_cons_zero,List.set_cons_succ]at k;exact k
 have m4:Blk Y (w.heap.size+1) #[.int .i64 0,.int .i64 0,.int .i64 0,.int .i64 0,.int .i64 0,.int .i64 0,.int .i64 0,.int .i64 0,.int .i64 0,.int .i64 0,.int .i64 0,.int .i64 0,.int .i64 0,.int .i64 0,.bool false] 58:=by rw[hY];exact qi ((((((i4.set_other (a:=⟨w.heap.size,8,none⟩) (by show w.heap.size+1≠w.heap.size;omega) (.int .i64 c0)).set_other (a:=⟨w.heap.size,9,none⟩) (by show w.heap.size+1≠w.heap.size;omega) (.int .i64 c1)).set_other (a:=⟨w.heap.size,10,none⟩) (by show w.heap.size+1≠w.heap.size;omega) (.int .i64 c2)).set_other (a:=⟨w.heap.size,11,none⟩) (by show w.heap.size+1≠w.heap.size;omega) (.int .i64 c3)).set_other (a:=⟨w.heap.size,12,none⟩) (by show w.heap.size+1≠w.heap.size;omega) (.int .i64 c4)).set_other (a:=⟨w.heap.size,13,none⟩) (by show w.heap.size+1≠w.heap.size;omega) (.int .i64 c5))
 have hbY:Below w.heap.size w Y:=by rw[hY];exact qe (qo (qo (qo (qo (qo (qo hbX (Nat.le_refl _) _) (Nat.le_refl _) _) (Nat.le_refl _) _) (Nat.le_refl _) _) (Nat.le_refl _) _) (Nat.le_refl _) _)
 clear hY d2 z2 l2 i2 i4 hbX hcp;have d2:=m2.cell;have d4:=m4.cell;have z4:=m4.free;have l4:=m4.lt;go_wp2_with fail;change bodyPost _ _ _ _ _ (thW Y (w.heap.size+1) ⟨hb,hn,⟨b0,b1,b2,b3,b4,b5⟩,⟨c0,c1,c2,c3,c4,c5⟩,hl'⟩);have hres:=Lib.hid (mj (g:=⟨0,0,⟨0,0,0,0,0,0⟩,⟨0,0,0,0,0,0⟩,false⟩) m4 ⟨hb,hn,⟨b0,b1,b2,b3,b4,b5⟩,⟨c0,c1,c2,c3,c4,c5⟩,hl'⟩);have hrb:=Lib.hid (dd hbY (Nat.le_succ w.heap.size) ⟨hb,hn,⟨b0,b1,b2,b3,b4,b5⟩,⟨c0,c1,c2,c3,c4,c5⟩,hl'⟩);clear d2 d4 z4 l4 m2 m4 hbY;generalize thW Y (w.heap.size+1) ⟨hb,hn,⟨b0,b1,b2,b3,b4,b5⟩,⟨c0,c1,c2,c3,c4,c5⟩,hl'⟩=X at *;exact bodyPost_ret (yz _ _ 4 5 rfl rfl rfl hres.out) rfl ⟨rfl,hrb.out⟩
def Tx.fresh (r u:Nat):Tx:=⟨false,0,0,Lg.fresh r u,[]⟩
def Stt.fresh (n k r u m:Nat):Stt:=⟨Hp.fresh n,0,0,m,List.replicate k (Tx.fresh r u),[],0,-1,0,[],[]⟩
theorem qhb (k r u:Nat):ju (List.replicate k (Tx.fresh r u))=0:=by
 induction k with
 | zero=>rfl
 | succ k ih=>rw[List.replicate_succ,ki,ih];rfl
theorem qgj (k r u:Nat):ks (List.replicate k (Tx.fresh r u))=0:=by
 induction k with
 | zero=>rfl
 | succ k ih=>rw[List.replicate_succ];show 0+ks _=0;rw[ih]
theorem Stt.fresh_ok {n k r u m:Nat}(h1:16≤n)(h2:n≤16384)(k1:1≤k)(k8:k≤8)(hr:r≤200)(hu:u≤200)(hm:m≤1099511627776):(Stt.fresh n k r u m).ok:=by
 have hfx:∀ x ∈ (Stt.fresh n k r u m).txs,x=Tx.fresh r u:=fun x hx=>List.eq_of_mem_replicate hx
 refine⟨Hp.fresh_wf h1 h2,hm,?_,by simpa [Stt.fresh] using k1,by simpa [Stt.fresh] using k8,fun x hx=>?_,fun x hx=>?_,Nat.le_refl _,by simp[Stt.fresh],fun x hx=>(by cases hx),fun x hx=>(by cases hx),?_,by simp[Stt.fresh,Hp.fresh],by simp[Stt.fresh],fun x hx=>?_,?_⟩
 ·show 0+ju (List.replicate k (Tx.fresh r u))≤m
  rw[qhb];omega
 ·rw[hfx x hx]
  exact⟨⟨hr,hu,Nat.zero_le _,Nat.zero_le _,Nat.zero_le _,Nat.zero_le _⟩,fun z hz=>(by cases hz),fun z hz=>(by cases hz),fun z hz=>(by cases hz)⟩
 ·rw[hfx x hx];exact Nat.le_refl _
 ·show 0+ks (List.replicate k (Tx.fresh r u))≤0
  rw[qgj];omega
 ·rw[hfx x hx];exact Nat.le_refl _
 ·exact⟨by simp[Stt.fresh],by simp[Stt.fresh,Hp.fresh]⟩
theorem Stp.strict {T:Tag→Prop}{o o':Own}{w w':World}(h:Stp T o o' w w')(ht:∀ b,b<w.heap.size→¬T (o b)):Stp (fun _=>False) o o' w w':=
 ⟨h.os,h.tape,h.output,h.size,h.tags,fun b hb _=>h.block b hb (ht b hb)⟩
theorem info_tx:∃ i,Tryz.prog.info? 103=some i∧i.size=1∧i.bytes=8∧i.zero=some (.pointer none):=info_parts (by kernel_rfl)
section
variable {w w' : World} {o o' : Own} {y : SLay} {S : Stt}
theorem StIn.more {n k r u m:Nat}(h:StIn w o y (Stt.fresh n k r u m)){v':Value}{lb:Nat}
  (hs:Stp (fun t=>t=(y.l.id,11)∨t=(y.l.id,12)) o o' w w')
  (hb:Blk w' y.sb #[ptr y.l.h,ptr y.cy,ptr y.ck,v',.slice none 0 0,.int .i64 0,.int .i64 (-1),.int .i64 0,.slice none 0 0,.slice none 0 0] 101)
  (hr:Row w' o' (y.l.id,12) 103 1 v' (k+1) (((List.range k).map fun i=>ptr (y.xb i))++[ptr (lb+1)]))
  (jx:Blk w' (lb+1) #[.int .i64 k,.bool false,.int .i64 0,.int .i64 0,ptr lb,.slice none 0 0] 107)
  (jl:Blk w' lb #[.int .i64 r,.int .i64 u,.slice none 0 0,.slice none 0 0,.slice none 0 0,.slice none 0 0] 219)
  (ox:o' (lb+1)=(y.l.id,16+8*k))(ol:o' lb=(y.l.id,17+8*k)) :
  StIn w' o' { y with vth:=v',xb:=fun j=>if j=k then lb+1 else y.xb j,lb:=fun j=>if j=k then lb else y.lb j } (Stt.fresh n (k+1) r u m):=by
 refine⟨⟨.slice none 0 0,.slice none 0 0,.slice none 0 0,hb,⟨Row.nil _ _ _ _ _,Row.nil _ _ _ _ _,Row.nil _ _ _ _ _⟩⟩,h.cy.stp hs (by rw[h.oy];simp),h.hp.stp hs fun j hj=>by simp;omega,h.ck.stp hs (by rw[h.oc];simp),?_,fun i x hx=>?_,(hs.tags _ h.ck.lt).trans h.oc,(hs.tags _ h.lt).trans h.os,(hs.tags _ h.cy.lt).trans h.oy⟩
 ·show Row w' o' (y.l.id,12) _ 1 v' (List.replicate (k+1) (Tx.fresh r u)).length ((List.range (List.replicate (k+1) (Tx.fresh r u)).length).map _)
  rw[List.length_replicate,List.range_succ,List.map_append];have e1:((List.range k).map fun i=>ptr (if i=k then lb+1 else y.xb i))=(List.range k).map fun i=>ptr (y.xb i):=by
   refine List.map_congr_left fun i hi=>?_
   rw[if_neg (by have:=List.mem_range.1 hi;omega)]
  simp only[List.map_cons,List.map_nil,if_true];rw[e1];exact hr
 ·have hx':(List.replicate (k+1) (Tx.fresh r u))[i]?=some x:=hx
  have hi:i<k+1:=by have:=(List.getElem?_eq_some_iff.1 hx').1;simpa using this
  have hxe:x=Tx.fresh r u:=by rw[List.getElem?_replicate,if_pos hi]at hx';injection hx' with hx';exact hx'.symm
  subst hxe;by_cases e:i=k
  ·subst e
   simp only[if_true];exact⟨⟨.slice none 0 0,jx,Row.nil _ _ _ _ _⟩,⟨_,_,_,_,jl,Row.nil _ _ _ _ _,Row.nil _ _ _ _ _,Row.nil _ _ _ _ _,Row.nil _ _ _ _ _,ol⟩,ox⟩
  ·simp only[if_neg e]
   have hk:(List.replicate k (Tx.fresh r u))[i]?=some (Tx.fresh r u):=by rw[List.getElem?_replicate,if_pos (by omega)]
   exact (h.txs i _ hk).stp hs fun j hj=>by simp;omega
theorem new_in (n k r u:Nat)(m:Int)(h1:16≤n)(h2:n≤16384)(k1:1≤k)(k8:k≤8)(hr:r≤200)(hu:u≤200)(o:Own)(id:Nat)(w:World)(hfree:∀ b,b<w.heap.size→(o b).1≠id) :
  Calls Tryz.prog 46 #[.int .i64 n,.int .i64 k,.int .i64 r,.int .i64 u,.int .i64 m] w fun e w'=>∃ y o',e=.returned (.tuple #[ptr y.sb,.int .i64 0])∧y.l.id=id ∧
   StIn w' o' y (Stt.fresh n k r u (bnd m).toNat)∧Stp (fun _=>False) o o' w w':=by
 have HN:=Lib.hid (fun w=>hnew_any n h1 h2 o id w)
 have HF:=Lib.hid hfree;clear hfree;have HC:=Lib.hid (fun b w=>qmk b w)
 have HK:=Lib.hid (fun w=>clk_new m w)
 have HL:=Lib.hid (fun w=>log_new r u hr hu w)
 have hb0:0≤bnd m:=by unfold bnd;omega
 have hb1:bnd m=((bnd m).toNat:Int):=by omega
 rw[hb1]at HK;generalize (bnd m).toNat=M at *;clear hb0 hb1 hr hu h1 h2;have hu64:=Tryz.underlying98;have kI1:(1:Int)≤(k:Int):=by omega
 have kI8:(k:Int)≤8:=by omega
 go_enter Tryz.func46,Tryz.ntmps46;go_wp2_with fail;refine (HN.out _).mono ?_
 rintro e w1 ⟨h,a,wd,o1,rfl,hH,hs1,hle,hid⟩
 go_wp2_with fail;refine (HC.out _ _).mono ?_
 rintro e w2 ⟨rfl,hw2⟩
 have hb2:Below w1.heap.size w1 w2:=by rw[hw2];exact qa (qc w1) _
 have jY0:Blk w2 w1.heap.size #[ptr h,.nilFunc,.slice none 0 0,.slice none 0 0] 201:=by rw[hw2];exact Blk.new w1 _ _
 have hz2:w1.heap.size<w2.heap.size:=by rw[hw2];simp
 clear hw2;go_wp2_with fail;refine (HK.out _).mono ?_
 rintro e w3 ⟨rfl,rfl⟩
 obtain⟨W,hW⟩:∃ W:World,W=(w2.alloc (.cells #[.int .i64 0,.int .i64 M] 193)).alloc (.cells #[ptr h,ptr w1.heap.size,ptr w2.heap.size,.slice none 0 0,.slice none 0 0,.int .i64 0,.int .i64 (-1),.int .i64 0,.slice none 0 0,.slice none 0 0] 101):=⟨_,rfl⟩;have hb3:Below w1.heap.size w1 W:=by rw[hW];exact qa (qa hb2 _) _
 have jC:Blk W w2.heap.size #[.int .i64 0,.int .i64 M] 193:=by rw[hW];exact (Blk.new w2 _ _).alloc _
 have jB:Blk W (w2.heap.size+1) #[ptr h,ptr w1.heap.size,ptr w2.heap.size,.slice none 0 0,.slice none 0 0,.int .i64 0,.int .i64 (-1),.int .i64 0,.slice none 0 0,.slice none 0 0] 101:=by rw[hW];exact Blk.new_at _ _ _ _ _ (by simp) rfl
 have jY:Blk W w1.heap.size #[ptr h,.nilFunc,.slice none 0 0,.slice none 0 0] 201:=by rw[hW];exact (jY0.alloc _).alloc _
 have hz12:w1.heap.size≤w2.heap.size:=hb2.size;obtain⟨o2,ho2⟩:∃ o2:Own,o2=fun b=>if b=w2.heap.size then (id,10) else if b=w2.heap.size+1 then (id,11) else if b=w1.heap.size then (id,7) else o1 b:=⟨_,rfl⟩
 have hext:∀ b,b<w1.heap.size→o2 b=o1 b:=fun b hb=>by rw[ho2];show (if _ then _ else _)=_;rw[if_neg (by omega),if_neg (by omega),if_neg (by omega)]
 have oC:o2 w2.heap.size=(id,10):=by rw[ho2];exact if_pos rfl
 have oB:o2 (w2.heap.size+1)=(id,11):=by rw[ho2];show (if _ then _ else _)=_;rw[if_neg (by omega),if_pos rfl]
 have oY:o2 w1.heap.size=(id,7):=by rw[ho2];show (if _ then _ else _)=_;rw[if_neg (by omega),if_neg (by omega),if_pos rfl]
 have hs2:Stp (fun _=>False) o1 o2 w1 W:=⟨hb3.os,hb3.tape,hb3.output,hb3.size,hext,fun b hb _=>hb3.block b hb⟩
 have hS0:StIn W o2 ⟨w2.heap.size+1,⟨id,h,a,wd⟩,w1.heap.size,w2.heap.size,.slice none 0 0,fun _=>0,fun _=>0⟩ (Stt.fresh n 0 r u M):=
  ⟨⟨.slice none 0 0,.slice none 0 0,.slice none 0 0,jB,⟨Row.nil _ _ _ _ _,Row.nil _ _ _ _ _,Row.nil _ _ _ _ _⟩⟩,jY,⟨_,_,_,_,_,hH.stp hs2 fun _ _ h=>h⟩,jC,Row.nil _ _ _ _ _,fun i x hx=>(by cases hx),oC,oB,oY⟩
 have hs3:Stp (fun t=>t.1=id) o o2 w W:=(hs1.trans hs2).mono (fun _ h=>h.elim)
 have HS0:=Lib.hid hS0;have HS3:=Lib.hid hs3;clear hH hs1 hle hid hb2 hb3 jC jY jY0 hz2 hext oC oB oY hs2 hS0 hs3 ho2;go_wp2_with fail;rw[←hW];obtain⟨sb,hsb⟩:∃ sb,sb=w2.heap.size+1:=⟨_,rfl⟩;rw[←hsb]at HS0 jB ⊢;obtain⟨cy,hcy⟩:∃ cy,cy=w1.heap.size:=⟨_,rfl⟩;obtain⟨ck,hck⟩:∃ ck,ck=w2.heap.size:=⟨_,rfl⟩;rw[←hcy,←hck]at HS0 jB;have HJB:=Lib.hid jB;clear hW hsb hz12 hcy hck jB;go_loopw [37] (fun ix wr=>∃ (q:Nat)(v:Value)(xb lb:Nat→Nat)(oo:Own),ix=.int .i64 q∧q≤k∧StIn wr oo ⟨sb,⟨id,h,a,wd⟩,cy,ck,v,xb,lb⟩ (Stt.fresh n q r u M)∧Blk wr sb #[ptr h,ptr cy,ptr ck,v,.slice none 0 0,.int .i64 0,.int .i64 (-1),.int .i64 0,.slice none 0 0,.slice none 0 0] 101∧Stp (fun t=>t.1=id) o oo w wr) (fun ix _=>k-(intOf ix).toNat)
 case atStart=>exact⟨0,_,_,_,_,rfl,by omega,HS0.out,HJB.out,HS3.out⟩
 case round =>
  obtain⟨q,v,xb,lb,oo,rfl,hqk,hS,hB,hs⟩:=hrel;clear HS0 HS3 HJB;by_cases hlt:q<k
  ·have qI:(q:Int)<(k:Int):=by omega
   have hH:=Lib.hid hS;have hBH:=Lib.hid hB;have hsH:=Lib.hid hs;obtain⟨wo,rfl⟩:∃ wo:World,wo=wr:=⟨_,rfl⟩;have thr:=hS.thr;have hqz:(Stt.fresh n q r u M).txs.length=q:=List.length_replicate;rw[hqz]at thr;simp only at thr;clear hqz hS hs hqk;obtain⟨pa,cp,rfl⟩:=thr.slc;have c:=hB.cell;have sB:=hB.lt;obtain⟨z,hz⟩:∃ z,z=wo.heap.size:=⟨_,rfl⟩;have HL2:=Lib.hid (show Calls Tryz.prog 104 #[.int .i64 r,.int .i64 u] wo.drew fun e w'=>e=.returned (ptr z)∧Blk w' z #[.int .i64 r,.int .i64 u,.slice none 0 0,.slice none 0 0,.slice none 0 0,.slice none 0 0] 219∧Below wo.heap.size wo w'∧w'.heap.size=z+1 from by
    rw[hz];exact (HL.out wo.drew).mono fun e w' ⟨h1,h2,h3,h4⟩=>⟨h1,h2,qd (qe (qc wo)) h3,h4⟩)
   obtain⟨op,hop⟩:∃ op:Own,op=fun b=>if b=z then (id,17+8*q) else if b=z+1 then (id,16+8*q) else if b<z then oo b else (id+1,0):=⟨_,rfl⟩
   have opl:∀ b,b<wo.heap.size→op b=oo b:=fun b hb=>by rw[hop];show (if _ then _ else _)=_;rw[if_neg (by omega),if_neg (by omega),if_pos (by omega)]
   have opz:op z=(id,17+8*q):=by rw[hop];exact if_pos rfl
   have opz1:op (z+1)=(id,16+8*q):=by rw[hop];show (if _ then _ else _)=_;rw[if_neg (by omega),if_pos rfl]
   have thr2:=thr.retag opl;obtain⟨iT,hi,hsI,hyI,hzI⟩:=info_tx;have hml:q+1≤maxLen:=by simp only[maxLen];omega
   have hmb:(q+1)*8≤140737488355328:=by omega
   have sbz:sb<z:=by rw[hz];exact sB
   have HZ:=Lib.hid hz;have hone:∀ u ∈ [ptr (z+1)],u.oneCell'=true:=by intro u hu;simp at hu;subst hu;rfl
   have hfin:=Lib.hid (fun (w3 w4:World)(o4:Own)(v':Value)(jl:Blk w3 z #[.int .i64 r,.int .i64 u,.slice none 0 0,.slice none 0 0,.slice none 0 0,.slice none 0 0] 219)(hbl:Below wo.heap.size wo w3)(hz3:w3.heap.size=z+1)
     (hown:Row w4 o4 (id,12) 103 1 v' (q+1) (((List.range q).map fun i=>ptr (xb i))++[ptr (z+1)]))
     (hst:Stp (fun t=>t=(id,12)) op o4 ((w3.alloc (.cells #[.int .i64 q,.bool false,.int .i64 0,.int .i64 0,ptr z,.slice none 0 0] 107)).alloc (.cells #[ptr (z+1)] 103)) w4) =>
    show ∃ (xb lb:Nat→Nat)(oo:Own),StIn (w4.setCell ⟨sb,3,none⟩ v') oo ⟨sb,⟨id,h,a,wd⟩,cy,ck,v',xb,lb⟩ (Stt.fresh n (q+1) r u M)∧Blk (w4.setCell ⟨sb,3,none⟩ v') sb #[ptr h,ptr cy,ptr ck,v',.slice none 0 0,.int .i64 0,.int .i64 (-1),.int .i64 0,.slice none 0 0,.slice none 0 0] 101∧Stp (fun t=>t.1=id) o oo w (w4.setCell ⟨sb,3,none⟩ v') from by
     have hz:=HZ.out;have e0:op sb=(id,11):=(opl _ (by omega)).trans hH.out.os
     have k1:Below wo.heap.size wo ((w3.alloc (.cells #[.int .i64 q,.bool false,.int .i64 0,.int .i64 0,ptr z,.slice none 0 0] 107)).alloc (.cells #[ptr (z+1)] 103)):=qa (qa hbl _) _;have k2:Stp (fun _=>False) oo op wo ((w3.alloc (.cells #[.int .i64 q,.bool false,.int .i64 0,.int .i64 0,ptr z,.slice none 0 0] 107)).alloc (.cells #[ptr (z+1)] 103)):=⟨k1.os,k1.tape,k1.output,k1.size,opl,fun b hb _=>k1.block b hb⟩
     have jX:Blk ((w3.alloc (.cells #[.int .i64 q,.bool false,.int .i64 0,.int .i64 0,ptr z,.slice none 0 0] 107)).alloc (.cells #[ptr (z+1)] 103)) (z+1) #[.int .i64 q,.bool false,.int .i64 0,.int .i64 0,ptr z,.slice none 0 0] 107:=(Blk.new_at _ _ _ _ _ hz3.symm rfl).alloc _;have jL:=(jl.alloc (.cells #[.int .i64 q,.bool false,.int .i64 0,.int .i64 0,ptr z,.slice none 0 0] 107)).alloc (.cells #[ptr (z+1)] 103);have jS:=(hBH.out.below k1 (by omega)).stp hst (by rw[e0];simp)
     have e4:o4 sb=(id,11):=(hst.tags _ (hBH.out.below k1 (by omega)).lt).trans e0
     have k3:Stp (fun t=>t=(id,11)) o4 o4 w4 (w4.setCell ⟨sb,3,none⟩ v'):=(Stp.refl _ o4 w4).setCell (by show o4 sb=_;exact e4) _
     have k4:Stp (fun t=>t=(id,11)∨t=(id,12)) oo o4 wo (w4.setCell ⟨sb,3,none⟩ v'):=(k2.mono fun _ h=>h.elim).trans ((hst.mono fun _ h=>Or.inr h).trans (k3.mono fun _ h=>Or.inl h))
     have jS3:Blk (w4.setCell ⟨sb,3,none⟩ v') sb #[ptr h,ptr cy,ptr ck,v',.slice none 0 0,.int .i64 0,.int .i64 (-1),.int .i64 0,.slice none 0 0,.slice none 0 0] 101:=jS.set 3 v';refine⟨_,_,o4,hH.out.more k4 jS3 (hown.stp k3 (by simp)) ((jX.stp hst (by rw[opz1];simp;omega)).set_other (by show z+1≠sb;omega) _) ((jL.stp hst (by rw[opz];simp;omega)).set_other (by show z≠sb;omega) _) ?_ ?_,jS3,hsH.out.trans (k4.mono (by rintro _ (rfl|rfl)<;>rfl))⟩
     ·exact (hst.tags _ jX.lt).trans opz1
     ·exact (hst.tags _ jL.lt).trans opz)
   clear hz opz opz1 hop thr;go_upto_region 10 with fail;go_region_law (first
    | (refine zi _ (by rfl) _ _ _ (by rfl) 103 iT _ 1 8 hu64 hi hzI hsI hyI (by rfl) (by decide) op (id,12) _ _ _ (by rfl) rn ⟨z+1+1,0,none⟩ 1 1 [ptr (z+1)] (by rfl) (by rfl) (qx jn) hone hml hmb ?_;intro v' w4 hown hst;obtain⟨pa',cp',rfl⟩:=hown.slc;have jX:=(jB3.alloc _).alloc _ |>.stp hst (by rw[opl _ sB,hH.out.os];simp);have cX:=jX.cell;have zX:=jX.free;have sX:=jX.lt)
    | (go_simp;go_wp2_with ((go_at_call 104;refine HL2.out.mono ?_;rintro e w3 ⟨rfl,jl,hbl,hz3⟩;have jB3:=hB.below hbl sB;have cB3:=jB3.cell;have sB3:=jB3.lt;have cA3:=(jB3.alloc (.cells #[.int .i64 q,.bool false,.int .i64 0,.int .i64 0,ptr z,.slice none 0 0] 107)).cell;have cD3:=((jB3.alloc (.cells #[.int .i64 q,.bool false,.int .i64 0,.int .i64 0,ptr z,.slice none 0 0] 107)).alloc (.cells #[ptr (z+1)] 103)).cell;have rn:=((thr2.below (w':=w3) hbl).below (qa (qc w3) (.cells #[.int .i64 q,.bool false,.int .i64 0,.int .i64 0,ptr z,.slice none 0 0] 107))).below (qa (qc _) (.cells #[ptr (z+1)] 103));have jn:=Blk.new_at (w3.alloc (.cells #[.int .i64 q,.bool false,.int .i64 0,.int .i64 0,ptr z,.slice none 0 0] 107)) #[ptr (z+1)] #[ptr (z+1)] 103 (z+1+1) (by rw[World.size_alloc,hz3]) rfl))))
   all_goals
    obtain⟨xb',lb',oo',hS',hB',hs'⟩:=hfin.out _ _ _ _ jl hbl hz3 hown hst;go_wp2_with fail;go_roundw
    case rel=>exact⟨q+1,_,xb',lb',oo',by simp,by omega,hS',hB',hs'⟩
    case measure=>simp[intOf];omega
  ·obtain rfl:q=k:=by omega
   clear hlt;go_wp2_with fail;go_ret2;exact⟨_,oo,rfl,rfl,hS,hs.strict HF.out⟩
end
end Go.Proofs.YteehgedabdchcaaGreat
namespace Go.Proofs.YteehgedabdchcaaGreat
open Go.RowKit Hp
open Go.MuLone
attribute [local go_sem ↓] Go.wp_at_zero Go.wp_at_succ
def EnV.val (x:EnV):Value:=.agg #[.int .i64 x.t,.int .i64 x.b,.int .i64 x.n,.int .i64 x.a.k,.int .i64 x.a.e,.int .i64 x.a.v]
theorem qh5 (b n cp:Nat) (pa:Option Addr) (x:EnV) (w:World) (h0:w.cell? ⟨b,3,none⟩=some (.int .i32 0)) (h2:w.cell? ⟨b,5,none⟩=some (.slice pa n cp)) (f0:w.frozen? ⟨b,3,none⟩=false) (hlt:b<w.heap.size) (hn:2000≤n) :
  Calls Tryz.prog 91 #[.pointer (some ⟨b,3,none⟩),x.val] w fun e w'=>e=.returned (.tuple #[])∧∃ X,w'=((w.setCell ⟨b,3,none⟩ (.int .i32 1)).alloc X).setCell ⟨b,3,none⟩ (.int .i32 0):=by
 obtain⟨xt,xb,xn,⟨xk,xe,xv⟩⟩:=x;show Calls _ _ #[.pointer (some ⟨b,3,none⟩),.agg #[.int .i64 xt,.int .i64 xb,.int .i64 xn,.int .i64 xk,.int .i64 xe,.int .i64 xv]] _ _;obtain⟨W,hW⟩:∃ W:World,W=w.alloc (.cells #[.int .i64 xt,.int .i64 xb,.int .i64 xn,.int .i64 xk,.int .i64 xe,.int .i64 xv] 69):=⟨_,rfl⟩;have hb:Below w.heap.size w W:=by rw[hW];exact qa (qc w) _
 have c0:W.cell? ⟨b,3,none⟩=some (.int .i32 0):=by rw[hb.cell (p:=⟨b,3,none⟩) hlt];exact h0
 have c2:W.cell? ⟨b,5,none⟩=some (.slice pa n cp):=by rw[hb.cell (p:=⟨b,5,none⟩) hlt];exact h2
 have fW:W.frozen? ⟨b,3,none⟩=false:=by
  have e:=hb.block b hlt;simp only[World.frozen?,e]at f0 ⊢;exact f0
 have hnI:¬(n:Int)<2000:=by omega
 have a0:(w.alloc (.cells #[.int .i64 xt,.int .i64 xb,.int .i64 xn,.int .i64 xk,.int .i64 xe,.int .i64 xv] 69)).cell? ⟨b,5,none⟩=some (.slice pa n cp):=by rw[←hW];exact c2
 go_enter_defers Tryz.func91,Tryz.ntmps91;go_wp2_with (first
  | (go_at_call 148;rw[←hW];refine (lock_free Tryz.muLib ⟨b,3,none⟩ _ c0 fW).mono ?_;rintro e w' ⟨rfl,rfl⟩))
 have hlt1:b<(w.setCell ⟨b,3,none⟩ (.int .i32 1)).heap.size:=by simpa using hlt
 have hba:=qa (qc (w.setCell ⟨b,3,none⟩ (.int .i32 1))) (.cells #[.int .i64 xt,.int .i64 xb,.int .i64 xn,.int .i64 xk,.int .i64 xe,.int .i64 xv] 69);have hc1:=(hba.cell (p:=⟨b,3,none⟩) hlt1).trans (World.cell?_setCell_same w ⟨b,3,none⟩ (.int .i32 1) h0);have hf0:(w.setCell ⟨b,3,none⟩ (.int .i32 1)).frozen? ⟨b,3,none⟩=false:=by simp[f0]
 have hf1:((w.setCell ⟨b,3,none⟩ (.int .i32 1)).alloc (.cells #[.int .i64 xt,.int .i64 xb,.int .i64 xn,.int .i64 xk,.int .i64 xe,.int .i64 xv] 69)).frozen? ⟨b,3,none⟩=false:=by
  have e:=hba.block b hlt1;simp only[World.frozen?,e]at hf0 ⊢;exact hf0
 refine leaves_cons (f:=149) (args:=#[.pointer (some ⟨b,3,none⟩)]) (by simp) (by simp[go_sem]) ?_
 refine (unlock_deferred Tryz.muLib ⟨b,3,none⟩ .returning _ hc1 hf1).mono ?_
 rintro e u' w'' ⟨rfl,rfl,rfl⟩
 exact⟨.tuple #[],by simp[results,Tryz.results91,go_sem],rfl,_,rfl⟩
end Go.Proofs.YteehgedabdchcaaGreat
namespace Go.Proofs.YteehgedabdchcaaGreat
open Go.RowKit Hp
attribute [local go_sem ↓] Go.wp_at_zero Go.wp_at_succ
section
variable {w w' : World} {o o' : Own} {y : SLay} {S : Stt} {i : Nat}
structure StCy (w:World)(o:Own)(y:SLay)(S:Stt)(vr vs:Value)(rd ls:List Nat):Prop where
 blk:∃ vq vl vm,Blk w y.sb (qk y S vq vl vm) 101∧StRows w o y.l.id S vq vl vm
 cb:Blk w y.cy #[ptr y.l.h,phF y.cy S.ph,vr,vs] 201
 cr:Row w o (y.l.id,8) 3 1 vr rd.length (rd.map nv)
 cl:Row w o (y.l.id,9) 3 1 vs ls.length (ls.map nv)
 oy:o y.cy=(y.l.id,7)
 hp:HpAt w o y.l S.H
 ck:Blk w y.ck #[.int .i64 S.now,.int .i64 S.most] 193
 thr:Row w o (y.l.id,12) 103 1 y.vth S.txs.length ((List.range S.txs.length).map fun i=>ptr (y.xb i))
 txs:∀ i x,S.txs[i]?=some x→TxIn w o y.l.id i (y.xb i) (y.lb i) x
 oc:o y.ck=(y.l.id,10)
 os:o y.sb=(y.l.id,11)
theorem StIn.open' (h:StIn w o y S):StCy w o y S (.slice none 0 0) (.slice none 0 0) [] []:=⟨h.blk,h.cy,Row.nil _ _ _ _ _,Row.nil _ _ _ _ _,h.oy,h.hp,h.ck,h.thr,h.txs,h.oc,h.os⟩
theorem StCy.close (h:StCy w o y S (.slice none 0 0) (.slice none 0 0) [] []):StIn w o y S:=⟨h.blk,h.cb,h.hp,h.ck,h.thr,h.txs,h.oc,h.os,h.oy⟩
theorem StCy.lt {vr vs:Value}{rd ls:List Nat}(h:StCy w o y S vr vs rd ls):y.sb<w.heap.size:=by obtain⟨_,_,_,hb,_⟩:=h.blk;exact hb.lt
theorem StCy.cyc {vr vs vr' vs':Value}{rd ls rd' ls':List Nat}(h:StCy w o y S vr vs rd ls){H':Hp}{n:Nat}(hH:HpAt w' o' y.l H')(hb':Blk w' y.cy #[ptr y.l.h,phF y.cy n,vr',vs'] 201)(hr1:Row w' o' (y.l.id,8) 3 1 vr' rd'.length (rd'.map nv))(hr2:Row w' o' (y.l.id,9) 3 1 vs' ls'.length (ls'.map nv))(hs:Stp (cyT y.l) o o' w w'):StCy w' o' y { S with H:=H',ph:=n } vr' vs' rd' ls':=by
 obtain⟨vq,vl,vm,hb,hr⟩:=h.blk;have hn:∀ j,10≤j→¬cyT y.l (y.l.id,j):=fun j hj e=>by have:=e.2;simp only at this;omega
 have hr':=hr.stp hs fun j _ _=>hn j (by omega)
 exact⟨⟨vq,vl,vm,hb.stp hs (by rw[h.os];exact hn _ (by omega)),hr'.1,hr'.2,hr'.3⟩,hb',hr1,hr2,(hs.tags _ h.cb.lt).trans h.oy,hH,h.ck.stp hs (by rw[h.oc];exact hn _ (by omega)),h.thr.stp hs (hn _ (by omega)),fun i x hx=>(h.txs i x hx).stp hs fun j _=>hn _ (by omega),(hs.tags _ h.ck.lt).trans h.oc,(hs.tags _ h.lt).trans h.os⟩
theorem StCy.cyb {vr vs vr' vs':Value}{rd ls rd' ls':List Nat}(h:StCy w o y S vr vs rd ls)(hb':Blk w' y.cy #[ptr y.l.h,phF y.cy S.ph,vr',vs'] 201)(hr1:Row w' o' (y.l.id,8) 3 1 vr' rd'.length (rd'.map nv))(hr2:Row w' o' (y.l.id,9) 3 1 vs' ls'.length (ls'.map nv))(hs:Stp (fun t=>t=(y.l.id,7)) o o' w w'):StCy w' o' y S vr' vs' rd' ls':=
 h.cyc (h.hp.stp hs fun j hj=>by simp;omega) hb' hr1 hr2 (hs.mono (by rintro _ rfl;exact⟨rfl,.inl (Nat.le_refl _)⟩))
theorem StCy.below {vr vs:Value}{rd ls:List Nat}(h:StCy w o y S vr vs rd ls)(hb:Below w.heap.size w w'):StCy w' o y S vr vs rd ls:=by
 have hs:Stp (fun _=>False) o o w w':=Stp.of_below hb
 obtain⟨vq,vl,vm,hbk,hr⟩:=h.blk;exact⟨⟨vq,vl,vm,hbk.below hb hbk.lt,hr.stp hs fun _ _ _ h=>h⟩,h.cb.below hb h.cb.lt,h.cr.below hb,h.cl.below hb,h.oy,h.hp.stp hs fun _ _ h=>h,h.ck.below hb h.ck.lt,h.thr.stp hs fun h=>h,fun i x hx=>(h.txs i x hx).stp hs fun _ _ h=>h,h.oc,h.os⟩
theorem StCy.own {vr vs:Value}{rd ls:List Nat}(h:StCy w o y S vr vs rd ls){S':Stt}(e1:S'.H=S.H)(e2:S'.ph=S.ph)(e3:S'.now=S.now)(e4:S'.most=S.most)(e5:S'.txs=S.txs)
  {vq vl vm:Value}(hb:Blk w' y.sb (qk y S' vq vl vm) 101)(hr:StRows w' o' y.l.id S' vq vl vm)(hs:Stp (jr y) o o' w w'):StCy w' o' y S' vr vs rd ls:=by
 have hn:∀ j,j≠11→j≠13→j≠14→j≠15→¬jr y (y.l.id,j):=fun j a b c d=>fc a b c d
 exact⟨⟨vq,vl,vm,hb,hr⟩,by rw[e2];exact h.cb.stp hs (by rw[h.oy];exact hn _ (by omega) (by omega) (by omega) (by omega)),h.cr.stp hs (hn _ (by omega) (by omega) (by omega) (by omega)),h.cl.stp hs (hn _ (by omega) (by omega) (by omega) (by omega)),(hs.tags _ h.cb.lt).trans h.oy,by rw[e1];exact h.hp.stp hs fun j hj=>hn _ (by omega) (by omega) (by omega) (by omega),
  by rw[e3,e4];exact h.ck.stp hs (by rw[h.oc];exact hn _ (by omega) (by omega) (by omega) (by omega)),by rw[e5];exact h.thr.stp hs (hn _ (by omega) (by omega) (by omega) (by omega)),fun i x hx=>(h.txs i x (by rw[←e5];exact hx)).stp hs fun j _=>hn _ (by omega) (by omega) (by omega) (by omega),
  (hs.tags _ h.ck.lt).trans h.oc,(hs.tags _ h.lt).trans h.os⟩
end
end Go.Proofs.YteehgedabdchcaaGreat
