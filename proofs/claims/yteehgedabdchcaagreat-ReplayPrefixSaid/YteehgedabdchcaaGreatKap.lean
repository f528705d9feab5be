import Derived.Test.YteehgedabdchcaaGreatKaf
import Derived.Test.YteehgedabdchcaaGreatKao
import Derived.Defers
import Derived.Laws.CopyRow
import Derived.Shelf.Spec.SlicesGrow
import Derived.Sort.CutIn
import Derived.Stop.RegionWithIn
import Derived.Conc.MuLone
set_option linter.all false
set_option maxRecDepth 1000000
set_option maxHeartbeats 0
open Go renaming World->Aa,Calls->Ab,Value->Ac
open Go.RowKit renaming Below->Ae
open Go.Value renaming int->I,pointer->Ag,tuple->Aj,agg->Ak
open Go.IntKind renaming i64->Z
open Go.Ending renaming returned->O
open List renaming setIfInBounds_toArray->Ad,set_cons_zero->Ai,set_cons_succ->aa
open Go.Proofs.Tryz
namespace Go.Proofs.YteehgedabdchcaaGreat
section
open Go.RowKit Hp
attribute [local go_sem ↓] Go.wp_at_zero Go.wp_at_succ
structure R6 where
 a0:Int
 a1:Int
 a2:Int
 a3:Int
 a4:Int
 a5:Int
deriving DecidableEq
structure AE where
 b:Int
 n:Int
 r:R6
 s:R6
 l:Bool
deriving DecidableEq
def AE.cells (h:AE):Array Ac:=#[I Z h.b,I Z h.n,I Z h.r.a0,I Z h.r.a1,I Z h.r.a2,I Z h.r.a3,I Z h.r.a4,I Z h.r.a5,I Z h.s.a0,I Z h.s.a1,I Z h.s.a2,I Z h.s.a3,I Z h.s.a4,I Z h.s.a5,.bool h.l]
def AE.v (h:AE):Ac:=.agg h.cells
structure A0 where
 k:Int
 e:Int
 v:Int
deriving DecidableEq
def A0.cells (a:A0):Array Ac:=#[I Z a.k,I Z a.e,I Z a.v]
def A0.val (a:A0):Ac:=.agg a.cells
def AE.back (h:AE):AE:=⟨h.b,0,h.s,h.s,false⟩
def Tv (h:AE)(w:Aa):Ab Tryz.prog 212 #[h.v] w fun e w'=>e=O h.back.v/\Ae w.1.size w w':=by
 obtain⟨hb,hn,⟨a0,a1,a2,a3,a4,a5⟩,⟨s0,s1,s2,s3,s4,s5⟩,hl⟩:=h;show Ab _ _ #[Ak #[I Z hb,I Z hn,I Z a0,I Z a1,I Z a2,I Z a3,I Z a4,I Z a5,I Z s0,I Z s1,I Z s2,I Z s3,I Z s4,I Z s5,.bool hl]] _ _;go_enter func212,ntmps212;go_wp2_with fail;obtain⟨W,hW⟩:=Ja0 ((w.alloc (.cells #[I Z hb,I Z 0,I Z s0,I Z s1,I Z s2,I Z s3,I Z s4,I Z s5,I Z s0,I Z s1,I Z s2,I Z s3,I Z s4,I Z s5,.bool false] 58)).alloc (.cells #[I Z hb,I Z 0,I Z s0,I Z s1,I Z s2,I Z s3,I Z s4,I Z s5,I Z s0,I Z s1,I Z s2,I Z s3,I Z s4,I Z s5,.bool false] 58));rw[<-hW];have j8:Al W (w.1.size+1) #[I Z hb,I Z 0,I Z s0,I Z s1,I Z s2,I Z s3,I Z s4,I Z s5,I Z s0,I Z s1,I Z s2,I Z s3,I Z s4,I Z s5,.bool false] 58:=by rw[hW];exact Al.Ap _ _ _ _ _ (by simp) rfl
 have hbl:Ae w.1.size w W:=by rw[hW];exact qc (qc (qd w) _) _
 clear hW;have c8:=j8.cell;refine bodyPost_ret (v:=AE.v ⟨hb,0,⟨s0,s1,s2,s3,s4,s5⟩,⟨s0,s1,s2,s3,s4,s5⟩,false⟩) ?_ rfl ⟨rfl,hbl⟩;simp[results,results212,go_sem,c8,AE.v,AE.cells]
def jy (W:Aa)(b6 b7:Nat)(h:AE)(a:A0):Aa:=((((((((((((((((((W.setCell ⟨b6,0,none⟩ (I Z h.b)).setCell ⟨b6,1,none⟩ (I Z h.n)).setCell ⟨b6,2,none⟩ (I Z h.r.a0)).setCell ⟨b6,3,none⟩ (I Z h.r.a1)).setCell ⟨b6,4,none⟩ (I Z h.r.a2)).setCell ⟨b6,5,none⟩ (I Z h.r.a3)).setCell ⟨b6,6,none⟩ (I Z h.r.a4)).setCell ⟨b6,7,none⟩ (I Z h.r.a5)).setCell ⟨b6,8,none⟩ (I Z h.s.a0)).setCell ⟨b6,9,none⟩ (I Z h.s.a1)).setCell ⟨b6,10,none⟩ (I Z h.s.a2)).setCell ⟨b6,11,none⟩ (I Z h.s.a3)).setCell ⟨b6,12,none⟩ (I Z h.s.a4)).setCell ⟨b6,13,none⟩ (I Z h.s.a5)).setCell ⟨b6,14,none⟩ (.bool h.l)).setCell ⟨b7,0,none⟩ (I Z a.k)).setCell ⟨b7,1,none⟩ (I Z a.e)).setCell ⟨b7,2,none⟩ (I Z a.v))
def T6:Array Ac:=#[I Z 0,I Z 0,I Z 0,I Z 0,I Z 0,I Z 0,I Z 0,I Z 0,I Z 0,I Z 0,I Z 0,I Z 0,I Z 0,I Z 0,.bool false]
def EN:Array Ac:=#[I Z 0,I Z 0,I Z 0]
def jt {W:Aa}{b6 b7:Nat}{t6 t7:TypeId}(j6:Al W b6 T6 t6)(j7:Al W b7 EN t7)(hne:b6≠b7)(h:AE)(a:A0):Al (jy W b6 b7 h a) b6 h.cells t6/\Al (jy W b6 b7 h a) b7 a.cells t7:=by
 have hne':b7≠b6:=fun e=>hne e.symm
 have a1:=((((((((((((((((((j6.set 0 (I Z h.b)).set 1 (I Z h.n)).set 2 (I Z h.r.a0)).set 3 (I Z h.r.a1)).set 4 (I Z h.r.a2)).set 5 (I Z h.r.a3)).set 6 (I Z h.r.a4)).set 7 (I Z h.r.a5)).set 8 (I Z h.s.a0)).set 9 (I Z h.s.a1)).set 10 (I Z h.s.a2)).set 11 (I Z h.s.a3)).set 12 (I Z h.s.a4)).set 13 (I Z h.s.a5)).set 14 (.bool h.l)).Am (a:=⟨b7,0,none⟩) hne (I Z a.k)).Am (a:=⟨b7,1,none⟩) hne (I Z a.e)).Am (a:=⟨b7,2,none⟩) hne (I Z a.v));have a2:=((((((((((((((((((j7.Am (a:=⟨b6,0,none⟩) hne' (I Z h.b)).Am (a:=⟨b6,1,none⟩) hne' (I Z h.n)).Am (a:=⟨b6,2,none⟩) hne' (I Z h.r.a0)).Am (a:=⟨b6,3,none⟩) hne' (I Z h.r.a1)).Am (a:=⟨b6,4,none⟩) hne' (I Z h.r.a2)).Am (a:=⟨b6,5,none⟩) hne' (I Z h.r.a3)).Am (a:=⟨b6,6,none⟩) hne' (I Z h.r.a4)).Am (a:=⟨b6,7,none⟩) hne' (I Z h.r.a5)).Am (a:=⟨b6,8,none⟩) hne' (I Z h.s.a0)).Am (a:=⟨b6,9,none⟩) hne' (I Z h.s.a1)).Am (a:=⟨b6,10,none⟩) hne' (I Z h.s.a2)).Am (a:=⟨b6,11,none⟩) hne' (I Z h.s.a3)).Am (a:=⟨b6,12,none⟩) hne' (I Z h.s.a4)).Am (a:=⟨b6,13,none⟩) hne' (I Z h.s.a5)).Am (a:=⟨b6,14,none⟩) hne' (.bool h.l)).set 0 (I Z a.k)).set 1 (I Z a.e)).set 2 (I Z a.v));have e1:∀ x,x=h.cells->Al (jy W b6 b7 h a) b6 x t6->Al (jy W b6 b7 h a) b6 h.cells t6:=fun x e k=>by rw[<-e];exact k
 have e2:∀ x,x=a.cells->Al (jy W b6 b7 h a) b7 x t7->Al (jy W b6 b7 h a) b7 a.cells t7:=fun x e k=>by rw[<-e];exact k
 refine⟨e1 _ ?_ a1,e2 _ ?_ a2⟩
 ·simp only[T6,AE.cells,Ad,Ai,aa]
 ·simp only[EN,A0.cells,Ad,Ai,aa]
def xy {w W:Aa}{b6 b7:Nat}(h1:Ae w.1.size w W)(h6:w.1.size<=b6)(h7:w.1.size<=b7)(h:AE)(a:A0):Ae w.1.size w (jy W b6 b7 h a):=(zc (zc (zc (zc (zc (zc (zc (zc (zc (zc (zc (zc (zc (zc (zc (zc (zc (zc h1 h6 _) h6 _) h6 _) h6 _) h6 _) h6 _) h6 _) h6 _) h6 _) h6 _) h6 _) h6 _) h6 _) h6 _) h6 _) h7 _) h7 _) h7 _)
def CS (W:Aa)(b:Nat)(h:AE):Aa:=(((((((((((((((W.setCell ⟨b,0,none⟩ (I Z h.b)).setCell ⟨b,1,none⟩ (I Z h.n)).setCell ⟨b,2,none⟩ (I Z h.r.a0)).setCell ⟨b,3,none⟩ (I Z h.r.a1)).setCell ⟨b,4,none⟩ (I Z h.r.a2)).setCell ⟨b,5,none⟩ (I Z h.r.a3)).setCell ⟨b,6,none⟩ (I Z h.r.a4)).setCell ⟨b,7,none⟩ (I Z h.r.a5)).setCell ⟨b,8,none⟩ (I Z h.s.a0)).setCell ⟨b,9,none⟩ (I Z h.s.a1)).setCell ⟨b,10,none⟩ (I Z h.s.a2)).setCell ⟨b,11,none⟩ (I Z h.s.a3)).setCell ⟨b,12,none⟩ (I Z h.s.a4)).setCell ⟨b,13,none⟩ (I Z h.s.a5)).setCell ⟨b,14,none⟩ (.bool h.l))
def d8 {W:Aa}{b:Nat}{t:TypeId}{g:AE}(j:Al W b g.cells t)(h:AE):Al (CS W b h) b h.cells t:=by
 have a1:=(((((((((((((((j.set 0 (I Z h.b)).set 1 (I Z h.n)).set 2 (I Z h.r.a0)).set 3 (I Z h.r.a1)).set 4 (I Z h.r.a2)).set 5 (I Z h.r.a3)).set 6 (I Z h.r.a4)).set 7 (I Z h.r.a5)).set 8 (I Z h.s.a0)).set 9 (I Z h.s.a1)).set 10 (I Z h.s.a2)).set 11 (I Z h.s.a3)).set 12 (I Z h.s.a4)).set 13 (I Z h.s.a5)).set 14 (.bool h.l));have e1:∀ x,x=h.cells->Al (CS W b h) b x t->Al (CS W b h) b h.cells t:=fun x e k=>by rw[<-e];exact k
 refine e1 _ ?_ a1;simp only[AE.cells,Ad,Ai,aa]
def yz {W:Aa}{b c:Nat}{t:TypeId}{cs:Array Ac}(j:Al W c cs t)(hne:c≠b)(h:AE):Al (CS W b h) c cs t:=by
 have a1:=(((((((((((((((j.Am (a:=⟨b,0,none⟩) hne (I Z h.b)).Am (a:=⟨b,1,none⟩) hne (I Z h.n)).Am (a:=⟨b,2,none⟩) hne (I Z h.r.a0)).Am (a:=⟨b,3,none⟩) hne (I Z h.r.a1)).Am (a:=⟨b,4,none⟩) hne (I Z h.r.a2)).Am (a:=⟨b,5,none⟩) hne (I Z h.r.a3)).Am (a:=⟨b,6,none⟩) hne (I Z h.r.a4)).Am (a:=⟨b,7,none⟩) hne (I Z h.r.a5)).Am (a:=⟨b,8,none⟩) hne (I Z h.s.a0)).Am (a:=⟨b,9,none⟩) hne (I Z h.s.a1)).Am (a:=⟨b,10,none⟩) hne (I Z h.s.a2)).Am (a:=⟨b,11,none⟩) hne (I Z h.s.a3)).Am (a:=⟨b,12,none⟩) hne (I Z h.s.a4)).Am (a:=⟨b,13,none⟩) hne (I Z h.s.a5)).Am (a:=⟨b,14,none⟩) hne (.bool h.l));exact a1
def Ux {w W:Aa}{b:Nat}(h1:Ae w.1.size w W)(h6:w.1.size<=b)(h:AE):Ae w.1.size w (CS W b h):=(zc (zc (zc (zc (zc (zc (zc (zc (zc (zc (zc (zc (zc (zc (zc h1 h6 _) h6 _) h6 _) h6 _) h6 _) h6 _) h6 _) h6 _) h6 _) h6 _) h6 _) h6 _) h6 _) h6 _) h6 _)
def ze {X:Aa}{b6 b7:Nat}{t6 t7:TypeId}{h:AE}{a:A0}(fn:Func)(tmps:Array Ac)(i j:Nat)(hres:fn.results=#[.cell i 58,.cell j 54])(ti:tmps.getD i undef=ptr b6)(tj:tmps.getD j undef=ptr b7)
  (j6:Al X b6 h.cells t6)(j7:Al X b7 a.cells t7):(results fn tmps).run Tryz.prog X=.ok (Aj #[h.v,a.val]) X:=by
 have d6:=j6.cell;have d7:=j7.cell;unfold AE.cells at d6;unfold A0.cells at d7;rw[Array.getD_eq_getD_getElem?]at ti tj;unfold ptr at ti tj;simp only[results,hres];simp[go_sem,ti,tj,d6,d7,AE.v,AE.cells,A0.val,A0.cells]
end
section
open Go.RowKit Hp
open Go.MuLone
attribute [local go_sem ↓] Go.wp_at_zero Go.wp_at_succ
structure Bg where
 t:Int
 b:Int
 n:Int
 a:A0
deriving DecidableEq
def qq:List Bg->List Ac
 | []=>[]
 | x::l=>I Z x.t::I Z x.b::I Z x.n::I Z x.a.k::I Z x.a.e::I Z x.a.v::qq l
def ko (l:List Bg):∀ u ∈ qq l,u.oneCell'=true:=by
 induction l with
 | nil=>intro u hu;simp[qq]at hu
 | cons x l ih =>
  intro u hu;simp only[qq,List.mem_cons]at hu;rcases hu with rfl|rfl|rfl|rfl|rfl|rfl|hu
  ·rfl
  ·rfl
  ·rfl
  ·rfl
  ·rfl
  ·rfl
  ·exact ih u hu
def qg9 (l:List Bg)(x:Bg):qq (l++[x])=qq l++[I Z x.t,I Z x.b,I Z x.n,I Z x.a.k,I Z x.a.e,I Z x.a.v]:=by
 induction l with
 | nil=>rfl
 | cons y l ih=>simp[qq,ih]
def gw:∃ i,Tryz.prog.info? 69=some i/\i.size=6/\i.bytes=48/\i.zero=some (Ak #[I Z 0,I Z 0,I Z 0,I Z 0,I Z 0,I Z 0]):=info_parts (by kernel_rfl)
def Lx (b:Nat) (es:List Bg) (v:Ac) (w:Aa) (o:Own) (tg:Tag) (h0:w.cell? ⟨b,3,none⟩=some (.int .i32 0)) (h2:w.cell? ⟨b,5,none⟩=some v) (f0:w.frozen? ⟨b,3,none⟩=false) (hlt:b<w.1.size)
  (hr:Row w o tg 69 6 v es.length (qq es)) (hn:es.length<=2000) (nb:o b≠tg) :
  Ab Tryz.prog 95 #[Ag (some ⟨b,3,none⟩)] w fun e w'=>∃ v' w1,e=O v'/\Row w1 (fo w.1.size) (1,0) 69 6 v' es.length (qq es)/\Ae w.1.size (w.setCell ⟨b,3,none⟩ (.int .i32 1)) w1/\w'=w1.setCell ⟨b,3,none⟩ (.int .i32 0):=by
 obtain⟨iU,hi,hsI,bZ,bT⟩:=gw;have hu64:=underlying62;have hr1:=hr.Ao (T:=fun u=>u=o b) ((Stp.refl _ o w).setCell (a:=⟨b,3,none⟩) (by show o b=o b;rfl) (.int .i32 1)) (fun e=>nb e.symm)
 obtain⟨n,hnn⟩:=Ja0 es.length;rw[<-hnn]at hr1 hn ⊢;have HR:=Qa hr1;have hk1:Hid (0+n<=maxLen):=by show 0+n<=_;simp only[maxLen];omega
 have hk2:Hid ((0+n)*48<=140737488355328):=by show (0+n)*48<=_;omega
 obtain⟨pa,cp,rfl⟩:=hr.AS;rw[<-hnn]at HR h2;clear hr hr1 hn hnn nb;go_enter_defers func95,ntmps95;go_wp2_with (first
  | (go_at_call 148;refine (lock_free Tryz.muLib ⟨b,3,none⟩ _ h0 f0).mono ?_;rintro e w' ⟨rfl,rfl⟩)
  | (at_builtin;refine zi _ rfl _ _ _ rfl 69 iU _ 6 48 hu64 hi bT hsI bZ rfl (by decide) (fo w.1.size) (1,0) _ 0 [] rfl (Row.nil _ _ _ _ _) _ _ _ n (qq es) rfl HR.out (ko es) hk1.out hk2.out ?_;intro v' w8 hown hst))
 have hz:w.1.size=(w.setCell ⟨b,3,none⟩ (.int .i32 1)).1.size:=by simp
 have hc1:(w.setCell ⟨b,3,none⟩ (.int .i32 1)).cell? ⟨b,3,none⟩=some (.int .i32 1):=World.cell?_setCell_same w ⟨b,3,none⟩ (.int .i32 1) h0;have hf1:(w.setCell ⟨b,3,none⟩ (.int .i32 1)).frozen? ⟨b,3,none⟩=false:=by simp[f0]
 rw[hz]at hown hst hlt;have mY:=yr (qd _) hown;have gB:=xx (qd _) hst;simp only[Nat.zero_add,List.nil_append]at mY;have hc8:w8.cell? ⟨b,3,none⟩=some (.int .i32 1):=by rw[gB.cell (p:=⟨b,3,none⟩) hlt];exact hc1
 have hf8:w8.frozen? ⟨b,3,none⟩=false:=by
  have e:=gB.block b hlt;simp only[World.frozen?,e]at hf1 ⊢;exact hf1
 refine leaves_cons (f:=149) (args:=#[Ag (some ⟨b,3,none⟩)]) (by simp) (by simp[go_sem]) ?_
 refine (unlock_deferred Tryz.muLib ⟨b,3,none⟩ .returning _ hc8 hf8).mono ?_
 rintro e u' w'' ⟨rfl,rfl,rfl⟩
 refine⟨_,results_tmp rfl _ _ _,v',w8,rfl,?_,?_,rfl⟩
 ·rw[hz];exact mY
 ·rw[hz];exact gB
def Bg.val (x:Bg):Ac:=Ak #[I Z x.t,I Z x.b,I Z x.n,I Z x.a.k,I Z x.a.e,I Z x.a.v]
def ql5 (b n cp:Nat) (pa:Option Addr) (x:Bg) (w:Aa) (h0:w.cell? ⟨b,3,none⟩=some (.int .i32 0)) (h2:w.cell? ⟨b,5,none⟩=some (.slice pa n cp)) (f0:w.frozen? ⟨b,3,none⟩=false) (hlt:b<w.1.size) (hn:2000<=n) :
  Ab Tryz.prog 91 #[Ag (some ⟨b,3,none⟩),x.val] w fun e w'=>e=O (Aj #[])/\∃ X,w'=((w.setCell ⟨b,3,none⟩ (.int .i32 1)).alloc X).setCell ⟨b,3,none⟩ (.int .i32 0):=by
 obtain⟨xt,xb,xn,⟨xk,xe,xv⟩⟩:=x;show Ab _ _ #[Ag (some ⟨b,3,none⟩),Ak #[I Z xt,I Z xb,I Z xn,I Z xk,I Z xe,I Z xv]] _ _;obtain⟨W,hW⟩:=Ja0 (w.alloc (.cells #[I Z xt,I Z xb,I Z xn,I Z xk,I Z xe,I Z xv] 69));have hb:Ae w.1.size w W:=by rw[hW];exact qc (qd w) _
 have c0:W.cell? ⟨b,3,none⟩=some (.int .i32 0):=by rw[hb.cell (p:=⟨b,3,none⟩) hlt];exact h0
 have c2:W.cell? ⟨b,5,none⟩=some (.slice pa n cp):=by rw[hb.cell (p:=⟨b,5,none⟩) hlt];exact h2
 have fW:W.frozen? ⟨b,3,none⟩=false:=by
  have e:=hb.block b hlt;simp only[World.frozen?,e]at f0 ⊢;exact f0
 have xH:¬(n:Int)<2000:=by omega
 have a0:(w.alloc (.cells #[I Z xt,I Z xb,I Z xn,I Z xk,I Z xe,I Z xv] 69)).cell? ⟨b,5,none⟩=some (.slice pa n cp):=by rw[<-hW];exact c2
 go_enter_defers func91,ntmps91;go_wp2_with (first
  | (go_at_call 148;rw[<-hW];refine (lock_free Tryz.muLib ⟨b,3,none⟩ _ c0 fW).mono ?_;rintro e w' ⟨rfl,rfl⟩))
 have hlt1:b<(w.setCell ⟨b,3,none⟩ (.int .i32 1)).1.size:=by simpa using hlt
 have hba:=qc (qd (w.setCell ⟨b,3,none⟩ (.int .i32 1))) (.cells #[I Z xt,I Z xb,I Z xn,I Z xk,I Z xe,I Z xv] 69);have hc1:=(hba.cell (p:=⟨b,3,none⟩) hlt1).trans (World.cell?_setCell_same w ⟨b,3,none⟩ (.int .i32 1) h0);have hf0:(w.setCell ⟨b,3,none⟩ (.int .i32 1)).frozen? ⟨b,3,none⟩=false:=by simp[f0]
 have hf1:((w.setCell ⟨b,3,none⟩ (.int .i32 1)).alloc (.cells #[I Z xt,I Z xb,I Z xn,I Z xk,I Z xe,I Z xv] 69)).frozen? ⟨b,3,none⟩=false:=by
  have e:=hba.block b hlt1;simp only[World.frozen?,e]at hf0 ⊢;exact hf0
 refine leaves_cons (f:=149) (args:=#[Ag (some ⟨b,3,none⟩)]) (by simp) (by simp[go_sem]) ?_
 refine (unlock_deferred Tryz.muLib ⟨b,3,none⟩ .returning _ hc1 hf1).mono ?_
 rintro e u' w'' ⟨rfl,rfl,rfl⟩
 exact⟨Aj #[],by simp[results,results91,go_sem],rfl,_,rfl⟩
