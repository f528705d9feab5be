import Derived.BigQuiet
import Derived.Deep.Cut
import Derived.Deep.DeepCutAuto
import Derived.Deep.QuietTactic
import Derived.Deep.RegionWith
import Derived.IntWalk
import Derived.Laws.Bits64b
import Derived.Laws.EntriesVeiled
import Derived.Lib.Hide
import Derived.Outline
import Derived.Test.YtgndecmkhhdkjaaGreatRows
import Derived.WalkKit
import Derived.WalkLawsBesides
import Derived.WalkSpells
set_option linter.all false
set_option maxRecDepth 1000000
set_option maxHeartbeats 0
open Go renaming World->Aa,Calls->Ab,Value->Ac
open Go.RowKit renaming Below->Ae
open Go.Value renaming int->I,pointer->Ah,slice->Ai,tuple->Ak,agg->Al
open Go.IntKind renaming i64->Z
open Go.Ending renaming returned->O
open Go.IntKind renaming u64->Ad
open Go.Calls renaming quiet_of_same->Aj
open Go.Value renaming ownBlock->aa,int->aC
open List renaming eq_nil_of_length_eq_zero->af
open Go.World renaming setCell->ag
open Nat renaming shiftRight_eq_div_pow->ai
open Go.BinOp renaming or->aj,and->aA
open Go.Builtin renaming append_->ay,firstCells->aB,lenOf->aD
open Go.Proofs.Tryz
open Go.Proofs.Tryz renaming prog->ANa
namespace Go.Proofs.YtgndecmkhhdkjaaGreat
instance:Coe Unit Go.Value:=⟨fun _=>.int .i64 0⟩
instance:Coe Bool Go.Value:=⟨fun x=>.bool x⟩
instance:Coe Go.World Nat:=⟨fun w=>w.heap.size⟩
instance:Coe Int Go.Value:=⟨fun x=>.int .i64 x⟩
instance:Coe Nat Go.Value:=⟨fun x=>.int .i64 (x:Int)⟩
def Ja0{α:Sort _}(x:α):∃ y,y=x:=⟨x,rfl⟩
def Q2 (p:Prop):Prop:=p
theorem Q2.o {p:Prop}(h:Q2 p):p:=h
theorem Q2.out {p:Prop}(h:Q2 p):p:=h
theorem Qa {p:Prop}(h:p):Q2 p:=h
abbrev Qb:=@List.getElem?_eq_getElem
abbrev Qc:=@List.getElem?_eq_some_iff
abbrev Qd:=@List.length_append
abbrev Qe:=@List.mem_of_getElem?
abbrev Qf:=@Array.getElem?_eq_some_iff
abbrev Qg:=@List.length_map
abbrev Qh:=@beq_eq_false_iff_ne
abbrev Qi:=@List.getD_eq_getElem?_getD
abbrev Qj:=@List.getElem?_map
abbrev Qk:=@Nat.le_refl
abbrev Ql:=@List.getElem?_append_right
abbrev Qm:=@List.getElem?_append_left
abbrev Qn:=@Nat.lt_of_lt_of_le
abbrev Qo:=@Nat.le_trans
abbrev Qp:=@List.length_take
abbrev Qq:=@List.length_set
abbrev Qr:=@List.getElem?_set
abbrev Qs:=@List.mem_append
abbrev Qt:=@List.mem_map
abbrev Qu:=@Nat.le_succ_of_le
abbrev Qv:=@List.length_cons
abbrev Qw:=@List.map_append
abbrev Qx:=@List.length_replicate
abbrev Qy:=@List.getElem?_replicate
abbrev Qz:=@List.getElem?_take
abbrev Za:=@List.getElem?_eq_none
abbrev Zb:=@List.mem_singleton
abbrev Zc:=@Option.some.injEq
open Go.RowKit
abbrev Tag:=Nat×Nat
abbrev Own:=Nat->Tag
structure Stp (T:Tag->Prop)(o o':Own)(w w':Aa):Prop where
 os:w'.os=w.os
 tape:w'.tape=w.tape
 output:w'.output=w.output
 size:w.1.size<=w'.1.size
 tags:∀ b,b<w.1.size->o' b=o b
 block:∀ b,b<w.1.size->¬T (o b)->w'.heap[b]?=w.heap[b]?
def Stp.refl (T:Tag->Prop)(o:Own)(w:Aa):Stp T o o w w:=⟨rfl,rfl,rfl,Qk _,fun _ _=>rfl,fun _ _ _=>rfl⟩
def Stp.trans {T:Tag->Prop}{o o1 o2:Own}{w w1 w2:Aa}(h:Stp T o o1 w w1)(k:Stp T o1 o2 w1 w2):Stp T o o2 w w2:=
 ⟨k.os.trans h.os,k.tape.trans h.tape,k.output.trans h.output,Qo h.size k.size,
  fun b hb=>(k.tags b (Qn hb h.size)).trans (h.tags b hb),
  fun b hb ht=>(k.block b (Qn hb h.size) (by rw[h.tags b hb];exact ht)).trans (h.block b hb ht)⟩
def Stp.mono {T U:Tag->Prop}{o o':Own}{w w':Aa}(h:Stp T o o' w w')(hu:∀ t,T t->U t):Stp U o o' w w':=
 ⟨h.os,h.tape,h.output,h.size,h.tags,fun b hb ht=>h.block b hb fun k=>ht (hu _ k)⟩
def Stp.of_below {T:Tag->Prop}{o:Own}{w w':Aa}(h:Ae w w w'):Stp T o o w w':=
 ⟨h.os,h.tape,h.output,h.size,fun _ _=>rfl,fun b hb _=>h.block b hb⟩
def Stp.drew {T:Tag->Prop}{o o':Own}{w w':Aa}(h:Stp T o o' w w'):Stp T o o' w w'.drew:=
 ⟨h.os,h.tape,h.output,h.size,h.tags,h.block⟩
def Stp.alloc {T:Tag->Prop}{o o':Own}{w w':Aa}(h:Stp T o o' w w')(x:Obj):Stp T o o' w (w'.alloc x):=
 h.trans (.of_below ((Below.refl _ _).alloc (Qk _) _))
def Stp.setCell {T:Tag->Prop}{o o':Own}{w w':Aa}(h:Stp T o o' w w'){a:Addr}(ha:T (o' a.block))(v:Ac):Stp T o o' w (w'.setCell a v):=
 h.trans ⟨rfl,rfl,rfl,by simp[ag],fun _ _=>rfl,fun b _ ht=>Below.heap_setCell _ _ _ _ (fun e=>ht (by rw[e];exact ha))⟩
def Stp.setCell_new {T:Tag->Prop}{o o':Own}{w w':Aa}(h:Stp T o o' w w'){a:Addr}(ha:w.1.size<=a.block)(v:Ac):Stp T o o' w (w'.setCell a v):=
 ⟨h.os,h.tape,h.output,by simpa [ag] using h.size,h.tags,fun b hb ht=>(Below.heap_setCell _ _ _ _ (by omega)).trans (h.block b hb ht)⟩
def Stp.below {T:Tag->Prop}{o o':Own}{w w':Aa}(h:Stp T o o' w w')(ht:∀ b,b<w.1.size->¬T (o b)):Ae w w w':=
 ⟨h.os,h.tape,h.output,h.size,fun k hk=>h.block k hk (ht k hk)⟩
def ext (o:Own)(n:Nat)(t:Tag):Own:=fun b=>if b<n then o b else t
def qk {o:Own}{n:Nat}{t:Tag}{b:Nat}(h:b<n):ext o n t b=o b:=by simp[ext,h]
def qq {o:Own}{n:Nat}{t:Tag}{b:Nat}(h:n<=b):ext o n t b=t:=by simp[ext];omega
def Stp.ext {T:Tag->Prop}{o o':Own}{w w':Aa}(h:Stp T o o' w w')(t:Tag)(n:Nat)(hn:w.1.size<=n):Stp T o (ext o' n t) w w':=
 ⟨h.os,h.tape,h.output,h.size,fun b hb=>(qk (Qn hb hn)).trans (h.tags b hb),h.block⟩
theorem PRe (o:Own)(w:Aa)(t:Tag)(T:Tag->Prop):∃ o1,o1=ext o w.1.size t/\(∀ b,b<w.1.size->o1 b=o b)/\Stp T o o1 w w:=⟨_,rfl,fun _ hb=>qk hb,(Stp.refl _ o w).ext _ _ (Qk _)⟩
def An (w:Aa)(b:Nat)(cs:Array Ac)(t:TypeId):Prop:=w.heap[b]?=some (.cells cs t (0,0))
def An.lt {w:Aa}{b:Nat}{cs:Array Ac}{t:TypeId}(h:An w b cs t):b<w.1.size:=(Qf.1 h).1
def An.cell {w:Aa}{b:Nat}{cs:Array Ac}{t:TypeId}(h:An w b cs t)(i:Nat):w.cell? ⟨b,i,none⟩=cs[i]?:=by
 unfold An at h;simp[World.cell?,h]
def An.free {w:Aa}{b:Nat}{cs:Array Ac}{t:TypeId}(h:An w b cs t)(i:Nat):w.frozen? ⟨b,i,none⟩=false:=by
 unfold An at h;simp[World.frozen?,h]
def An.of_eq {w w':Aa}{b:Nat}{cs:Array Ac}{t:TypeId}(h:An w b cs t)(e:w'.heap[b]?=w.heap[b]?):An w' b cs t:=by
 unfold An at *;rw[e];exact h
def An.below {w w':Aa}{b:Nat}{cs:Array Ac}{t:TypeId}(h:An w b cs t){B:Nat}(k:Ae B w w')(hb:b<B):An w' b cs t:=h.of_eq (k.block b hb)
def An.Ar {T:Tag->Prop}{o o':Own}{w w':Aa}{b:Nat}{cs:Array Ac}{t:TypeId}(h:An w b cs t)(k:Stp T o o' w w')(ht:¬T (o b)):An w' b cs t:=h.of_eq (k.block b h.lt ht)
def An.drewN {w:Aa}{b:Nat}{cs:Array Ac}{t:TypeId}(h:An w b cs t)(n:Nat):An (w.drewN n) b cs t:=h
def An.alloc {w:Aa}{b:Nat}{cs:Array Ac}{t:TypeId}(h:An w b cs t)(x:Obj):An (w.alloc x) b cs t:=h.of_eq (Below.heap_alloc _ _ _ h.lt)
def An.new (w:Aa)(cs:Array Ac)(t:TypeId):An (w.alloc (.cells cs t)) w cs t:=by
 unfold An;show (w.heap.push _)[w.1.size]?=_;simp
def An.set {w:Aa}{b:Nat}{cs:Array Ac}{t:TypeId}(h:An w b cs t)(i:Nat)(v:Ac):An (w.setCell ⟨b,i,none⟩ v) b (cs.setIfInBounds i v) t:=by
 unfold An at *;simp only[ag,Array.getElem?_modify,if_true,h];simp
def An.Ao {w:Aa}{b:Nat}{cs:Array Ac}{t:TypeId}(h:An w b cs t){a:Addr}(hb:b≠a.block)(v:Ac):An (w.setCell a v) b cs t:=
 h.of_eq (Below.heap_setCell _ _ _ _ hb)
def Later (w:Aa):Type:={ w':Aa // Ae w w w' }
instance (w : Aa) : Nonempty (Later w) := ⟨⟨w, Below.refl _ _⟩⟩
def Later.A3 {w:Aa}{b:Nat}{cs:Array Ac}{t:TypeId}(h:An w b cs t)(e:Later w):An e.1 b cs t:=h.below e.2 h.lt
def Later.cell {w:Aa}{b:Nat}{cs:Array Ac}{t:TypeId}(h:An w b cs t)(e:Later w)(i:Nat):e.1.cell? ⟨b,i,none⟩=cs[i]?:=(Later.A3 h e).cell i
def qy {P:Program}{id:Nat}{Q:Exit->Act->Aa->Prop}{a:Act}{w:Aa}{l:List Oper}(hm:P.follows .mixedOrders=true)(hB:Region.lexB .any l.toArray=true)
  (h:wpQuiet P l.toArray (fun w'=>∃ e:Later w,w'=e.1) (fun a'=>∀ w',(∃ e:Later w,w'=e.1)->Q .normal a' w') l a):(Code.region id l.toArray true).wp P Q a w:=
 wp_region_quiet (C:=fun w'=>∃ e:Later w,w'=e.1) hm hB ⟨⟨{ w with drawn:=w.drawn+1 },⟨rfl,rfl,rfl,Qk _,fun _ _=>rfl⟩⟩,rfl⟩ (by simpa using h)
def kv {P:Program}{f:FuncId}{args:Array Ac}{w:Aa}{e:Later w}{v:Ac}
  (h:Ab P f args e.1 fun en w'=>en=O v/\Ae e.1.1.size e.1 w'):Ab P f args e.1 fun en w''=>en=O v/\∃ e2:Later w,w''=e2.1:=
 h.mono fun _ w'⟨he,hb⟩=>⟨he,⟨w',e.2.trans (hb.mono e.2.size)⟩,rfl⟩
def qc {w W:Aa}(h:Ae w w W)(o:Obj):Ae w w (W.alloc o):=h.alloc h.size o
def qo {w W:Aa}(h:Ae w w W){a:Addr}(ha:w.1.size<=a.block)(v:Ac):Ae w w (W.setCell a v):=h.setCell ha v
def qe {w W W':Aa}(h:Ae w w W)(k:Ae W W W'):Ae w w W':=h.trans (k.mono h.size)
def An.Ax (w:Aa)(cs cs':Array Ac)(t:TypeId)(n:Nat)(hn:n=w.1.size)(hc:cs=cs'):An (w.alloc (.cells cs t)) n cs' t:=by subst hn;subst hc;exact An.new _ _ _
def below_drewN {B:Nat}{a w:Aa}(h:Ae B a w)(n:Nat):Ae B a (w.drewN n):=⟨h.os,h.tape,h.output,h.size,h.block⟩
def nf {k:IntKind}{a b:Int}(h:a=b):Ending.returned (.int k a)=O (.int k b):=by rw[h]
def lu {a:Int}(h:(Lit.int .i64 a).wf=true):-9223372036854775808<=a/\a<=9223372036854775807:=by
 simp only[Lit.wf,Bool.and_eq_true,decide_eq_true_eq]at h;exact h
structure Row (w:Aa)(o:Own)(t:Tag)(e:TypeId)(size:Nat)(v:Ac)(n:Nat)(xs:List Ac):Prop where
 own:w.ownsRow 0 e size v n xs
 tag:∀ k,v.ownBlock=some k->o k=t
def Row.nil (w:Aa)(o:Own)(t:Tag)(e:TypeId)(size:Nat):Row w o t e size (Ai none 0 0) 0 []:=
 ⟨⟨by simp,.inl ⟨rfl,rfl⟩⟩,by intro k hk;simp[aa]at hk⟩
def Row.Ar {T:Tag->Prop}{o o':Own}{w w':Aa}{t:Tag}{e:TypeId}{size:Nat}{v:Ac}{n:Nat}{xs:List Ac}
  (h:Row w o t e size v n xs)(k:Stp T o o' w w')(ht:¬T t):Row w' o' t e size v n xs:=by
 obtain⟨⟨h1,h2⟩,h3⟩:=h;rcases h2 with ⟨rfl,rfl⟩|⟨g,cap,cur,rfl,hg,hh,r⟩
 ·exact⟨⟨h1,.inl ⟨rfl,rfl⟩⟩,by intro k' hk';simp[aa]at hk'⟩
 ·have hlt:g<w.1.size:=(Qf.1 hh).1
  have hog:=h3 g rfl;refine⟨⟨h1,.inr ⟨g,cap,cur,rfl,hg,?_,r⟩⟩,?_⟩
  ·rw[k.block g hlt (by rw[hog];exact ht)];exact hh
  ·intro k' hk'
   have:g=k':=by simpa [aa] using hk'
   subst this;rw[k.tags g hlt];exact hog
section
variable {P : Program} (w : Aa)
def Row.len {w:Aa}{o:Own}{t:Tag}{e:TypeId}{size:Nat}{v:Ac}{n:Nat}{xs:List Ac}(h:Row w o t e size v n xs):xs.length=n*size:=h.own.1
def yb (t ty e:TypeId)(i:TypeInfo)(z:Ac)(size bytes:Nat)(ht:P.underlying t=some (.slice e))(hi:P.info? e=some i)(hz:i.zero=some z)
  (hsize:i.size=size)(hby:i.bytes=bytes)(hzs:z.cells.size=size)(hsz:0<size)
  (o:Own)(tg:Tag)(v:Ac)(n:Nat)(xs:List Ac)(hown:Row w o tg e size v n xs)
  (a:Addr)(m c:Nat)(news:List Ac)(hl:news.length=m*size)(hnews:∀ j u,news[j]?=some u->w.cell? (a.add j)=some u)(h1:∀ u ∈ news,u.oneCell'=true)
  (h63:n+m<=maxLen)(hbytes:(n+m)*bytes<=140737488355328) :
  ∃ v' w',(ay #[t,t] ty #[v,Ai (some a) m c]).run P w=.ok v' w'/\Row w' (ext o w tg) tg e size v' (n+m) (xs++news)/\Stp (fun u=>u=tg) o (ext o w tg) w w':=by
 obtain⟨v',w',hr,h2,h3,_⟩:=run_append_own (P:=P) w 0 t ty e i z size bytes ht hi hz hsize hby hzs hsz v n xs hown.own a m c news hl hnews h1 h63 hbytes (Nat.zero_le _);refine⟨v',w',hr,?_⟩;have hb:v'.ownBlock=v.ownBlock\/∀ k,v'.ownBlock=some k->w.1.size<=k:=by
  subst hsize;have hsmall:n+m<=9223372036854775807:=by simp only[maxLen]at h63;omega
  rcases hown.own.2 with ⟨rfl,rfl⟩|⟨g,cap,cur,rfl,hbg,hg,hnc,hcm,hcs,htake⟩
  ·refine .inr fun k hk=>?_
   have hx:xs=[]:=af (by simpa using hown.own.1)
   subst hx;by_cases hm:m=0
   ·subst hm
    have hn:news=[]:=af (by simpa using hl)
    subst hn;have:(ay #[t,t] ty #[Ai none 0 0,Ai (some a) 0 c]).run P w=.ok (Ai none 0 0) w:=by
     simp[ay,run_underlying ht,sizeOf,typeInfo,hi,aD,aB,loadCells,loadCellsFrom]
    rw[this]at hr;injection hr with e1 e2;rw[<-e1]at hk;simp[aa]at hk
   ·have hr':=run_append_nil (P:=P) w t ty e i z ht hi hz a m c news hl hnews (by omega) (by omega) (by subst hby;have hb:=hbytes;simp only[Nat.zero_add]at hb;omega)
    rw[hr']at hr;injection hr with e1 e2;rw[<-e1]at hk;simp[aa]at hk;omega
  ·by_cases hroom:n+m<=cap
   ·have hfit:n*i.size+news.length<=cur.size:=by rw[hl,hcs,<-Nat.add_mul];exact Nat.mul_le_mul_right _ hroom
    have hr':=run_append_room (P:=P) w t ty e i ht hi g n cap cur hg a m c news hl hnews h1 hroom hfit;rw[hr']at hr;injection hr with e1 e2;left;rw[<-e1];rfl
   ·refine .inr fun k hk=>?_
    have holds:∀ j u,xs[j]?=some u->w.cell? ((⟨g,0,none⟩:Addr).add j)=some u:=hown.own.cells (g:=g) rfl;have hr':=run_append_grow (P:=P) w t ty e i z ht hi hz ⟨g,0,none⟩ n cap xs hown.own.1 holds a m c news hl hnews (by omega) (by omega) (growslice_fits (by omega) (by subst hby;exact hbytes))
    rw[hr']at hr;injection hr with e1 e2;rw[<-e1]at hk;simp[aa]at hk;omega
 refine⟨⟨h2,?_⟩,⟨h3.os,h3.tape,h3.output,h3.size,fun b hb=>qk hb,fun b hb' ht=>h3.block b hb' ?_⟩⟩
 ·intro k hk
  rcases hb with hv|hv
  ·have hlt:=(hown.own.lt k (hv▸hk)).2
   rw[qk hlt];exact hown.tag k (hv▸hk)
  ·exact qq (hv k hk)
 ·intro e';exact ht (hown.tag b e'.symm)
def qg {ops:Array Oper}{rest:List Oper}{op:Oper}{a:Act}{Q:Exit->Act->Aa->Prop}(hgd:op.guard=none)(s x:Operand)(t:TypeId)
  (ho:op.op=.call { callee:=.builtin .append,args:=#[s,x],argTypes:=#[t,t] })
  (e:TypeId)(i:TypeInfo)(z:Ac)(size bytes:Nat)(ht:P.underlying t=some (.slice e))(hi:P.info? e=some i)(hz:i.zero=some z)
  (hsize:i.size=size)(hby:i.bytes=bytes)(hzs:z.cells.size=size)(hsz:0<size)
  (o:Own)(tg:Tag)(v:Ac)(n:Nat)(xs:List Ac)(hs:a.eval s=v)(hown:Row w o tg e size v n xs)
  (ad:Addr)(m c:Nat)(news:List Ac)(hx:a.eval x=Ai (some ad) m c)(hl:news.length=m*size)(hnews:∀ j u,news[j]?=some u->w.cell? (ad.add j)=some u)(h1:∀ u ∈ news,u.oneCell'=true)
  (h63:n+m<=maxLen)(hbytes:(n+m)*bytes<=140737488355328)
  (h:∀ v' w',Row w' (ext o w tg) tg e size v' (n+m) (xs++news)->Stp (fun u=>u=tg) o (ext o w tg) w w'->wpList P ops Q rest (a.put op.dst v') w'):wpList P ops Q (op::rest) a w:=
 wpList_plain hgd fun K hK=>by
  obtain⟨v',w',hr,h2,h3⟩:=yb (P:=P) w t op.type e i z size bytes ht hi hz hsize hby hzs hsz o tg v n xs hown ad m c news hl hnews h1 h63 hbytes;unfold Oper.wp execOp;simp only[ho,resolve,invoke,builtin,Sem.run_bind,Sem.run_pure,Result.andThen_ok,List.map_toArray,List.map_cons,List.map_nil,hs,hx,hr];exact hK _ _ (h v' w' h2 h3)
end
end Go.Proofs.YtgndecmkhhdkjaaGreat
namespace Go.Proofs.YtgndecmkhhdkjaaGreat.Hp
structure BQ where
 p:Nat
 d:Nat
 AA:Bool
 final:Bool
 deriving DecidableEq
def BQ.ok (s:BQ):Prop:=s.p<=8/\s.d<=8/\(s.AA=true->s.p=1/\s.d=0/\s.final=false)
def kq (k:Nat)(b:Bool):Nat:=if b then 2 ^ k else 0
def head (s:BQ)(fr:Bool):Nat:=1+2*s.p+32*s.d+kq 9 s.AA+kq 10 s.final+kq 11 fr
def RP (i a b:Nat)(h:b<2 ^ i):b ||| 2 ^ i*a=b+2 ^ i*a:=by
 rw[Nat.or_comm,<-Nat.two_pow_add_eq_or_of_lt h,Nat.add_comm]
def jr (k:Nat)(b:Bool):kq k b=0\/kq k b=2 ^ k:=by unfold kq;cases b<;>simp
def or_bit (i a:Nat)(b:Bool)(h:a<2 ^ i):a ||| kq i b=a+kq i b:=by
 cases b
 ·simp[kq]
 ·have:=RP i 1 a h
  simpa [kq] using this
def L6 (s:BQ)(fr:Bool)(h:s.ok):((((1 ||| 2*s.p) ||| 32*s.d) ||| kq 9 s.AA) ||| kq 10 s.final) ||| kq 11 fr=head s fr:=by
 obtain⟨h1,h2,_⟩:=h;have e1:1 ||| 2*s.p=1+2*s.p:=RP 1 s.p 1 (by omega)
 have e2:(1+2*s.p) ||| 32*s.d=1+2*s.p+32*s.d:=RP 5 s.d _ (by omega)
 have b9:=jr 9 s.AA;have b10:=jr 10 s.final;rw[e1,e2,or_bit 9 _ _ (by omega),or_bit 10 _ _ (by omega),or_bit 11 _ _ (by omega)]
 unfold head;rfl
def UX (s:BQ)(fr:Bool)(h:s.ok):head s fr<4096:=by
 obtain⟨h1,h2,_⟩:=h;have b9:=jr 9 s.AA;have b10:=jr 10 s.final;have b11:=jr 11 fr;unfold head;omega
def Yc (s:BQ)(fr:Bool):head s fr%2=1:=by
 have b9:=jr 9 s.AA;have b10:=jr 10 s.final;have b11:=jr 11 fr;unfold head;omega
def Pp (s:BQ)(fr:Bool)(h:s.ok):head s fr/2%16=s.p:=by
 obtain⟨h1,h2,_⟩:=h;have b9:=jr 9 s.AA;have b10:=jr 10 s.final;have b11:=jr 11 fr;unfold head;omega
def Po (s:BQ)(fr:Bool)(h:s.ok):head s fr/32%16=s.d:=by
 obtain⟨h1,h2,_⟩:=h;have b9:=jr 9 s.AA;have b10:=jr 10 s.final;have b11:=jr 11 fr;unfold head;omega
def qp5 (s:BQ)(fr:Bool)(h:s.ok):head s fr/512%2=(if s.AA then 1 else 0)/\head s fr/1024%2=(if s.final then 1 else 0)/\head s fr/2048%2=(if fr then 1 else 0):=by
 obtain⟨h1,h2,_⟩:=h;unfold head kq
 cases s.AA<;>cases s.final<;>cases fr<;>simp<;>omega
def GY (w s k:Nat):(w &&& (2 ^ k-1)*2 ^ s)/2 ^ s=w/2 ^ s%2 ^ k:=by
 rw[<-Nat.shiftLeft_eq,<-ai,<-ai,Nat.shiftRight_and_distrib,Nat.shiftLeft_shiftRight,Nat.and_two_pow_sub_one_eq_mod]
def GG (n:Int):Int:=if 0<=n then 2*n else -2*n-1
def K9 {n:Int}(h:-9223372036854775808<=n/\n<=9223372036854775807):0<=GG n/\GG n<=18446744073709551615:=by
 unfold GG;split<;>omega
def BG (n:Nat):Nat:=if n<=4 then 4 else if n<=6 then 6 else if n<=8 then 8 else if n<=12 then 12 else if n<=16 then 16 else 24
end Go.Proofs.YtgndecmkhhdkjaaGreat.Hp
namespace Go.Proofs.YtgndecmkhhdkjaaGreat
section
open Go.RowKit
def qj {w:Aa}{b:Nat}{cs:Array Ac}{t:TypeId}(h:An w b cs t):An w.drew b cs t:=h
def qf {w W:Aa}(h:Ae w w W):Ae w w W.drew:=Below.drew h
def zo {w W:Aa}(h:Ae w w W)(n:Nat):Ae w w (W.drewN n):=below_drewN h n
def qd (w:Aa):Ae w w w:=Below.refl _ _
end
section
open Go.RowKit Hp
def QK (w m:Nat) (hw:w<18446744073709551616) (hm:m<18446744073709551616):bits aA Ad (w:Int) (m:Int)=((w &&& m:Nat):Int):=bits_and_u64_nat w m hw hm
def QM (w m:Nat) (hw:w<18446744073709551616) (hm:m<18446744073709551616):bits aj Ad (w:Int) (m:Int)=((w ||| m:Nat):Int):=bits_or_u64_nat w m hw hm
def RG (s k:Int):Prop:=(s=1/\k=4)\/(s=5/\k=4)\/(s=9/\k=1)\/(s=10/\k=1)\/(s=11/\k=1)
def WQ (s k:Int)(h:RG s k)(w:Aa):Ab ANa 241 #[Al #[s,k]] w fun e w'=>e=O (.bool true)/\Ae w w w':=by
 rcases h with⟨rfl,rfl⟩|⟨rfl,rfl⟩|⟨rfl,rfl⟩|⟨rfl,rfl⟩|⟨rfl,rfl⟩
 all_goals
  go_in;go_wp2_with fail;go_ret;exact⟨rfl,qc (Below.refl _ _) _⟩
def JI (s k:Int)(h:RG s k)(w:Aa):Ab ANa 242 #[Al #[s,k]] w fun e w'=>e=O (.int .u64 ((2 ^ k.toNat-1)*2 ^ s.toNat))/\Ae w w w':=by
 have hr:=WQ s k h;rcases h with⟨rfl,rfl⟩|⟨rfl,rfl⟩|⟨rfl,rfl⟩|⟨rfl,rfl⟩|⟨rfl,rfl⟩
 all_goals
  have HR:=Qa hr;clear hr;go_in;go_wp2_with fail;refine (HR.o _).mono ?_;rintro e w1⟨rfl,hb1⟩;have jA:=(An.new w (#[_,_]) 288).below hb1 (by simp)
  have cA:=jA.cell;have sA:=jA.lt;have hb:=qe (qc (Below.refl _ _) _) hb1;clear hb1 jA;go_upto_region 3 with fail;go_quiet (fail);go_wp2_with fail;go_ret;exact⟨rfl,below_drewN hb _⟩
def YR (n:Nat)(hn:n<18446744073709551616)(s k:Int)(h:RG s k)(w:Aa):Ab ANa 224 #[.int .u64 n,Al #[s,k]] w fun e w'=>e=O (.int .u64 ((n/2 ^ s.toNat%2 ^ k.toNat:Nat):Int))/\Ae w w w':=by
 have hr:=WQ s k h;have hm:=JI s k h;have ha:=GY n s.toNat k.toNat;rcases h with⟨rfl,rfl⟩|⟨rfl,rfl⟩|⟨rfl,rfl⟩|⟨rfl,rfl⟩|⟨rfl,rfl⟩
 all_goals
  have HR:=Qa hr;have HM:=Qa hm;have HA:=Qa ha;have hw:=fun (m:Nat)(hm:m<18446744073709551616)=>QK n m hn hm;clear hr hm ha;go_in;go_wp2_with fail;refine (HR.o _).mono ?_;rintro e w1⟨rfl,hb1⟩;have jA:=(An.new w (#[_,_]) 288).below hb1 (by simp)
  have cA:=jA.cell;have sA:=jA.lt;have hb:=qe (qc (Below.refl _ _) _) hb1;clear hb1;go_upto_region 3 with fail;have lA:=fun (e:Later w1)(i:Nat)=>Later.cell jA e i;clear jA;refine qy (by kernel_rfl) (by kernel_rfl) ?_
  repeat (go_big_quiet_step ((go_at_call 242;exact kv (HM.o _))))
  refine wpQuiet_nil ?_;rintro _⟨⟨wt,hbt⟩,rfl⟩;clear lA;go_wp2_with fail;go_ret;refine⟨nf ?_,qe hb hbt⟩;rw[<-HA.o];clear HR HM HA cA sA hb hbt;first
   | (rw[show (30:Int)=((30:Nat):Int) from rfl,hw 30 (by omega)];rfl)
   | (rw[show (480:Int)=((480:Nat):Int) from rfl,hw 480 (by omega)];rfl)
   | (rw[show bits aA Ad (n:Int) 512=((n &&& 512:Nat):Int) from hw 512 (by omega)];rfl)
   | (rw[show bits aA Ad (n:Int) 1024=((n &&& 1024:Nat):Int) from hw 1024 (by omega)];rfl)
   | (rw[show bits aA Ad (n:Int) 2048=((n &&& 2048:Nat):Int) from hw 2048 (by omega)];rfl)
def nu (n:Nat)(hn:n<18446744073709551616)(s:Int)(h:s=1\/s=5)(w:Aa):Ab ANa 190 #[.int .u64 n,s] w fun e w'=>e=O (I Z ((n/2 ^ s.toNat%16:Nat):Int))/\Ae w w w':=by
 have hg:=YR n hn s 4 (by rcases h with rfl|rfl<;>simp[RG])
 have hlt:n/2 ^ s.toNat%16<16:=Nat.mod_lt _ (by omega)
 have e:n/2 ^ s.toNat%2 ^ (4:Int).toNat=n/2 ^ s.toNat%16:=rfl;rw[e]at hg;generalize n/2 ^ s.toNat%16=q at *;have HG:=Qa hg;clear hg h e;go_in;go_wp2_with fail;refine (HG.o _).mono ?_
 rintro e w1⟨rfl,hb1⟩
 go_wp2_with fail;go_ret;exact⟨rfl,hb1⟩
def nn (n:Nat)(hn:n<18446744073709551616)(s:Int)(h:s=9\/s=10\/s=11)(b:Bool)(hb:n/2 ^ s.toNat%2=if b then 1 else 0)(w:Aa) :
  Ab ANa 191 #[.int .u64 n,s] w fun e w'=>e=O (.bool b)/\Ae w w w':=by
 have hg:=YR n hn s 1 (by rcases h with rfl|rfl|rfl<;>simp[RG])
 have e:n/2 ^ s.toNat%2 ^ (1:Int).toNat=n/2 ^ s.toNat%2:=rfl;rw[e,hb]at hg;have HG:=Qa hg;clear hg h e hb
 cases b
 all_goals
  go_in;go_wp2_with fail;refine (HG.o _).mono ?_;rintro e w1⟨rfl,hb1⟩;go_wp2_with fail;go_ret;exact⟨rfl,hb1⟩
def SU (k:Int)(hk:k=0\/k=9\/k=10\/k=11)(b:Bool)(w:Aa):Ab ANa 225 #[k,b] w fun e w'=>e=O (.int .u64 (kq k.toNat b:Nat))/\w'=w:=by
 rcases hk with rfl|rfl|rfl|rfl<;>cases b
 all_goals
  go_in;go_wp2_with fail;go_ret;exact⟨rfl,rfl⟩
abbrev ka (s:BQ):Ac:=Al #[s.p,s.d,.bool s.AA,.bool s.final]
def fm (s:BQ)(h:s.ok)(w:Aa):Ab ANa 145 #[ka s] w fun e w'=>e=O (.bool true)/\Ae w w w':=by
 obtain⟨p,d,wk,fn⟩:=s;obtain⟨h1,h2,h3⟩:=h;simp only at h1 h2 h3
 cases wk
 ·clear h3
  go_in;go_wp2_with fail;go_ret;exact⟨rfl,qc (Below.refl _ _) _⟩
 ·obtain⟨rfl,rfl,rfl⟩:=h3 rfl
  go_in;go_wp2_with fail;go_ret;exact⟨rfl,qc (Below.refl _ _) _⟩
def yj (s:BQ)(h:s.ok)(w:Aa):Ab ANa 128 #[ka s] w fun e w'=>e=O (Ak #[I Z ((3+s.p+s.d:Nat):Int),true])/\Ae w w w':=by
 have hr:=fm s h;obtain⟨p,d,wk,fn⟩:=s;obtain⟨h1,h2,h3⟩:=h;simp only at h1 h2 h3 hr;have HR:=Qa hr;clear h3 hr;go_in;go_wp2_with fail;refine (HR.o _).mono ?_
 rintro e w1⟨rfl,hb1⟩
 have jA:=(An.new w (#[_,_,_,_]) 82).below hb1 (by simp)
 have cA:=jA.cell;have sA:=jA.lt;have hb:=qe (qc (Below.refl _ _) _) hb1;clear hb1 jA;go_wp2_with fail;go_ret2;exact⟨by simp,hb⟩
def Gh (a b k:Nat)(ha:a<2 ^ k)(hb:b<2 ^ k):a ||| b<2 ^ k:=Nat.or_lt_two_pow ha hb
def qho (p d:Nat)(hp:p<=8)(hd:d<=8)(wk fn fr:Bool) :
  bits aj Ad (bits aj Ad (bits aj Ad (bits aj Ad (bits aj Ad ((kq 0 true:Nat):Int) ((p:Int)*2)) ((d:Int)*32)) ((kq 9 wk:Nat):Int)) ((kq 10 fn:Nat):Int)) ((kq 11 fr:Nat):Int) =
   ((((((1 ||| 2*p) ||| 32*d) ||| kq 9 wk) ||| kq 10 fn) ||| kq 11 fr:Nat):Int):=by
 have e0:kq 0 true=1:=rfl;have e1:(p:Int)*2=((2*p:Nat):Int):=by omega
 have e2:(d:Int)*32=((32*d:Nat):Int):=by omega
 have b9:=jr 9 wk;have b10:=jr 10 fn;have b11:=jr 11 fr;have l1:1 ||| 2*p<2 ^ 12:=Gh _ _ _ (by omega) (by omega)
 have l2:(1 ||| 2*p) ||| 32*d<2 ^ 12:=Gh _ _ _ l1 (by omega)
 have l3:((1 ||| 2*p) ||| 32*d) ||| kq 9 wk<2 ^ 12:=Gh _ _ _ l2 (by omega)
 have l4:(((1 ||| 2*p) ||| 32*d) ||| kq 9 wk) ||| kq 10 fn<2 ^ 12:=Gh _ _ _ l3 (by omega)
 rw[e0,e1,e2,QM 1 (2*p) (by omega) (by omega),QM _ (32*d) (by omega) (by omega),QM _ _ (by omega) (by omega),QM _ _ (by omega) (by omega),QM _ _ (by omega) (by omega)]
def cw (s:BQ)(h:s.ok)(fr:Bool)(w:Aa):Ab ANa 192 #[ka s,fr] w fun e w'=>e=O (Ak #[.int .u64 (head s fr:Nat),true])/\Ae w w w':=by
 have hr:=fm s h;have ho:=L6 s fr h;obtain⟨p,d,wk,fn⟩:=s;obtain⟨h1,h2,h3⟩:=h;simp only at h1 h2 h3 hr ho;have HR:=Qa hr;have HO:=Qa ho;clear h3 hr ho;go_in;go_wp2_with fail;refine (HR.o _).mono ?_
 rintro e w1 ⟨rfl,hb1⟩
 have jA:=(An.new w (#[_,_,_,_]) 82).below hb1 (by simp)
 have cA:=jA.cell;have sA:=jA.lt;have hb:=qe (qc (Below.refl _ _) _) hb1;clear hb1 jA;go_upto_region 3 with fail;go_quiet ((go_at_call 225;exact Aj (SU 0 (by simp) true _)))
 go_upto_region 4 with fail;obtain⟨w2,hw2⟩:=Ja0 (w1.drewN nq);have cB:∀ i,w2.cell? ⟨w.1.size,i,none⟩=#[aC .i64 p,d,wk,fn][i]?:=by rw[hw2];exact cA
 have hbB:Ae w w w2:=by rw[hw2];exact zo hb _
 rw[<-hw2];clear hw2 cA sA hb;go_quiet ((go_at_call 225;first|with_reducible exact Aj (SU 9 (by simp) wk _)|with_reducible exact Aj (SU 10 (by simp) fn _)|with_reducible exact Aj (SU 11 (by simp) fr _)))
 go_wp2_with fail;go_ret2;refine⟨?_,zo hbB _⟩;rw[<-HO.o,<-qho p d h1 h2];rfl
def qly (s:BQ)(h:s.ok)(fr:Bool)(w:Aa):Ab ANa 131 #[.int .u64 (head s fr:Nat)] w fun e w'=>e=O (Ak #[ka s,fr,true])/\Ae w w w':=by
 have hh:=cw s h fr;have hlt:=UX s fr h;have hb:=qp5 s fr h;have hp:=nu (head s fr) (by omega) 1 (by simp)
 have hd:=nu (head s fr) (by omega) 5 (by simp)
 have hwk:=nn (head s fr) (by omega) 9 (by simp) s.AA hb.1
 have hfn:=nn (head s fr) (by omega) 10 (by simp) s.final hb.2.1
 have hfr:=nn (head s fr) (by omega) 11 (by simp) fr hb.2.2
 have ep:head s fr/2 ^ (1:Int).toNat%16=s.p:=Pp s fr h;have ed:head s fr/2 ^ (5:Int).toNat%16=s.d:=Po s fr h;rw[ep]at hp;rw[ed]at hd;obtain⟨p,d,wk,fn⟩:=s;simp only at hh hp hd hwk hfn;generalize head ⟨p,d,wk,fn⟩ fr=q at *;have HH:=Qa hh;have HP:=Qa hp;have HD:=Qa hd;have HW:=Qa hwk;have HN:=Qa hfn;have HF:=Qa hfr;clear hh hp hd hwk hfn hfr ep ed h hb;go_in;go_wp2_with fail;refine (HP.o _).mono ?_
 rintro e w1 ⟨rfl,hb1⟩
 have jR:=(An.new w (#[_,_,_,_]) 82).below hb1 (by simp)
 have hw1:=qe (qc (Below.refl _ _) _) hb1;clear hb1;go_wp2_with fail;refine (HD.o _).mono ?_
 rintro e w2 ⟨rfl,hb2⟩
 have dR:=jR.below hb2 jR.lt;have hw2:=qe hw1 hb2;clear hb2 jR hw1;go_wp2_with fail;refine (HW.o _).mono ?_
 rintro e w3 ⟨rfl,hb3⟩
 have eX:=dR.below hb3 dR.lt;have hw3:=qe hw2 hb3;clear hb3 dR hw2;go_wp2_with fail;refine (HN.o _).mono ?_
 rintro e w4 ⟨rfl,hb4⟩
 have lI:=eX.below hb4 eX.lt;have hw4:=qe hw3 hb4;have c4:=lI.cell;have s4:=lI.lt;have z4:=lI.free;clear hb4 eX hw3;go_wp2_with fail;refine (HF.o _).mono ?_
 rintro e w5 ⟨rfl,hb5⟩
 have gZ:An w5 w #[p,d,wk,fn] 82:=((((lI.set 0 _).set 1 _).set 2 _).set 3 _).below hb5 (by simp;omega)
 have pO:Ae w w w5:=qe (qo (qo (qo (qo hw4 (Qk _) _) (Qk _) _) (Qk _) _) (Qk _) _) hb5;have c5:=gZ.cell;have s5:=gZ.lt;clear hb5 lI hw4 c4 s4 z4;go_wp2_with fail;refine (HH.o _).mono ?_
 rintro e w6 ⟨rfl,hb6⟩
 have xW:=gZ.below hb6 gZ.lt;have gY:=qe pO hb6;have c6:=xW.cell;have s6:=xW.lt;have z6:=xW.free;clear hb6 gZ pO c5 s5;go_wp2_with fail;refine bodyPost_ret (v:=Ak #[ka ⟨p,d,wk,fn⟩,fr,true]) (by simp[results,results131,go_sem,c6]) rfl ⟨rfl,?_⟩
 repeat (first|exact gY|refine qo ?_ (Qk _) _)
def Sx (v:Int)(h:0<=v/\v<=1099511627776)(w:Aa):Ab ANa 199 #[v] w fun e w'=>e=O (Ak #[.int .u64 (2*v),true])/\w=w':=by
 obtain⟨h1,h2⟩:=h;go_in;go_wp2_with fail;go_ret2;exact⟨rfl,rfl⟩
def Uj (t:Int)(h:0<=t/\t<8)(w:Aa):Ab ANa 227 #[t] w fun e w'=>e=O (Ak #[.int .u64 (2*t+1),true])/\w=w':=by
 obtain⟨h1,h2⟩:=h;go_in;go_wp2_with fail;go_ret2;exact⟨rfl,rfl⟩
def L8 (t:Int)(h:8<=t)(w:Aa):Ab ANa 227 #[t] w fun e w'=>e=O (Ak #[.int .u64 0,false])/\w=w':=by
 have h0:0<=t:=by omega
 go_in;go_wp2_with fail;go_ret2;exact⟨rfl,rfl⟩
def qlt (t:Int)(h:0<=t/\t<8)(w:Aa):Ab ANa 197 #[.int .u64 (2*t+1)] w fun e w'=>e=O (Ak #[t,(),true])/\w=w':=by
 have hh:=Qa (Uj t h);have e1:(2*t+1)/2=t:=by omega
 have E:=Qa e1;obtain⟨h1,h2⟩:=h;clear e1;obtain⟨q,hq⟩:∃ q,q=2*t+1:=⟨_,rfl⟩;rw[<-hq]at hh E ⊢;have hq1:0<=q:=by omega
 have hq2:q<=20:=by omega
 clear hq;go_in;go_wp2_with fail;rw[E.o];refine (hh.o _).mono ?_
 rintro e w1⟨rfl,rfl⟩
 go_wp2_with fail;go_ret3;exact⟨rfl,rfl⟩
def qna (v:Int)(h:0<=v/\v<=1099511627776)(w:Aa):Ab ANa 197 #[.int .u64 (2*v)] w fun e w'=>e=O (Ak #[(),v,false])/\w=w':=by
 have hf:=Qa (Sx v h);have e1:(2*v)/2=v:=by omega
 have E:=Qa e1;obtain⟨h1,h2⟩:=h;clear e1;by_cases h8:v<8
 ·have hh:=Qa (Uj v ⟨h1,h8⟩)
  obtain⟨q,hq⟩:∃ q,q=2*v:=⟨_,rfl⟩;rw[<-hq]at hf E hh ⊢;have hq1:0<=q:=by omega
  have hq2:q<=2199023255552:=by omega
  have hne:(q+1==q)=false:=Qh.2 (by omega)
  clear hq;go_in;go_wp2_with fail
  try rw[E.o]
  refine (hh.o _).mono ?_;rintro e w1 ⟨rfl,rfl⟩;go_wp2_with fail
  try rw[E.o]
  refine (hf.o _).mono ?_;rintro e w1 ⟨rfl,rfl⟩;go_wp2_with fail;go_ret3;exact⟨rfl,rfl⟩
 ·have hh:=Qa (L8 v (by omega))
  obtain⟨q,hq⟩:∃ q,q=2*v:=⟨_,rfl⟩;rw[<-hq]at hf E ⊢;have hq1:0<=q:=by omega
  have hq2:q<=2199023255552:=by omega
  clear hq;go_in;go_wp2_with fail
  try rw[E.o]
  refine (hh.o _).mono ?_;rintro e w1 ⟨rfl,rfl⟩;go_wp2_with fail
  try rw[E.o]
  refine (hf.o _).mono ?_;rintro e w1 ⟨rfl,rfl⟩;go_wp2_with fail;go_ret3;exact⟨rfl,rfl⟩
structure Wr (b:Nat)(w w':Aa):Prop where
 os:w'.os=w.os
 tape:w'.tape=w.tape
 output:w'.output=w.output
 size:w.1.size<=w'.1.size
 block:∀ k,k<w.1.size->k≠b->w'.heap[k]?=w.heap[k]?
def Wr.refl (b:Nat)(w:Aa):Wr b w w:=⟨rfl,rfl,rfl,Qk _,fun _ _ _=>rfl⟩
def Wr.trans {b:Nat}{w w1 w2:Aa}(h:Wr b w w1)(k:Wr b w1 w2):Wr b w w2:=
 ⟨k.os.trans h.os,k.tape.trans h.tape,k.output.trans h.output,Qo h.size k.size,fun j hj hn=>(k.block j (Qn hj h.size) hn).trans (h.block j hj hn)⟩
def Wr.of_below {b:Nat}{w w':Aa}(h:Ae w w w'):Wr b w w':=⟨h.os,h.tape,h.output,h.size,fun k hk _=>h.block k hk⟩
def Wr.set (b:Nat)(w:Aa)(i:Nat)(v:Ac):Wr b w (w.setCell ⟨b,i,none⟩ v):=⟨rfl,rfl,rfl,by simp[ag],fun k _ hn=>Below.heap_setCell _ _ _ _ hn⟩
def Wr.Cb {b:Nat}{w w1 w2:Aa}(h:Wr b w w1)(k:Ae w1 w1 w2):Wr b w w2:=h.trans (.of_below k)
def An.wr {b c:Nat}{w w':Aa}{cs:Array Ac}{t:TypeId}(h:An w c cs t)(k:Wr b w w')(hn:c≠b):An w' c cs t:=h.of_eq (k.block c h.lt hn)
def EV (m:Int):Int:=min (max m 0) 1099511627776
def LG (m:Int)(w:Aa) :
  Ab ANa 41 #[m] w fun e w'=>e=O (Ah (some ⟨w,0,none⟩))/\w'=w.alloc (.cells #[(),I Z (EV m)] 149):=by
 rcases Int.lt_or_le m 0 with h|h
 ·have e:EV m=0:=by unfold EV;omega
  rw[e];go_in;go_wp2;go_ret;exact⟨rfl,rfl⟩
 ·rcases Int.lt_or_le 1099511627776 m with h2|h2
  ·have e:EV m=1099511627776:=by unfold EV;omega
   rw[e];go_in;go_wp2;go_ret;exact⟨rfl,rfl⟩
  ·have e:EV m=m:=by unfold EV;omega
   rw[e];clear e;go_in;go_wp2;go_ret;exact⟨rfl,rfl⟩
def U1 {w:Aa}{b:Nat}{n m:Int}(h:An w b #[n,m] 149) :
  Ab ANa 64 #[Ah (some ⟨b,0,none⟩)] w fun e w'=>e=O n/\w=w':=by
 have h0:w.cell? ⟨b,0,none⟩=some (I Z n):=h.cell 0;have hl:=run_call_load (P:=ANa) func166 (by kernel_rfl) (by kernel_rfl) (by kernel_rfl) .i64 (by kernel_rfl) h0
 clear h;go_in;go_wp2;go_ret;exact⟨rfl,rfl⟩
def LF {w:Aa}{b:Nat}{n m:Int}(h:An w b #[n,m] 149)(k:Int)(l0:0<=n)(l1:n<=m)(l2:m<=1099511627776)(hk:0<=k) :
  Ab ANa 134 #[Ah (some ⟨b,0,none⟩),k] w fun e w'=>e=O (.bool (decide (k<=m-n)))/\Ae w w w':=by
 have hd:decide (0<=k)=true:=by simpa using hk
 have h1:w.cell? ⟨b,1,none⟩=some (I Z m):=h.cell 1;have H:=Qa h;clear h;go_in;go_wp2;go_quiet ((go_at_call 64;exact Aj ((U1 (H.o.drewN _)).mono fun _ _ ⟨a,b⟩=>⟨a,b.symm⟩)))
 go_wp2;go_ret;exact⟨rfl,below_drewN (Below.refl _ _) _⟩
def Hc {w:Aa} {b:Nat} {n m:Int} (h:An w b #[n,m] 149) (l0:0<=n) (l1:n<m) (l2:m<=1099511627776) :
  Ab ANa 142 #[Ah (some ⟨b,0,none⟩)] w fun e w'=>e=O (Ak #[I Z (n+1),true])/\An w' b #[I Z (n+1),m] 149/\Wr b w w':=by
 have h0:w.cell? ⟨b,0,none⟩=some (I Z n):=h.cell 0;have h1:w.cell? ⟨b,1,none⟩=some (I Z m):=h.cell 1;have f0:w.frozen? ⟨b,0,none⟩=false:=h.free 0;have hl:=run_call_load (P:=ANa) func166 (by kernel_rfl) (by kernel_rfl) (by kernel_rfl) .i64 (by kernel_rfl) h0
 have hcas:=run_call_cas_hit (P:=ANa) func228 (by kernel_rfl) (by kernel_rfl) (by kernel_rfl) .i64 (by kernel_rfl) (y:=n+1) h0 f0
 have H:=Qa h;clear h;go_in;go_wp2;refine wp_loop_rounds 1 ?_;rw[rounds_succ];go_wp2;go_ret2;exact⟨rfl,H.o.set 0 _,Wr.set _ _ _ _⟩
structure BR (w:Aa)(a wd L:Nat)(f:Nat->Nat):Prop where
 Cm:An w a #[Ai (some ⟨wd,0,none⟩) L L] 180
 ne:a≠wd
 words:∃ cs:Array Ac,An w wd cs 203/\cs.size=L/\∀ i,i<L->cs[i]?=some (.int .u64 (f i:Int))
 le:L<=65536
def BR.cell {w:Aa}{a wd L:Nat}{f:Nat->Nat}(h:BR w a wd L f){i:Nat}(hi:i<L):w.cell? ⟨wd,i,none⟩=some (.int .u64 (f i:Int)):=by
 obtain⟨cs,hb,_,hc⟩:=h.words;rw[hb.cell,hc i hi]
def BR.free {w:Aa}{a wd L:Nat}{f:Nat->Nat}(h:BR w a wd L f)(i:Nat):w.frozen? ⟨wd,i,none⟩=false:=by
 obtain⟨cs,hb,_,_⟩:=h.words;exact hb.free i
def BR.lt {w:Aa}{a wd L:Nat}{f:Nat->Nat}(h:BR w a wd L f):wd<w.1.size:=by
 obtain⟨cs,hb,_,_⟩:=h.words;exact hb.lt
def BR.below {w w':Aa}{a wd L:Nat}{f:Nat->Nat}(h:BR w a wd L f)(k:Ae w w w'):BR w' a wd L f:=by
 obtain⟨cs,hb,h1,h2⟩:=h.words;exact⟨h.Cm.below k h.Cm.lt,h.ne,⟨cs,hb.below k hb.lt,h1,h2⟩,h.le⟩
def upd (f:Nat->Nat)(i v:Nat):Nat->Nat:=fun j=>if j=i then v else f j
def pz (f:Nat->Nat)(i v:Nat):upd f i v i=v:=by simp[upd]
def upd_ne (f:Nat->Nat)(i v j:Nat)(h:j≠i):upd f i v j=f j:=by simp[upd,h]
def BR.set {w:Aa}{a wd L:Nat}{f:Nat->Nat}(h:BR w a wd L f)(i v:Nat):BR (w.setCell ⟨wd,i,none⟩ (.int .u64 (v:Int))) a wd L (upd f i v):=by
 obtain⟨cs,hb,h1,h2⟩:=h.words;refine⟨h.Cm.Ao h.ne _,h.ne,⟨_,hb.set i _,by simpa using h1,fun j hj=>?_⟩,h.le⟩
 by_cases e:j=i
 ·subst e;rw[pz,Array.getElem?_setIfInBounds_self_of_lt (by omega)]
 ·rw[upd_ne _ _ _ _ e,Array.getElem?_setIfInBounds_ne (fun h=>e h.symm)];exact h2 j hj
def BR.wr {b w w' a wd L f}(h:BR w a wd L f)(k:Wr b w w')(h1:a≠b)(h2:wd≠b):BR w' a wd L f:=by
 obtain⟨cs,hb,g1,g2⟩:=h.words;exact⟨h.Cm.wr k h1,h.ne,⟨cs,hb.wr k h2,g1,g2⟩,h.le⟩
def ss {w:Aa}{a wd L:Nat}{f:Nat->Nat}(h:BR w a wd L f) :
  Ab ANa 132 #[Ah (some ⟨a,0,none⟩)] w fun e w'=>e=O (I Z L)/\w=w':=by
 have c:=h.Cm.cell;have hl:=h.le;clear h;go_in;go_wp2;go_ret;exact⟨rfl,rfl⟩
def UT {w:Aa}{a wd L:Nat}{f:Nat->Nat}(h:BR w a wd L f)(z:Int)(i:Nat)(hz:z=i)(hi:i<L) :
  Ab ANa 130 #[Ah (some ⟨a,0,none⟩),z] w fun e w'=>e=O (Ak #[.int .u64 (f i),()])/\w=w':=by
 subst hz;have c:=h.Cm.cell;have ci:=h.cell hi;have hl:=h.le;have H:=Qa (ss h);clear h;go_in;go_wp2_with fail;refine H.o.mono ?_
 rintro e w1 ⟨rfl,rfl⟩
 go_wp2;go_ret2;exact⟨rfl,rfl⟩
def Db {w:Aa}{a wd L:Nat}{f:Nat->Nat}(h:BR w a wd L f)(z:Int)(i v:Nat)(hz:z=i)(hi:i<L)(u:Int)(hu:u=v) :
  Ab ANa 170 #[Ah (some ⟨a,0,none⟩),z,.int .u64 u] w fun e w'=>e=O (I Z 0)/\BR w' a wd L (upd f i v)/\Wr wd w w':=by
 subst hz hu;have c:=h.Cm.cell;have ci:=h.cell hi;have fi:=h.free i;have hl:=h.le;have H:=Qa (ss h);have HH:=Qa h;clear h;go_in;go_wp2_with fail;refine H.o.mono ?_
 rintro e w1 ⟨rfl,rfl⟩
 go_wp2;go_ret;exact⟨rfl,HH.o.set i v,Wr.set _ _ _ _⟩
def Jw:∃ i,ANa.info? 203=some i/\i.zero=some (.int .u64 0)/\i.size=1/\i.bytes=8:=info_parts (by kernel_rfl)
def Ms (n j:Nat)(h:j<n):(madeCells #[aC .u64 0] n)[j]?=some (.int .u64 0):=by
 unfold madeCells;rw[Array.getElem?_map,Array.getElem?_range,if_pos h];simp[Nat.mod_one]
def GZ (L:Nat)(h1:1<=L)(h2:L<=65536)(z:Int)(hz:z=L)(w:Aa):Ab ANa 68 #[z] w fun e w' =>
  ∃ a wd,e=O (Ak #[Ah (some ⟨a,0,none⟩),()])/\BR w' a wd L (fun _=>0)/\w.1.size<=a/\w.1.size<=wd/\Ae w w w':=by
 subst hz;obtain⟨i1,hi1,hs1,hy1,hz1⟩:=Jw;have hmk:=fun w=>run_make (P:=ANa) w 178 203 i1 (.int .u64 0) (by kernel_rfl) hi1 hs1 .i64 .i64 L L (by omega) (by omega) (by rw[hz1];omega) (by omega)
 simp only[Int.toNat_natCast,hy1,Nat.mul_one]at hmk;have HI:=Qa hi1;clear hi1 hs1 hy1 hz1;go_in;go_wp2_with fail;go_ret2;refine⟨w.1.size+1,w.1.size,rfl,⟨An.Ax _ _ _ _ _ (by simp) rfl,by omega,⟨_,(An.new w _ _).alloc _,size_madeCells _ _,fun i hi=>Ms L i hi⟩,h2⟩,by omega,by omega,qc (qc (Below.refl _ _) _) _⟩
def bw {w:Aa}{a wd L:Nat}{f:Nat->Nat}(h:BR w a wd L f)(i n:Nat)(z u:Int)(hz:z=i)(hu:u=n)(hi:i+n<=L) :
  Ab ANa 239 #[Ah (some ⟨a,0,none⟩),z,u] w fun e w'=>e=O (.bool true)/\w=w':=by
 subst hz hu;have hl:=h.le;have H:=Qa (ss h);have hi2:(i:Int)+(n:Int)<=(L:Int):=by omega
 clear h;go_in;go_wp2_with fail;refine H.o.mono ?_
 rintro e w1 ⟨rfl,rfl⟩
 go_wp2_with fail;refine H.o.mono ?_
 rintro e w1 ⟨rfl,rfl⟩
 go_wp2_with fail;go_ret;exact⟨by simp;omega,rfl⟩
def Ja (f:Nat->Nat)(i n v:Nat):Nat->Nat:=fun j=>if i<=j/\j<i+n then v else f j
def Jb (f:Nat->Nat)(i k v:Nat):upd (Ja f i k v) (i+k) v=Ja f i (k+1) v:=by
 funext j;unfold upd Ja;by_cases h:j=i+k
 ·rw[if_pos h,if_pos (by omega)]
 ·rw[if_neg h]
  by_cases h2:i<=j/\j<i+k
  ·rw[if_pos h2,if_pos (by omega)]
  ·rw[if_neg h2,if_neg (by omega)]
def Jc (f:Nat->Nat)(i v:Nat):Ja f i 0 v=f:=by funext j;unfold Ja;rw[if_neg (by omega)]
def Ls {w:Aa}{a wd L:Nat}{f:Nat->Nat}(h:BR w a wd L f)(i n v:Nat)(z u x:Int)(hz:z=i)(hu:u=n)(hx:x=v)(hi:i+n<=L) :
  Ab ANa 243 #[Ah (some ⟨a,0,none⟩),z,u,.int .u64 x] w fun e w'=>e=O (I Z 0)/\BR w' a wd L (Ja f i n v)/\Wr wd w w':=by
 subst hz hu hx;have hl:=h.le;have H:=Qa (bw h i n i n rfl rfl hi);go_in;go_wp2_with fail;refine H.o.mono ?_
 rintro e w1 ⟨rfl,rfl⟩
 go_wp2_with fail;go_loopw [9,16] (fun _ ix wr=>∃ k:Nat,ix=I Z k/\k<=n/\BR wr a wd L (Ja f i k v)/\Wr wd w wr) (fun _ ix _=>n-(intOf ix).toNat)
 case atStart=>exact⟨0,rfl,by omega,by rw[Jc];exact h,Wr.refl _ _⟩
 case round =>
  clear h H;obtain⟨k,rfl,hk,hW,hr⟩:=hrel;have c:=hW.Cm.cell;by_cases hlt:k<n
  ·have ci:=hW.cell (i:=i+k) (by omega)
   have fi:=hW.free (i+k);go_wp2_with fail;go_roundw
   case rel=>exact⟨k+1,by simp,by omega,by rw[<-Jb];exact hW.set (i+k) v,hr.trans (Wr.set _ _ _ _)⟩
   case measure=>simp[intOf];omega
  ·obtain rfl:k=n:=by omega
   go_wp2_with fail;go_ret;exact⟨rfl,hW,hr⟩
