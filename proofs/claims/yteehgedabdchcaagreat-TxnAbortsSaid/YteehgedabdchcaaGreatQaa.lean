import Derived.BigQuiet
import Derived.Deep.Cut
import Derived.Deep.DeepCutAuto
import Derived.Deep.QuietTactic
import Derived.Deep.RegionWith
import Derived.IntWalk
import Derived.Laws.Bits64b
import Derived.Laws.EntriesVeiled
import Derived.Lib.Hide
import Derived.Outline
import Derived.Test.YteehgedabdchcaaGreatRows
import Derived.WalkKit
import Derived.WalkLawsBesides
import Derived.WalkSpells
set_option linter.all false
set_option maxRecDepth 1000000
set_option maxHeartbeats 16000000
namespace Go.Proofs.YteehgedabdchcaaGreat
open Go.RowKit
abbrev Tag:=Nat×Nat
abbrev Own:=Nat→Tag
structure Stp (T:Tag→Prop)(o o':Own)(w w':World):Prop where
 os:w'.os=w.os
 tape:w'.tape=w.tape
 output:w'.output=w.output
 size:w.heap.size≤w'.heap.size
 tags:∀ b,b<w.heap.size→o' b=o b
 block:∀ b,b<w.heap.size→¬T (o b)→w'.heap[b]?=w.heap[b]?
theorem Stp.refl (T:Tag→Prop)(o:Own)(w:World):Stp T o o w w:=⟨rfl,rfl,rfl,Nat.le_refl _,fun _ _=>rfl,fun _ _ _=>rfl⟩
theorem Stp.trans {T:Tag→Prop}{o o1 o2:Own}{w w1 w2:World}(h:Stp T o o1 w w1)(k:Stp T o1 o2 w1 w2):Stp T o o2 w w2:=
 ⟨k.os.trans h.os,k.tape.trans h.tape,k.output.trans h.output,Nat.le_trans h.size k.size,
  fun b hb=>(k.tags b (Nat.lt_of_lt_of_le hb h.size)).trans (h.tags b hb),
  fun b hb ht=>(k.block b (Nat.lt_of_lt_of_le hb h.size) (by rw[h.tags b hb];exact ht)).trans (h.block b hb ht)⟩
theorem Stp.mono {T U:Tag→Prop}{o o':Own}{w w':World}(h:Stp T o o' w w')(hu:∀ t,T t→U t):Stp U o o' w w':=
 ⟨h.os,h.tape,h.output,h.size,h.tags,fun b hb ht=>h.block b hb fun k=>ht (hu _ k)⟩
theorem Stp.of_below {T:Tag→Prop}{o:Own}{w w':World}(h:Below w.heap.size w w'):Stp T o o w w':=
 ⟨h.os,h.tape,h.output,h.size,fun _ _=>rfl,fun b hb _=>h.block b hb⟩
theorem Stp.drewN {T:Tag→Prop}{o o':Own}{w w':World}(h:Stp T o o' w w')(n:Nat):Stp T o o' w (w'.drewN n):=
 ⟨h.os,h.tape,h.output,h.size,h.tags,h.block⟩
theorem Stp.drew {T:Tag→Prop}{o o':Own}{w w':World}(h:Stp T o o' w w'):Stp T o o' w w'.drew:=
 ⟨h.os,h.tape,h.output,h.size,h.tags,h.block⟩
theorem Stp.alloc {T:Tag→Prop}{o o':Own}{w w':World}(h:Stp T o o' w w')(x:Obj):Stp T o o' w (w'.alloc x):=
 h.trans (.of_below ((Below.refl _ _).alloc (Nat.le_refl _) _))
theorem Stp.setCell {T:Tag→Prop}{o o':Own}{w w':World}(h:Stp T o o' w w'){a:Addr}(ha:T (o' a.block))(v:Value):Stp T o o' w (w'.setCell a v):=
 h.trans ⟨rfl,rfl,rfl,by simp[World.setCell],fun _ _=>rfl,fun b _ ht=>Below.heap_setCell _ _ _ _ (fun e=>ht (by rw[e];exact ha))⟩
theorem Stp.setCell_new {T:Tag→Prop}{o o':Own}{w w':World}(h:Stp T o o' w w'){a:Addr}(ha:w.heap.size≤a.block)(v:Value):Stp T o o' w (w'.setCell a v):=
 ⟨h.os,h.tape,h.output,by simpa [World.setCell] using h.size,h.tags,fun b hb ht=>(Below.heap_setCell _ _ _ _ (by omega)).trans (h.block b hb ht)⟩
theorem Stp.below {T:Tag→Prop}{o o':Own}{w w':World}(h:Stp T o o' w w')(ht:∀ b,b<w.heap.size→¬T (o b)):Below w.heap.size w w':=
 ⟨h.os,h.tape,h.output,h.size,fun k hk=>h.block k hk (ht k hk)⟩
def ext (o:Own)(n:Nat)(t:Tag):Own:=fun b=>if b<n then o b else t
theorem ext_lt {o:Own}{n:Nat}{t:Tag}{b:Nat}(h:b<n):ext o n t b=o b:=by simp[ext,h]
theorem ext_ge {o:Own}{n:Nat}{t:Tag}{b:Nat}(h:n≤b):ext o n t b=t:=by simp[ext];omega
theorem Stp.ext {T:Tag→Prop}{o o':Own}{w w':World}(h:Stp T o o' w w')(t:Tag)(n:Nat)(hn:w.heap.size≤n):Stp T o (ext o' n t) w w':=
 ⟨h.os,h.tape,h.output,h.size,fun b hb=>(ext_lt (Nat.lt_of_lt_of_le hb hn)).trans (h.tags b hb),h.block⟩
def Blk (w:World)(b:Nat)(cs:Array Value)(t:TypeId):Prop:=w.heap[b]?=some (.cells cs t (0,0))
theorem Blk.lt {w:World}{b:Nat}{cs:Array Value}{t:TypeId}(h:Blk w b cs t):b<w.heap.size:=(Array.getElem?_eq_some_iff.1 h).1
theorem Blk.cell {w:World}{b:Nat}{cs:Array Value}{t:TypeId}(h:Blk w b cs t)(i:Nat):w.cell? ⟨b,i,none⟩=cs[i]?:=by
 unfold Blk at h;simp[World.cell?,h]
theorem Blk.free {w:World}{b:Nat}{cs:Array Value}{t:TypeId}(h:Blk w b cs t)(i:Nat):w.frozen? ⟨b,i,none⟩=false:=by
 unfold Blk at h;simp[World.frozen?,h]
theorem Blk.of_eq {w w':World}{b:Nat}{cs:Array Value}{t:TypeId}(h:Blk w b cs t)(e:w'.heap[b]?=w.heap[b]?):Blk w' b cs t:=by
 unfold Blk at *;rw[e];exact h
theorem Blk.below {w w':World}{b:Nat}{cs:Array Value}{t:TypeId}(h:Blk w b cs t){B:Nat}(k:Below B w w')(hb:b<B):Blk w' b cs t:=h.of_eq (k.block b hb)
theorem Blk.stp {T:Tag→Prop}{o o':Own}{w w':World}{b:Nat}{cs:Array Value}{t:TypeId}(h:Blk w b cs t)(k:Stp T o o' w w')(ht:¬T (o b)):Blk w' b cs t:=h.of_eq (k.block b h.lt ht)
theorem Blk.drewN {w:World}{b:Nat}{cs:Array Value}{t:TypeId}(h:Blk w b cs t)(n:Nat):Blk (w.drewN n) b cs t:=h
theorem Blk.alloc {w:World}{b:Nat}{cs:Array Value}{t:TypeId}(h:Blk w b cs t)(x:Obj):Blk (w.alloc x) b cs t:=h.of_eq (Below.heap_alloc _ _ _ h.lt)
theorem Blk.new (w:World)(cs:Array Value)(t:TypeId):Blk (w.alloc (.cells cs t)) w.heap.size cs t:=by
 unfold Blk;show (w.heap.push _)[w.heap.size]?=_;simp
theorem Blk.set {w:World}{b:Nat}{cs:Array Value}{t:TypeId}(h:Blk w b cs t)(i:Nat)(v:Value):Blk (w.setCell ⟨b,i,none⟩ v) b (cs.setIfInBounds i v) t:=by
 unfold Blk at *;simp only[World.setCell,Array.getElem?_modify,if_true,h];simp
theorem Blk.set_other {w:World}{b:Nat}{cs:Array Value}{t:TypeId}(h:Blk w b cs t){a:Addr}(hb:b≠a.block)(v:Value):Blk (w.setCell a v) b cs t:=
 h.of_eq (Below.heap_setCell _ _ _ _ hb)
def Later (w:World):Type:={ w':World // Below w.heap.size w w' }
instance (w : World) : Nonempty (Later w) := ⟨⟨w, Below.refl _ _⟩⟩
theorem Later.blk {w:World}{b:Nat}{cs:Array Value}{t:TypeId}(h:Blk w b cs t)(e:Later w):Blk e.1 b cs t:=h.below e.2 h.lt
theorem Later.cell {w:World}{b:Nat}{cs:Array Value}{t:TypeId}(h:Blk w b cs t)(e:Later w)(i:Nat):e.1.cell? ⟨b,i,none⟩=cs[i]?:=(Later.blk h e).cell i
theorem Later.free {w:World}{b:Nat}{cs:Array Value}{t:TypeId}(h:Blk w b cs t)(e:Later w)(i:Nat):e.1.frozen? ⟨b,i,none⟩=false:=(Later.blk h e).free i
theorem wp_region_later {P:Program}{id:Nat}{Q:Exit→Act→World→Prop}{a:Act}{w:World}{l:List Oper}(hm:P.follows .mixedOrders=true)(hB:Region.lexB .any l.toArray=true)
  (h:wpQuiet P l.toArray (fun w'=>∃ e:Later w,w'=e.1) (fun a'=>∀ w',(∃ e:Later w,w'=e.1)→Q .normal a' w') l a):(Code.region id l.toArray true).wp P Q a w:=
 wp_region_quiet (C:=fun w'=>∃ e:Later w,w'=e.1) hm hB ⟨⟨{ w with drawn:=w.drawn+1 },⟨rfl,rfl,rfl,Nat.le_refl _,fun _ _=>rfl⟩⟩,rfl⟩ (by simpa using h)
theorem later_of {P:Program}{f:FuncId}{args:Array Value}{w:World}{e:Later w}{v:Value}
  (h:Calls P f args e.1 fun en w'=>en=.returned v∧Below e.1.heap.size e.1 w'):Calls P f args e.1 fun en w''=>en=.returned v∧∃ e2:Later w,w''=e2.1:=
 h.mono fun _ w'⟨he,hb⟩=>⟨he,⟨w',e.2.trans (hb.mono e.2.size)⟩,rfl⟩
theorem balloc {w W:World}(h:Below w.heap.size w W)(o:Obj):Below w.heap.size w (W.alloc o):=h.alloc h.size o
theorem bset {w W:World}(h:Below w.heap.size w W){a:Addr}(ha:w.heap.size≤a.block)(v:Value):Below w.heap.size w (W.setCell a v):=h.setCell ha v
theorem btrans {w W W':World}(h:Below w.heap.size w W)(k:Below W.heap.size W W'):Below w.heap.size w W':=h.trans (k.mono h.size)
theorem Blk.new_at (w:World)(cs cs':Array Value)(t:TypeId)(n:Nat)(hn:n=w.heap.size)(hc:cs=cs'):Blk (w.alloc (.cells cs t)) n cs' t:=by subst hn;subst hc;exact Blk.new _ _ _
theorem below_drewN {B:Nat}{a w:World}(h:Below B a w)(n:Nat):Below B a (w.drewN n):=⟨h.os,h.tape,h.output,h.size,h.block⟩
theorem ret_int {k:IntKind}{a b:Int}(h:a=b):Ending.returned (.int k a)=.returned (.int k b):=by rw[h]
theorem int_bd {a:Int}(h:(Lit.int .i64 a).wf=true):-9223372036854775808≤a∧a≤9223372036854775807:=by
 simp only[Lit.wf,Bool.and_eq_true,decide_eq_true_eq]at h;exact h
structure Row (w:World)(o:Own)(t:Tag)(e:TypeId)(size:Nat)(v:Value)(n:Nat)(xs:List Value):Prop where
 own:w.ownsRow 0 e size v n xs
 tag:∀ k,v.ownBlock=some k→o k=t
theorem Row.nil (w:World)(o:Own)(t:Tag)(e:TypeId)(size:Nat):Row w o t e size (.slice none 0 0) 0 []:=
 ⟨⟨by simp,.inl ⟨rfl,rfl⟩⟩,by intro k hk;simp[Value.ownBlock]at hk⟩
theorem Row.stp {T:Tag→Prop}{o o':Own}{w w':World}{t:Tag}{e:TypeId}{size:Nat}{v:Value}{n:Nat}{xs:List Value}
  (h:Row w o t e size v n xs)(k:Stp T o o' w w')(ht:¬T t):Row w' o' t e size v n xs:=by
 obtain⟨⟨h1,h2⟩,h3⟩:=h;rcases h2 with ⟨rfl,rfl⟩|⟨g,cap,cur,rfl,hg,hh,r⟩
 ·exact⟨⟨h1,.inl ⟨rfl,rfl⟩⟩,by intro k' hk';simp[Value.ownBlock]at hk'⟩
 ·have hlt:g<w.heap.size:=(Array.getElem?_eq_some_iff.1 hh).1
  have hog:=h3 g rfl;refine⟨⟨h1,.inr ⟨g,cap,cur,rfl,hg,?_,r⟩⟩,?_⟩
  ·rw[k.block g hlt (by rw[hog];exact ht)];exact hh
  ·intro k' hk'
   have:g=k':=by simpa [Value.ownBlock] using hk'
   subst this;rw[k.tags g hlt];exact hog
section
variable {P : Program} (w : World)
theorem Row.len {w:World}{o:Own}{t:Tag}{e:TypeId}{size:Nat}{v:Value}{n:Nat}{xs:List Value}(h:Row w o t e size v n xs):xs.length=n*size:=h.own.1
theorem run_append_row (t ty e:TypeId)(i:TypeInfo)(z:Value)(size bytes:Nat)(ht:P.underlying t=some (.slice e))(hi:P.info? e=some i)(hz:i.zero=some z)
  (hsize:i.size=size)(hby:i.bytes=bytes)(hzs:z.cells.size=size)(hsz:0<size)
  (o:Own)(tg:Tag)(v:Value)(n:Nat)(xs:List Value)(hown:Row w o tg e size v n xs)
  (a:Addr)(m c:Nat)(news:List Value)(hl:news.length=m*size)(hnews:∀ j u,news[j]?=some u→w.cell? (a.add j)=some u)(h1:∀ u ∈ news,u.oneCell'=true)
  (h63:n+m≤maxLen)(hbytes:(n+m)*bytes≤140737488355328) :
  ∃ v' w',(Builtin.append_ #[t,t] ty #[v,.slice (some a) m c]).run P w=.ok v' w'∧Row w' (ext o w.heap.size tg) tg e size v' (n+m) (xs++news)∧Stp (fun u=>u=tg) o (ext o w.heap.size tg) w w':=by
 obtain⟨v',w',hr,h2,h3,_⟩:=run_append_own (P:=P) w 0 t ty e i z size bytes ht hi hz hsize hby hzs hsz v n xs hown.own a m c news hl hnews h1 h63 hbytes (Nat.zero_le _);refine⟨v',w',hr,?_⟩;have hb:v'.ownBlock=v.ownBlock∨∀ k,v'.ownBlock=some k→w.heap.size≤k:=by
  subst hsize;have hsmall:n+m≤9223372036854775807:=by simp only[maxLen]at h63;omega
  rcases hown.own.2 with ⟨rfl,rfl⟩|⟨g,cap,cur,rfl,hbg,hg,hnc,hcm,hcs,htake⟩
  ·refine .inr fun k hk=>?_
   have hx:xs=[]:=List.eq_nil_of_length_eq_zero (by simpa using hown.own.1)
   subst hx;by_cases hm:m=0
   ·subst hm
    have hn:news=[]:=List.eq_nil_of_length_eq_zero (by simpa using hl)
    subst hn;have:(Builtin.append_ #[t,t] ty #[.slice none 0 0,.slice (some a) 0 c]).run P w=.ok (.slice none 0 0) w:=by
     simp[Builtin.append_,run_underlying ht,sizeOf,typeInfo,hi,Builtin.lenOf,Builtin.firstCells,loadCells,loadCellsFrom]
    rw[this]at hr;injection hr with e1 e2;rw[←e1]at hk;simp[Value.ownBlock]at hk
   ·have hr':=run_append_nil (P:=P) w t ty e i z ht hi hz a m c news hl hnews (by omega) (by omega) (by subst hby;have hb:=hbytes;simp only[Nat.zero_add]at hb;omega)
    rw[hr']at hr;injection hr with e1 e2;rw[←e1]at hk;simp[Value.ownBlock]at hk;omega
  ·by_cases hroom:n+m≤cap
   ·have hfit:n*i.size+news.length≤cur.size:=by rw[hl,hcs,←Nat.add_mul];exact Nat.mul_le_mul_right _ hroom
    have hr':=run_append_room (P:=P) w t ty e i ht hi g n cap cur hg a m c news hl hnews h1 hroom hfit;rw[hr']at hr;injection hr with e1 e2;left;rw[←e1];rfl
   ·refine .inr fun k hk=>?_
    have holds:∀ j u,xs[j]?=some u→w.cell? ((⟨g,0,none⟩:Addr).add j)=some u:=hown.own.cells (g:=g) rfl;have hr':=run_append_grow (P:=P) w t ty e i z ht hi hz ⟨g,0,none⟩ n cap xs hown.own.1 holds a m c news hl hnews (by omega) (by omega) (growslice_fits (by omega) (by subst hby;exact hbytes))
    rw[hr']at hr;injection hr with e1 e2;rw[←e1]at hk;simp[Value.ownBlock]at hk;omega
 refine⟨⟨h2,?_⟩,⟨h3.os,h3.tape,h3.output,h3.size,fun b hb=>ext_lt hb,fun b hb' ht=>h3.block b hb' ?_⟩⟩
 ·intro k hk
  rcases hb with hv|hv
  ·have hlt:=(hown.own.lt k (hv▸hk)).2
   rw[ext_lt hlt];exact hown.tag k (hv▸hk)
  ·exact ext_ge (hv k hk)
 ·intro e';exact ht (hown.tag b e'.symm)
theorem wpList_append_row {ops:Array Oper}{rest:List Oper}{op:Oper}{a:Act}{Q:Exit→Act→World→Prop}(hgd:op.guard=none)(s x:Operand)(t:TypeId)
  (ho:op.op=.call { callee:=.builtin .append,args:=#[s,x],argTypes:=#[t,t] })
  (e:TypeId)(i:TypeInfo)(z:Value)(size bytes:Nat)(ht:P.underlying t=some (.slice e))(hi:P.info? e=some i)(hz:i.zero=some z)
  (hsize:i.size=size)(hby:i.bytes=bytes)(hzs:z.cells.size=size)(hsz:0<size)
  (o:Own)(tg:Tag)(v:Value)(n:Nat)(xs:List Value)(hs:a.eval s=v)(hown:Row w o tg e size v n xs)
  (ad:Addr)(m c:Nat)(news:List Value)(hx:a.eval x=.slice (some ad) m c)(hl:news.length=m*size)(hnews:∀ j u,news[j]?=some u→w.cell? (ad.add j)=some u)(h1:∀ u ∈ news,u.oneCell'=true)
  (h63:n+m≤maxLen)(hbytes:(n+m)*bytes≤140737488355328)
  (h:∀ v' w',Row w' (ext o w.heap.size tg) tg e size v' (n+m) (xs++news)→Stp (fun u=>u=tg) o (ext o w.heap.size tg) w w'→wpList P ops Q rest (a.put op.dst v') w'):wpList P ops Q (op::rest) a w:=
 wpList_plain hgd fun K hK=>by
  obtain⟨v',w',hr,h2,h3⟩:=run_append_row (P:=P) w t op.type e i z size bytes ht hi hz hsize hby hzs hsz o tg v n xs hown ad m c news hl hnews h1 h63 hbytes;unfold Oper.wp execOp;simp only[ho,resolve,invoke,builtin,Sem.run_bind,Sem.run_pure,Result.andThen_ok,List.map_toArray,List.map_cons,List.map_nil,hs,hx,hr];exact hK _ _ (h v' w' h2 h3)
end
end Go.Proofs.YteehgedabdchcaaGreat
namespace Go.Proofs.YteehgedabdchcaaGreat.Hp
structure Shp where
 p:Nat
 d:Nat
 weak:Bool
 final:Bool
 deriving DecidableEq
def Shp.ok (s:Shp):Prop:=s.p≤8∧s.d≤8∧(s.weak=true→s.p=1∧s.d=0∧s.final=false)
def bitOf (k:Nat)(b:Bool):Nat:=if b then 2 ^ k else 0
def head (s:Shp)(fr:Bool):Nat:=1+2*s.p+32*s.d+bitOf 9 s.weak+bitOf 10 s.final+bitOf 11 fr
theorem or_add (i a b:Nat)(h:b<2 ^ i):b ||| 2 ^ i*a=b+2 ^ i*a:=by
 rw[Nat.or_comm,←Nat.two_pow_add_eq_or_of_lt h,Nat.add_comm]
theorem bitOf_le (k:Nat)(b:Bool):bitOf k b=0∨bitOf k b=2 ^ k:=by unfold bitOf;cases b<;>simp
theorem or_bit (i a:Nat)(b:Bool)(h:a<2 ^ i):a ||| bitOf i b=a+bitOf i b:=by
 cases b
 ·simp[bitOf]
 ·have:=or_add i 1 a h
  simpa [bitOf] using this
theorem head_or (s:Shp)(fr:Bool)(h:s.ok):((((1 ||| 2*s.p) ||| 32*s.d) ||| bitOf 9 s.weak) ||| bitOf 10 s.final) ||| bitOf 11 fr=head s fr:=by
 obtain⟨h1,h2,_⟩:=h;have e1:1 ||| 2*s.p=1+2*s.p:=or_add 1 s.p 1 (by omega)
 have e2:(1+2*s.p) ||| 32*s.d=1+2*s.p+32*s.d:=or_add 5 s.d _ (by omega)
 have b9:=bitOf_le 9 s.weak;have b10:=bitOf_le 10 s.final;rw[e1,e2,or_bit 9 _ _ (by omega),or_bit 10 _ _ (by omega),or_bit 11 _ _ (by omega)]
 unfold head;rfl
theorem head_lt (s:Shp)(fr:Bool)(h:s.ok):head s fr<4096:=by
 obtain⟨h1,h2,_⟩:=h;have b9:=bitOf_le 9 s.weak;have b10:=bitOf_le 10 s.final;have b11:=bitOf_le 11 fr;unfold head;omega
theorem head_odd (s:Shp)(fr:Bool):head s fr%2=1:=by
 have b9:=bitOf_le 9 s.weak;have b10:=bitOf_le 10 s.final;have b11:=bitOf_le 11 fr;unfold head;omega
theorem head_p (s:Shp)(fr:Bool)(h:s.ok):head s fr/2%16=s.p:=by
 obtain⟨h1,h2,_⟩:=h;have b9:=bitOf_le 9 s.weak;have b10:=bitOf_le 10 s.final;have b11:=bitOf_le 11 fr;unfold head;omega
theorem head_d (s:Shp)(fr:Bool)(h:s.ok):head s fr/32%16=s.d:=by
 obtain⟨h1,h2,_⟩:=h;have b9:=bitOf_le 9 s.weak;have b10:=bitOf_le 10 s.final;have b11:=bitOf_le 11 fr;unfold head;omega
theorem head_bits (s:Shp)(fr:Bool)(h:s.ok):head s fr/512%2=(if s.weak then 1 else 0)∧head s fr/1024%2=(if s.final then 1 else 0)∧head s fr/2048%2=(if fr then 1 else 0):=by
 obtain⟨h1,h2,_⟩:=h;unfold head bitOf
 cases s.weak<;>cases s.final<;>cases fr<;>simp<;>omega
theorem and_mask (w s k:Nat):(w &&& (2 ^ k-1)*2 ^ s)/2 ^ s=w/2 ^ s%2 ^ k:=by
 rw[←Nat.shiftLeft_eq,←Nat.shiftRight_eq_div_pow,←Nat.shiftRight_eq_div_pow,Nat.shiftRight_and_distrib,Nat.shiftLeft_shiftRight,Nat.and_two_pow_sub_one_eq_mod]
def zig (n:Int):Int:=if 0≤n then 2*n else -2*n-1
theorem zig_bd {n:Int}(h:-9223372036854775808≤n∧n≤9223372036854775807):0≤zig n∧zig n≤18446744073709551615:=by
 unfold zig;split<;>omega
def rnd (n:Nat):Nat:=if n≤4 then 4 else if n≤6 then 6 else if n≤8 then 8 else if n≤12 then 12 else if n≤16 then 16 else 24
end Go.Proofs.YteehgedabdchcaaGreat.Hp
namespace Go.Proofs.YteehgedabdchcaaGreat
open Go.RowKit
theorem drewB {w:World}{b:Nat}{cs:Array Value}{t:TypeId}(h:Blk w b cs t):Blk w.drew b cs t:=h
theorem bdrew {w W:World}(h:Below w.heap.size w W):Below w.heap.size w W.drew:=Below.drew h
theorem bdrewN {w W:World}(h:Below w.heap.size w W)(n:Nat):Below w.heap.size w (W.drewN n):=below_drewN h n
theorem bsame (w:World):Below w.heap.size w w:=Below.refl _ _
end Go.Proofs.YteehgedabdchcaaGreat
namespace Go.Proofs.YteehgedabdchcaaGreat
open Go.RowKit Hp
theorem wand (w m:Nat) (hw:w<18446744073709551616) (hm:m<18446744073709551616):bits BinOp.and IntKind.u64 (w:Int) (m:Int)=((w &&& m:Nat):Int):=bits_and_u64_nat w m hw hm
theorem wor (w m:Nat) (hw:w<18446744073709551616) (hm:m<18446744073709551616):bits BinOp.or IntKind.u64 (w:Int) (m:Int)=((w ||| m:Nat):Int):=bits_or_u64_nat w m hw hm
def PartOk (s k:Int):Prop:=(s=1∧k=4)∨(s=5∧k=4)∨(s=9∧k=1)∨(s=10∧k=1)∨(s=11∧k=1)
theorem wright_any (s k:Int)(h:PartOk s k)(w:World):Calls Tryz.prog 285 #[.agg #[.int .i64 s,.int .i64 k]] w fun e w'=>e=.returned (.bool true)∧Below w.heap.size w w':=by
 rcases h with⟨rfl,rfl⟩|⟨rfl,rfl⟩|⟨rfl,rfl⟩|⟨rfl,rfl⟩|⟨rfl,rfl⟩
 all_goals
  go_enter Tryz.func285,Tryz.ntmps285;go_wp2_with fail;go_ret;exact⟨rfl,balloc (Below.refl _ _) _⟩
theorem mask_any (s k:Int)(h:PartOk s k)(w:World):Calls Tryz.prog 286 #[.agg #[.int .i64 s,.int .i64 k]] w fun e w'=>e=.returned (.int .u64 ((2 ^ k.toNat-1)*2 ^ s.toNat))∧Below w.heap.size w w':=by
 have hr:=wright_any s k h;rcases h with⟨rfl,rfl⟩|⟨rfl,rfl⟩|⟨rfl,rfl⟩|⟨rfl,rfl⟩|⟨rfl,rfl⟩
 all_goals
  have HR:=Lib.hid hr;clear hr;go_enter Tryz.func286,Tryz.ntmps286;go_wp2_with fail;refine (HR.out _).mono ?_
  rintro e w1⟨rfl,hb1⟩
  have jA:=(Blk.new w (#[_,_]) 349).below hb1 (by simp)
  have cA:=jA.cell;have sA:=jA.lt;have hb:=btrans (balloc (Below.refl _ _) _) hb1;clear hb1 jA;go_upto_region 3 with fail;go_quiet (fail);go_wp2_with fail;go_ret;exact⟨rfl,below_drewN hb _⟩
theorem get_any (n:Nat)(hn:n<18446744073709551616)(s k:Int)(h:PartOk s k)(w:World):Calls Tryz.prog 273 #[.int .u64 n,.agg #[.int .i64 s,.int .i64 k]] w fun e w'=>e=.returned (.int .u64 ((n/2 ^ s.toNat%2 ^ k.toNat:Nat):Int))∧Below w.heap.size w w':=by
 have hr:=wright_any s k h;have hm:=mask_any s k h;have ha:=and_mask n s.toNat k.toNat;rcases h with⟨rfl,rfl⟩|⟨rfl,rfl⟩|⟨rfl,rfl⟩|⟨rfl,rfl⟩|⟨rfl,rfl⟩
 all_goals
  have HR:=Lib.hid hr;have HM:=Lib.hid hm;have HA:=Lib.hid ha;have hw:=fun (m:Nat)(hm:m<18446744073709551616)=>wand n m hn hm
  clear hr hm ha;go_enter Tryz.func273,Tryz.ntmps273;go_wp2_with fail;refine (HR.out _).mono ?_
  rintro e w1⟨rfl,hb1⟩
  have jA:=(Blk.new w (#[_,_]) 349).below hb1 (by simp)
  have cA:=jA.cell;have sA:=jA.lt;have hb:=btrans (balloc (Below.refl _ _) _) hb1;clear hb1;go_upto_region 3 with fail;have lA:=fun (e:Later w1)(i:Nat)=>Later.cell jA e i
  clear jA;refine wp_region_later (by kernel_rfl) (by kernel_rfl) ?_
  repeat (go_big_quiet_step ((go_at_call 286;exact later_of (HM.out _))))
  refine wpQuiet_nil ?_
  rintro _⟨⟨wt,hbt⟩,rfl⟩
  clear lA;go_wp2_with fail;go_ret;refine⟨ret_int ?_,btrans hb hbt⟩;rw[←HA.out];clear HR HM HA cA sA hb hbt;first
   | (rw[show (30:Int)=((30:Nat):Int) from rfl,hw 30 (by omega)];rfl)
   | (rw[show (480:Int)=((480:Nat):Int) from rfl,hw 480 (by omega)];rfl)
   | (rw[show bits BinOp.and IntKind.u64 (n:Int) 512=((n &&& 512:Nat):Int) from hw 512 (by omega)];rfl)
   | (rw[show bits BinOp.and IntKind.u64 (n:Int) 1024=((n &&& 1024:Nat):Int) from hw 1024 (by omega)];rfl)
   | (rw[show bits BinOp.and IntKind.u64 (n:Int) 2048=((n &&& 2048:Nat):Int) from hw 2048 (by omega)];rfl)
theorem count_any (n:Nat)(hn:n<18446744073709551616)(s:Int)(h:s=1∨s=5)(w:World):Calls Tryz.prog 245 #[.int .u64 n,.int .i64 s] w fun e w'=>e=.returned (.int .i64 ((n/2 ^ s.toNat%16:Nat):Int))∧Below w.heap.size w w':=by
 have hg:=get_any n hn s 4 (by rcases h with rfl|rfl<;>simp[PartOk])
 have hlt:n/2 ^ s.toNat%16<16:=Nat.mod_lt _ (by omega)
 have e:n/2 ^ s.toNat%2 ^ (4:Int).toNat=n/2 ^ s.toNat%16:=rfl;rw[e]at hg;generalize n/2 ^ s.toNat%16=q at *;have HG:=Lib.hid hg;clear hg h e;go_enter Tryz.func245,Tryz.ntmps245;go_wp2_with fail;refine (HG.out _).mono ?_
 rintro e w1⟨rfl,hb1⟩
 go_wp2_with fail;go_ret;exact⟨rfl,hb1⟩
theorem has_any (n:Nat)(hn:n<18446744073709551616)(s:Int)(h:s=9∨s=10∨s=11)(b:Bool)(hb:n/2 ^ s.toNat%2=if b then 1 else 0)(w:World) :
  Calls Tryz.prog 246 #[.int .u64 n,.int .i64 s] w fun e w'=>e=.returned (.bool b)∧Below w.heap.size w w':=by
 have hg:=get_any n hn s 1 (by rcases h with rfl|rfl|rfl<;>simp[PartOk])
 have e:n/2 ^ s.toNat%2 ^ (1:Int).toNat=n/2 ^ s.toNat%2:=rfl;rw[e,hb]at hg;have HG:=Lib.hid hg;clear hg h e hb
 cases b
 all_goals
  go_enter Tryz.func246,Tryz.ntmps246;go_wp2_with fail;refine (HG.out _).mono ?_
  rintro e w1⟨rfl,hb1⟩
  go_wp2_with fail;go_ret;exact⟨rfl,hb1⟩
theorem bit_any (k:Int)(hk:k=0∨k=9∨k=10∨k=11)(b:Bool)(w:World):Calls Tryz.prog 271 #[.int .i64 k,.bool b] w fun e w'=>e=.returned (.int .u64 (bitOf k.toNat b:Nat))∧w'=w:=by
 rcases hk with rfl|rfl|rfl|rfl<;>cases b
 all_goals
  go_enter Tryz.func271,Tryz.ntmps271;go_wp2_with fail;go_ret;exact⟨rfl,rfl⟩
abbrev shpV (s:Shp):Value:=.agg #[.int .i64 s.p,.int .i64 s.d,.bool s.weak,.bool s.final]
theorem hright_any (s:Shp)(h:s.ok)(w:World):Calls Tryz.prog 106 #[shpV s] w fun e w'=>e=.returned (.bool true)∧Below w.heap.size w w':=by
 obtain⟨p,d,wk,fn⟩:=s;obtain⟨h1,h2,h3⟩:=h;simp only at h1 h2 h3
 cases wk
 ·clear h3
  go_enter Tryz.func106,Tryz.ntmps106;go_wp2_with fail;go_ret;exact⟨rfl,balloc (Below.refl _ _) _⟩
 ·obtain⟨rfl,rfl,rfl⟩:=h3 rfl
  go_enter Tryz.func106,Tryz.ntmps106;go_wp2_with fail;go_ret;exact⟨rfl,balloc (Below.refl _ _) _⟩
theorem hsize_any (s:Shp)(h:s.ok)(w:World):Calls Tryz.prog 196 #[shpV s] w fun e w'=>e=.returned (.tuple #[.int .i64 ((3+s.p+s.d:Nat):Int),.bool true])∧Below w.heap.size w w':=by
 have hr:=hright_any s h;obtain⟨p,d,wk,fn⟩:=s;obtain⟨h1,h2,h3⟩:=h;simp only at h1 h2 h3 hr;have HR:=Lib.hid hr;clear h3 hr;go_enter Tryz.func196,Tryz.ntmps196;go_wp2_with fail;refine (HR.out _).mono ?_
 rintro e w1⟨rfl,hb1⟩
 have jA:=(Blk.new w (#[_,_,_,_]) 93).below hb1 (by simp)
 have cA:=jA.cell;have sA:=jA.lt;have hb:=btrans (balloc (Below.refl _ _) _) hb1;clear hb1 jA;go_wp2_with fail;go_ret2;exact⟨by simp,hb⟩
theorem or_lt (a b k:Nat)(ha:a<2 ^ k)(hb:b<2 ^ k):a ||| b<2 ^ k:=Nat.or_lt_two_pow ha hb
theorem head_bits_or (p d:Nat)(hp:p≤8)(hd:d≤8)(wk fn fr:Bool) :
  bits BinOp.or IntKind.u64 (bits BinOp.or IntKind.u64 (bits BinOp.or IntKind.u64 (bits BinOp.or IntKind.u64 (bits BinOp.or IntKind.u64 ((bitOf 0 true:Nat):Int) ((p:Int)*2)) ((d:Int)*32)) ((bitOf 9 wk:Nat):Int)) ((bitOf 10 fn:Nat):Int)) ((bitOf 11 fr:Nat):Int) =
   ((((((1 ||| 2*p) ||| 32*d) ||| bitOf 9 wk) ||| bitOf 10 fn) ||| bitOf 11 fr:Nat):Int):=by
 have e0:bitOf 0 true=1:=rfl;have e1:(p:Int)*2=((2*p:Nat):Int):=by omega
 have e2:(d:Int)*32=((32*d:Nat):Int):=by omega
 have b9:=bitOf_le 9 wk;have b10:=bitOf_le 10 fn;have b11:=bitOf_le 11 fr;have l1:1 ||| 2*p<2 ^ 12:=or_lt _ _ _ (by omega) (by omega)
 have l2:(1 ||| 2*p) ||| 32*d<2 ^ 12:=or_lt _ _ _ l1 (by omega)
 have l3:((1 ||| 2*p) ||| 32*d) ||| bitOf 9 wk<2 ^ 12:=or_lt _ _ _ l2 (by omega)
 have l4:(((1 ||| 2*p) ||| 32*d) ||| bitOf 9 wk) ||| bitOf 10 fn<2 ^ 12:=or_lt _ _ _ l3 (by omega)
 rw[e0,e1,e2,wor 1 (2*p) (by omega) (by omega),wor _ (32*d) (by omega) (by omega),wor _ _ (by omega) (by omega),wor _ _ (by omega) (by omega),wor _ _ (by omega) (by omega)]
theorem hhead_any (s:Shp)(h:s.ok)(fr:Bool)(w:World):Calls Tryz.prog 239 #[shpV s,.bool fr] w fun e w'=>e=.returned (.tuple #[.int .u64 (head s fr:Nat),.bool true])∧Below w.heap.size w w':=by
 have hr:=hright_any s h;have ho:=head_or s fr h;obtain⟨p,d,wk,fn⟩:=s;obtain⟨h1,h2,h3⟩:=h;simp only at h1 h2 h3 hr ho;have HR:=Lib.hid hr;have HO:=Lib.hid ho;clear h3 hr ho;go_enter Tryz.func239,Tryz.ntmps239;go_wp2_with fail;refine (HR.out _).mono ?_
 rintro e w1 ⟨rfl,hb1⟩
 have jA:=(Blk.new w (#[_,_,_,_]) 93).below hb1 (by simp)
 have cA:=jA.cell;have sA:=jA.lt;have hb:=btrans (balloc (Below.refl _ _) _) hb1;clear hb1 jA;go_upto_region 3 with fail;go_quiet ((go_at_call 271;exact Calls.quiet_of_same (bit_any 0 (by simp) true _)))
 go_upto_region 4 with fail;obtain⟨w2,hw2⟩:∃ w2,w2=w1.drewN nq:=⟨_,rfl⟩;have cB:∀ i,w2.cell? ⟨w.heap.size,i,none⟩=#[Value.int .i64 p,.int .i64 d,.bool wk,.bool fn][i]?:=by rw[hw2];exact cA
 have hbB:Below w.heap.size w w2:=by rw[hw2];exact bdrewN hb _
 rw[←hw2];clear hw2 cA sA hb;go_quiet ((go_at_call 271;first|with_reducible exact Calls.quiet_of_same (bit_any 9 (by simp) wk _)|with_reducible exact Calls.quiet_of_same (bit_any 10 (by simp) fn _)|with_reducible exact Calls.quiet_of_same (bit_any 11 (by simp) fr _)))
 go_wp2_with fail;go_ret2;refine⟨?_,bdrewN hbB _⟩;rw[←HO.out,←head_bits_or p d h1 h2];rfl
theorem hshape_any (s:Shp)(h:s.ok)(fr:Bool)(w:World):Calls Tryz.prog 198 #[.int .u64 (head s fr:Nat)] w fun e w'=>e=.returned (.tuple #[shpV s,.bool fr,.bool true])∧Below w.heap.size w w':=by
 have hh:=hhead_any s h fr;have hlt:=head_lt s fr h;have hb:=head_bits s fr h;have hp:=count_any (head s fr) (by omega) 1 (by simp)
 have hd:=count_any (head s fr) (by omega) 5 (by simp)
 have hwk:=has_any (head s fr) (by omega) 9 (by simp) s.weak hb.1
 have hfn:=has_any (head s fr) (by omega) 10 (by simp) s.final hb.2.1
 have hfr:=has_any (head s fr) (by omega) 11 (by simp) fr hb.2.2
 have ep:head s fr/2 ^ (1:Int).toNat%16=s.p:=head_p s fr h;have ed:head s fr/2 ^ (5:Int).toNat%16=s.d:=head_d s fr h;rw[ep]at hp;rw[ed]at hd;obtain⟨p,d,wk,fn⟩:=s;simp only at hh hp hd hwk hfn;generalize head ⟨p,d,wk,fn⟩ fr=q at *;have HH:=Lib.hid hh;have HP:=Lib.hid hp;have HD:=Lib.hid hd;have HW:=Lib.hid hwk;have HN:=Lib.hid hfn;have HF:=Lib.hid hfr;clear hh hp hd hwk hfn hfr ep ed h hb;go_enter Tryz.func198,Tryz.ntmps198;go_wp2_with fail;refine (HP.out _).mono ?_
 rintro e w1 ⟨rfl,hb1⟩
 have jR:=(Blk.new w (#[_,_,_,_]) 93).below hb1 (by simp)
 have hw1:=btrans (balloc (Below.refl _ _) _) hb1;clear hb1;go_wp2_with fail;refine (HD.out _).mono ?_
 rintro e w2 ⟨rfl,hb2⟩
 have jR2:=jR.below hb2 jR.lt;have hw2:=btrans hw1 hb2;clear hb2 jR hw1;go_wp2_with fail;refine (HW.out _).mono ?_
 rintro e w3 ⟨rfl,hb3⟩
 have jR3:=jR2.below hb3 jR2.lt;have hw3:=btrans hw2 hb3;clear hb3 jR2 hw2;go_wp2_with fail;refine (HN.out _).mono ?_
 rintro e w4 ⟨rfl,hb4⟩
 have jR4:=jR3.below hb4 jR3.lt;have hw4:=btrans hw3 hb4;have c4:=jR4.cell;have s4:=jR4.lt;have z4:=jR4.free;clear hb4 jR3 hw3;go_wp2_with fail;refine (HF.out _).mono ?_
 rintro e w5 ⟨rfl,hb5⟩
 have jR5:Blk w5 w.heap.size #[.int .i64 p,.int .i64 d,.bool wk,.bool fn] 93:=((((jR4.set 0 _).set 1 _).set 2 _).set 3 _).below hb5 (by simp;omega)
 have hw5:Below w.heap.size w w5:=btrans (bset (bset (bset (bset hw4 (Nat.le_refl _) _) (Nat.le_refl _) _) (Nat.le_refl _) _) (Nat.le_refl _) _) hb5;have c5:=jR5.cell;have s5:=jR5.lt;clear hb5 jR4 hw4 c4 s4 z4;go_wp2_with fail;refine (HH.out _).mono ?_
 rintro e w6 ⟨rfl,hb6⟩
 have jR6:=jR5.below hb6 jR5.lt;have hw6:=btrans hw5 hb6;have c6:=jR6.cell;have s6:=jR6.lt;have z6:=jR6.free;clear hb6 jR5 hw5 c5 s5;go_wp2_with fail;refine bodyPost_ret (v:=.tuple #[shpV ⟨p,d,wk,fn⟩,.bool fr,.bool true]) (by simp[results,Tryz.results198,go_sem,c6]) rfl ⟨rfl,?_⟩
 repeat (first|exact hw6|refine bset ?_ (Nat.le_refl _) _)
theorem free_any (v:Int)(h:0≤v∧v≤1099511627776)(w:World):Calls Tryz.prog 144 #[.int .i64 v] w fun e w'=>e=.returned (.tuple #[.int .u64 (2*v),.bool true])∧w=w':=by
 obtain⟨h1,h2⟩:=h;go_enter Tryz.func144,Tryz.ntmps144;go_wp2_with fail;go_ret2;exact⟨rfl,rfl⟩
theorem held_any (t:Int)(h:0≤t∧t<8)(w:World):Calls Tryz.prog 206 #[.int .i64 t] w fun e w'=>e=.returned (.tuple #[.int .u64 (2*t+1),.bool true])∧w=w':=by
 obtain⟨h1,h2⟩:=h;go_enter Tryz.func206,Tryz.ntmps206;go_wp2_with fail;go_ret2;exact⟨rfl,rfl⟩
theorem held_no (t:Int)(h:8≤t)(w:World):Calls Tryz.prog 206 #[.int .i64 t] w fun e w'=>e=.returned (.tuple #[.int .u64 0,.bool false])∧w=w':=by
 have h0:0≤t:=by omega
 go_enter Tryz.func206,Tryz.ntmps206;go_wp2_with fail;go_ret2;exact⟨rfl,rfl⟩
theorem owner_held (t:Int)(h:0≤t∧t<8)(w:World):Calls Tryz.prog 142 #[.int .u64 (2*t+1)] w fun e w'=>e=.returned (.tuple #[.int .i64 t,.int .i64 0,.bool true])∧w=w':=by
 have hh:=Lib.hid (held_any t h);have e1:(2*t+1)/2=t:=by omega
 have E:=Lib.hid e1;obtain⟨h1,h2⟩:=h;clear e1;obtain⟨q,hq⟩:∃ q,q=2*t+1:=⟨_,rfl⟩;rw[←hq]at hh E ⊢;have hq1:0≤q:=by omega
 have hq2:q≤20:=by omega
 clear hq;go_enter Tryz.func142,Tryz.ntmps142;go_wp2_with fail;rw[E.out];refine (hh.out _).mono ?_
 rintro e w1⟨rfl,rfl⟩
 go_wp2_with fail;go_ret3;exact⟨rfl,rfl⟩
theorem owner_free (v:Int)(h:0≤v∧v≤1099511627776)(w:World):Calls Tryz.prog 142 #[.int .u64 (2*v)] w fun e w'=>e=.returned (.tuple #[.int .i64 0,.int .i64 v,.bool false])∧w=w':=by
 have hf:=Lib.hid (free_any v h);have e1:(2*v)/2=v:=by omega
 have E:=Lib.hid e1;obtain⟨h1,h2⟩:=h;clear e1;by_cases h8:v<8
 ·have hh:=Lib.hid (held_any v ⟨h1,h8⟩)
  obtain⟨q,hq⟩:∃ q,q=2*v:=⟨_,rfl⟩;rw[←hq]at hf E hh ⊢;have hq1:0≤q:=by omega
  have hq2:q≤2199023255552:=by omega
  have hne:(q+1==q)=false:=beq_eq_false_iff_ne.2 (by omega)
  clear hq;go_enter Tryz.func142,Tryz.ntmps142;go_wp2_with fail
  try rw[E.out]
  refine (hh.out _).mono ?_
  rintro e w1 ⟨rfl,rfl⟩
  go_wp2_with fail
  try rw[E.out]
  refine (hf.out _).mono ?_
  rintro e w1 ⟨rfl,rfl⟩
  go_wp2_with fail;go_ret3;exact⟨rfl,rfl⟩
 ·have hh:=Lib.hid (held_no v (by omega))
  obtain⟨q,hq⟩:∃ q,q=2*v:=⟨_,rfl⟩;rw[←hq]at hf E ⊢;have hq1:0≤q:=by omega
  have hq2:q≤2199023255552:=by omega
  clear hq;go_enter Tryz.func142,Tryz.ntmps142;go_wp2_with fail
  try rw[E.out]
  refine (hh.out _).mono ?_
  rintro e w1 ⟨rfl,rfl⟩
  go_wp2_with fail
  try rw[E.out]
  refine (hf.out _).mono ?_
  rintro e w1 ⟨rfl,rfl⟩
  go_wp2_with fail;go_ret3;exact⟨rfl,rfl⟩
structure Wr (b:Nat)(w w':World):Prop where
 os:w'.os=w.os
 tape:w'.tape=w.tape
 output:w'.output=w.output
 size:w.heap.size≤w'.heap.size
 block:∀ k,k<w.heap.size→k≠b→w'.heap[k]?=w.heap[k]?
theorem Wr.refl (b:Nat)(w:World):Wr b w w:=⟨rfl,rfl,rfl,Nat.le_refl _,fun _ _ _=>rfl⟩
theorem Wr.trans {b:Nat}{w w1 w2:World}(h:Wr b w w1)(k:Wr b w1 w2):Wr b w w2:=
 ⟨k.os.trans h.os,k.tape.trans h.tape,k.output.trans h.output,Nat.le_trans h.size k.size,fun j hj hn=>(k.block j (Nat.lt_of_lt_of_le hj h.size) hn).trans (h.block j hj hn)⟩
theorem Wr.of_below {b:Nat}{w w':World}(h:Below w.heap.size w w'):Wr b w w':=⟨h.os,h.tape,h.output,h.size,fun k hk _=>h.block k hk⟩
theorem Wr.set (b:Nat)(w:World)(i:Nat)(v:Value):Wr b w (w.setCell ⟨b,i,none⟩ v):=⟨rfl,rfl,rfl,by simp[World.setCell],fun k _ hn=>Below.heap_setCell _ _ _ _ hn⟩
theorem Wr.below_then {b:Nat}{w w1 w2:World}(h:Wr b w w1)(k:Below w1.heap.size w1 w2):Wr b w w2:=h.trans (.of_below k)
theorem Blk.wr {b c:Nat}{w w':World}{cs:Array Value}{t:TypeId}(h:Blk w c cs t)(k:Wr b w w')(hn:c≠b):Blk w' c cs t:=h.of_eq (k.block c h.lt hn)
def bnd (m:Int):Int:=min (max m 0) 1099511627776
theorem clk_new (m:Int)(w:World) :
  Calls Tryz.prog 103 #[.int .i64 m] w fun e w'=>e=.returned (.pointer (some ⟨w.heap.size,0,none⟩))∧w'=w.alloc (.cells #[.int .i64 0,.int .i64 (bnd m)] 193):=by
 rcases Int.lt_or_le m 0 with h|h
 ·have e:bnd m=0:=by unfold bnd;omega
  rw[e];go_enter Tryz.func103,Tryz.ntmps103;go_wp2;go_ret;exact⟨rfl,rfl⟩
 ·rcases Int.lt_or_le 1099511627776 m with h2|h2
  ·have e:bnd m=1099511627776:=by unfold bnd;omega
   rw[e];go_enter Tryz.func103,Tryz.ntmps103;go_wp2;go_ret;exact⟨rfl,rfl⟩
  ·have e:bnd m=m:=by unfold bnd;omega
   rw[e];clear e;go_enter Tryz.func103,Tryz.ntmps103;go_wp2;go_ret;exact⟨rfl,rfl⟩
theorem clk_now {w:World}{b:Nat}{n m:Int}(h:Blk w b #[.int .i64 n,.int .i64 m] 193) :
  Calls Tryz.prog 54 #[.pointer (some ⟨b,0,none⟩)] w fun e w'=>e=.returned (.int .i64 n)∧w=w':=by
 have h0:w.cell? ⟨b,0,none⟩=some (.int .i64 n):=h.cell 0;have hl:=run_call_load (P:=Tryz.prog) Tryz.func182 (by kernel_rfl) (by kernel_rfl) (by kernel_rfl) .i64 (by kernel_rfl) h0
 clear h;go_enter Tryz.func54,Tryz.ntmps54;go_wp2;go_ret;exact⟨rfl,rfl⟩
theorem clk_may {w:World}{b:Nat}{n m:Int}(h:Blk w b #[.int .i64 n,.int .i64 m] 193)(k:Int)(l0:0≤n)(l1:n≤m)(l2:m≤1099511627776)(hk:0≤k) :
  Calls Tryz.prog 53 #[.pointer (some ⟨b,0,none⟩),.int .i64 k] w fun e w'=>e=.returned (.bool (decide (k≤m-n)))∧Below w.heap.size w w':=by
 have hd:decide (0≤k)=true:=by simpa using hk
 have h1:w.cell? ⟨b,1,none⟩=some (.int .i64 m):=h.cell 1;have H:=Lib.hid h;clear h;go_enter Tryz.func53,Tryz.ntmps53;go_wp2;go_quiet ((go_at_call 54;exact Calls.quiet_of_same ((clk_now (H.out.drewN _)).mono fun _ _ ⟨a,b⟩=>⟨a,b.symm⟩)))
 go_wp2;go_ret;exact⟨rfl,below_drewN (Below.refl _ _) _⟩
theorem clk_tick {w:World} {b:Nat} {n m:Int} (h:Blk w b #[.int .i64 n,.int .i64 m] 193) (l0:0≤n) (l1:n<m) (l2:m≤1099511627776) :
  Calls Tryz.prog 83 #[.pointer (some ⟨b,0,none⟩)] w fun e w'=>e=.returned (.tuple #[.int .i64 (n+1),.bool true])∧Blk w' b #[.int .i64 (n+1),.int .i64 m] 193∧Wr b w w':=by
 have h0:w.cell? ⟨b,0,none⟩=some (.int .i64 n):=h.cell 0;have h1:w.cell? ⟨b,1,none⟩=some (.int .i64 m):=h.cell 1;have f0:w.frozen? ⟨b,0,none⟩=false:=h.free 0;have hl:=run_call_load (P:=Tryz.prog) Tryz.func182 (by kernel_rfl) (by kernel_rfl) (by kernel_rfl) .i64 (by kernel_rfl) h0
 have hcas:=run_call_cas_hit (P:=Tryz.prog) Tryz.func207 (by kernel_rfl) (by kernel_rfl) (by kernel_rfl) .i64 (by kernel_rfl) (y:=n+1) h0 f0
 have H:=Lib.hid h;clear h;go_enter Tryz.func83,Tryz.ntmps83;go_wp2;refine wp_loop_rounds 1 ?_;rw[rounds_succ];go_wp2;go_ret2;exact⟨rfl,H.out.set 0 _,Wr.set _ _ _ _⟩
structure Wds (w:World)(a wd L:Nat)(f:Nat→Nat):Prop where
 arena:Blk w a #[.slice (some ⟨wd,0,none⟩) L L] 307
 ne:a≠wd
 words:∃ cs:Array Value,Blk w wd cs 220∧cs.size=L∧∀ i,i<L→cs[i]?=some (.int .u64 (f i:Int))
 le:L≤65536
theorem Wds.cell {w:World}{a wd L:Nat}{f:Nat→Nat}(h:Wds w a wd L f){i:Nat}(hi:i<L):w.cell? ⟨wd,i,none⟩=some (.int .u64 (f i:Int)):=by
 obtain⟨cs,hb,_,hc⟩:=h.words;rw[hb.cell,hc i hi]
theorem Wds.free {w:World}{a wd L:Nat}{f:Nat→Nat}(h:Wds w a wd L f)(i:Nat):w.frozen? ⟨wd,i,none⟩=false:=by
 obtain⟨cs,hb,_,_⟩:=h.words;exact hb.free i
theorem Wds.lt {w:World}{a wd L:Nat}{f:Nat→Nat}(h:Wds w a wd L f):wd<w.heap.size:=by
 obtain⟨cs,hb,_,_⟩:=h.words;exact hb.lt
theorem Wds.below {w w':World}{a wd L:Nat}{f:Nat→Nat}(h:Wds w a wd L f)(k:Below w.heap.size w w'):Wds w' a wd L f:=by
 obtain⟨cs,hb,h1,h2⟩:=h.words;exact⟨h.arena.below k h.arena.lt,h.ne,⟨cs,hb.below k hb.lt,h1,h2⟩,h.le⟩
def upd (f:Nat→Nat)(i v:Nat):Nat→Nat:=fun j=>if j=i then v else f j
theorem upd_at (f:Nat→Nat)(i v:Nat):upd f i v i=v:=by simp[upd]
theorem upd_ne (f:Nat→Nat)(i v j:Nat)(h:j≠i):upd f i v j=f j:=by simp[upd,h]
theorem Wds.set {w:World}{a wd L:Nat}{f:Nat→Nat}(h:Wds w a wd L f)(i v:Nat):Wds (w.setCell ⟨wd,i,none⟩ (.int .u64 (v:Int))) a wd L (upd f i v):=by
 obtain⟨cs,hb,h1,h2⟩:=h.words;refine⟨h.arena.set_other h.ne _,h.ne,⟨_,hb.set i _,by simpa using h1,fun j hj=>?_⟩,h.le⟩
 by_cases e:j=i
 ·subst e;rw[upd_at,Array.getElem?_setIfInBounds_self_of_lt (by omega)]
 ·rw[upd_ne _ _ _ _ e,Array.getElem?_setIfInBounds_ne (fun h=>e h.symm)];exact h2 j hj
theorem Wds.wr {b w w' a wd L f}(h:Wds w a wd L f)(k:Wr b w w')(h1:a≠b)(h2:wd≠b):Wds w' a wd L f:=by
 obtain⟨cs,hb,g1,g2⟩:=h.words;exact⟨h.arena.wr k h1,h.ne,⟨cs,hb.wr k h2,g1,g2⟩,h.le⟩
theorem ar_len {w:World}{a wd L:Nat}{f:Nat→Nat}(h:Wds w a wd L f) :
  Calls Tryz.prog 178 #[.pointer (some ⟨a,0,none⟩)] w fun e w'=>e=.returned (.int .i64 L)∧w=w':=by
 have c:=h.arena.cell;have hl:=h.le;clear h;go_enter Tryz.func178,Tryz.ntmps178;go_wp2;go_ret;exact⟨rfl,rfl⟩
theorem ar_load {w:World}{a wd L:Nat}{f:Nat→Nat}(h:Wds w a wd L f)(z:Int)(i:Nat)(hz:z=i)(hi:i<L) :
  Calls Tryz.prog 179 #[.pointer (some ⟨a,0,none⟩),.int .i64 z] w fun e w'=>e=.returned (.tuple #[.int .u64 (f i),.int .i64 0])∧w=w':=by
 subst hz;have c:=h.arena.cell;have ci:=h.cell hi;have hl:=h.le;have H:=Lib.hid (ar_len h);clear h;go_enter Tryz.func179,Tryz.ntmps179;go_wp2_with fail;refine H.out.mono ?_
 rintro e w1 ⟨rfl,rfl⟩
 go_wp2;go_ret2;exact⟨rfl,rfl⟩
theorem ar_store {w:World}{a wd L:Nat}{f:Nat→Nat}(h:Wds w a wd L f)(z:Int)(i v:Nat)(hz:z=i)(hi:i<L)(u:Int)(hu:u=v) :
  Calls Tryz.prog 180 #[.pointer (some ⟨a,0,none⟩),.int .i64 z,.int .u64 u] w fun e w'=>e=.returned (.int .i64 0)∧Wds w' a wd L (upd f i v)∧Wr wd w w':=by
 subst hz hu;have c:=h.arena.cell;have ci:=h.cell hi;have fi:=h.free i;have hl:=h.le;have H:=Lib.hid (ar_len h);have HH:=Lib.hid h;clear h;go_enter Tryz.func180,Tryz.ntmps180;go_wp2_with fail;refine H.out.mono ?_
 rintro e w1 ⟨rfl,rfl⟩
 go_wp2;go_ret;exact⟨rfl,HH.out.set i v,Wr.set _ _ _ _⟩
theorem info_u64:∃ i,Tryz.prog.info? 220=some i∧i.zero=some (.int .u64 0)∧i.size=1∧i.bytes=8:=info_parts (by kernel_rfl)
theorem made_at (n j:Nat)(h:j<n):(madeCells #[Value.int .u64 0] n)[j]?=some (.int .u64 0):=by
 unfold madeCells;rw[Array.getElem?_map,Array.getElem?_range,if_pos h];simp[Nat.mod_one]
theorem ar_new (L:Nat)(h1:1≤L)(h2:L≤65536)(z:Int)(hz:z=L)(w:World):Calls Tryz.prog 164 #[.int .i64 z] w fun e w' =>
  ∃ a wd,e=.returned (.tuple #[.pointer (some ⟨a,0,none⟩),.int .i64 0])∧Wds w' a wd L (fun _=>0)∧w.heap.size≤a∧w.heap.size≤wd∧Below w.heap.size w w':=by
 subst hz;obtain⟨i1,hi1,hs1,hy1,hz1⟩:=info_u64;have hmk:=fun w=>run_make (P:=Tryz.prog) w 305 220 i1 (.int .u64 0) (by kernel_rfl) hi1 hs1 .i64 .i64 L L (by omega) (by omega) (by rw[hz1];omega) (by omega)
 simp only[Int.toNat_natCast,hy1,Nat.mul_one]at hmk;have HI:=Lib.hid hi1;clear hi1 hs1 hy1 hz1;go_enter Tryz.func164,Tryz.ntmps164;go_wp2_with fail;go_ret2;refine⟨w.heap.size+1,w.heap.size,rfl,⟨Blk.new_at _ _ _ _ _ (by simp) rfl,by omega,⟨_,(Blk.new w _ _).alloc _,size_madeCells _ _,fun i hi=>made_at L i hi⟩,h2⟩,by omega,by omega,balloc (balloc (Below.refl _ _) _) _⟩
theorem stretch_any {w:World}{a wd L:Nat}{f:Nat→Nat}(h:Wds w a wd L f)(i n:Nat)(z u:Int)(hz:z=i)(hu:u=n)(hi:i+n≤L) :
  Calls Tryz.prog 282 #[.pointer (some ⟨a,0,none⟩),.int .i64 z,.int .i64 u] w fun e w'=>e=.returned (.bool true)∧w=w':=by
 subst hz hu;have hl:=h.le;have H:=Lib.hid (ar_len h);have hi2:(i:Int)+(n:Int)≤(L:Int):=by omega
 clear h;go_enter Tryz.func282,Tryz.ntmps282;go_wp2_with fail;refine H.out.mono ?_
 rintro e w1 ⟨rfl,rfl⟩
 go_wp2_with fail;refine H.out.mono ?_
 rintro e w1 ⟨rfl,rfl⟩
 go_wp2_with fail;go_ret;exact⟨by simp;omega,rfl⟩
def fil (f:Nat→Nat)(i n v:Nat):Nat→Nat:=fun j=>if i≤j∧j<i+n then v else f j
theorem fil_succ (f:Nat→Nat)(i k v:Nat):upd (fil f i k v) (i+k) v=fil f i (k+1) v:=by
 funext j;unfold upd fil;by_cases h:j=i+k
 ·rw[if_pos h,if_pos (by omega)]
 ·rw[if_neg h]
  by_cases h2:i≤j∧j<i+k
  ·rw[if_pos h2,if_pos (by omega)]
  ·rw[if_neg h2,if_neg (by omega)]
theorem fil_zero (f:Nat→Nat)(i v:Nat):fil f i 0 v=f:=by funext j;unfold fil;rw[if_neg (by omega)]
theorem ar_fill {w:World}{a wd L:Nat}{f:Nat→Nat}(h:Wds w a wd L f)(i n v:Nat)(z u x:Int)(hz:z=i)(hu:u=n)(hx:x=v)(hi:i+n≤L) :
  Calls Tryz.prog 266 #[.pointer (some ⟨a,0,none⟩),.int .i64 z,.int .i64 u,.int .u64 x] w fun e w'=>e=.returned (.int .i64 0)∧Wds w' a wd L (fil f i n v)∧Wr wd w w':=by
 subst hz hu hx;have hl:=h.le;have H:=Lib.hid (stretch_any h i n i n rfl rfl hi);go_enter Tryz.func266,Tryz.ntmps266;go_wp2_with fail;refine H.out.mono ?_
 rintro e w1 ⟨rfl,rfl⟩
 go_wp2_with fail;go_loopw [9,16] (fun _ ix wr=>∃ k:Nat,ix=.int .i64 k∧k≤n∧Wds wr a wd L (fil f i k v)∧Wr wd w wr) (fun _ ix _=>n-(intOf ix).toNat)
 case atStart=>exact⟨0,rfl,by omega,by rw[fil_zero];exact h,Wr.refl _ _⟩
 case round =>
  clear h H;obtain⟨k,rfl,hk,hW,hr⟩:=hrel;have c:=hW.arena.cell;by_cases hlt:k<n
  ·have ci:=hW.cell (i:=i+k) (by omega)
   have fi:=hW.free (i+k);go_wp2_with fail;go_roundw
   case rel=>exact⟨k+1,by simp,by omega,by rw[←fil_succ];exact hW.set (i+k) v,hr.trans (Wr.set _ _ _ _)⟩
   case measure=>simp[intOf];omega
  ·obtain rfl:k=n:=by omega
   go_wp2_with fail;go_ret;exact⟨rfl,hW,hr⟩
end Go.Proofs.YteehgedabdchcaaGreat
