import Derived.Test.YteehgedabdchcaaGreatQab
import Derived.Test.YteehgedabdchcaaGreatQac
import Derived.Deep.AppendLies
import Derived.Deep.DrawnRows
import Derived.Deep.RegionHeld3
set_option linter.all false
set_option maxRecDepth 1000000
set_option maxHeartbeats 16000000
namespace Go.Proofs.YteehgedabdchcaaGreat
open Go.RowKit Hp
variable {w : World} {a wd L : Nat} {f : Nat → Nat} {at' : Nat} {o : Ob}
theorem to_any (v:Nat)(w:World):Calls Tryz.prog 232 #[.int .u64 v] w fun e w'=>e=.returned (.func (.func 267) #[] #[.pointer (some ⟨w.heap.size,0,none⟩)])∧w'=w.alloc (.cells #[.int .u64 v] 220):=by
 go_enter Tryz.func232,Tryz.ntmps232;go_wp2_with fail;go_ret;exact⟨rfl,rfl⟩
theorem to1_any {c v:Nat}(h:Blk w c #[.int .u64 v] 220)(x:Value):Calls Tryz.prog 267 #[x,.pointer (some ⟨c,0,none⟩)] w fun e w'=>e=.returned (.int .u64 v)∧w=w':=by
 have hc:w.cell? ⟨c,0,none⟩=some (.int .u64 v):=h.cell 0;clear h;go_enter Tryz.func267,Tryz.ntmps267;go_wp2_with fail;go_ret;exact⟨rfl,rfl⟩
def Turned (w w':World)(a wd L:Nat)(f':Nat→Nat):Prop:=Wds w' a wd L f'∧Wr wd w w'
theorem change_any (h:Wds w a wd L f)(i v c:Nat)(hi:i<L)(hc:Blk w c #[.int .u64 v] 220)(z:Int)(hz:z=i) :
  Calls Tryz.prog 231 #[.pointer (some ⟨a,0,none⟩),.int .i64 z,.func (.func 267) #[] #[.pointer (some ⟨c,0,none⟩)]] w fun e w'=>e=.returned (.int .i64 0)∧Turned w w' a wd L (upd f i v):=by
 subst hz;have HL:=Lib.hid (ar_load h i i rfl hi);have HS:=Lib.hid (ar_store h i i v rfl hi v rfl);have HT:=Lib.hid (fun x=>to1_any hc x)
 clear h hc;go_enter Tryz.func231,Tryz.ntmps231;go_wp2_with fail;refine HL.out.mono ?_
 rintro e w1 ⟨rfl,rfl⟩
 go_wp2_with fail;refine (HT.out _).mono ?_
 rintro e w1 ⟨rfl,rfl⟩
 go_wp2_with fail;refine HS.out.mono ?_
 rintro e w1 ⟨rfl,hs⟩
 go_wp2_with fail;go_ret;exact⟨rfl,hs⟩
theorem Turned.after {w w1 w':World}{f':Nat→Nat}(hb:Below w.heap.size w w1)(h:Turned w1 w' a wd L f'):Turned w w' a wd L f':=⟨h.1,(Wr.of_below hb).trans h.2⟩
theorem osetptr_any (h:Wds w a wd L f)(ho:ObAt f at' o)(hk:o.ok)(hl:at'+o.size≤L)(i x:Nat)(hi:i<o.shp.p)(hx:x≤131072)(z u y:Int)(hz:z=at')(hu:u=i)(hy:y=x) :
  Calls Tryz.prog 174 #[.pointer (some ⟨a,0,none⟩),.int .i64 z,.int .i64 u,.int .i64 y] w fun e w'=>e=.returned (.int .i64 0)∧Turned w w' a wd L (upd f (at'+3+i) x):=by
 have HF:=Lib.hid (field_any h ho hk hl i _ _ _ (fun w=>optr_in o.shp hk.shp at' i (Ob.room hk hl h) hi w) eg_ptr)
 have hs:at'+3+i<L:=by unfold Ob.size at hl;omega
 have HW:=Lib.hid h;subst hz hu hy;clear ho h hk hl hi;go_enter Tryz.func174,Tryz.ntmps174;go_wp2_with fail;refine HF.out.mono ?_
 rintro e w1 ⟨rfl,hb1⟩
 go_wp2_with fail;refine (to_any x _).mono ?_
 rintro e w2 ⟨rfl,rfl⟩
 go_wp2_with fail;refine (change_any (HW.out.below (balloc hb1 _)) (at'+3+i) x w1.heap.size hs (Blk.new w1 _ _) _ (by omega)).mono ?_
 rintro e w3 ⟨rfl,hT⟩
 go_wp2_with fail;go_ret;exact⟨rfl,hT.after (balloc hb1 _)⟩
theorem osetptr_no (h:Wds w a wd L f)(ho:ObAt f at' o)(hk:o.ok)(hl:at'+o.size≤L)(i:Nat)(hi:o.shp.p≤i)(z u y:Int)(hz:z=at')(hu:u=i) :
  Calls Tryz.prog 174 #[.pointer (some ⟨a,0,none⟩),.int .i64 z,.int .i64 u,.int .i64 y] w fun e w'=>e=.returned (.int .i64 71)∧Below w.heap.size w w':=by
 have HF:=Lib.hid (field_any h ho hk hl i _ _ _ (fun w=>optr_out o.shp hk.shp at' i hi w) eg_ptr)
 subst hz hu;clear ho h hk hl hi;go_enter Tryz.func174,Tryz.ntmps174;go_wp2_with fail;refine HF.out.mono ?_
 rintro e w1 ⟨rfl,hb1⟩
 go_wp2_with fail;go_ret;exact⟨rfl,hb1⟩
theorem osetnum_any (h:Wds w a wd L f)(ho:ObAt f at' o)(hk:o.ok)(hl:at'+o.size≤L)(i:Nat)(n:Int)(hi:i<o.shp.d)(hn:-9223372036854775808≤n∧n≤9223372036854775807)(z u:Int)(hz:z=at')(hu:u=i) :
  Calls Tryz.prog 170 #[.pointer (some ⟨a,0,none⟩),.int .i64 z,.int .i64 u,.int .i64 n] w fun e w'=>e=.returned (.int .i64 0)∧Turned w w' a wd L (upd f (at'+3+o.shp.p+i) (zig n).toNat):=by
 have HF:=Lib.hid (field_any h ho hk hl i _ _ _ (fun w=>onum_in o.shp hk.shp at' i (Ob.room hk hl h) hi w) eg_num)
 have hs:at'+3+o.shp.p+i<L:=by unfold Ob.size at hl;omega
 have HZ:=Lib.hid (fun w=>zig_any n hn w)
 have hzb:=zig_bd hn;have HW:=Lib.hid h;generalize o.shp.p=p at *;obtain⟨v,hv⟩:∃ v:Nat,zig n=v:=⟨(zig n).toNat,by omega⟩
 rw[hv]at HZ ⊢;rw[Int.toNat_natCast];obtain⟨hn1,hn2⟩:=hn;subst hz hu;clear ho h hk hl hi hv hzb;go_enter Tryz.func170,Tryz.ntmps170;go_wp2_with fail;refine HF.out.mono ?_
 rintro e w1 ⟨rfl,hb1⟩
 go_wp2_with fail;refine (HZ.out _).mono ?_
 rintro e w2 ⟨rfl,rfl⟩
 go_wp2_with fail;refine (to_any v _).mono ?_
 rintro e w2 ⟨rfl,rfl⟩
 go_wp2_with fail;refine (change_any (HW.out.below (balloc hb1 _)) (at'+3+p+i) v w1.heap.size hs (Blk.new w1 _ _) _ (by omega)).mono ?_
 rintro e w3 ⟨rfl,hT⟩
 go_wp2_with fail;go_ret;exact⟨rfl,hT.after (balloc hb1 _)⟩
theorem osetnum_no (h:Wds w a wd L f)(ho:ObAt f at' o)(hk:o.ok)(hl:at'+o.size≤L)(i:Nat)(hi:o.shp.d≤i)(z u n:Int)(hz:z=at')(hu:u=i) :
  Calls Tryz.prog 170 #[.pointer (some ⟨a,0,none⟩),.int .i64 z,.int .i64 u,.int .i64 n] w fun e w'=>e=.returned (.int .i64 71)∧Below w.heap.size w w':=by
 have HF:=Lib.hid (field_any h ho hk hl i _ _ _ (fun w=>onum_out o.shp hk.shp at' i hi w) eg_num)
 subst hz hu;clear ho h hk hl hi;go_enter Tryz.func170,Tryz.ntmps170;go_wp2_with fail;refine HF.out.mono ?_
 rintro e w1 ⟨rfl,hb1⟩
 go_wp2_with fail;go_ret;exact⟨rfl,hb1⟩
theorem osetsecond_any (h:Wds w a wd L f)(ho:ObAt f at' o)(hk:o.ok)(hl:at'+o.size≤L)(v:Nat)(z u:Int)(hz:z=at')(hu:u=v) :
  Calls Tryz.prog 208 #[.pointer (some ⟨a,0,none⟩),.int .i64 z,.int .u64 u] w fun e w'=>e=.returned (.int .i64 0)∧Turned w w' a wd L (upd f (at'+1) v):=by
 have HS:=Lib.hid (oshape_any h ho hk hl z hz);have hs:at'+1<L:=by unfold Ob.size at hl;omega
 have h9:=h.le;have HW:=Lib.hid h;obtain⟨⟨p,d,wk,fn⟩,fr,se,sr,ps,ns⟩:=o;simp only at HS;subst hz hu;clear ho h hk hl;go_enter Tryz.func208,Tryz.ntmps208;go_wp2_with fail;refine HS.out.mono ?_
 rintro e w1 ⟨rfl,hb1⟩
 go_wp2_with fail;refine (to_any v _).mono ?_
 rintro e w2 ⟨rfl,rfl⟩
 go_wp2_with fail;refine (change_any (HW.out.below (balloc (balloc hb1 _) _)) (at'+1) v _ hs (Blk.new_at _ _ _ _ _ (by simp) rfl) _ (by omega)).mono ?_
 rintro e w3 ⟨rfl,hT⟩
 go_wp2_with fail;go_ret;exact⟨rfl,hT.after (balloc (balloc hb1 _) _)⟩
theorem osetfreed_any (h:Wds w a wd L f)(ho:ObAt f at' o)(hk:o.ok)(hl:at'+o.size≤L)(b:Bool)(z:Int)(hz:z=at') :
  Calls Tryz.prog 184 #[.pointer (some ⟨a,0,none⟩),.int .i64 z,.bool b] w fun e w'=>e=.returned (.int .i64 0)∧Turned w w' a wd L (upd f at' (head o.shp b)):=by
 have HS:=Lib.hid (oshape_any h ho hk hl z hz);have hs:at'<L:=by unfold Ob.size at hl;omega
 have HH:=Lib.hid (fun w=>hhead_any o.shp hk.shp b w)
 have h9:=h.le;have HW:=Lib.hid h;obtain⟨⟨p,d,wk,fn⟩,fr,se,sr,ps,ns⟩:=o;simp only at HS HH ⊢;generalize head ⟨p,d,wk,fn⟩ b=q at *;subst hz;clear ho h hk hl;go_enter Tryz.func184,Tryz.ntmps184;go_wp2_with fail;refine HS.out.mono ?_
 rintro e w1 ⟨rfl,hb1⟩
 go_wp2_with fail;refine (HH.out _).mono ?_
 rintro e w2 ⟨rfl,hb2⟩
 have hb2':=btrans (balloc hb1 _) hb2;clear hb2;go_wp2_with fail;refine (to_any q _).mono ?_
 rintro e w3 ⟨rfl,rfl⟩
 go_wp2_with fail;refine (change_any (HW.out.below (balloc hb2' _)) at' q _ hs (Blk.new_at _ _ _ _ _ (by simp) rfl) _ (by omega)).mono ?_
 rintro e w4 ⟨rfl,hT⟩
 go_wp2_with fail;go_ret;exact⟨rfl,hT.after (balloc hb2' _)⟩
def laidF (f:Nat→Nat)(at':Nat)(s:Shp)(sr:Nat):Nat→Nat:=upd (upd (upd (fil f at' (3+s.p+s.d) 0) at' (head s false)) (at'+1) 0) (at'+2) sr
theorem omake_any (h:Wds w a wd L f)(s:Shp)(hs:s.ok)(hl:at'+(3+s.p+s.d)≤L)(sr:Nat)(hsr:sr≤1099511627776)(z u:Int)(hz:z=at')(hu:u=sr) :
  Calls Tryz.prog 229 #[.pointer (some ⟨a,0,none⟩),.int .i64 z,shpV s,.int .i64 u] w fun e w'=>e=.returned (.int .i64 0)∧Turned w w' a wd L (laidF f at' s sr):=by
 have HZ:=Lib.hid (fun w=>hsize_any s hs w)
 have HH:=Lib.hid (fun w=>hhead_any s hs false w)
 obtain⟨hs1,hs2,_⟩:=hs;have h9:=h.le;have HW:=Lib.hid h;have hlt:at'+2<L:=by omega
 unfold laidF;generalize head s false=q at *;obtain⟨p,d,wk,fn⟩:=s;simp only at HZ HH hs1 hs2 hl ⊢;subst hz hu;have HLL:=Lib.hid hl;clear h hl;go_enter Tryz.func229,Tryz.ntmps229;go_wp2_with fail;refine (HZ.out _).mono ?_
 rintro e w1 ⟨rfl,hb1⟩
 have jS:Blk w1 w.heap.size #[.int .i64 p,.int .i64 d,.bool wk,.bool fn] 93:=(Blk.new w _ _).below hb1 (by simp)
 have hw1:=btrans (balloc (bsame w) _) hb1;clear hb1;go_wp2_with fail;refine (ar_fill (HW.out.below hw1) at' (3+p+d) 0 _ _ _ rfl rfl rfl HLL.out).mono ?_
 rintro e w2 ⟨rfl,hW2,hr2⟩
 have hwd:=HW.out.lt;have jS2:=jS.wr hr2 (by omega)
 have cS:=jS2.cell;have sS:=jS2.lt;have hr:=(Wr.of_below hw1).trans hr2;clear jS hr2 hw1;go_wp2_with fail;refine (HH.out _).mono ?_
 rintro e w3 ⟨rfl,hb3⟩
 have hW3:=hW2.below hb3;have hr3:=hr.below_then hb3;clear hb3 hW2 hr cS sS jS2;go_wp2_with fail;refine (free_any 0 (by omega) _).mono ?_
 rintro e w4 ⟨rfl,rfl⟩
 go_wp2_with fail;refine (ar_store hW3 _ at' q rfl (by omega) _ rfl).mono ?_
 rintro e w4 ⟨rfl,hW4,hr4⟩
 go_wp2_with fail;refine (ar_store hW4 _ (at'+1) 0 (by omega) (by omega) _ rfl).mono ?_
 rintro e w5 ⟨rfl,hW5,hr5⟩
 go_wp2_with fail;refine (ar_store hW5 _ (at'+2) sr (by omega) (by omega) _ rfl).mono ?_
 rintro e w6 ⟨rfl,hW6,hr6⟩
 go_wp2_with fail;go_ret;exact⟨rfl,hW6,((hr3.trans hr4).trans hr5).trans hr6⟩
end Go.Proofs.YteehgedabdchcaaGreat
namespace Go.Proofs.YteehgedabdchcaaGreat
open Hp
theorem rnd_ge (n:Nat)(h:n≤19):n≤rnd n∧4≤rnd n∧rnd n≤24:=by
 unfold rnd;repeat' split
 all_goals omega
theorem ObAt.of_eq {f f':Nat→Nat}{p:Nat}{o:Ob}(h:ObAt f p o)(hk:o.ok)(he:∀ j,p≤j→j<p+o.size→f' j=f j):ObAt f' p o:=by
 have hs:=Ob.size_bd hk;unfold Ob.size at he hs;refine⟨?_,?_,?_,fun j x hx=>?_,fun j n hn=>?_⟩
 ·rw[he p (by omega) (by omega)];exact h.h0
 ·rw[he (p+1) (by omega) (by omega)];exact h.h1
 ·rw[he (p+2) (by omega) (by omega)];exact h.h2
 ·have:=(List.getElem?_eq_some_iff.1 hx).1
  rw[hk.lp]at this;rw[he (p+3+j) (by omega) (by omega)];exact h.hp j x hx
 ·have:=(List.getElem?_eq_some_iff.1 hn).1
  rw[hk.ln]at this;rw[he (p+3+o.shp.p+j) (by omega) (by omega)];exact h.hn j n hn
def Ob.setPtr (o:Ob)(i x:Nat):Ob:={ o with ptrs:=o.ptrs.set i x }
def Ob.setNum (o:Ob)(i:Nat)(n:Int):Ob:={ o with nums:=o.nums.set i n }
def Ob.setFreed (o:Ob)(b:Bool):Ob:={ o with freed:=b }
def Ob.setSecond (o:Ob)(v:Nat):Ob:={ o with second:=v }
theorem mem_set {α:Type}{l:List α}{i:Nat}{x y:α}(h:y ∈ l.set i x):y ∈ l∨y=x:=by
 rcases List.mem_or_eq_of_mem_set h with h|h
 ·exact .inl h
 ·exact .inr h
theorem Ob.setPtr_ok {o:Ob}(h:o.ok)(i x:Nat)(hx:x≤131072):(o.setPtr i x).ok:=
 ⟨h.shp,by simp[Ob.setPtr,h.lp],h.ln,fun y hy=>(mem_set hy).elim (h.ptr y) (fun e=>by rw[e];exact hx),h.num,h.ser,h.sec⟩
theorem Ob.setNum_ok {o:Ob}(h:o.ok)(i:Nat)(n:Int)(hn:-9223372036854775808≤n∧n≤9223372036854775807):(o.setNum i n).ok:=
 ⟨h.shp,h.lp,by simp[Ob.setNum,h.ln],h.ptr,fun y hy=>(mem_set hy).elim (h.num y) (fun e=>by rw[e];exact hn),h.ser,h.sec⟩
theorem Ob.setFreed_ok {o:Ob}(h:o.ok)(b:Bool):(o.setFreed b).ok:=⟨h.shp,h.lp,h.ln,h.ptr,h.num,h.ser,h.sec⟩
theorem Ob.setSecond_ok {o:Ob}(h:o.ok)(v:Nat)(hv:v≤2199023255552):(o.setSecond v).ok:=⟨h.shp,h.lp,h.ln,h.ptr,h.num,h.ser,hv⟩
theorem ObAt.setPtr {f:Nat→Nat}{p:Nat}{o:Ob}(h:ObAt f p o)(hk:o.ok)(i x:Nat)(hi:i<o.shp.p):ObAt (upd f (p+3+i) x) p (o.setPtr i x):=by
 refine⟨?_,?_,?_,fun j y hy=>?_,fun j n hn=>?_⟩
 ·rw[upd_ne _ _ _ _ (by omega)];exact h.h0
 ·rw[upd_ne _ _ _ _ (by omega)];exact h.h1
 ·rw[upd_ne _ _ _ _ (by omega)];exact h.h2
 ·simp only[Ob.setPtr,List.getElem?_set]at hy
  by_cases e:i=j
  ·subst e
   have hl:i<o.ptrs.length:=by rw[hk.lp];exact hi
   simp[hl]at hy;rw[←hy];exact upd_at _ _ _
  ·rw[if_neg e]at hy
   rw[upd_ne _ _ _ _ (by omega)];exact h.hp j y hy
 ·have:(o.setPtr i x).shp.p=o.shp.p:=rfl
  rw[this,upd_ne _ _ _ _ (by omega)];exact h.hn j n hn
theorem ObAt.setNum {f:Nat→Nat}{p:Nat}{o:Ob}(h:ObAt f p o)(hk:o.ok)(i:Nat)(n:Int)(hi:i<o.shp.d)(hn:-9223372036854775808≤n∧n≤9223372036854775807) :
  ObAt (upd f (p+3+o.shp.p+i) (zig n).toNat) p (o.setNum i n):=by
 refine⟨?_,?_,?_,fun j y hy=>?_,fun j m hm=>?_⟩
 ·rw[upd_ne _ _ _ _ (by omega)];exact h.h0
 ·rw[upd_ne _ _ _ _ (by omega)];exact h.h1
 ·rw[upd_ne _ _ _ _ (by omega)];exact h.h2
 ·have:=(List.getElem?_eq_some_iff.1 hy).1
  have e:(o.setNum i n).ptrs=o.ptrs:=rfl;rw[e,hk.lp]at this;rw[upd_ne _ _ _ _ (by omega)];exact h.hp j y hy
 ·have e1:(o.setNum i n).shp.p=o.shp.p:=rfl
  rw[e1];simp only[Ob.setNum,List.getElem?_set]at hm;by_cases e:i=j
  ·subst e
   have hl:i<o.nums.length:=by rw[hk.ln];exact hi
   simp[hl]at hm;rw[←hm,upd_at];have:=zig_bd hn;omega
  ·rw[if_neg e]at hm
   rw[upd_ne _ _ _ _ (by omega)];exact h.hn j m hm
theorem ObAt.setFreed {f:Nat→Nat}{p:Nat}{o:Ob}(h:ObAt f p o)(b:Bool):ObAt (upd f p (head o.shp b)) p (o.setFreed b):=by
 refine⟨upd_at _ _ _,?_,?_,fun j y hy=>?_,fun j n hn=>?_⟩
 ·rw[upd_ne _ _ _ _ (by omega)];exact h.h1
 ·rw[upd_ne _ _ _ _ (by omega)];exact h.h2
 ·rw[upd_ne _ _ _ _ (by omega)];exact h.hp j y hy
 ·rw[upd_ne _ _ _ _ (by omega)];exact h.hn j n hn
theorem ObAt.setSecond {f:Nat→Nat}{p:Nat}{o:Ob}(h:ObAt f p o)(v:Nat):ObAt (upd f (p+1) v) p (o.setSecond v):=by
 refine⟨?_,upd_at _ _ _,?_,fun j y hy=>?_,fun j n hn=>?_⟩
 ·rw[upd_ne _ _ _ _ (by omega)];exact h.h0
 ·rw[upd_ne _ _ _ _ (by omega)];exact h.h2
 ·rw[upd_ne _ _ _ _ (by omega)];exact h.hp j y hy
 ·rw[upd_ne _ _ _ _ (by omega)];exact h.hn j n hn
def Ob.new (s:Shp)(sr:Nat):Ob:=⟨s,false,0,sr,List.replicate s.p 0,List.replicate s.d 0⟩
theorem Ob.new_ok {s:Shp}(h:s.ok)(sr:Nat)(hs:sr≤1099511627776):(Ob.new s sr).ok:=
 ⟨h,by simp[Ob.new],by simp[Ob.new],fun x hx=>by simp[Ob.new]at hx;omega,fun n hn=>by simp[Ob.new]at hn;omega,hs,by simp[Ob.new]⟩
theorem ObAt.new (f:Nat→Nat)(p:Nat)(s:Shp)(sr:Nat):ObAt (laidF f p s sr) p (Ob.new s sr):=by
 unfold laidF;refine⟨?_,?_,?_,fun j x hx=>?_,fun j n hn=>?_⟩
 ·rw[upd_ne _ _ _ _ (by omega),upd_ne _ _ _ _ (by omega),upd_at];rfl
 ·rw[upd_ne _ _ _ _ (by omega),upd_at];rfl
 ·rw[upd_at];rfl
 ·have hl:=(List.getElem?_eq_some_iff.1 hx).1
  simp only[Ob.new,List.length_replicate]at hl;have hx0:x=0:=by
   have:=List.mem_of_getElem? hx;simp[Ob.new]at this;exact this.2
  rw[upd_ne _ _ _ _ (by omega),upd_ne _ _ _ _ (by omega),upd_ne _ _ _ _ (by omega),hx0]
  unfold fil;rw[if_pos (by omega)]
 ·have hl:=(List.getElem?_eq_some_iff.1 hn).1
  simp only[Ob.new,List.length_replicate]at hl;have hn0:n=0:=by
   have:=List.mem_of_getElem? hn;simp[Ob.new]at this;exact this.2
  have e1:(Ob.new s sr).shp.p=s.p:=rfl;rw[e1,upd_ne _ _ _ _ (by omega),upd_ne _ _ _ _ (by omega),upd_ne _ _ _ _ (by omega),hn0]
  unfold fil;rw[if_pos (by omega)];rfl
theorem laidF_other (f:Nat→Nat)(p:Nat)(s:Shp)(sr j:Nat)(h:j<p∨p+(3+s.p+s.d)≤j):laidF f p s sr j=f j:=by
 unfold laidF;rw[upd_ne _ _ _ _ (by omega),upd_ne _ _ _ _ (by omega),upd_ne _ _ _ _ (by omega)]
 unfold fil;rw[if_neg (by omega)]
def laid:Nat→List (Nat×Ob)→Nat→Prop
 | b,[],t=>t=b
 | b,(p,o)::l,t=>p=b∧laid (b+rnd o.size) l t
def OksL (l:List (Nat×Ob)):Prop:=∀ x ∈ l,x.2.ok
theorem laid_le:∀ (l:List (Nat×Ob))(b t:Nat),laid b l t→b≤t
 | [],b,t,h=>by rw[laid]at h;omega
 | (p,o)::l,b,t,h=>by have:=laid_le l _ _ h.2;omega
theorem laid_mem:∀ (l:List (Nat×Ob))(b t:Nat),laid b l t→∀ x ∈ l,b≤x.1∧x.1+rnd x.2.size≤t
 | [],b,t,_,x,hx=>by cases hx
 | (p,o)::l,b,t,h,x,hx=>by
  rcases List.mem_cons.1 hx with rfl|hx
  ·have:=laid_le l _ _ h.2
   have:=h.1;simp only;omega
  ·have:=laid_mem l _ _ h.2 x hx;omega
theorem laid_snoc:∀ (l:List (Nat×Ob))(b t:Nat)(o:Ob),laid b l t→laid b (l++[(t,o)]) (t+rnd o.size)
 | [],b,t,o,h=>by rw[laid]at h;subst h;exact⟨rfl,rfl⟩
 | (p,q)::l,b,t,o,h=>⟨h.1,laid_snoc l _ _ o h.2⟩
theorem laid_sorted:∀ (l:List (Nat×Ob))(b t:Nat),laid b l t→OksL l→(l.map (·.1)).Pairwise (·<·)
 | [],b,t,_,_=>List.Pairwise.nil
 | (p,o)::l,b,t,h,hk=>by
  refine List.Pairwise.cons (fun y hy=>?_) (laid_sorted l _ _ h.2 fun x hx=>hk x (.tail _ hx))
  obtain⟨x,hx,rfl⟩:=List.mem_map.1 hy;have h1:=(laid_mem l _ _ h.2 x hx).1;have h2:=rnd_ge o.size (Ob.size_bd (hk _ (.head _))).2;have:=h.1;show p<x.1;omega
theorem laid_apart:∀ (l:List (Nat×Ob))(b t:Nat),laid b l t→OksL l→∀ x ∈ l,∀ y ∈ l,x.1≠y.1→x.1+rnd x.2.size≤y.1∨y.1+rnd y.2.size≤x.1
 | [],b,t,_,_,x,hx,_,_,_=>by cases hx
 | (p,o)::l,b,t,h,hk,x,hx,y,hy,hne=>by
  rcases List.mem_cons.1 hx with rfl|hx
  ·rcases List.mem_cons.1 hy with rfl|hy
   ·exact absurd rfl hne
   ·have:=(laid_mem l _ _ h.2 y hy).1
    have:=h.1;simp only;omega
  ·rcases List.mem_cons.1 hy with rfl|hy
   ·have:=(laid_mem l _ _ h.2 x hx).1
    have:=h.1;simp only;omega
   ·exact laid_apart l _ _ h.2 (fun z hz=>hk z (.tail _ hz)) x hx y hy hne
def lk:List (Nat×Ob)→Nat→Option Ob
 | [],_=>none
 | (q,o)::l,p=>if q=p then some o else lk l p
theorem lk_mem:∀ {l:List (Nat×Ob)}{p:Nat}{o:Ob},lk l p=some o→(p,o) ∈ l
 | [],p,o,h=>by simp[lk]at h
 | (q,x)::l,p,o,h=>by
  unfold lk at h;split at h
  ·rename_i e
   injection h with h;rw[←e,←h];exact .head _
  ·exact .tail _ (lk_mem h)
theorem lk_some {l:List (Nat×Ob)}{p:Nat}:(lk l p).isSome=true↔p ∈ l.map (·.1):=by
 induction l with
 | nil=>simp[lk]
 | cons x l ih =>
  obtain⟨q,o⟩:=x;unfold lk;split
  ·rename_i e;simp[e]
  ·rename_i e;rw[ih];simp[Ne.symm e]
def up (l:List (Nat×Ob))(p:Nat)(o:Ob):List (Nat×Ob):=l.map fun x=>if x.1=p then (p,o) else x
theorem up_keys (l:List (Nat×Ob))(p:Nat)(o:Ob):(up l p o).map (·.1)=l.map (·.1):=by
 unfold up;rw[List.map_map];refine List.map_congr_left fun x _=>?_
 simp only[Function.comp_apply];split
 ·rename_i h;exact h.symm
 ·rfl
theorem lk_up {l:List (Nat×Ob)}{p:Nat}{o:Ob}(q:Nat):lk (up l p o) q=if q=p then (lk l p).map fun _=>o else lk l q:=by
 induction l with
 | nil=>simp[up,lk]
 | cons x l ih =>
  obtain⟨r,y⟩:=x;have e:up ((r,y)::l) p o=(if r=p then (p,o) else (r,y))::up l p o:=rfl
  rw[e];by_cases h1:r=p
  ·subst h1
   rw[if_pos rfl];by_cases h2:q=r
   ·subst h2;simp[lk]
   ·rw[if_neg h2]
    rw[if_neg h2]at ih;simp only[lk,if_neg (Ne.symm h2),ih]
  ·rw[if_neg h1]
   by_cases h2:q=p
   ·subst h2
    rw[if_pos rfl]at ih ⊢;simp only[lk,if_neg h1,ih]
   ·rw[if_neg h2]at ih ⊢
    simp only[lk,ih]
theorem up_laid:∀ (l:List (Nat×Ob))(b t p:Nat)(o:Ob),(∀ y,(p,y) ∈ l→o.size=y.size)→laid b l t→laid b (up l p o) t
 | [],b,t,p,o,_,h=>h
 | (q,y)::l,b,t,p,o,hs,h=>by
  have e:up ((q,y)::l) p o=(if q=p then (p,o) else (q,y))::up l p o:=rfl
  rw[e];have ih:=up_laid l (b+rnd y.size) t p o (fun z hz=>hs z (.tail _ hz)) h.2
  by_cases h1:q=p
  ·subst h1
   rw[if_pos rfl];exact⟨h.1,by rw[hs y (.head _)];exact ih⟩
  ·rw[if_neg h1];exact⟨h.1,ih⟩
theorem up_oks {l:List (Nat×Ob)}{p:Nat}{o:Ob}(h:OksL l)(ho:o.ok):OksL (up l p o):=by
 intro x hx;obtain⟨y,hy,rfl⟩:=List.mem_map.1 hx;split
 ·exact ho
 ·exact h y hy
end Go.Proofs.YteehgedabdchcaaGreat
namespace Go.Proofs.YteehgedabdchcaaGreat
open Go.RowKit Hp
attribute [local go_sem ↓] Go.wp_at_zero Go.wp_at_succ
structure HLay where
 id:Nat
 h:Nat
 a:Nat
 wd:Nat
structure Hp where
 size:Nat
 use:Bool
 cur:List (Nat×Ob)
 top:Nat
 moving:Bool
 old:List (Nat×Ob×Option Nat)
 otop:Nat
 owed:Nat
 scan:Nat
 serial:Nat
 weak:List Nat
 final:List Nat
def Hp.base (H:Hp)(u:Bool):Nat:=if u then 1+H.size else 1
def Hp.olds (H:Hp):List (Nat×Ob):=H.old.map fun x=>(x.1,x.2.1)
def owes:List (Nat×Ob×Option Nat)→Nat
 | []=>0
 | (_,o,none)::l=>rnd o.size+owes l
 | (_,_,some _)::l=>owes l
structure Hp.ok (H:Hp):Prop where
 sz:16≤H.size∧H.size≤16384
 cl:laid (H.base H.use) H.cur H.top
 ck:OksL H.cur
 ol:laid (H.base !H.use) H.olds H.otop
 ok:OksL H.olds
 ot:H.otop≤H.base (!H.use)+H.size
 still:H.moving=false→H.old=[]
 owe:H.owed=owes H.old
 room:H.top+H.owed≤H.base H.use+H.size
 ser:H.serial≤1099511627776
 scn:H.scan≤65536
 gone:∀ x ∈ H.old,∀ q,x.2.2=some q→1≤q∧q≤131072
def Hp.cells (H:Hp)(a:Nat)(vc vo vw vf:Value):Array Value:=
 if H.use then #[.pointer (some ⟨a,0,none⟩),.int .i64 1,.int .i64 H.size,.int .i64 H.otop,.int .i64 (1+(H.size:Int)),.int .i64 H.size,.int .i64 H.top,vo,vc,.int .i64 1,.bool H.moving,.int .i64 H.owed,.int .i64 H.scan,.int .i64 H.serial,vw,vf]
 else #[.pointer (some ⟨a,0,none⟩),.int .i64 1,.int .i64 H.size,.int .i64 H.top,.int .i64 (1+(H.size:Int)),.int .i64 H.size,.int .i64 H.otop,vc,vo,.int .i64 0,.bool H.moving,.int .i64 H.owed,.int .i64 H.scan,.int .i64 H.serial,vw,vf]
def nv (p:Nat):Value:=.int .i64 p
structure HpIn (w:World)(o:Own)(l:HLay)(H:Hp)(vc vo vw vf:Value)(f:Nat→Nat):Prop where
 hb:Blk w l.h (H.cells l.a vc vo vw vf) 185
 wds:Wds w l.a l.wd (2*H.size+1) f
 rc:Row w o (l.id,if H.use then 4 else 3) 3 1 vc H.cur.length (H.cur.map fun x=>nv x.1)
 ro:Row w o (l.id,if H.use then 3 else 4) 3 1 vo H.old.length (H.old.map fun x=>nv x.1)
 rw:Row w o (l.id,5) 3 1 vw H.weak.length (H.weak.map nv)
 rf:Row w o (l.id,6) 3 1 vf H.final.length (H.final.map nv)
 oh:o l.h=(l.id,0)
 oa:o l.a=(l.id,1)
 ow:o l.wd=(l.id,2)
 obs:∀ x ∈ H.cur,ObAt f x.1 x.2
 olds:∀ x ∈ H.old,(x.2.2=none→ObAt f x.1 x.2.1)∧∀ q,x.2.2=some q→f x.1=4*q+2
 zr:f 0=0
theorem Row.below {w w':World}{o:Own}{t:Tag}{e:TypeId}{size:Nat}{v:Value}{n:Nat}{xs:List Value}(h:Row w o t e size v n xs)(k:Below w.heap.size w w'):Row w' o t e size v n xs:=
 h.stp (T:=fun _=>False) (Stp.of_below k) (fun h=>h)
theorem HpIn.below {w w':World}{o:Own}{l:HLay}{H:Hp}{vc vo vw vf:Value}{f:Nat→Nat}(h:HpIn w o l H vc vo vw vf f)(k:Below w.heap.size w w'):HpIn w' o l H vc vo vw vf f:=
 ⟨h.hb.below k h.hb.lt,h.wds.below k,h.rc.below k,h.ro.below k,h.rw.below k,h.rf.below k,h.oh,h.oa,h.ow,h.obs,h.olds,h.zr⟩
theorem Row.cells {w:World}{o:Own}{t:Tag}{e:TypeId}{g n cap:Nat}{xs:List Value}(h:Row w o t e 1 (.slice (some ⟨g,0,none⟩) n cap) n xs)(j:Nat)(x:Value)(hx:xs[j]?=some x):w.cell? ⟨g,j,none⟩=some x:=by
 have:=h.own.cells (g:=g) rfl j x hx;rwa [show (⟨g,0,none⟩:Addr).add j=⟨g,j,none⟩ from by unfold Addr.add;split<;>simp_all]at this
theorem Row.form {w:World}{o:Own}{t:Tag}{e:TypeId}{v:Value}{n:Nat}{xs:List Value}(h:Row w o t e 1 v n xs) :
  (v=.slice none 0 0∧n=0)∨∃ g cap,v=.slice (some ⟨g,0,none⟩) n cap∧n≤cap∧cap≤maxLen∧g<w.heap.size∧o g=t:=by
 rcases h.own.2 with ⟨rfl,rfl⟩|⟨g,cap,cur,rfl,_,hg,hn,hc,_⟩
 ·exact .inl ⟨rfl,rfl⟩
 ·exact .inr ⟨g,cap,rfl,hn,hc,(Array.getElem?_eq_some_iff.1 hg).1,h.tag g rfl⟩
theorem bsearch_any {w:World}{o:Own}{t:Tag}{v:Value}(ps:List Nat)(hr:Row w o t 3 1 v ps.length (ps.map nv))(hs:ps.Pairwise (·<·))(hl:ps.length≤100000)(x:Nat)(z:Int)(hz:z=x) :
  Calls Tryz.prog 124 #[v,.int .i64 z] w fun e w'=>e=.returned (.tuple #[.int .i64 (((ps.map fun (p:Nat)=>(p:Int)).countP (·<(x:Int)):Nat):Int),.bool (decide (x ∈ ps))])∧∃ q,w'=w.drewN q:=by
 subst hz;rcases hr.form with⟨rfl,h0⟩|⟨g,cap,rfl,hn,hc,_,_⟩
 ·have:ps=[]:=List.eq_nil_of_length_eq_zero h0
  subst this;refine (Tryz.slices_BinarySearch_int_empty none 0 x w).mono ?_
  rintro e w'⟨rfl,rfl⟩
  exact⟨rfl,0,rfl⟩
 ·refine (Tryz.slices_BinarySearch_int g 0 ps.length cap (ps.map fun (p:Nat)=>(p:Int)) x w (by simp) (by omega) ?_ ?_).mono ?_
  ·intro j hj
   have hj':j<ps.length:=by simpa using hj
   rw[Nat.zero_add];refine hr.cells j _ ?_;rw[List.getElem?_map,List.getElem?_eq_getElem hj'];simp[nv,List.getD,List.getElem?_eq_getElem hj']
  ·rw[List.take_of_length_le (by simp)]
   refine List.Pairwise.map _ ?_ hs;intro a b h;omega
  ·rintro e w'⟨rfl,hq⟩
   rw[List.take_of_length_le (by simp)]
   refine⟨?_,hq⟩;have e:((ps.map fun (p:Nat)=>(p:Int)).contains (x:Int))=decide (x ∈ ps):=by
    rw[Bool.eq_iff_iff];simp only[List.contains_eq_mem,List.mem_map,decide_eq_true_eq];exact⟨fun⟨a,ha,e⟩=>by rw[show x=a by omega];exact ha,fun h=>⟨x,h,rfl⟩⟩
   rw[e]
section
variable {w : World} {o : Own} {l : HLay} {H : Hp} {vc vo vw vf : Value} {f : Nat → Nat}
theorem moving_any (h:HpIn w o l H vc vo vw vf f):Calls Tryz.prog 192 #[.pointer (some ⟨l.h,0,none⟩)] w fun e w'=>e=.returned (.bool H.moving)∧w=w':=by
 have c:w.cell? ⟨l.h,10,none⟩=some (.bool H.moving):=by rw[h.hb.cell];unfold Hp.cells;split<;>rfl
 clear h;go_enter Tryz.func192,Tryz.ntmps192;go_wp2_with fail;go_ret;exact⟨rfl,rfl⟩
theorem laid_len:∀ (l:List (Nat×Ob))(b t:Nat),laid b l t→OksL l→b+4*l.length≤t
 | [],b,t,h,_=>by rw[laid]at h;simp;omega
 | (p,o)::l,b,t,h,hk=>by
  have:=laid_len l _ _ h.2 fun x hx=>hk x (.tail _ hx)
  have:=rnd_ge o.size (Ob.size_bd (hk _ (.head _))).2;simp only[List.length_cons];omega
theorem cur_len (hk:H.ok):H.cur.length≤16384:=by
 have:=laid_len _ _ _ hk.cl hk.ck;have:=hk.room;have:=hk.sz;omega
theorem old_len (hk:H.ok):H.old.length≤16384:=by
 have:=laid_len _ _ _ hk.ol hk.ok;have:=hk.ot;have:=hk.sz;have e:H.olds.length=H.old.length:=by simp[Hp.olds]
 omega
theorem here_any (h:HpIn w o l H vc vo vw vf f) (hk:H.ok) (p:Nat) (z:Int) (hz:z=p) :
  Calls Tryz.prog 61 #[.pointer (some ⟨l.h,0,none⟩),.int .i64 z] w fun e w'=>e=.returned (.bool (lk H.cur p).isSome)∧Below w.heap.size w w':=by
 subst hz;have hbs:=fun (w':World) (hw:Below w.heap.size w w')=>bsearch_any (w:=w') (o:=o) (t:=(l.id,if H.use then 4 else 3)) (v:=vc) (H.cur.map (·.1)) (by simpa [List.map_map,Function.comp_def] using h.rc.below hw) (laid_sorted _ _ _ hk.cl hk.ck) (by have:=cur_len hk;simpa using by omega) p p rfl
 have hd:decide (p ∈ H.cur.map (·.1))=(lk H.cur p).isSome:=by rw[Bool.eq_iff_iff,decide_eq_true_eq,lk_some]
 rw[hd]at hbs;generalize (((H.cur.map (·.1)).map fun (p:Nat)=>(p:Int)).countP (·<(p:Int)):Nat)=q at hbs
 generalize (lk H.cur p).isSome=b at *;have c:=h.hb.cell;unfold Hp.cells at c;have HB:=Lib.hid hbs;clear h hbs hd
 cases hu:H.use
 all_goals
  rw[hu]at c;first|rw[if_pos rfl]at c|rw[if_neg (by simp)]at c
  clear hu;go_enter Tryz.func61,Tryz.ntmps61;go_upto_region 3 with fail;go_quiet ((go_at_call 124;exact Calls.quiet_of (HB.out _ (bdrewN (bsame w) _))));go_wp2_with fail;go_ret;exact⟨rfl,bdrewN (bsame w) _⟩
end
end Go.Proofs.YteehgedabdchcaaGreat
namespace Go.Proofs.YteehgedabdchcaaGreat
open Go.RowKit Hp
section
variable {w : World} {o : Own} {l : HLay} {H : Hp} {vc vo vw vf : Value} {f : Nat → Nat}
theorem Hp.base_bd (H:Hp)(u:Bool):1≤H.base u∧H.base u≤1+H.size:=by
 unfold Hp.base;split<;>omega
theorem HpIn.at_ (h:HpIn w o l H vc vo vw vf f)(hk:H.ok){p:Nat}{ob:Ob}(hp:lk H.cur p=some ob):ObAt f p ob∧ob.ok∧p+ob.size≤2*H.size+1∧1≤p:=by
 have hm:=lk_mem hp;have h1:=laid_mem _ _ _ hk.cl _ hm;have h2:=hk.ck _ hm;have h3:=rnd_ge _ (Ob.size_bd h2).2;have h4:=hk.room;have h5:=H.base_bd H.use;simp only at h1 h3;exact⟨h.obs _ hm,h2,by omega,by omega⟩
theorem Hp.apart (hk:H.ok){x:Nat×Ob}(hx:x ∈ H.cur){y:Nat×Ob×Option Nat}(hy:y ∈ H.old):x.1+x.2.size≤y.1∨y.1+y.2.1.size≤x.1:=by
 have h1:=laid_mem _ _ _ hk.cl _ hx;have h2:=rnd_ge _ (Ob.size_bd (hk.ck _ hx)).2;have hy':(y.1,y.2.1) ∈ H.olds:=List.mem_map.2 ⟨y,hy,rfl⟩;have h3:=laid_mem _ _ _ hk.ol _ hy';have h4:=rnd_ge _ (Ob.size_bd (hk.ok _ hy')).2;have h5:=hk.room;have h6:=hk.ot;simp only at h3 h4;unfold Hp.base at h1 h3 h5 h6
 cases hu:H.use<;>simp[hu]at h1 h3 h5 h6<;>omega
theorem lk_uniq {l:List (Nat×Ob)}{b t:Nat}(hl:laid b l t)(hk:OksL l){p:Nat}{x y:Ob}(hx:(p,x) ∈ l)(hy:(p,y) ∈ l):x=y:=by
 have hs:=laid_sorted l b t hl hk;induction l generalizing b with
 | nil=>cases hx
 | cons z l ih =>
  obtain⟨q,u⟩:=z;rw[List.map_cons,List.pairwise_cons]at hs;have hno:∀ v,(q,v) ∈ l→False:=fun v hv=>by
   have:=hs.1 q (List.mem_map.2 ⟨_,hv,rfl⟩);omega
  rcases List.mem_cons.1 hx with e1|hx'
  ·rcases List.mem_cons.1 hy with e2|hy'
   ·injection e1 with _ e1;injection e2 with _ e2;rw[e1,e2]
   ·injection e1 with e1 _;subst e1;exact (hno _ hy').elim
  ·rcases List.mem_cons.1 hy with e2|hy'
   ·injection e2 with e2 _;subst e2;exact (hno _ hx').elim
   ·exact ih hl.2 (fun z hz=>hk z (.tail _ hz)) hx' hy' hs.2
theorem HpIn.turn {w':World} (h:HpIn w o l H vc vo vw vf f) (hk:H.ok) {p:Nat} {ob ob':Ob} (hp:lk H.cur p=some ob) {k v:Nat} (hkk:k<ob.size)
  (hT:Turned w w' l.a l.wd (2*H.size+1) (upd f (p+k) v)) (ho:ObAt (upd f (p+k) v) p ob') :
  HpIn w' o l { H with cur:=up H.cur p ob' } vc vo vw vf (upd f (p+k) v):=by
 have hm:=lk_mem hp;have hoh:=h.oh;have how:=h.ow;have hne:∀ {c:Nat} {i:Nat},o c=(l.id,i)→i≠2→c≠l.wd:=fun hc hi e=>by
  rw[e,how]at hc;injection hc with _ hc;exact hi hc.symm
 have hrow:∀ {i:Nat} {v:Value} {n:Nat} {xs:List Value},i≠2→Row w o (l.id,i) 3 1 v n xs→Row w' o (l.id,i) 3 1 v n xs:=fun hi hr=>by
  refine hr.stp (T:=fun t=>t=(l.id,2)) (o':=o) ⟨hT.2.os,hT.2.tape,hT.2.output,hT.2.size,fun _ _=>rfl,fun b hb ht=>hT.2.block b hb fun e=>ht (by rw[e];exact how)⟩ ?_
  intro e;injection e with _ e;exact hi e
 have hlen:(up H.cur p ob').length=H.cur.length:=by simp[up]
 have hmap:((up H.cur p ob').map fun x=>nv x.1)=H.cur.map fun x=>nv x.1:=by
  have:=congrArg (List.map nv) (up_keys H.cur p ob');simpa [List.map_map,Function.comp_def] using this
 refine⟨h.hb.wr hT.2 (hne hoh (by omega)),hT.1,?_,hrow (by split<;>omega) h.ro,hrow (by omega) h.rw,hrow (by omega) h.rf,h.oh,h.oa,h.ow,?_,?_,?_⟩
 ·show Row w' o (l.id,if H.use then 4 else 3) _ 1 vc (up H.cur p ob').length _
  rw[hlen,hmap];exact hrow (by split<;>omega) h.rc
 ·intro x hx
  obtain⟨y,hy,rfl⟩:=List.mem_map.1 hx;split
  ·exact ho
  ·rename_i e
   refine (h.obs y hy).of_eq (hk.ck y hy) fun j h1 h2=>?_
   have h3:=laid_apart _ _ _ hk.cl hk.ck y hy (p,ob) hm e;have h4:=rnd_ge _ (Ob.size_bd (hk.ck y hy)).2;have h5:=rnd_ge _ (Ob.size_bd (hk.ck _ hm)).2;simp only at h3 h5;exact upd_ne _ _ _ _ (by omega)
 ·intro x hx
  have h3:=Hp.apart hk hm hx;have h4:x.2.1.ok:=hk.ok (x.1,x.2.1) (List.mem_map.2 ⟨x,hx,rfl⟩);have h5:=Ob.size_bd h4;obtain⟨g1,g2⟩:=h.olds x hx;simp only at h3;refine⟨fun e=>(g1 e).of_eq h4 fun j h1 h2=>upd_ne _ _ _ _ (by omega),fun q e=>?_⟩
  rw[upd_ne _ _ _ _ (by omega)];exact g2 q e
 ·have h1:=laid_mem _ _ _ hk.cl _ hm
  have h2:=H.base_bd H.use;simp only at h1;rw[upd_ne _ _ _ _ (by omega)];exact h.zr
theorem Hp.ok_up (hk:H.ok){p:Nat}{ob ob':Ob}(hp:lk H.cur p=some ob)(ho:ob'.ok)(hs:ob'.size=ob.size):Hp.ok { H with cur:=up H.cur p ob' }:=
 ⟨hk.sz,up_laid _ _ _ _ _ (fun y hy=>by rw[hs,lk_uniq hk.cl hk.ck (lk_mem hp) hy]) hk.cl,up_oks hk.ck ho,hk.ol,hk.ok,hk.ot,hk.still,hk.owe,hk.room,hk.ser,hk.scn,hk.gone⟩
theorem HpIn.words_cell (h:HpIn w o l H vc vo vw vf f):w.cell? ⟨l.h,0,none⟩=some (.pointer (some ⟨l.a,0,none⟩)):=by
 rw[h.hb.cell];unfold Hp.cells;split<;>rfl
theorem osetnum_at {a wd L at':Nat}{ob:Ob}(h:Wds w a wd L f)(ho:ObAt f at' ob)(hk:ob.ok)(hl:at'+ob.size≤L)(i:Nat)(n:Int)(hi:i<ob.shp.d)(hn:-9223372036854775808≤n∧n≤9223372036854775807) :
  Calls Tryz.prog 170 #[.pointer (some ⟨a,0,none⟩),.int .i64 at',.int .i64 i,.int .i64 n] w fun e w'=>e=.returned (.int .i64 0)∧Turned w w' a wd L (upd f (at'+(3+ob.shp.p+i)) (zig n).toNat):=by
 rw[show at'+(3+ob.shp.p+i)=at'+3+ob.shp.p+i from by omega]
 exact osetnum_any h ho hk hl i n hi hn at' i rfl rfl
theorem here_yes (h:HpIn w o l H vc vo vw vf f)(hk:H.ok){p:Nat}{ob:Ob}(hp:lk H.cur p=some ob) :
  Calls Tryz.prog 61 #[.pointer (some ⟨l.h,0,none⟩),.int .i64 p] w fun e w'=>e=.returned (.bool true)∧Below w.heap.size w w':=by
 have h1:=here_any h hk p p rfl;rw[hp]at h1;exact h1
theorem here_no (h:HpIn w o l H vc vo vw vf f)(hk:H.ok){p:Nat}(hp:lk H.cur p=none) :
  Calls Tryz.prog 61 #[.pointer (some ⟨l.h,0,none⟩),.int .i64 p] w fun e w'=>e=.returned (.bool false)∧Below w.heap.size w w':=by
 have h1:=here_any h hk p p rfl;rw[hp]at h1;exact h1
end
section
variable {w : World} {o : Own} {l : HLay} {H : Hp} {vc vo vw vf : Value} {f : Nat → Nat}
theorem hserial_in (h:HpIn w o l H vc vo vw vf f)(hk:H.ok){p:Nat}{ob:Ob}(hp:lk H.cur p=some ob)   :
  Calls Tryz.prog 70 #[.pointer (some ⟨l.h,0,none⟩),.int .i64 p] w fun e w'=>e=.returned (.tuple #[.int .i64 ob.serial,.int .i64 0])∧Below w.heap.size w w':=by
 obtain⟨ha,ho,hl,_⟩:=h.at_ hk hp;have HH:=Lib.hid (here_yes h hk hp);have HN:=Lib.hid (fun w' (hw:Below w.heap.size w w')=>oserial_any (h.wds.below hw) ha ho hl p rfl)
 have HC:=Lib.hid (fun w' (hw:Below w.heap.size w w')=>(h.below hw).words_cell)
 clear h hk hp ha ho hl;go_enter Tryz.func70,Tryz.ntmps70;go_wp2_with fail;refine HH.out.mono ?_
 rintro e w1 ⟨rfl,hb1⟩
 have c1:=HC.out _ hb1;go_wp2_with fail;refine (HN.out _ hb1).mono ?_
 rintro e w2 ⟨rfl,hb2⟩
 go_wp2_with fail;go_ret2;exact⟨rfl,btrans hb1 hb2⟩
theorem hserial_no (h:HpIn w o l H vc vo vw vf f)(hk:H.ok){p:Nat}(hp:lk H.cur p=none)  :
  Calls Tryz.prog 70 #[.pointer (some ⟨l.h,0,none⟩),.int .i64 p] w fun e w'=>e=.returned (.tuple #[.int .i64 0,.int .i64 70])∧Below w.heap.size w w':=by
 have HH:=Lib.hid (here_no h hk hp);clear h hk hp;go_enter Tryz.func70,Tryz.ntmps70;go_wp2_with fail;refine HH.out.mono ?_
 rintro e w1 ⟨rfl,hb1⟩
 go_wp2_with fail;go_ret2;exact⟨rfl,hb1⟩
theorem hsecond_in (h:HpIn w o l H vc vo vw vf f)(hk:H.ok){p:Nat}{ob:Ob}(hp:lk H.cur p=some ob)   :
  Calls Tryz.prog 141 #[.pointer (some ⟨l.h,0,none⟩),.int .i64 p] w fun e w'=>e=.returned (.tuple #[.int .u64 ob.second,.int .i64 0])∧Below w.heap.size w w':=by
 obtain⟨ha,ho,hl,_⟩:=h.at_ hk hp;have HH:=Lib.hid (here_yes h hk hp);have HN:=Lib.hid (fun w' (hw:Below w.heap.size w w')=>osecond_any (h.wds.below hw) ha ho hl p rfl)
 have HC:=Lib.hid (fun w' (hw:Below w.heap.size w w')=>(h.below hw).words_cell)
 clear h hk hp ha ho hl;go_enter Tryz.func141,Tryz.ntmps141;go_wp2_with fail;refine HH.out.mono ?_
 rintro e w1 ⟨rfl,hb1⟩
 have c1:=HC.out _ hb1;go_wp2_with fail;refine (HN.out _ hb1).mono ?_
 rintro e w2 ⟨rfl,hb2⟩
 go_wp2_with fail;go_ret2;exact⟨rfl,btrans hb1 hb2⟩
theorem hsecond_no (h:HpIn w o l H vc vo vw vf f)(hk:H.ok){p:Nat}(hp:lk H.cur p=none)  :
  Calls Tryz.prog 141 #[.pointer (some ⟨l.h,0,none⟩),.int .i64 p] w fun e w'=>e=.returned (.tuple #[.int .u64 0,.int .i64 70])∧Below w.heap.size w w':=by
 have HH:=Lib.hid (here_no h hk hp);clear h hk hp;go_enter Tryz.func141,Tryz.ntmps141;go_wp2_with fail;refine HH.out.mono ?_
 rintro e w1 ⟨rfl,hb1⟩
 go_wp2_with fail;go_ret2;exact⟨rfl,hb1⟩
theorem hnum_in (h:HpIn w o l H vc vo vw vf f)(hk:H.ok){p:Nat}{ob:Ob}(hp:lk H.cur p=some ob)(i:Nat)(n:Int)(hx:ob.nums[i]?=some n) :
  Calls Tryz.prog 76 #[.pointer (some ⟨l.h,0,none⟩),.int .i64 p,.int .i64 i] w fun e w'=>e=.returned (.tuple #[.int .i64 n,.int .i64 0])∧Below w.heap.size w w':=by
 obtain⟨ha,ho,hl,_⟩:=h.at_ hk hp;have HH:=Lib.hid (here_yes h hk hp);have HN:=Lib.hid (fun w' (hw:Below w.heap.size w w')=>onum_get (h.wds.below hw) ha ho hl i n hx p i rfl rfl)
 have HC:=Lib.hid (fun w' (hw:Below w.heap.size w w')=>(h.below hw).words_cell)
 clear h hk hp ha ho hl hx;go_enter Tryz.func76,Tryz.ntmps76;go_wp2_with fail;refine HH.out.mono ?_
 rintro e w1 ⟨rfl,hb1⟩
 have c1:=HC.out _ hb1;go_wp2_with fail;refine (HN.out _ hb1).mono ?_
 rintro e w2 ⟨rfl,hb2⟩
 go_wp2_with fail;go_ret2;exact⟨rfl,btrans hb1 hb2⟩
theorem hnum_out (h:HpIn w o l H vc vo vw vf f)(hk:H.ok){p:Nat}{ob:Ob}(hp:lk H.cur p=some ob)(i:Nat)(hx:ob.shp.d≤i) :
  Calls Tryz.prog 76 #[.pointer (some ⟨l.h,0,none⟩),.int .i64 p,.int .i64 i] w fun e w'=>e=.returned (.tuple #[.int .i64 0,.int .i64 71])∧Below w.heap.size w w':=by
 obtain⟨ha,ho,hl,_⟩:=h.at_ hk hp;have HH:=Lib.hid (here_yes h hk hp);have HN:=Lib.hid (fun w' (hw:Below w.heap.size w w')=>onum_no (h.wds.below hw) ha ho hl i hx p i rfl rfl)
 have HC:=Lib.hid (fun w' (hw:Below w.heap.size w w')=>(h.below hw).words_cell)
 clear h hk hp ha ho hl hx;go_enter Tryz.func76,Tryz.ntmps76;go_wp2_with fail;refine HH.out.mono ?_
 rintro e w1 ⟨rfl,hb1⟩
 have c1:=HC.out _ hb1;go_wp2_with fail;refine (HN.out _ hb1).mono ?_
 rintro e w2 ⟨rfl,hb2⟩
 go_wp2_with fail;go_ret2;exact⟨rfl,btrans hb1 hb2⟩
theorem hnum_no (h:HpIn w o l H vc vo vw vf f)(hk:H.ok){p:Nat}(hp:lk H.cur p=none)(i:Nat) :
  Calls Tryz.prog 76 #[.pointer (some ⟨l.h,0,none⟩),.int .i64 p,.int .i64 i] w fun e w'=>e=.returned (.tuple #[.int .i64 0,.int .i64 70])∧Below w.heap.size w w':=by
 have HH:=Lib.hid (here_no h hk hp);clear h hk hp;go_enter Tryz.func76,Tryz.ntmps76;go_wp2_with fail;refine HH.out.mono ?_
 rintro e w1 ⟨rfl,hb1⟩
 go_wp2_with fail;go_ret2;exact⟨rfl,hb1⟩
theorem hsetnum_out (h:HpIn w o l H vc vo vw vf f)(hk:H.ok){p:Nat}{ob:Ob}(hp:lk H.cur p=some ob)(i:Nat)(n:Int)(hx:ob.shp.d≤i) :
  Calls Tryz.prog 110 #[.pointer (some ⟨l.h,0,none⟩),.int .i64 p,.int .i64 i,.int .i64 n] w fun e w'=>e=.returned (.int .i64 71)∧Below w.heap.size w w':=by
 obtain⟨ha,ho,hl,_⟩:=h.at_ hk hp;have HH:=Lib.hid (here_yes h hk hp);have HN:=Lib.hid (fun w' (hw:Below w.heap.size w w')=>osetnum_no (h.wds.below hw) ha ho hl i hx p i n rfl rfl)
 have HC:=Lib.hid (fun w' (hw:Below w.heap.size w w')=>(h.below hw).words_cell)
 clear h hk hp ha ho hl hx;go_enter Tryz.func110,Tryz.ntmps110;go_wp2_with fail;refine HH.out.mono ?_
 rintro e w1 ⟨rfl,hb1⟩
 have c1:=HC.out _ hb1;go_wp2_with fail;refine (HN.out _ hb1).mono ?_
 rintro e w2 ⟨rfl,hb2⟩
 go_wp2_with fail;go_ret;exact⟨rfl,btrans hb1 hb2⟩
theorem hsetnum_no (h:HpIn w o l H vc vo vw vf f)(hk:H.ok){p:Nat}(hp:lk H.cur p=none)(i:Nat)(n:Int) :
  Calls Tryz.prog 110 #[.pointer (some ⟨l.h,0,none⟩),.int .i64 p,.int .i64 i,.int .i64 n] w fun e w'=>e=.returned (.int .i64 70)∧Below w.heap.size w w':=by
 have HH:=Lib.hid (here_no h hk hp);clear h hk hp;go_enter Tryz.func110,Tryz.ntmps110;go_wp2_with fail;refine HH.out.mono ?_
 rintro e w1 ⟨rfl,hb1⟩
 go_wp2_with fail;go_ret;exact⟨rfl,hb1⟩
theorem hsetnum_in (h:HpIn w o l H vc vo vw vf f)(hk:H.ok){p:Nat}{ob:Ob}(hp:lk H.cur p=some ob)(i:Nat)(n:Int)(hx:i<ob.shp.d)(hn:-9223372036854775808≤n∧n≤9223372036854775807) :
  Calls Tryz.prog 110 #[.pointer (some ⟨l.h,0,none⟩),.int .i64 p,.int .i64 i,.int .i64 n] w fun e w'=>e=.returned (.int .i64 0)∧Hp.ok { H with cur:=up H.cur p (ob.setNum i n) }∧(∃ f',HpIn w' o l { H with cur:=up H.cur p (ob.setNum i n) } vc vo vw vf f')∧Wr l.wd w w':=by
 obtain⟨ha,ho,hl,_⟩:=h.at_ hk hp;have hok:=Hp.ok_up hk hp (Ob.setNum_ok ho i n hn) (rfl);have HH:=Lib.hid (here_yes h hk hp);have HN:=Lib.hid (fun w' (hw:Below w.heap.size w w')=>osetnum_at (h.wds.below hw) ha ho hl i n hx hn)
 have HC:=Lib.hid (fun w' (hw:Below w.heap.size w w')=>(h.below hw).words_cell)
 have HE:=Lib.hid (fun w1 w' (hw:Below w.heap.size w w1) hT=>(h.below hw).turn (w':=w') hk hp (k:=3+ob.shp.p+i) (by unfold Ob.size;omega) hT (by rw[show p+(3+ob.shp.p+i)=p+3+ob.shp.p+i from by omega];exact ha.setNum ho i n hx hn))
 have HK:=Lib.hid hok;clear h hk hp ha ho hl hok hx;go_enter Tryz.func110,Tryz.ntmps110;go_wp2_with fail;refine HH.out.mono ?_
 rintro e w1 ⟨rfl,hb1⟩
 have c1:=HC.out _ hb1;go_wp2_with fail;refine (HN.out _ hb1).mono ?_
 rintro e w2 ⟨rfl,hT⟩
 go_wp2_with fail;go_ret;exact⟨rfl,HK.out,⟨_,HE.out _ _ hb1 hT⟩,(Wr.of_below hb1).trans hT.2⟩
theorem hsetfreed_no (h:HpIn w o l H vc vo vw vf f)(hk:H.ok){p:Nat}(hp:lk H.cur p=none)(b:Bool) :
  Calls Tryz.prog 121 #[.pointer (some ⟨l.h,0,none⟩),.int .i64 p,.bool b] w fun e w'=>e=.returned (.int .i64 70)∧Below w.heap.size w w':=by
 have HH:=Lib.hid (here_no h hk hp);clear h hk hp;go_enter Tryz.func121,Tryz.ntmps121;go_wp2_with fail;refine HH.out.mono ?_
 rintro e w1 ⟨rfl,hb1⟩
 go_wp2_with fail;go_ret;exact⟨rfl,hb1⟩
theorem hsetfreed_in (h:HpIn w o l H vc vo vw vf f)(hk:H.ok){p:Nat}{ob:Ob}(hp:lk H.cur p=some ob)(b:Bool)  :
  Calls Tryz.prog 121 #[.pointer (some ⟨l.h,0,none⟩),.int .i64 p,.bool b] w fun e w'=>e=.returned (.int .i64 0)∧Hp.ok { H with cur:=up H.cur p (ob.setFreed b) }∧(∃ f',HpIn w' o l { H with cur:=up H.cur p (ob.setFreed b) } vc vo vw vf f')∧Wr l.wd w w':=by
 obtain⟨ha,ho,hl,_⟩:=h.at_ hk hp;have hok:=Hp.ok_up hk hp (Ob.setFreed_ok ho b) (rfl);have HH:=Lib.hid (here_yes h hk hp);have HN:=Lib.hid (fun w' (hw:Below w.heap.size w w')=>osetfreed_any (h.wds.below hw) ha ho hl b p rfl)
 have HC:=Lib.hid (fun w' (hw:Below w.heap.size w w')=>(h.below hw).words_cell)
 have HE:=Lib.hid (fun w1 w' (hw:Below w.heap.size w w1) hT=>(h.below hw).turn (w':=w') hk hp (k:=0) (by unfold Ob.size;omega) hT (ha.setFreed b))
 have HK:=Lib.hid hok;clear h hk hp ha ho hl hok;go_enter Tryz.func121,Tryz.ntmps121;go_wp2_with fail;refine HH.out.mono ?_
 rintro e w1 ⟨rfl,hb1⟩
 have c1:=HC.out _ hb1;go_wp2_with fail;refine (HN.out _ hb1).mono ?_
 rintro e w2 ⟨rfl,hT⟩
 go_wp2_with fail;go_ret;exact⟨rfl,HK.out,⟨_,HE.out _ _ hb1 hT⟩,(Wr.of_below hb1).trans hT.2⟩
theorem hsetsecond_no (h:HpIn w o l H vc vo vw vf f)(hk:H.ok){p:Nat}(hp:lk H.cur p=none)(v:Nat) :
  Calls Tryz.prog 145 #[.pointer (some ⟨l.h,0,none⟩),.int .i64 p,.int .u64 v] w fun e w'=>e=.returned (.int .i64 70)∧Below w.heap.size w w':=by
 have HH:=Lib.hid (here_no h hk hp);clear h hk hp;go_enter Tryz.func145,Tryz.ntmps145;go_wp2_with fail;refine HH.out.mono ?_
 rintro e w1 ⟨rfl,hb1⟩
 go_wp2_with fail;go_ret;exact⟨rfl,hb1⟩
theorem hsetsecond_in (h:HpIn w o l H vc vo vw vf f)(hk:H.ok){p:Nat}{ob:Ob}(hp:lk H.cur p=some ob)(v:Nat)(hv:v≤2199023255552) :
  Calls Tryz.prog 145 #[.pointer (some ⟨l.h,0,none⟩),.int .i64 p,.int .u64 v] w fun e w'=>e=.returned (.int .i64 0)∧Hp.ok { H with cur:=up H.cur p (ob.setSecond v) }∧(∃ f',HpIn w' o l { H with cur:=up H.cur p (ob.setSecond v) } vc vo vw vf f')∧Wr l.wd w w':=by
 obtain⟨ha,ho,hl,_⟩:=h.at_ hk hp;have hok:=Hp.ok_up hk hp (Ob.setSecond_ok ho v hv) (rfl);have HH:=Lib.hid (here_yes h hk hp);have HN:=Lib.hid (fun w' (hw:Below w.heap.size w w')=>osetsecond_any (h.wds.below hw) ha ho hl v p v rfl rfl)
 have HC:=Lib.hid (fun w' (hw:Below w.heap.size w w')=>(h.below hw).words_cell)
 have HE:=Lib.hid (fun w1 w' (hw:Below w.heap.size w w1) hT=>(h.below hw).turn (w':=w') hk hp (k:=1) (by unfold Ob.size;omega) hT (ha.setSecond v))
 have HK:=Lib.hid hok;clear h hk hp ha ho hl hok;go_enter Tryz.func145,Tryz.ntmps145;go_wp2_with fail;refine HH.out.mono ?_
 rintro e w1 ⟨rfl,hb1⟩
 have c1:=HC.out _ hb1;go_wp2_with fail;refine (HN.out _ hb1).mono ?_
 rintro e w2 ⟨rfl,hT⟩
 go_wp2_with fail;go_ret;exact⟨rfl,HK.out,⟨_,HE.out _ _ hb1 hT⟩,(Wr.of_below hb1).trans hT.2⟩
end
end Go.Proofs.YteehgedabdchcaaGreat
