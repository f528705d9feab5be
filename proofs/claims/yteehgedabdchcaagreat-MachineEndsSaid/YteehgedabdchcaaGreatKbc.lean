import Derived.Test.YteehgedabdchcaaGreatKaz
set_option linter.all false
set_option maxRecDepth 1000000
set_option maxHeartbeats 16000000
namespace Go.Proofs.YteehgedabdchcaaGreat
open Go.RowKit
def Dh (c n:Int):Int:=(if c<0 then -(c+1) else c)%n
theorem kz (c n:Int)(hn:0<n):0<=Dh c n:=by unfold Dh;exact Int.emod_nonneg _ (by omega)
theorem wh (c n:Int)(hn:0<n):Dh c n<n:=by unfold Dh;exact Int.emod_lt_of_pos _ hn
def Js (c:Int):Prop:=-9223372036854775808<=c/\c<=9223372036854775807
theorem UB (c n:Int)(w:World)(hn:0<n)(hn2:n<=100000000000)(hc:Js c) :
  Calls Tryz.prog 146 #[.int .i64 c,.int .i64 n] w fun e w'=>e=.returned (.int .i64 (Dh c n))/\w=w':=by
 obtain⟨hc1,hc2⟩:=hc;rcases Int.lt_or_le c 0 with h|h
 ·have e:Dh c n=-(c+1).tmod n:=by
   unfold Dh;rw[if_pos h,<-Int.neg_tmod,Int.tmod_eq_emod_of_nonneg (by omega)]
  rw[e];clear e;go_enter Tryz.func146,Tryz.ntmps146;go_wp2;go_ret;exact⟨rfl,rfl⟩
 ·have e:Dh c n=c%n:=by unfold Dh;rw[if_neg (by omega)]
  rw[e];clear e;go_enter Tryz.func146,Tryz.ntmps146;go_wp2;go_ret;exact⟨rfl,rfl⟩
def JV (k a b i n:Int):Pg.D:=
 if k=1\/k=2 then⟨k,Dh a 6,0,Dh i 5,Dh n 5⟩
 else if k=3\/k=9\/k=11\/k=12 then⟨k,Dh a 6,Dh b 6,0,0⟩
 else if k=4\/k=5 then⟨k,Dh a 6,Dh b 6,Dh i 8,0⟩
 else if k=6 then⟨k,Dh a 6,0,Dh i 8,0⟩
 else if k=7 then⟨k,Dh a 6,0,Dh i 8,Dh n 2000001-1000000⟩
 else if k=14 then⟨k,0,0,0,0⟩
 else⟨k,Dh a 6,0,0,0⟩
def fit (d:Pg.D):Pg.D:=JV (1+Dh d.k 14) d.a d.b d.i d.n
theorem XY (d:Pg.D):Pg.right (fit d)=true:=by
 have h1:=kz d.k 14 (by omega)
 have h2:=wh d.k 14 (by omega)
 unfold fit;generalize hk:1+Dh d.k 14=k;have hk':1<=k/\k<=14:=by omega
 clear hk h1 h2;have a1:=kz d.a 6 (by omega)
 have a2:=wh d.a 6 (by omega)
 have b1:=kz d.b 6 (by omega)
 have b2:=wh d.b 6 (by omega)
 have i1:=kz d.i 5 (by omega)
 have i2:=wh d.i 5 (by omega)
 have j1:=kz d.i 8 (by omega)
 have j2:=wh d.i 8 (by omega)
 have n1:=kz d.n 5 (by omega)
 have n2:=wh d.n 5 (by omega)
 have v1:=kz d.n 2000001 (by omega)
 have v2:=wh d.n 2000001 (by omega)
 rcases Pg.kinds hk' with rfl|rfl|rfl|rfl|rfl|rfl|rfl|rfl|rfl|rfl|rfl|rfl|rfl|rfl
 all_goals
  simp[JV,Pg.right,Pg.parts,Pg.strip,Pg.pa,Pg.pb,Pg.pf,Pg.ps,Pg.pn,Pg.pv,Pg.D.get,Pg.D.set,Pg.bare]
  try omega
theorem KE (d:Pg.D)(hk:Js d.k)(ha:Js d.a)(hb:Js d.b)(hi:Js d.i)(hn:Js d.n)(w:World) :
  Calls Tryz.prog 85 #[.agg (jh d)] w fun e w'=>e=.returned (.agg (jh (fit d)))/\Below w.heap.size w w':=by
 obtain⟨rk,a,b,i,n⟩:=d;simp only[fit]at *;have h1:=kz rk 14 (by omega)
 have h2:=wh rk 14 (by omega)
 have hh:∃ k,k=1+Dh rk 14/\1<=k/\k<=14:=⟨_,rfl,by omega,by omega⟩
 obtain⟨k,hke,hk1⟩:=hh;rw[<-hke];have hpk:Dh rk 14=k-1:=by omega
 have HPK:=Qa hpk;clear hke h1 h2 hpk;have v1:=kz n 2000001 (by omega)
 have v2:=wh n 2000001 (by omega)
 simp only[jh];rcases Pg.kinds hk1 with rfl|rfl|rfl|rfl|rfl|rfl|rfl|rfl|rfl|rfl|rfl|rfl|rfl|rfl
 all_goals
  clear hk1;go_enter Tryz.func85,Tryz.ntmps85;go_wp2_with fail;refine (UB _ _ _ (by omega) (by omega) hk).mono ?_
  rw[HPK.out]
  rintro e w' ⟨rfl,rfl⟩
  go_wp2_with (first|(go_at_call 146;refine (UB _ _ _ (by omega) (by omega) (by assumption)).mono ?_;rintro e w' ⟨rfl,rfl⟩)|fail)
  refine bodyPost_ret (v:=.agg (jh (JV _ _ _ _ _))) (by simp[results,Tryz.results85,go_sem,jh,JV]) rfl ⟨rfl,?_⟩
  repeat (first|exact Below.refl _ _|refine qa ?_ _|refine qo ?_ (by simp;try omega) _)
end Go.Proofs.YteehgedabdchcaaGreat
