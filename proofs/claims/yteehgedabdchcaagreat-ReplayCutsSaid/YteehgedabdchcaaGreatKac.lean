import Derived.Test.YteehgedabdchcaaGreatKab
set_option linter.all false
set_option maxRecDepth 1000000
set_option maxHeartbeats 0
open Go.Proofs.Tryz
namespace Go.Proofs.YteehgedabdchcaaGreat
open Go.RowKit
def CV (c n:Int):Int:=(if c<0 then -(c+1) else c)%n
def wv (c n:Int)(hn:0<n):0<=CV c n:=by unfold CV;exact Int.emod_nonneg _ (by omega)
def xh (c n:Int)(hn:0<n):CV c n<n:=by unfold CV;exact Int.emod_lt_of_pos _ hn
def D4 (c:Int):Prop:=-9223372036854775808<=c/\c<=9223372036854775807
def WQ (c n:Int)(w:World)(hn:0<n)(hn2:n<=100000000000)(hc:D4 c) :
  Calls Tryz.prog 146 #[.int .i64 c,.int .i64 n] w fun e w'=>e=.returned (.int .i64 (CV c n))/\w=w':=by
 obtain⟨hc1,hc2⟩:=hc;rcases Int.lt_or_le c 0 with h|h
 ·have e:CV c n=-(c+1).tmod n:=by
   unfold CV;rw[if_pos h,<-Int.neg_tmod,Int.tmod_eq_emod_of_nonneg (by omega)]
  rw[e];clear e;go_enter func146,ntmps146;go_wp2;go_ret;exact⟨rfl,rfl⟩
 ·have e:CV c n=c%n:=by unfold CV;rw[if_neg (by omega)]
  rw[e];clear e;go_enter func146,ntmps146;go_wp2;go_ret;exact⟨rfl,rfl⟩
def Hg (k a b i n:Int):Pg.D:=
 if k=1\/k=2 then⟨k,CV a 6,0,CV i 5,CV n 5⟩
 else if k=3\/k=9\/k=11\/k=12 then⟨k,CV a 6,CV b 6,0,0⟩
 else if k=4\/k=5 then⟨k,CV a 6,CV b 6,CV i 8,0⟩
 else if k=6 then⟨k,CV a 6,0,CV i 8,0⟩
 else if k=7 then⟨k,CV a 6,0,CV i 8,CV n 2000001-1000000⟩
 else if k=14 then⟨k,0,0,0,0⟩
 else⟨k,CV a 6,0,0,0⟩
def fit (d:Pg.D):Pg.D:=Hg (1+CV d.k 14) d.a d.b d.i d.n
def qpe (d:Pg.D):Pg.right (fit d)=true:=by
 have h1:=wv d.k 14 (by omega)
 have h2:=xh d.k 14 (by omega)
 unfold fit;generalize hk:1+CV d.k 14=k;have hk':1<=k/\k<=14:=by omega
 clear hk h1 h2;have a1:=wv d.a 6 (by omega)
 have a2:=xh d.a 6 (by omega)
 have b1:=wv d.b 6 (by omega)
 have b2:=xh d.b 6 (by omega)
 have i1:=wv d.i 5 (by omega)
 have i2:=xh d.i 5 (by omega)
 have j1:=wv d.i 8 (by omega)
 have j2:=xh d.i 8 (by omega)
 have n1:=wv d.n 5 (by omega)
 have n2:=xh d.n 5 (by omega)
 have v1:=wv d.n 2000001 (by omega)
 have v2:=xh d.n 2000001 (by omega)
 rcases Pg.kinds hk' with rfl|rfl|rfl|rfl|rfl|rfl|rfl|rfl|rfl|rfl|rfl|rfl|rfl|rfl
 all_goals
  simp[Hg,Pg.right,Pg.parts,Pg.strip,Pg.pa,Pg.pb,Pg.pf,Pg.ps,Pg.pn,Pg.pv,Pg.D.get,Pg.D.set,Pg.bare];try omega
def L8 (d:Pg.D)(hk:D4 d.k)(ha:D4 d.a)(hb:D4 d.b)(hi:D4 d.i)(hn:D4 d.n)(w:World) :
  Calls Tryz.prog 85 #[.agg (ke d)] w fun e w'=>e=.returned (.agg (ke (fit d)))/\Below w.1.size w w':=by
 obtain⟨rk,a,b,i,n⟩:=d;simp only[fit]at *;have h1:=wv rk 14 (by omega)
 have h2:=xh rk 14 (by omega)
 have hh:∃ k,k=1+CV rk 14/\1<=k/\k<=14:=⟨_,rfl,by omega,by omega⟩
 obtain⟨k,hke,hk1⟩:=hh;rw[<-hke];have hpk:CV rk 14=k-1:=by omega
 have HPK:=Qa hpk;clear hke h1 h2 hpk;have v1:=wv n 2000001 (by omega)
 have v2:=xh n 2000001 (by omega)
 simp only[ke];rcases Pg.kinds hk1 with rfl|rfl|rfl|rfl|rfl|rfl|rfl|rfl|rfl|rfl|rfl|rfl|rfl|rfl
 all_goals
  clear hk1;go_enter func85,ntmps85;go_wp2_with fail;refine (WQ _ _ _ (by omega) (by omega) hk).mono ?_
  rw[HPK.out];rintro e w' ⟨rfl,rfl⟩;go_wp2_with (first|(go_at_call 146;refine (WQ _ _ _ (by omega) (by omega) (by assumption)).mono ?_;rintro e w' ⟨rfl,rfl⟩)|fail)
  refine bodyPost_ret (v:=.agg (ke (Hg _ _ _ _ _))) (by simp[results,results85,go_sem,ke,Hg]) rfl ⟨rfl,?_⟩
  repeat (first|exact Below.refl _ _|refine qc ?_ _|refine zc ?_ (by simp;try omega) _)
