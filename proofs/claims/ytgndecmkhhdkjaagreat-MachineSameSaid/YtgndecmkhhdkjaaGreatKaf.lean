import Derived.Test.YtgndecmkhhdkjaaGreatKad
import Derived.Test.YtgndecmkhhdkjaaGreatKae
import Derived.Deep.AppendLies
import Derived.Deep.DrawnRows
import Derived.Deep.RegionHeld3
set_option linter.all false
set_option maxRecDepth 1000000
set_option maxHeartbeats 0
open Go renaming World->Aa,Calls->Ab,Value->Ac
open Go.RowKit renaming Below->Ae
open Go.Value renaming int->I,pointer->Ah,slice->Ai,tuple->Ak
open Go.IntKind renaming i64->Z
open Go.Ending renaming returned->O
open List renaming mem_cons->Ad,take_of_length_le->Aj,map_map->aa,replicate->af
open Go.Proofs.Tryz
open Go.Proofs.Tryz renaming prog->ANa
namespace Go.Proofs.YtgndecmkhhdkjaaGreat
section
open Go.RowKit Hp
variable {w : Aa} {a wd L : Nat} {f : Nat -> Nat} {at' : Nat} {o : Ob}
def Tf (v:Nat)(w:Aa):Ab ANa 219 #[.int .u64 v] w fun e w'=>e=O (.func (.func 238) #[] #[Ah (some ⟨w,0,none⟩)])/\w'=w.alloc (.cells #[.int .u64 v] 203):=by
 go_in;go_wp2_with fail;go_ret;exact⟨rfl,rfl⟩
def M6 {c v:Nat}(h:An w c #[.int .u64 v] 203)(x:Ac):Ab ANa 238 #[x,Ah (some ⟨c,0,none⟩)] w fun e w'=>e=O (.int .u64 v)/\w=w':=by
 have hc:w.cell? ⟨c,0,none⟩=some (.int .u64 v):=h.cell 0;clear h;go_in;go_wp2_with fail;go_ret;exact⟨rfl,rfl⟩
def Turned (w w':Aa)(a wd L:Nat)(f':Nat->Nat):Prop:=BR w' a wd L f'/\Wr wd w w'
def fx (h:BR w a wd L f)(i v c:Nat)(hi:i<L)(hc:An w c #[.int .u64 v] 203)(z:Int)(hz:z=i) :
  Ab ANa 218 #[Ah (some ⟨a,0,none⟩),z,.func (.func 238) #[] #[Ah (some ⟨c,0,none⟩)]] w fun e w'=>e=O (I Z 0)/\Turned w w' a wd L (upd f i v):=by
 subst hz;have HL:=Qa (UT h i i rfl hi);have HS:=Qa (Db h i i v rfl hi v rfl);have HT:=Qa (fun x=>M6 hc x)
 clear h hc;go_in;go_wp2_with fail;refine HL.o.mono ?_
 rintro e w1 ⟨rfl,rfl⟩
 go_wp2_with fail;refine (HT.o _).mono ?_
 rintro e w1 ⟨rfl,rfl⟩
 go_wp2_with fail;refine HS.o.mono ?_
 rintro e w1 ⟨rfl,hs⟩
 go_wp2_with fail;go_ret;exact⟨rfl,hs⟩
def Turned.after {w w1 w':Aa}{f':Nat->Nat}(hb:Ae w w w1)(h:Turned w1 w' a wd L f'):Turned w w' a wd L f':=⟨h.1,(Wr.of_below hb).trans h.2⟩
def xu (h:BR w a wd L f)(ho:BE f at' o)(hk:o.ok)(hl:at'+o.size<=L)(i x:Nat)(hi:i<o.AL.p)(hx:x<=131072)(z u y:Int)(hz:z=at')(hu:u=i)(hy:y=x) :
  Ab ANa 173 #[Ah (some ⟨a,0,none⟩),z,u,y] w fun e w'=>e=O (I Z 0)/\Turned w w' a wd L (upd f (at'+3+i) x):=by
 have HF:=Qa (xp h ho hk hl i _ _ _ (fun w=>YC o.AL hk.AL at' i (Ob.room hk hl h) hi w) Ta)
 have hs:at'+3+i<L:=by unfold Ob.size at hl;omega
 have HW:=Qa h;subst hz hu hy;clear ho h hk hl hi;go_in;go_wp2_with fail;refine HF.o.mono ?_
 rintro e w1 ⟨rfl,hb1⟩
 go_wp2_with fail;refine (Tf x _).mono ?_
 rintro e w2 ⟨rfl,rfl⟩
 go_wp2_with fail;refine (fx (HW.o.below (qc hb1 _)) (at'+3+i) x w1 hs (An.new w1 _ _) _ (by omega)).mono ?_
 rintro e w3 ⟨rfl,hT⟩
 go_wp2_with fail;go_ret;exact⟨rfl,hT.after (qc hb1 _)⟩
def qmv (h:BR w a wd L f)(ho:BE f at' o)(hk:o.ok)(hl:at'+o.size<=L)(i:Nat)(hi:o.AL.p<=i)(z u y:Int)(hz:z=at')(hu:u=i) :
  Ab ANa 173 #[Ah (some ⟨a,0,none⟩),z,u,y] w fun e w'=>e=O (I Z 71)/\Ae w w w':=by
 have HF:=Qa (xp h ho hk hl i _ _ _ (fun w=>X2 o.AL hk.AL at' i hi w) Ta)
 subst hz hu;clear ho h hk hl hi;go_in;go_wp2_with fail;refine HF.o.mono ?_
 rintro e w1 ⟨rfl,hb1⟩
 go_wp2_with fail;go_ret;exact⟨rfl,hb1⟩
def qi1 (h:BR w a wd L f)(ho:BE f at' o)(hk:o.ok)(hl:at'+o.size<=L)(i:Nat)(n:Int)(hi:i<o.AL.d)(hn:-9223372036854775808<=n/\n<=9223372036854775807)(z u:Int)(hz:z=at')(hu:u=i) :
  Ab ANa 209 #[Ah (some ⟨a,0,none⟩),z,u,n] w fun e w'=>e=O (I Z 0)/\Turned w w' a wd L (upd f (at'+3+o.AL.p+i) (GG n).toNat):=by
 have HF:=Qa (xp h ho hk hl i _ _ _ (fun w=>YM o.AL hk.AL at' i (Ob.room hk hl h) hi w) Td)
 have hs:at'+3+o.AL.p+i<L:=by unfold Ob.size at hl;omega
 have HZ:=Qa (fun w=>Ni n hn w)
 have hzb:=K9 hn;have HW:=Qa h;generalize o.AL.p=p at *;obtain⟨v,hv⟩:∃ v:Nat,GG n=v:=⟨(GG n).toNat,by omega⟩
 rw[hv]at HZ ⊢;rw[Int.toNat_natCast];obtain⟨hn1,hn2⟩:=hn;subst hz hu;clear ho h hk hl hi hv hzb;go_in;go_wp2_with fail;refine HF.o.mono ?_
 rintro e w1 ⟨rfl,hb1⟩
 go_wp2_with fail;refine (HZ.o _).mono ?_
 rintro e w2 ⟨rfl,rfl⟩
 go_wp2_with fail;refine (Tf v _).mono ?_
 rintro e w2 ⟨rfl,rfl⟩
 go_wp2_with fail;refine (fx (HW.o.below (qc hb1 _)) (at'+3+p+i) v w1 hs (An.new w1 _ _) _ (by omega)).mono ?_
 rintro e w3 ⟨rfl,hT⟩
 go_wp2_with fail;go_ret;exact⟨rfl,hT.after (qc hb1 _)⟩
def qm6 (h:BR w a wd L f)(ho:BE f at' o)(hk:o.ok)(hl:at'+o.size<=L)(i:Nat)(hi:o.AL.d<=i)(z u n:Int)(hz:z=at')(hu:u=i) :
  Ab ANa 209 #[Ah (some ⟨a,0,none⟩),z,u,n] w fun e w'=>e=O (I Z 71)/\Ae w w w':=by
 have HF:=Qa (xp h ho hk hl i _ _ _ (fun w=>Ye o.AL hk.AL at' i hi w) Td)
 subst hz hu;clear ho h hk hl hi;go_in;go_wp2_with fail;refine HF.o.mono ?_
 rintro e w1 ⟨rfl,hb1⟩
 go_wp2_with fail;go_ret;exact⟨rfl,hb1⟩
def qe9 (h:BR w a wd L f)(ho:BE f at' o)(hk:o.ok)(hl:at'+o.size<=L)(v:Nat)(z u:Int)(hz:z=at')(hu:u=v) :
  Ab ANa 229 #[Ah (some ⟨a,0,none⟩),z,.int .u64 u] w fun e w'=>e=O (I Z 0)/\Turned w w' a wd L (upd f (at'+1) v):=by
 have HS:=Qa (jw h ho hk hl z hz);have hs:at'+1<L:=by unfold Ob.size at hl;omega
 have h9:=h.le;have HW:=Qa h;obtain⟨⟨p,d,wk,fn⟩,fr,se,sr,ps,ns⟩:=o;simp only at HS;subst hz hu;clear ho h hk hl;go_in;go_wp2_with fail;refine HS.o.mono ?_
 rintro e w1 ⟨rfl,hb1⟩
 go_wp2_with fail;refine (Tf v _).mono ?_
 rintro e w2 ⟨rfl,rfl⟩
 go_wp2_with fail;refine (fx (HW.o.below (qc (qc hb1 _) _)) (at'+1) v _ hs (An.Ax _ _ _ _ _ (by simp) rfl) _ (by omega)).mono ?_
 rintro e w3 ⟨rfl,hT⟩
 go_wp2_with fail;go_ret;exact⟨rfl,hT.after (qc (qc hb1 _) _)⟩
def qfs (h:BR w a wd L f)(ho:BE f at' o)(hk:o.ok)(hl:at'+o.size<=L)(b:Bool)(z:Int)(hz:z=at') :
  Ab ANa 210 #[Ah (some ⟨a,0,none⟩),z,b] w fun e w'=>e=O (I Z 0)/\Turned w w' a wd L (upd f at' (head o.AL b)):=by
 have HS:=Qa (jw h ho hk hl z hz);have hs:at'<L:=by unfold Ob.size at hl;omega
 have HH:=Qa (fun w=>cw o.AL hk.AL b w)
 have h9:=h.le;have HW:=Qa h;obtain⟨⟨p,d,wk,fn⟩,fr,se,sr,ps,ns⟩:=o;simp only at HS HH ⊢;generalize head ⟨p,d,wk,fn⟩ b=q at *;subst hz;clear ho h hk hl;go_in;go_wp2_with fail;refine HS.o.mono ?_
 rintro e w1 ⟨rfl,hb1⟩
 go_wp2_with fail;refine (HH.o _).mono ?_
 rintro e w2 ⟨rfl,hb2⟩
 have hb2':=qe (qc hb1 _) hb2;clear hb2;go_wp2_with fail;refine (Tf q _).mono ?_
 rintro e w3 ⟨rfl,rfl⟩
 go_wp2_with fail;refine (fx (HW.o.below (qc hb2' _)) at' q _ hs (An.Ax _ _ _ _ _ (by simp) rfl) _ (by omega)).mono ?_
 rintro e w4 ⟨rfl,hT⟩
 go_wp2_with fail;go_ret;exact⟨rfl,hT.after (qc hb2' _)⟩
def yu (f:Nat->Nat)(at':Nat)(s:BQ)(sr:Nat):Nat->Nat:=upd (upd (upd (Ja f at' (3+s.p+s.d) 0) at' (head s false)) (at'+1) 0) (at'+2) sr
def WY (h:BR w a wd L f)(s:BQ)(hs:s.ok)(hl:at'+(3+s.p+s.d)<=L)(sr:Nat)(dU:sr<=1099511627776)(z u:Int)(hz:z=at')(hu:u=sr) :
  Ab ANa 230 #[Ah (some ⟨a,0,none⟩),z,ka s,u] w fun e w'=>e=O (I Z 0)/\Turned w w' a wd L (yu f at' s sr):=by
 have HZ:=Qa (fun w=>yj s hs w)
 have HH:=Qa (fun w=>cw s hs false w)
 obtain⟨hs1,hs2,_⟩:=hs;have h9:=h.le;have HW:=Qa h;have hlt:at'+2<L:=by omega
 unfold yu;generalize head s false=q at *;obtain⟨p,d,wk,fn⟩:=s;simp only at HZ HH hs1 hs2 hl ⊢;subst hz hu;have yL:=Qa hl;clear h hl;go_in;go_wp2_with fail;refine (HZ.o _).mono ?_
 rintro e w1 ⟨rfl,hb1⟩
 have jS:An w1 w #[p,d,wk,fn] 82:=(An.new w _ _).below hb1 (by simp)
 have hw1:=qe (qc (qd w) _) hb1;clear hb1;go_wp2_with fail;refine (Ls (HW.o.below hw1) at' (3+p+d) 0 _ _ _ rfl rfl rfl yL.o).mono ?_
 rintro e w2 ⟨rfl,hW2,hr2⟩
 have hwd:=HW.o.lt;have dC:=jS.wr hr2 (by omega)
 have cS:=dC.cell;have sS:=dC.lt;have hr:=(Wr.of_below hw1).trans hr2;clear jS hr2 hw1;go_wp2_with fail;refine (HH.o _).mono ?_
 rintro e w3 ⟨rfl,hb3⟩
 have hW3:=hW2.below hb3;have hr3:=hr.Cb hb3;clear hb3 hW2 hr cS sS dC;go_wp2_with fail;refine (Sx 0 (by omega) _).mono ?_
 rintro e w4 ⟨rfl,rfl⟩
 go_wp2_with fail;refine (Db hW3 _ at' q rfl (by omega) _ rfl).mono ?_
 rintro e w4 ⟨rfl,dX,hr4⟩
 go_wp2_with fail;refine (Db dX _ (at'+1) 0 (by omega) (by omega) _ rfl).mono ?_
 rintro e w5 ⟨rfl,cO,dZ⟩
 go_wp2_with fail;refine (Db cO _ (at'+2) sr (by omega) (by omega) _ rfl).mono ?_
 rintro e w6 ⟨rfl,fK,eU⟩
 go_wp2_with fail;go_ret;exact⟨rfl,fK,((hr3.trans hr4).trans dZ).trans eU⟩
end
section
open Hp
def zi (n:Nat)(h:n<=19):n<=BG n/\4<=BG n/\BG n<=24:=by
 unfold BG;repeat' split
 all_goals omega
def BE.of_eq {f f':Nat->Nat}{p:Nat}{o:Ob}(h:BE f p o)(hk:o.ok)(he:∀ j,p<=j->j<p+o.size->f' j=f j):BE f' p o:=by
 have hs:=Ob.AP hk;unfold Ob.size at he hs;refine⟨?_,?_,?_,fun j x hx=>?_,fun j n hn=>?_⟩
 ·rw[he p (by omega) (by omega)];exact h.h0
 ·rw[he (p+1) (by omega) (by omega)];exact h.h1
 ·rw[he (p+2) (by omega) (by omega)];exact h.h2
 ·have:=(Qc.1 hx).1
  rw[hk.lp]at this;rw[he (p+3+j) (by omega) (by omega)];exact h.hp j x hx
 ·have:=(Qc.1 hn).1
  rw[hk.ln]at this;rw[he (p+3+o.AL.p+j) (by omega) (by omega)];exact h.hn j n hn
def Ob.Bh (o:Ob)(i x:Nat):Ob:={ o with AB:=o.AB.set i x }
def Ob.CX (o:Ob)(i:Nat)(n:Int):Ob:={ o with nums:=o.nums.set i n }
def Ob.CI (o:Ob)(b:Bool):Ob:={ o with B5:=b }
def Ob.B8 (o:Ob)(v:Nat):Ob:={ o with second:=v }
def Yw {α:Type}{l:List α}{i:Nat}{x y:α}(h:y ∈ l.set i x):y ∈ l\/y=x:=by
 rcases List.mem_or_eq_of_mem_set h with h|h
 ·exact .inl h
 ·exact .inr h
def Ob.Cw {o:Ob}(h:o.ok)(i x:Nat)(hx:x<=131072):(o.Bh i x).ok:=
 ⟨h.AL,by simp[Ob.Bh,h.lp],h.ln,fun y hy=>(Yw hy).elim (h.ptr y) (fun e=>by rw[e];exact hx),h.num,h.Bc,h.sec⟩
def Ob.ET {o:Ob}(h:o.ok)(i:Nat)(n:Int)(hn:-9223372036854775808<=n/\n<=9223372036854775807):(o.CX i n).ok:=
 ⟨h.AL,h.lp,by simp[Ob.CX,h.ln],h.ptr,fun y hy=>(Yw hy).elim (h.num y) (fun e=>by rw[e];exact hn),h.Bc,h.sec⟩
def Ob.El {o:Ob}(h:o.ok)(b:Bool):(o.CI b).ok:=⟨h.AL,h.lp,h.ln,h.ptr,h.num,h.Bc,h.sec⟩
def Ob.Ec {o:Ob}(h:o.ok)(v:Nat)(hv:v<=2199023255552):(o.B8 v).ok:=⟨h.AL,h.lp,h.ln,h.ptr,h.num,h.Bc,hv⟩
def BE.Bh {f:Nat->Nat}{p:Nat}{o:Ob}(h:BE f p o)(hk:o.ok)(i x:Nat)(hi:i<o.AL.p):BE (upd f (p+3+i) x) p (o.Bh i x):=by
 refine⟨?_,?_,?_,fun j y hy=>?_,fun j n hn=>?_⟩
 ·rw[upd_ne _ _ _ _ (by omega)];exact h.h0
 ·rw[upd_ne _ _ _ _ (by omega)];exact h.h1
 ·rw[upd_ne _ _ _ _ (by omega)];exact h.h2
 ·simp only[Ob.Bh,Qr]at hy
  by_cases e:i=j
  ·subst e
   have hl:i<o.AB.length:=by rw[hk.lp];exact hi
   simp[hl]at hy;rw[<-hy];exact pz _ _ _
  ·rw[if_neg e]at hy
   rw[upd_ne _ _ _ _ (by omega)];exact h.hp j y hy
 ·have:(o.Bh i x).AL.p=o.AL.p:=rfl
  rw[this,upd_ne _ _ _ _ (by omega)];exact h.hn j n hn
def BE.CX {f:Nat->Nat}{p:Nat}{o:Ob}(h:BE f p o)(hk:o.ok)(i:Nat)(n:Int)(hi:i<o.AL.d)(hn:-9223372036854775808<=n/\n<=9223372036854775807) :
  BE (upd f (p+3+o.AL.p+i) (GG n).toNat) p (o.CX i n):=by
 refine⟨?_,?_,?_,fun j y hy=>?_,fun j m hm=>?_⟩
 ·rw[upd_ne _ _ _ _ (by omega)];exact h.h0
 ·rw[upd_ne _ _ _ _ (by omega)];exact h.h1
 ·rw[upd_ne _ _ _ _ (by omega)];exact h.h2
 ·have:=(Qc.1 hy).1
  have e:(o.CX i n).AB=o.AB:=rfl;rw[e,hk.lp]at this;rw[upd_ne _ _ _ _ (by omega)];exact h.hp j y hy
 ·have e1:(o.CX i n).AL.p=o.AL.p:=rfl
  rw[e1];simp only[Ob.CX,Qr]at hm;by_cases e:i=j
  ·subst e
   have hl:i<o.nums.length:=by rw[hk.ln];exact hi
   simp[hl]at hm;rw[<-hm,pz];have:=K9 hn;omega
  ·rw[if_neg e]at hm
   rw[upd_ne _ _ _ _ (by omega)];exact h.hn j m hm
def BE.CI {f:Nat->Nat}{p:Nat}{o:Ob}(h:BE f p o)(b:Bool):BE (upd f p (head o.AL b)) p (o.CI b):=by
 refine⟨pz _ _ _,?_,?_,fun j y hy=>?_,fun j n hn=>?_⟩
 ·rw[upd_ne _ _ _ _ (by omega)];exact h.h1
 ·rw[upd_ne _ _ _ _ (by omega)];exact h.h2
 ·rw[upd_ne _ _ _ _ (by omega)];exact h.hp j y hy
 ·rw[upd_ne _ _ _ _ (by omega)];exact h.hn j n hn
def BE.B8 {f:Nat->Nat}{p:Nat}{o:Ob}(h:BE f p o)(v:Nat):BE (upd f (p+1) v) p (o.B8 v):=by
 refine⟨?_,pz _ _ _,?_,fun j y hy=>?_,fun j n hn=>?_⟩
 ·rw[upd_ne _ _ _ _ (by omega)];exact h.h0
 ·rw[upd_ne _ _ _ _ (by omega)];exact h.h2
 ·rw[upd_ne _ _ _ _ (by omega)];exact h.hp j y hy
 ·rw[upd_ne _ _ _ _ (by omega)];exact h.hn j n hn
def Ob.new (s:BQ)(sr:Nat):Ob:=⟨s,false,0,sr,af s.p 0,af s.d 0⟩
def Ob.JP {s:BQ}(h:s.ok)(sr:Nat)(hs:sr<=1099511627776):(Ob.new s sr).ok:=
 ⟨h,by simp[Ob.new],by simp[Ob.new],fun x hx=>by simp[Ob.new]at hx;omega,fun n hn=>by simp[Ob.new]at hn;omega,hs,by simp[Ob.new]⟩
def BE.new (f:Nat->Nat)(p:Nat)(s:BQ)(sr:Nat):BE (yu f p s sr) p (Ob.new s sr):=by
 unfold yu;refine⟨?_,?_,?_,fun j x hx=>?_,fun j n hn=>?_⟩
 ·rw[upd_ne _ _ _ _ (by omega),upd_ne _ _ _ _ (by omega),pz];rfl
 ·rw[upd_ne _ _ _ _ (by omega),pz];rfl
 ·rw[pz];rfl
 ·have hl:=(Qc.1 hx).1
  simp only[Ob.new,Qx]at hl;have hx0:x=0:=by
   have:=Qe hx;simp[Ob.new]at this;exact this.2
  rw[upd_ne _ _ _ _ (by omega),upd_ne _ _ _ _ (by omega),upd_ne _ _ _ _ (by omega),hx0]
  unfold Ja;rw[if_pos (by omega)]
 ·have hl:=(Qc.1 hn).1
  simp only[Ob.new,Qx]at hl;have hn0:n=0:=by
   have:=Qe hn;simp[Ob.new]at this;exact this.2
  have e1:(Ob.new s sr).AL.p=s.p:=rfl;rw[e1,upd_ne _ _ _ _ (by omega),upd_ne _ _ _ _ (by omega),upd_ne _ _ _ _ (by omega),hn0]
  unfold Ja;rw[if_pos (by omega)];rfl
def xq (f:Nat->Nat)(p:Nat)(s:BQ)(sr j:Nat)(h:j<p\/p+(3+s.p+s.d)<=j):yu f p s sr j=f j:=by
 unfold yu;rw[upd_ne _ _ _ _ (by omega),upd_ne _ _ _ _ (by omega),upd_ne _ _ _ _ (by omega)]
 unfold Ja;rw[if_neg (by omega)]
def vj:Nat->List (Nat×Ob)->Nat->Prop
 | b,[],t=>t=b
 | b,(p,o)::l,t=>p=b/\vj (b+BG o.size) l t
def Kj (l:List (Nat×Ob)):Prop:=∀ x ∈ l,x.2.ok
def pi:∀ (l:List (Nat×Ob))(b t:Nat),vj b l t->b<=t
 | [],b,t,h=>by rw[vj]at h;omega
 | (p,o)::l,b,t,h=>by have:=pi l _ _ h.2;omega
def zd:∀ (l:List (Nat×Ob))(b t:Nat),vj b l t->∀ x ∈ l,b<=x.1/\x.1+BG x.2.size<=t
 | [],b,t,_,x,hx=>by cases hx
 | (p,o)::l,b,t,h,x,hx=>by
  rcases Ad.1 hx with rfl|hx
  ·have:=pi l _ _ h.2
   have:=h.1;simp only;omega
  ·have:=zd l _ _ h.2 x hx;omega
def gg:∀ (l:List (Nat×Ob))(b t:Nat)(o:Ob),vj b l t->vj b (l++[(t,o)]) (t+BG o.size)
 | [],b,t,o,h=>by rw[vj]at h;subst h;exact⟨rfl,rfl⟩
 | (p,q)::l,b,t,o,h=>⟨h.1,gg l _ _ o h.2⟩
def xj:∀ (l:List (Nat×Ob))(b t:Nat),vj b l t->Kj l->(l.map (·.1)).Pairwise (·<·)
 | [],b,t,_,_=>List.Pairwise.nil
 | (p,o)::l,b,t,h,hk=>by
  refine List.Pairwise.cons (fun y hy=>?_) (xj l _ _ h.2 fun x hx=>hk x (.tail _ hx));obtain⟨x,hx,rfl⟩:=Qt.1 hy;have h1:=(zd l _ _ h.2 x hx).1;have h2:=zi o.size (Ob.AP (hk _ (.head _))).2;have:=h.1;show p<x.1;omega
def xg:∀ (l:List (Nat×Ob))(b t:Nat),vj b l t->Kj l->∀ x ∈ l,∀ y ∈ l,x.1≠y.1->x.1+BG x.2.size<=y.1\/y.1+BG y.2.size<=x.1
 | [],b,t,_,_,x,hx,_,_,_=>by cases hx
 | (p,o)::l,b,t,h,hk,x,hx,y,hy,hne=>by
  rcases Ad.1 hx with rfl|hx
  ·rcases Ad.1 hy with rfl|hy
   ·exact absurd rfl hne
   ·have:=(zd l _ _ h.2 y hy).1
    have:=h.1;simp only;omega
  ·rcases Ad.1 hy with rfl|hy
   ·have:=(zd l _ _ h.2 x hx).1
    have:=h.1;simp only;omega
   ·exact xg l _ _ h.2 (fun z hz=>hk z (.tail _ hz)) x hx y hy hne
def lk:List (Nat×Ob)->Nat->Option Ob
 | [],_=>none
 | (q,o)::l,p=>if q=p then some o else lk l p
def zh:∀ {l:List (Nat×Ob)}{p:Nat}{o:Ob},lk l p=some o->(p,o) ∈ l
 | [],p,o,h=>by simp[lk]at h
 | (q,x)::l,p,o,h=>by
  unfold lk at h;split at h
  ·rename_i e
   injection h with h;rw[<-e,<-h];exact .head _
  ·exact .tail _ (zh h)
def En {l:List (Nat×Ob)}{p:Nat}:(lk l p).isSome=true↔p ∈ l.map (·.1):=by
 induction l with
 | nil=>simp[lk]
 | cons x l ih =>
  obtain⟨q,o⟩:=x;unfold lk;split
  ·rename_i e;simp[e]
  ·rename_i e;rw[ih];simp[Ne.symm e]
def up (l:List (Nat×Ob))(p:Nat)(o:Ob):List (Nat×Ob):=l.map fun x=>if x.1=p then (p,o) else x
def Ym (l:List (Nat×Ob))(p:Nat)(o:Ob):(up l p o).map (·.1)=l.map (·.1):=by
 unfold up;rw[aa];refine List.map_congr_left fun x _=>?_
 simp only[Function.comp_apply];split
 ·rename_i h;exact h.symm
 ·rfl
def ND {l:List (Nat×Ob)}{p:Nat}{o:Ob}(q:Nat):lk (up l p o) q=if q=p then (lk l p).map fun _=>o else lk l q:=by
 induction l with
 | nil=>simp[up,lk]
 | cons x l ih =>
  obtain⟨r,y⟩:=x;have e:up ((r,y)::l) p o=(if r=p then (p,o) else (r,y))::up l p o:=rfl;rw[e];by_cases h1:r=p
  ·subst h1
   rw[if_pos rfl];by_cases h2:q=r
   ·subst h2;simp[lk]
   ·rw[if_neg h2]
    rw[if_neg h2]at ih;simp only[lk,if_neg (Ne.symm h2),ih]
  ·rw[if_neg h1]
   by_cases h2:q=p
   ·subst h2
    rw[if_pos rfl]at ih ⊢;simp only[lk,if_neg h1,ih]
   ·rw[if_neg h2]at ih ⊢
    simp only[lk,ih]
def SJ:∀ (l:List (Nat×Ob))(b t p:Nat)(o:Ob),(∀ y,(p,y) ∈ l->o.size=y.size)->vj b l t->vj b (up l p o) t
 | [],b,t,p,o,_,h=>h
 | (q,y)::l,b,t,p,o,hs,h=>by
  have e:up ((q,y)::l) p o=(if q=p then (p,o) else (q,y))::up l p o:=rfl;rw[e];have ih:=SJ l (b+BG y.size) t p o (fun z hz=>hs z (.tail _ hz)) h.2;by_cases h1:q=p
  ·subst h1
   rw[if_pos rfl];exact⟨h.1,by rw[hs y (.head _)];exact ih⟩
  ·rw[if_neg h1];exact⟨h.1,ih⟩
def QI {l:List (Nat×Ob)}{p:Nat}{o:Ob}(h:Kj l)(ho:o.ok):Kj (up l p o):=by
 intro x hx;obtain⟨y,hy,rfl⟩:=Qt.1 hx;split
 ·exact ho
 ·exact h y hy
end
section
open Go.RowKit Hp
attribute [local go_sem ↓] Go.wp_at_zero Go.wp_at_succ
structure Bn where
 id:Nat
 h:Nat
 a:Nat
 wd:Nat
structure Hp where
 size:Nat
 use:Bool
 cur:List (Nat×Ob)
 top:Nat
 AK:Bool
 old:List (Nat×Ob×Option Nat)
 Ca:Nat
 Bv:Nat
 scan:Nat
 Ap:Nat
 AA:List Nat
 final:List Nat
def Hp.base (H:Hp)(u:Bool):Nat:=if u then 1+H.size else 1
def Hp.Ch (H:Hp):List (Nat×Ob):=H.old.map fun x=>(x.1,x.2.1)
def gl:List (Nat×Ob×Option Nat)->Nat
 | []=>0
 | (_,o,none)::l=>BG o.size+gl l
 | (_,_,some _)::l=>gl l
structure Hp.ok (H:Hp):Prop where
 sz:16<=H.size/\H.size<=16384
 cl:vj (H.base H.use) H.cur H.top
 ck:Kj H.cur
 ol:vj (H.base !H.use) H.Ch H.Ca
 ok:Kj H.Ch
 ot:H.Ca<=H.base (!H.use)+H.size
 still:H.AK=false->H.old=[]
 GL:H.Bv=gl H.old
 room:H.top+H.Bv<=H.base H.use+H.size
 Bc:H.Ap<=1099511627776
 CE:H.scan<=65536
 gone:∀ x ∈ H.old,∀ q,x.2.2=some q->1<=q/\q<=131072
def Hp.cells (H:Hp)(a:Nat)(vc vo vw vf:Ac):Array Ac:=
 if H.use then #[Ah (some ⟨a,0,none⟩),I Z 1,H.size,H.Ca,I Z (1+(H.size:Int)),H.size,H.top,vo,vc,I Z 1,.bool H.AK,H.Bv,H.scan,H.Ap,vw,vf]
 else #[Ah (some ⟨a,0,none⟩),I Z 1,H.size,H.top,I Z (1+(H.size:Int)),H.size,H.Ca,vc,vo,(),.bool H.AK,H.Bv,H.scan,H.Ap,vw,vf]
def nv (p:Nat):Ac:=I Z p
structure AN (w:Aa)(o:Own)(l:Bn)(H:Hp)(vc vo vw vf:Ac)(f:Nat->Nat):Prop where
 hb:An w l.h (H.cells l.a vc vo vw vf) 141
 Cr:BR w l.a l.wd (2*H.size+1) f
 rc:Row w o (l.id,if H.use then 4 else 3) 3 1 vc H.cur.length (H.cur.map fun x=>nv x.1)
 ro:Row w o (l.id,if H.use then 3 else 4) 3 1 vo H.old.length (H.old.map fun x=>nv x.1)
 rw:Row w o (l.id,5) 3 1 vw H.AA.length (H.AA.map nv)
 rf:Row w o (l.id,6) 3 1 vf H.final.length (H.final.map nv)
 oh:o l.h=(l.id,0)
 oa:o l.a=(l.id,1)
 ow:o l.wd=(l.id,2)
 Fb:∀ x ∈ H.cur,BE f x.1 x.2
 Ch:∀ x ∈ H.old,(x.2.2=none->BE f x.1 x.2.1)/\∀ q,x.2.2=some q->f x.1=4*q+2
 zr:f 0=0
def Row.below {w w':Aa}{o:Own}{t:Tag}{e:TypeId}{size:Nat}{v:Ac}{n:Nat}{xs:List Ac}(h:Row w o t e size v n xs)(k:Ae w w w'):Row w' o t e size v n xs:=
 h.Ar (T:=fun _=>False) (Stp.of_below k) (fun h=>h)
def AN.below {w w':Aa}{o:Own}{l:Bn}{H:Hp}{vc vo vw vf:Ac}{f:Nat->Nat}(h:AN w o l H vc vo vw vf f)(k:Ae w w w'):AN w' o l H vc vo vw vf f:=
 ⟨h.hb.below k h.hb.lt,h.Cr.below k,h.rc.below k,h.ro.below k,h.rw.below k,h.rf.below k,h.oh,h.oa,h.ow,h.Fb,h.Ch,h.zr⟩
def Row.cells {w:Aa}{o:Own}{t:Tag}{e:TypeId}{g n cap:Nat}{xs:List Ac}(h:Row w o t e 1 (Ai (some ⟨g,0,none⟩) n cap) n xs)(j:Nat)(x:Ac)(hx:xs[j]?=some x):w.cell? ⟨g,j,none⟩=some x:=by
 have:=h.own.cells (g:=g) rfl j x hx;rwa [show (⟨g,0,none⟩:Addr).add j=⟨g,j,none⟩ from by unfold Addr.add;split<;>simp_all]at this
def Row.form {w:Aa}{o:Own}{t:Tag}{e:TypeId}{v:Ac}{n:Nat}{xs:List Ac}(h:Row w o t e 1 v n xs) :
  (v=Ai none 0 0/\n=0)\/∃ g cap,v=Ai (some ⟨g,0,none⟩) n cap/\n<=cap/\cap<=maxLen/\g<w.1.size/\o g=t:=by
 rcases h.own.2 with ⟨rfl,rfl⟩|⟨g,cap,cur,rfl,_,hg,hn,hc,_⟩
 ·exact .inl ⟨rfl,rfl⟩
 ·exact .inr ⟨g,cap,rfl,hn,hc,(Qf.1 hg).1,h.tag g rfl⟩
def VT {w:Aa}{o:Own}{t:Tag}{v:Ac}(ps:List Nat)(hr:Row w o t 3 1 v ps.length (ps.map nv))(hs:ps.Pairwise (·<·))(hl:ps.length<=100000)(x:Nat)(z:Int)(hz:z=x) :
  Ab ANa 73 #[v,z] w fun e w'=>e=O (Ak #[I Z (((ps.map fun (p:Nat)=>(p:Int)).countP (·<(x:Int)):Nat):Int),.bool (decide (x ∈ ps))])/\∃ q,w'=w.drewN q:=by
 subst hz;rcases hr.form with⟨rfl,h0⟩|⟨g,cap,rfl,hn,hc,_,_⟩
 ·have:ps=[]:=List.eq_nil_of_length_eq_zero h0
  subst this;refine (Tryz.slices_BinarySearch_int_empty none 0 x w).mono ?_;rintro e w'⟨rfl,rfl⟩;exact⟨rfl,0,rfl⟩
 ·refine (Tryz.slices_BinarySearch_int g 0 ps.length cap (ps.map fun (p:Nat)=>(p:Int)) x w (by simp) (by omega) ?_ ?_).mono ?_
  ·intro j hj
   have hj':j<ps.length:=by simpa using hj
   rw[Nat.zero_add];refine hr.cells j _ ?_;rw[Qj,Qb hj'];simp[nv,List.getD,Qb hj']
  ·rw[Aj (by simp)]
   refine List.Pairwise.map _ ?_ hs;intro a b h;omega
  ·rintro e w'⟨rfl,hq⟩
   rw[Aj (by simp)]
   refine⟨?_,hq⟩;have e:((ps.map fun (p:Nat)=>(p:Int)).contains (x:Int))=decide (x ∈ ps):=by
    rw[Bool.eq_iff_iff];simp only[List.contains_eq_mem,Qt,decide_eq_true_eq];exact⟨fun⟨a,ha,e⟩=>by rw[show x=a by omega];exact ha,fun h=>⟨x,h,rfl⟩⟩
   rw[e]
section
variable {w : Aa} {o : Own} {l : Bn} {H : Hp} {vc vo vw vf : Ac} {f : Nat -> Nat}
def xc (h:AN w o l H vc vo vw vf f):Ab ANa 124 #[Ah (some ⟨l.h,0,none⟩)] w fun e w'=>e=O (.bool H.AK)/\w=w':=by
 have c:w.cell? ⟨l.h,10,none⟩=some (.bool H.AK):=by rw[h.hb.cell];unfold Hp.cells;split<;>rfl
 clear h;go_in;go_wp2_with fail;go_ret;exact⟨rfl,rfl⟩
def yp:∀ (l:List (Nat×Ob))(b t:Nat),vj b l t->Kj l->b+4*l.length<=t
 | [],b,t,h,_=>by rw[vj]at h;simp;omega
 | (p,o)::l,b,t,h,hk=>by
  have:=yp l _ _ h.2 fun x hx=>hk x (.tail _ hx);have:=zi o.size (Ob.AP (hk _ (.head _))).2;simp only[Qv];omega
def SQ (hk:H.ok):H.cur.length<=16384:=by
 have:=yp _ _ _ hk.cl hk.ck;have:=hk.room;have:=hk.sz;omega
def UQ (hk:H.ok):H.old.length<=16384:=by
 have:=yp _ _ _ hk.ol hk.ok;have:=hk.ot;have:=hk.sz;have e:H.Ch.length=H.old.length:=by simp[Hp.Ch]
 omega
def Su (h:AN w o l H vc vo vw vf f) (hk:H.ok) (p:Nat) (z:Int) (hz:z=p) :
  Ab ANa 46 #[Ah (some ⟨l.h,0,none⟩),z] w fun e w'=>e=O (.bool (lk H.cur p).isSome)/\Ae w w w':=by
 subst hz;have hbs:=fun (w':Aa) (hw:Ae w w w')=>VT (w:=w') (o:=o) (t:=(l.id,if H.use then 4 else 3)) (v:=vc) (H.cur.map (·.1)) (by simpa [aa,Function.comp_def] using h.rc.below hw) (xj _ _ _ hk.cl hk.ck) (by have:=SQ hk;simpa using by omega) p p rfl
 have hd:decide (p ∈ H.cur.map (·.1))=(lk H.cur p).isSome:=by rw[Bool.eq_iff_iff,decide_eq_true_eq,En]
 rw[hd]at hbs;generalize (((H.cur.map (·.1)).map fun (p:Nat)=>(p:Int)).countP (·<(p:Int)):Nat)=q at hbs
 generalize (lk H.cur p).isSome=b at *;have c:=h.hb.cell;unfold Hp.cells at c;have HB:=Qa hbs;clear h hbs hd
 cases hu:H.use
 all_goals
  rw[hu]at c;first|rw[if_pos rfl]at c|rw[if_neg (by simp)]at c
  clear hu;go_in;go_upto_region 3 with fail;go_quiet ((go_at_call 73;exact Calls.quiet_of (HB.o _ (zo (qd w) _))));go_wp2_with fail;go_ret;exact⟨rfl,zo (qd w) _⟩
end
end
section
open Go.RowKit Hp
section
variable {w : Aa} {o : Own} {l : Bn} {H : Hp} {vc vo vw vf : Ac} {f : Nat -> Nat}
def Hp.Bt (H:Hp)(u:Bool):1<=H.base u/\H.base u<=1+H.size:=by
 unfold Hp.base;split<;>omega
def AN.at_ (h:AN w o l H vc vo vw vf f)(hk:H.ok){p:Nat}{ob:Ob}(hp:lk H.cur p=some ob):BE f p ob/\ob.ok/\p+ob.size<=2*H.size+1/\1<=p:=by
 have hm:=zh hp;have h1:=zd _ _ _ hk.cl _ hm;have h2:=hk.ck _ hm;have h3:=zi _ (Ob.AP h2).2;have h4:=hk.room;have h5:=H.Bt H.use;simp only at h1 h3;exact⟨h.Fb _ hm,h2,by omega,by omega⟩
def Hp.apart (hk:H.ok){x:Nat×Ob}(hx:x ∈ H.cur){y:Nat×Ob×Option Nat}(hy:y ∈ H.old):x.1+x.2.size<=y.1\/y.1+y.2.1.size<=x.1:=by
 have h1:=zd _ _ _ hk.cl _ hx;have h2:=zi _ (Ob.AP (hk.ck _ hx)).2;have hy':(y.1,y.2.1) ∈ H.Ch:=Qt.2 ⟨y,hy,rfl⟩;have h3:=zd _ _ _ hk.ol _ hy';have h4:=zi _ (Ob.AP (hk.ok _ hy')).2;have h5:=hk.room;have h6:=hk.ot;simp only at h3 h4;unfold Hp.base at h1 h3 h5 h6
 cases hu:H.use<;>simp[hu]at h1 h3 h5 h6<;>omega
def rq {l:List (Nat×Ob)}{b t:Nat}(hl:vj b l t)(hk:Kj l){p:Nat}{x y:Ob}(hx:(p,x) ∈ l)(hy:(p,y) ∈ l):x=y:=by
 have hs:=xj l b t hl hk;induction l generalizing b with
 | nil=>cases hx
 | cons z l ih =>
  obtain⟨q,u⟩:=z;rw[List.map_cons,List.pairwise_cons]at hs;have hno:∀ v,(q,v) ∈ l->False:=fun v hv=>by
   have:=hs.1 q (Qt.2 ⟨_,hv,rfl⟩);omega
  rcases Ad.1 hx with e1|hx'
  ·rcases Ad.1 hy with e2|hy'
   ·injection e1 with _ e1;injection e2 with _ e2;rw[e1,e2]
   ·injection e1 with e1 _;subst e1;exact (hno _ hy').elim
  ·rcases Ad.1 hy with e2|hy'
   ·injection e2 with e2 _;subst e2;exact (hno _ hx').elim
   ·exact ih hl.2 (fun z hz=>hk z (.tail _ hz)) hx' hy' hs.2
def AN.turn {w':Aa} (h:AN w o l H vc vo vw vf f) (hk:H.ok) {p:Nat} {ob dH:Ob} (hp:lk H.cur p=some ob) {k v:Nat} (hkk:k<ob.size)
  (hT:Turned w w' l.a l.wd (2*H.size+1) (upd f (p+k) v)) (ho:BE (upd f (p+k) v) p dH) :
  AN w' o l { H with cur:=up H.cur p dH } vc vo vw vf (upd f (p+k) v):=by
 have hm:=zh hp;have gW:=h.oh;have how:=h.ow;have hne:∀ {c:Nat} {i:Nat},o c=(l.id,i)->i≠2->c≠l.wd:=fun hc hi e=>by
  rw[e,how]at hc;injection hc with _ hc;exact hi hc.symm
 have hrow:∀ {i:Nat} {v:Ac} {n:Nat} {xs:List Ac},i≠2->Row w o (l.id,i) 3 1 v n xs->Row w' o (l.id,i) 3 1 v n xs:=fun hi hr=>by
  refine hr.Ar (T:=fun t=>t=(l.id,2)) (o':=o) ⟨hT.2.os,hT.2.tape,hT.2.output,hT.2.size,fun _ _=>rfl,fun b hb ht=>hT.2.block b hb fun e=>ht (by rw[e];exact how)⟩ ?_
  intro e;injection e with _ e;exact hi e
 have hlen:(up H.cur p dH).length=H.cur.length:=by simp[up]
 have hmap:((up H.cur p dH).map fun x=>nv x.1)=H.cur.map fun x=>nv x.1:=by
  have:=congrArg (List.map nv) (Ym H.cur p dH);simpa [aa,Function.comp_def] using this
 refine⟨h.hb.wr hT.2 (hne gW (by omega)),hT.1,?_,hrow (by split<;>omega) h.ro,hrow (by omega) h.rw,hrow (by omega) h.rf,h.oh,h.oa,h.ow,?_,?_,?_⟩
 ·show Row w' o (l.id,if H.use then 4 else 3) _ 1 vc (up H.cur p dH).length _
  rw[hlen,hmap];exact hrow (by split<;>omega) h.rc
 ·intro x hx
  obtain⟨y,hy,rfl⟩:=Qt.1 hx;split
  ·exact ho
  ·rename_i e
   refine (h.Fb y hy).of_eq (hk.ck y hy) fun j h1 h2=>?_;have h3:=xg _ _ _ hk.cl hk.ck y hy (p,ob) hm e;have h4:=zi _ (Ob.AP (hk.ck y hy)).2;have h5:=zi _ (Ob.AP (hk.ck _ hm)).2;simp only at h3 h5;exact upd_ne _ _ _ _ (by omega)
 ·intro x hx
  have h3:=Hp.apart hk hm hx;have h4:x.2.1.ok:=hk.ok (x.1,x.2.1) (Qt.2 ⟨x,hx,rfl⟩);have h5:=Ob.AP h4;obtain⟨g1,g2⟩:=h.Ch x hx;simp only at h3;refine⟨fun e=>(g1 e).of_eq h4 fun j h1 h2=>upd_ne _ _ _ _ (by omega),fun q e=>?_⟩
  rw[upd_ne _ _ _ _ (by omega)];exact g2 q e
 ·have h1:=zd _ _ _ hk.cl _ hm
  have h2:=H.Bt H.use;simp only at h1;rw[upd_ne _ _ _ _ (by omega)];exact h.zr
def Hp.Dz (hk:H.ok){p:Nat}{ob dH:Ob}(hp:lk H.cur p=some ob)(ho:dH.ok)(hs:dH.size=ob.size):Hp.ok { H with cur:=up H.cur p dH }:=
 ⟨hk.sz,SJ _ _ _ _ _ (fun y hy=>by rw[hs,rq hk.cl hk.ck (zh hp) hy]) hk.cl,QI hk.ck ho,hk.ol,hk.ok,hk.ot,hk.still,hk.GL,hk.room,hk.Bc,hk.CE,hk.gone⟩
def AN.Bo (h:AN w o l H vc vo vw vf f):w.cell? ⟨l.h,0,none⟩=some (Ah (some ⟨l.a,0,none⟩)):=by
 rw[h.hb.cell];unfold Hp.cells;split<;>rfl
def qnk {a wd L at':Nat}{ob:Ob}(h:BR w a wd L f)(ho:BE f at' ob)(hk:ob.ok)(hl:at'+ob.size<=L)(i:Nat)(n:Int)(hi:i<ob.AL.d)(hn:-9223372036854775808<=n/\n<=9223372036854775807) :
  Ab ANa 209 #[Ah (some ⟨a,0,none⟩),at',i,n] w fun e w'=>e=O (I Z 0)/\Turned w w' a wd L (upd f (at'+(3+ob.AL.p+i)) (GG n).toNat):=by
 rw[show at'+(3+ob.AL.p+i)=at'+3+ob.AL.p+i from by omega]
 exact qi1 h ho hk hl i n hi hn at' i rfl rfl
def kg (h:AN w o l H vc vo vw vf f)(hk:H.ok){p:Nat}{ob:Ob}(hp:lk H.cur p=some ob) :
  Ab ANa 46 #[Ah (some ⟨l.h,0,none⟩),p] w fun e w'=>e=O (.bool true)/\Ae w w w':=by
 have h1:=Su h hk p p rfl;rw[hp]at h1;exact h1
def yl (h:AN w o l H vc vo vw vf f)(hk:H.ok){p:Nat}(hp:lk H.cur p=none) :
  Ab ANa 46 #[Ah (some ⟨l.h,0,none⟩),p] w fun e w'=>e=O (.bool false)/\Ae w w w':=by
 have h1:=Su h hk p p rfl;rw[hp]at h1;exact h1
end
section
variable {w : Aa} {o : Own} {l : Bn} {H : Hp} {vc vo vw vf : Ac} {f : Nat -> Nat}
def Wb (h:AN w o l H vc vo vw vf f)(hk:H.ok){p:Nat}{ob:Ob}(hp:lk H.cur p=some ob)   :
  Ab ANa 58 #[Ah (some ⟨l.h,0,none⟩),p] w fun e w'=>e=O (Ak #[ob.Ap,()])/\Ae w w w':=by
 obtain⟨ha,ho,hl,_⟩:=h.at_ hk hp;have HH:=Qa (kg h hk hp);have HN:=Qa (fun w' (hw:Ae w w w')=>bc (h.Cr.below hw) ha ho hl p rfl)
 have HC:=Qa (fun w' (hw:Ae w w w')=>(h.below hw).Bo)
 clear h hk hp ha ho hl;go_in;go_wp2_with fail;refine HH.o.mono ?_
 rintro e w1 ⟨rfl,hb1⟩
 have c1:=HC.o _ hb1;go_wp2_with fail;refine (HN.o _ hb1).mono ?_
 rintro e w2 ⟨rfl,hb2⟩
 go_wp2_with fail;go_ret2;exact⟨rfl,qe hb1 hb2⟩
def WO (h:AN w o l H vc vo vw vf f)(hk:H.ok){p:Nat}(hp:lk H.cur p=none)  :
  Ab ANa 58 #[Ah (some ⟨l.h,0,none⟩),p] w fun e w'=>e=O (Ak #[(),I Z 70])/\Ae w w w':=by
 have HH:=Qa (yl h hk hp);clear h hk hp;go_in;go_wp2_with fail;refine HH.o.mono ?_
 rintro e w1 ⟨rfl,hb1⟩
 go_wp2_with fail;go_ret2;exact⟨rfl,hb1⟩
def qmz (h:AN w o l H vc vo vw vf f)(hk:H.ok){p:Nat}{ob:Ob}(hp:lk H.cur p=some ob)   :
  Ab ANa 196 #[Ah (some ⟨l.h,0,none⟩),p] w fun e w'=>e=O (Ak #[.int .u64 ob.second,()])/\Ae w w w':=by
 obtain⟨ha,ho,hl,_⟩:=h.at_ hk hp;have HH:=Qa (kg h hk hp);have HN:=Qa (fun w' (hw:Ae w w w')=>qjj (h.Cr.below hw) ha ho hl p rfl)
 have HC:=Qa (fun w' (hw:Ae w w w')=>(h.below hw).Bo)
 clear h hk hp ha ho hl;go_in;go_wp2_with fail;refine HH.o.mono ?_
 rintro e w1 ⟨rfl,hb1⟩
 have c1:=HC.o _ hb1;go_wp2_with fail;refine (HN.o _ hb1).mono ?_
 rintro e w2 ⟨rfl,hb2⟩
 go_wp2_with fail;go_ret2;exact⟨rfl,qe hb1 hb2⟩
def qlw (h:AN w o l H vc vo vw vf f)(hk:H.ok){p:Nat}(hp:lk H.cur p=none)  :
  Ab ANa 196 #[Ah (some ⟨l.h,0,none⟩),p] w fun e w'=>e=O (Ak #[.int .u64 0,I Z 70])/\Ae w w w':=by
 have HH:=Qa (yl h hk hp);clear h hk hp;go_in;go_wp2_with fail;refine HH.o.mono ?_
 rintro e w1 ⟨rfl,hb1⟩
 go_wp2_with fail;go_ret2;exact⟨rfl,hb1⟩
def L9 (h:AN w o l H vc vo vw vf f)(hk:H.ok){p:Nat}{ob:Ob}(hp:lk H.cur p=some ob)(i:Nat)(n:Int)(hx:ob.nums[i]?=some n) :
  Ab ANa 158 #[Ah (some ⟨l.h,0,none⟩),p,i] w fun e w'=>e=O (Ak #[n,()])/\Ae w w w':=by
 obtain⟨ha,ho,hl,_⟩:=h.at_ hk hp;have HH:=Qa (kg h hk hp);have HN:=Qa (fun w' (hw:Ae w w w')=>X8 (h.Cr.below hw) ha ho hl i n hx p i rfl rfl)
 have HC:=Qa (fun w' (hw:Ae w w w')=>(h.below hw).Bo)
 clear h hk hp ha ho hl hx;go_in;go_wp2_with fail;refine HH.o.mono ?_
 rintro e w1 ⟨rfl,hb1⟩
 have c1:=HC.o _ hb1;go_wp2_with fail;refine (HN.o _ hb1).mono ?_
 rintro e w2 ⟨rfl,hb2⟩
 go_wp2_with fail;go_ret2;exact⟨rfl,qe hb1 hb2⟩
def Jr (h:AN w o l H vc vo vw vf f)(hk:H.ok){p:Nat}{ob:Ob}(hp:lk H.cur p=some ob)(i:Nat)(hx:ob.AL.d<=i) :
  Ab ANa 158 #[Ah (some ⟨l.h,0,none⟩),p,i] w fun e w'=>e=O (Ak #[(),I Z 71])/\Ae w w w':=by
 obtain⟨ha,ho,hl,_⟩:=h.at_ hk hp;have HH:=Qa (kg h hk hp);have HN:=Qa (fun w' (hw:Ae w w w')=>MD (h.Cr.below hw) ha ho hl i hx p i rfl rfl)
 have HC:=Qa (fun w' (hw:Ae w w w')=>(h.below hw).Bo)
 clear h hk hp ha ho hl hx;go_in;go_wp2_with fail;refine HH.o.mono ?_
 rintro e w1 ⟨rfl,hb1⟩
 have c1:=HC.o _ hb1;go_wp2_with fail;refine (HN.o _ hb1).mono ?_
 rintro e w2 ⟨rfl,hb2⟩
 go_wp2_with fail;go_ret2;exact⟨rfl,qe hb1 hb2⟩
def Md (h:AN w o l H vc vo vw vf f)(hk:H.ok){p:Nat}(hp:lk H.cur p=none)(i:Nat) :
  Ab ANa 158 #[Ah (some ⟨l.h,0,none⟩),p,i] w fun e w'=>e=O (Ak #[(),I Z 70])/\Ae w w w':=by
 have HH:=Qa (yl h hk hp);clear h hk hp;go_in;go_wp2_with fail;refine HH.o.mono ?_
 rintro e w1 ⟨rfl,hb1⟩
 go_wp2_with fail;go_ret2;exact⟨rfl,hb1⟩
def qkw (h:AN w o l H vc vo vw vf f)(hk:H.ok){p:Nat}{ob:Ob}(hp:lk H.cur p=some ob)(i:Nat)(n:Int)(hx:ob.AL.d<=i) :
  Ab ANa 160 #[Ah (some ⟨l.h,0,none⟩),p,i,n] w fun e w'=>e=O (I Z 71)/\Ae w w w':=by
 obtain⟨ha,ho,hl,_⟩:=h.at_ hk hp;have HH:=Qa (kg h hk hp);have HN:=Qa (fun w' (hw:Ae w w w')=>qm6 (h.Cr.below hw) ha ho hl i hx p i n rfl rfl)
 have HC:=Qa (fun w' (hw:Ae w w w')=>(h.below hw).Bo)
 clear h hk hp ha ho hl hx;go_in;go_wp2_with fail;refine HH.o.mono ?_
 rintro e w1 ⟨rfl,hb1⟩
 have c1:=HC.o _ hb1;go_wp2_with fail;refine (HN.o _ hb1).mono ?_
 rintro e w2 ⟨rfl,hb2⟩
 go_wp2_with fail;go_ret;exact⟨rfl,qe hb1 hb2⟩
def qln (h:AN w o l H vc vo vw vf f)(hk:H.ok){p:Nat}(hp:lk H.cur p=none)(i:Nat)(n:Int) :
  Ab ANa 160 #[Ah (some ⟨l.h,0,none⟩),p,i,n] w fun e w'=>e=O (I Z 70)/\Ae w w w':=by
 have HH:=Qa (yl h hk hp);clear h hk hp;go_in;go_wp2_with fail;refine HH.o.mono ?_
 rintro e w1 ⟨rfl,hb1⟩
 go_wp2_with fail;go_ret;exact⟨rfl,hb1⟩
def qmt (h:AN w o l H vc vo vw vf f)(hk:H.ok){p:Nat}{ob:Ob}(hp:lk H.cur p=some ob)(i:Nat)(n:Int)(hx:i<ob.AL.d)(hn:-9223372036854775808<=n/\n<=9223372036854775807) :
  Ab ANa 160 #[Ah (some ⟨l.h,0,none⟩),p,i,n] w fun e w'=>e=O (I Z 0)/\Hp.ok { H with cur:=up H.cur p (ob.CX i n) }/\(∃ f',AN w' o l { H with cur:=up H.cur p (ob.CX i n) } vc vo vw vf f')/\Wr l.wd w w':=by
 obtain⟨ha,ho,hl,_⟩:=h.at_ hk hp;have hok:=Hp.Dz hk hp (Ob.ET ho i n hn) (rfl);have HH:=Qa (kg h hk hp);have HN:=Qa (fun w' (hw:Ae w w w')=>qnk (h.Cr.below hw) ha ho hl i n hx hn)
 have HC:=Qa (fun w' (hw:Ae w w w')=>(h.below hw).Bo)
 have HE:=Qa (fun w1 w' (hw:Ae w w w1) hT=>(h.below hw).turn (w':=w') hk hp (k:=3+ob.AL.p+i) (by unfold Ob.size;omega) hT (by rw[show p+(3+ob.AL.p+i)=p+3+ob.AL.p+i from by omega];exact ha.CX ho i n hx hn))
 have HK:=Qa hok;clear h hk hp ha ho hl hok hx;go_in;go_wp2_with fail;refine HH.o.mono ?_
 rintro e w1 ⟨rfl,hb1⟩
 have c1:=HC.o _ hb1;go_wp2_with fail;refine (HN.o _ hb1).mono ?_
 rintro e w2 ⟨rfl,hT⟩
 go_wp2_with fail;go_ret;exact⟨rfl,HK.o,⟨_,HE.o _ _ hb1 hT⟩,(Wr.of_below hb1).trans hT.2⟩
def qh4 (h:AN w o l H vc vo vw vf f)(hk:H.ok){p:Nat}(hp:lk H.cur p=none)(b:Bool) :
  Ab ANa 164 #[Ah (some ⟨l.h,0,none⟩),p,b] w fun e w'=>e=O (I Z 70)/\Ae w w w':=by
 have HH:=Qa (yl h hk hp);clear h hk hp;go_in;go_wp2_with fail;refine HH.o.mono ?_
 rintro e w1 ⟨rfl,hb1⟩
 go_wp2_with fail;go_ret;exact⟨rfl,hb1⟩
def qhi (h:AN w o l H vc vo vw vf f)(hk:H.ok){p:Nat}{ob:Ob}(hp:lk H.cur p=some ob)(b:Bool)  :
  Ab ANa 164 #[Ah (some ⟨l.h,0,none⟩),p,b] w fun e w'=>e=O (I Z 0)/\Hp.ok { H with cur:=up H.cur p (ob.CI b) }/\(∃ f',AN w' o l { H with cur:=up H.cur p (ob.CI b) } vc vo vw vf f')/\Wr l.wd w w':=by
 obtain⟨ha,ho,hl,_⟩:=h.at_ hk hp;have hok:=Hp.Dz hk hp (Ob.El ho b) (rfl);have HH:=Qa (kg h hk hp);have HN:=Qa (fun w' (hw:Ae w w w')=>qfs (h.Cr.below hw) ha ho hl b p rfl)
 have HC:=Qa (fun w' (hw:Ae w w w')=>(h.below hw).Bo)
 have HE:=Qa (fun w1 w' (hw:Ae w w w1) hT=>(h.below hw).turn (w':=w') hk hp (k:=0) (by unfold Ob.size;omega) hT (ha.CI b))
 have HK:=Qa hok;clear h hk hp ha ho hl hok;go_in;go_wp2_with fail;refine HH.o.mono ?_
 rintro e w1 ⟨rfl,hb1⟩
 have c1:=HC.o _ hb1;go_wp2_with fail;refine (HN.o _ hb1).mono ?_
 rintro e w2 ⟨rfl,hT⟩
 go_wp2_with fail;go_ret;exact⟨rfl,HK.o,⟨_,HE.o _ _ hb1 hT⟩,(Wr.of_below hb1).trans hT.2⟩
def tu (h:AN w o l H vc vo vw vf f)(hk:H.ok){p:Nat}(hp:lk H.cur p=none)(v:Nat) :
  Ab ANa 200 #[Ah (some ⟨l.h,0,none⟩),p,.int .u64 v] w fun e w'=>e=O (I Z 70)/\Ae w w w':=by
 have HH:=Qa (yl h hk hp);clear h hk hp;go_in;go_wp2_with fail;refine HH.o.mono ?_
 rintro e w1 ⟨rfl,hb1⟩
 go_wp2_with fail;go_ret;exact⟨rfl,hb1⟩
def tn (h:AN w o l H vc vo vw vf f)(hk:H.ok){p:Nat}{ob:Ob}(hp:lk H.cur p=some ob)(v:Nat)(hv:v<=2199023255552) :
  Ab ANa 200 #[Ah (some ⟨l.h,0,none⟩),p,.int .u64 v] w fun e w'=>e=O (I Z 0)/\Hp.ok { H with cur:=up H.cur p (ob.B8 v) }/\(∃ f',AN w' o l { H with cur:=up H.cur p (ob.B8 v) } vc vo vw vf f')/\Wr l.wd w w':=by
 obtain⟨ha,ho,hl,_⟩:=h.at_ hk hp;have hok:=Hp.Dz hk hp (Ob.Ec ho v hv) (rfl);have HH:=Qa (kg h hk hp);have HN:=Qa (fun w' (hw:Ae w w w')=>qe9 (h.Cr.below hw) ha ho hl v p v rfl rfl)
 have HC:=Qa (fun w' (hw:Ae w w w')=>(h.below hw).Bo)
 have HE:=Qa (fun w1 w' (hw:Ae w w w1) hT=>(h.below hw).turn (w':=w') hk hp (k:=1) (by unfold Ob.size;omega) hT (ha.B8 v))
 have HK:=Qa hok;clear h hk hp ha ho hl hok;go_in;go_wp2_with fail;refine HH.o.mono ?_
 rintro e w1 ⟨rfl,hb1⟩
 have c1:=HC.o _ hb1;go_wp2_with fail;refine (HN.o _ hb1).mono ?_
 rintro e w2 ⟨rfl,hT⟩
 go_wp2_with fail;go_ret;exact⟨rfl,HK.o,⟨_,HE.o _ _ hb1 hT⟩,(Wr.of_below hb1).trans hT.2⟩
