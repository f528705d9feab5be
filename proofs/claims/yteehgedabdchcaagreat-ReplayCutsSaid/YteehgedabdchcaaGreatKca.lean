import Derived.Test.YteehgedabdchcaaGreatKbz
import Derived.Test.YteehgedabdchcaaGreatKcd
set_option linter.all false
set_option maxRecDepth 1000000
set_option maxHeartbeats 0
open Go.Proofs.Tryz
namespace Go.Proofs.YteehgedabdchcaaGreat
open Go.RowKit Hp
attribute [local go_sem ↓] Go.wp_at_zero Go.wp_at_succ
def sa (c:Int)(hc:-9223372036854775808<=c/\c<=9223372036854775807)(n:Nat)(h1:1<=n)(h2:n<=3000)(w:World) :
  Calls Tryz.prog 44 #[.int .i64 c,.int .i64 n] w fun e w'=>e=.returned (.int .i64 (pk c n))/\w=w':=by
 obtain⟨c1,c2⟩:=hc;have hn0:((n:Int)==0)=false:=by rw[Qh];omega
 have xH:(1:Int)<=(n:Int):=by omega
 have hnJ:(n:Int)<=3000:=by omega
 rcases Int.lt_or_le c 0 with h|h
 ·have e1:(pk c n:Int)=(-(c+1))%(n:Int):=by
   unfold pk;rw[if_pos h];rw[Int.natCast_emod];congr 1;omega
  have b1:0<=-(c+1):=by omega
  have b2:-(c+1)<=9223372036854775807:=by omega
  have HE:=Qa e1;clear e1 h1 h2;go_enter func44,ntmps44;go_wp2_with fail;go_ret;exact⟨SC (by rw[HE.out];first|rfl|rw[<-Int.tmod_eq_emod_of_nonneg b1,Int.neg_tmod]),rfl⟩
 ·have e1:(pk c n:Int)=c%(n:Int):=by
   unfold pk;rw[if_neg (by omega)];rw[Int.natCast_emod];congr 1;omega
  have HE:=Qa e1;clear e1 h1 h2;go_enter func44,ntmps44;go_wp2_with fail;go_ret;exact⟨SC (by rw[HE.out]),rfl⟩
def Mc.KN (M:Mc)(t:Int):(M.step t).1.hs.length=M.hs.length:=by
 unfold Mc.step;split
 ·rfl
 ·unfold Mc.BV;exact Qq
def Mc.EA (M:Mc):M.collect.1.hs.length=M.hs.length:=by
 by_cases h0:M.past.length<2000
 ·cases hc:(M.S.AF M.roots).2.2 with
  | true =>
   rw[uw h0 hc];show M.Db.hs.length=_;rw[(TP hc).1,Qg]
  | false=>rw[uv h0 hc];rfl
 ·unfold Mc.collect;rw[if_pos (by omega)]
def qmb (raw:List (List (List Pg.D))):dD (FQ raw)=jr raw:=by
 unfold dD FQ;rw[List.map_map];refine (List.map_congr_left fun t ht=>?_).trans (List.map_id' _)
 show (vs t).map (fun l=>l.map As.D)=t
 unfold vs;rw[List.map_map];refine (List.map_congr_left fun l hl=>?_).trans (List.map_id' _)
 exact Pu ((mh ht).2 l hl).2.2
structure Ua (w2:World)(m:Ck)(w:World)(o:Own)(M:Mc)(raw:List (List (List Pg.D))):Prop where
 run:EO w2 m w o M
 hl:M.hs.length=(jr raw).length
 rd:∃ R,FU (jr raw) M R
def UD (v:Value)(raw:List (List (List Pg.D)))(vl:Value)(st:List Int)(w:World)(h:AH w v raw)(hI:TI raw)(hl:CN w vl st)(hz:∀ z ∈ st,D4 z) :
  Calls Tryz.prog 42 #[.int .i64 400,v,vl,.int .i64 100] w fun e w'=>∃ (w2:World)(oP:Own)(pv:Option Addr)(cv:Nat)(vh:Value)(m:Ck)(o:Own)(M:Mc),
   e=.returned (.tuple #[.slice pv (jr raw).length cv,vh,ptr m.mb])/\Below w.1.size w w2/\FT (1,0) w2 oP (.slice pv (jr raw).length cv) (jr raw)/\Ua w2 m w' o M raw/\Ci w' vh M.past:=by
 have HPr:=Qa (qgh v raw w h hI);obtain⟨pl,cl,rfl,hlc,hlm,qk⟩:=hl;have dP:=Qa (fun (W:World)(hb:Below w.1.size w W)(j:Nat)(z:Int)(hj:st[j]?=some z)=>show ∃ b off,pl=some ⟨b,off,none⟩/\W.cell? ⟨b,off+j,none⟩=some (.int .i64 z)/\D4 z from by
  rcases qk with h0|⟨b,off,hpl,hc⟩
  ·rw[h0]at hj;simp at hj
  ·exact⟨b,off,hpl,(hb.cell (p:=⟨b,off+j,none⟩) (qnb (hc j z hj))).trans (hc j z hj),hz z (Qe hj)⟩)
 obtain⟨n,hn⟩:=Ja0 st.length;rw[<-hn]at hlc hlm ⊢;have HN:=Qa hn;have HLM:=Qa (And.intro hlc hlm);obtain⟨p1,p4⟩:=nc raw;obtain⟨np,fH⟩:=Ja0 ((jr raw).length);rw[<-fH]at p1 p4 ⊢;have uJ:=Qa fH;clear h hI qk hz hn hlc hlm fH;go_enter func42,ntmps42;go_wp2_with (first
  | (go_at_call 28;refine HPr.out.mono ?_;rintro e w2 ⟨v2,oP,rfl,hF,hK⟩;obtain⟨q0,us,q1,q2,q3⟩:=hF;obtain⟨pv,cv,rfl⟩:=q2.AS;have HF:=Qa (show FT (1,0) w2 oP (.slice pv (jr raw).length cv) (jr raw) from ⟨q0,us,q1,q2,q3⟩);have hb2:=hK.b;rw[<-uJ.out]at HF ⊢;clear q0 q1 q2 q3 hK)
  | (go_at_call 29;refine (NA 400 60 60 500 (by omega) (by omega) (by omega) (by omega) HF.out).mono ?_;rintro e w3 ⟨m,o3,rfl,hR⟩;obtain⟨M0,hM0⟩:=Ja0 (Mc.fresh (An.fresh 400 (FQ raw).length 60 60 (Ek 500).toNat) (FQ raw));rw[<-hM0]at hR;have HR0:=Qa (show Ua w2 m w3 o3 M0 raw from ⟨hR,by rw[hM0];show (List.replicate (FQ raw).length DZ).length=_;rw[Qy,UU],_,by rw[hM0,<-qmb raw];exact qn4 _ _⟩);clear hM0 hR)
  | fail)
 have HB2:=Qa hb2;clear hb2 HPr;go_loopw [14] (fun iv wr=>∃ (k:Nat)(M:Mc)(o:Own),iv=.int .i64 k/\k<=n/\k<=100/\Ua w2 m wr o M raw) (fun iv _=>n-(intOf iv).toNat)
 case atStart=>exact⟨0,M0,o3,rfl,Nat.zero_le _,by omega,HR0.out⟩
 case round =>
  clear HR0;obtain⟨k,M,o,rfl,hkn,Auz,hR⟩:=hrel;have HR:=Qa hR;have hbw:=qe HB2.out hR.run.old;clear hR;by_cases hlt:k<n
  ·have kI:(k:Int)<(n:Int):=by omega
   by_cases hlt2:k<100
   ·have kJ:(k:Int)<100:=by omega
    have HW:=Qa (jd k (by omega))
    obtain⟨z,hz⟩:∃ z,st[k]?=some z:=⟨_,Qb (by rw[<-HN.out];exact hlt)⟩
    obtain⟨b,off,rfl,hc,Agz⟩:=dP.out wr hbw k z hz;have vF:wrap64 ((np:Int)+2)=(np:Int)+2:=IntWalk.wrap64_in _ (by omega)
    have vG:IntKind.i64.wrap ((np:Int)+2)=(np:Int)+2:=IntWalk.i64_in _ (by omega)
    have yN:=Qa (fun (W:World)=>show Calls Tryz.prog 44 #[.int .i64 z,.int .i64 ((np:Int)+2)] W fun e w'=>e=.returned (.int .i64 (pk z (np+2)))/\W=w' from sa z Agz (np+2) (by omega) (by omega) W)
    obtain⟨t,ht⟩:=Ja0 (pk z (np+2));rw[<-ht]at yN;have hlc:=HLM.out.1;clear hz Agz ht hbw;by_cases AFb:np<=t
    ·have hcI:(np:Int)<=(t:Int):=by omega
     have HC:=Qa (HR.out.run.collect);obtain⟨R,dI⟩:=HR.out.rd;have tK:=Qa (qhx dI);have HHl:=Qa (show M.collect.1.hs.length=(jr raw).length from (Mc.EA M).trans HR.out.hl);clear dI;go_wp2_with (first
      | (go_at_call 44;refine (yN.out _).mono ?_;rintro e w4 ⟨rfl,rfl⟩)
      | (go_at_call 31;refine HC.out.mono ?_;rintro e w5 ⟨rfl,o5,rE,_⟩;have yO:=Qa rE;obtain⟨hw1,hw2⟩:=HW.out;clear vF vG rE)
      | fail)
     go_roundw
     case rel=>exact⟨k+1,_,o5,by simp,hlt,hlt2,yO.out,HHl.out,tK.out⟩
     case measure=>clear hw1 hw2;simp[intOf];omega
    ·have hcI:¬((np:Int)<=(t:Int)):=by omega
     have HC:=Qa (HR.out.run.step (t:Int));obtain⟨R,dI⟩:=HR.out.rd;have tK:=Qa (Kn HR.out.run.ok dI (t:Int));have HHl:=Qa (show (M.step (t:Int)).1.hs.length=(jr raw).length from (Mc.KN M _).trans HR.out.hl);clear dI;go_wp2_with (first
      | (go_at_call 44;refine (yN.out _).mono ?_;rintro e w4 ⟨rfl,rfl⟩)
      | (go_at_call 32;refine HC.out.mono ?_;rintro e w5 ⟨rfl,o5,rE,_⟩;have yO:=Qa rE;obtain⟨hw1,hw2⟩:=HW.out;clear vF vG rE)
      | fail)
     go_roundw
     case rel=>exact⟨k+1,_,o5,by simp,hlt,hlt2,yO.out,HHl.out,tK.out⟩
     case measure=>clear hw1 hw2;simp[intOf];omega
   ·have kJ:¬((k:Int)<100):=by omega
    have HHi:=Qa HR.out.run.Fe;clear hbw;go_wp2_with (first
     | (go_at_call 36;refine HHi.out.mono ?_;rintro e w5 ⟨vh,rfl,hrow,rE,_⟩;have iR:=Qa hrow;have yO:=Qa rE;clear hrow rE)
     | fail)
    refine bodyPost_ret (v:=.tuple #[.slice pv np cv,vh,ptr m.mb]) (by simp[results,results42,go_sem]) rfl ?_
    exact⟨w2,oP,pv,cv,vh,m,_,M,rfl,HB2.out,HF.out,⟨yO.out,HR.out.hl,HR.out.rd⟩,iR.out.Sk (by have:=HR.out.run.ok.pl;simp only[maxLen];omega)⟩
  ·have kI:¬((k:Int)<(n:Int)):=by omega
   have HHi:=Qa HR.out.run.Fe;clear hbw;go_wp2_with (first
    | (go_at_call 36;refine HHi.out.mono ?_;rintro e w5 ⟨vh,rfl,hrow,rE,_⟩;have iR:=Qa hrow;have yO:=Qa rE;clear hrow rE)
    | fail)
   refine bodyPost_ret (v:=.tuple #[.slice pv np cv,vh,ptr m.mb]) (by simp[results,results42,go_sem]) rfl ?_
   exact⟨w2,oP,pv,cv,vh,m,_,M,rfl,HB2.out,HF.out,⟨yO.out,HR.out.hl,HR.out.rd⟩,iR.out.Sk (by have:=HR.out.run.ok.pl;simp only[maxLen];omega)⟩
def mj {raw:List (List (List Pg.D))}{w2 w:World}{oP:Own}{pv:Option Addr}{cv np:Nat}(fH:np=(jr raw).length)(hF:FT (1,0) w2 oP (.slice pv np cv) (jr raw))(hb:Below w2.1.size w2 w){vh:Value}{es:List Bg}(hE:Ci w vh es)(hl:es.length<=1000000) :
  Calls Tryz.prog 43 #[.slice pv np cv,vh] w fun e w'=>Ec w w' e (za (jr raw) (some (Rd.new (jr raw).length)) 0 es):=by
 subst fH;obtain⟨h1,h4⟩:=nc raw;have hck:=(VY raw).check;rw[qmb]at hck;exact Uu (hF.at.below hb) hck h1 (by omega) (fun bs hbs=>by have:=(mh hbs).1;omega) hE hl
