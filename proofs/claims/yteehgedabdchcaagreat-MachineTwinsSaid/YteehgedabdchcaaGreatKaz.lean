import Derived.Test.YteehgedabdchcaaGreatKax
import Derived.Test.YteehgedabdchcaaGreatKba
set_option linter.all false
set_option maxRecDepth 1000000
set_option maxHeartbeats 0
open Go renaming World->Aa,Calls->Ab,Value->Ac
open Go.RowKit renaming Below->Ae
open Go.Value renaming int->I,pointer->Ah,slice->Ai,tuple->Ak,agg->Al
open Go.IntKind renaming i64->Z
open Go.Ending renaming returned->O
open And renaming intro->Ad
open List renaming take_length->Aj,not_mem_nil->af,getElem?_cons_zero->ag,mem_cons->ai,nil_append->aj
open Nat renaming zero_le->aa
open Go.Proofs.Tryz
open Go.Proofs.Tryz renaming prog->AId
namespace Go.Proofs.YteehgedabdchcaaGreat
open Go.RowKit Hp
attribute [local go_sem ↓] Go.wp_at_zero Go.wp_at_succ
def N6 {S:Am}(hk:S.ok):S.Jv.length<=1099511627776:=by
 unfold Am.Jv ul;split
 ·simp
 ·split
  ·simp
  ·split
   ·simp
   ·simp only[aj];exact Ue hk
section
variable {w w' : Aa} {o o' : Own} {m : Co} {M : Mc}
def yf {l:List Nat}{k x:Nat}(h:l[k]?=some x):l.take (k+1)=l.take k++[x]:=by
 rw[List.take_add_one,h];rfl
def UN (h:BL w o m M)(hk:M.ok) :
  Ab AId 31 #[ptr m.mb] w fun e w'=>e=O (.bool M.collect.2)/\C2 m M.collect.1 o w w':=by
 have nZ:M.hs.length<=8:=by rw[hk.len];exact hk.n8
 have hn1:1<=M.hs.length:=by rw[hk.len,<-hk.Au];exact hk.inv.t1
 have hrl:M.roots.length=M.hs.length*12:=lj _;have eG:=Qa (VP h);obtain⟨ve,jb,hrp⟩:=h.A2;have HC:=Qa (fun (W:Aa)(oo:Own)(N:Mc)(hM:BL W oo m N)=>show W.cell? ⟨m.mb,0,none⟩=some (ptr m.y.sb) from by obtain⟨_,j,_⟩:=hM.A2;exact j.cell 0)
 have wG:=Qa (fun (W:Aa)(hM:BL W o m M)=>Vu hM hk)
 have lZ:=Qa (fun (W w3:Aa)(v3:Ac)(hM:BL W o m M)(hb:Ae W.1.size W w3)(hr:Row w3 (fo W.1.size) (1,0) 3 1 v3 M.roots.length (M.roots.map nv)) =>
  show Ab AId 18 #[ptr m.y.sb,v3] w3 fun e w4=>∃ v' o4,e=O (Ak #[v',.bool (M.S.AP M.roots).2.2])/\BL w4 o4 m { M with S:=(M.S.AP M.roots).1 }/\Row w4 o4 (m.y.l.id+1,0) 3 1 v' (M.S.AP M.roots).2.1.length ((M.S.AP M.roots).2.1.map nv)/\Stp (qh m.y) o o4 W w4 from by
   have s3:Stp (fun _=>False) o (ext o W.1.size (m.y.l.id+1,0)) W w3:=(Stp.of_below hb).ext _ _ (Qk _);have hM3:BL w3 (ext o W.1.size (m.y.l.id+1,0)) m M:=hM.Ar s3 (fun _ h=>h) fun _ h=>h;refine (Yy hM3.st hk.inv (hr.out o (m.y.l.id+1,0)) (by omega) (by omega)).mono ?_
   rintro e w4 ⟨v',o4,rfl,hS,hR,hs⟩;exact⟨v',o4,rfl,hM3.store hS hs,hR,(s3.mono fun _ h=>h.elim).trans hs⟩)
 have Ait:=Qa (fun (w4:Aa)(o4:Own)(v':Ac)(hM:BL w4 o4 m { M with S:=(M.S.AP M.roots).1 })(hr:Row w4 o4 (m.y.l.id+1,0) 3 1 v' (M.S.AP M.roots).2.1.length ((M.S.AP M.roots).2.1.map nv))(ht:(M.S.AP M.roots).2.2=true) =>
  show Ab AId 89 #[ptr m.mb,v'] w4 fun e w5=>e=O (Ak #[])/\BL w5 o4 m M.DL/\Stp (fun t=>t=(m.y.l.id+2,2)) o4 o4 w4 w5 from by
   have hl:(M.S.AP M.roots).2.1.length=M.roots.length:=by
    unfold Am.AP at ht ⊢;split
    ·simp
    ·rename_i h;rw[if_neg h]at ht;cases ht
   rcases hr.shape with ⟨_,h0⟩|⟨g,cap,rfl,hc,_⟩
   ·exfalso;omega
   ·exact YU hM nZ hr.UG (by rw[hr.EG]) hl)
 have dZ:=Qa (fun (w4:Aa)(o4:Own)(hM:BL w4 o4 m { M with S:=(M.S.AP M.roots).1 })(ht:(M.S.AP M.roots).2.2=false) =>
  show Ab AId 19 #[ptr m.y.sb] w4 fun e w5=>∃ o5,e=O (.bool M.S.Cm.2)/\BL w5 o5 m M.Ge/\Stp (qh m.y) o4 o5 w4 w5 from by
   have e:(M.S.AP M.roots).1=M.S:=by
    unfold Am.AP at ht ⊢;split
    ·rename_i h;rw[if_pos h]at ht;cases ht
    ·rfl
   rw[e]at hM;refine (qot hM.st hk.inv (by rw[hk.lo];simp)).mono ?_
   rintro e w5 ⟨rfl,o5,hS,hs⟩;exact⟨o5,rfl,hM.store hS hs,hs⟩)
 have kV:=Qa (fun (W:Aa)(oo:Own)(N:Mc)(hM:BL W oo m N)(k n:Int)=>show Ab AId 91 #[Ah (some ⟨m.mb,3,none⟩),Al #[I Z (-1),I Z 0,I Z 0,k,I Z 0,n]] W fun e w'=>e=O (Ak #[])/\∃ o',BL w' o' m { N with past:=kv N.past ⟨-1,0,0,⟨k,0,n⟩⟩ }/\Stp (uu m) oo o' W w' from VG hM ⟨-1,0,0,⟨k,0,n⟩⟩)
 have uK:=Qa (fun (W:Aa)(oo:Own)(N:Mc)(hM:BL W oo m N)=>show Ab AId 90 #[ptr m.y.sb] W fun e w'=>∃ v,e=O v/\Row w' oo (m.y.l.id,15) 3 1 v N.S.came.length (N.S.came.map nv)/\BL w' oo m { N with S:={ N.S with came:=[] } }/\Stp (qh m.y) oo oo W w' from by
  refine (qpx hM.st).mono ?_;rintro e w' ⟨v,rfl,hr,hS,hs⟩;have hs':Stp (qh m.y) oo oo W w':=hs.mono (by rintro _ rfl;rfl)
  exact⟨v,rfl,hr,hM.store hS hs',hs'⟩)
 have uN:=Qa (fun (W:Aa)(oo:Own)(N:Mc)(hM:BL W oo m N)=>show Ab AId 92 #[ptr m.y.sb] W fun e w'=>∃ v,e=O v/\Row w' oo (m.y.l.id,14) 3 1 v N.S.lost.length (N.S.lost.map nv)/\BL w' oo m { N with S:={ N.S with lost:=[] } }/\Stp (qh m.y) oo oo W w' from by
  refine (qpc hM.st).mono ?_;rintro e w' ⟨v,rfl,hr,hS,hs⟩;have hs':Stp (qh m.y) oo oo W w':=hs.mono (by rintro _ rfl;rfl)
  exact⟨v,rfl,hr,hM.store hS hs',hs'⟩)
 have cb:=jb.cell;obtain⟨RC,hRC⟩:=Ja0 M.collect;rw[<-hRC];have qH:=Qa hRC;have HM:=Qa h;have HK:=Qa hk;clear hRC h hk hrp nZ hn1 hrl jb;by_cases hf:2000<=M.past.length
 ·have e1:RC=(M,false):=by rw[qH.o];unfold Mc.collect;rw[if_pos hf]
  rw[decide_eq_true hf]at eG;have HE:=Qa e1;clear e1 hf;go_in;go_wp2_with (first|(go_at_call 87;refine eG.o.mono ?_;rintro e w2 ⟨rfl,hM2,hk2,hz2,hs2⟩)|fail)
  go_ret;rw[HE.o];exact⟨rfl,o,hM2,hs2.mono (by rintro _ rfl;exact .inr rfl)⟩
 ·rw[decide_eq_false hf]at eG
  have hf2:M.past.length<2000:=by omega
  have uL:=Qa hf2;clear hf hf2;go_in;go_upto_region 4 with (first|(go_at_call 87;refine eG.o.mono ?_;rintro e w2 ⟨rfl,hM2,hk2,hz2,hs2⟩)|fail)
  have c2:w2.cell? ⟨m.mb,0,none⟩=some (ptr m.y.sb):=HC.o w2 o M hM2;have Aay:=Qa (wG.o w2.drew (hM2.below (qe (qc w2))));have eU:=Qa (hM2.below (qe (qc w2)));have HS2:=Qa (show Stp (kf m) o o w w2 from hs2.mono (by rintro _ rfl;exact .inr rfl))
  have l2:m.mb<w2.1.size:=hM2.lt;clear hM2 hk2 hz2 hs2 cb;go_region_held3 (fun w'=>w'.cell? ⟨m.mb,0,none⟩=some (ptr m.y.sb)) (first|with_reducible assumption|go_keep) (first
   | (go_at_call 88;refine Aay.o.mono ?_;rintro e w3 ⟨v3,rfl,hr3,hb3⟩;have wN:w3.cell? ⟨m.mb,0,none⟩=some (ptr m.y.sb):=(hb3.cell (p:=⟨m.mb,0,none⟩) l2).trans c2)
   | (go_at_call 18;refine (lZ.o w2.drew w3 v3 eU.o hb3 hr3).mono ?_;rintro e w4 ⟨v4,o4,rfl,nY,hr4,hs4⟩;have yS:w4.cell? ⟨m.mb,0,none⟩=some (ptr m.y.sb):=HC.o w4 o4 _ nY)
   | fail)
  have vY:=Qa nY;have HR4:=Qa hr4;have HS4:=Qa (show Stp (kf m) o o4 w w4 from (HS2.o.trans (Stp.of_below (qe (qc w2)))).trans (hs4.mono fun _ h=>gy h));clear nY hr4 hs4 wN c2 l2 Aay eU HS2
  cases hbt:(M.S.AP M.roots).2.2 with
  | true =>
   have oO:=Qa (Ait.o w4 o4 v4 vY.o HR4.o hbt);obtain⟨N,hN⟩:=Ja0 M.DL;have HRN:=Qa (show RC=(N.told,false) from by rw[qH.o,hN];exact dv uL.o hbt)
   have hNb:N.S.came.length<=1099511627776/\N.S.lost.length<=1099511627776:=by
    have hok:=(Mc.F2 HK.o hbt).1;rw[<-hN]at hok;refine⟨Qo hok.cm hok.KZ,?_⟩;have e:N.S.lost=M.S.lost:=by rw[hN,(Um hbt).2.1];rfl
    rw[e,HK.o.lo];simp
   rw[<-hN]at oO;clear hN;go_upto_region 8 with (first|(go_at_call 89;refine oO.o.mono ?_;rintro e w5 ⟨rfl,uT,hs5⟩)|fail)
   obtain⟨o5,ho5⟩:=Ja0 o4;have sw5:Stp (kf m) o o4 w w5:=HS4.o.trans (hs5.mono (by rintro _ rfl;exact .inr rfl))
   rw[<-ho5]at uT sw5;clear hs5 ho5 yS hbt oO;obtain⟨n,hn⟩:=Ja0 N.S.came.length;obtain⟨n2,hn2⟩:=Ja0 N.S.lost.length;have kU:=Qa hn;have iZ:=Qa hn2;have qX:=Qa (show n<=1099511627776/\n2<=1099511627776 from by rw[hn,hn2];exact hNb)
   have uJ:=Qa (uK.o w5 o5 N uT);have cb5:w5.cell? ⟨m.mb,0,none⟩=some (ptr m.y.sb):=HC.o w5 o5 N uT;have HS5:=Qa sw5;clear hn hn2 hNb uT sw5;go_wp2_with (first|(go_at_call 90;refine uJ.o.mono ?_;rintro e w6 ⟨v6,rfl,eY,uU,hs6⟩;rw[<-kU.o]at eY;obtain⟨pv,cv,rfl⟩:=eY.A5)|fail)
   have HI6:=Qa (Ad uU (Ad eY (HS5.o.trans (hs6.mono fun _ h=>gy h))));clear uU eY hs6 cb5 uJ;go_loopw [39] (fun ix wr=>∃ (k:Nat)(oo:Own),ix=I Z k/\k<=n/\BL wr oo m (⟨{ N.S with came:=[] },N.ps,N.hs,ze N.past 5 (N.S.came.take k)⟩:Mc)/\Row wr oo (m.y.l.id,15) 3 1 (.slice pv n cv) n (N.S.came.map nv)/\Stp (kf m) o oo w wr) (fun ix _=>n-(intOf ix).toNat)
   case atStart=>exact⟨0,o5,rfl,aa _,HI6.o⟩
   case round =>
    clear HI6;obtain⟨k,oo,rfl,hkn,hM,hr,hs⟩:=hrel;by_cases hlt:k<n
    ·have eO:(k:Int)<(n:Int):=by omega
     obtain⟨hw1,hw2⟩:=yd k n hlt qX.o.1;obtain⟨x,hx⟩:∃ x,N.S.came[k]?=some x:=⟨_,Qb (by rw[<-kU.o];exact hlt)⟩
     obtain⟨g,e,hcell,hcap⟩:∃ g,pv=some ⟨g,0,none⟩/\wr.cell? ⟨g,k,none⟩=some (I Z x)/\n<=cv:=by
      rcases hr.form with ⟨_,h0⟩|⟨g,cap,e,hcap,_⟩
      ·omega
      ·injection e with e1 _ e3
       subst e1 e3;exact⟨g,rfl,hr.cells k _ (by rw[Qj,hx];rfl),hcap⟩
     subst e;have hcI:(n:Int)<=(cv:Int):=by omega
     have oN:=Qa (kV.o wr oo _ hM 5 x);have gI:=Qa (show ze N.past 5 (N.S.came.take (k+1))=kv (ze N.past 5 (N.S.came.take k)) ⟨-1,0,0,⟨5,0,x⟩⟩ from by rw[yf hx];exact ur _ _ _ _)
     have HR:=Qa (Ad hr hs);have HLt:=Qa hlt;clear hM hr hs hx hcap;go_wp2_with (first|(go_at_call 91;refine oN.o.mono ?_;rintro e w7 ⟨rfl,o7,hM7,hs7⟩)|fail)
     go_roundw
     case rel=>exact⟨k+1,o7,by simp,hlt,by rw[gI.o];exact hM7,HR.o.1.Ar hs7 (by intro e;rcases e with e|e<;>simp at e),HR.o.2.trans (hs7.mono (by rintro _ (rfl|rfl)<;>exact .inr rfl))⟩
     case measure=>clear hw1 hw2;simp[intOf];omega
    ·obtain rfl:k=n:=by omega
     rw[kU.o,Aj]at hM;have cb7:wr.cell? ⟨m.mb,0,none⟩=some (ptr m.y.sb):=HC.o wr oo _ hM;have HL7:=Qa (uN.o wr oo _ hM);have nT:=Qa hs;clear hM hr hs hlt hkn;go_wp2_with (first|(go_at_call 92;refine HL7.o.mono ?_;rintro e w8 ⟨v8,rfl,ig,hM8,gQ⟩;rw[show (⟨{ N.S with came:=[] },N.ps,N.hs,ze N.past 5 N.S.came⟩:Mc).S.lost=N.S.lost from rfl,<-iZ.o]at ig;obtain⟨pv2,wO,rfl⟩:=ig.A5)|fail)
     have HI8:=Qa (Ad hM8 (Ad ig (nT.o.trans (gQ.mono fun _ h=>gy h))));clear hM8 ig gQ cb7 HL7;go_loopw [57] (fun ix wr=>∃ (k:Nat)(oo:Own),ix=I Z k/\k<=n2/\BL wr oo m (⟨{ N.S with came:=[],lost:=[] },N.ps,N.hs,ze (ze N.past 5 N.S.came) 4 (N.S.lost.take k)⟩:Mc)/\Row wr oo (m.y.l.id,14) 3 1 (.slice pv2 n2 wO) n2 (N.S.lost.map nv)/\Stp (kf m) o oo w wr) (fun ix _=>n2-(intOf ix).toNat)
     case atStart=>exact⟨0,oo,rfl,aa _,HI8.o⟩
     case round =>
      clear HI8;obtain⟨q,o9,rfl,hqn,hM,hr,hs⟩:=hrel;by_cases hlt:q<n2
      ·have eO:(q:Int)<(n2:Int):=by omega
       obtain⟨hw1,hw2⟩:=yd q n2 hlt qX.o.2;obtain⟨x,hx⟩:∃ x,N.S.lost[q]?=some x:=⟨_,Qb (by rw[<-iZ.o];exact hlt)⟩
       obtain⟨g,e,hcell,hcap⟩:∃ g,pv2=some ⟨g,0,none⟩/\wr.cell? ⟨g,q,none⟩=some (I Z x)/\n2<=wO:=by
        rcases hr.form with ⟨_,h0⟩|⟨g,cap,e,hcap,_⟩
        ·omega
        ·injection e with e1 _ e3
         subst e1 e3;exact⟨g,rfl,hr.cells q _ (by rw[Qj,hx];rfl),hcap⟩
       subst e;have hcI:(n2:Int)<=(wO:Int):=by omega
       have oN:=Qa (kV.o wr o9 _ hM 4 x);have gI:=Qa (show ze (ze N.past 5 N.S.came) 4 (N.S.lost.take (q+1))=kv (ze (ze N.past 5 N.S.came) 4 (N.S.lost.take q)) ⟨-1,0,0,⟨4,0,x⟩⟩ from by rw[yf hx];exact ur _ _ _ _)
       have HR:=Qa (Ad hr hs);clear hM hr hs hx hcap;go_wp2_with (first|(go_at_call 91;refine oN.o.mono ?_;rintro e w9 ⟨rfl,o10,qM,iM⟩)|fail)
       go_roundw
       case rel=>exact⟨q+1,o10,by simp,hlt,by rw[gI.o];exact qM,HR.o.1.Ar iM (by intro e;rcases e with e|e<;>simp at e),HR.o.2.trans (iM.mono (by rintro _ (rfl|rfl)<;>exact .inr rfl))⟩
       case measure=>clear hw1 hw2;simp[intOf];omega
      ·obtain rfl:q=n2:=by omega
       rw[iZ.o,Aj]at hM;have HFin:=Qa (show C2 m N.told o w wr from ⟨o9,hM,hs⟩);clear hM hr hs;go_wp2_with fail;go_ret;rw[HRN.o];exact⟨rfl,HFin.o⟩
  | false =>
   have wK:=Qa (dZ.o w4 o4 vY.o hbt);obtain⟨N,hN⟩:=Ja0 M.Ge;obtain⟨bE,hbE⟩:=Ja0 M.S.Cm.2;have HRN:=Qa (show RC=(N.told,bE) from by rw[qH.o,hN,hbE];exact dz uL.o hbt)
   have hNb:N.S.came.length<=1099511627776/\N.S.lost.length<=1099511627776:=by
    have hok:N.S.ok:=by rw[hN];exact WW HK.o.inv
    refine⟨Qo hok.cm hok.KZ,?_⟩;have e:N.S.lost=M.S.lost++M.S.Jv:=by rw[hN];show M.S.Cm.1.lost=_;rw[TO]
    rw[e,HK.o.lo,aj];exact N6 HK.o.inv
   rw[<-hN,<-hbE]at wK;clear hN hbE;go_upto_region 8 with (first|(go_at_call 19;refine wK.o.mono ?_;rintro e w5 ⟨o5,rfl,uT,hs5⟩)|fail)
   have sw5:Stp (kf m) o o5 w w5:=HS4.o.trans (hs5.mono fun _ h=>gy h);clear hs5 yS hbt wK;obtain⟨n,hn⟩:=Ja0 N.S.came.length;obtain⟨n2,hn2⟩:=Ja0 N.S.lost.length;have kU:=Qa hn;have iZ:=Qa hn2;have qX:=Qa (show n<=1099511627776/\n2<=1099511627776 from by rw[hn,hn2];exact hNb)
   have uJ:=Qa (uK.o w5 o5 N uT);have cb5:w5.cell? ⟨m.mb,0,none⟩=some (ptr m.y.sb):=HC.o w5 o5 N uT;have HS5:=Qa sw5;clear hn hn2 hNb uT sw5;go_wp2_with (first|(go_at_call 90;refine uJ.o.mono ?_;rintro e w6 ⟨v6,rfl,eY,uU,hs6⟩;rw[<-kU.o]at eY;obtain⟨pv,cv,rfl⟩:=eY.A5)|fail)
   have HI6:=Qa (Ad uU (Ad eY (HS5.o.trans (hs6.mono fun _ h=>gy h))));clear uU eY hs6 cb5 uJ;go_loopw [39] (fun ix wr=>∃ (k:Nat)(oo:Own),ix=I Z k/\k<=n/\BL wr oo m (⟨{ N.S with came:=[] },N.ps,N.hs,ze N.past 5 (N.S.came.take k)⟩:Mc)/\Row wr oo (m.y.l.id,15) 3 1 (.slice pv n cv) n (N.S.came.map nv)/\Stp (kf m) o oo w wr) (fun ix _=>n-(intOf ix).toNat)
   case atStart=>exact⟨0,o5,rfl,aa _,HI6.o⟩
   case round =>
    clear HI6;obtain⟨k,oo,rfl,hkn,hM,hr,hs⟩:=hrel;by_cases hlt:k<n
    ·have eO:(k:Int)<(n:Int):=by omega
     obtain⟨hw1,hw2⟩:=yd k n hlt qX.o.1;obtain⟨x,hx⟩:∃ x,N.S.came[k]?=some x:=⟨_,Qb (by rw[<-kU.o];exact hlt)⟩
     obtain⟨g,e,hcell,hcap⟩:∃ g,pv=some ⟨g,0,none⟩/\wr.cell? ⟨g,k,none⟩=some (I Z x)/\n<=cv:=by
      rcases hr.form with ⟨_,h0⟩|⟨g,cap,e,hcap,_⟩
      ·omega
      ·injection e with e1 _ e3
       subst e1 e3;exact⟨g,rfl,hr.cells k _ (by rw[Qj,hx];rfl),hcap⟩
     subst e;have hcI:(n:Int)<=(cv:Int):=by omega
     have oN:=Qa (kV.o wr oo _ hM 5 x);have gI:=Qa (show ze N.past 5 (N.S.came.take (k+1))=kv (ze N.past 5 (N.S.came.take k)) ⟨-1,0,0,⟨5,0,x⟩⟩ from by rw[yf hx];exact ur _ _ _ _)
     have HR:=Qa (Ad hr hs);have HLt:=Qa hlt;clear hM hr hs hx hcap;go_wp2_with (first|(go_at_call 91;refine oN.o.mono ?_;rintro e w7 ⟨rfl,o7,hM7,hs7⟩)|fail)
     go_roundw
     case rel=>exact⟨k+1,o7,by simp,hlt,by rw[gI.o];exact hM7,HR.o.1.Ar hs7 (by intro e;rcases e with e|e<;>simp at e),HR.o.2.trans (hs7.mono (by rintro _ (rfl|rfl)<;>exact .inr rfl))⟩
     case measure=>clear hw1 hw2;simp[intOf];omega
    ·obtain rfl:k=n:=by omega
     rw[kU.o,Aj]at hM;have cb7:wr.cell? ⟨m.mb,0,none⟩=some (ptr m.y.sb):=HC.o wr oo _ hM;have HL7:=Qa (uN.o wr oo _ hM);have nT:=Qa hs;clear hM hr hs hlt hkn;go_wp2_with (first|(go_at_call 92;refine HL7.o.mono ?_;rintro e w8 ⟨v8,rfl,ig,hM8,gQ⟩;rw[show (⟨{ N.S with came:=[] },N.ps,N.hs,ze N.past 5 N.S.came⟩:Mc).S.lost=N.S.lost from rfl,<-iZ.o]at ig;obtain⟨pv2,wO,rfl⟩:=ig.A5)|fail)
     have HI8:=Qa (Ad hM8 (Ad ig (nT.o.trans (gQ.mono fun _ h=>gy h))));clear hM8 ig gQ cb7 HL7;go_loopw [57] (fun ix wr=>∃ (k:Nat)(oo:Own),ix=I Z k/\k<=n2/\BL wr oo m (⟨{ N.S with came:=[],lost:=[] },N.ps,N.hs,ze (ze N.past 5 N.S.came) 4 (N.S.lost.take k)⟩:Mc)/\Row wr oo (m.y.l.id,14) 3 1 (.slice pv2 n2 wO) n2 (N.S.lost.map nv)/\Stp (kf m) o oo w wr) (fun ix _=>n2-(intOf ix).toNat)
     case atStart=>exact⟨0,oo,rfl,aa _,HI8.o⟩
     case round =>
      clear HI8;obtain⟨q,o9,rfl,hqn,hM,hr,hs⟩:=hrel;by_cases hlt:q<n2
      ·have eO:(q:Int)<(n2:Int):=by omega
       obtain⟨hw1,hw2⟩:=yd q n2 hlt qX.o.2;obtain⟨x,hx⟩:∃ x,N.S.lost[q]?=some x:=⟨_,Qb (by rw[<-iZ.o];exact hlt)⟩
       obtain⟨g,e,hcell,hcap⟩:∃ g,pv2=some ⟨g,0,none⟩/\wr.cell? ⟨g,q,none⟩=some (I Z x)/\n2<=wO:=by
        rcases hr.form with ⟨_,h0⟩|⟨g,cap,e,hcap,_⟩
        ·omega
        ·injection e with e1 _ e3
         subst e1 e3;exact⟨g,rfl,hr.cells q _ (by rw[Qj,hx];rfl),hcap⟩
       subst e;have hcI:(n2:Int)<=(wO:Int):=by omega
       have oN:=Qa (kV.o wr o9 _ hM 4 x);have gI:=Qa (show ze (ze N.past 5 N.S.came) 4 (N.S.lost.take (q+1))=kv (ze (ze N.past 5 N.S.came) 4 (N.S.lost.take q)) ⟨-1,0,0,⟨4,0,x⟩⟩ from by rw[yf hx];exact ur _ _ _ _)
       have HR:=Qa (Ad hr hs);clear hM hr hs hx hcap;go_wp2_with (first|(go_at_call 91;refine oN.o.mono ?_;rintro e w9 ⟨rfl,o10,qM,iM⟩)|fail)
       go_roundw
       case rel=>exact⟨q+1,o10,by simp,hlt,by rw[gI.o];exact qM,HR.o.1.Ar iM (by intro e;rcases e with e|e<;>simp at e),HR.o.2.trans (iM.mono (by rintro _ (rfl|rfl)<;>exact .inr rfl))⟩
       case measure=>clear hw1 hw2;simp[intOf];omega
      ·obtain rfl:q=n2:=by omega
       rw[iZ.o,Aj]at hM;have HFin:=Qa (show C2 m N.told o w wr from ⟨o9,hM,hs⟩);clear hM hr hs;go_wp2_with fail;go_ret;rw[HRN.o];exact⟨rfl,HFin.o⟩
end
section
variable {w w' : Aa} {o o' : Own} {m : Co} {M : Mc}
def JE (h:BL w o m M) (hk:M.ok) (t:Int) (ho:∀ b,w.1.size<=b->o b=(m.y.l.id+1,0)) :
  Ab AId 32 #[ptr m.mb,t] w fun e w'=>e=O (M.step t).2.val/\C2 m (M.step t).1 o w w':=by
 obtain⟨ve,jb,_⟩:=h.A2;have dN:=h.hs;obtain⟨ph,ch,gB⟩:=dN.A5;rw[gB]at dN jb;have HN:=Qa (fun (W:Aa) (hb:Ae w.1.size w W)=>qoh h W hb)
 by_cases h0:t<0
 ·have e1:M.step t=(M,⟨0,0,0⟩):=if_pos (.inl h0)
  rw[e1];clear h hk dN gB jb e1;go_in;go_wp2_with fail;exact bodyPost_ret (v:=Al #[I Z 0,I Z 0,I Z 0]) (by simp[results,results32,go_sem]) rfl ⟨rfl,HN.o _ (qa (qc w) _)⟩
 by_cases h1:(M.hs.length:Int)<=t
 ·have e1:M.step t=(M,⟨0,0,0⟩):=if_pos (.inr (.inl h1))
  rw[e1];obtain⟨nh,fE⟩:=Ja0 M.hs.length;rw[<-fE]at h1 jb;have cb:=jb.cell;have lb:=jb.lt;clear h hk dN gB fE jb e1;go_in;go_wp2_with fail;exact bodyPost_ret (v:=Al #[I Z 0,I Z 0,I Z 0]) (by simp[results,results32,go_sem]) rfl ⟨rfl,HN.o _ (qa (qc w) _)⟩
 obtain⟨T,rfl⟩:∃ T:Nat,t=T:=⟨t.toNat,by omega⟩
 have hT:T<M.hs.length:=by omega
 have hb1:Ae w.1.size w (w.alloc (.cells #[I Z 0,I Z 0,I Z 0] 54)):=qa (qc w) _;have eG:=Qa (VP (h.below hb1));have jA:=An.new w #[I Z 0,I Z 0,I Z 0] 54;have hAm:w.1.size≠m.mb:=by have:=jb.lt;omega
 by_cases hf:2000<=M.past.length
 ·have e1:M.step T=(M,⟨0,0,0⟩):=if_pos (.inr (.inr hf))
  rw[e1];rw[decide_eq_true hf]at eG;obtain⟨nh,fE⟩:=Ja0 M.hs.length;rw[<-fE]at h1 jb;have cb:=jb.cell;have lb:=jb.lt;have oA:=ho w.1.size (Qk _);have hb1':=Qa hb1;clear h hk dN gB fE jb e1 hf hT hb1 ho;go_in;go_wp2_with fail;refine eG.o.mono ?_;rintro e w2 ⟨rfl,hM2,hk2,hz2,hs2⟩;have j2:=hk2 _ _ _ hAm jA;have c2:=j2.cell;have z2:=j2.free;have l2:=j2.lt;have jX:=dm j2 ⟨0,0,0⟩;have HL:=Qa (C2.GI hM2 (((Stp.of_below hb1'.o).trans hs2).mono (by rintro _ rfl;exact .inr rfl)) (b:=w.1.size) (Qk _) oA ⟨0,0,0⟩)
  clear hM2 hk2 hz2 hs2 j2;go_wp2_with fail;change bodyPost _ _ _ _ _ (ww w2 w.1.size ⟨0,0,0⟩);generalize ww w2 w.1.size ⟨0,0,0⟩=X at *;have cX:=jX.cell;exact bodyPost_ret (v:=Al #[I Z 0,I Z 0,I Z 0]) (by simp[results,results32,go_sem,cX,BA.cells]) rfl ⟨rfl,HL.o⟩
 ·have e1:M.step T=M.Cw T:=if_neg (fun e=>e.elim (by omega) fun e=>e.elim h1 hf)
  rw[e1];obtain⟨RR,hRR⟩:=Ja0 (M.Cw T);rw[<-hRR];have HRR:=Qa hRR;rw[decide_eq_false hf]at eG;have hz:=Mc.Fh (M:=M) hT;have hTp:T<M.ps.length:=by rw[<-hk.len];exact hT
  have Ajd:=Qa (hk.tst hT);have HP:=Qa (Mc.Fp (M:=M) hTp);obtain⟨gZ,iy,a0',c0',ep,_,_⟩:=h.ps.at (Mc.Fp (M:=M) hTp);rw[ep]at jb;obtain⟨nh,fE⟩:=Ja0 M.hs.length;have pJ:nh=M.ps.length:=by rw[fE];exact hk.len
  have HNh:=Qa fE;have qG:=Qa pJ;rw[<-fE]at h1 jb hT dN;rw[<-pJ]at jb;have yQ:=Qa ep;have HVh:=Qa gB;have HZ:=Qa hz;have cb:=jb.cell;have lb:=jb.lt;have oA:=ho w.1.size (Qk _);have HO:=Qa ho;have hb1':=Qa hb1;have HK:=Qa hk;have hTI:¬(nh:Int)<=(T:Int):=by omega
  have wY:(T:Int)<(nh:Int):=by omega
  clear h hk dN jb e1 hf hb1 ho fE pJ ep gB h1 hTp hz hRR;go_in;go_wp2_with fail;refine eG.o.mono ?_;rintro e w2 ⟨rfl,hM2,hk2,hz2,hs2⟩;have nG:=hk2 _ _ _ hAm jA;have sW2:Stp (kf m) o o w w2:=((Stp.of_below hb1'.o).trans hs2).mono (by rintro _ rfl;exact .inr rfl)
  obtain⟨ve2,jm2,_⟩:=hM2.A2;rw[HVh.o,yQ.o,<-HNh.o,<-qG.o]at jm2;have hr2:=hM2.hs;rw[HVh.o,<-HNh.o]at hr2;obtain⟨gq,eq,hcap,q⟩:=hr2.FQ HZ.o;subst eq;obtain⟨gp,cp,a,c,ep,hcp,wV⟩:=hM2.ps.at HP.o;rw[yQ.o]at ep;injection ep with ep1 _ ep3;injection ep1 with ep1;injection ep1 with ep1;subst ep1 ep3;obtain⟨z,xV⟩:=Ja0 (M.h T);rw[<-xV]at q;have HZE:=Qa xV;obtain⟨P,hPe⟩:=Ja0 ((M.p T).length);rw[<-hPe]at hcp;have dZ:=Qa (fun (W:Aa) (hb:Ae w2.1.size w2 W)=>show Ab AId 93 #[ptr m.y.sb,I Z T,.slice a P c,z.v] W fun e' w'=>e'=O (Ak #[(M.S.A6 T (M.p T) z).h.v,(M.S.A6 T (M.p T) z).a.val])/\Left m.y (M.S.A6 T (M.p T) z).S o W w' from by
   rw[hPe,xV];exact qof (hM2.st.below hb) (wV.SF.below hb) (M.h T) Ajd.o)
  have eU:=Qa hM2;have HJA:=Qa nG;have rO:=Qa sW2;obtain⟨R,hR⟩:=Ja0 (M.S.A6 T (M.p T) z);rw[<-hR]at dZ;have HR:=Qa hR;obtain⟨RS,⟨rb,rn,⟨b0,b1,b2,b3,b4,b5⟩,⟨d0,d1,d2,d3,d4,d5⟩,rl⟩,⟨ak,ae,av⟩⟩:=R;obtain⟨zb,zn,⟨a0,a1,a2,a3,a4,a5⟩,⟨s0,s1,s2,s3,s4,s5⟩,zl⟩:=z;obtain⟨q0,q1,q2,q3,q4,q5,q6,q7,q8,q9,gF,gG,gW,gX,gY⟩:=q;have rG:=Qa (show RR=(⟨RS,M.ps,M.hs.set T ⟨rb,rn,⟨b0,b1,b2,b3,b4,b5⟩,⟨d0,d1,d2,d3,d4,d5⟩,rl⟩,if ak≠0 then kv M.past ⟨(T:Int),zb,zn,⟨ak,ae,av⟩⟩ else M.past⟩,⟨ak,ae,av⟩) from by rw[HRR.o];unfold Mc.Cw;rw[<-HZE.o,<-HR.o])
  simp only at q0 q1 q2 q3 q4 q5 q6 q7 q8 q9 gF gG gW gX gY;unfold AD.v AD.cells BA.val BA.cells at dZ;simp only at dZ;have cm:=jm2.cell;have lm:=jm2.lt;have lq:=hr2.blt;clear cb lb hM2 hk2 hs2 nG sW2 xV hPe hR wV hr2;go_upto_region 4 with fail;obtain⟨W3,hW3⟩:=Ja0 (w2.alloc (.cells #[zb,zn,a0,a1,a2,a3,a4,a5,s0,s1,s2,s3,s4,s5,.bool zl] 58));rw[<-hW3];have hb3:Ae w2.1.size w2 W3:=by rw[hW3];exact qa (qc w2) _
  have hz2':w2.1.size=w.1.size+1:=by simpa using hz2
  have gD:An W3 (w.1.size+1) #[zb,zn,a0,a1,a2,a3,a4,a5,s0,s1,s2,s3,s4,s5,.bool zl] 58:=by rw[hW3,<-hz2'];exact An.new w2 _ _
  have uC:=jm2.below hb3 jm2.lt;have hc3:=cell_below hcp hb3;clear hW3 cm lm lq q0 q1 q2 q3 q4 q5 q6 q7 q8 q9 gF gG gW gX gY jm2 hcp;have cm:=uC.cell;have cx:=gD.cell;have HH8:QO (∀ (W:Aa),Ae w2.1.size w2 W->Ab AId 93 #[ptr m.y.sb,I Z T,.slice a P c,Al #[zb,zn,a0,a1,a2,a3,a4,a5,s0,s1,s2,s3,s4,s5,.bool zl]] W fun e' w'=>e'=O (Ak #[Al #[rb,rn,b0,b1,b2,b3,b4,b5,d0,d1,d2,d3,d4,d5,.bool rl],Al #[ak,ae,av]])/\Left m.y RS o W w'):=dZ;refine Ra _ _ _ _ _ _ _ _ _ _ _ _ _ _ _ _ _ _ _ _ _ _ _ _ _ _ _ _ _ _ _ _ _ _ _ _ _ _ _ _ _ _ _ _ _ _ _ _ _ _ _ _ _ _ _ _ _ _ _ _ _ _ _ _ _ _ _ _ _ eU HJA rO HO oA yQ hz2' hb3 gD uC hc3 (Int.not_le.2 wY) wY HH8 (Qa ?_);rintro W5 o5 C D z33 z34 z35 z36 z37 z38 z39 z40 z41 z42 z43 z44 z45 z46 z47 z48 z49 fZ jC jD oC oD;clear cm cx HH8 gD uC hc3 hb3;obtain⟨ve5,jm5,_⟩:=fZ.mi.A2;have jm5:An W5 m.mb #[ptr m.y.sb,m.vp,m.vh,.int .i32 0,.int .u32 0,ve5] 148:=jm5;rw[HVh.o,yQ.o,<-HNh.o,<-qG.o]at jm5;have eF:Row W5 o5 (m.y.l.id+2,2) 58 15 m.vh M.hs.length (zc M.hs):=fZ.mi.hs;rw[HVh.o,<-HNh.o]at eF;obtain⟨_,e5,_,q⟩:=eF.FQ (HZ.o.trans (congrArg some HZE.o.symm));injection e5 with e5;injection e5 with e5;subst e5;obtain⟨q0,q1,q2,q3,q4,q5,q6,q7,q8,q9,gF,gG,gW,gX,gY⟩:=q;simp only at q0 q1 q2 q3 q4 q5 q6 q7 q8 q9 gF gG gW gX gY;obtain⟨uU,hs6⟩:=fZ.mi.CL (t:=T) (by rw[<-HNh.o];exact hT) HVh.o ⟨rb,rn,⟨b0,b1,b2,b3,b4,b5⟩,⟨d0,d1,d2,d3,d4,d5⟩,rl⟩
  obtain⟨Y,hY⟩:=Ja0 ((Kb W5 gq (T*15) ⟨rb,rn,⟨b0,b1,b2,b3,b4,b5⟩,⟨d0,d1,d2,d3,d4,d5⟩,rl⟩).drew);have lT:An Y w.1.size #[I Z 0,I Z 0,I Z 0] 54:=by rw[hY];exact qi (fZ.ja.Ar hs6 (by rw[fZ.oa];simp))
  have zW:An Y (w.1.size+1) #[zb,zn,a0,a1,a2,a3,a4,a5,s0,s1,s2,s3,s4,s5,.bool zl] 58:=by rw[hY];exact qi (fZ.jb.Ar hs6 (by rw[fZ.ob];simp))
  have vJ:=qi (jD.Ar hs6 (by rw[oD];simp))
  rw[<-hY]at vJ;have HM7:=Qa (show BL Y o5 m (⟨RS,M.ps,M.hs.set T ⟨rb,rn,⟨b0,b1,b2,b3,b4,b5⟩,⟨d0,d1,d2,d3,d4,d5⟩,rl⟩,M.past⟩:Mc) from by rw[hY];exact uU.below (qe (qc _)))
  have nT:=Qa (show Stp (kf m) o o5 w Y from by rw[hY];exact (fZ.st.trans (hs6.mono (by rintro _ rfl;exact .inr rfl))).trans (Stp.of_below (qe (qc _))))
  have HO7:=Qa (Ad fZ.oa (Ad fZ.ob oD));have zq:=eF.free;have lq:=eF.blt;have cm5:=jm5.cell;have cC:=jC.cell;have HYe:=Qa hY;have HJ7:=Qa (Ad lT (Ad zW vJ));clear hY uU hs6 fZ jD jC oC oD eF jm5 lT zW vJ dZ;go_upto_region 5 with fail;go_region;have hY2:=HYe.o;unfold Kb at hY2;simp only at hY2;rw[<-hY2];clear hY2;obtain⟨lT,zW,vJ⟩:=HJ7.o;have cA:=lT.cell;have zA:=lT.free;have lA:=lT.lt;have cB:=zW.cell;have cD:=vJ.cell;have lm7:m.mb<Y.1.size:=HM7.o.lt;clear zq lq cm5 cC q0 q1 q2 q3 q4 q5 q6 q7 q8 q9 gF gG gW gX gY;by_cases hk0:ak=0
  ·have hkb:(ak != 0)=false:=by rw[hk0];rfl
   have jX:=dm lT ⟨ak,ae,av⟩;have HL:=Qa (C2.GI HM7.o nT.o (b:=w.1.size) (Qk _) HO7.o.1 ⟨ak,ae,av⟩);have HK0:=Qa hk0;clear lT zW vJ hk0;go_wp2_with fail;change bodyPost _ _ _ _ _ (ww Y w.1.size ⟨ak,ae,av⟩);generalize ww Y w.1.size ⟨ak,ae,av⟩=V at *;have cX:=jX.cell;refine bodyPost_ret (v:=Al #[ak,ae,av]) (by simp[results,results32,go_sem,cX,BA.cells]) rfl ⟨by rw[rG.o];rfl,?_⟩
   rw[rG.o];simp only[HK0.o,ne_eq,not_true_eq_false,if_false];exact HL.o
  ·have hkb:(ak != 0)=true:=by rw[bne_iff_ne];exact hk0
   have oN:=Qa (show Ab AId 91 #[Ah (some ⟨m.mb,3,none⟩),Al #[I Z T,zb,zn,ak,ae,av]] Y.drew fun e w'=>e=O (Ak #[])/\∃ o',BL w' o' m (⟨RS,M.ps,M.hs.set T ⟨rb,rn,⟨b0,b1,b2,b3,b4,b5⟩,⟨d0,d1,d2,d3,d4,d5⟩,rl⟩,kv M.past ⟨T,zb,zn,⟨ak,ae,av⟩⟩⟩:Mc)/\Stp (uu m) o5 o' Y.drew w' from VG (HM7.o.below (qe (qc Y))) ⟨T,zb,zn,⟨ak,ae,av⟩⟩);have HK0:=Qa hk0;clear hk0;go_upto_region 7 with fail;go_still_tail 10,(by kernel_rfl)
   change wpList _ _ _ _ _ Y.drew;clear cA zA lA cB cD;have nrc:¬uu m (m.y.l.id+1,0):=fun e=>by rcases e with e|e<;>simp at e
   have HFF:=Qa (fun (w9:Aa) (o9:Own) (qM:BL w9 o9 m (⟨RS,M.ps,M.hs.set T ⟨rb,rn,⟨b0,b1,b2,b3,b4,b5⟩,⟨d0,d1,d2,d3,d4,d5⟩,rl⟩,kv M.past ⟨T,zb,zn,⟨ak,ae,av⟩⟩⟩:Mc)) (iM:Stp (uu m) o5 o9 Y.drew w9) =>
    show An w9 w.1.size #[I Z 0,I Z 0,I Z 0] 54/\An w9 D #[ak,ae,av] 54/\C2 m (⟨RS,M.ps,M.hs.set T ⟨rb,rn,⟨b0,b1,b2,b3,b4,b5⟩,⟨d0,d1,d2,d3,d4,d5⟩,rl⟩,kv M.past ⟨T,zb,zn,⟨ak,ae,av⟩⟩⟩:Mc) o w (ww w9 w.1.size ⟨ak,ae,av⟩) from by
     have a9:=(qi lT).Ar iM (by rw[HO7.o.1];exact nrc)
     have d9:=(qi vJ).Ar iM (by rw[HO7.o.2.2];exact nrc)
     have t9:o9 w.1.size=(m.y.l.id+1,0):=(iM.tags _ (qi lT).lt).trans HO7.o.1;have s9:Stp (kf m) o o9 w w9:=(nT.o.trans (Stp.of_below (qe (qc Y)))).trans (iM.mono (by rintro _ (rfl|rfl)<;>exact .inr rfl))
     exact⟨a9,d9,C2.GI qM s9 (b:=w.1.size) (Qk _) t9 ⟨ak,ae,av⟩⟩)
   clear lT zW vJ;go_wp2_with (first
    | (go_at_call 91;refine oN.o.mono ?_;rintro e w9 ⟨rfl,o9,qM,iM⟩;obtain⟨a9,d9,hfin⟩:=HFF.o w9 o9 qM iM;have cA:=a9.cell;have zA:=a9.free;have lA:=a9.lt;have cD:=d9.cell)
    | fail)
   have jX:=dm a9 ⟨ak,ae,av⟩;have HL:=Qa hfin;clear a9 d9 hfin qM iM;change bodyPost _ _ _ _ _ (ww w9 w.1.size ⟨ak,ae,av⟩);generalize ww w9 w.1.size ⟨ak,ae,av⟩=V at *;have cX:=jX.cell;refine bodyPost_ret (v:=Al #[ak,ae,av]) (by simp[results,results32,go_sem,cX,BA.cells]) rfl ⟨by rw[rG.o];rfl,?_⟩
   rw[rG.o];simp only[ne_eq,HK0.o,not_false_eq_true,if_true];exact HL.o
def y7 (h:BL w o m M) (hk:M.ok) (t:Int) :
  Ab AId 32 #[ptr m.mb,t] w fun e w'=>e=O (M.step t).2.val/\C2 m (M.step t).1 o w w':=
 (JE (h.retag fun b hb=>qj (n:=w.1.size) (t:=(m.y.l.id+1,0)) hb) hk t fun b hb=>qp hb).mono fun _ _⟨a,b⟩=>⟨a,b.Ph⟩
end
namespace eu
def P:List (List (List AB)):=[[[⟨1,0,0,0,1⟩]]]
def M:Nat->Mc
 | 0=>Mc.fresh (Am.fresh 60 1 9 9 (EA 99).toNat) P
 | k+1=>((M k).step 0).1
def UI:El P:=by
 refine⟨by decide,by decide,fun p hp=>?_⟩
 simp only[P,ai,af,or_false]at hp;subst hp;refine⟨by decide,fun ds hds=>?_⟩
 simp only[ai,af,or_false]at hds;subst hds;refine⟨by decide,by decide,fun d hd=>?_⟩
 simp only[ai,af,or_false]at hd;subst hd;exact⟨⟨by decide,by decide,by decide,by decide,by decide,fun _=>by decide⟩,by decide +kernel⟩
def ok:∀ k,(M k).ok
 | 0=>Mc.Da (by omega) (by omega) (by omega) (by omega) (by decide +kernel) UI
 | k+1=>Mc.EZ (ok k) 0
def SC:((M 0).step 0).2=⟨1,0,0⟩:=by decide +kernel
def SD:((M 1).step 0).2=⟨2,0,1⟩:=by decide +kernel
def SE:((M 2).step 0).2=⟨3,0,1⟩:=by decide +kernel
def GI:((M 3).step 0).2=⟨0,0,0⟩:=by decide +kernel
def past:(M 4).past=[⟨0,0,0,⟨1,0,0⟩⟩,⟨0,0,0,⟨2,0,1⟩⟩,⟨0,0,1,⟨3,0,1⟩⟩]:=by decide +kernel
def fin:(M 4).done=true/\((M 4).B9 0).2=true/\((M 4).B9 0).1.r.a0=1/\(M 4).collect.2=false/\(M 4).collect.1.S.now=1/\(M 4).S.H.AL=false:=by decide +kernel
def shut:Shut (M 4).S.H:=by unfold Shut Gy;decide +kernel
def X4:Gy (lk (M 4).S.H.cur) ((M 4).S.places (M 4).roots):=by unfold Gy;decide +kernel
def cn:((M 4).S.H.canon ((M 4).S.places (M 4).roots)).length=1/\((M 4).S.places (M 4).roots).length<=1000000:=by decide +kernel
end eu
def Row.FL {w:Aa}{b:Nat}{cs:Array Ac}{e:TypeId}{o:Own}{t:Tag}(n size:Nat)(h:An w b cs e)(hn:cs.size=n*size)(hm:n<=maxLen)(ht:o b=t):Row w o t e size (Ai (some ⟨b,0,none⟩) n n) n cs.toList:=
 ⟨⟨by simpa using hn,.inr ⟨b,n,cs,rfl,aa _,h,Qk _,hm,hn,by rw[<-hn,<-Array.length_toList,Aj]⟩⟩,fun k hk=>by
  have:b=k:=by simpa [Value.ownBlock] using hk
  subst this;exact ht⟩
section
variable {w w' : Aa} {o o' : Own} {m : Co} {M : Mc}
structure Bz (o:Own)(w:Aa)(b:Nat)(cs:Array Ac)(t:TypeId):Prop where
 j:An w b cs t
 ow:o b=(9,1)
def Bz.Ar {T:Tag->Prop}{b:Nat}{cs:Array Ac}{t:TypeId}(h:Bz o w b cs t)(k:Stp T o o' w w')(ht:¬T (9,1)):Bz o' w' b cs t:=⟨h.j.Ar k (by rw[h.ow];exact ht),(k.tags _ h.j.lt).trans h.ow⟩
def vg (o:Own)(w:Aa)(cs:Array Ac)(t:TypeId):Stp (fun _=>False) o (ext o w.1.size (9,1)) w (w.alloc (.cells cs t)):=(Stp.of_below (qa (qc w) _)).ext _ _ (Qk _)
def RZ (o:Own)(w:Aa)(cs:Array Ac)(t:TypeId):Bz (ext o w.1.size (9,1)) (w.alloc (.cells cs t)) w.1.size cs t:=⟨An.new _ _ _,qp (Qk _)⟩
def BL.low (h:BL w o m M)(k:Stp (fun _=>False) o o' w w'):BL w' o' m M:=h.Ar k (fun _ h=>h) fun _ h=>h
def PY (hid:m.y.l.id=0):¬kf m (9,1):=by unfold kf;rw[hid];simp
end
def YX (w:Aa):Ab AId 26 #[] w fun e w'=>e=O (.bool true)/\Ae w.1.size w w':=by
 obtain⟨W3,hW3⟩:=Ja0 (((w.alloc (.cells #[I Z 1,I Z 0,I Z 0,I Z 0,I Z 1] 73)).alloc (.cells #[Ai (some ⟨w.1.size,0,none⟩) 1 1] 71)).alloc (.cells #[Ai (some ⟨w.1.size+1,0,none⟩) 1 1] 67));have hb3:Ae w.1.size w W3:=by rw[hW3];exact qa (qa (qa (qc w) _) _) _
 have hRT:RT W3 (Ai (some ⟨w.1.size+2,0,none⟩) 1 1) eu.P:=by
  have j0:An W3 w.1.size #[I Z 1,I Z 0,I Z 0,I Z 0,I Z 1] 73:=by rw[hW3];exact ((An.new _ _ _).alloc _).alloc _
  have j1:An W3 (w.1.size+1) #[Ai (some ⟨w.1.size,0,none⟩) 1 1] 71:=by rw[hW3];exact (An.Ax _ _ _ _ _ (by simp) rfl).alloc _
  have j2:An W3 (w.1.size+2) #[Ai (some ⟨w.1.size+1,0,none⟩) 1 1] 67:=by rw[hW3];exact An.Ax _ _ _ _ _ (by simp) rfl
  refine⟨by decide,[Ai (some ⟨w.1.size+1,0,none⟩) 1 1],fun _=>(5,5),(5,5),rfl,Row.FL 1 1 j2 rfl (by decide) rfl,fun j bs hj=>?_⟩
  cases j with
  | succ j=>simp[eu.P]at hj
  | zero =>
   simp only[eu.P,ag,Zc]at hj;subst hj;refine⟨_,rfl,by decide,[Ai (some ⟨w.1.size,0,none⟩) 1 1],fun _=>(5,5),(5,5),rfl,Row.FL 1 1 j1 rfl (by decide) rfl,fun j l hj=>?_⟩
   cases j with
   | succ j=>simp at hj
   | zero =>
    simp only[ag,Zc]at hj;subst hj;exact⟨_,rfl,by decide,fun _=>(5,5),(5,5),Row.FL 1 5 j0 rfl (by decide) rfl⟩
 have HN:=Qa (show Ab AId 29 #[I Z 60,I Z 9,I Z 9,I Z 99,Ai (some ⟨w.1.size+2,0,none⟩) 1 1] W3 fun e w'=>∃ m o',e=O (Ak #[ptr m.mb,I Z 0])/\m.y.l.id=0/\BL w' o' m (eu.M 0)/\Stp (fun _=>False) (fun _=>(7,0)) o' W3 w' from
  T5 60 9 9 99 (by omega) (by omega) (by omega) (by omega) eu.UI (fun _=>(7,0)) 0 W3 hRT fun b _=>⟨by simp,by simp⟩)
 have HE:=Qa (fun W=>JB 60 9 9 99 W)
 have jF:=Qa (fun (X:Aa)(o2:Own)(m:Co)(hM:BL X o2 m (eu.M 0))=>show Ab AId 32 #[ptr m.mb,I Z 0] X fun e w'=>e=O (Al #[I Z 1,I Z 0,I Z 0])/\C2 m (eu.M 1) o2 X w' from by
  have h:=y7 hM (eu.ok 0) 0;rw[eu.SC]at h;exact h)
 have gK:=Qa (fun (X:Aa)(o2:Own)(m:Co)(hM:BL X o2 m (eu.M 1))=>show Ab AId 32 #[ptr m.mb,I Z 0] X fun e w'=>e=O (Al #[I Z 2,I Z 0,I Z 1])/\C2 m (eu.M 2) o2 X w' from by
  have h:=y7 hM (eu.ok 1) 0;rw[eu.SD]at h;exact h)
 have HS2:=Qa (fun (X:Aa)(o2:Own)(m:Co)(hM:BL X o2 m (eu.M 2))=>show Ab AId 32 #[ptr m.mb,I Z 0] X fun e w'=>e=O (Al #[I Z 3,I Z 0,I Z 1])/\C2 m (eu.M 3) o2 X w' from by
  have h:=y7 hM (eu.ok 2) 0;rw[eu.SE]at h;exact h)
 obtain⟨M4,gL⟩:=Ja0 (eu.M 4);have hk4:M4.ok:=by rw[gL];exact eu.ok 4
 have HS3:=Qa (fun (X:Aa)(o2:Own)(m:Co)(hM:BL X o2 m (eu.M 3))=>show Ab AId 32 #[ptr m.mb,I Z 0] X fun e w'=>e=O (Al #[I Z 0,I Z 0,I Z 0])/\C2 m M4 o2 X w' from by
  have h:=y7 hM (eu.ok 3) 0;rw[eu.GI,show ((eu.M 3).step 0).1=M4 from gL.symm]at h;exact h)
 obtain⟨f1,f2,f3,f4,f5,f6⟩:=eu.fin;rw[<-gL]at f1 f2 f3 f4 f5 f6;have HHi:=Qa (fun (X:Aa)(o2:Own)(m:Co)(hM:BL X o2 m M4)=>show Ab AId 36 #[ptr m.mb] X fun e w'=>∃ v',e=O v'/\Row w' (fo X.1.size) (1,0) 69 6 v' 3 (qw [⟨0,0,0,⟨1,0,0⟩⟩,⟨0,0,0,⟨2,0,1⟩⟩,⟨0,0,1,⟨3,0,1⟩⟩])/\BL w' o2 m M4/\Stp (fun t=>t=(m.y.l.id+2,0)) o2 o2 X w' from by
  have h:=ly hM hk4.pl;have hp:M4.past=[⟨0,0,0,⟨1,0,0⟩⟩,⟨0,0,0,⟨2,0,1⟩⟩,⟨0,0,1,⟨3,0,1⟩⟩]:=by rw[gL];exact eu.past
  rw[hp]at h;exact h)
 obtain⟨H,hH⟩:=Ja0 ((M4.B9 0).1);have gH:=Qa (fun (X:Aa)(o2:Own)(m:Co)(hM:BL X o2 m M4)=>show Ab AId 33 #[ptr m.mb,I Z 0] X fun e w'=>e=O (Ak #[Al #[H.b,H.n,I Z 1,H.r.a1,H.r.a2,H.r.a3,H.r.a4,H.r.a5,H.s.a0,H.s.a1,H.s.a2,H.s.a3,H.s.a4,H.s.a5,.bool H.l],.bool true])/\Ae X.1.size X w' from by
  have h:=dg hM hk4 0;rw[f2,<-hH]at h;rw[<-hH]at f3;have e:H.v=Al #[H.b,H.n,I Z 1,H.r.a1,H.r.a2,H.r.a3,H.r.a4,H.r.a5,H.s.a0,H.s.a1,H.s.a2,H.s.a3,H.s.a4,H.s.a5,.bool H.l]:=by
   rw[<-f3];rfl
  rw[e]at h;exact h)
 have kT:=Qa (fun (m:Co)(X:Aa)(o2:Own)(hM:BL X o2 m M4)=>show Ab AId 37 #[ptr m.mb] X fun e w'=>e=O (.bool true)/\Ae X.1.size X w' from by
  have h:=SS hM hk4;rw[f1]at h;exact h)
 have gJ:=Qa (fun (m:Co)(X:Aa)(o2:Own)(hM:BL X o2 m M4)=>show Ab AId 40 #[ptr m.mb] X fun e w'=>∃ p c,e=O (.slice p 1 c)/\Ae X.1.size X w' from by
  refine (ql2 hM hk4 f6 (by rw[gL];exact eu.shut) (by rw[gL];exact eu.X4) (by rw[gL];exact eu.cn.2)).mono ?_
  rintro e w' ⟨v1,oo,rfl,hN,hb,_⟩;obtain⟨es,_,hr,_⟩:=hN;obtain⟨p,c,rfl⟩:=hr.A5;have hl:(M4.S.H.canon (M4.S.places M4.roots)).length=1:=by rw[gL];exact eu.cn.1
  rw[hl];exact⟨p,c,rfl,hb⟩)
 have lZ:=Qa (fun (m:Co)(X:Aa)(o2:Own)(hM:BL X o2 m M4)=>show Ab AId 31 #[ptr m.mb] X fun e w'=>e=O (.bool false)/\C2 m M4.collect.1 o2 X w' from by
  have h:=UN hM hk4;rw[f4]at h;exact h)
 have rA:=Qa (fun (m:Co)(X:Aa)(o2:Own)(hM:BL X o2 m M4.collect.1)=>show Ab AId 38 #[ptr m.mb] X fun e w'=>e=O (I Z 1)/\X=w' from by
  obtain⟨_,jb,_⟩:=hM.A2;have h:=JC hM.st (Mc.DO hk4).inv (jb.cell 0);rw[f5]at h;exact h)
 have HB':=Qa hb3;clear hRT hb3 hk4 f1 f2 f3 f4 f5 f6 hH gL;go_in;go_upto_region 11 with (first
  | (go_at_call 29;rw[<-hW3];clear hW3;refine HN.o.mono ?_;rintro e w1 ⟨m,o1,rfl,hid,hM0,hs1⟩;have uM:=Qa hid;have HMa:=Qa hM0;have HSx:=Qa hs1;clear hid hM0 hs1)
  | (go_at_call 29;refine (HE.o _).mono ?_;rintro e w2 ⟨rfl,hb2⟩;have HM0:=Qa (HMa.o.below hb2);have Abb:=Qa (show Stp (kf m) (fun _=>(7,0)) o1 W3 w2 from (HSx.o.trans (Stp.of_below hb2)).mono fun _ h=>h.elim);clear hb2 HMa HSx)
  | (go_at_call 32;refine (jF.o _ _ m HM0.o).mono ?_;rintro e w3 ⟨rfl,o3,oW,hs3⟩;have HA:=Qa (RZ o3 w3 #[I Z 1,I Z 0,I Z 0] 54);have HM1:=Qa (oW.low (vg o3 w3 #[I Z 1,I Z 0,I Z 0] 54));have Abc:=Qa ((Abb.o.trans hs3).trans ((vg o3 w3 #[I Z 1,I Z 0,I Z 0] 54).mono fun _ h=>h.elim));clear oW hs3 HM0 Abb)
  | (go_at_call 32;refine (gK.o _ _ m HM1.o).mono ?_;rintro e w4 ⟨rfl,o4,oW,hs4⟩;have HA:=Qa ((HA.o.Ar hs4 (PY uM.o)).Ar (vg o4 w4 #[I Z 2,I Z 0,I Z 1] 54) id);have HB:=Qa (RZ o4 w4 #[I Z 2,I Z 0,I Z 1] 54);have eU:=Qa (oW.low (vg o4 w4 #[I Z 2,I Z 0,I Z 1] 54));have Abd:=Qa ((Abc.o.trans hs4).trans ((vg o4 w4 #[I Z 2,I Z 0,I Z 1] 54).mono fun _ h=>h.elim));clear oW hs4 HM1 Abc)
  | (go_at_call 32;refine (HS2.o _ _ m eU.o).mono ?_;rintro e w5 ⟨rfl,o5,oW,hs5⟩;have HA:=Qa ((HA.o.Ar hs5 (PY uM.o)).Ar (vg o5 w5 #[I Z 3,I Z 0,I Z 1] 54) id);have HB:=Qa ((HB.o.Ar hs5 (PY uM.o)).Ar (vg o5 w5 #[I Z 3,I Z 0,I Z 1] 54) id);have HC:=Qa (RZ o5 w5 #[I Z 3,I Z 0,I Z 1] 54);have HM3:=Qa (oW.low (vg o5 w5 #[I Z 3,I Z 0,I Z 1] 54));have Abe:=Qa ((Abd.o.trans hs5).trans ((vg o5 w5 #[I Z 3,I Z 0,I Z 1] 54).mono fun _ h=>h.elim));clear oW hs5 eU Abd)
  | (go_at_call 32;refine (HS3.o _ _ m HM3.o).mono ?_;rintro e w6 ⟨rfl,o6,oW,hs6⟩;have HA:=Qa ((HA.o.Ar hs6 (PY uM.o)).Ar (vg o6 w6 #[I Z 0,I Z 0,I Z 0] 54) id);have HB:=Qa ((HB.o.Ar hs6 (PY uM.o)).Ar (vg o6 w6 #[I Z 0,I Z 0,I Z 0] 54) id);have HC:=Qa ((HC.o.Ar hs6 (PY uM.o)).Ar (vg o6 w6 #[I Z 0,I Z 0,I Z 0] 54) id);have HD:=Qa (RZ o6 w6 #[I Z 0,I Z 0,I Z 0] 54);have vY:=Qa (oW.low (vg o6 w6 #[I Z 0,I Z 0,I Z 0] 54));have rJ:=Qa ((Abe.o.trans hs6).trans ((vg o6 w6 #[I Z 0,I Z 0,I Z 0] 54).mono fun _ h=>h.elim));clear oW hs6 HM3 Abe)
  | (go_at_call 36;refine (HHi.o _ _ m (vY.o.retag (o':=ext (ext o6 w6.1.size (9,1)) (w6.1.size+1) (9,2)) fun b hb=>qj (by simpa using hb))).mono ?_;rintro e w7 ⟨vh,rfl,mZ,hMh,hs7⟩;obtain⟨ph,ch,rfl⟩:=mZ.A5;have HM5:=Qa hMh;have HRh:=Qa mZ;have nT:=Qa hs7;clear mZ hMh hs7)
  | (go_at_call 33;refine (gH.o _ _ m HM5.o).mono ?_;rintro e w8 ⟨rfl,fJ⟩;have HB8:=Qa fJ;clear fJ)
  | fail)
 have hX:(w6.alloc (.cells #[I Z 0,I Z 0,I Z 0] 54)).1.size=w6.1.size+1:=by simp
 obtain⟨X,hXe⟩:=Ja0 (w6.alloc (.cells #[I Z 0,I Z 0,I Z 0] 54));rw[<-hXe]at HA HB HC HD rJ nT HRh hX;obtain⟨oX,hoX⟩:∃ oX,oX=ext o6 w6.1.size (9,1):=⟨_,rfl⟩;rw[<-hoX]at HA HB HC HD rJ nT HM5;obtain⟨o7,ho7⟩:∃ o7,o7=ext oX (w6.1.size+1) (9,2):=⟨_,rfl⟩;rw[<-ho7]at nT HM5;have e7:∀ b,b<X.1.size->o7 b=oX b:=fun b hb=>by rw[ho7];exact qj (by omega)
 obtain⟨W9,zF⟩:=Ja0 (w8.alloc (.cells #[H.b,H.n,I Z 1,H.r.a1,H.r.a2,H.r.a3,H.r.a4,H.r.a5,H.s.a0,H.s.a1,H.s.a2,H.s.a3,H.s.a4,H.s.a5,.bool H.l] 58));rw[<-zF];have fA:Ae w7.1.size w7 W9:=by rw[zF];exact qa HB8.o _
 have hT:An W9 w8.1.size #[H.b,H.n,I Z 1,H.r.a1,H.r.a2,H.r.a3,H.r.a4,H.r.a5,H.s.a0,H.s.a1,H.s.a2,H.s.a3,H.s.a4,H.s.a5,.bool H.l] 58:=by rw[zF];exact An.new _ _ _
 have box:∀ {b:Nat}{cs:Array Ac}{t:TypeId},Bz oX X b cs t->An W9 b cs t:=fun h=>by
  have k:=h.j.Ar nT.o (by rw[e7 _ h.j.lt,h.ow,uM.o];simp)
  exact k.below fA k.lt
 have iM:Stp (kf m) (fun _=>(7,0)) o7 W3 W9:=by
  have s1:Stp (kf m) (fun _=>(7,0)) o7 W3 X:=by
   rw[ho7];exact rJ.o.ext (9,2) _ (by have:=rJ.o.size;omega)
  exact (s1.trans (nT.o.mono (by rintro _ rfl;exact .inr rfl))).trans (Stp.of_below fA)
 have qM:BL W9 o7 m M4:=HM5.o.below fA;rcases (HRh.o.below fA).Dv with ⟨_,e⟩|⟨g,cap,e,hc⟩
 ·simp[qw]at e
 ·injection e with e1 _ e3
  subst e1 e3;have hcs:∀ (j:Nat)(u:Ac),(qw [⟨0,0,0,⟨1,0,0⟩⟩,⟨0,0,0,⟨2,0,1⟩⟩,⟨0,0,1,⟨3,0,1⟩⟩])[j]?=some u->W9.cell? ⟨g,j,none⟩=some u:=fun j u hu=>by
   have:=(HRh.o.below fA).own.cells (g:=g) rfl j u hu;rwa [addr_add]at this
  have yO:=Qa iM;refine Ps _ m M4 M4.collect.1 o7 W9 _ _ _ _ _ g ch _ _ _ _ _ _ _ _ _ _ _ _ _ _ _ _ _ _ _ _ _ _ _ _ _ _ _ _ _ _ _ _ _ _ _ _ _ _ _ _ _ _ _ _ _ _ _ _ _ _ _ _ _ _ _ _ _ _ _ _ _ _ _ _ _ _ _ _ _ _ _ _ _ _ _ _ _ _ _ _ _ _ _ _ _ _ _ _ _ _ _ _ _ _ _ _ _ _ _ _ _ qM (kT.o m) (gJ.o m) (lZ.o m) (rA.o m) (box HA.o) (box HB.o) (box HC.o) (box HD.o) (hT.cell 2) hT.lt (HRh.o.below fA).blt hc (hcs 6 _ rfl) (hcs 7 _ rfl) (hcs 8 _ rfl) (hcs 9 _ rfl) (hcs 10 _ rfl) (hcs 11 _ rfl) ?_;rintro X9 o9 z49 z50 z51 z52 z53 z54 z55 z56 z57 z58 z59 z60 z61 z62 z63 z64 z65 z66 z67 z68 z69 z70 z71 z72 z73 z74 z75 z76 z77 z78 z79 z80 z81 z82 z83 z84 z85 z86 z87 z88 z89 z90 z91 z92 z93 z94 z95 z96 z97 z98 z99 z100 z101 z102 z103 z104 z105 z106 z107 z108 Ayc Alp;have hfin:=(yO.o.trans Alp).below fun b _=>by show ¬kf m (7,0);unfold kf;rw[uM.o];simp
  go_wp2_with fail;go_ret;exact⟨rfl,qd HB'.o hfin⟩
def E6 (e:Dp):Bool:=decide (0<=e.t)
def LB {a b c d e f:Int}:∀ u ∈ [Value.int .i64 a,I Z b,I Z c,I Z d,I Z e,I Z f],u.oneCell'=true:=by
 intro u hu;simp at hu;rcases hu with rfl|rfl|rfl|rfl|rfl|rfl<;>rfl
def Y8 {l:List Dp}{k:Nat}{x:Dp}(hx:l[k]?=some x):(l.take (k+1)).filter E6=(l.take k).filter E6++if E6 x=true then [x] else []:=by
 rw[vx _ _ _ hx,List.filter_append];congr 1;rw[List.filter_cons];split<;>rfl
def ri {w:Aa}{o:Own}{tg:Tag}{v:Ac}{es:List Dp}(hr:Row w o tg 69 6 v es.length (qw es))(hn:es.length<=1099511627776) :
  Ab AId 35 #[v] w fun e w'=>∃ v' o',e=O v'/\Row w' o' (1,0) 69 6 v' (es.filter E6).length (qw (es.filter E6))/\Wk w w' o':=by
 obtain⟨pa,ca,rfl⟩:=hr.A5;have HA:=Qa hr;obtain⟨n,hnn⟩:=Ja0 es.length;rw[<-hnn]at HA hn ⊢;have HN:=Qa hnn;have HL:=Qa hn;obtain⟨iU,hi,hsI,cZ,bZ⟩:=tu;have huE:=underlying62;clear hr hnn hn;go_in;go_wp2_with fail;go_loopw [3,4] (fun a ix wr=>∃ (k:Nat)(o':Own),ix=I Z k/\k<=n/\Row wr o' (1,0) 69 6 a ((es.take k).filter E6).length (qw ((es.take k).filter E6))/\Wk w wr o') (fun _ ix _=>n-(intOf ix).toNat)
 case atStart=>exact⟨0,fun _=>(0,0),rfl,aa _,Row.nil _ _ _ _ _,qc w,fun _ _=>rfl⟩
 case round =>
  obtain⟨k,o',rfl,hkn,hr,hK⟩:=hrel;obtain⟨wo,rfl⟩:=Ja0 wr;obtain⟨p1,c1,rfl⟩:=hr.A5;by_cases hlt:k<n
  ·have eO:(k:Int)<(n:Int):=by omega
   obtain⟨hw1,hw2⟩:=yd k n hlt HL.o;obtain⟨x,hx⟩:∃ x,es[k]?=some x:=⟨_,Qb (by rw[<-HN.o];exact hlt)⟩
   obtain⟨ga,rfl,hca,q⟩:=(HA.o.below hK.b).SH hx;have hsn:=Y8 hx;obtain⟨xt,xb,xn,⟨xk,xe,xv⟩⟩:=x;obtain⟨q0,q1,q2,q3,q4,q5⟩:=q;simp only at q0 q1 q2 q3 q4 q5;have hlen:((es.take k).filter E6).length<=n:=Qo (List.length_filter_le _ _) (by rw[Qp];omega)
   obtain⟨m,hm⟩:=Ja0 (((es.take k).filter E6).length);rw[<-hm]at hr hlen ⊢;have HM:=Qa hm;have dB:m+1<=maxLen/\(m+1)*48<=140737488355328:=by have:=HL.o;simp only[maxLen];omega
   have yN:=Qa dB;have HR:=Qa hr;have HK:=Qa hK;clear hx hm dB hr hK hlen;by_cases hp:0<=xt
   ·have e1:E6 ⟨xt,xb,xn,⟨xk,xe,xv⟩⟩=true:=decide_eq_true hp
    rw[if_pos e1]at hsn;have HS:=Qa hsn;clear hsn e1;have jn:=An.new wo #[xt,xb,xn,xk,xe,xv] 69;go_wp2_with (first
     | (at_builtin;refine qf _ rfl _ _ _ rfl 69 iU _ 6 48 huE hi bZ hsI cZ rfl (by decide) o' (1,0) _ _ _ rfl (HR.o.below (qa (qc _) _)) ⟨wo.1.size,0,none⟩ 1 1 [I Z xt,I Z xb,I Z xn,I Z xk,I Z xe,I Z xv] rfl rfl (yh jn) LB yN.o.1 yN.o.2 ?_;intro v8 w8 hown hst)
     | fail)
    have k8:Stp (fun t=>t=(1,0)) o' _ wo w8:=(Stp.of_below (qa (qc _) _)).trans hst;go_roundw
    case rel=>exact⟨k+1,_,by simp,hlt,by rw[HS.o,UK,Qd,<-HM.o];exact hown,HK.o.Ar k8 (by simp)⟩
    case measure=>clear hw1 hw2;simp[intOf];omega
   ·have e1:E6 ⟨xt,xb,xn,⟨xk,xe,xv⟩⟩=false:=decide_eq_false hp
    rw[if_neg (by rw[e1];simp),List.append_nil]at hsn
    have HS:=Qa hsn;clear hsn e1;go_wp2_with fail;go_roundw
    case rel=>exact⟨k+1,o',by simp,hlt,by rw[HS.o,<-HM.o];exact HR.o,HK.o⟩
    case measure=>clear hw1 hw2;simp[intOf];omega
  ·have eO:¬((k:Int)<(n:Int)):=by omega
   have e:(es.take k).filter E6=es.filter E6:=by rw[show k=es.length from by rw[<-HN.o];omega,Aj]
   rw[e]at hr;obtain⟨m,hm⟩:=Ja0 ((es.filter E6).length);rw[e,<-hm];rw[<-hm]at hr;have HM:=Qa hm;have HR:=Qa hr;have HK:=Qa hK;clear hr hK hm e;go_wp2_with fail;go_ret;exact⟨_,rfl,o',by rw[<-HM.o];exact HR.o,HK.o⟩
