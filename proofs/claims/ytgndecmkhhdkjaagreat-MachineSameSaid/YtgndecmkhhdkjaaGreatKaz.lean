import Derived.Test.YtgndecmkhhdkjaaGreatKax
import Derived.Test.YtgndecmkhhdkjaaGreatKba
set_option linter.all false
set_option maxRecDepth 1000000
set_option maxHeartbeats 0
open Go renaming World->Aa,Calls->Ab,Value->Ac
open Go.RowKit renaming Below->Ae
open Go.Value renaming int->I,pointer->Ah,slice->Ai,tuple->Ak,agg->Al
open Go.IntKind renaming i64->Z
open Go.Ending renaming returned->O
open List renaming mem_append_right->Ad,take_length->aa,mem_append_left->ag,take_add_one->aj,drop_eq_getElem_cons->ay,nodup_append->aA,append_assoc->aB,not_mem_nil->aD,getElem?_cons_zero->aF,mem_cons->aG,nil_append->aH,append_nil->aJ,map_map->aL
open And renaming intro->Aj
open Option renaming ne_none_iff_exists'->af,isSome_iff_exists->aC,map_eq_some_iff->aM
open Nat renaming zero_le->ai,min_eq_left->aI,sub_self->aK
open Go.Proofs.Tryz
open Go.Proofs.Tryz renaming prog->ANa
namespace Go.Proofs.YtgndecmkhhdkjaaGreat
section
open Go.RowKit Hp
attribute [local go_sem ↓] Go.wp_at_zero Go.wp_at_succ
def Pv {S:Am}(hk:S.ok):S.JF.length<=1099511627776:=by
 unfold Am.JF uv;split
 ·simp
 ·split
  ·simp
  ·split
   ·simp
   ·simp only[aH];exact U2 hk
section
variable {w w' : Aa} {o o' : Own} {m : Cd} {M : Mc}
def yk {l:List Nat}{k x:Nat}(h:l[k]?=some x):l.take (k+1)=l.take k++[x]:=by
 rw[aj,h];rfl
def fp (h:BK w o m M)(hk:M.ok) :
  Ab ANa 8 #[ptr m.mb] w fun e w'=>e=O (.bool M.collect.2)/\C2 m M.collect.1 o w w':=by
 have nX:M.hs.length<=8:=by rw[hk.len];exact hk.n8
 have hn1:1<=M.hs.length:=by rw[hk.len,<-hk.Au];exact hk.inv.t1
 have hrl:M.roots.length=M.hs.length*12:=cf _;have eD:=Qa (Xz h);obtain⟨ve,jb,hrp⟩:=h.A3;have HC:=Qa (fun (W:Aa)(oo:Own)(N:Mc)(hM:BK W oo m N)=>show W.cell? ⟨m.mb,0,none⟩=some (ptr m.y.sb) from by obtain⟨_,j,_⟩:=hM.A3;exact j.cell 0)
 have vT:=Qa (fun (W:Aa)(hM:BK W o m M)=>Wj hM hk)
 have lT:=Qa (fun (W w3:Aa)(v3:Ac)(hM:BK W o m M)(hb:Ae W W w3)(hr:Row w3 (fo W) (1,0) 3 1 v3 M.roots.length (M.roots.map nv)) =>
  show Ab ANa 22 #[ptr m.y.sb,v3] w3 fun e w4=>∃ v' o4,e=O (Ak #[v',.bool (M.S.AQ M.roots).2.2])/\BK w4 o4 m { M with S:=(M.S.AQ M.roots).1 }/\Row w4 o4 (m.y.l.id+1,0) 3 1 v' (M.S.AQ M.roots).2.1.length ((M.S.AQ M.roots).2.1.map nv)/\Stp (qi m.y) o o4 W w4 from by
   have s3:Stp (fun _=>False) o (ext o W (m.y.l.id+1,0)) W w3:=(Stp.of_below hb).ext _ _ (Qk _);have hM3:BK w3 (ext o W (m.y.l.id+1,0)) m M:=hM.Ar s3 (fun _ h=>h) fun _ h=>h;refine (qh7 hM3.st hk.inv (hr.out o (m.y.l.id+1,0)) (by omega) (by omega)).mono ?_
   rintro e w4 ⟨v',o4,rfl,hS,hR,hs⟩;exact⟨v',o4,rfl,hM3.store hS hs,hR,(s3.mono fun _ h=>h.elim).trans hs⟩)
 have Aje:=Qa (fun (w4:Aa)(o4:Own)(v':Ac)(hM:BK w4 o4 m { M with S:=(M.S.AQ M.roots).1 })(hr:Row w4 o4 (m.y.l.id+1,0) 3 1 v' (M.S.AQ M.roots).2.1.length ((M.S.AQ M.roots).2.1.map nv))(ht:(M.S.AQ M.roots).2.2=true) =>
  show Ab ANa 24 #[ptr m.mb,v'] w4 fun e w5=>e=O (Ak #[])/\BK w5 o4 m M.DT/\Stp (fun t=>t=(m.y.l.id+2,2)) o4 o4 w4 w5 from by
   have hl:(M.S.AQ M.roots).2.1.length=M.roots.length:=by
    unfold Am.AQ at ht ⊢;split
    ·simp
    ·rename_i h;rw[if_neg h]at ht;cases ht
   rcases hr.shape with ⟨_,h0⟩|⟨g,cap,rfl,hc,_⟩
   ·exfalso;omega
   ·exact qh0 hM nX hr.Vz (by rw[hr.EB]) hl)
 have dV:=Qa (fun (w4:Aa)(o4:Own)(hM:BK w4 o4 m { M with S:=(M.S.AQ M.roots).1 })(ht:(M.S.AQ M.roots).2.2=false) =>
  show Ab ANa 25 #[ptr m.y.sb] w4 fun e w5=>∃ o5,e=O (.bool M.S.Cp.2)/\BK w5 o5 m M.Gm/\Stp (qi m.y) o4 o5 w4 w5 from by
   have e:(M.S.AQ M.roots).1=M.S:=by
    unfold Am.AQ at ht ⊢;split
    ·rename_i h;rw[if_pos h]at ht;cases ht
    ·rfl
   rw[e]at hM;refine (qpw hM.st hk.inv (by rw[hk.lo];simp)).mono ?_
   rintro e w5 ⟨rfl,o5,hS,hs⟩;exact⟨o5,rfl,hM.store hS hs,hs⟩)
 have kG:=Qa (fun (W:Aa)(oo:Own)(N:Mc)(hM:BK W oo m N)(k n:Int)=>show Ab ANa 27 #[Ah (some ⟨m.mb,3,none⟩),Al #[I Z (-1),(),(),k,(),n]] W fun e w'=>e=O (Ak #[])/\∃ o',BK w' o' m { N with past:=yd N.past ⟨-1,0,0,⟨k,0,n⟩⟩ }/\Stp (pd m) oo o' W w' from WE hM ⟨-1,0,0,⟨k,0,n⟩⟩)
 have tT:=Qa (fun (W:Aa)(oo:Own)(N:Mc)(hM:BK W oo m N)=>show Ab ANa 26 #[ptr m.y.sb] W fun e w'=>∃ v,e=O v/\Row w' oo (m.y.l.id,15) 3 1 v N.S.came.length (N.S.came.map nv)/\BK w' oo m { N with S:={ N.S with came:=[] } }/\Stp (qi m.y) oo oo W w' from by
  refine (qpa hM.st).mono ?_;rintro e w' ⟨v,rfl,hr,hS,hs⟩;have hs':Stp (qi m.y) oo oo W w':=hs.mono (by rintro _ rfl;rfl)
  exact⟨v,rfl,hr,hM.store hS hs',hs'⟩)
 have uA:=Qa (fun (W:Aa)(oo:Own)(N:Mc)(hM:BK W oo m N)=>show Ab ANa 28 #[ptr m.y.sb] W fun e w'=>∃ v,e=O v/\Row w' oo (m.y.l.id,14) 3 1 v N.S.lost.length (N.S.lost.map nv)/\BK w' oo m { N with S:={ N.S with lost:=[] } }/\Stp (qi m.y) oo oo W w' from by
  refine (qox hM.st).mono ?_;rintro e w' ⟨v,rfl,hr,hS,hs⟩;have hs':Stp (qi m.y) oo oo W w':=hs.mono (by rintro _ rfl;rfl)
  exact⟨v,rfl,hr,hM.store hS hs',hs'⟩)
 have cb:=jb.cell;obtain⟨RC,hRC⟩:=Ja0 M.collect;rw[<-hRC];have qC:=Qa hRC;have HM:=Qa h;have HK:=Qa hk;clear hRC h hk hrp nX hn1 hrl jb;by_cases hf:2000<=M.past.length
 ·have e1:RC=(M,false):=by rw[qC.o];unfold Mc.collect;rw[if_pos hf]
  rw[decide_eq_true hf]at eD;have HE:=Qa e1;clear e1 hf;go_in;go_wp2_with (first|(go_at_call 21;refine eD.o.mono ?_;rintro e w2 ⟨rfl,hM2,hk2,hz2,hs2⟩)|fail)
  go_ret;rw[HE.o];exact⟨rfl,o,hM2,hs2.mono (by rintro _ rfl;exact .inr rfl)⟩
 ·rw[decide_eq_false hf]at eD
  have hf2:M.past.length<2000:=by omega
  have tX:=Qa hf2;clear hf hf2;go_in;go_upto_region 4 with (first|(go_at_call 21;refine eD.o.mono ?_;rintro e w2 ⟨rfl,hM2,hk2,hz2,hs2⟩)|fail)
  have c2:w2.cell? ⟨m.mb,0,none⟩=some (ptr m.y.sb):=HC.o w2 o M hM2;have Abb:=Qa (vT.o w2.drew (hM2.below (qf (qd w2))));have eQ:=Qa (hM2.below (qf (qd w2)));have HS2:=Qa (show Stp (kf m) o o w w2 from hs2.mono (by rintro _ rfl;exact .inr rfl))
  have l2:m.mb<w2.1.size:=hM2.lt;clear hM2 hk2 hz2 hs2 cb;go_region_held3 (fun w'=>w'.cell? ⟨m.mb,0,none⟩=some (ptr m.y.sb)) (first|with_reducible assumption|go_keep) (first
   | (go_at_call 23;refine Abb.o.mono ?_;rintro e w3 ⟨v3,rfl,hr3,hb3⟩;have wJ:w3.cell? ⟨m.mb,0,none⟩=some (ptr m.y.sb):=(hb3.cell (p:=⟨m.mb,0,none⟩) l2).trans c2)
   | (go_at_call 22;refine (lT.o w2.drew w3 v3 eQ.o hb3 hr3).mono ?_;rintro e w4 ⟨v4,o4,rfl,nW,hr4,hs4⟩;have yR:w4.cell? ⟨m.mb,0,none⟩=some (ptr m.y.sb):=HC.o w4 o4 _ nW)
   | fail)
  have vQ:=Qa nW;have HR4:=Qa hr4;have HS4:=Qa (show Stp (kf m) o o4 w w4 from (HS2.o.trans (Stp.of_below (qf (qd w2)))).trans (hs4.mono fun _ h=>fz h));clear nW hr4 hs4 wJ c2 l2 Abb eQ HS2
  cases hbt:(M.S.AQ M.roots).2.2 with
  | true =>
   have oJ:=Qa (Aje.o w4 o4 v4 vQ.o HR4.o hbt);obtain⟨N,hN⟩:=Ja0 M.DT;have HRN:=Qa (show RC=(N.told,false) from by rw[qC.o,hN];exact dt tX.o hbt)
   have hNb:N.S.came.length<=1099511627776/\N.S.lost.length<=1099511627776:=by
    have hok:=(Mc.F9 HK.o hbt).1;rw[<-hN]at hok;refine⟨Qo hok.cm hok.Lh,?_⟩;have e:N.S.lost=M.S.lost:=by rw[hN,(UY hbt).2.1];rfl
    rw[e,HK.o.lo];simp
   rw[<-hN]at oJ;clear hN;go_upto_region 8 with (first|(go_at_call 24;refine oJ.o.mono ?_;rintro e w5 ⟨rfl,uJ,hs5⟩)|fail)
   obtain⟨o5,ho5⟩:=Ja0 o4;have sw5:Stp (kf m) o o4 w w5:=HS4.o.trans (hs5.mono (by rintro _ rfl;exact .inr rfl))
   rw[<-ho5]at uJ sw5;clear hs5 ho5 yR hbt oJ;obtain⟨n,hn⟩:=Ja0 N.S.came.length;obtain⟨n2,hn2⟩:=Ja0 N.S.lost.length;have kF:=Qa hn;have iW:=Qa hn2;have qO:=Qa (show n<=1099511627776/\n2<=1099511627776 from by rw[hn,hn2];exact hNb)
   have tQ:=Qa (tT.o w5 o5 N uJ);have cb5:w5.cell? ⟨m.mb,0,none⟩=some (ptr m.y.sb):=HC.o w5 o5 N uJ;have HS5:=Qa sw5;clear hn hn2 hNb uJ sw5;go_wp2_with (first|(go_at_call 26;refine tQ.o.mono ?_;rintro e w6 ⟨v6,rfl,eU,uK,hs6⟩;rw[<-kF.o]at eU;obtain⟨pv,cv,rfl⟩:=eU.A6)|fail)
   have HI6:=Qa (Aj uK (Aj eU (HS5.o.trans (hs6.mono fun _ h=>fz h))));clear uK eU hs6 cb5 tQ;go_loopw [39] (fun ix wr=>∃ (k:Nat)(oo:Own),ix=I Z k/\k<=n/\BK wr oo m (⟨{ N.S with came:=[] },N.ps,N.hs,jd N.past 5 (N.S.came.take k)⟩:Mc)/\Row wr oo (m.y.l.id,15) 3 1 (.slice pv n cv) n (N.S.came.map nv)/\Stp (kf m) o oo w wr) (fun ix _=>n-(intOf ix).toNat)
   case atStart=>exact⟨0,o5,rfl,ai _,HI6.o⟩
   case round =>
    clear HI6;obtain⟨k,oo,rfl,hkn,hM,hr,hs⟩:=hrel;by_cases hlt:k<n
    ·have eG:(k:Int)<(n:Int):=by omega
     obtain⟨hw1,hw2⟩:=xo k n hlt qO.o.1;obtain⟨x,hx⟩:∃ x,N.S.came[k]?=some x:=⟨_,Qb (by rw[<-kF.o];exact hlt)⟩
     obtain⟨g,e,hcell,hcap⟩:∃ g,pv=some ⟨g,0,none⟩/\wr.cell? ⟨g,k,none⟩=some (I Z x)/\n<=cv:=by
      rcases hr.form with ⟨_,h0⟩|⟨g,cap,e,hcap,_⟩
      ·omega
      ·injection e with e1 _ e3
       subst e1 e3;exact⟨g,rfl,hr.cells k _ (by rw[Qj,hx];rfl),hcap⟩
     subst e;have hcI:(n:Int)<=(cv:Int):=by omega
     have oH:=Qa (kG.o wr oo _ hM 5 x);have fI:=Qa (show jd N.past 5 (N.S.came.take (k+1))=yd (jd N.past 5 (N.S.came.take k)) ⟨-1,0,0,⟨5,0,x⟩⟩ from by rw[yk hx];exact po _ _ _ _)
     have HR:=Qa (Aj hr hs);have HLt:=Qa hlt;clear hM hr hs hx hcap;go_wp2_with (first|(go_at_call 27;refine oH.o.mono ?_;rintro e w7 ⟨rfl,o7,hM7,hs7⟩)|fail)
     go_roundw
     case rel=>exact⟨k+1,o7,by simp,hlt,by rw[fI.o];exact hM7,HR.o.1.Ar hs7 (by intro e;rcases e with e|e<;>simp at e),HR.o.2.trans (hs7.mono (by rintro _ (rfl|rfl)<;>exact .inr rfl))⟩
     case measure=>clear hw1 hw2;simp[intOf];omega
    ·obtain rfl:k=n:=by omega
     rw[kF.o,aa]at hM;have cb7:wr.cell? ⟨m.mb,0,none⟩=some (ptr m.y.sb):=HC.o wr oo _ hM;have HL7:=Qa (uA.o wr oo _ hM);have nN:=Qa hs;clear hM hr hs hlt hkn;go_wp2_with (first|(go_at_call 28;refine HL7.o.mono ?_;rintro e w8 ⟨v8,rfl,gX,hM8,gK⟩;rw[show (⟨{ N.S with came:=[] },N.ps,N.hs,jd N.past 5 N.S.came⟩:Mc).S.lost=N.S.lost from rfl,<-iW.o]at gX;obtain⟨pv2,wK,rfl⟩:=gX.A6)|fail)
     have HI8:=Qa (Aj hM8 (Aj gX (nN.o.trans (gK.mono fun _ h=>fz h))));clear hM8 gX gK cb7 HL7;go_loopw [57] (fun ix wr=>∃ (k:Nat)(oo:Own),ix=I Z k/\k<=n2/\BK wr oo m (⟨{ N.S with came:=[],lost:=[] },N.ps,N.hs,jd (jd N.past 5 N.S.came) 4 (N.S.lost.take k)⟩:Mc)/\Row wr oo (m.y.l.id,14) 3 1 (.slice pv2 n2 wK) n2 (N.S.lost.map nv)/\Stp (kf m) o oo w wr) (fun ix _=>n2-(intOf ix).toNat)
     case atStart=>exact⟨0,oo,rfl,ai _,HI8.o⟩
     case round =>
      clear HI8;obtain⟨q,o9,rfl,hqn,hM,hr,hs⟩:=hrel;by_cases hlt:q<n2
      ·have eG:(q:Int)<(n2:Int):=by omega
       obtain⟨hw1,hw2⟩:=xo q n2 hlt qO.o.2;obtain⟨x,hx⟩:∃ x,N.S.lost[q]?=some x:=⟨_,Qb (by rw[<-iW.o];exact hlt)⟩
       obtain⟨g,e,hcell,hcap⟩:∃ g,pv2=some ⟨g,0,none⟩/\wr.cell? ⟨g,q,none⟩=some (I Z x)/\n2<=wK:=by
        rcases hr.form with ⟨_,h0⟩|⟨g,cap,e,hcap,_⟩
        ·omega
        ·injection e with e1 _ e3
         subst e1 e3;exact⟨g,rfl,hr.cells q _ (by rw[Qj,hx];rfl),hcap⟩
       subst e;have hcI:(n2:Int)<=(wK:Int):=by omega
       have oH:=Qa (kG.o wr o9 _ hM 4 x);have fI:=Qa (show jd (jd N.past 5 N.S.came) 4 (N.S.lost.take (q+1))=yd (jd (jd N.past 5 N.S.came) 4 (N.S.lost.take q)) ⟨-1,0,0,⟨4,0,x⟩⟩ from by rw[yk hx];exact po _ _ _ _)
       have HR:=Qa (Aj hr hs);clear hM hr hs hx hcap;go_wp2_with (first|(go_at_call 27;refine oH.o.mono ?_;rintro e w9 ⟨rfl,o10,qF,iH⟩)|fail)
       go_roundw
       case rel=>exact⟨q+1,o10,by simp,hlt,by rw[fI.o];exact qF,HR.o.1.Ar iH (by intro e;rcases e with e|e<;>simp at e),HR.o.2.trans (iH.mono (by rintro _ (rfl|rfl)<;>exact .inr rfl))⟩
       case measure=>clear hw1 hw2;simp[intOf];omega
      ·obtain rfl:q=n2:=by omega
       rw[iW.o,aa]at hM;have HFin:=Qa (show C2 m N.told o w wr from ⟨o9,hM,hs⟩);clear hM hr hs;go_wp2_with fail;go_ret;rw[HRN.o];exact⟨rfl,HFin.o⟩
  | false =>
   have vW:=Qa (dV.o w4 o4 vQ.o hbt);obtain⟨N,hN⟩:=Ja0 M.Gm;obtain⟨bE,hbE⟩:=Ja0 M.S.Cp.2;have HRN:=Qa (show RC=(N.told,bE) from by rw[qC.o,hN,hbE];exact d8 tX.o hbt)
   have hNb:N.S.came.length<=1099511627776/\N.S.lost.length<=1099511627776:=by
    have hok:N.S.ok:=by rw[hN];exact Yf HK.o.inv
    refine⟨Qo hok.cm hok.Lh,?_⟩;have e:N.S.lost=M.S.lost++M.S.JF:=by rw[hN];show M.S.Cp.1.lost=_;rw[Uk]
    rw[e,HK.o.lo,aH];exact Pv HK.o.inv
   rw[<-hN,<-hbE]at vW;clear hN hbE;go_upto_region 8 with (first|(go_at_call 25;refine vW.o.mono ?_;rintro e w5 ⟨o5,rfl,uJ,hs5⟩)|fail)
   have sw5:Stp (kf m) o o5 w w5:=HS4.o.trans (hs5.mono fun _ h=>fz h);clear hs5 yR hbt vW;obtain⟨n,hn⟩:=Ja0 N.S.came.length;obtain⟨n2,hn2⟩:=Ja0 N.S.lost.length;have kF:=Qa hn;have iW:=Qa hn2;have qO:=Qa (show n<=1099511627776/\n2<=1099511627776 from by rw[hn,hn2];exact hNb)
   have tQ:=Qa (tT.o w5 o5 N uJ);have cb5:w5.cell? ⟨m.mb,0,none⟩=some (ptr m.y.sb):=HC.o w5 o5 N uJ;have HS5:=Qa sw5;clear hn hn2 hNb uJ sw5;go_wp2_with (first|(go_at_call 26;refine tQ.o.mono ?_;rintro e w6 ⟨v6,rfl,eU,uK,hs6⟩;rw[<-kF.o]at eU;obtain⟨pv,cv,rfl⟩:=eU.A6)|fail)
   have HI6:=Qa (Aj uK (Aj eU (HS5.o.trans (hs6.mono fun _ h=>fz h))));clear uK eU hs6 cb5 tQ;go_loopw [39] (fun ix wr=>∃ (k:Nat)(oo:Own),ix=I Z k/\k<=n/\BK wr oo m (⟨{ N.S with came:=[] },N.ps,N.hs,jd N.past 5 (N.S.came.take k)⟩:Mc)/\Row wr oo (m.y.l.id,15) 3 1 (.slice pv n cv) n (N.S.came.map nv)/\Stp (kf m) o oo w wr) (fun ix _=>n-(intOf ix).toNat)
   case atStart=>exact⟨0,o5,rfl,ai _,HI6.o⟩
   case round =>
    clear HI6;obtain⟨k,oo,rfl,hkn,hM,hr,hs⟩:=hrel;by_cases hlt:k<n
    ·have eG:(k:Int)<(n:Int):=by omega
     obtain⟨hw1,hw2⟩:=xo k n hlt qO.o.1;obtain⟨x,hx⟩:∃ x,N.S.came[k]?=some x:=⟨_,Qb (by rw[<-kF.o];exact hlt)⟩
     obtain⟨g,e,hcell,hcap⟩:∃ g,pv=some ⟨g,0,none⟩/\wr.cell? ⟨g,k,none⟩=some (I Z x)/\n<=cv:=by
      rcases hr.form with ⟨_,h0⟩|⟨g,cap,e,hcap,_⟩
      ·omega
      ·injection e with e1 _ e3
       subst e1 e3;exact⟨g,rfl,hr.cells k _ (by rw[Qj,hx];rfl),hcap⟩
     subst e;have hcI:(n:Int)<=(cv:Int):=by omega
     have oH:=Qa (kG.o wr oo _ hM 5 x);have fI:=Qa (show jd N.past 5 (N.S.came.take (k+1))=yd (jd N.past 5 (N.S.came.take k)) ⟨-1,0,0,⟨5,0,x⟩⟩ from by rw[yk hx];exact po _ _ _ _)
     have HR:=Qa (Aj hr hs);have HLt:=Qa hlt;clear hM hr hs hx hcap;go_wp2_with (first|(go_at_call 27;refine oH.o.mono ?_;rintro e w7 ⟨rfl,o7,hM7,hs7⟩)|fail)
     go_roundw
     case rel=>exact⟨k+1,o7,by simp,hlt,by rw[fI.o];exact hM7,HR.o.1.Ar hs7 (by intro e;rcases e with e|e<;>simp at e),HR.o.2.trans (hs7.mono (by rintro _ (rfl|rfl)<;>exact .inr rfl))⟩
     case measure=>clear hw1 hw2;simp[intOf];omega
    ·obtain rfl:k=n:=by omega
     rw[kF.o,aa]at hM;have cb7:wr.cell? ⟨m.mb,0,none⟩=some (ptr m.y.sb):=HC.o wr oo _ hM;have HL7:=Qa (uA.o wr oo _ hM);have nN:=Qa hs;clear hM hr hs hlt hkn;go_wp2_with (first|(go_at_call 28;refine HL7.o.mono ?_;rintro e w8 ⟨v8,rfl,gX,hM8,gK⟩;rw[show (⟨{ N.S with came:=[] },N.ps,N.hs,jd N.past 5 N.S.came⟩:Mc).S.lost=N.S.lost from rfl,<-iW.o]at gX;obtain⟨pv2,wK,rfl⟩:=gX.A6)|fail)
     have HI8:=Qa (Aj hM8 (Aj gX (nN.o.trans (gK.mono fun _ h=>fz h))));clear hM8 gX gK cb7 HL7;go_loopw [57] (fun ix wr=>∃ (k:Nat)(oo:Own),ix=I Z k/\k<=n2/\BK wr oo m (⟨{ N.S with came:=[],lost:=[] },N.ps,N.hs,jd (jd N.past 5 N.S.came) 4 (N.S.lost.take k)⟩:Mc)/\Row wr oo (m.y.l.id,14) 3 1 (.slice pv2 n2 wK) n2 (N.S.lost.map nv)/\Stp (kf m) o oo w wr) (fun ix _=>n2-(intOf ix).toNat)
     case atStart=>exact⟨0,oo,rfl,ai _,HI8.o⟩
     case round =>
      clear HI8;obtain⟨q,o9,rfl,hqn,hM,hr,hs⟩:=hrel;by_cases hlt:q<n2
      ·have eG:(q:Int)<(n2:Int):=by omega
       obtain⟨hw1,hw2⟩:=xo q n2 hlt qO.o.2;obtain⟨x,hx⟩:∃ x,N.S.lost[q]?=some x:=⟨_,Qb (by rw[<-iW.o];exact hlt)⟩
       obtain⟨g,e,hcell,hcap⟩:∃ g,pv2=some ⟨g,0,none⟩/\wr.cell? ⟨g,q,none⟩=some (I Z x)/\n2<=wK:=by
        rcases hr.form with ⟨_,h0⟩|⟨g,cap,e,hcap,_⟩
        ·omega
        ·injection e with e1 _ e3
         subst e1 e3;exact⟨g,rfl,hr.cells q _ (by rw[Qj,hx];rfl),hcap⟩
       subst e;have hcI:(n2:Int)<=(wK:Int):=by omega
       have oH:=Qa (kG.o wr o9 _ hM 4 x);have fI:=Qa (show jd (jd N.past 5 N.S.came) 4 (N.S.lost.take (q+1))=yd (jd (jd N.past 5 N.S.came) 4 (N.S.lost.take q)) ⟨-1,0,0,⟨4,0,x⟩⟩ from by rw[yk hx];exact po _ _ _ _)
       have HR:=Qa (Aj hr hs);clear hM hr hs hx hcap;go_wp2_with (first|(go_at_call 27;refine oH.o.mono ?_;rintro e w9 ⟨rfl,o10,qF,iH⟩)|fail)
       go_roundw
       case rel=>exact⟨q+1,o10,by simp,hlt,by rw[fI.o];exact qF,HR.o.1.Ar iH (by intro e;rcases e with e|e<;>simp at e),HR.o.2.trans (iH.mono (by rintro _ (rfl|rfl)<;>exact .inr rfl))⟩
       case measure=>clear hw1 hw2;simp[intOf];omega
      ·obtain rfl:q=n2:=by omega
       rw[iW.o,aa]at hM;have HFin:=Qa (show C2 m N.told o w wr from ⟨o9,hM,hs⟩);clear hM hr hs;go_wp2_with fail;go_ret;rw[HRN.o];exact⟨rfl,HFin.o⟩
end
section
variable {w w' : Aa} {o o' : Own} {m : Cd} {M : Mc}
def JO (h:BK w o m M) (hk:M.ok) (t:Int) (ho:∀ b,w.1.size<=b->o b=(m.y.l.id+1,0)) :
  Ab ANa 9 #[ptr m.mb,t] w fun e w'=>e=O (M.step t).2.val/\C2 m (M.step t).1 o w w':=by
 obtain⟨ve,jb,_⟩:=h.A3;have dI:=h.hs;obtain⟨ph,ch,fV⟩:=dI.A6;rw[fV]at dI jb;have HN:=Qa (fun (W:Aa) (hb:Ae w w W)=>qp1 h W hb)
 by_cases h0:t<0
 ·have e1:M.step t=(M,⟨0,0,0⟩):=if_pos (.inl h0)
  rw[e1];clear h hk dI fV jb e1;go_in;go_wp2_with fail;exact bodyPost_ret (v:=Al #[(),(),()]) (by simp[results,results9,go_sem]) rfl ⟨rfl,HN.o _ (qc (qd w) _)⟩
 by_cases h1:(M.hs.length:Int)<=t
 ·have e1:M.step t=(M,⟨0,0,0⟩):=if_pos (.inr (.inl h1))
  rw[e1];obtain⟨nh,fD⟩:=Ja0 M.hs.length;rw[<-fD]at h1 jb;have cb:=jb.cell;have lb:=jb.lt;clear h hk dI fV fD jb e1;go_in;go_wp2_with fail;exact bodyPost_ret (v:=Al #[(),(),()]) (by simp[results,results9,go_sem]) rfl ⟨rfl,HN.o _ (qc (qd w) _)⟩
 obtain⟨T,rfl⟩:∃ T:Nat,t=T:=⟨t.toNat,by omega⟩
 have hT:T<M.hs.length:=by omega
 have hb1:Ae w w (w.alloc (.cells #[(),(),()] 33)):=qc (qd w) _;have eD:=Qa (Xz (h.below hb1));have jA:=An.new w #[(),(),()] 33;have hAm:w.1.size≠m.mb:=by have:=jb.lt;omega
 by_cases hf:2000<=M.past.length
 ·have e1:M.step T=(M,⟨0,0,0⟩):=if_pos (.inr (.inr hf))
  rw[e1];rw[decide_eq_true hf]at eD;obtain⟨nh,fD⟩:=Ja0 M.hs.length;rw[<-fD]at h1 jb;have cb:=jb.cell;have lb:=jb.lt;have oA:=ho w (Qk _);have hb1':=Qa hb1;clear h hk dI fV fD jb e1 hf hT hb1 ho;go_in;go_wp2_with fail;refine eD.o.mono ?_;rintro e w2 ⟨rfl,hM2,hk2,hz2,hs2⟩;have j2:=hk2 _ _ _ hAm jA;have c2:=j2.cell;have z2:=j2.free;have l2:=j2.lt;have jX:=dp j2 ⟨0,0,0⟩;have HL:=Qa (C2.GU hM2 (((Stp.of_below hb1'.o).trans hs2).mono (by rintro _ rfl;exact .inr rfl)) (b:=w.1.size) (Qk _) oA ⟨0,0,0⟩)
  clear hM2 hk2 hz2 hs2 j2;go_wp2_with fail;change bodyPost _ _ _ _ _ (wy w2 w ⟨0,0,0⟩);generalize wy w2 w ⟨0,0,0⟩=X at *;have cX:=jX.cell;exact bodyPost_ret (v:=Al #[(),(),()]) (by simp[results,results9,go_sem,cX,BD.cells]) rfl ⟨rfl,HL.o⟩
 ·have e1:M.step T=M.DD T:=if_neg (fun e=>e.elim (by omega) fun e=>e.elim h1 hf)
  rw[e1];obtain⟨RR,hRR⟩:=Ja0 (M.DD T);rw[<-hRR];have HRR:=Qa hRR;rw[decide_eq_false hf]at eD;have hz:=Mc.Fp (M:=M) hT;have hTp:T<M.ps.length:=by rw[<-hk.len];exact hT
  have Ajo:=Qa (hk.tst hT);have HP:=Qa (Mc.Fu (M:=M) hTp);obtain⟨gV,nV,a0',c0',ep,_,_⟩:=h.ps.at (Mc.Fu (M:=M) hTp);rw[ep]at jb;obtain⟨nh,fD⟩:=Ja0 M.hs.length;have pE:nh=M.ps.length:=by rw[fD];exact hk.len
  have HNh:=Qa fD;have qB:=Qa pE;rw[<-fD]at h1 jb hT dI;rw[<-pE]at jb;have yP:=Qa ep;have HVh:=Qa fV;have HZ:=Qa hz;have cb:=jb.cell;have lb:=jb.lt;have oA:=ho w (Qk _);have HO:=Qa ho;have hb1':=Qa hb1;have HK:=Qa hk;have hTI:¬(nh:Int)<=(T:Int):=by omega
  have wV:(T:Int)<(nh:Int):=by omega
  clear h hk dI jb e1 hf hb1 ho fD pE ep fV h1 hTp hz hRR;go_in;go_wp2_with fail;refine eD.o.mono ?_;rintro e w2 ⟨rfl,hM2,hk2,hz2,hs2⟩;have mY:=hk2 _ _ _ hAm jA;have sW2:Stp (kf m) o o w w2:=((Stp.of_below hb1'.o).trans hs2).mono (by rintro _ rfl;exact .inr rfl)
  obtain⟨ve2,jm2,_⟩:=hM2.A3;rw[HVh.o,yP.o,<-HNh.o,<-qB.o]at jm2;have hr2:=hM2.hs;rw[HVh.o,<-HNh.o]at hr2;obtain⟨gq,eq,hcap,q⟩:=hr2.FX HZ.o;subst eq;obtain⟨gp,cp,a,c,ep,hcp,wQ⟩:=hM2.ps.at HP.o;rw[yP.o]at ep;injection ep with ep1 _ ep3;injection ep1 with ep1;injection ep1 with ep1;subst ep1 ep3;obtain⟨z,xQ⟩:=Ja0 (M.h T);rw[<-xQ]at q;have HZE:=Qa xQ;obtain⟨P,hPe⟩:=Ja0 ((M.p T).length);rw[<-hPe]at hcp;have dV:=Qa (fun (W:Aa) (hb:Ae w2 w2 W)=>show Ab ANa 29 #[ptr m.y.sb,I Z T,.slice a P c,z.v] W fun e' w'=>e'=O (Ak #[(M.S.Bd T (M.p T) z).h.v,(M.S.Bd T (M.p T) z).a.val])/\Left m.y (M.S.Bd T (M.p T) z).S o W w' from by
   rw[hPe,xQ];exact qpv (hM2.st.below hb) (wQ.Tw.below hb) (M.h T) Ajo.o)
  have eQ:=Qa hM2;have HJA:=Qa mY;have rC:=Qa sW2;obtain⟨R,hR⟩:=Ja0 (M.S.Bd T (M.p T) z);rw[<-hR]at dV;have HR:=Qa hR;obtain⟨RS,⟨rb,rn,⟨b0,b1,b2,b3,b4,b5⟩,⟨d0,d1,d2,d3,d4,d5⟩,rl⟩,⟨ak,ae,av⟩⟩:=R;obtain⟨zb,zn,⟨a0,a1,a2,a3,a4,a5⟩,⟨s0,s1,s2,s3,s4,s5⟩,zl⟩:=z;obtain⟨q0,q1,q2,q3,q4,q5,q6,q7,q8,q9,gB,gD,gP,gQ,gT⟩:=q;have qX:=Qa (show RR=(⟨RS,M.ps,M.hs.set T ⟨rb,rn,⟨b0,b1,b2,b3,b4,b5⟩,⟨d0,d1,d2,d3,d4,d5⟩,rl⟩,if ak≠0 then yd M.past ⟨(T:Int),zb,zn,⟨ak,ae,av⟩⟩ else M.past⟩,⟨ak,ae,av⟩) from by rw[HRR.o];unfold Mc.DD;rw[<-HZE.o,<-HR.o])
  simp only at q0 q1 q2 q3 q4 q5 q6 q7 q8 q9 gB gD gP gQ gT;unfold AE.v AE.cells BD.val BD.cells at dV;simp only at dV;have cm:=jm2.cell;have lm:=jm2.lt;have lq:=hr2.blt;clear cb lb hM2 hk2 hs2 mY sW2 xQ hPe hR wQ hr2;go_upto_region 4 with fail;obtain⟨W3,hW3⟩:=Ja0 (w2.alloc (.cells #[zb,zn,a0,a1,a2,a3,a4,a5,s0,s1,s2,s3,s4,s5,zl] 49));rw[<-hW3];have hb3:Ae w2 w2 W3:=by rw[hW3];exact qc (qd w2) _
  have hz2':w2.1.size=w.1.size+1:=by simpa using hz2
  have fZ:An W3 (w.1.size+1) #[zb,zn,a0,a1,a2,a3,a4,a5,s0,s1,s2,s3,s4,s5,zl] 49:=by rw[hW3,<-hz2'];exact An.new w2 _ _
  have sZ:=jm2.below hb3 jm2.lt;have hc3:=cell_below hcp hb3;clear hW3 cm lm lq q0 q1 q2 q3 q4 q5 q6 q7 q8 q9 gB gD gP gQ gT jm2 hcp;have cm:=sZ.cell;have cx:=fZ.cell;have HH8:Q2 (∀ (W:Aa),Ae w2 w2 W->Ab ANa 29 #[ptr m.y.sb,I Z T,.slice a P c,Al #[zb,zn,a0,a1,a2,a3,a4,a5,s0,s1,s2,s3,s4,s5,zl]] W fun e' w'=>e'=O (Ak #[Al #[rb,rn,b0,b1,b2,b3,b4,b5,d0,d1,d2,d3,d4,d5,rl],Al #[ak,ae,av]])/\Left m.y RS o W w'):=dV;refine RQ _ _ _ _ _ _ _ _ _ _ _ _ _ _ _ _ _ _ _ _ _ _ _ _ _ _ _ _ _ _ _ _ _ _ _ _ _ _ _ _ _ _ _ _ _ _ _ _ _ _ _ _ _ _ _ _ _ _ _ _ _ _ _ _ _ _ _ _ _ eQ HJA rC HO oA yP hz2' hb3 fZ sZ hc3 (Int.not_le.2 wV) wV HH8 (Qa ?_);rintro W5 o5 C D z33 z34 z35 z36 z37 z38 z39 z40 z41 z42 z43 z44 z45 z46 z47 z48 z49 fQ jC jD oC oD;clear cm cx HH8 fZ sZ hc3 hb3;obtain⟨ve5,jm5,_⟩:=fQ.mi.A3;have jm5:An W5 m.mb #[ptr m.y.sb,m.vp,m.vh,.int .i32 0,.int .u32 0,ve5] 72:=jm5;rw[HVh.o,yP.o,<-HNh.o,<-qB.o]at jm5;have dZ:Row W5 o5 (m.y.l.id+2,2) 49 15 m.vh M.hs.length (ze M.hs):=fQ.mi.hs;rw[HVh.o,<-HNh.o]at dZ;obtain⟨_,e5,_,q⟩:=dZ.FX (HZ.o.trans (congrArg some HZE.o.symm));injection e5 with e5;injection e5 with e5;subst e5;obtain⟨q0,q1,q2,q3,q4,q5,q6,q7,q8,q9,gB,gD,gP,gQ,gT⟩:=q;simp only at q0 q1 q2 q3 q4 q5 q6 q7 q8 q9 gB gD gP gQ gT;obtain⟨uK,hs6⟩:=fQ.mi.CL (t:=T) (by rw[<-HNh.o];exact hT) HVh.o ⟨rb,rn,⟨b0,b1,b2,b3,b4,b5⟩,⟨d0,d1,d2,d3,d4,d5⟩,rl⟩
  obtain⟨Y,hY⟩:=Ja0 ((Kl W5 gq (T*15) ⟨rb,rn,⟨b0,b1,b2,b3,b4,b5⟩,⟨d0,d1,d2,d3,d4,d5⟩,rl⟩).drew);have lF:An Y w #[(),(),()] 33:=by rw[hY];exact qj (fQ.ja.Ar hs6 (by rw[fQ.oa];simp))
  have zY:An Y (w.1.size+1) #[zb,zn,a0,a1,a2,a3,a4,a5,s0,s1,s2,s3,s4,s5,zl] 49:=by rw[hY];exact qj (fQ.jb.Ar hs6 (by rw[fQ.ob];simp))
  have uZ:=qj (jD.Ar hs6 (by rw[oD];simp))
  rw[<-hY]at uZ;have HM7:=Qa (show BK Y o5 m (⟨RS,M.ps,M.hs.set T ⟨rb,rn,⟨b0,b1,b2,b3,b4,b5⟩,⟨d0,d1,d2,d3,d4,d5⟩,rl⟩,M.past⟩:Mc) from by rw[hY];exact uK.below (qf (qd _)))
  have nN:=Qa (show Stp (kf m) o o5 w Y from by rw[hY];exact (fQ.st.trans (hs6.mono (by rintro _ rfl;exact .inr rfl))).trans (Stp.of_below (qf (qd _))))
  have HO7:=Qa (Aj fQ.oa (Aj fQ.ob oD));have zq:=dZ.free;have lq:=dZ.blt;have cm5:=jm5.cell;have cC:=jC.cell;have HYe:=Qa hY;have HJ7:=Qa (Aj lF (Aj zY uZ));clear hY uK hs6 fQ jD jC oC oD dZ jm5 lF zY uZ dV;go_upto_region 5 with fail;go_region;have hY2:=HYe.o;unfold Kl at hY2;simp only at hY2;rw[<-hY2];clear hY2;obtain⟨lF,zY,uZ⟩:=HJ7.o;have cA:=lF.cell;have zA:=lF.free;have lA:=lF.lt;have cB:=zY.cell;have cD:=uZ.cell;have lm7:m.mb<Y.1.size:=HM7.o.lt;clear zq lq cm5 cC q0 q1 q2 q3 q4 q5 q6 q7 q8 q9 gB gD gP gQ gT;by_cases hk0:ak=0
  ·have hkb:(ak != 0)=false:=by rw[hk0];rfl
   have jX:=dp lF ⟨ak,ae,av⟩;have HL:=Qa (C2.GU HM7.o nN.o (b:=w.1.size) (Qk _) HO7.o.1 ⟨ak,ae,av⟩);have HK0:=Qa hk0;clear lF zY uZ hk0;go_wp2_with fail;change bodyPost _ _ _ _ _ (wy Y w ⟨ak,ae,av⟩);generalize wy Y w ⟨ak,ae,av⟩=V at *;have cX:=jX.cell;refine bodyPost_ret (v:=Al #[ak,ae,av]) (by simp[results,results9,go_sem,cX,BD.cells]) rfl ⟨by rw[qX.o];rfl,?_⟩
   rw[qX.o];simp only[HK0.o,ne_eq,not_true_eq_false,if_false];exact HL.o
  ·have hkb:(ak != 0)=true:=by rw[bne_iff_ne];exact hk0
   have oH:=Qa (show Ab ANa 27 #[Ah (some ⟨m.mb,3,none⟩),Al #[I Z T,zb,zn,ak,ae,av]] Y.drew fun e w'=>e=O (Ak #[])/\∃ o',BK w' o' m (⟨RS,M.ps,M.hs.set T ⟨rb,rn,⟨b0,b1,b2,b3,b4,b5⟩,⟨d0,d1,d2,d3,d4,d5⟩,rl⟩,yd M.past ⟨T,zb,zn,⟨ak,ae,av⟩⟩⟩:Mc)/\Stp (pd m) o5 o' Y.drew w' from WE (HM7.o.below (qf (qd Y))) ⟨T,zb,zn,⟨ak,ae,av⟩⟩);have HK0:=Qa hk0;clear hk0;go_upto_region 7 with fail;go_still_tail 10,(by kernel_rfl)
   change wpList _ _ _ _ _ Y.drew;clear cA zA lA cB cD;have nrc:¬pd m (m.y.l.id+1,0):=fun e=>by rcases e with e|e<;>simp at e
   have HFF:=Qa (fun (w9:Aa) (o9:Own) (qF:BK w9 o9 m (⟨RS,M.ps,M.hs.set T ⟨rb,rn,⟨b0,b1,b2,b3,b4,b5⟩,⟨d0,d1,d2,d3,d4,d5⟩,rl⟩,yd M.past ⟨T,zb,zn,⟨ak,ae,av⟩⟩⟩:Mc)) (iH:Stp (pd m) o5 o9 Y.drew w9) =>
    show An w9 w #[(),(),()] 33/\An w9 D #[ak,ae,av] 33/\C2 m (⟨RS,M.ps,M.hs.set T ⟨rb,rn,⟨b0,b1,b2,b3,b4,b5⟩,⟨d0,d1,d2,d3,d4,d5⟩,rl⟩,yd M.past ⟨T,zb,zn,⟨ak,ae,av⟩⟩⟩:Mc) o w (wy w9 w ⟨ak,ae,av⟩) from by
     have a9:=(qj lF).Ar iH (by rw[HO7.o.1];exact nrc)
     have d9:=(qj uZ).Ar iH (by rw[HO7.o.2.2];exact nrc)
     have t9:o9 w=(m.y.l.id+1,0):=(iH.tags _ (qj lF).lt).trans HO7.o.1;have s9:Stp (kf m) o o9 w w9:=(nN.o.trans (Stp.of_below (qf (qd Y)))).trans (iH.mono (by rintro _ (rfl|rfl)<;>exact .inr rfl))
     exact⟨a9,d9,C2.GU qF s9 (b:=w.1.size) (Qk _) t9 ⟨ak,ae,av⟩⟩)
   clear lF zY uZ;go_wp2_with (first
    | (go_at_call 27;refine oH.o.mono ?_;rintro e w9 ⟨rfl,o9,qF,iH⟩;obtain⟨a9,d9,hfin⟩:=HFF.o w9 o9 qF iH;have cA:=a9.cell;have zA:=a9.free;have lA:=a9.lt;have cD:=d9.cell)
    | fail)
   have jX:=dp a9 ⟨ak,ae,av⟩;have HL:=Qa hfin;clear a9 d9 hfin qF iH;change bodyPost _ _ _ _ _ (wy w9 w ⟨ak,ae,av⟩);generalize wy w9 w ⟨ak,ae,av⟩=V at *;have cX:=jX.cell;refine bodyPost_ret (v:=Al #[ak,ae,av]) (by simp[results,results9,go_sem,cX,BD.cells]) rfl ⟨by rw[qX.o];rfl,?_⟩
   rw[qX.o];simp only[ne_eq,HK0.o,not_false_eq_true,if_true];exact HL.o
def uf (h:BK w o m M) (hk:M.ok) (t:Int) :
  Ab ANa 9 #[ptr m.mb,t] w fun e w'=>e=O (M.step t).2.val/\C2 m (M.step t).1 o w w':=
 (JO (h.retag fun b hb=>qk (n:=w.1.size) (t:=(m.y.l.id+1,0)) hb) hk t fun b hb=>qq hb).mono fun _ _⟨a,b⟩=>⟨a,b.PH⟩
end
def qlg (s:BQ)(w:Aa):Ab ANa 145 #[ka s] w fun e w'=>∃ b,e=O (.bool b)/\(b=true->s.ok)/\Ae w w w':=by
 by_cases h:s.ok
 ·refine (fm s h w).mono ?_
  rintro e w' ⟨rfl,hb⟩;exact⟨true,rfl,fun _=>h,hb⟩
 ·obtain⟨p,d,wk,fn⟩:=s
  have hn:¬(p<=8/\d<=8/\(wk=true->p=1/\d=0/\fn=false)):=h;clear h;by_cases h1:p<=8
  ·by_cases h2:d<=8
   ·cases wk
    ·exact absurd ⟨h1,h2,by simp⟩ hn
    ·by_cases h3:p=1
     ·by_cases h4:d=0
      ·subst h3 h4
       cases fn
       ·exact absurd ⟨h1,h2,by simp⟩ hn
       ·clear hn
        go_in;go_wp2_with fail;go_ret;exact⟨false,rfl,by simp,qc (Below.refl _ _) _⟩
      ·subst h3
       have h5:¬(d:Int)=0:=by omega
       clear hn;go_in;go_wp2_with fail;go_ret;exact⟨false,rfl,by simp,qc (Below.refl _ _) _⟩
     ·have h5:¬(p:Int)=1:=by omega
      clear hn;go_in;go_wp2_with fail;go_ret;exact⟨false,rfl,by simp,qc (Below.refl _ _) _⟩
   ·have h5:(d:Int) > 8:=by omega
    clear hn;go_in;go_wp2_with fail;go_ret;exact⟨false,rfl,by simp,qc (Below.refl _ _) _⟩
  ·have h5:(p:Int) > 8:=by omega
   clear hn;go_in;go_wp2_with fail;go_ret;exact⟨false,rfl,by simp,qc (Below.refl _ _) _⟩
def qpd (s:BQ)(fr:Bool)(w:Aa):Ab ANa 192 #[ka s,fr] w fun e w'=>∃ (n:Nat)(b:Bool),e=O (Ak #[.int .u64 n,b])/\(b=true->n%2=1)/\Ae w w w':=by
 by_cases h:s.ok
 ·refine (cw s h fr w).mono ?_
  rintro e w'⟨rfl,hb⟩;exact⟨head s fr,true,rfl,fun _=>Yc _ _,hb⟩
 ·have HR:=Qa (qlg s)
  obtain⟨p,d,wk,fn⟩:=s;go_in;go_wp2_with fail;refine (HR.o _).mono ?_;rintro e w1⟨b,rfl,hb,hb1⟩
  cases b
  ·clear hb
   go_wp2_with fail;go_ret2;exact⟨0,false,rfl,by simp,qe (qc (Below.refl _ _) _) hb1⟩
  ·exact absurd (hb rfl) h
def qj6 (q:Nat)(hq:q<=131072)(w:Aa):Ab ANa 131 #[.int .u64 ((4*q+2:Nat):Int)] w fun e w'=>e=O (Ak #[ka ⟨0,0,false,false⟩,false,false])/\Ae w w w':=by
 obtain⟨v,hv⟩:∃ v,v=4*q+2:=⟨_,rfl⟩;rw[<-hv];have hvl:v<18446744073709551616:=by omega
 have he:v%2=0:=by omega
 have hbit:∀ s:Int,(v/2 ^ s.toNat%2=if decide (v/2 ^ s.toNat%2=1) then 1 else 0):=fun s=>by
  have:=Nat.mod_two_eq_zero_or_one (v/2 ^ s.toNat);rcases this with h|h<;>rw[h]<;>rfl
 have hp:=nu v hvl 1 (by simp)
 have hd:=nu v hvl 5 (by simp)
 have hwk:=nn v hvl 9 (by simp) _ (hbit 9)
 have hfn:=nn v hvl 10 (by simp) _ (hbit 10)
 have hfr:=nn v hvl 11 (by simp) _ (hbit 11)
 generalize v/2 ^ (1:Int).toNat%16=p at *;generalize v/2 ^ (5:Int).toNat%16=d at *;generalize decide (v/2 ^ (9:Int).toNat%2=1)=wk at *;generalize decide (v/2 ^ (10:Int).toNat%2=1)=fn at *;generalize decide (v/2 ^ (11:Int).toNat%2=1)=fr at *;have HH:=Qa (qpd ⟨p,d,wk,fn⟩ fr);have HP:=Qa hp;have HD:=Qa hd;have HW:=Qa hwk;have HN:=Qa hfn;have HF:=Qa hfr;clear hp hd hwk hfn hfr hbit hv hq;go_in;go_wp2_with fail;refine (HP.o _).mono ?_
 rintro e w1 ⟨rfl,hb1⟩
 have jR:=(An.new w (#[_,_,_,_]) 82).below hb1 (by simp)
 have hw1:=qe (qc (Below.refl _ _) _) hb1;clear hb1;go_wp2_with fail;refine (HD.o _).mono ?_
 rintro e w2 ⟨rfl,hb2⟩
 have dR:=jR.below hb2 jR.lt;have hw2:=qe hw1 hb2;clear hb2 jR hw1;go_wp2_with fail;refine (HW.o _).mono ?_
 rintro e w3 ⟨rfl,hb3⟩
 have eX:=dR.below hb3 dR.lt;have hw3:=qe hw2 hb3;clear hb3 dR hw2;go_wp2_with fail;refine (HN.o _).mono ?_
 rintro e w4 ⟨rfl,hb4⟩
 have lI:=eX.below hb4 eX.lt;have hw4:=qe hw3 hb4;have c4:=lI.cell;have s4:=lI.lt;have z4:=lI.free;clear hb4 eX hw3;go_wp2_with fail;refine (HF.o _).mono ?_
 rintro e w5 ⟨rfl,hb5⟩
 have gZ:An w5 w #[p,d,wk,fn] 82:=((((lI.set 0 _).set 1 _).set 2 _).set 3 _).below hb5 (by simp;omega)
 have pO:Ae w w w5:=qe (qo (qo (qo (qo hw4 (Qk _) _) (Qk _) _) (Qk _) _) (Qk _) _) hb5;have c5:=gZ.cell;have s5:=gZ.lt;clear hb5 lI hw4 c4 s4 z4;go_wp2_with fail;refine (HH.o _).mono ?_
 rintro e w6 ⟨n,b,rfl,hnb,hb6⟩
 have xW:=gZ.below hb6 gZ.lt;have gY:=qe pO hb6;have c6:=xW.cell;have s6:=xW.lt;have z6:=xW.free;clear hb6 gZ pO c5 s5
 cases b
 ·clear hnb
  go_wp2_with fail;refine bodyPost_ret (v:=Ak #[ka ⟨0,0,false,false⟩,false,false]) (by simp[results,results131,go_sem,c6]) rfl ⟨rfl,?_⟩
  repeat (first|exact gY|refine qo ?_ (Qk _) _)
 ·have hne:((n:Int) != (v:Int))=true:=by rw[bne_iff_ne];have:=hnb rfl;omega
  have hne2:¬(n:Int)=(v:Int):=by have:=hnb rfl;omega
  clear hnb;go_wp2_with fail;refine bodyPost_ret (v:=Ak #[ka ⟨0,0,false,false⟩,false,false]) (by simp[results,results131,go_sem,c6]) rfl ⟨rfl,?_⟩
  repeat (first|exact gY|refine qo ?_ (Qk _) _)
variable {w : Aa} {a wd L : Nat} {f : Nat -> Nat} {p : Nat}
def qju (h:BR w a wd L f)(hp:p<L)(q:Nat)(hq:q<=131072)(hf:f p=4*q+2) :
  Ab ANa 79 #[Ah (some ⟨a,0,none⟩),p] w fun e w'=>∃ er:Int,er≠0/\e=O (Ak #[ka ⟨0,0,false,false⟩,false,er])/\Ae w w w':=by
 have HS:=Qa (qj6 q hq);have HW:=Qa h;have H0:=Qa hf;have hL9:=h.le;generalize 4*q+2=v at *;clear h hf;go_in;go_wp2_with fail;refine (wg (HW.o.below (qc (qd w) _)) p p v rfl hp H0.o).mono ?_
 rintro e w1 ⟨rfl,rfl⟩
 go_wp2_with fail;refine (HS.o _).mono ?_
 rintro e w2 ⟨rfl,hb2⟩
 have jR:An w2 w #[(),(),false,false] 82:=(An.new w _ _).below hb2 (by simp)
 have hw2:=qe (qc (qd w) _) hb2;have cR:=jR.cell;have zR:=jR.free;have sR:=jR.lt;clear hb2;go_upto_region 6 with fail;obtain⟨w3,e3⟩:=Ja0 ((((w2.setCell ⟨w,0,none⟩ (I Z 0)).setCell ⟨w,1,none⟩ (I Z 0)).setCell ⟨w,2,none⟩ (.bool false)).setCell ⟨w,3,none⟩ (.bool false));have j3:An w3 w #[(),(),false,false] 82:=by rw[e3];exact (((jR.set 0 _).set 1 _).set 2 _).set 3 _
 have h3:Ae w w w3:=by
  rw[e3];exact qo (qo (qo (qo hw2 (Qk _) _) (Qk _) _) (Qk _) _) (Qk _) _
 rw[<-e3];clear e3 hw2 cR zR sR jR;have c3:=j3.cell;have z3:=j3.free;have s3:=j3.lt;go_wp2_with fail;refine bodyPost_ret (v:=Ak #[ka ⟨0,0,false,false⟩,false,I Z 70]) (by simp[results,results79,go_sem,c3]) rfl ⟨70,by decide,rfl,?_⟩
 repeat (first|exact h3|refine qo ?_ (Qk _) _)
def JJ (h:BR w a wd L f)(hp:p<L)(hf:f p=0) :
  Ab ANa 172 #[Ah (some ⟨a,0,none⟩),p] w fun e w'=>e=O (Ak #[(),false])/\w=w':=by
 have HG:=Qa (fun w=>YA 0 (by omega) w)
 have HW:∀ w,Ab ANa 217 #[.int .u64 0] w fun e w'=>e=O (Ak #[(),false])/\w=w':=fun w=>by
  clear hf h;go_in;go_wp2_with fail;refine (HG.o _).mono ?_;rintro e w1 ⟨rfl,rfl⟩;go_wp2_with fail;go_ret2;exact⟨rfl,rfl⟩
 have HW:=Qa HW;have HL:=Qa (wg h p p _ rfl hp hf);clear h hf HG;go_in;go_wp2_with fail;refine HL.o.mono ?_
 rintro e w1 ⟨rfl,rfl⟩
 go_wp2_with fail;refine (HW.o _).mono ?_
 rintro e w1 ⟨rfl,rfl⟩
 go_wp2_with fail;go_ret2;exact⟨rfl,rfl⟩
def Hp.all (H:Hp):List (Nat×Ob):=H.cur++H.Ch
def Hp.nw (H:Hp)(q:Nat):Nat:=zk (Be H.old) q
def Hp.go (H:Hp)(q:Nat):Bool:=match Be H.old q with|some (_,some _)=>true|_=>false
def Hp.Fo (H:Hp)(x:Ob):Ob:={ x with AB:=x.AB.map H.nw }
def Hp.vw (H:Hp):Gf:=fun p=>(H.obj p).map H.Fo
def Hp.cl (H:Hp):Prop:=∀ p x,H.obj p=some x->∀ q ∈ x.AB,H.V q
section
variable {H : Hp} {p : Nat} {x : Ob}
def mj (h:H.obj p=some x):(p,x) ∈ H.cur\/(p,x,none) ∈ H.old:=by
 unfold Hp.obj CP at h;split at h
 ·rename_i b hb;injection h with h;subst h;exact .inl (zh hb)
 ·split at h
  ·rename_i b hb;injection h with h;subst h;exact .inr (zy hb)
  ·cases h
def kj (h:H.obj p=some x):(p,x) ∈ H.all:=by
 rcases mj h with h|h
 ·exact ag _ h
 ·exact Ad _ (Qt.2 ⟨_,h,rfl⟩)
def ki (hk:H.ok){y:Nat×Ob}(hy:y ∈ H.all):y.2.ok/\1<=y.1/\y.1+y.2.size<=2*H.size+1:=by
 have hb:=H.Bt H.use;have hb2:=H.Bt !H.use;rcases Qs.1 hy with h|h
 ·have h1:=zd _ _ _ hk.cl _ h
  have h2:=zi _ (Ob.AP (hk.ck _ h)).2;have h3:=hk.room;have:H.base H.use<=1+H.size:=by unfold Hp.base;split<;>omega
  exact⟨hk.ck _ h,by omega,by omega⟩
 ·have h1:=zd _ _ _ hk.ol _ h
  have h2:=zi _ (Ob.AP (hk.ok _ h)).2;have h3:=hk.ot;have:H.base (!H.use)<=1+H.size:=by unfold Hp.base;split<;>omega
  exact⟨hk.ok _ h,by omega,by omega⟩
def WW (hk:H.ok){y z:Nat×Ob}(hy:y ∈ H.all)(hz:z ∈ H.all)(hne:y.1≠z.1):y.1+y.2.size<=z.1\/z.1+z.2.size<=y.1:=by
 have r1:=zi _ (Ob.AP (ki hk hy).1).2;have r2:=zi _ (Ob.AP (ki hk hz).1).2;rcases Qs.1 hy with h1|h1<;>rcases Qs.1 hz with h2|h2
 ·have:=xg _ _ _ hk.cl hk.ck _ h1 _ h2 hne;omega
 ·obtain⟨u,hu,rfl⟩:=Qt.1 h2
  exact Hp.apart hk h1 hu
 ·obtain⟨u,hu,rfl⟩:=Qt.1 h1
  exact (Hp.apart hk h2 hu).symm
 ·have:=xg _ _ _ hk.ol hk.ok _ h1 _ h2 hne;omega
def F1 {q:Nat}:H.V q↔q=0\/∃ y,(q,y) ∈ H.all:=by
 unfold Hp.V VF;constructor
 ·rintro (h|h|h)
  ·exact .inl h
  ·obtain⟨y,hy⟩:=af.1 h
   exact .inr ⟨y,ag _ (zh hy)⟩
  ·obtain⟨y,hy⟩:=af.1 h
   exact .inr ⟨y.1,Ad _ (Qt.2 ⟨_,zy (show Be H.old q=some (y.1,y.2) from hy),rfl⟩)⟩
 ·rintro (h|⟨y,h⟩)
  ·exact .inl h
  ·rcases Qs.1 h with h|h
   ·exact .inr (.inl (by have:=En.2 (Qt.2 ⟨_,h,rfl⟩);intro e;rw[e]at this;simp at this))
   ·obtain⟨u,hu,e⟩:=Qt.1 h
    injection e with e1 e2;refine .inr (.inr ?_);have:=Ex.2 (Qt.2 ⟨_,hu,e1⟩);intro e;rw[e]at this;simp at this
def Vb (hk:H.ok){y:Ob}{g:Option Nat}(h1:lk H.cur p=some x)(h2:Be H.old p=some (y,g)):False:=by
 have:=Hp.apart hk (zh h1) (zy h2);have k:=Ob.AP (hk.ck _ (zh h1));have k2:=Ob.AP (hk.ok (p,y) (Qt.2 ⟨_,zy h2,rfl⟩));simp only at this k k2;omega
def TH (hk:H.ok)(h:lk H.cur p=some x):H.nw p=p/\H.go p=false:=by
 have:Be H.old p=none:=by
  cases e:Be H.old p with
  | none=>rfl
  | some y=>exact (Vb hk h (show Be H.old p=some (y.1,y.2) from e)).elim
 unfold Hp.nw zk Hp.go;rw[this];exact⟨rfl,rfl⟩
def TK (h:Be H.old p=some (x,none)):H.nw p=p/\H.go p=false:=by
 unfold Hp.nw zk Hp.go;rw[h];exact⟨rfl,rfl⟩
def TJ {q:Nat}(h:Be H.old p=some (x,some q)):H.nw p=q/\H.go p=true:=by
 unfold Hp.nw zk Hp.go;rw[h];exact⟨rfl,rfl⟩
def PF (hk:H.ok):H.nw 0=0/\H.go 0=false:=by
 have:Be H.old 0=none:=by
  cases e:Be H.old 0 with
  | none=>rfl
  | some y =>
   have:=(ki hk (Ad H.cur (Qt.2 ⟨_,zy (show Be H.old 0=some (y.1,y.2) from e),rfl⟩))).2.1;simp only at this;omega
 unfold Hp.nw zk Hp.go;rw[this];exact⟨rfl,rfl⟩
def PG (h:H.go p=false):H.nw p=p:=by
 unfold Hp.go at h;unfold Hp.nw zk;split
 ·rename_i e;rw[e]at h;cases h
 ·rfl
def SO (hk:H.ok){q:Nat}(h:H.V q):q=0\/(∃ y,H.obj q=some y/\H.nw q=q/\H.go q=false)\/∃ y q',(q,y,some q') ∈ H.old/\H.nw q=q'/\H.go q=true:=by
 rcases h with h|h|h
 ·exact .inl h
 ·obtain⟨y,hy⟩:=af.1 h
  exact .inr (.inl ⟨y,jt hy,TH hk hy⟩)
 ·obtain⟨⟨y,g⟩,hy⟩:=af.1 h
  have hc:lk H.cur q=none:=by
   cases e:lk H.cur q with
   | none=>rfl
   | some x=>exact (Vb hk e hy).elim
  cases g with
  | none=>exact .inr (.inl ⟨y,td hc hy,TK hy⟩)
  | some q'=>exact .inr (.inr ⟨y,q',zy hy,TJ hy⟩)
def F8 (hk:H.ok){q:Nat}(h:H.V q):H.nw q<=131072:=by
 rcases SO hk h with rfl|⟨y,h1,h2,_⟩|⟨y,q',h1,h2,_⟩
 ·rw[(PF hk).1];omega
 ·have h3:=ki hk (kj h1)
  have:=hk.sz;have:=(Ob.AP h3.1).1;rw[h2];simp only at h3;omega
 ·rw[h2];exact (hk.gone _ h1 q' rfl).2
structure Vi (H:Hp)(f:Nat->Nat)(P:Nat->Ob->Ob)(g:Nat->Nat):Prop where
 ob:∀ p x,H.obj p=some x->BE g p (P p x)
 hd:∀ q,H.V q->g q=f q
def QP (H:Hp)(P:Nat->Ob->Ob):Prop:=∀ p x,H.obj p=some x->(P p x).AL=x.AL/\(P p x).ok
def m9 {x y:Ob}(h:x.AL=y.AL):x.size=y.size:=by unfold Ob.size;rw[h]
def Vi.set (hk:H.ok){f g:Nat->Nat}{P P':Nat->Ob->Ob}(hP:QP H P)(h:Vi H f P g)(hp:H.obj p=some x){i q:Nat}(hi:i<x.AL.p)
  (h1:P' p x=(P p x).Bh i q)(h2:∀ p' x',H.obj p'=some x'->p'≠p->P' p' x'=P p' x'):Vi H f P' (upd g (p+3+i) q):=by
 have hs:p+3+i<p+x.size:=by unfold Ob.size;omega
 have hx:=ki hk (kj hp);refine⟨fun p' x' hp'=>?_,fun q' hq'=>?_⟩
 ·by_cases e:p'=p
  ·subst e
   obtain rfl:x=x':=by rw[hp]at hp';injection hp'
   rw[h1];exact (h.ob _ _ hp).Bh (hP _ _ hp).2 i q (by rw[(hP _ _ hp).1];exact hi)
  ·rw[h2 _ _ hp' e]
   refine (h.ob _ _ hp').of_eq (hP _ _ hp').2 fun j a b=>upd_ne _ _ _ _ ?_;rw[m9 (hP _ _ hp').1]at b;have:=WW hk (kj hp) (kj hp') (Ne.symm e);simp only at this;omega
 ·rw[upd_ne _ _ _ _ ?_]
  ·exact h.hd q' hq'
  ·rcases F1.1 hq' with rfl|⟨y,hy⟩
   ·simp only at hx;omega
   ·by_cases e:q'=p
    ·omega
    ·have:=WW hk (kj hp) hy (Ne.symm e)
     have k:=Ob.AP (ki hk hy).1;simp only at this k;omega
def Vi.congr {f g:Nat->Nat}{P P':Nat->Ob->Ob}(h:Vi H f P g)(e:∀ p x,H.obj p=some x->P' p x=P p x):Vi H f P' g:=
 ⟨fun p x hp=>by rw[e p x hp];exact h.ob p x hp,h.hd⟩
def P0 (H:Hp)(D:List Nat):Nat->Ob->Ob:=fun p x=>if p ∈ D then H.Fo x else x
def NC (H:Hp)(j:Nat)(x:Ob):Ob:={ x with AB:=(x.AB.take j).map H.nw++x.AB.drop j }
def P1 (H:Hp)(D:List Nat)(p0 j:Nat):Nat->Ob->Ob:=fun p x=>if p=p0 then NC H j x else P0 H D p x
def Yn (hk:H.ok)(hc:H.cl)(hp:H.obj p=some x):(H.Fo x).ok:=by
 have h:=(ki hk (kj hp)).1;refine⟨h.AL,by simp[Hp.Fo,h.lp],h.ln,fun y hy=>?_,h.num,h.Bc,h.sec⟩
 obtain⟨q,hq,rfl⟩:=Qt.1 hy;exact F8 hk (hc p x hp q hq)
def Ka (hk:H.ok)(hc:H.cl)(hp:H.obj p=some x)(j:Nat):(NC H j x).ok:=by
 have h:=(ki hk (kj hp)).1;refine⟨h.AL,by simp only[NC,Qd,Qg,Qp,List.length_drop,h.lp];show _=x.AL.p;have:=h.lp;simp only at this;omega,h.ln,fun y hy=>?_,h.num,h.Bc,h.sec⟩
 rcases Qs.1 hy with hy|hy
 ·obtain⟨q,hq,rfl⟩:=Qt.1 hy
  exact F8 hk (hc p x hp q (List.mem_of_mem_take hq))
 ·exact h.ptr y (List.mem_of_mem_drop hy)
def GQ (hk:H.ok)(hc:H.cl)(D:List Nat):QP H (P0 H D):=fun p x hp=>by
 unfold P0;split
 ·exact⟨rfl,Yn hk hc hp⟩
 ·exact⟨rfl,(ki hk (kj hp)).1⟩
def GR (hk:H.ok)(hc:H.cl)(D:List Nat)(p0 j:Nat):QP H (P1 H D p0 j):=fun p x hp=>by
 unfold P1;split
 ·exact⟨rfl,Ka hk hc hp j⟩
 ·exact GQ hk hc D p x hp
def Lm {D:List Nat}{p0:Nat}(h:p0 ∉ D)(p:Nat)(x:Ob):P1 H D p0 0 p x=P0 H D p x:=by
 unfold P1 P0;split
 ·rename_i e;subst e;rw[if_neg h];simp[NC]
 ·rfl
def NM {D:List Nat}{p0:Nat}(hk:H.ok){n:Nat}(hn:∀ y,H.obj p0=some y->n=y.AL.p)(h:H.obj p=some x):P0 H (D++[p0]) p x=P1 H D p0 n p x:=by
 unfold P1 P0;by_cases e:p=p0
 ·subst e
  rw[if_pos (by simp),if_pos rfl]
  have hl:=(ki hk (kj h)).1.lp;simp only at hl;rw[hn _ h,<-hl];simp[NC,Hp.Fo]
 ·rw[if_neg e]
  by_cases e2:p ∈ D
  ·rw[if_pos (by simp[e2]),if_pos e2]
  ·rw[if_neg (by simp[e,e2]),if_neg e2]
def Ll (D:List Nat)(p0:Nat){j q:Nat}(hq:x.AB[j]?=some q):P1 H D p0 (j+1) p0 x=(P1 H D p0 j p0 x).Bh j (H.nw q):=by
 unfold P1;rw[if_pos rfl,if_pos rfl];have hj:=(Qc.1 hq).1;unfold NC Ob.Bh;congr 1;simp only;rw[List.set_append,if_neg (by rw[Qg,Qp];omega),Qg,Qp,aI (by omega),aK,ay hj,List.set_cons_zero,aj,hq]
 simp
def Lj (D:List Nat)(p0:Nat){j q:Nat}(hq:x.AB[j]?=some q)(hg:H.nw q=q):P1 H D p0 (j+1) p0 x=P1 H D p0 j p0 x:=by
 unfold P1;rw[if_pos rfl,if_pos rfl];have hj:=(Qc.1 hq).1;have e:=(Qc.1 hq).2;unfold NC;congr 1;rw[ay hj,aj,hq,e];simp[hg]
def QZ (D:List Nat)(p0 j:Nat)(hq:(x.AB)[j]?=some p):(P1 H D p0 j p0 x).AB[j]?=some p:=by
 unfold P1;rw[if_pos rfl];have hj:=(Qc.1 hq).1;unfold NC;simp only;rw[Ql (by rw[Qg,Qp];omega),Qg,Qp,aI (by omega),aK,List.getElem?_drop]
 simpa using hq
end
section
variable {H : Hp} {w : Aa} {a wd : Nat} {f g : Nat -> Nat} {P : Nat -> Ob -> Ob}
def Nf (hk:H.ok)(hP:QP H P)(hW:BR w a wd (2*H.size+1) g)(hV:Vi H f P g)(hz:f 0=0)(hO:∀ y ∈ H.old,∀ q,y.2.2=some q->f y.1=4*q+2){q:Nat}(hq:H.V q) :
  Ab ANa 172 #[Ah (some ⟨a,0,none⟩),q] w fun e w'=>e=O (Ak #[I Z ((if H.go q then H.nw q else 0:Nat):Int),.bool (H.go q)])/\w=w':=by
 rcases SO hk hq with rfl|⟨y,h1,_,h3⟩|⟨y,q',h1,h2,h3⟩
 ·rw[(PF hk).2]
  exact JJ hW (by omega) ((hV.hd 0 hq).trans hz)
 ·rw[h3]
  have h4:=ki hk (kj h1);refine Va hW (hV.ob q y h1) (hP q y h1).2 ?_;rw[m9 (hP q y h1).1];exact h4.2.2
 ·rw[h3,h2]
  have h4:=ki hk (Ad H.cur (Qt.2 ⟨_,h1,rfl⟩));have h5:=hk.gone _ h1 q' rfl;have h6:=(Ob.AP h4.1).1;simp only at h4 h6;exact Uq hW (by omega) q' h5.1 h5.2 ((hV.hd q hq).trans (hO _ h1 q' rfl))
def qne (hk:H.ok)(hP:QP H P)(hW:BR w a wd (2*H.size+1) g)(hV:Vi H f P g)(hO:∀ y ∈ H.old,∀ q,y.2.2=some q->f y.1=4*q+2){p:Nat}(hq:H.V p)(h0:p≠0) :
  Ab ANa 79 #[Ah (some ⟨a,0,none⟩),p] w fun e w'=>∃ (s:BQ)(fr:Bool)(er:Int),e=O (Ak #[ka s,fr,er])/\Ae w w w'/\((er=0/\∃ x,H.obj p=some x/\s=x.AL)\/(er≠0/\H.obj p=none)):=by
 rcases SO hk hq with rfl|⟨y,h1,_,h3⟩|⟨y,q',h1,h2,h3⟩
 ·exact absurd rfl h0
 ·have h4:=ki hk (kj h1)
  refine (jw hW (hV.ob p y h1) (hP p y h1).2 (by rw[m9 (hP p y h1).1];exact h4.2.2) p rfl).mono ?_
  rintro e w' ⟨rfl,hb⟩;exact⟨_,_,0,rfl,hb,.inl ⟨rfl,y,h1,(hP p y h1).1⟩⟩
 ·have h4:=ki hk (Ad H.cur (Qt.2 ⟨_,h1,rfl⟩))
  have h5:=hk.gone _ h1 q' rfl;have h6:=(Ob.AP h4.1).1;simp only at h4 h6;refine (qju hW (by omega) q' h5.2 ((hV.hd p hq).trans (hO _ h1 q' rfl))).mono ?_
  rintro e w' ⟨er,hr,rfl,hb⟩;refine⟨_,_,er,rfl,hb,.inr ⟨hr,?_⟩⟩
  cases e:H.obj p with
  | none=>rfl
  | some x =>
   rcases mj e with k|k
   ·exact (Vb hk (SV hk k) (mg hk h1)).elim
   ·have k1:=mg hk k
    have k2:=mg hk h1;simp only at k1 k2;rw[k1]at k2;cases k2
end
def Vu {b:Nat}{w w1 w2:Aa}(h:Ae w w w1)(k:Wr b w1 w2)(hn:w.1.size<=b):Ae w w w2:=
 ⟨k.os.trans h.os,k.tape.trans h.tape,k.output.trans h.output,Qo h.size k.size,fun j hj=>(k.block j (Qn hj h.size) (by omega)).trans (h.block j hj)⟩
structure Lays (w:Aa)(o:Own)(H:Hp)(v1 v2:Ac)(A1 A2:List Nat):Prop where
 r1:∃ t,Row w o t 3 1 v1 A1.length (A1.map nv)
 r2:∃ t,Row w o t 3 1 v2 A2.length (A2.map nv)
 nd:(A1++A2).Nodup
 v:∀ p ∈ A1++A2,H.V p/\p≠0
 ob:∀ p x,H.obj p=some x->p ∈ A1++A2
 n:A1.length<=100000/\A2.length<=100000
def AN.Y2 {w:Aa}{o:Own}{l:Bn}{H:Hp}{vc vo vw vf:Ac}{f:Nat->Nat}(h:AN w o l H vc vo vw vf f):w.cell? ⟨l.h,7,none⟩=some (if H.use then vo else vc)/\w.cell? ⟨l.h,8,none⟩=some (if H.use then vc else vo):=by
 rw[h.hb.cell,h.hb.cell];unfold Hp.cells
 cases H.use<;>exact⟨rfl,rfl⟩
def AN.lays {w:Aa}{o:Own}{l:Bn}{H:Hp}{vc vo vw vf:Ac}{f:Nat->Nat}(h:AN w o l H vc vo vw vf f)(hk:H.ok):∃ A1 A2,Lays w o H (if H.use then vo else vc) (if H.use then vc else vo) A1 A2:=by
 have rc:∃ t,Row w o t 3 1 vc (H.cur.map (·.1)).length ((H.cur.map (·.1)).map nv):=⟨_,by rw[Qg,aL];exact h.rc⟩
 have ro:∃ t,Row w o t 3 1 vo (H.old.map (·.1)).length ((H.old.map (·.1)).map nv):=⟨_,by rw[Qg,aL];exact h.ro⟩
 have n1:(H.cur.map (·.1)).Nodup:=(xj _ _ _ hk.cl hk.ck).imp fun h=>by omega
 have n2:(H.old.map (·.1)).Nodup:=(ut hk).imp fun h=>by omega
 have l1:=SQ hk;have l2:=UQ hk;have hv:∀ p,p ∈ H.cur.map (·.1)\/p ∈ H.old.map (·.1)->H.V p/\p≠0:=fun p hp=>by
  rcases hp with hp|hp
  ·obtain⟨y,hy,rfl⟩:=Qt.1 hp
   have k:=ki hk (ag H.Ch hy);exact⟨F1.2 (.inr ⟨y.2,ag H.Ch hy⟩),by omega⟩
  ·obtain⟨y,hy,rfl⟩:=Qt.1 hp
   have m:(y.1,y.2.1) ∈ H.all:=Ad H.cur (Qt.2 ⟨_,hy,rfl⟩);have k:=ki hk m;exact⟨F1.2 (.inr ⟨y.2.1,m⟩),by simp only at k;omega⟩
 have dj:∀ a ∈ H.cur.map (·.1),∀ b ∈ H.old.map (·.1),a≠b:=fun a ha b hb e=>by
  subst e;obtain⟨y,hy,e⟩:=Qt.1 ha;obtain⟨z,hz,e2⟩:=Qt.1 hb;have k:=Hp.apart hk hy hz;have k1:=Ob.AP (hk.ck _ hy);have k2:=Ob.AP (hk.ok (z.1,z.2.1) (Qt.2 ⟨_,hz,rfl⟩));simp only at k1 k2;omega
 have ho:∀ p x,H.obj p=some x->p ∈ H.cur.map (·.1)\/p ∈ H.old.map (·.1):=fun p x hp=>by
  rcases mj hp with k|k
  ·exact .inl (Qt.2 ⟨_,k,rfl⟩)
  ·exact .inr (Qt.2 ⟨_,k,rfl⟩)
 cases H.use
 ·exact⟨_,_,rc,ro,aA.2 ⟨n1,n2,dj⟩,fun p hp=>hv p (Qs.1 hp),fun p x hp=>Qs.2 (ho p x hp),by rw[Qg,Qg];omega⟩
 ·exact⟨_,_,ro,rc,aA.2 ⟨n2,n1,fun a ha b hb e=>dj b hb a ha e.symm⟩,fun p hp=>hv p (Qs.1 hp).symm,fun p x hp=>Qs.2 (ho p x hp).symm,by rw[Qg,Qg];omega⟩
def EM (A1 A2:List Nat)(i:Nat):List Nat:=if i=0 then [] else if i=1 then A1 else A1++A2
def MO (x y:Ac)(W:Aa):(Instr.index 139 (Al #[x,y]) (I Z 0)).run ANa W=.ok x W:=by kernel_rfl
def MP (x y:Ac)(W:Aa):(Instr.index 139 (Al #[x,y]) (I Z 1)).run ANa W=.ok y W:=by kernel_rfl
def Lays.at {w:Aa}{o:Own}{H:Hp}{v1 v2:Ac}{A1 A2:List Nat}(h:Lays w o H v1 v2 A1 A2){i:Nat}(hi:i<2) :
  ∃ A,(∃ t,Row w o t 3 1 (if i=0 then v1 else v2) A.length (A.map nv))/\EM A1 A2 (i+1)=EM A1 A2 i++A/\(EM A1 A2 i++A).Nodup/\(∀ p ∈ A,H.V p/\p≠0)/\A.length<=100000:=by
 rcases (show i=0\/i=1 by omega) with rfl|rfl
 ·exact⟨A1,h.r1,rfl,(aA.1 h.nd).1,fun p hp=>h.v p (ag _ hp),h.n.1⟩
 ·exact⟨A2,h.r2,rfl,h.nd,fun p hp=>h.v p (Ad _ hp),h.n.2⟩
def Vi.agree {H:Hp}{f g:Nat->Nat}{P:Nat->Ob->Ob}(hk:H.ok)(hP:QP H P)(h:Vi H f P f)(e:∀ j,j<2*H.size+1->g j=f j):Vi H f P g:=by
 refine⟨fun p x hp=>(h.ob p x hp).of_eq (hP p x hp).2 fun j _ hj=>e j ?_,fun q hq=>e q ?_⟩
 ·rw[m9 (hP p x hp).1]at hj
  have:=(ki hk (kj hp)).2.2;simp only at this;omega
 ·rcases F1.1 hq with rfl|⟨y,hy⟩
  ·omega
  ·have k:=ki hk hy
   have:=(Ob.AP k.1).1;simp only at k this;omega
def Ro {D A:List Nat}(h:(D++A).Nodup){k p:Nat}(hp:A[k]?=some p):p ∉ D++A.take k:=by
 have hk:=(Qc.1 hp);obtain⟨hl,e⟩:=hk;have e2:D++A=(D++A.take k)++(p::A.drop (k+1)):=by
  rw[aB,<-e,<-ay hl,List.take_append_drop]
 rw[e2]at h;exact fun hm=>(aA.1 h).2.2 p hm p (by simp) rfl
section
variable {w : Aa} {o : Own} {l : Bn} {H : Hp} {vc vo vw vf : Ac} {f : Nat -> Nat}
def qqj (h:AN w o l H vc vo vw vf f)(hk:H.ok)(hz:f 0=0)(hc:H.cl) :
  Ab ANa 102 #[Ah (some ⟨l.h,0,none⟩)] w fun e w'=>∃ a wd g,e=O (Ak #[Ah (some ⟨a,0,none⟩),()])/\Lb w' a wd (2*H.size+1) g H.vw/\Ae w w w':=by
 obtain⟨A1,A2,hL⟩:=h.lays hk;have hsz:=hk.sz;obtain⟨L,hLe⟩:∃ L,L=2*H.size+1:=⟨_,rfl⟩;have hO:∀ y ∈ H.old,∀ q,y.2.2=some q->f y.1=4*q+2:=fun y hy q hq=>(h.Ch y hy).2 q hq
 have HW:=Qa (fun (W:Aa)(hb:Ae w w W)=>show BR W l.a l.wd L f from by rw[hLe];exact (h.below hb).Cr)
 have HL:=Qa (fun (W:Aa)(hb:Ae w w W)=>show W.cell? ⟨l.h,0,none⟩=some (Ah (some ⟨l.a,0,none⟩))/\W.cell? ⟨l.h,7,none⟩=some (if H.use then vo else vc)/\W.cell? ⟨l.h,8,none⟩=some (if H.use then vc else vo) from ⟨(h.below hb).c0,(h.below hb).Y2⟩)
 generalize (if H.use then vo else vc)=v1 at hL HL
 generalize (if H.use then vc else vo)=v2 at hL HL
 have hi0:Vi H f (P0 H []) f:=⟨fun p x hp=>by
  unfold P0;rw[if_neg (by simp)]
  rcases mj hp with k|k
  ·exact h.Fb _ k
  ·exact (h.Ch _ k).1 rfl,fun _ _=>rfl⟩
 have HI:=Qa hi0;clear hi0;have hL1:1<=L:=by omega
 have hL2:L<=65536:=by omega
 have hLI:(L:Int)<=65536:=by omega
 have hp0:=(HL.o w (qd w)).1;have HO:=Qa hO;have HZ:=Qa hz;have HC:=Qa hc;have HK:=Qa hk;have qQ:=Qa hLe;have yL:=Qa hL;have HLen:=Qa (ss (HW.o w (qd w)));have ik:=Qa (GZ L hL1 hL2 L rfl w);clear h hO hz hc hk hLe hL hsz;go_in;go_wp2_with fail;refine HLen.o.mono ?_
 rintro e w0 ⟨rfl,rfl⟩
 go_wp2_with fail;refine ik.o.mono ?_
 rintro e w1 ⟨a,wd,rfl,hW1,ha,hwd,hb1⟩
 clear HLen ik hp0;have tZ:=Qa (ss hW1);go_wp2_with fail;refine tZ.o.mono ?_
 rintro e w2 ⟨rfl,rfl⟩
 clear tZ;go_wp2_with fail;go_loopw [35] (fun ix wr=>∃ (i:Nat)(g:Nat->Nat),ix=I Z i/\i<=L/\BR wr a wd L g/\(∀ j,j<i->g j=f j)/\Ae w w wr) (fun ix _=>L-(intOf ix).toNat)
 case atStart=>exact⟨0,_,rfl,ai _,hW1,fun j hj=>by omega,hb1⟩
 case round =>
  obtain⟨i,g,rfl,hi,hW,hg,hb⟩:=hrel;clear hW1 hb1;by_cases hlt:i<L
  ·have Als:(i:Int)<(L:Int):=by omega
   have c0:=(HL.o wr hb).1;have HLd:=Qa (UT (HW.o wr hb) i i rfl hlt);have iZ:=Qa (Db hW i i (f i) rfl hlt (f i) rfl);clear hW;go_wp2_with fail;refine HLd.o.mono ?_;rintro e w3 ⟨rfl,rfl⟩;go_wp2_with fail;refine iZ.o.mono ?_;rintro e w4 ⟨rfl,dX,wS⟩;go_wp2_with fail;go_roundw
   case rel=>exact⟨i+1,_,by simp,by omega,dX,fun j hj=>by
    by_cases e:j=i
    ·subst e;exact pz _ _ _
    ·rw[upd_ne _ _ _ _ e];exact hg j (by omega),Vu hb wS hwd⟩
   case measure=>simp[intOf]<;>omega
  ·obtain rfl:i=L:=by omega
   have HVV:Vi H f (P0 H []) g:=Vi.agree HK.o (GQ HK.o HC.o []) HI.o fun j hj=>hg j (by rw[qQ.o];exact hj)
   have c0:=HL.o wr hb;have c7:=c0.2.1;have c8:=c0.2.2;clear c0 hlt hg;go_wp2_with fail;clear c7 c8;go_loopw [56] (fun ix wr=>∃ (k:Nat)(g:Nat->Nat),ix=I Z k/\k<=2/\BR wr a wd i g/\Vi H f (P0 H (EM A1 A2 k)) g/\Ae w w wr) (fun ix _=>2-(intOf ix).toNat)
   case atStart=>exact⟨0,g,rfl,by omega,hW,HVV,hb⟩
   case round =>
    clear hW HVV hb;obtain⟨m,g,rfl,hm,hW,hV,hb⟩:=hrel;by_cases hlt:m<2
    ·obtain⟨A,⟨t,hr⟩,hpre,hnd,hAv,hAn⟩:=yL.o.at hlt
     obtain⟨D,hD⟩:=Ja0 (EM A1 A2 m);rw[<-hD]at hV hpre hnd;have HR:=Qa (fun (W:Aa)(hb:Ae w w W)=>hr.below hb);have HAv:=Qa hAv;have HND:=Qa hnd;have qW:=Qa hpre;have hF:=hr.form;have x0:=MO;have x1:=MP;clear hr hAv hnd hpre hD;rcases (show ((m:Int)=0/\m=0)\/((m:Int)=1/\m=1) by omega) with ⟨e1,rfl⟩|⟨e1,rfl⟩
     all_goals
      rw[e1];clear e1;first|rw[if_pos rfl]at hF|rw[if_neg (by decide)]at hF
      rcases hF with ⟨rfl,h0⟩|⟨gb,cp,rfl,hn1,hn2,_,_⟩
      ·have hA0:A=[]:=List.eq_nil_of_length_eq_zero h0
       subst hA0;clear h0;go_wp2_with fail;go_loopw [61] (fun ix wr'=>ix=I Z 0/\wr'=wr) (fun _ _=>0)
       case atStart=>exact⟨rfl,rfl⟩
       case round =>
        obtain⟨rfl,rfl⟩:=hrel;go_wp2_with fail;go_roundw
        case rel=>first|exact⟨1,g,rfl,by omega,hW,by rw[show EM A1 A2 1=_ from qW.o,aJ];exact hV,hb⟩|exact⟨2,g,rfl,by omega,hW,by rw[show EM A1 A2 2=_ from qW.o,aJ];exact hV,hb⟩
        case measure=>simp[intOf]<;>omega
      ·go_wp2_with fail
       go_loopw [61] (fun ix wr=>∃ (k:Nat)(g:Nat->Nat),ix=I Z k/\k<=A.length/\BR wr a wd i g/\Vi H f (P0 H (D++A.take k)) g/\Ae w w wr) (fun ix _=>A.length-(intOf ix).toNat)
       case atStart=>exact⟨0,g,rfl,ai _,hW,by simpa using hV,hb⟩
       case round =>
        clear hW hV hb;obtain⟨k,g,rfl,hk,hW,hV,hb⟩:=hrel;by_cases hlt:k<A.length
        ·obtain⟨p,hp⟩:∃ p,A[k]?=some p:=⟨_,Qb hlt⟩
         have Als:(k:Int)<(A.length:Int):=by omega
         have htk:A.take (k+1)=A.take k++[p]:=by rw[aj,hp];rfl
         have hpA:=HAv.o p (Qe hp);have hpn:=Ro HND.o hp;have cx:wr.cell? ⟨gb,k,none⟩=some (I Z p):=(HR.o wr hb).cells k _ (by rw[Qj,hp];rfl)
         have HS:=Qa (qne HK.o (GQ HK.o HC.o _) (by rw[<-qQ.o];exact hW) hV HO.o hpA.1 hpA.2)
         have fI:=Qa htk;have HPn:=Qa hpn;have HPA:=Qa hpA;have HW0:=Qa hW;have wG:=Qa hV;obtain⟨D',hD'⟩:=Ja0 (D++A.take k);have HD':=Qa hD';clear hp htk hpA hpn hW hV hD';go_wp2_with fail;refine HS.o.mono ?_;rintro e w5 ⟨s,fr,er,rfl,hb5,hcase⟩;obtain⟨sp,sd,sw,sf⟩:=s;have hb6:=qe hb hb5;rcases hcase with ⟨rfl,x,hx,hs⟩|⟨hne,hx⟩
         ·have hnx:sp=x.AL.p:=by rw[<-hs]
          have hx8:sp<=8:=by rw[hnx];exact (ki HK.o (kj hx)).1.AL.1
          have HX:=Qa hx;have uD:=Qa hnx;have jB:=An.new w5 #[sp,sd,sw,sf] 82;have cB:=jB.cell;have xA:=qc hb6 (.cells #[sp,sd,sw,sf] 82);have hW7:=HW0.o.below (qc hb5 (.cells #[sp,sd,sw,sf] 82));clear hx hnx hs hb5 hb6 jB hb;go_wp2_with fail;clear cB;go_loopw [76] (fun ix wr=>∃ (j:Nat)(g:Nat->Nat),ix=I Z j/\j<=sp/\BR wr a wd i g/\Vi H f (P1 H D' p j) g/\Ae w w wr) (fun ix _=>sp-(intOf ix).toNat)
          case atStart=>exact⟨0,g,rfl,ai _,hW7,wG.o.congr fun q y _=>by rw[<-HD'.o];exact Lm (by rw[HD'.o];exact HPn.o) q y,xA⟩
          case round =>
           clear hW7 xA;obtain⟨j,g,rfl,hj,hW,hV,hb⟩:=hrel;by_cases hlt2:j<sp
           ·have AAp:(j:Int)<(sp:Int):=by omega
            have hj8:(j:Int)<8:=by omega
            have hxo:=ki HK.o (kj HX.o);obtain⟨q,hq⟩:∃ q,x.AB[j]?=some q:=⟨_,Qb (by have:=hxo.1.lp;simp only at this;rw[this,<-uD.o];exact hlt2)⟩
            have hqv:=HC.o p x HX.o q (Qe hq);have hPk:=GR HK.o HC.o D' p j p x HX.o;have hWL:BR wr a wd (2*H.size+1) g:=by rw[<-qQ.o];exact hW
            have hlL:p+(P1 H D' p j p x).size<=2*H.size+1:=by rw[m9 hPk.1];exact hxo.2.2
            have HG:=Qa (ce hWL (hV.ob p x HX.o) hPk.2 hlL j q (QZ D' p j hq) p j rfl rfl);have HA:=Qa (fun (W:Aa)(hb:Ae wr wr W)=>Nf HK.o (GR HK.o HC.o D' p j) (hWL.below hb) hV HZ.o HO.o hqv);have qD:=Qa (fun (W:Aa)(hb:Ae wr wr W)=>xu (hWL.below hb) (hV.ob p x HX.o) hPk.2 hlL j (H.nw q) (by rw[hPk.1,<-uD.o];exact hlt2) (F8 HK.o hqv) p j (H.nw q:Nat) rfl rfl rfl)
            have mV:q<=131072:=by
             have:=hxo.1.ptr q (Qe hq);exact this
            have HQ:=Qa hq;have HVv:=Qa hV;have HWw:=Qa hW;obtain⟨gq,hgq⟩:=Ja0 (H.go q);obtain⟨nq,hnq⟩:=Ja0 (H.nw q);have AAr:nq<=131072:=by rw[hnq];exact F8 HK.o hqv
            rw[<-hgq,<-hnq]at HA;rw[<-hnq]at qD;have HGq:=Qa hgq;have HNq:=Qa hnq;clear hq hqv hPk hWL hlL hV hW hxo hgq hnq;go_wp2_with fail;refine HG.o.mono ?_;rintro e w8 ⟨rfl,eB⟩;go_wp2_with fail;refine (HA.o _ eB).mono ?_;rintro e w9 ⟨rfl,rfl⟩
            cases gq
            ·go_wp2_with fail
             go_roundw
             case rel=>exact⟨j+1,g,by simp,by omega,HWw.o.below eB,HVv.o.congr fun q' y hy=>by
              by_cases e:q'=p
              ·subst e
               obtain rfl:x=y:=by have:=HX.o;rw[hy]at this;injection this with this;exact this.symm
               exact Lj D' q' HQ.o (PG HGq.o.symm)
              ·unfold P1;rw[if_neg e,if_neg e],qe hb eB⟩
             case measure=>simp[intOf]<;>omega
            ·simp only[if_true]
             go_wp2_with fail;refine (qD.o _ eB).mono ?_;rintro e w10 ⟨rfl,hT⟩;go_wp2_with fail;go_roundw
             case rel=>exact⟨j+1,_,by simp,by omega,by rw[qQ.o];exact hT.1,HVv.o.set HK.o (GR HK.o HC.o D' p j) HX.o (by rw[<-uD.o];exact hlt2) (by rw[HNq.o];exact Ll D' p HQ.o) (fun p' x' _ e=>by unfold P1;rw[if_neg e,if_neg e]),Vu (qe hb eB) hT.2 hwd⟩
             case measure=>simp[intOf]<;>omega
           ·obtain rfl:j=sp:=by omega
            clear hlt2;go_wp2_with fail;go_roundw
            case rel=>exact⟨k+1,g,by simp,by omega,hW,by
             rw[fI.o,<-aB,<-HD'.o];exact hV.congr fun q y hy=>NM HK.o (fun z hz=>by rw[uD.o];have:=HX.o;rw[hz]at this;injection this with this;rw[this]) hy,hb⟩
            case measure=>simp[intOf]<;>omega
         ·have HX:=Qa hx
          clear hx;go_wp2_with fail;go_roundw
          case rel=>exact⟨k+1,g,by simp,by omega,(HW0.o.below hb5).below (qc (qd _) _),by
           rw[fI.o,<-aB];exact wG.o.congr fun q y hy=>by
            unfold P0;have hq:q≠p:=fun e=>by subst e;rw[HX.o]at hy;cases hy
            simp[hq],qc hb6 _⟩
          case measure=>simp[intOf]<;>omega
        ·obtain rfl:k=A.length:=by omega
         clear hlt;go_wp2_with fail;go_roundw
         case rel=>first|exact⟨1,g,rfl,by omega,hW,by rw[show EM A1 A2 1=_ from qW.o,<-aa (l:=A)];exact hV,hb⟩|exact⟨2,g,rfl,by omega,hW,by rw[show EM A1 A2 2=_ from qW.o,<-aa (l:=A)];exact hV,hb⟩
         case measure=>simp[intOf]<;>omega
    ·obtain rfl:m=2:=by omega
     clear hlt;go_wp2_with fail;go_ret2;refine⟨a,wd,g,rfl,⟨by rw[<-qQ.o];exact hW,fun p y hy=>?_⟩,hb⟩
     unfold Hp.vw at hy
     cases e:H.obj p with
     | none=>rw[e]at hy;cases hy
     | some x =>
      rw[e]at hy;injection hy with hy;subst hy;have k1:=hV.ob p x e;unfold P0 at k1;rw[if_pos (show p ∈ EM A1 A2 2 from yL.o.ob p x e)]at k1;exact⟨k1,Yn HK.o HC.o e,by rw[m9 (show (H.Fo x).AL=x.AL from rfl)];exact (ki HK.o (kj e)).2.2⟩
end
def Hp.PW (H:Hp)(roots:List Nat):List Nat:=gw H.vw (H.all.map (·.1)).length roots
def Hp.LI (H:Hp)(roots:List Nat):List Nd:=yq H.vw (H.PW roots) (H.PW roots)
def KX {H:Hp}(hk:H.ok)(hm:H.AK=false):H.vw=lk H.cur:=by
 have ho:=hk.still hm;have hn:H.nw=id:=by funext q;unfold Hp.nw zk;rw[ho];rfl
 have hf:H.Fo=id:=by funext x;unfold Hp.Fo;rw[hn];simp
 funext p;unfold Hp.vw Hp.obj CP;rw[hf,ho]
 cases lk H.cur p<;>rfl
def U6 {H:Hp}{p:Nat}(h:(lk H.cur p).isSome=true):(H.vw p).isSome=true:=by
 obtain⟨x,hx⟩:=aC.1 h;unfold Hp.vw Hp.obj;rw[jt hx];rfl
def NJ {H:Hp}(hk:H.wf)(hc:H.cl):Nj H.vw (H.all.map (·.1)):=by
 have ho:∀ p,(H.vw p).isSome=true->∃ x,H.obj p=some x:=fun p hp=>by
  unfold Hp.vw at hp
  cases e:H.obj p with
  | none=>rw[e]at hp;simp at hp
  | some x=>exact⟨x,rfl⟩
 refine⟨fun p hp=>?_,?_,fun p hp=>?_,fun p x hx q hq=>?_⟩
 ·obtain⟨x,hx⟩:=ho p hp
  exact Qt.2 ⟨_,kj hx,rfl⟩
 ·have:=SQ hk.ok
  have:=UQ hk.ok;unfold Hp.all Hp.Ch;simp only[Qw,Qd,Qg];omega
 ·obtain⟨x,hx⟩:=ho p hp
  have h1:=ki hk.ok (kj hx);have:=hk.ok.sz;have:=(Ob.AP h1.1).1;simp only at h1;omega
 ·unfold Hp.vw at hx
  cases e:H.obj p with
  | none=>rw[e]at hx;cases hx
  | some y =>
   rw[e]at hx;injection hx with hx;subst hx;obtain⟨q0,h0,rfl⟩:=Qt.1 hq;rcases SO hk.ok (hc p y e q0 h0) with rfl|⟨z,h1,h2,_⟩|⟨z,q',h1,h2,_⟩
   ·exact .inl (PF hk.ok).1
   ·refine .inr ?_
    rw[h2];unfold Hp.vw;rw[h1];rfl
   ·obtain⟨ob,h3,_⟩:=hk.gn _ h1 q' rfl
    refine .inr ?_;rw[h2];exact U6 (by rw[h3];rfl)
section
variable {w : Aa} {o : Own} {l : Bn} {H : Hp} {vc vo vw vf : Ac} {f : Nat -> Nat}
def qjc (h:AN w o l H vc vo vw vf f)(hk:H.wf)(hz:f 0=0)(hc:H.cl){v:Ac}{roots:List Nat}{ov:Own}{t:Tag}(hv:Row w ov t 3 1 v roots.length (roots.map nv))(hr:E9 (lk H.cur) roots)(hn:roots.length<=1000000) :
  Ab ANa 65 #[Ah (some ⟨l.h,0,none⟩),v] w fun e w'=>∃ v1 v2 oo,e=O (Ak #[v1,v2,()])/\CB w' oo v1 (H.LI roots) /\
   Row w' oo (55,0) 3 1 v2 roots.length (EI (H.PW roots) roots)/\Ae w w w'/\Old w oo:=by
 have hrv:E9 H.vw roots:=fun p hp=>(hr p hp).imp id U6
 have HGC:=Qa (fun (W:Aa)(a wd L:Nat)(g:Nat->Nat)(hg:Lb W a wd L g H.vw)(hb:Ae w w W)=>show Ab ANa 101 #[Ah (some ⟨a,0,none⟩),v] W fun e w'=>∃ v1 v2 oo,e=O (Ak #[v1,v2,()])/\CB w' oo v1 (H.LI roots) /\
   Row w' oo (55,0) 3 1 v2 roots.length (EI (H.PW roots) roots)/\Ae W W w'/\Old W oo from ql6 hg (NJ hk hc) (hv.below hb) hrv hn)
 have HVw:=Qa (fun (W:Aa)(hb:Ae w w W)=>qqj (h.below hb) hk.ok hz hc)
 have iZ:=Qa (fun (hm:H.AK=false)(W:Aa)(hb:Ae w w W)=>show Lb W l.a l.wd (2*H.size+1) f H.vw from by rw[KX hk.ok hm];exact (h.below hb).Y4 hk.ok)
 have HH:=Qa (fun (W:Aa)(hb:Ae w w W)(p:Nat)(hp:(lk H.cur p).isSome=true)=>show Ab ANa 46 #[Ah (some ⟨l.h,0,none⟩),p] W fun e w'=>e=O (.bool true)/\Ae W W w' from by
  have:=Su (h.below hb) hk.ok p p rfl;rw[hp]at this;exact this)
 have HC:=Qa (fun (W:Aa)(hb:Ae w w W)=>show W.cell? ⟨l.h,0,none⟩=some (Ah (some ⟨l.a,0,none⟩))/\W.cell? ⟨l.h,10,none⟩=some (.bool H.AK) from by
  refine⟨(h.below hb).c0,?_⟩;rw[(h.below hb).hb.cell];unfold Hp.cells;split<;>rfl)
 obtain⟨pv,cv,rfl⟩:=hv.A6;have HV:=Qa hv;have HR:=Qa hr;obtain⟨n,hnn⟩:=Ja0 roots.length;rw[<-hnn]at HV HGC hn ⊢;have HN:=Qa hnn;have HNm:=Qa hn;obtain⟨mv,hmv⟩:=Ja0 H.AK;rw[<-hmv]at HC iZ;clear h hk hc hz hv hr hrv hn hnn hmv;go_in;go_wp2_with fail;go_loopw [13] (fun ix wr=>∃ k:Nat,ix=I Z k/\k<=n/\Ae w w wr) (fun ix _=>n-(intOf ix).toNat)
 case atStart=>exact⟨0,rfl,ai _,qd w⟩
 case round =>
  obtain⟨k,rfl,hkn,hb⟩:=hrel;by_cases hlt:k<n
  ·have eG:(k:Int)<(n:Int):=by omega
   have HW:=Qa (zc k (by have:=HNm.o;omega))
   obtain⟨x,hx⟩:∃ x,roots[k]?=some x:=⟨_,Qb (by rw[<-HN.o];exact hlt)⟩
   obtain⟨g,e,hcell,hcap⟩:∃ g,pv=some ⟨g,0,none⟩/\wr.cell? ⟨g,k,none⟩=some (I Z x)/\n<=cv:=by
    rcases (HV.o.below hb).form with ⟨_,h0⟩|⟨g,cap,e,hcap,_⟩
    ·omega
    ·injection e with e1 _ e3
     subst e1 e3;exact⟨g,rfl,(HV.o.below hb).cells k _ (by rw[Qj,hx];rfl),hcap⟩
   subst e;have nZ:=HR.o x (Qe hx);by_cases h0:x=0
   ·subst h0
    have HB:=Qa hb;clear hb hx nZ;obtain⟨hw1,hw2⟩:=HW.o;go_wp2_with fail;go_roundw
    case rel=>exact⟨k+1,by simp,hlt,HB.o⟩
    case measure=>simp[intOf];omega
   ·have hp0:((x:Int)==0)=false:=by rw[Qh];omega
    have HHx:=Qa (HH.o wr hb x (nZ.resolve_left h0));have HB:=Qa hb;clear hb hx nZ;obtain⟨hw1,hw2⟩:=HW.o;go_wp2_with (first
     | (go_at_call 46;refine HHx.o.mono ?_;rintro e w3 ⟨rfl,hb3⟩)
     | fail)
    go_roundw
    case rel=>exact⟨k+1,by simp,hlt,qe HB.o hb3⟩
    case measure=>simp[intOf];omega
  ·obtain rfl:k=n:=by omega
   obtain⟨c0,Q7⟩:=HC.o wr hb;clear hlt hkn HV
   cases mv
   ·have HG2:=Qa (HGC.o wr _ _ _ _ (iZ.o rfl wr hb) hb)
    have HB:=Qa hb;clear hb;go_wp2_with (first
     | (go_at_call 101;refine HG2.o.mono ?_;rintro e w3 ⟨v1,v2,oo,rfl,hN,hR2,hb3,hO⟩)
     | fail)
    go_ret3;exact⟨v1,v2,oo,rfl,hN,hR2,qe HB.o hb3,fun b hb=>hO b (Qn hb HB.o.size)⟩
   ·have HV2:=Qa (HVw.o wr hb)
    have HB:=Qa hb;clear hb;go_wp2_with (first
     | (go_at_call 102;refine HV2.o.mono ?_;rintro e w3 ⟨a,wd,g,rfl,hg,hb3⟩)
     | fail)
    clear HV2 HVw;have HG2:=Qa (HGC.o w3 _ _ _ _ hg (qe HB.o hb3));clear hg;go_wp2_with (first
     | (go_at_call 101;refine HG2.o.mono ?_;rintro e w4 ⟨v1,v2,oo,rfl,hN,hR2,hb4,hO⟩)
     | fail)
    go_ret3;exact⟨v1,v2,oo,rfl,hN,hR2,qe (qe HB.o hb3) hb4,fun b hb=>hO b (Qn hb (qe HB.o hb3).size)⟩
end
section
variable {w : Aa} {o : Own} {y : Bl} {S : Am}
def qkm (h:Av w o y S)(hk:S.ok)(hc:S.H.cl){v:Ac}{ps:List Nat}{t:Tag}(hv:Row w o t 3 1 v ps.length (ps.map nv))(hp:ps.length<=100000)(hr:E9 (lk S.H.cur) (S.places ps))(hn:(S.places ps).length<=1000000) :
  Ab ANa 35 #[ptr y.sb,v] w fun e w'=>∃ v1 v2 oo,e=O (Ak #[v1,v2,()])/\CB w' oo v1 (S.H.LI (S.places ps)) /\
   Row w' oo (55,0) 3 1 v2 (S.places ps).length (EI (S.H.PW (S.places ps)) (S.places ps))/\Ae w w w'/\Old w oo:=by
 have uG:=Qa (fun (W:Aa)(hb:Ae w w W)=>show Ab ANa 48 #[ptr y.sb,v] W fun e w'=>∃ v',e=O v'/\Row w' (fo W) (1,0) 3 1 v' (S.places ps).length ((S.places ps).map nv)/\Ae W W w' from by
  exact VQ (h.below hb) hk (hv.below hb) hp)
 obtain⟨vq,vl,vm,jb,_⟩:=h.A3;unfold qm at jb;have HB:=Qa h;have HK:=Qa hk;have cb:w.cell? ⟨y.sb,0,none⟩=some (ptr y.l.h):=jb.cell 0;have lb:=jb.lt;have HHp:=Qa (fun (W W3:Aa)(hb:Ae w w W)(hb3:Ae W W W3)(v':Ac)(hr':Row W3 (fo W) (1,0) 3 1 v' (S.places ps).length ((S.places ps).map nv))=>show Ab ANa 65 #[ptr y.l.h,v'] W3 fun e w'=>∃ v1 v2 oo,e=O (Ak #[v1,v2,()])/\CB w' oo v1 (S.H.LI (S.places ps)) /\
   Row w' oo (55,0) 3 1 v2 (S.places ps).length (EI (S.H.PW (S.places ps)) (S.places ps))/\Ae W3 W3 w'/\Old W3 oo from by
  obtain⟨vc,vo,vw,vf,f,hh⟩:=h.hp;exact qjc (hh.below (qe hb hb3)) hk.H hh.zr hc hr' hr hn)
 clear h hk hc hv hp hr hn jb;go_in;go_upto_region 3 with fail;go_region_held3 (fun w'=>w'.cell? ⟨y.sb,0,none⟩=some (ptr y.l.h)) (first|with_reducible assumption|go_keep) (first
  | (go_at_call 48;refine (uG.o w.drew (qf (qd w))).mono ?_;rintro e w3 ⟨v3,rfl,hr3,hb3⟩;have wJ:w3.cell? ⟨y.sb,0,none⟩=some (ptr y.l.h):=(hb3.cell (p:=⟨y.sb,0,none⟩) lb).trans cb)
  | (go_at_call 65;refine (HHp.o w.drew w3 (qf (qd w)) hb3 v3 hr3).mono ?_;rintro e w4 ⟨v1,v2,oo,rfl,hN,hR2,hb4,hO⟩;have yR:w4.cell? ⟨y.sb,0,none⟩=some (ptr y.l.h):=(hb4.cell (p:=⟨y.sb,0,none⟩) (Qn lb hb3.size)).trans wJ)
  | fail)
 go_wp2_with fail;go_ret3;have hb5:Ae w w w4:=qe (qe (qf (qd w)) hb3) hb4;exact⟨v1,v2,oo,rfl,hN,hR2,hb5,fun b hb=>hO b (Qn hb hb3.size)⟩
end
section
variable {w : Aa} {o : Own} {m : Cd} {M : Mc}
def V6 (h:BK w o m M)(hk:M.ok)(hc:M.S.H.cl)(hr:E9 (lk M.S.H.cur) (M.S.places M.roots))(hn:(M.S.places M.roots).length<=1000000) :
  Ab ANa 16 #[ptr m.mb] w fun e w'=>∃ v1 oo,e=O v1/\CB w' oo v1 (M.S.H.LI (M.S.places M.roots))/\Ae w w w'/\Old w oo:=by
 have hrl:M.roots.length<=100000:=by
  have:M.roots.length=M.hs.length*12:=cf _;have:=hk.len;have:=hk.n8;omega
 have lZ:=Qa (fun (W:Aa)(hb:Ae w w W)=>Wj (h.below hb) hk)
 obtain⟨ve,jb,_⟩:=h.A3;have cb:w.cell? ⟨m.mb,0,none⟩=some (ptr m.y.sb):=jb.cell 0;have lb:=jb.lt;have HSc:=Qa (fun (W W3:Aa)(hb:Ae w w W)(hb3:Ae W W W3)(v':Ac)(hr':Row W3 (fo W) (1,0) 3 1 v' M.roots.length (M.roots.map nv))=>by
  have s3:Stp (fun _=>False) o (ext o W (m.y.l.id+1,0)) W W3:=(Stp.of_below hb3).ext _ _ (Qk _);have hM3:BK W3 (ext o W (m.y.l.id+1,0)) m M:=(h.below hb).Ar s3 (fun _ h=>h) fun _ h=>h;exact qkm hM3.st hk.inv hc (hr'.out o (m.y.l.id+1,0)) hrl hr hn)
 clear h hk hc hr hn jb hrl;go_in;go_upto_region 1 with fail;go_region_held3 (fun w'=>w'.cell? ⟨m.mb,0,none⟩=some (ptr m.y.sb)) (first|with_reducible assumption|go_keep) (first
  | (go_at_call 23;refine (lZ.o w.drew (qf (qd w))).mono ?_;rintro e w3 ⟨v3,rfl,hr3,hb3⟩;have wJ:w3.cell? ⟨m.mb,0,none⟩=some (ptr m.y.sb):=(hb3.cell (p:=⟨m.mb,0,none⟩) lb).trans cb)
  | (go_at_call 35;refine (HSc.o w.drew w3 (qf (qd w)) hb3 v3 hr3).mono ?_;rintro e w4 ⟨v1,v2,oo,rfl,hN,hR2,hb4,hO⟩;have yR:w4.cell? ⟨m.mb,0,none⟩=some (ptr m.y.sb):=(hb4.cell (p:=⟨m.mb,0,none⟩) (Qn lb hb3.size)).trans wJ)
  | fail)
 go_wp2_with fail;go_ret;have hb5:Ae w w w4:=qe (qe (qf (qd w)) hb3) hb4;exact⟨v1,oo,rfl,hN,hb5,fun b hb=>hO b (Qn hb hb3.size)⟩
end
def ql9 {H:Hp}(hk:H.ok)(hm:H.AK=false)(hs:Shut H):H.cl:=fun p x hp q hq=>by
 rcases mj hp with h|h
 ·rcases hs _ h q hq with k|k
  ·exact .inl k
  ·obtain⟨y,hy⟩:=aC.1 k
   exact .inr (.inl (by rw[hy];simp))
 ·rw[hk.still hm]at h;cases h
namespace ek
def P:List (List (List AD)):=[[[⟨1,0,0,0,1⟩]]]
def M:Nat->Mc
 | 0=>Mc.fresh (Am.fresh 60 1 9 9 (EV 99).toNat) P
 | k+1=>((M k).step 0).1
def VB:Er P:=by
 refine⟨by decide,by decide,fun p hp=>?_⟩
 simp only[P,aG,aD,or_false]at hp;subst hp;refine⟨by decide,fun ds hds=>?_⟩
 simp only[aG,aD,or_false]at hds;subst hds;refine⟨by decide,by decide,fun d hd=>?_⟩
 simp only[aG,aD,or_false]at hd;subst hd;exact⟨⟨by decide,by decide,by decide,by decide,by decide,fun _=>by decide⟩,by decide +kernel⟩
def ok:∀ k,(M k).ok
 | 0=>Mc.De (by omega) (by omega) (by omega) (by omega) (by decide +kernel) VB
 | k+1=>Mc.E4 (ok k) 0
def Tt:((M 0).step 0).2=⟨1,0,0⟩:=by decide +kernel
def Tu:((M 1).step 0).2=⟨2,0,1⟩:=by decide +kernel
def Tv:((M 2).step 0).2=⟨3,0,1⟩:=by decide +kernel
def GU:((M 3).step 0).2=⟨0,0,0⟩:=by decide +kernel
def past:(M 4).past=[⟨0,0,0,⟨1,0,0⟩⟩,⟨0,0,0,⟨2,0,1⟩⟩,⟨0,0,1,⟨3,0,1⟩⟩]:=by decide +kernel
def fin:(M 4).done=true/\((M 4).C9 0).2=true/\((M 4).C9 0).1.r.a0=1/\(M 4).collect.2=false/\(M 4).collect.1.S.now=1/\(M 4).S.H.AK=false:=by decide +kernel
def shut:Shut (M 4).S.H:=by unfold Shut E9;decide +kernel
def Y6:E9 (lk (M 4).S.H.cur) ((M 4).S.places (M 4).roots):=by unfold E9;decide +kernel
def cn:((M 4).S.H.LI ((M 4).S.places (M 4).roots)).length=1/\((M 4).S.places (M 4).roots).length<=1000000:=by decide +kernel
end ek
def Row.FP {w:Aa}{b:Nat}{cs:Array Ac}{e:TypeId}{o:Own}{t:Tag}(n size:Nat)(h:An w b cs e)(hn:cs.size=n*size)(hm:n<=maxLen)(ht:o b=t):Row w o t e size (Ai (some ⟨b,0,none⟩) n n) n cs.toList:=
 ⟨⟨by simpa using hn,.inr ⟨b,n,cs,rfl,ai _,h,Qk _,hm,hn,by rw[<-hn,<-Array.length_toList,aa]⟩⟩,fun k hk=>by
  have:b=k:=by simpa [Value.ownBlock] using hk
  subst this;exact ht⟩
section
variable {w w' : Aa} {o o' : Own} {m : Cd} {M : Mc}
structure Bz (o:Own)(w:Aa)(b:Nat)(cs:Array Ac)(t:TypeId):Prop where
 j:An w b cs t
 ow:o b=(9,1)
def Bz.Ar {T:Tag->Prop}{b:Nat}{cs:Array Ac}{t:TypeId}(h:Bz o w b cs t)(k:Stp T o o' w w')(ht:¬T (9,1)):Bz o' w' b cs t:=⟨h.j.Ar k (by rw[h.ow];exact ht),(k.tags _ h.j.lt).trans h.ow⟩
def vx (o:Own)(w:Aa)(cs:Array Ac)(t:TypeId):Stp (fun _=>False) o (ext o w (9,1)) w (w.alloc (.cells cs t)):=(Stp.of_below (qc (qd w) _)).ext _ _ (Qk _)
def S9 (o:Own)(w:Aa)(cs:Array Ac)(t:TypeId):Bz (ext o w (9,1)) (w.alloc (.cells cs t)) w cs t:=⟨An.new _ _ _,qq (Qk _)⟩
def BK.low (h:BK w o m M)(k:Stp (fun _=>False) o o' w w'):BK w' o' m M:=h.Ar k (fun _ h=>h) fun _ h=>h
def QU (hid:m.y.l.id=0):¬kf m (9,1):=by unfold kf;rw[hid];simp
end
def qjz (w:Aa):Ab ANa 4 #[] w fun e w'=>e=O (.bool true)/\Ae w w w':=by
 obtain⟨W3,hW3⟩:=Ja0 (((w.alloc (.cells #[I Z 1,(),(),(),I Z 1] 44)).alloc (.cells #[Ai (some ⟨w,0,none⟩) 1 1] 45)).alloc (.cells #[Ai (some ⟨w.1.size+1,0,none⟩) 1 1] 46));have hb3:Ae w w W3:=by rw[hW3];exact qc (qc (qc (qd w) _) _) _
 have hRT:RT W3 (Ai (some ⟨w.1.size+2,0,none⟩) 1 1) ek.P:=by
  have j0:An W3 w #[I Z 1,(),(),(),I Z 1] 44:=by rw[hW3];exact ((An.new _ _ _).alloc _).alloc _
  have j1:An W3 (w.1.size+1) #[Ai (some ⟨w,0,none⟩) 1 1] 45:=by rw[hW3];exact (An.Ax _ _ _ _ _ (by simp) rfl).alloc _
  have j2:An W3 (w.1.size+2) #[Ai (some ⟨w.1.size+1,0,none⟩) 1 1] 46:=by rw[hW3];exact An.Ax _ _ _ _ _ (by simp) rfl
  refine⟨by decide,[Ai (some ⟨w.1.size+1,0,none⟩) 1 1],fun _=>(5,5),(5,5),rfl,Row.FP 1 1 j2 rfl (by decide) rfl,fun j bs hj=>?_⟩
  cases j with
  | succ j=>simp[ek.P]at hj
  | zero =>
   simp only[ek.P,aF,Zc]at hj;subst hj;refine⟨_,rfl,by decide,[Ai (some ⟨w,0,none⟩) 1 1],fun _=>(5,5),(5,5),rfl,Row.FP 1 1 j1 rfl (by decide) rfl,fun j l hj=>?_⟩
   cases j with
   | succ j=>simp at hj
   | zero =>
    simp only[aF,Zc]at hj;subst hj;exact⟨_,rfl,by decide,fun _=>(5,5),(5,5),Row.FP 1 5 j0 rfl (by decide) rfl⟩
 have HN:=Qa (show Ab ANa 7 #[I Z 60,I Z 9,I Z 9,I Z 99,Ai (some ⟨w.1.size+2,0,none⟩) 1 1] W3 fun e w'=>∃ m o',e=O (Ak #[ptr m.mb,()])/\m.y.l.id=0/\BK w' o' m (ek.M 0)/\Stp (fun _=>False) (fun _=>(7,0)) o' W3 w' from
  Um 60 9 9 99 (by omega) (by omega) (by omega) (by omega) ek.VB (fun _=>(7,0)) 0 W3 hRT fun b _=>⟨by simp,by simp⟩)
 have HE:=Qa (fun W=>JL 60 9 9 99 W)
 have iX:=Qa (fun (X:Aa)(o2:Own)(m:Cd)(hM:BK X o2 m (ek.M 0))=>show Ab ANa 9 #[ptr m.mb,()] X fun e w'=>e=O (Al #[I Z 1,(),()])/\C2 m (ek.M 1) o2 X w' from by
  have h:=uf hM (ek.ok 0) 0;rw[ek.Tt]at h;exact h)
 have gG:=Qa (fun (X:Aa)(o2:Own)(m:Cd)(hM:BK X o2 m (ek.M 1))=>show Ab ANa 9 #[ptr m.mb,()] X fun e w'=>e=O (Al #[I Z 2,(),I Z 1])/\C2 m (ek.M 2) o2 X w' from by
  have h:=uf hM (ek.ok 1) 0;rw[ek.Tu]at h;exact h)
 have HS2:=Qa (fun (X:Aa)(o2:Own)(m:Cd)(hM:BK X o2 m (ek.M 2))=>show Ab ANa 9 #[ptr m.mb,()] X fun e w'=>e=O (Al #[I Z 3,(),I Z 1])/\C2 m (ek.M 3) o2 X w' from by
  have h:=uf hM (ek.ok 2) 0;rw[ek.Tv]at h;exact h)
 obtain⟨M4,fJ⟩:=Ja0 (ek.M 4);have hk4:M4.ok:=by rw[fJ];exact ek.ok 4
 have HS3:=Qa (fun (X:Aa)(o2:Own)(m:Cd)(hM:BK X o2 m (ek.M 3))=>show Ab ANa 9 #[ptr m.mb,()] X fun e w'=>e=O (Al #[(),(),()])/\C2 m M4 o2 X w' from by
  have h:=uf hM (ek.ok 3) 0;rw[ek.GU,show ((ek.M 3).step 0).1=M4 from fJ.symm]at h;exact h)
 obtain⟨f1,f2,f3,f4,f5,f6⟩:=ek.fin;rw[<-fJ]at f1 f2 f3 f4 f5 f6;have HHi:=Qa (fun (X:Aa)(o2:Own)(m:Cd)(hM:BK X o2 m M4)=>show Ab ANa 11 #[ptr m.mb] X fun e w'=>∃ v',e=O v'/\Row w' (fo X) (1,0) 53 6 v' 3 (za [⟨0,0,0,⟨1,0,0⟩⟩,⟨0,0,0,⟨2,0,1⟩⟩,⟨0,0,1,⟨3,0,1⟩⟩])/\BK w' o2 m M4/\Stp (fun t=>t=(m.y.l.id+2,0)) o2 o2 X w' from by
  have h:=VG hM hk4.pl;have hp:M4.past=[⟨0,0,0,⟨1,0,0⟩⟩,⟨0,0,0,⟨2,0,1⟩⟩,⟨0,0,1,⟨3,0,1⟩⟩]:=by rw[fJ];exact ek.past
  rw[hp]at h;exact h)
 obtain⟨H,hH⟩:=Ja0 ((M4.C9 0).1);have gU:=Qa (fun (X:Aa)(o2:Own)(m:Cd)(hM:BK X o2 m M4)=>show Ab ANa 17 #[ptr m.mb,()] X fun e w'=>e=O (Ak #[Al #[H.b,H.n,I Z 1,H.r.a1,H.r.a2,H.r.a3,H.r.a4,H.r.a5,H.s.a0,H.s.a1,H.s.a2,H.s.a3,H.s.a4,H.s.a5,.bool H.l],true])/\Ae X X w' from by
  have h:=qj3 hM hk4 0;rw[f2,<-hH]at h;rw[<-hH]at f3;have e:H.v=Al #[H.b,H.n,I Z 1,H.r.a1,H.r.a2,H.r.a3,H.r.a4,H.r.a5,H.s.a0,H.s.a1,H.s.a2,H.s.a3,H.s.a4,H.s.a5,.bool H.l]:=by
   rw[<-f3];rfl
  rw[e]at h;exact h)
 have kE:=Qa (fun (m:Cd)(X:Aa)(o2:Own)(hM:BK X o2 m M4)=>show Ab ANa 14 #[ptr m.mb] X fun e w'=>e=O (.bool true)/\Ae X X w' from by
  have h:=TX hM hk4;rw[f1]at h;exact h)
 have gF:=Qa (fun (m:Cd)(X:Aa)(o2:Own)(hM:BK X o2 m M4)=>show Ab ANa 16 #[ptr m.mb] X fun e w'=>∃ p c,e=O (.slice p 1 c)/\Ae X X w' from by
  refine (V6 hM hk4 (by rw[fJ];exact ql9 (fJ▸hk4).inv.H.ok (fJ▸f6) ek.shut) (by rw[fJ];exact ek.Y6) (by rw[fJ];exact ek.cn.2)).mono ?_
  rintro e w' ⟨v1,oo,rfl,hN,hb,_⟩;obtain⟨es,_,hr,_⟩:=hN;obtain⟨p,c,rfl⟩:=hr.A6;have hl:(M4.S.H.LI (M4.S.places M4.roots)).length=1:=by rw[fJ];exact ek.cn.1
  rw[hl];exact⟨p,c,rfl,hb⟩)
 have lT:=Qa (fun (m:Cd)(X:Aa)(o2:Own)(hM:BK X o2 m M4)=>show Ab ANa 8 #[ptr m.mb] X fun e w'=>e=O (.bool false)/\C2 m M4.collect.1 o2 X w' from by
  have h:=fp hM hk4;rw[f4]at h;exact h)
 have qU:=Qa (fun (m:Cd)(X:Aa)(o2:Own)(hM:BK X o2 m M4.collect.1)=>show Ab ANa 13 #[ptr m.mb] X fun e w'=>e=O (I Z 1)/\X=w' from by
  obtain⟨_,jb,_⟩:=hM.A3;have h:=XM hM.st (Mc.Di hk4).inv (jb.cell 0);rw[f5]at h;exact h)
 have HB':=Qa hb3;clear hRT hb3 hk4 f1 f2 f3 f4 f5 f6 hH fJ;go_in;go_upto_region 11 with (first
  | (go_at_call 7;rw[<-hW3];clear hW3;refine HN.o.mono ?_;rintro e w1 ⟨m,o1,rfl,hid,hM0,hs1⟩;have tY:=Qa hid;have HMa:=Qa hM0;have HSx:=Qa hs1;clear hid hM0 hs1)
  | (go_at_call 7;refine (HE.o _).mono ?_;rintro e w2 ⟨rfl,hb2⟩;have HM0:=Qa (HMa.o.below hb2);have Abe:=Qa (show Stp (kf m) (fun _=>(7,0)) o1 W3 w2 from (HSx.o.trans (Stp.of_below hb2)).mono fun _ h=>h.elim);clear hb2 HMa HSx)
  | (go_at_call 9;refine (iX.o _ _ m HM0.o).mono ?_;rintro e w3 ⟨rfl,o3,oO,hs3⟩;have HA:=Qa (S9 o3 w3 #[I Z 1,(),()] 33);have HM1:=Qa (oO.low (vx o3 w3 #[I Z 1,(),()] 33));have Abf:=Qa ((Abe.o.trans hs3).trans ((vx o3 w3 #[I Z 1,(),()] 33).mono fun _ h=>h.elim));clear oO hs3 HM0 Abe)
  | (go_at_call 9;refine (gG.o _ _ m HM1.o).mono ?_;rintro e w4 ⟨rfl,o4,oO,hs4⟩;have HA:=Qa ((HA.o.Ar hs4 (QU tY.o)).Ar (vx o4 w4 #[I Z 2,(),I Z 1] 33) id);have HB:=Qa (S9 o4 w4 #[I Z 2,(),I Z 1] 33);have eQ:=Qa (oO.low (vx o4 w4 #[I Z 2,(),I Z 1] 33));have Abg:=Qa ((Abf.o.trans hs4).trans ((vx o4 w4 #[I Z 2,(),I Z 1] 33).mono fun _ h=>h.elim));clear oO hs4 HM1 Abf)
  | (go_at_call 9;refine (HS2.o _ _ m eQ.o).mono ?_;rintro e w5 ⟨rfl,o5,oO,hs5⟩;have HA:=Qa ((HA.o.Ar hs5 (QU tY.o)).Ar (vx o5 w5 #[I Z 3,(),I Z 1] 33) id);have HB:=Qa ((HB.o.Ar hs5 (QU tY.o)).Ar (vx o5 w5 #[I Z 3,(),I Z 1] 33) id);have HC:=Qa (S9 o5 w5 #[I Z 3,(),I Z 1] 33);have HM3:=Qa (oO.low (vx o5 w5 #[I Z 3,(),I Z 1] 33));have Abh:=Qa ((Abg.o.trans hs5).trans ((vx o5 w5 #[I Z 3,(),I Z 1] 33).mono fun _ h=>h.elim));clear oO hs5 eQ Abg)
  | (go_at_call 9;refine (HS3.o _ _ m HM3.o).mono ?_;rintro e w6 ⟨rfl,o6,oO,hs6⟩;have HA:=Qa ((HA.o.Ar hs6 (QU tY.o)).Ar (vx o6 w6 #[(),(),()] 33) id);have HB:=Qa ((HB.o.Ar hs6 (QU tY.o)).Ar (vx o6 w6 #[(),(),()] 33) id);have HC:=Qa ((HC.o.Ar hs6 (QU tY.o)).Ar (vx o6 w6 #[(),(),()] 33) id);have HD:=Qa (S9 o6 w6 #[(),(),()] 33);have vQ:=Qa (oO.low (vx o6 w6 #[(),(),()] 33));have qZ:=Qa ((Abh.o.trans hs6).trans ((vx o6 w6 #[(),(),()] 33).mono fun _ h=>h.elim));clear oO hs6 HM3 Abh)
  | (go_at_call 11;refine (HHi.o _ _ m (vQ.o.retag (o':=ext (ext o6 w6 (9,1)) (w6.1.size+1) (9,2)) fun b hb=>qk (by simpa using hb))).mono ?_;rintro e w7 ⟨vh,rfl,mW,hMh,hs7⟩;obtain⟨ph,ch,rfl⟩:=mW.A6;have HM5:=Qa hMh;have HRh:=Qa mW;have nN:=Qa hs7;clear mW hMh hs7)
  | (go_at_call 17;refine (gU.o _ _ m HM5.o).mono ?_;rintro e w8 ⟨rfl,eB⟩;have HB8:=Qa eB;clear eB)
  | fail)
 have hX:(w6.alloc (.cells #[(),(),()] 33)).1.size=w6.1.size+1:=by simp
 obtain⟨X,hXe⟩:=Ja0 (w6.alloc (.cells #[(),(),()] 33));rw[<-hXe]at HA HB HC HD qZ nN HRh hX;obtain⟨oX,hoX⟩:∃ oX,oX=ext o6 w6 (9,1):=⟨_,rfl⟩;rw[<-hoX]at HA HB HC HD qZ nN HM5;obtain⟨o7,ho7⟩:∃ o7,o7=ext oX (w6.1.size+1) (9,2):=⟨_,rfl⟩;rw[<-ho7]at nN HM5;have e7:∀ b,b<X.1.size->o7 b=oX b:=fun b hb=>by rw[ho7];exact qk (by omega)
 obtain⟨W9,zG⟩:=Ja0 (w8.alloc (.cells #[H.b,H.n,I Z 1,H.r.a1,H.r.a2,H.r.a3,H.r.a4,H.r.a5,H.s.a0,H.s.a1,H.s.a2,H.s.a3,H.s.a4,H.s.a5,.bool H.l] 49));rw[<-zG];have fC:Ae w7 w7 W9:=by rw[zG];exact qc HB8.o _
 have hT:An W9 w8 #[H.b,H.n,I Z 1,H.r.a1,H.r.a2,H.r.a3,H.r.a4,H.r.a5,H.s.a0,H.s.a1,H.s.a2,H.s.a3,H.s.a4,H.s.a5,.bool H.l] 49:=by rw[zG];exact An.new _ _ _
 have box:∀ {b:Nat}{cs:Array Ac}{t:TypeId},Bz oX X b cs t->An W9 b cs t:=fun h=>by
  have k:=h.j.Ar nN.o (by rw[e7 _ h.j.lt,h.ow,tY.o];simp)
  exact k.below fC k.lt
 have iH:Stp (kf m) (fun _=>(7,0)) o7 W3 W9:=by
  have s1:Stp (kf m) (fun _=>(7,0)) o7 W3 X:=by
   rw[ho7];exact qZ.o.ext (9,2) _ (by have:=qZ.o.size;omega)
  exact (s1.trans (nN.o.mono (by rintro _ rfl;exact .inr rfl))).trans (Stp.of_below fC)
 have qF:BK W9 o7 m M4:=HM5.o.below fC;rcases (HRh.o.below fC).Dc with ⟨_,e⟩|⟨g,cap,e,hc⟩
 ·simp[za]at e
 ·injection e with e1 _ e3
  subst e1 e3;have hcs:∀ (j:Nat)(u:Ac),(za [⟨0,0,0,⟨1,0,0⟩⟩,⟨0,0,0,⟨2,0,1⟩⟩,⟨0,0,1,⟨3,0,1⟩⟩])[j]?=some u->W9.cell? ⟨g,j,none⟩=some u:=fun j u hu=>by
   have:=(HRh.o.below fC).own.cells (g:=g) rfl j u hu;rwa [addr_add]at this
  have yN:=Qa iH;refine PV _ m M4 M4.collect.1 o7 W9 _ _ _ _ _ g ch _ _ _ _ _ _ _ _ _ _ _ _ _ _ _ _ _ _ _ _ _ _ _ _ _ _ _ _ _ _ _ _ _ _ _ _ _ _ _ _ _ _ _ _ _ _ _ _ _ _ _ _ _ _ _ _ _ _ _ _ _ _ _ _ _ _ _ _ _ _ _ _ _ _ _ _ _ _ _ _ _ _ _ _ _ _ _ _ _ _ _ _ _ _ _ _ _ _ _ _ _ qF (kE.o m) (gF.o m) (lT.o m) (qU.o m) (box HA.o) (box HB.o) (box HC.o) (box HD.o) (hT.cell 2) hT.lt (HRh.o.below fC).blt hc (hcs 6 _ rfl) (hcs 7 _ rfl) (hcs 8 _ rfl) (hcs 9 _ rfl) (hcs 10 _ rfl) (hcs 11 _ rfl) ?_;rintro X9 o9 z49 z50 z51 z52 z53 z54 z55 z56 z57 z58 z59 z60 z61 z62 z63 z64 z65 z66 z67 z68 z69 z70 z71 z72 z73 z74 z75 z76 z77 z78 z79 z80 z81 z82 z83 z84 z85 z86 z87 z88 z89 z90 z91 z92 z93 z94 z95 z96 z97 z98 z99 z100 z101 z102 z103 z104 z105 z106 z107 z108 Azr Amf;have hfin:=(yN.o.trans Amf).below fun b _=>by show ¬kf m (7,0);unfold kf;rw[tY.o];simp
  go_wp2_with fail;go_ret;exact⟨rfl,qe HB'.o hfin⟩
end
section
open Hp
def Gc.cl {H:Hp}{L:List Nat}{A:Ag}(h:Gc H L A):H.cl:=fun p x hp q hq=>by
 unfold Hp.obj CP at hp;split at hp
 ·rename_i b hb;injection hp with hp;subst hp;exact h.B3.cp p _ hb q hq
 ·split at hp
  ·rename_i b hb;injection hp with hp;subst hp
   exact (h.B3.op p _ hb q hq).elim .inl fun k=>.inr (.inr k)
  ·cases hp
def Rs {H:Hp}{l:List Nat}(h:∀ p ∈ l,H.C p):E9 (lk H.cur) l:=fun p hp=>by
 rcases h p hp with k|k
 ·exact .inl k
 ·refine .inr ?_
  cases e:lk H.cur p with
  | none=>exact absurd e k
  | some x=>rfl
section
variable {M : Mc} {l : List Nat} {A : As} {hA : List AE} {m k : Nat}
def FG (M:Mc)(m k:Nat):Prop:=∃ l A hA,CY M l A hA m/\A.Bc<=k
def Gr.tst (A:As)(i:Nat)(ls:List (List AD))(h:AE)(mm lo:Bool):Gr (fun _=>True) 1 A (A.Bd i ls h mm lo).A:=
 Gr.Bd A i (fun _ _ _ _=>⟨fun _=>trivial,fun _=>trivial,fun _=>trivial⟩) h mm lo
def FG.step (h:FG M m k)(t:Int):FG (M.step t).1 m (k+1):=by
 obtain⟨l,A,hA,hs,hk⟩:=h;unfold Mc.step;split
 ·exact⟨l,A,hA,hs,by omega⟩
 ·rename_i hc
  have ht:t.toNat<M.hs.length:=by omega
  exact⟨l,_,_,(hs.step ht).1,by have:=(Gr.tst A t.toNat (M.ps.getD t.toNat []) (hA.getD t.toNat Dt) (M.mm t.toNat) (M.lo l t.toNat)).s2;show (A.Bd _ _ _ _ _).A.Bc<=_;omega⟩
def WL:∀ (cs:List Nat)(A:As),(A.comes cs).Bc=A.Bc
 | [],_=>rfl
 | _::cs,A=>WL cs (A.LJ _)
def FG.collect (h:FG M m k):FG M.collect.1 m (k+1):=by
 obtain⟨l,A,hA,hs,hk⟩:=h;obtain⟨ls,cs,hc⟩:=hs.collect;exact⟨_,_,_,hc.Cz,by rw[WL];omega⟩
def Mc.FV (np:Nat)(M:Mc)(z:Int):Mc:=if np<=pk z (np+2) then M.collect.1 else (M.step (pk z (np+2))).1
def Mc.Ei (np:Nat)(M:Mc)(st:List Int):Mc:=st.foldl (Mc.FV np) M
def qps {np:Nat}{st:List Int}{j:Nat}{z:Int}(hz:st[j]?=some z):M.Ei np (st.take (j+1))=(M.Ei np (st.take j)).FV np z:=by
 unfold Mc.Ei;rw[aj,hz,List.foldl_append];rfl
def FG.Ei (h:FG M m 0)(np:Nat)(st:List Int):FG (M.Ei np st) m st.length:=by
 have key:∀ (st:List Int)(M:Mc)(k:Nat),FG M m k->FG (M.Ei np st) m (k+st.length):=by
  intro st;induction st with
  | nil=>exact fun _ _ h=>h
  | cons z st ih =>
   intro M k h;have h1:FG (M.FV np z) m (k+1):=by unfold Mc.FV;split;exact h.collect;exact h.step _
   have:=ih (M.FV np z) (k+1) h1;rw[Qv,show k+(st.length+1)=k+1+st.length from by omega];exact this
 have:=key st M 0 h;rwa [Nat.zero_add]at this
def Da.DU {G:Gf}(hG:∀ p,E9 G (fj G p)):∀ (n i:Nat){P:List Nat},Da G P->Da G (DU G n i P)
 | 0,_,_,h=>h
 | n+1,i,P,h=>by
  unfold Go.Proofs.YtgndecmkhhdkjaaGreat.DU;split
  ·exact Da.DU hG n (i+1) (h.Cn _ (hG _))
  ·exact h
def Sf {H:Hp}(hk:H.ok){p:Nat}{x:Ob}(h:H.vw p=some x):x.AB.length<=8/\x.nums.length<=8:=by
 unfold Hp.vw at h;obtain⟨y,hy,rfl⟩:=aM.1 h;have h1:=(ki hk (kj hy)).1;have h2:=h1.AL;refine⟨by show (y.AB.map _).length<=8;rw[Qg,h1.lp];exact h2.1,by show y.nums.length<=8;rw[h1.ln];exact h2.2.1⟩
def N3 {H:Hp}(hk:H.wf)(hc:H.cl){roots:List Nat}(hr:E9 (lk H.cur) roots):(H.LI roots).length<=1000000/\∀ x ∈ H.LI roots,x.AB.length<=1000000/\x.nums.length<=1000000:=by
 have hg:=NJ hk hc;have h0:Da H.vw []:=⟨List.nodup_nil,fun p hp=>by cases hp⟩
 have hI:Da H.vw (H.PW roots):=Da.DU hg.AU _ _ (h0.Cn _ fun p hp=>(hr p hp).imp id U6)
 refine⟨?_,fun x hx=>?_⟩
 ·show (List.map _ _).length<=_
  rw[Qg];have:=hI.le hg.keys;have:=hg.num;omega
 ·obtain⟨p,hp,rfl⟩:=Qt.1 hx
  cases e:H.vw p with
  | none=>simp[Nd.none]
  | some y =>
   have:=Sf hk.ok e;simp only[Nd.of,Qg];omega
def FG.canon (h:FG M m k)(hk:k<=1000):M.S.H.cl/\E9 (lk M.S.H.cur) (M.S.places M.roots)/\(M.S.places M.roots).length<=1000000:=by
 obtain⟨l,A,hA,hs,hn⟩:=h;refine⟨hs.Cz.gc.cl,Rs fun p hp=>?_,?_⟩
 ·exact ((ks M.S M.roots p).1 hp).elim (hs.Cz.ex p) (hs.Cz.pl p)
 ·have h1:=lj hs.ok.inv M.roots
  have h2:M.roots.length=M.hs.length*12:=cf _;have h3:=hs.ok.len;have h4:=hs.ok.n8;have h5:=hs.ok.inv.nx;have h6:=hs.Cz.Bc;omega
