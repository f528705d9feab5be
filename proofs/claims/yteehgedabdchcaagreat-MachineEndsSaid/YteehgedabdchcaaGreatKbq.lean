import Derived.Test.YteehgedabdchcaaGreatKbg
import Derived.Test.YteehgedabdchcaaGreatKbj
import Derived.Test.YteehgedabdchcaaGreatKbn
import Derived.Test.YteehgedabdchcaaGreatKbo
import Derived.Test.YteehgedabdchcaaGreatKbr
set_option linter.all false
set_option maxRecDepth 1000000
set_option maxHeartbeats 16000000
open Go renaming World->Aa,Calls->Ab,Value->Ac
open Go.RowKit renaming Below->Ae
open Go.Value renaming int->I,pointer->Ag,slice->Ah,tuple->Aj,agg->Ak
open Go.IntKind renaming i64->Z
open Go.Ending renaming returned->O
namespace Go.Proofs.YteehgedabdchcaaGreat
section
open Go.RowKit Hp
attribute [local go_sem ↓] Go.wp_at_zero Go.wp_at_succ
theorem Ni {S:Al}(hk:S.ok):S.G6.length<=1099511627776:=by
 unfold Al.G6 yu;split
 ·simp
 ·split
  ·simp
  ·split
   ·simp
   ·simp only[List.nil_append];exact Rm hk
section
variable {w w' : Aa} {o o' : Own} {m : BZ} {M : Mc}
theorem xo {l:List Nat}{k x:Nat}(h:l[k]?=some x):l.take (k+1)=l.take k++[x]:=by
 rw[List.take_add_one,h];rfl
theorem sm (h:Bp w o m M)(hk:M.ok) :
  Ab Tryz.prog 31 #[ptr m.mb] w fun e w'=>e=O (.bool M.collect.2)/\Cx m M.collect.1 o w w':=by
 have hn8:M.hs.length<=8:=by rw[hk.len];exact hk.n8
 have hn1:1<=M.hs.length:=by rw[hk.len,<-hk.Aw];exact hk.inv.t1
 have hrl:M.roots.length=M.hs.length*12:=sa _;have HFull:=Qa (UW h);obtain⟨ve,jb,hrp⟩:=h.AU;have HC:=Qa (fun (W:Aa)(oo:Own)(N:Mc)(hM:Bp W oo m N)=>show W.cell? ⟨m.mb,0,none⟩=some (ptr m.y.sb) from by obtain⟨_,j,_⟩:=hM.AU;exact j.cell 0)
 have HRoots:=Qa (fun (W:Aa)(hM:Bp W o m M)=>T6 hM hk)
 have HCol:=Qa (fun (W w3:Aa)(v3:Ac)(hM:Bp W o m M)(hb:Ae W.heap.size W w3)(hr:Row w3 (fo W.heap.size) (1,0) 3 1 v3 M.roots.length (M.roots.map nv)) =>
  show Ab Tryz.prog 18 #[ptr m.y.sb,v3] w3 fun e w4=>∃ v' o4,e=O (Aj #[v',.bool (M.S.AG M.roots).2.2])/\Bp w4 o4 m { M with S:=(M.S.AG M.roots).1 }/\Row w4 o4 (m.y.l.id+1,0) 3 1 v' (M.S.AG M.roots).2.1.length ((M.S.AG M.roots).2.1.map nv)/\Stp (qh m.y) o o4 W w4 from by
   have s3:Stp (fun _=>False) o (ext o W.heap.size (m.y.l.id+1,0)) W w3:=(Stp.of_below hb).ext _ _ (Qk _)
   have hM3:Bp w3 (ext o W.heap.size (m.y.l.id+1,0)) m M:=hM.Ao s3 (fun _ h=>h) fun _ h=>h
   refine (qfw hM3.st hk.inv (hr.out o (m.y.l.id+1,0)) (by omega) (by omega)).mono ?_
   rintro e w4 ⟨v',o4,rfl,hS,hR,hs⟩
   exact⟨v',o4,rfl,hM3.store hS hs,hR,(s3.mono fun _ h=>h.elim).trans hs⟩)
 have HRep:=Qa (fun (w4:Aa)(o4:Own)(v':Ac)(hM:Bp w4 o4 m { M with S:=(M.S.AG M.roots).1 })(hr:Row w4 o4 (m.y.l.id+1,0) 3 1 v' (M.S.AG M.roots).2.1.length ((M.S.AG M.roots).2.1.map nv))(ht:(M.S.AG M.roots).2.2=true) =>
  show Ab Tryz.prog 89 #[ptr m.mb,v'] w4 fun e w5=>e=O (Aj #[])/\Bp w5 o4 m M.Cu/\Stp (fun t=>t=(m.y.l.id+2,2)) o4 o4 w4 w5 from by
   have hl:(M.S.AG M.roots).2.1.length=M.roots.length:=by
    unfold Al.AG at ht ⊢;split
    ·simp
    ·rename_i h;rw[if_neg h]at ht;cases ht
   rcases hr.shape with ⟨_,h0⟩|⟨g,cap,rfl,hc,_⟩
   ·exfalso;omega
   ·exact qgw hM hn8 hr.VS (by rw[hr.El]) hl)
 have HStep:=Qa (fun (w4:Aa)(o4:Own)(hM:Bp w4 o4 m { M with S:=(M.S.AG M.roots).1 })(ht:(M.S.AG M.roots).2.2=false) =>
  show Ab Tryz.prog 19 #[ptr m.y.sb] w4 fun e w5=>∃ o5,e=O (.bool M.S.Bg.2)/\Bp w5 o5 m M.Jb/\Stp (qh m.y) o4 o5 w4 w5 from by
   have e:(M.S.AG M.roots).1=M.S:=by
    unfold Al.AG at ht ⊢;split
    ·rename_i h;rw[if_pos h]at ht;cases ht
    ·rfl
   rw[e]at hM;refine (qmi hM.st hk.inv (by rw[hk.lo];simp)).mono ?_
   rintro e w5 ⟨rfl,o5,hS,hs⟩
   exact⟨o5,rfl,hM.store hS hs,hs⟩)
 have HNote:=Qa (fun (W:Aa)(oo:Own)(N:Mc)(hM:Bp W oo m N)(k n:Int)=>show Ab Tryz.prog 91 #[Ag (some ⟨m.mb,3,none⟩),Ak #[I Z (-1),I Z 0,I Z 0,I Z k,I Z 0,I Z n]] W fun e w'=>e=O (Aj #[])/\∃ o',Bp w' o' m { N with past:=kh N.past ⟨-1,0,0,⟨k,0,n⟩⟩ }/\Stp (y7 m) oo o' W w' from SY hM ⟨-1,0,0,⟨k,0,n⟩⟩)
 have HCame:=Qa (fun (W:Aa)(oo:Own)(N:Mc)(hM:Bp W oo m N)=>show Ab Tryz.prog 90 #[ptr m.y.sb] W fun e w'=>∃ v,e=O v/\Row w' oo (m.y.l.id,15) 3 1 v N.S.came.length (N.S.came.map nv)/\Bp w' oo m { N with S:={ N.S with came:=[] } }/\Stp (qh m.y) oo oo W w' from by
  refine (Wg hM.st).mono ?_
  rintro e w' ⟨v,rfl,hr,hS,hs⟩
  have hs':Stp (qh m.y) oo oo W w':=hs.mono (by rintro _ rfl;rfl)
  exact⟨v,rfl,hr,hM.store hS hs',hs'⟩)
 have HLost:=Qa (fun (W:Aa)(oo:Own)(N:Mc)(hM:Bp W oo m N)=>show Ab Tryz.prog 92 #[ptr m.y.sb] W fun e w'=>∃ v,e=O v/\Row w' oo (m.y.l.id,14) 3 1 v N.S.lost.length (N.S.lost.map nv)/\Bp w' oo m { N with S:={ N.S with lost:=[] } }/\Stp (qh m.y) oo oo W w' from by
  refine (WZ hM.st).mono ?_
  rintro e w' ⟨v,rfl,hr,hS,hs⟩
  have hs':Stp (qh m.y) oo oo W w':=hs.mono (by rintro _ rfl;rfl)
  exact⟨v,rfl,hr,hM.store hS hs',hs'⟩)
 have cb:=jb.cell;obtain⟨RC,hRC⟩:∃ RC,RC=M.collect:=⟨_,rfl⟩;rw[<-hRC];have HRC:=Qa hRC;have HM:=Qa h;have HK:=Qa hk;clear hRC h hk hrp hn8 hn1 hrl jb;by_cases hf:2000<=M.past.length
 ·have e1:RC=(M,false):=by rw[HRC.out];unfold Mc.collect;rw[if_pos hf]
  rw[decide_eq_true hf]at HFull;have HE:=Qa e1;clear e1 hf;go_enter Tryz.func31,Tryz.ntmps31;go_wp2_with (first|(go_at_call 87;refine HFull.out.mono ?_;rintro e w2 ⟨rfl,hM2,hk2,hz2,hs2⟩)|fail)
  go_ret;rw[HE.out];exact⟨rfl,o,hM2,hs2.mono (by rintro _ rfl;exact .inr rfl)⟩
 ·rw[decide_eq_false hf]at HFull
  have hf2:M.past.length<2000:=by omega
  have HF2:=Qa hf2;clear hf hf2;go_enter Tryz.func31,Tryz.ntmps31;go_upto_region 4 with (first|(go_at_call 87;refine HFull.out.mono ?_;rintro e w2 ⟨rfl,hM2,hk2,hz2,hs2⟩)|fail)
  have c2:w2.cell? ⟨m.mb,0,none⟩=some (ptr m.y.sb):=HC.out w2 o M hM2;have HRo2:=Qa (HRoots.out w2.drew (hM2.below (qe (qc w2))));have HM2:=Qa (hM2.below (qe (qc w2)));have HS2:=Qa (show Stp (kv m) o o w w2 from hs2.mono (by rintro _ rfl;exact .inr rfl))
  have l2:m.mb<w2.heap.size:=hM2.lt;clear hM2 hk2 hz2 hs2 cb;go_region_held3 (fun w'=>w'.cell? ⟨m.mb,0,none⟩=some (ptr m.y.sb)) (first|with_reducible assumption|go_keep) (first
   | (go_at_call 88;refine HRo2.out.mono ?_;rintro e w3 ⟨v3,rfl,hr3,hb3⟩;have cb3:w3.cell? ⟨m.mb,0,none⟩=some (ptr m.y.sb):=(hb3.cell (p:=⟨m.mb,0,none⟩) l2).trans c2)
   | (go_at_call 18;refine (HCol.out w2.drew w3 v3 HM2.out hb3 hr3).mono ?_;rintro e w4 ⟨v4,o4,rfl,hM4,hr4,hs4⟩;have cb4:w4.cell? ⟨m.mb,0,none⟩=some (ptr m.y.sb):=HC.out w4 o4 _ hM4)
   | fail)
  have HM4:=Qa hM4;have HR4:=Qa hr4;have HS4:=Qa (show Stp (kv m) o o4 w w4 from (HS2.out.trans (Stp.of_below (qe (qc w2)))).trans (hs4.mono fun _ h=>m9 h))
  clear hM4 hr4 hs4 cb3 c2 l2 HRo2 HM2 HS2
  cases hbt:(M.S.AG M.roots).2.2 with
  | true =>
   have HRep4:=Qa (HRep.out w4 o4 v4 HM4.out HR4.out hbt);obtain⟨N,hN⟩:∃ N,N=M.Cu:=⟨_,rfl⟩;have HRN:=Qa (show RC=(N.told,false) from by rw[HRC.out,hN];exact gj HF2.out hbt)
   have hNb:N.S.came.length<=1099511627776/\N.S.lost.length<=1099511627776:=by
    have hok:=(Mc.EE HK.out hbt).1;rw[<-hN]at hok;refine⟨Qo hok.cm hok.Kk,?_⟩;have e:N.S.lost=M.S.lost:=by rw[hN,(Sm hbt).2.1];rfl
    rw[e,HK.out.lo];simp
   rw[<-hN]at HRep4;clear hN;go_upto_region 8 with (first|(go_at_call 89;refine HRep4.out.mono ?_;rintro e w5 ⟨rfl,hM5,hs5⟩)|fail)
   obtain⟨o5,ho5⟩:∃ o5,o5=o4:=⟨_,rfl⟩;have sw5:Stp (kv m) o o4 w w5:=HS4.out.trans (hs5.mono (by rintro _ rfl;exact .inr rfl))
   rw[<-ho5]at hM5 sw5;clear hs5 ho5 cb4 hbt HRep4;obtain⟨n,hn⟩:∃ n,n=N.S.came.length:=⟨_,rfl⟩;obtain⟨n2,hn2⟩:∃ n2,n2=N.S.lost.length:=⟨_,rfl⟩;have HNn:=Qa hn;have HNn2:=Qa hn2;have HBn:=Qa (show n<=1099511627776/\n2<=1099511627776 from by rw[hn,hn2];exact hNb)
   have HC5:=Qa (HCame.out w5 o5 N hM5);have cb5:w5.cell? ⟨m.mb,0,none⟩=some (ptr m.y.sb):=HC.out w5 o5 N hM5;have HS5:=Qa sw5;clear hn hn2 hNb hM5 sw5;go_wp2_with (first|(go_at_call 90;refine HC5.out.mono ?_;rintro e w6 ⟨v6,rfl,hr6,hM6,hs6⟩;rw[<-HNn.out]at hr6;obtain⟨pv,cv,rfl⟩:=hr6.AY)|fail)
   have HI6:=Qa (And.intro hM6 (And.intro hr6 (HS5.out.trans (hs6.mono fun _ h=>m9 h))))
   clear hM6 hr6 hs6 cb5 HC5;go_loopw [39] (fun ix wr=>∃ (k:Nat)(oo:Own),ix=I Z k/\k<=n/\Bp wr oo m (⟨{ N.S with came:=[] },N.ps,N.hs,ze N.past 5 (N.S.came.take k)⟩:Mc)/\Row wr oo (m.y.l.id,15) 3 1 (.slice pv n cv) n (N.S.came.map nv)/\Stp (kv m) o oo w wr) (fun ix _=>n-(intOf ix).toNat)
   case atStart=>exact⟨0,o5,rfl,Nat.zero_le _,HI6.out⟩
   case round =>
    clear HI6;obtain⟨k,oo,rfl,hkn,hM,hr,hs⟩:=hrel;by_cases hlt:k<n
    ·have hkI:(k:Int)<(n:Int):=by omega
     obtain⟨hw1,hw2⟩:=_root_.Go.Proofs.YteehgedabdchcaaGreat.u5 k n hlt HBn.out.1;obtain⟨x,hx⟩:∃ x,N.S.came[k]?=some x:=⟨_,Qb (by rw[<-HNn.out];exact hlt)⟩
     obtain⟨g,e,hcell,hcap⟩:∃ g,pv=some ⟨g,0,none⟩/\wr.cell? ⟨g,k,none⟩=some (I Z x)/\n<=cv:=by
      rcases hr.form with ⟨_,h0⟩|⟨g,cap,e,hcap,_⟩
      ·omega
      ·injection e with e1 _ e3
       subst e1 e3;exact⟨g,rfl,hr.cells k _ (by rw[Qj,hx];rfl),hcap⟩
     subst e;have hcI:(n:Int)<=(cv:Int):=by omega
     have HNo:=Qa (HNote.out wr oo _ hM 5 x);have HTk:=Qa (show ze N.past 5 (N.S.came.take (k+1))=kh (ze N.past 5 (N.S.came.take k)) ⟨-1,0,0,⟨5,0,x⟩⟩ from by rw[xo hx];exact ud _ _ _ _)
     have HR:=Qa (And.intro hr hs);have HLt:=Qa hlt;clear hM hr hs hx hcap;go_wp2_with (first|(go_at_call 91;refine HNo.out.mono ?_;rintro e w7 ⟨rfl,o7,hM7,hs7⟩)|fail)
     go_roundw
     case rel=>exact⟨k+1,o7,by simp,hlt,by rw[HTk.out];exact hM7,HR.out.1.Ao hs7 (by intro e;rcases e with e|e<;>simp at e),HR.out.2.trans (hs7.mono (by rintro _ (rfl|rfl)<;>exact .inr rfl))⟩
     case measure=>clear hw1 hw2;simp[intOf];omega
    ·obtain rfl:k=n:=by omega
     rw[HNn.out,List.take_length]at hM;have cb7:wr.cell? ⟨m.mb,0,none⟩=some (ptr m.y.sb):=HC.out wr oo _ hM;have HL7:=Qa (HLost.out wr oo _ hM);have HS7:=Qa hs;clear hM hr hs hlt hkn;go_wp2_with (first|(go_at_call 92;refine HL7.out.mono ?_;rintro e w8 ⟨v8,rfl,hr8,hM8,hs8⟩;rw[show (⟨{ N.S with came:=[] },N.ps,N.hs,ze N.past 5 N.S.came⟩:Mc).S.lost=N.S.lost from rfl,<-HNn2.out]at hr8;obtain⟨pv2,cv2,rfl⟩:=hr8.AY)|fail)
     have HI8:=Qa (And.intro hM8 (And.intro hr8 (HS7.out.trans (hs8.mono fun _ h=>m9 h))))
     clear hM8 hr8 hs8 cb7 HL7;go_loopw [57] (fun ix wr=>∃ (k:Nat)(oo:Own),ix=I Z k/\k<=n2/\Bp wr oo m (⟨{ N.S with came:=[],lost:=[] },N.ps,N.hs,ze (ze N.past 5 N.S.came) 4 (N.S.lost.take k)⟩:Mc)/\Row wr oo (m.y.l.id,14) 3 1 (.slice pv2 n2 cv2) n2 (N.S.lost.map nv)/\Stp (kv m) o oo w wr) (fun ix _=>n2-(intOf ix).toNat)
     case atStart=>exact⟨0,oo,rfl,Nat.zero_le _,HI8.out⟩
     case round =>
      clear HI8;obtain⟨q,o9,rfl,hqn,hM,hr,hs⟩:=hrel;by_cases hlt:q<n2
      ·have hkI:(q:Int)<(n2:Int):=by omega
       obtain⟨hw1,hw2⟩:=_root_.Go.Proofs.YteehgedabdchcaaGreat.u5 q n2 hlt HBn.out.2;obtain⟨x,hx⟩:∃ x,N.S.lost[q]?=some x:=⟨_,Qb (by rw[<-HNn2.out];exact hlt)⟩
       obtain⟨g,e,hcell,hcap⟩:∃ g,pv2=some ⟨g,0,none⟩/\wr.cell? ⟨g,q,none⟩=some (I Z x)/\n2<=cv2:=by
        rcases hr.form with ⟨_,h0⟩|⟨g,cap,e,hcap,_⟩
        ·omega
        ·injection e with e1 _ e3
         subst e1 e3;exact⟨g,rfl,hr.cells q _ (by rw[Qj,hx];rfl),hcap⟩
       subst e;have hcI:(n2:Int)<=(cv2:Int):=by omega
       have HNo:=Qa (HNote.out wr o9 _ hM 4 x);have HTk:=Qa (show ze (ze N.past 5 N.S.came) 4 (N.S.lost.take (q+1))=kh (ze (ze N.past 5 N.S.came) 4 (N.S.lost.take q)) ⟨-1,0,0,⟨4,0,x⟩⟩ from by rw[xo hx];exact ud _ _ _ _)
       have HR:=Qa (And.intro hr hs);clear hM hr hs hx hcap;go_wp2_with (first|(go_at_call 91;refine HNo.out.mono ?_;rintro e w9 ⟨rfl,o10,hM9,hs9⟩)|fail)
       go_roundw
       case rel=>exact⟨q+1,o10,by simp,hlt,by rw[HTk.out];exact hM9,HR.out.1.Ao hs9 (by intro e;rcases e with e|e<;>simp at e),HR.out.2.trans (hs9.mono (by rintro _ (rfl|rfl)<;>exact .inr rfl))⟩
       case measure=>clear hw1 hw2;simp[intOf];omega
      ·obtain rfl:q=n2:=by omega
       rw[HNn2.out,List.take_length]at hM;have HFin:=Qa (show Cx m N.told o w wr from ⟨o9,hM,hs⟩);clear hM hr hs;go_wp2_with fail;go_ret;rw[HRN.out];exact⟨rfl,HFin.out⟩
  | false =>
   have HSt4:=Qa (HStep.out w4 o4 HM4.out hbt);obtain⟨N,hN⟩:∃ N,N=M.Jb:=⟨_,rfl⟩;obtain⟨bE,hbE⟩:∃ bE,bE=M.S.Bg.2:=⟨_,rfl⟩;have HRN:=Qa (show RC=(N.told,bE) from by rw[HRC.out,hN,hbE];exact g9 HF2.out hbt)
   have hNb:N.S.came.length<=1099511627776/\N.S.lost.length<=1099511627776:=by
    have hok:N.S.ok:=by rw[hN];exact ld HK.out.inv
    refine⟨Qo hok.cm hok.Kk,?_⟩;have e:N.S.lost=M.S.lost++M.S.G6:=by rw[hN];show M.S.Bg.1.lost=_;rw[Q0]
    rw[e,HK.out.lo,List.nil_append];exact Ni HK.out.inv
   rw[<-hN,<-hbE]at HSt4;clear hN hbE;go_upto_region 8 with (first|(go_at_call 19;refine HSt4.out.mono ?_;rintro e w5 ⟨o5,rfl,hM5,hs5⟩)|fail)
   have sw5:Stp (kv m) o o5 w w5:=HS4.out.trans (hs5.mono fun _ h=>m9 h)
   clear hs5 cb4 hbt HSt4;obtain⟨n,hn⟩:∃ n,n=N.S.came.length:=⟨_,rfl⟩;obtain⟨n2,hn2⟩:∃ n2,n2=N.S.lost.length:=⟨_,rfl⟩;have HNn:=Qa hn;have HNn2:=Qa hn2;have HBn:=Qa (show n<=1099511627776/\n2<=1099511627776 from by rw[hn,hn2];exact hNb)
   have HC5:=Qa (HCame.out w5 o5 N hM5);have cb5:w5.cell? ⟨m.mb,0,none⟩=some (ptr m.y.sb):=HC.out w5 o5 N hM5;have HS5:=Qa sw5;clear hn hn2 hNb hM5 sw5;go_wp2_with (first|(go_at_call 90;refine HC5.out.mono ?_;rintro e w6 ⟨v6,rfl,hr6,hM6,hs6⟩;rw[<-HNn.out]at hr6;obtain⟨pv,cv,rfl⟩:=hr6.AY)|fail)
   have HI6:=Qa (And.intro hM6 (And.intro hr6 (HS5.out.trans (hs6.mono fun _ h=>m9 h))))
   clear hM6 hr6 hs6 cb5 HC5;go_loopw [39] (fun ix wr=>∃ (k:Nat)(oo:Own),ix=I Z k/\k<=n/\Bp wr oo m (⟨{ N.S with came:=[] },N.ps,N.hs,ze N.past 5 (N.S.came.take k)⟩:Mc)/\Row wr oo (m.y.l.id,15) 3 1 (.slice pv n cv) n (N.S.came.map nv)/\Stp (kv m) o oo w wr) (fun ix _=>n-(intOf ix).toNat)
   case atStart=>exact⟨0,o5,rfl,Nat.zero_le _,HI6.out⟩
   case round =>
    clear HI6;obtain⟨k,oo,rfl,hkn,hM,hr,hs⟩:=hrel;by_cases hlt:k<n
    ·have hkI:(k:Int)<(n:Int):=by omega
     obtain⟨hw1,hw2⟩:=_root_.Go.Proofs.YteehgedabdchcaaGreat.u5 k n hlt HBn.out.1;obtain⟨x,hx⟩:∃ x,N.S.came[k]?=some x:=⟨_,Qb (by rw[<-HNn.out];exact hlt)⟩
     obtain⟨g,e,hcell,hcap⟩:∃ g,pv=some ⟨g,0,none⟩/\wr.cell? ⟨g,k,none⟩=some (I Z x)/\n<=cv:=by
      rcases hr.form with ⟨_,h0⟩|⟨g,cap,e,hcap,_⟩
      ·omega
      ·injection e with e1 _ e3
       subst e1 e3;exact⟨g,rfl,hr.cells k _ (by rw[Qj,hx];rfl),hcap⟩
     subst e;have hcI:(n:Int)<=(cv:Int):=by omega
     have HNo:=Qa (HNote.out wr oo _ hM 5 x);have HTk:=Qa (show ze N.past 5 (N.S.came.take (k+1))=kh (ze N.past 5 (N.S.came.take k)) ⟨-1,0,0,⟨5,0,x⟩⟩ from by rw[xo hx];exact ud _ _ _ _)
     have HR:=Qa (And.intro hr hs);have HLt:=Qa hlt;clear hM hr hs hx hcap;go_wp2_with (first|(go_at_call 91;refine HNo.out.mono ?_;rintro e w7 ⟨rfl,o7,hM7,hs7⟩)|fail)
     go_roundw
     case rel=>exact⟨k+1,o7,by simp,hlt,by rw[HTk.out];exact hM7,HR.out.1.Ao hs7 (by intro e;rcases e with e|e<;>simp at e),HR.out.2.trans (hs7.mono (by rintro _ (rfl|rfl)<;>exact .inr rfl))⟩
     case measure=>clear hw1 hw2;simp[intOf];omega
    ·obtain rfl:k=n:=by omega
     rw[HNn.out,List.take_length]at hM;have cb7:wr.cell? ⟨m.mb,0,none⟩=some (ptr m.y.sb):=HC.out wr oo _ hM;have HL7:=Qa (HLost.out wr oo _ hM);have HS7:=Qa hs;clear hM hr hs hlt hkn;go_wp2_with (first|(go_at_call 92;refine HL7.out.mono ?_;rintro e w8 ⟨v8,rfl,hr8,hM8,hs8⟩;rw[show (⟨{ N.S with came:=[] },N.ps,N.hs,ze N.past 5 N.S.came⟩:Mc).S.lost=N.S.lost from rfl,<-HNn2.out]at hr8;obtain⟨pv2,cv2,rfl⟩:=hr8.AY)|fail)
     have HI8:=Qa (And.intro hM8 (And.intro hr8 (HS7.out.trans (hs8.mono fun _ h=>m9 h))))
     clear hM8 hr8 hs8 cb7 HL7;go_loopw [57] (fun ix wr=>∃ (k:Nat)(oo:Own),ix=I Z k/\k<=n2/\Bp wr oo m (⟨{ N.S with came:=[],lost:=[] },N.ps,N.hs,ze (ze N.past 5 N.S.came) 4 (N.S.lost.take k)⟩:Mc)/\Row wr oo (m.y.l.id,14) 3 1 (.slice pv2 n2 cv2) n2 (N.S.lost.map nv)/\Stp (kv m) o oo w wr) (fun ix _=>n2-(intOf ix).toNat)
     case atStart=>exact⟨0,oo,rfl,Nat.zero_le _,HI8.out⟩
     case round =>
      clear HI8;obtain⟨q,o9,rfl,hqn,hM,hr,hs⟩:=hrel;by_cases hlt:q<n2
      ·have hkI:(q:Int)<(n2:Int):=by omega
       obtain⟨hw1,hw2⟩:=_root_.Go.Proofs.YteehgedabdchcaaGreat.u5 q n2 hlt HBn.out.2;obtain⟨x,hx⟩:∃ x,N.S.lost[q]?=some x:=⟨_,Qb (by rw[<-HNn2.out];exact hlt)⟩
       obtain⟨g,e,hcell,hcap⟩:∃ g,pv2=some ⟨g,0,none⟩/\wr.cell? ⟨g,q,none⟩=some (I Z x)/\n2<=cv2:=by
        rcases hr.form with ⟨_,h0⟩|⟨g,cap,e,hcap,_⟩
        ·omega
        ·injection e with e1 _ e3
         subst e1 e3;exact⟨g,rfl,hr.cells q _ (by rw[Qj,hx];rfl),hcap⟩
       subst e;have hcI:(n2:Int)<=(cv2:Int):=by omega
       have HNo:=Qa (HNote.out wr o9 _ hM 4 x);have HTk:=Qa (show ze (ze N.past 5 N.S.came) 4 (N.S.lost.take (q+1))=kh (ze (ze N.past 5 N.S.came) 4 (N.S.lost.take q)) ⟨-1,0,0,⟨4,0,x⟩⟩ from by rw[xo hx];exact ud _ _ _ _)
       have HR:=Qa (And.intro hr hs);clear hM hr hs hx hcap;go_wp2_with (first|(go_at_call 91;refine HNo.out.mono ?_;rintro e w9 ⟨rfl,o10,hM9,hs9⟩)|fail)
       go_roundw
       case rel=>exact⟨q+1,o10,by simp,hlt,by rw[HTk.out];exact hM9,HR.out.1.Ao hs9 (by intro e;rcases e with e|e<;>simp at e),HR.out.2.trans (hs9.mono (by rintro _ (rfl|rfl)<;>exact .inr rfl))⟩
       case measure=>clear hw1 hw2;simp[intOf];omega
      ·obtain rfl:q=n2:=by omega
       rw[HNn2.out,List.take_length]at hM;have HFin:=Qa (show Cx m N.told o w wr from ⟨o9,hM,hs⟩);clear hM hr hs;go_wp2_with fail;go_ret;rw[HRN.out];exact⟨rfl,HFin.out⟩
end
section
variable {w w' : Aa} {o o' : Own} {m : BZ} {M : Mc}
theorem Kc (h:Bp w o m M) (hk:M.ok) (t:Int) (ho:∀ b,w.heap.size<=b->o b=(m.y.l.id+1,0)) :
  Ab Tryz.prog 32 #[ptr m.mb,I Z t] w fun e w'=>e=O (M.step t).2.val/\Cx m (M.step t).1 o w w':=by
 obtain⟨ve,jb,_⟩:=h.AU;have hhs:=h.hs;obtain⟨ph,ch,hvh⟩:=hhs.AY;rw[hvh]at hhs jb;have HN:=Qa (fun (W:Aa) (hb:Ae w.heap.size w W)=>Xp h W hb)
 by_cases h0:t<0
 ·have e1:M.step t=(M,⟨0,0,0⟩):=if_pos (.inl h0)
  rw[e1];clear h hk hhs hvh jb e1;go_enter Tryz.func32,Tryz.ntmps32;go_wp2_with fail;exact bodyPost_ret (v:=Ak #[I Z 0,I Z 0,I Z 0]) (by simp[results,Tryz.results32,go_sem]) rfl ⟨rfl,HN.out _ (qa (qc w) _)⟩
 by_cases h1:(M.hs.length:Int)<=t
 ·have e1:M.step t=(M,⟨0,0,0⟩):=if_pos (.inr (.inl h1))
  rw[e1];obtain⟨nh,hnh⟩:∃ nh,nh=M.hs.length:=⟨_,rfl⟩;rw[<-hnh]at h1 jb;have cb:=jb.cell;have lb:=jb.lt;clear h hk hhs hvh hnh jb e1;go_enter Tryz.func32,Tryz.ntmps32;go_wp2_with fail;exact bodyPost_ret (v:=Ak #[I Z 0,I Z 0,I Z 0]) (by simp[results,Tryz.results32,go_sem]) rfl ⟨rfl,HN.out _ (qa (qc w) _)⟩
 obtain⟨T,rfl⟩:∃ T:Nat,t=T:=⟨t.toNat,by omega⟩
 have hT:T<M.hs.length:=by omega
 have hb1:Ae w.heap.size w (w.alloc (.cells #[I Z 0,I Z 0,I Z 0] 54)):=qa (qc w) _;have HFull:=Qa (UW (h.below hb1));have jA:=Am.new w #[I Z 0,I Z 0,I Z 0] 54;have hAm:w.heap.size≠m.mb:=by have:=jb.lt;omega
 by_cases hf:2000<=M.past.length
 ·have e1:M.step T=(M,⟨0,0,0⟩):=if_pos (.inr (.inr hf))
  rw[e1];rw[decide_eq_true hf]at HFull;obtain⟨nh,hnh⟩:∃ nh,nh=M.hs.length:=⟨_,rfl⟩;rw[<-hnh]at h1 jb;have cb:=jb.cell;have lb:=jb.lt;have oA:=ho w.heap.size (Qk _);have hb1':=Qa hb1;clear h hk hhs hvh hnh jb e1 hf hT hb1 ho;go_enter Tryz.func32,Tryz.ntmps32;go_wp2_with fail;refine HFull.out.mono ?_
  rintro e w2 ⟨rfl,hM2,hk2,hz2,hs2⟩
  have j2:=hk2 _ _ _ hAm jA;have c2:=j2.cell;have z2:=j2.free;have l2:=j2.lt;have jX:=de j2 ⟨0,0,0⟩;have HL:=Qa (Cx.G4 hM2 (((Stp.of_below hb1'.out).trans hs2).mono (by rintro _ rfl;exact .inr rfl)) (b:=w.heap.size) (Qk _) oA ⟨0,0,0⟩)
  clear hM2 hk2 hz2 hs2 j2;go_wp2_with fail;change bodyPost _ _ _ _ _ (wa w2 w.heap.size ⟨0,0,0⟩);generalize wa w2 w.heap.size ⟨0,0,0⟩=X at *;have cX:=jX.cell;exact bodyPost_ret (v:=Ak #[I Z 0,I Z 0,I Z 0]) (by simp[results,Tryz.results32,go_sem,cX,Bf.cells]) rfl ⟨rfl,HL.out⟩
 ·have e1:M.step T=M.CE T:=if_neg (fun e=>e.elim (by omega) fun e=>e.elim h1 hf)
  rw[e1];obtain⟨RR,hRR⟩:∃ RR,RR=M.CE T:=⟨_,rfl⟩;rw[<-hRR];have HRR:=Qa hRR;rw[decide_eq_false hf]at HFull;have hz:=Mc.Fw (M:=M) hT;have hTp:T<M.ps.length:=by rw[<-hk.len];exact hT
  have HTst:=Qa (hk.tst hT);have HP:=Qa (Mc.D2 (M:=M) hTp);obtain⟨gp0,cp0,a0',c0',ep,_,_⟩:=h.ps.at (Mc.D2 (M:=M) hTp);rw[ep]at jb;obtain⟨nh,hnh⟩:∃ nh,nh=M.hs.length:=⟨_,rfl⟩;have hnp:nh=M.ps.length:=by rw[hnh];exact hk.len
  have HNh:=Qa hnh;have HNp:=Qa hnp;rw[<-hnh]at h1 jb hT hhs;rw[<-hnp]at jb;have HVp:=Qa ep;have HVh:=Qa hvh;have HZ:=Qa hz;have cb:=jb.cell;have lb:=jb.lt;have oA:=ho w.heap.size (Qk _);have HO:=Qa ho;have hb1':=Qa hb1;have HK:=Qa hk;have hTI:¬(nh:Int)<=(T:Int):=by omega
  have hTI2:(T:Int)<(nh:Int):=by omega
  clear h hk hhs jb e1 hf hb1 ho hnh hnp ep hvh h1 hTp hz hRR;go_enter Tryz.func32,Tryz.ntmps32;go_wp2_with fail;refine HFull.out.mono ?_
  rintro e w2 ⟨rfl,hM2,hk2,hz2,hs2⟩
  have jA2:=hk2 _ _ _ hAm jA;have sW2:Stp (kv m) o o w w2:=((Stp.of_below hb1'.out).trans hs2).mono (by rintro _ rfl;exact .inr rfl)
  obtain⟨ve2,jm2,_⟩:=hM2.AU;rw[HVh.out,HVp.out,<-HNh.out,<-HNp.out]at jm2;have hr2:=hM2.hs;rw[HVh.out,<-HNh.out]at hr2;obtain⟨gq,eq,hcap,q⟩:=hr2.E9 HZ.out;subst eq;obtain⟨gp,cp,a,c,ep,hcp,hKB⟩:=hM2.ps.at HP.out;rw[HVp.out]at ep;injection ep with ep1 _ ep3;injection ep1 with ep1;injection ep1 with ep1;subst ep1 ep3;obtain⟨z,hze⟩:∃ z,z=M.h T:=⟨_,rfl⟩;rw[<-hze]at q;have HZE:=Qa hze;obtain⟨P,hPe⟩:∃ P,P=(M.p T).length:=⟨_,rfl⟩;rw[<-hPe]at hcp;have HStep:=Qa (fun (W:Aa) (hb:Ae w2.heap.size w2 W)=>show Ab Tryz.prog 93 #[ptr m.y.sb,I Z T,.slice a P c,z.v] W fun e' w'=>e'=O (Aj #[(M.S.Bn T (M.p T) z).h.v,(M.S.Bn T (M.p T) z).a.val])/\Left m.y (M.S.Bn T (M.p T) z).S o W w' from by
   rw[hPe,hze];exact qn5 (hM2.st.below hb) (hKB.Sd.below hb) (M.h T) HTst.out)
  have HM2:=Qa hM2;have HJA:=Qa jA2;have HSW:=Qa sW2;obtain⟨R,hR⟩:∃ R,R=M.S.Bn T (M.p T) z:=⟨_,rfl⟩;rw[<-hR]at HStep;have HR:=Qa hR;obtain⟨RS,⟨rb,rn,⟨b0,b1,b2,b3,b4,b5⟩,⟨d0,d1,d2,d3,d4,d5⟩,rl⟩,⟨ak,ae,av⟩⟩:=R;obtain⟨zb,zn,⟨a0,a1,a2,a3,a4,a5⟩,⟨s0,s1,s2,s3,s4,s5⟩,zl⟩:=z;obtain⟨q0,q1,q2,q3,q4,q5,q6,q7,q8,q9,q10,q11,q12,q13,q14⟩:=q;have HRes:=Qa (show RR=(⟨RS,M.ps,M.hs.set T ⟨rb,rn,⟨b0,b1,b2,b3,b4,b5⟩,⟨d0,d1,d2,d3,d4,d5⟩,rl⟩,if ak≠0 then kh M.past ⟨(T:Int),zb,zn,⟨ak,ae,av⟩⟩ else M.past⟩,⟨ak,ae,av⟩) from by rw[HRR.out];unfold Mc.CE;rw[<-HZE.out,<-HR.out])
  simp only at q0 q1 q2 q3 q4 q5 q6 q7 q8 q9 q10 q11 q12 q13 q14;unfold AD.v AD.cells Bf.val Bf.cells at HStep;simp only at HStep;have cm:=jm2.cell;have lm:=jm2.lt;have lq:=hr2.blt;clear cb lb hM2 hk2 hs2 jA2 sW2 hze hPe hR hKB hr2;go_upto_region 4 with fail;obtain⟨W3,hW3⟩:∃ W3:Aa,W3=w2.alloc (.cells #[I Z zb,I Z zn,I Z a0,I Z a1,I Z a2,I Z a3,I Z a4,I Z a5,I Z s0,I Z s1,I Z s2,I Z s3,I Z s4,I Z s5,.bool zl] 58):=⟨_,rfl⟩;rw[<-hW3];have hb3:Ae w2.heap.size w2 W3:=by rw[hW3];exact qa (qc w2) _
  have hz2':w2.heap.size=w.heap.size+1:=by simpa using hz2
  have jx3:Am W3 (w.heap.size+1) #[I Z zb,I Z zn,I Z a0,I Z a1,I Z a2,I Z a3,I Z a4,I Z a5,I Z s0,I Z s1,I Z s2,I Z s3,I Z s4,I Z s5,.bool zl] 58:=by rw[hW3,<-hz2'];exact Am.new w2 _ _
  have jm3:=jm2.below hb3 jm2.lt;have hc3:=cell_below hcp hb3;clear hW3 cm lm lq q0 q1 q2 q3 q4 q5 q6 q7 q8 q9 q10 q11 q12 q13 q14 jm2 hcp;have cm:=jm3.cell;have cx:=jx3.cell;have HH8:Hid (∀ (W:Aa),Ae w2.heap.size w2 W->Ab Tryz.prog 93 #[ptr m.y.sb,I Z T,.slice a P c,Ak #[I Z zb,I Z zn,I Z a0,I Z a1,I Z a2,I Z a3,I Z a4,I Z a5,I Z s0,I Z s1,I Z s2,I Z s3,I Z s4,I Z s5,.bool zl]] W fun e' w'=>e'=O (Aj #[Ak #[I Z rb,I Z rn,I Z b0,I Z b1,I Z b2,I Z b3,I Z b4,I Z b5,I Z d0,I Z d1,I Z d2,I Z d3,I Z d4,I Z d5,.bool rl],Ak #[I Z ak,I Z ae,I Z av]])/\Left m.y RS o W w'):=HStep
  refine PW _ _ _ _ _ _ _ _ _ _ _ _ _ _ _ _ _ _ _ _ _ _ _ _ _ _ _ _ _ _ _ _ _ _ _ _ _ _ _ _ _ _ _ _ _ _ _ _ _ _ _ _ _ _ _ _ _ _ _ _ _ _ _ _ _ _ _ _ _ HM2 HJA HSW HO oA HVp hz2' hb3 jx3 jm3 hc3 (Int.not_le.2 hTI2) hTI2 HH8 (Qa ?_)
  rintro W5 o5 C D z33 z34 z35 z36 z37 z38 z39 z40 z41 z42 z43 z44 z45 z46 z47 z48 z49 hA5 jC jD oC oD
  clear cm cx HH8 jx3 jm3 hc3 hb3;obtain⟨ve5,jm5,_⟩:=hA5.mi.AU;have jm5:Am W5 m.mb #[ptr m.y.sb,m.vp,m.vh,.int .i32 0,.int .u32 0,ve5] 148:=jm5;rw[HVh.out,HVp.out,<-HNh.out,<-HNp.out]at jm5;have hr5:Row W5 o5 (m.y.l.id+2,2) 58 15 m.vh M.hs.length (za M.hs):=hA5.mi.hs;rw[HVh.out,<-HNh.out]at hr5;obtain⟨_,e5,_,q⟩:=hr5.E9 (HZ.out.trans (congrArg some HZE.out.symm));injection e5 with e5;injection e5 with e5;subst e5;obtain⟨q0,q1,q2,q3,q4,q5,q6,q7,q8,q9,q10,q11,q12,q13,q14⟩:=q;simp only at q0 q1 q2 q3 q4 q5 q6 q7 q8 q9 q10 q11 q12 q13 q14;obtain⟨hM6,hs6⟩:=hA5.mi.CY (t:=T) (by rw[<-HNh.out];exact hT) HVh.out ⟨rb,rn,⟨b0,b1,b2,b3,b4,b5⟩,⟨d0,d1,d2,d3,d4,d5⟩,rl⟩
  obtain⟨Y,hY⟩:∃ Y:Aa,Y=(Kb W5 gq (T*15) ⟨rb,rn,⟨b0,b1,b2,b3,b4,b5⟩,⟨d0,d1,d2,d3,d4,d5⟩,rl⟩).drew:=⟨_,rfl⟩;have jA7:Am Y w.heap.size #[I Z 0,I Z 0,I Z 0] 54:=by rw[hY];exact qi (hA5.ja.Ao hs6 (by rw[hA5.oa];simp))
  have jB7:Am Y (w.heap.size+1) #[I Z zb,I Z zn,I Z a0,I Z a1,I Z a2,I Z a3,I Z a4,I Z a5,I Z s0,I Z s1,I Z s2,I Z s3,I Z s4,I Z s5,.bool zl] 58:=by rw[hY];exact qi (hA5.jb.Ao hs6 (by rw[hA5.ob];simp))
  have jD7:=qi (jD.Ao hs6 (by rw[oD];simp))
  rw[<-hY]at jD7;have HM7:=Qa (show Bp Y o5 m (⟨RS,M.ps,M.hs.set T ⟨rb,rn,⟨b0,b1,b2,b3,b4,b5⟩,⟨d0,d1,d2,d3,d4,d5⟩,rl⟩,M.past⟩:Mc) from by rw[hY];exact hM6.below (qe (qc _)))
  have HS7:=Qa (show Stp (kv m) o o5 w Y from by rw[hY];exact (hA5.st.trans (hs6.mono (by rintro _ rfl;exact .inr rfl))).trans (Stp.of_below (qe (qc _))))
  have HO7:=Qa (And.intro hA5.oa (And.intro hA5.ob oD));have zq:=hr5.free;have lq:=hr5.blt;have cm5:=jm5.cell;have cC:=jC.cell;have HYe:=Qa hY;have HJ7:=Qa (And.intro jA7 (And.intro jB7 jD7));clear hY hM6 hs6 hA5 jD jC oC oD hr5 jm5 jA7 jB7 jD7 HStep;go_upto_region 5 with fail;go_region;have hY2:=HYe.out;unfold Kb at hY2;simp only at hY2;rw[<-hY2];clear hY2;obtain⟨jA7,jB7,jD7⟩:=HJ7.out;have cA:=jA7.cell;have zA:=jA7.free;have lA:=jA7.lt;have cB:=jB7.cell;have cD:=jD7.cell;have lm7:m.mb<Y.heap.size:=HM7.out.lt;clear zq lq cm5 cC q0 q1 q2 q3 q4 q5 q6 q7 q8 q9 q10 q11 q12 q13 q14;by_cases hk0:ak=0
  ·have hkb:(ak != 0)=false:=by rw[hk0];rfl
   have jX:=de jA7 ⟨ak,ae,av⟩;have HL:=Qa (Cx.G4 HM7.out HS7.out (b:=w.heap.size) (Qk _) HO7.out.1 ⟨ak,ae,av⟩);have HK0:=Qa hk0;clear jA7 jB7 jD7 hk0;go_wp2_with fail;change bodyPost _ _ _ _ _ (wa Y w.heap.size ⟨ak,ae,av⟩);generalize wa Y w.heap.size ⟨ak,ae,av⟩=V at *;have cX:=jX.cell;refine bodyPost_ret (v:=Ak #[I Z ak,I Z ae,I Z av]) (by simp[results,Tryz.results32,go_sem,cX,Bf.cells]) rfl ⟨by rw[HRes.out];rfl,?_⟩
   rw[HRes.out];simp only[HK0.out,ne_eq,not_true_eq_false,if_false];exact HL.out
  ·have hkb:(ak != 0)=true:=by rw[bne_iff_ne];exact hk0
   have HNo:=Qa (show Ab Tryz.prog 91 #[Ag (some ⟨m.mb,3,none⟩),Ak #[I Z T,I Z zb,I Z zn,I Z ak,I Z ae,I Z av]] Y.drew fun e w'=>e=O (Aj #[])/\∃ o',Bp w' o' m (⟨RS,M.ps,M.hs.set T ⟨rb,rn,⟨b0,b1,b2,b3,b4,b5⟩,⟨d0,d1,d2,d3,d4,d5⟩,rl⟩,kh M.past ⟨T,zb,zn,⟨ak,ae,av⟩⟩⟩:Mc)/\Stp (y7 m) o5 o' Y.drew w' from SY (HM7.out.below (qe (qc Y))) ⟨T,zb,zn,⟨ak,ae,av⟩⟩)
   have HK0:=Qa hk0;clear hk0;go_upto_region 7 with fail;go_still_tail 10,(by kernel_rfl)
   change wpList _ _ _ _ _ Y.drew;clear cA zA lA cB cD;have nrc:¬y7 m (m.y.l.id+1,0):=fun e=>by rcases e with e|e<;>simp at e
   have HFF:=Qa (fun (w9:Aa) (o9:Own) (hM9:Bp w9 o9 m (⟨RS,M.ps,M.hs.set T ⟨rb,rn,⟨b0,b1,b2,b3,b4,b5⟩,⟨d0,d1,d2,d3,d4,d5⟩,rl⟩,kh M.past ⟨T,zb,zn,⟨ak,ae,av⟩⟩⟩:Mc)) (hs9:Stp (y7 m) o5 o9 Y.drew w9) =>
    show Am w9 w.heap.size #[I Z 0,I Z 0,I Z 0] 54/\Am w9 D #[I Z ak,I Z ae,I Z av] 54/\Cx m (⟨RS,M.ps,M.hs.set T ⟨rb,rn,⟨b0,b1,b2,b3,b4,b5⟩,⟨d0,d1,d2,d3,d4,d5⟩,rl⟩,kh M.past ⟨T,zb,zn,⟨ak,ae,av⟩⟩⟩:Mc) o w (wa w9 w.heap.size ⟨ak,ae,av⟩) from by
     have a9:=(qi jA7).Ao hs9 (by rw[HO7.out.1];exact nrc)
     have d9:=(qi jD7).Ao hs9 (by rw[HO7.out.2.2];exact nrc)
     have t9:o9 w.heap.size=(m.y.l.id+1,0):=(hs9.tags _ (qi jA7).lt).trans HO7.out.1;have s9:Stp (kv m) o o9 w w9:=(HS7.out.trans (Stp.of_below (qe (qc Y)))).trans (hs9.mono (by rintro _ (rfl|rfl)<;>exact .inr rfl))
     exact⟨a9,d9,Cx.G4 hM9 s9 (b:=w.heap.size) (Qk _) t9 ⟨ak,ae,av⟩⟩)
   clear jA7 jB7 jD7;go_wp2_with (first
    | (go_at_call 91;refine HNo.out.mono ?_;rintro e w9 ⟨rfl,o9,hM9,hs9⟩;obtain⟨a9,d9,hfin⟩:=HFF.out w9 o9 hM9 hs9;have cA:=a9.cell;have zA:=a9.free;have lA:=a9.lt;have cD:=d9.cell)
    | fail)
   have jX:=de a9 ⟨ak,ae,av⟩;have HL:=Qa hfin;clear a9 d9 hfin hM9 hs9;change bodyPost _ _ _ _ _ (wa w9 w.heap.size ⟨ak,ae,av⟩);generalize wa w9 w.heap.size ⟨ak,ae,av⟩=V at *;have cX:=jX.cell;refine bodyPost_ret (v:=Ak #[I Z ak,I Z ae,I Z av]) (by simp[results,Tryz.results32,go_sem,cX,Bf.cells]) rfl ⟨by rw[HRes.out];rfl,?_⟩
   rw[HRes.out];simp only[ne_eq,HK0.out,not_false_eq_true,if_true];exact HL.out
theorem pm (h:Bp w o m M) (hk:M.ok) (t:Int) :
  Ab Tryz.prog 32 #[ptr m.mb,I Z t] w fun e w'=>e=O (M.step t).2.val/\Cx m (M.step t).1 o w w':=
 (Kc (h.retag fun b hb=>qj (n:=w.heap.size) (t:=(m.y.l.id+1,0)) hb) hk t fun b hb=>qp hb).mono fun _ _⟨a,b⟩=>⟨a,b.M3⟩
end
namespace A17
def P:List (List (List Ay)):=[[[⟨1,0,0,0,1⟩]]]
def M:Nat->Mc
 | 0=>Mc.fresh (Al.fresh 60 1 9 9 (EB 99).toNat) P
 | k+1=>((M k).step 0).1
theorem Vb:D4 P:=by
 refine⟨by decide,by decide,fun p hp=>?_⟩
 simp only[P,List.mem_cons,List.not_mem_nil,or_false]at hp;subst hp;refine⟨by decide,fun ds hds=>?_⟩
 simp only[List.mem_cons,List.not_mem_nil,or_false]at hds;subst hds;refine⟨by decide,by decide,fun d hd=>?_⟩
 simp only[List.mem_cons,List.not_mem_nil,or_false]at hd;subst hd;exact⟨⟨by decide,by decide,by decide,by decide,by decide,fun _=>by decide⟩,by decide +kernel⟩
theorem ok:∀ k,(M k).ok
 | 0=>Mc.CW (by omega) (by omega) (by omega) (by omega) (by decide +kernel) Vb
 | k+1=>Mc.EK (ok k) 0
theorem So:((M 0).step 0).2=⟨1,0,0⟩:=by decide +kernel
theorem Sy:((M 1).step 0).2=⟨2,0,1⟩:=by decide +kernel
theorem Q4:((M 2).step 0).2=⟨3,0,1⟩:=by decide +kernel
theorem G4:((M 3).step 0).2=⟨0,0,0⟩:=by decide +kernel
theorem past:(M 4).past=[⟨0,0,0,⟨1,0,0⟩⟩,⟨0,0,0,⟨2,0,1⟩⟩,⟨0,0,1,⟨3,0,1⟩⟩]:=by decide +kernel
theorem fin:(M 4).done=true/\((M 4).BO 0).2=true/\((M 4).BO 0).1.r.a0=1/\(M 4).collect.2=false/\(M 4).collect.1.S.now=1/\(M 4).S.H.AF=false:=by decide +kernel
theorem shut:Shut (M 4).S.H:=by unfold Shut FV;decide +kernel
theorem Ww:FV (lk (M 4).S.H.cur) ((M 4).S.places (M 4).roots):=by unfold FV;decide +kernel
theorem cn:((M 4).S.H.canon ((M 4).S.places (M 4).roots)).length=1/\((M 4).S.places (M 4).roots).length<=1000000:=by decide +kernel
end A17
theorem Row.E5 {w:Aa}{b:Nat}{cs:Array Ac}{e:TypeId}{o:Own}{t:Tag}(n size:Nat)(h:Am w b cs e)(hn:cs.size=n*size)(hm:n<=maxLen)(ht:o b=t):Row w o t e size (Ah (some ⟨b,0,none⟩) n n) n cs.toList:=
 ⟨⟨by simpa using hn,.inr ⟨b,n,cs,rfl,Nat.zero_le _,h,Qk _,hm,hn,by rw[<-hn,<-Array.length_toList,List.take_length]⟩⟩,fun k hk=>by
  have:b=k:=by simpa [Value.ownBlock] using hk
  subst this;exact ht⟩
section
variable {w w' : Aa} {o o' : Own} {m : BZ} {M : Mc}
structure Bz (o:Own)(w:Aa)(b:Nat)(cs:Array Ac)(t:TypeId):Prop where
 j:Am w b cs t
 ow:o b=(9,1)
theorem Bz.Ao {T:Tag->Prop}{b:Nat}{cs:Array Ac}{t:TypeId}(h:Bz o w b cs t)(k:Stp T o o' w w')(ht:¬T (9,1)):Bz o' w' b cs t:=⟨h.j.Ao k (by rw[h.ow];exact ht),(k.tags _ h.j.lt).trans h.ow⟩
theorem km (o:Own)(w:Aa)(cs:Array Ac)(t:TypeId):Stp (fun _=>False) o (ext o w.heap.size (9,1)) w (w.alloc (.cells cs t)):=(Stp.of_below (qa (qc w) _)).ext _ _ (Qk _)
theorem QG (o:Own)(w:Aa)(cs:Array Ac)(t:TypeId):Bz (ext o w.heap.size (9,1)) (w.alloc (.cells cs t)) w.heap.size cs t:=⟨Am.new _ _ _,qp (Qk _)⟩
theorem Bp.low (h:Bp w o m M)(k:Stp (fun _=>False) o o' w w'):Bp w' o' m M:=h.Ao k (fun _ h=>h) fun _ h=>h
theorem N7 (hid:m.y.l.id=0):¬kv m (9,1):=by unfold kv;rw[hid];simp
end
theorem Y4 (w:Aa):Ab Tryz.prog 26 #[] w fun e w'=>e=O (.bool true)/\Ae w.heap.size w w':=by
 obtain⟨W3,hW3⟩:∃ W3:Aa,W3=((w.alloc (.cells #[I Z 1,I Z 0,I Z 0,I Z 0,I Z 1] 73)).alloc (.cells #[Ah (some ⟨w.heap.size,0,none⟩) 1 1] 71)).alloc (.cells #[Ah (some ⟨w.heap.size+1,0,none⟩) 1 1] 67):=⟨_,rfl⟩;have hb3:Ae w.heap.size w W3:=by rw[hW3];exact qa (qa (qa (qc w) _) _) _
 have hRT:RT W3 (Ah (some ⟨w.heap.size+2,0,none⟩) 1 1) A17.P:=by
  have j0:Am W3 w.heap.size #[I Z 1,I Z 0,I Z 0,I Z 0,I Z 1] 73:=by rw[hW3];exact ((Am.new _ _ _).alloc _).alloc _
  have j1:Am W3 (w.heap.size+1) #[Ah (some ⟨w.heap.size,0,none⟩) 1 1] 71:=by rw[hW3];exact (Am.Aq _ _ _ _ _ (by simp) rfl).alloc _
  have j2:Am W3 (w.heap.size+2) #[Ah (some ⟨w.heap.size+1,0,none⟩) 1 1] 67:=by rw[hW3];exact Am.Aq _ _ _ _ _ (by simp) rfl
  refine⟨by decide,[Ah (some ⟨w.heap.size+1,0,none⟩) 1 1],fun _=>(5,5),(5,5),rfl,Row.E5 1 1 j2 rfl (by decide) rfl,fun j bs hj=>?_⟩
  cases j with
  | succ j=>simp[A17.P]at hj
  | zero =>
   simp only[A17.P,List.getElem?_cons_zero,Zb]at hj;subst hj;refine⟨_,rfl,by decide,[Ah (some ⟨w.heap.size,0,none⟩) 1 1],fun _=>(5,5),(5,5),rfl,Row.E5 1 1 j1 rfl (by decide) rfl,fun j l hj=>?_⟩
   cases j with
   | succ j=>simp at hj
   | zero =>
    simp only[List.getElem?_cons_zero,Zb]at hj;subst hj;exact⟨_,rfl,by decide,fun _=>(5,5),(5,5),Row.E5 1 5 j0 rfl (by decide) rfl⟩
 have HN:=Qa (show Ab Tryz.prog 29 #[I Z 60,I Z 9,I Z 9,I Z 99,Ah (some ⟨w.heap.size+2,0,none⟩) 1 1] W3 fun e w'=>∃ m o',e=O (Aj #[ptr m.mb,I Z 0])/\m.y.l.id=0/\Bp w' o' m (A17.M 0)/\Stp (fun _=>False) (fun _=>(7,0)) o' W3 w' from
  Vq 60 9 9 99 (by omega) (by omega) (by omega) (by omega) A17.Vb (fun _=>(7,0)) 0 W3 hRT fun b _=>⟨by simp,by simp⟩)
 have HE:=Qa (fun W=>Kd 60 9 9 99 W)
 have HS0:=Qa (fun (X:Aa)(o2:Own)(m:BZ)(hM:Bp X o2 m (A17.M 0))=>show Ab Tryz.prog 32 #[ptr m.mb,I Z 0] X fun e w'=>e=O (Ak #[I Z 1,I Z 0,I Z 0])/\Cx m (A17.M 1) o2 X w' from by
  have h:=pm hM (A17.ok 0) 0;rw[A17.So]at h;exact h)
 have HS1:=Qa (fun (X:Aa)(o2:Own)(m:BZ)(hM:Bp X o2 m (A17.M 1))=>show Ab Tryz.prog 32 #[ptr m.mb,I Z 0] X fun e w'=>e=O (Ak #[I Z 2,I Z 0,I Z 1])/\Cx m (A17.M 2) o2 X w' from by
  have h:=pm hM (A17.ok 1) 0;rw[A17.Sy]at h;exact h)
 have HS2:=Qa (fun (X:Aa)(o2:Own)(m:BZ)(hM:Bp X o2 m (A17.M 2))=>show Ab Tryz.prog 32 #[ptr m.mb,I Z 0] X fun e w'=>e=O (Ak #[I Z 3,I Z 0,I Z 1])/\Cx m (A17.M 3) o2 X w' from by
  have h:=pm hM (A17.ok 2) 0;rw[A17.Q4]at h;exact h)
 obtain⟨M4,hM4e⟩:∃ M4,M4=A17.M 4:=⟨_,rfl⟩;have hk4:M4.ok:=by rw[hM4e];exact A17.ok 4
 have HS3:=Qa (fun (X:Aa)(o2:Own)(m:BZ)(hM:Bp X o2 m (A17.M 3))=>show Ab Tryz.prog 32 #[ptr m.mb,I Z 0] X fun e w'=>e=O (Ak #[I Z 0,I Z 0,I Z 0])/\Cx m M4 o2 X w' from by
  have h:=pm hM (A17.ok 3) 0;rw[A17.G4,show ((A17.M 3).step 0).1=M4 from hM4e.symm]at h;exact h)
 obtain⟨f1,f2,f3,f4,f5,f6⟩:=A17.fin;rw[<-hM4e]at f1 f2 f3 f4 f5 f6;have HHi:=Qa (fun (X:Aa)(o2:Own)(m:BZ)(hM:Bp X o2 m M4)=>show Ab Tryz.prog 36 #[ptr m.mb] X fun e w'=>∃ v',e=O v'/\Row w' (fo X.heap.size) (1,0) 69 6 v' 3 (zc [⟨0,0,0,⟨1,0,0⟩⟩,⟨0,0,0,⟨2,0,1⟩⟩,⟨0,0,1,⟨3,0,1⟩⟩])/\Bp w' o2 m M4/\Stp (fun t=>t=(m.y.l.id+2,0)) o2 o2 X w' from by
  have h:=tw hM hk4.pl;have hp:M4.past=[⟨0,0,0,⟨1,0,0⟩⟩,⟨0,0,0,⟨2,0,1⟩⟩,⟨0,0,1,⟨3,0,1⟩⟩]:=by rw[hM4e];exact A17.past
  rw[hp]at h;exact h)
 obtain⟨H,hH⟩:∃ H,H=(M4.BO 0).1:=⟨_,rfl⟩;have HTh:=Qa (fun (X:Aa)(o2:Own)(m:BZ)(hM:Bp X o2 m M4)=>show Ab Tryz.prog 33 #[ptr m.mb,I Z 0] X fun e w'=>e=O (Aj #[Ak #[I Z H.b,I Z H.n,I Z 1,I Z H.r.a1,I Z H.r.a2,I Z H.r.a3,I Z H.r.a4,I Z H.r.a5,I Z H.s.a0,I Z H.s.a1,I Z H.s.a2,I Z H.s.a3,I Z H.s.a4,I Z H.s.a5,.bool H.l],.bool true])/\Ae X.heap.size X w' from by
  have h:=U7 hM hk4 0;rw[f2,<-hH]at h;rw[<-hH]at f3;have e:H.v=Ak #[I Z H.b,I Z H.n,I Z 1,I Z H.r.a1,I Z H.r.a2,I Z H.r.a3,I Z H.r.a4,I Z H.r.a5,I Z H.s.a0,I Z H.s.a1,I Z H.s.a2,I Z H.s.a3,I Z H.s.a4,I Z H.s.a5,.bool H.l]:=by
   rw[<-f3];rfl
  rw[e]at h;exact h)
 have HDone:=Qa (fun (m:BZ)(X:Aa)(o2:Own)(hM:Bp X o2 m M4)=>show Ab Tryz.prog 37 #[ptr m.mb] X fun e w'=>e=O (.bool true)/\Ae X.heap.size X w' from by
  have h:=Vu hM hk4;rw[f1]at h;exact h)
 have HCanon:=Qa (fun (m:BZ)(X:Aa)(o2:Own)(hM:Bp X o2 m M4)=>show Ab Tryz.prog 40 #[ptr m.mb] X fun e w'=>∃ p c,e=O (.slice p 1 c)/\Ae X.heap.size X w' from by
  refine (YM hM hk4 f6 (by rw[hM4e];exact A17.shut) (by rw[hM4e];exact A17.Ww) (by rw[hM4e];exact A17.cn.2)).mono ?_
  rintro e w' ⟨v1,oo,rfl,hN,hb,_⟩
  obtain⟨es,_,hr,_⟩:=hN;obtain⟨p,c,rfl⟩:=hr.AY;have hl:(M4.S.H.canon (M4.S.places M4.roots)).length=1:=by rw[hM4e];exact A17.cn.1
  rw[hl];exact⟨p,c,rfl,hb⟩)
 have HCol:=Qa (fun (m:BZ)(X:Aa)(o2:Own)(hM:Bp X o2 m M4)=>show Ab Tryz.prog 31 #[ptr m.mb] X fun e w'=>e=O (.bool false)/\Cx m M4.collect.1 o2 X w' from by
  have h:=sm hM hk4;rw[f4]at h;exact h)
 have HNow:=Qa (fun (m:BZ)(X:Aa)(o2:Own)(hM:Bp X o2 m M4.collect.1)=>show Ab Tryz.prog 38 #[ptr m.mb] X fun e w'=>e=O (I Z 1)/\X=w' from by
  obtain⟨_,jb,_⟩:=hM.AU;have h:=He hM.st (Mc.D1 hk4).inv (jb.cell 0);rw[f5]at h;exact h)
 have HB':=Qa hb3;clear hRT hb3 hk4 f1 f2 f3 f4 f5 f6 hH hM4e;go_enter Tryz.func26,Tryz.ntmps26;go_upto_region 11 with (first
  | (go_at_call 29;rw[<-hW3];clear hW3;refine HN.out.mono ?_;rintro e w1 ⟨m,o1,rfl,hid,hM0,hs1⟩;have HID:=Qa hid;have HMa:=Qa hM0;have HSx:=Qa hs1;clear hid hM0 hs1)
  | (go_at_call 29;refine (HE.out _).mono ?_;rintro e w2 ⟨rfl,hb2⟩;have HM0:=Qa (HMa.out.below hb2);have HS'0:=Qa (show Stp (kv m) (fun _=>(7,0)) o1 W3 w2 from (HSx.out.trans (Stp.of_below hb2)).mono fun _ h=>h.elim);clear hb2 HMa HSx)
  | (go_at_call 32;refine (HS0.out _ _ m HM0.out).mono ?_;rintro e w3 ⟨rfl,o3,hMn,hs3⟩;have HA:=Qa (QG o3 w3 #[I Z 1,I Z 0,I Z 0] 54);have HM1:=Qa (hMn.low (km o3 w3 #[I Z 1,I Z 0,I Z 0] 54));have HS'1:=Qa ((HS'0.out.trans hs3).trans ((km o3 w3 #[I Z 1,I Z 0,I Z 0] 54).mono fun _ h=>h.elim));clear hMn hs3 HM0 HS'0)
  | (go_at_call 32;refine (HS1.out _ _ m HM1.out).mono ?_;rintro e w4 ⟨rfl,o4,hMn,hs4⟩;have HA:=Qa ((HA.out.Ao hs4 (N7 HID.out)).Ao (km o4 w4 #[I Z 2,I Z 0,I Z 1] 54) id);have HB:=Qa (QG o4 w4 #[I Z 2,I Z 0,I Z 1] 54);have HM2:=Qa (hMn.low (km o4 w4 #[I Z 2,I Z 0,I Z 1] 54));have HS'2:=Qa ((HS'1.out.trans hs4).trans ((km o4 w4 #[I Z 2,I Z 0,I Z 1] 54).mono fun _ h=>h.elim));clear hMn hs4 HM1 HS'1)
  | (go_at_call 32;refine (HS2.out _ _ m HM2.out).mono ?_;rintro e w5 ⟨rfl,o5,hMn,hs5⟩;have HA:=Qa ((HA.out.Ao hs5 (N7 HID.out)).Ao (km o5 w5 #[I Z 3,I Z 0,I Z 1] 54) id);have HB:=Qa ((HB.out.Ao hs5 (N7 HID.out)).Ao (km o5 w5 #[I Z 3,I Z 0,I Z 1] 54) id);have HC:=Qa (QG o5 w5 #[I Z 3,I Z 0,I Z 1] 54);have HM3:=Qa (hMn.low (km o5 w5 #[I Z 3,I Z 0,I Z 1] 54));have HS'3:=Qa ((HS'2.out.trans hs5).trans ((km o5 w5 #[I Z 3,I Z 0,I Z 1] 54).mono fun _ h=>h.elim));clear hMn hs5 HM2 HS'2)
  | (go_at_call 32;refine (HS3.out _ _ m HM3.out).mono ?_;rintro e w6 ⟨rfl,o6,hMn,hs6⟩;have HA:=Qa ((HA.out.Ao hs6 (N7 HID.out)).Ao (km o6 w6 #[I Z 0,I Z 0,I Z 0] 54) id);have HB:=Qa ((HB.out.Ao hs6 (N7 HID.out)).Ao (km o6 w6 #[I Z 0,I Z 0,I Z 0] 54) id);have HC:=Qa ((HC.out.Ao hs6 (N7 HID.out)).Ao (km o6 w6 #[I Z 0,I Z 0,I Z 0] 54) id);have HD:=Qa (QG o6 w6 #[I Z 0,I Z 0,I Z 0] 54);have HM4:=Qa (hMn.low (km o6 w6 #[I Z 0,I Z 0,I Z 0] 54));have HS'4:=Qa ((HS'3.out.trans hs6).trans ((km o6 w6 #[I Z 0,I Z 0,I Z 0] 54).mono fun _ h=>h.elim));clear hMn hs6 HM3 HS'3)
  | (go_at_call 36;refine (HHi.out _ _ m (HM4.out.retag (o':=ext (ext o6 w6.heap.size (9,1)) (w6.heap.size+1) (9,2)) fun b hb=>qj (by simpa using hb))).mono ?_;rintro e w7 ⟨vh,rfl,hrh,hMh,hs7⟩;obtain⟨ph,ch,rfl⟩:=hrh.AY;have HM5:=Qa hMh;have HRh:=Qa hrh;have HS7:=Qa hs7;clear hrh hMh hs7)
  | (go_at_call 33;refine (HTh.out _ _ m HM5.out).mono ?_;rintro e w8 ⟨rfl,hb8⟩;have HB8:=Qa hb8;clear hb8)
  | fail)
 have hX:(w6.alloc (.cells #[I Z 0,I Z 0,I Z 0] 54)).heap.size=w6.heap.size+1:=by simp
 obtain⟨X,hXe⟩:∃ X:Aa,X=w6.alloc (.cells #[I Z 0,I Z 0,I Z 0] 54):=⟨_,rfl⟩;rw[<-hXe]at HA HB HC HD HS'4 HS7 HRh hX;obtain⟨oX,hoX⟩:∃ oX,oX=ext o6 w6.heap.size (9,1):=⟨_,rfl⟩;rw[<-hoX]at HA HB HC HD HS'4 HS7 HM5;obtain⟨o7,ho7⟩:∃ o7,o7=ext oX (w6.heap.size+1) (9,2):=⟨_,rfl⟩;rw[<-ho7]at HS7 HM5;have e7:∀ b,b<X.heap.size->o7 b=oX b:=fun b hb=>by rw[ho7];exact qj (by omega)
 obtain⟨W9,hW9⟩:∃ W9:Aa,W9=w8.alloc (.cells #[I Z H.b,I Z H.n,I Z 1,I Z H.r.a1,I Z H.r.a2,I Z H.r.a3,I Z H.r.a4,I Z H.r.a5,I Z H.s.a0,I Z H.s.a1,I Z H.s.a2,I Z H.s.a3,I Z H.s.a4,I Z H.s.a5,.bool H.l] 58):=⟨_,rfl⟩;rw[<-hW9];have hb9:Ae w7.heap.size w7 W9:=by rw[hW9];exact qa HB8.out _
 have hT:Am W9 w8.heap.size #[I Z H.b,I Z H.n,I Z 1,I Z H.r.a1,I Z H.r.a2,I Z H.r.a3,I Z H.r.a4,I Z H.r.a5,I Z H.s.a0,I Z H.s.a1,I Z H.s.a2,I Z H.s.a3,I Z H.s.a4,I Z H.s.a5,.bool H.l] 58:=by rw[hW9];exact Am.new _ _ _
 have box:∀ {b:Nat}{cs:Array Ac}{t:TypeId},Bz oX X b cs t->Am W9 b cs t:=fun h=>by
  have k:=h.j.Ao HS7.out (by rw[e7 _ h.j.lt,h.ow,HID.out];simp)
  exact k.below hb9 k.lt
 have hs9:Stp (kv m) (fun _=>(7,0)) o7 W3 W9:=by
  have s1:Stp (kv m) (fun _=>(7,0)) o7 W3 X:=by
   rw[ho7];exact HS'4.out.ext (9,2) _ (by have:=HS'4.out.size;omega)
  exact (s1.trans (HS7.out.mono (by rintro _ rfl;exact .inr rfl))).trans (Stp.of_below hb9)
 have hM9:Bp W9 o7 m M4:=HM5.out.below hb9;rcases (HRh.out.below hb9).C1 with ⟨_,e⟩|⟨g,cap,e,hc⟩
 ·simp[zc]at e
 ·injection e with e1 _ e3
  subst e1 e3;have hcs:∀ (j:Nat)(u:Ac),(zc [⟨0,0,0,⟨1,0,0⟩⟩,⟨0,0,0,⟨2,0,1⟩⟩,⟨0,0,1,⟨3,0,1⟩⟩])[j]?=some u->W9.cell? ⟨g,j,none⟩=some u:=fun j u hu=>by
   have:=(HRh.out.below hb9).own.cells (g:=g) rfl j u hu;rwa [addr_add]at this
  have HSa:=Qa hs9;refine MR _ m M4 M4.collect.1 o7 W9 _ _ _ _ _ g ch _ _ _ _ _ _ _ _ _ _ _ _ _ _ _ _ _ _ _ _ _ _ _ _ _ _ _ _ _ _ _ _ _ _ _ _ _ _ _ _ _ _ _ _ _ _ _ _ _ _ _ _ _ _ _ _ _ _ _ _ _ _ _ _ _ _ _ _ _ _ _ _ _ _ _ _ _ _ _ _ _ _ _ _ _ _ _ _ _ _ _ _ _ _ _ _ _ _ _ _ _ hM9 (HDone.out m) (HCanon.out m) (HCol.out m) (HNow.out m) (box HA.out) (box HB.out) (box HC.out) (box HD.out) (hT.cell 2) hT.lt (HRh.out.below hb9).blt hc (hcs 6 _ rfl) (hcs 7 _ rfl) (hcs 8 _ rfl) (hcs 9 _ rfl) (hcs 10 _ rfl) (hcs 11 _ rfl) ?_
  rintro X9 o9 z49 z50 z51 z52 z53 z54 z55 z56 z57 z58 z59 z60 z61 z62 z63 z64 z65 z66 z67 z68 z69 z70 z71 z72 z73 z74 z75 z76 z77 z78 z79 z80 z81 z82 z83 z84 z85 z86 z87 z88 z89 z90 z91 z92 z93 z94 z95 z96 z97 z98 z99 z100 z101 z102 z103 z104 z105 z106 z107 z108 hM10 hs10
  have hfin:=(HSa.out.trans hs10).below fun b _=>by show ¬kv m (7,0);unfold kv;rw[HID.out];simp
  go_wp2_with fail;go_ret;exact⟨rfl,qd HB'.out hfin⟩
end
section
open Hp
section
variable {k i a b c d n : Nat} {S S' : Al}
theorem KJ (h:En k i n n n n S)(hl:(S.t i).live=true)(hn:n<100)(hk:k<=200)(q:Nat):Gd (k+1) i (n+1) (pu i S) (S.BK i q):=by
 have h0:=h.up (Nat.le_succ k) (Nat.le_succ n) (Nat.le_succ n) (Nat.le_succ n) (Nat.le_succ n);obtain⟨h1,h2,h3,h4⟩:=Gr h hl hn hk (s:=Dt) QX (by decide)
 unfold Al.BK;split
 ·exact⟨rfl,h0,by show pu i S<=_;omega⟩
 ·split
  ·exact⟨rfl,h0,by show pu i S<=_;omega⟩
  ·rw[if_neg (by rw[h2];simp)]
   refine⟨rfl,(h1.heap (Al.CG h1.ok _ 0 q) (Qk _) (h1.he.A4 _ 0 q)).up (Qk _) (Nat.le_succ n) (Nat.le_succ n) (Qk _) (Nat.le_succ n),?_⟩;have:=R5 h1.ok.H.ok (S.Bh i Dt).2.1 0 q;show ((S.Bh i Dt).1.H.A9 (S.Bh i Dt).2.1 0 q).1.pz+((S.Bh i Dt).1.t i).log.Au.length<=pu i S+2;unfold pu at h4 ⊢;omega
theorem Ln (h:En k i (n+1) n n n S)(hl:(S.t i).live=true)(hn:n<100)(q:Nat):Gd k i (n+1) (pu i S) (S.CC i q):=by
 have h0:=h.up (Qk k) (Qk _) (Nat.le_succ n) (Nat.le_succ n) (Nat.le_succ n);have hln:=h.ln;have hmr:=(h.lg i h.hi).1;have hok:=(VZ h.ok h.hi q).1;unfold Al.CC at hok ⊢;split
 ·exact⟨rfl,h0,Qu (Nat.le_succ _)⟩
 ·rename_i hq
  have hnb:wv (S.t i).log.keeps q (S.t i).log.mr=true:=by unfold wv;rw[hmr];exact decide_eq_true (.inr (by omega))
  rw[if_neg hq,if_pos hnb]at hok;rw[if_pos hnb];refine⟨rfl,h.tx hl hok hl rfl rfl rfl rfl ⟨hln.1,?_,by have:=hln.2.2.1;show (S.t i).log.holds.length<=n+1;omega,by have:=hln.2.2.2;show (S.t i).log.Au.length<=n+1;omega⟩,?_⟩
  rotate_left
  ·show pu i (S.tx i ((S.t i).keep q))<=_
   unfold pu;rw[Al.CO h.hi];exact Qu (Nat.le_succ _)
  show (yk (S.t i).log.keeps q (S.t i).log.mr).length<=n+1;unfold yk;split
  ·omega
  ·split
   ·rw[Qd,List.length_singleton];omega
   ·omega
theorem Kp (h:En k i n n n n S)(hl:(S.t i).live=true)(hn:n<100)(p:Nat):Gd k i (n+1) (pu i S) (S.Ca i p):=by
 obtain⟨h1,h2,h3,h4,hpu⟩:=h.look hl hn p;have h1':=h1.up (Qk k) (Qk _) (Nat.le_succ n) (Nat.le_succ n) (Nat.le_succ n);have hlv:=((Mv.look i S p).lv).trans hl;have h5:=h1.heap (Al.CV h1.ok p 0) (Qk k) (h1.he.ptr h1.ok.H.ok p 0);unfold Al.Ca;split
 ·exact⟨h2,h1',by rw[hpu];omega⟩
 ·split
  ·exact⟨rfl,h1',by rw[hpu];omega⟩
  ·split
   ·exact⟨lf (N4 _ _ _),h5.up (Qk k) (Qk _) (Nat.le_succ n) (Nat.le_succ n) (Nat.le_succ n),Rj h1.ok.H.ok p 0 hpu⟩
   ·have hg:=Ln h5 hlv hn ((S.AK i p).1.H.A5 p 0).2.1
    have hp0:=RY h1.ok.H.ok p 0;have hp1:pu i ((S.AK i p).1.h ((S.AK i p).1.H.A5 p 0).1)<=pu i S:=by
     show ((S.AK i p).1.H.A5 p 0).1.pz+((S.AK i p).1.t i).log.Au.length<=_;unfold pu at hpu ⊢;omega
    exact⟨hg.1,hg.2.1,Qo hg.2.2 (by omega)⟩
theorem KF (h:En k i n n n n S) (hl:(S.t i).live=true):Gd k i (n+1) (pu i S) (S.B9 i):=by
 have hok:=(mj h.ok h.hi).1;have hve:=h.ok.ve;have hst:=h.st hl;have hno:¬(S.Av≠-1/\S.Av≠(i:Int)\/(S.t i).start<S.version):=by
  rcases h.ho with e|⟨e,_⟩<;>omega
 have base:∀ (q:List (Nat×Nat)),Al.ok { S with Av:=i,queue:=q }->En k i (n+1) (n+1) (n+1) (n+1) { S with Av:=i,queue:=q }:=fun q hk =>
  ⟨hk,h.hi,h.DY,h.emp,h.lg,h.he,h.hv,h.st,by have e:=h.ln;show (S.t i).log.reads.length<=n+1/\(S.t i).log.keeps.length<=n+1/\(S.t i).log.holds.length<=n+1/\(S.t i).log.Au.length<=n+1;omega,h.nw,h.mo,.inr ⟨rfl,hl⟩⟩
 unfold Al.B9 at hok ⊢;rw[if_neg hno]at hok ⊢
 cases hq:S.queue with
 | nil =>
  rw[hq]at hok;exact⟨rfl,base [] hok,Qu (Nat.le_succ _)⟩
 | cons z l =>
  rw[hq]at hok;simp only at hok ⊢;split
  ·rename_i hz
   rw[if_pos hz]at hok;exact⟨rfl,base (z::l) hok,Qu (Nat.le_succ _)⟩
  ·rename_i hz
   rw[if_neg hz]at hok;have h9:=hok;have hx:=Al.CO (S:=({ S with Av:=(i:Int),queue:=l }:Al)) h.hi ((S.t i).BP z);have hne:∀ j,j≠i->(Al.tx { S with Av:=(i:Int),queue:=l } i ((S.t i).BP z)).t j=S.t j:=fun j e=>Al.Dm _ (fun z=>e z.symm) _
   refine⟨rfl,⟨h9,by show i<(S.Aw.set i _).length;rw[Qq];exact h.hi,fun j e=>by rw[hne j e];exact h.DY j e,fun j hj=>?_,fun j hj=>?_,?_,?_,?_,?_,h.nw,h.mo,?_⟩,?_⟩
   ·by_cases e:j=i
    ·rw[e,hx]at hj
     have h2:(S.t i).live=false:=hj;rw[hl]at h2;cases h2
    ·rw[hne j e]at hj ⊢;exact h.emp j hj
   ·by_cases e:j=i
    ·rw[e,hx];exact h.lg i h.hi
    ·rw[hne j e]
     exact h.lg j (by have:j<(S.Aw.set i ((S.t i).BP z)).length:=hj;rwa [Qq]at this)
   ·rw[hx];exact h.he
   ·rw[hx];exact h.hv
   ·rw[hx];exact fun _=>hst
   ·rw[hx];have e:=h.ln;show (S.t i).log.reads.length<=n+1/\(S.t i).log.keeps.length<=n+1/\(S.t i).log.holds.length<=n+1/\(S.t i).log.Au.length<=n+1;omega
   ·rw[hx];exact .inr ⟨rfl,hl⟩
   ·show S.H.pz+((Al.tx { S with Av:=(i:Int),queue:=l } i ((S.t i).BP z)).t i).log.Au.length<=_
    rw[hx];exact Qu (Nat.le_succ _)
theorem Gd.Cv {m:Nat}{r:Bv}(g:Gd k i n m r)(hl:(S.t i).live=true):En k i n n n n (S.AH i r).S/\(S.AH i r).e=r.e/\bf r.e=false/\pu i (S.AH i r).S<=m+2:=by
 have ha:ry r.e=false:=by have:=g.1;unfold bf at this;rw[Bool.or_eq_false_iff]at this;exact this.1
 unfold Al.AH;rw[if_pos hl];unfold Bv.fin;rw[if_neg (by rw[ha];simp)]
 split
 ·exact⟨g.2.1,rfl,g.1,g.2.2⟩
 ·exact⟨g.2.1,rfl,g.1,g.2.2⟩
theorem En.ended (h:En k i a b c d S){T:Al}(hok:(T.tx i (S.t i).ended).ok)(e1:T.Aw=S.Aw){k':Nat}(hk:T.now<=k')(he:HE T.H T.now i [] k')(hm:T.most=S.most)(hh:T.Av=-1):En k' i 0 0 0 0 (T.tx i (S.t i).ended):=by
 have hT:∀ j,T.t j=S.t j:=fun j=>by unfold Al.t;rw[e1]
 have hi:i<T.Aw.length:=by rw[e1];exact h.hi
 have hx:=Al.CO (S:=T) hi (S.t i).ended;have hne:∀ j,j≠i->(T.tx i (S.t i).ended).t j=S.t j:=fun j e=>(Al.Dm T (fun z=>e z.symm) _).trans (hT j)
 have hlen:=Al.Cg T i (S.t i).ended;refine⟨hok,by rw[hlen];exact hi,fun j e=>by rw[hne j e];exact h.DY j e,fun j hj=>?_,fun j hj=>?_,by rw[hx];exact he,by rw[hx];exact fun z hz=>(nomatch hz),fun hl=>?_,by rw[hx];exact⟨Qk _,Qk _,Qk _,Qk _⟩,hk,hm.trans h.mo,.inl hh⟩
 ·by_cases e:j=i
  ·rw[e,hx];exact⟨rfl,rfl,rfl,rfl⟩
  ·rw[hne j e]at hj ⊢;exact h.emp j hj
 ·by_cases e:j=i
  ·rw[e,hx];exact h.lg i h.hi
  ·rw[hne j e];exact h.lg j (by rw[hlen,e1]at hj;exact hj)
 ·rw[hx]at hl;cases hl
theorem HE.GX {H:Hp}{n i k:Nat}{hs:List Nat}(h:HE H n i hs k){p v:Nat}(hp:p ∉ hs)(hv:v<=n):HE (H.AB p (2*v)).1 n i hs k:=by
 unfold Hp.AB;split
 ·exact h
 ·rename_i ob ho
  have hf:hs.filter (fun q=>decide (q≠p))=hs:=List.filter_eq_self.2 fun q hq=>by simp only[decide_eq_true_eq];rintro rfl;exact hp hq
  have:=h.m.free ho hv;rw[hf]at this;exact⟨this,h.hu.us,h.hu.sz,h.hu.se⟩
theorem HE.mono {H:Hp}{n m i k k':Nat}{hs:List Nat}(h:HE H n i hs k)(hn:n<=m)(hk:k<=k'):HE H m i hs k':=⟨h.m.mono hn,h.hu.mono hk⟩
theorem HE.B7 {H:Hp}{n i k v:Nat}{zs:List (Nat×Nat)}(h:HE H n i (zs.map (·.1)) k)(hv:v<=n)(hz:∀ z ∈ zs,z.2<=n):HE (H.B7 zs v) n i [] k:=
 HE.rel (fun H z=>(H.AB z.1 (2*v)).1) (fun z h hp _=>h.free hp hv) zs h (fun p hp=>by obtain⟨z,hz,e⟩:=Qt.1 hp;exact⟨z,hz,e⟩) hz fun h hp _=>h.GX hp hv
theorem HE.Cm {H:Hp}{n i k:Nat}{zs:List (Nat×Nat)}(h:HE H n i (zs.map (·.1)) k)(hz:∀ z ∈ zs,z.2<=n):HE (H.Cm zs) n i [] k:=by
 refine HE.rel Hp.Dq (fun z h hp hv=>?_) zs h (fun p hp=>by obtain⟨z,hz,e⟩:=Qt.1 hp;exact⟨z,hz,e⟩) hz fun {H z hs} h hp hv=>?_
 ·unfold Hp.Dq
  split
  ·exact (h.free hp hv).BL _ _
  ·exact h.free hp hv
 ·unfold Hp.Dq
  split
  ·exact (h.GX hp hv).BL _ _
  ·exact h.GX hp hv
theorem Sb:∀ (zs:List (Nat×Nat)){H:Hp},H.wf->(∀ z ∈ zs,z.2<=1099511627776)->(H.Cm zs).pz<=H.pz
 | [],_,_,_=>Qk _
 | z::zs,H,h,hz=>by
  have hz1:=hz z (by simp)
  have h1:=Hp.Dp h z.1 (v:=2*z.2) (by omega)
  have h2:=Rl h.ok z.1 (2*z.2);show (Hp.Cm (H.Dq z) zs).pz<=H.pz;unfold Hp.Dq;split
  ·exact Qo (Sb zs (Hp.Ds h1 _ _) fun y hy=>hz y (by simp[hy])) (Qo (Sn h1.ok _ _) h2)
  ·exact Qo (Sb zs h1 fun y hy=>hz y (by simp[hy])) h2
theorem V4 {v:Nat}(hv:v<=1099511627776):∀ (zs:List (Nat×Nat)){H:Hp},H.wf->(H.B7 zs v).pz<=H.pz
 | [],_,_=>Qk _
 | z::zs,H,h=>by
  have h1:=Hp.Dp h z.1 (v:=2*v) (by omega)
  exact Qo (V4 hv zs h1) (Rl h.ok z.1 (2*v))
theorem UI {H:Hp}(h:H.wf):∀ (us:List Un),(∀ u ∈ us,-9223372036854775808<=u.old/\u.old<=9223372036854775807)->(H.BA us).wf/\(H.BA us).pz<=H.pz+us.length
 | [],_=>⟨h,Qk _⟩
 | u::us,hu=>by
  obtain⟨h1,h2⟩:=UI h us fun y hy=>hu y (by simp[hy])
  show (Hp.B1 (H.BA us) u).wf/\(Hp.B1 (H.BA us) u).pz<=H.pz+(us.length+1);unfold Hp.B1;split
  ·exact⟨Hp.Fi h1 _ _ _,by have:=R5 h1.ok u.pos u.i u.old.toNat;omega⟩
  ·split
   ·exact⟨Hp.Fg h1 _ _ (hu u (by simp)),by have:=Ja h1.ok u.pos u.i u.old;omega⟩
   ·split
    ·exact⟨Hp.Ds h1 _ _,by have:=Sn h1.ok u.pos (decide (u.old≠0));omega⟩
    ·exact⟨h1,by omega⟩
theorem En.abort (h:En k i a b c d S)(hl:(S.t i).live=true):En k i 0 0 0 0 (S.abort i)/\pu i (S.abort i)<=pu i S:=by
 have hok:=Al.Dx h.ok h.hi;have hfit:=h.ok.lg _ (Qe (Al.AV h.hi));have hpz:=UI h.ok.H (S.t i).log.Au hfit.un;have hpz2:=Sb (S.t i).log.holds hpz.1 hfit.hv;unfold Al.abort at hok ⊢;have he:=(h.he.BA (S.t i).log.Au).Cm h.hv;refine⟨h.ended hok ?_ ?_ ?_ ?_ ?_,?_⟩;rotate_right
 ·have hT:(((S.h ((S.H.BA (S.t i).log.Au).Cm (S.t i).log.holds)).Bs i).tx i (S.t i).ended).t i=(S.t i).ended:=Al.CO (by unfold Al.Bs;split<;>exact h.hi) _
  have hH:((S.h ((S.H.BA (S.t i).log.Au).Cm (S.t i).log.holds)).Bs i).H=(S.H.BA (S.t i).log.Au).Cm (S.t i).log.holds:=by unfold Al.Bs;split<;>rfl
  unfold pu;rw[hT];show ((S.h ((S.H.BA (S.t i).log.Au).Cm (S.t i).log.holds)).Bs i).H.pz+0<=_;rw[hH];omega
 ·unfold Al.Bs;split<;>rfl
 ·unfold Al.Bs;split<;>exact h.nw
 ·unfold Al.Bs;split<;>exact he
 ·unfold Al.Bs;split<;>rfl
 ·unfold Al.Bs
  rcases h.ho with e|⟨e,_⟩
  ·split
   ·rfl
   ·exact e
  ·rw[if_pos (show (S.h ((S.H.BA (S.t i).log.Au).Cm (S.t i).log.holds)).Av=(i:Int) from e)]
theorem En.Be (h:En k i a b c d S)(hl:(S.t i).live=true):(S.AQ i).e=0/\En (k+1) i 0 0 0 0 (S.AQ i).S/\pu i (S.AQ i).S<=pu i S:=by
 have hok:=(mg h.ok h.hi hl).1;have hn1:=h.ok.n1;have hn2:=h.mo;have hnw:=h.nw;unfold Al.AQ at hok ⊢;by_cases h0:(S.t i).log.holds=[]/\S.Av≠(i:Int)
 ·rw[if_pos h0]at hok ⊢
  have he:=h.he;rw[h0.1]at he;exact⟨rfl,h.ended hok rfl (by omega) (he.mono (Qk _) (Nat.le_succ k)) rfl (h.ho.resolve_right fun e=>h0.2 e.1),by
   unfold pu;rw[Al.CO h.hi];exact Nat.add_le_add_left (Nat.zero_le _) _⟩
 ·rw[if_neg h0]at hok ⊢
  have hcl:S.BW i=false:=by
   unfold Al.BW;rw[List.any_eq_false];intro p _;unfold Hp.sec
   cases hp:lk S.H.cur p with
   | none=>simp[vg]
   | some ob=>simp only;rw[h.Fs hl hp];simp
  rw[if_neg (by rw[hcl];simp)]at hok ⊢
  have he:=(h.he.mono (Nat.le_succ S.now) (Nat.le_succ k)).B7 (v:=S.now+1) (Qk _) (fun z hz=>by have:=h.hv z hz;omega)
  refine⟨rfl,h.ended hok ?_ ?_ ?_ ?_ ?_,?_⟩;rotate_right
  ·have hT:((S.BS i).tx i (S.t i).ended).t i=(S.t i).ended:=Al.CO (by unfold Al.BS;split<;>exact h.hi) _
   have hH:(S.BS i).H=S.H.B7 (S.t i).log.holds (S.now+1):=by unfold Al.BS;split<;>rfl
   have:=V4 (v:=S.now+1) (by omega) (S.t i).log.holds h.ok.H
   unfold pu;rw[hT];show (S.BS i).H.pz+0<=_;rw[hH];omega
  ·unfold Al.BS;split<;>rfl
  ·unfold Al.BS;split<;>(show S.now+1<=k+1;omega)
  ·unfold Al.BS;split<;>exact he
  ·unfold Al.BS;split<;>rfl
  ·unfold Al.BS
   rcases h.ho with e|⟨e,_⟩
   ·split
    ·rfl
    ·exact e
   ·rw[if_pos e]
theorem Vg:∀ (l:List Tx),(∀ x ∈ l,x.live=false)->js l=0
 | [],_=>rfl
 | x::l,h=>by rw[jy,h x (by simp),Vg l fun y hy=>h y (by simp[hy])];rfl
theorem En.begin (h:En k i a b c d S) (hl:(S.t i).live=false) (hk:k<=200):(S.AO i).2=0/\En k i 0 0 0 0 (S.AO i).1:=by
 have e0:=h.emp i hl;have hall:∀ x ∈ S.Aw,x.live=false:=fun x hx=>by
  obtain⟨j,hj⟩:=List.getElem?_of_mem hx;have h1:=Al.AV (S:=S) (i:=j) (Qc.1 hj).1;rw[hj]at h1;injection h1 with h1;rw[h1];by_cases e:j=i
  ·rw[e];exact hl
  ·exact h.DY j e
 have hnw:=h.nw;have hmo:=h.mo;have hm:S.now+(js S.Aw+1)<=S.most:=by rw[Vg _ hall,hmo];omega
 have hok:=RX h.ok h.hi;unfold Al.AO at hok ⊢;rw[if_neg (by rw[hl];simp),if_pos hm]at hok ⊢
 have hx:=Al.CO (S:=S) h.hi ((S.t i).begun S.now S.next);have hne:∀ j,j≠i->(S.tx i ((S.t i).begun S.now S.next)).t j=S.t j:=fun j e=>Al.Dm S (fun z=>e z.symm) _
 have hlen:=Al.Cg S i ((S.t i).begun S.now S.next);refine⟨rfl,hok,by rw[hlen];exact h.hi,fun j e=>by rw[hne j e];exact h.DY j e,fun j hj=>?_,fun j hj=>?_,by rw[hx];exact h.he,by rw[hx];exact h.hv,fun _=>by rw[hx];rfl,?_,h.nw,h.mo,?_⟩
 ·by_cases e:j=i
  ·rw[e,hx]at hj;cases hj
  ·rw[hne j e]at hj ⊢;exact h.emp j hj
 ·by_cases e:j=i
  ·rw[e,hx];exact h.lg i h.hi
  ·rw[hne j e];exact h.lg j (by rw[hlen]at hj;exact hj)
 ·rw[hx]
  show (S.t i).log.reads.length<=0/\(S.t i).log.keeps.length<=0/\(S.t i).log.holds.length<=0/\(S.t i).log.Au.length<=0;rw[e0.1,e0.2.1,e0.2.2.1,e0.2.2.2];exact⟨Qk _,Qk _,Qk _,Qk _⟩
 ·rw[hx]
  exact .inl (h.ho.resolve_right fun e=>by rw[hl]at e;cases e.2)
theorem Pf (S:Al)(g:Nat->Nat)(j:Nat):(S.at' g).t j=(S.t j).at' g:=by
 unfold Al.t;show (S.Aw.map (Tx.at' g)).getD j _=_;rw[Qi,Qi,Qj]
 cases S.Aw[j]?<;>rfl
theorem En.collect (h:En k i a b c d S)(roots:List Nat):En k i a b c d (S.AG roots).1:=by
 have hok:=U8 h.ok roots;unfold Al.AG at hok ⊢;split
 ·rename_i hm
  rw[if_pos hm]at hok;have hmv:S.H.AF=false:=h.ok.ph.2.1 (PU hm);have hfo:=(Hp.Eu h.ok.H hmv).ok;obtain⟨H',hH'⟩:∃ H',H'=(S.H.flip.As (S.places roots)).1:=⟨_,rfl⟩;have hsub:∀ p ∈ (S.t i).log.holds.map (·.1),p ∈ S.places roots:=fun p hp=>by
   unfold Al.places;refine Qs.2 (.inr (List.mem_flatMap.2 ⟨S.t i,Qe (Al.AV h.hi),?_⟩));unfold Tx.places Lg.roots;simp only[Qs];exact .inl (.inl (.inr hp))
  have hmk:=h.he.m.begun hfo hsub;have hhu:=(h.he.hu.flip h.ok.H.ok hmv).As (S.places roots) hfo;have hbt:∀ j,(S.begun roots).t j=S.t j:=fun j=>rfl
  have e1:∀ j,((S.begun roots).at' (S.begun roots).H.now).t j=(S.t j).at' (S.begun roots).H.now:=fun j=>by rw[Pf,hbt]
  have e2:((S.begun roots).at' (S.begun roots).H.now).Aw.length=S.Aw.length:=by show (S.Aw.map _).length=_;rw[Qg]
  refine⟨hok,by rw[e2];exact h.hi,fun j e=>by rw[e1];exact h.DY j e,fun j hj=>?_,fun j hj=>by rw[e1];exact h.lg j (by rw[e2]at hj;exact hj),?_,?_,fun hl=>by rw[e1]at hl ⊢;exact h.st hl,?_,h.nw,h.mo,by rw[e1];exact h.ho⟩
  ·rw[e1]at hj ⊢
   obtain⟨f1,f2,f3,f4⟩:=h.emp j hj;show (S.t j).log.reads.map _=[]/\(S.t j).log.keeps.map _=[]/\Ew _ (S.t j).log.holds=[]/\(S.t j).log.Au.map _=[];rw[f1,f2,f3,f4];exact⟨rfl,rfl,rfl,rfl⟩
  ·rw[e1]
   have e3:((S.t i).at' (S.begun roots).H.now).log.holds.map (·.1)=((S.t i).log.holds.map (·.1)).map (S.begun roots).H.now:=by
    show (Ew _ (S.t i).log.holds).map _=_;unfold Ew;rw[List.map_map,List.map_map];rfl
   rw[e3];exact⟨hmk,hhu⟩
  ·rw[e1]
   intro z hz;obtain⟨y,hy,rfl⟩:=Qt.1 (show z ∈ (S.t i).log.holds.map _ from hz);exact h.hv y hy
  ·rw[e1]
   have:=h.ln;show ((S.t i).log.reads.map _).length<=a/\((S.t i).log.keeps.map _).length<=b/\(Ew _ (S.t i).log.holds).length<=c/\((S.t i).log.Au.map _).length<=d;unfold Ew;rw[Qg,Qg,Qg,Qg];exact this
 ·exact h
theorem En.F6 (h:En k i a b c d S){T:Al}(hok:T.ok)(e1:T.Aw=S.Aw)(e2:T.now=S.now)(e3:T.most=S.most)(e4:T.Av=S.Av)(he:HE T.H S.now i ((S.t i).log.holds.map (·.1)) k):En k i a b c d T:=by
 have hT:∀ j,T.t j=S.t j:=fun j=>by unfold Al.t;rw[e1]
 exact⟨hok,by rw[e1];exact h.hi,fun j e=>by rw[hT];exact h.DY j e,fun j hj=>by rw[hT]at hj ⊢;exact h.emp j hj,fun j hj=>by rw[hT];exact h.lg j (by rw[e1]at hj;exact hj),by rw[hT,e2];exact he,by rw[hT,e2];exact h.hv,by rw[hT,e2];exact h.st,by rw[hT];exact h.ln,by rw[e2];exact h.nw,e3.trans h.mo,by rw[hT,e4];exact h.ho⟩
theorem En.ER (h:En k i a b c d S):En k i a b c d S.B4.1:=by
 have hok:=(dj h.ok).1;unfold Al.B4 at hok ⊢;split
 ·exact h
 ·rename_i h0
  rw[if_neg h0]at hok;split
  ·rename_i h1
   rw[if_pos h1]at hok;exact h.F6 hok rfl rfl rfl rfl (h.he.scan h.ok.H.ok)
  ·rename_i h1
   rw[if_neg h1]at hok;split
   ·rename_i h2
    rw[if_pos h2]at hok;exact h.F6 hok rfl rfl rfl rfl (h.he.A1 h.ok.H.ok)
   ·rename_i h2
    rw[if_neg h2]at hok;exact h.F6 hok rfl rfl rfl rfl h.he.drop
theorem Yf (S:Al)(p:Nat):(S.AW p).Aw=S.Aw/\(S.AW p).now=S.now/\(S.AW p).most=S.most/\(S.AW p).Av=S.Av/\(S.AW p).H=S.H:=by
 unfold Al.AW;split<;>exact⟨rfl,rfl,rfl,rfl,rfl⟩
theorem nj:∀ (l:List Nat)(S:Al),(S.A0 l).Aw=S.Aw/\(S.A0 l).now=S.now/\(S.A0 l).most=S.most/\(S.A0 l).Av=S.Av/\(S.A0 l).H=S.H
 | [],_=>⟨rfl,rfl,rfl,rfl,rfl⟩
 | p::l,S=>by
  obtain⟨a1,a2,a3,a4,a5⟩:=nj l (S.AW p);obtain⟨s1,s2,s3,s4,s5⟩:=Yf S p;exact⟨a1.trans s1,a2.trans s2,a3.trans s3,a4.trans s4,a5.trans s5⟩
theorem En.step (h:En k i a b c d S):En k i a b c d S.Bg.1:=by
 have h1:=h.ER;obtain⟨e1,e2,e3,e4,e5⟩:=nj S.B4.2.1 S.B4.1;exact h1.F6 (ld h.ok) e1 e2 e3 e4 (by rw[show S.Bg.1.H=S.B4.1.H from e5];exact h1.he)
end
section
variable {k i n : Nat} {S : Al}
theorem Yj (hk:S.ok)(roots:List Nat):pu i (S.AG roots).1<=pu i S:=by
 unfold Al.AG;split
 ·rename_i hm
  have hmv:S.H.AF=false:=hk.ph.2.1 (PU hm);have h1:(S.begun roots).H.pz<=S.H.pz:=Qo (De _) (KP hk.H.ok hmv);have h2:(((S.begun roots).at' (S.begun roots).H.now).t i).log.Au.length=(S.t i).log.Au.length:=by
   rw[Pf];show (((S.begun roots).t i).log.Au.map _).length=_;rw[Qg];rfl
  unfold pu;rw[h2];exact Nat.add_le_add_right h1 _
 ·exact Qk _
theorem VG:∀ (l:List Nat)(S:Al),(S.A0 l).lost=S.lost/\(S.A0 l).came.length+S.next=S.came.length+(S.A0 l).next
 | [],_=>⟨rfl,rfl⟩
 | p::l,S=>by
  obtain⟨h1,h2⟩:=VG l (S.AW p);have h3:(S.AW p).lost=S.lost/\(S.AW p).came.length+S.next=S.came.length+(S.AW p).next:=by
   unfold Al.AW;split
   ·exact⟨rfl,rfl⟩
   ·refine⟨rfl,?_⟩
    show (S.came++[_]).length+S.next=S.came.length+(S.next+1);rw[Qd,List.length_singleton];omega
  exact⟨h1.trans h3.1,by show ((S.AW p).A0 l).came.length+S.next=S.came.length+((S.AW p).A0 l).next;omega⟩
theorem M8 (hk:S.ok):pu i S.B4.1+S.B4.1.lost.length<=pu i S+S.lost.length/\S.B4.1.came=S.came/\S.B4.1.next=S.next:=by
 have key:∀ {T:Al},T.Aw=S.Aw->T.H.pz+T.lost.length<=S.H.pz+S.lost.length->pu i T+T.lost.length<=pu i S+S.lost.length:=fun {T} e h=>by
  have:T.t i=S.t i:=by unfold Al.t;rw[e]
  unfold pu;rw[this];omega
 unfold Al.B4;split
 ·exact⟨Qk _,rfl,rfl⟩
 ·split
  ·exact⟨key rfl (Nat.add_le_add_right (L9 hk.H.ok) _),rfl,rfl⟩
  ·split
   ·exact⟨key rfl (Nat.add_le_add_right XU _),rfl,rfl⟩
   ·refine⟨key rfl ?_,rfl,rfl⟩
    have:=LO hk.H;show S.H.drop.1.pz+(S.lost++S.H.drop.2.1).length<=_;rw[Qd];omega
theorem KG (hk:S.ok):pu i S.Bg.1+S.Bg.1.lost.length<=pu i S+S.lost.length/\S.Bg.1.came.length+S.next=S.came.length+S.Bg.1.next:=by
 obtain⟨h1,h2,h3⟩:=M8 (i:=i) hk;obtain⟨h4,h5⟩:=VG S.B4.2.1 S.B4.1;obtain⟨e1,_,_,_,e5⟩:=nj S.B4.2.1 S.B4.1;rw[h2,h3]at h5;refine⟨?_,h5⟩;have e6:pu i S.Bg.1=pu i S.B4.1:=by
  unfold pu;have:S.Bg.1.t i=S.B4.1.t i:=by unfold Al.t;rw[show S.Bg.1.Aw=S.B4.1.Aw from e1]
  rw[this,show S.Bg.1.H=S.B4.1.H from e5]
 rw[e6,show S.Bg.1.lost=S.B4.1.lost from h4];exact h1
def DV:List (List Ay)->Nat
 | []=>0
 | ds::l=>ds.length+2+DV l
def AD.pos (l:List (List Ay))(h:AD):Nat:=DV (l.take h.b.toNat)+if h.l then 1+h.n.toNat else 0
def AD.C2 (h:AD):Int:=h.b+if h.l then 1 else 0
theorem SS:∀ (l m:List (List Ay)),DV (l++m)=DV l+DV m
 | [],m=>by simp[DV]
 | ds::l,m=>by show ds.length+2+DV (l++m)=ds.length+2+DV l+DV m;rw[SS l m];omega
theorem Uf {l:List (List Ay)}{b:Nat}(h:b<l.length):DV (l.take (b+1))=DV (l.take b)+(l.getD b []).length+2:=by
 rw[List.take_add_one,SS,Qi,Qb h];show _+(_+2+0)=_;simp only[Option.getD_some];omega
theorem Hc (l:List (List Ay))(b:Nat):DV (l.take b)<=DV l:=by
 conv=>rhs;rw[<-List.take_append_drop b l,SS]
 omega
theorem NS {l:List (List Ay)} {h:AD} (t:Cp l h):h.pos l<=DV l:=by
 unfold AD.pos;split
 ·rename_i hl
  have h1:=t.at' hl;have h2:=t.n;have h3:=t.b;have h4:=Uf (l:=l) (b:=h.b.toNat) (by omega)
  have h5:=Hc l (h.b.toNat+1);omega
 ·exact Hc _ _
structure XI (i:Nat)(l:List (List Ay))(h:AD)(S:Al)(k:Nat)(T:TR):Prop where
 bad:bf T.a.e=false
 pu:pu i T.S<=pu i S+2
 en:∃ n:Nat,En (k+1) i n n n n T.S/\T.h.n=n
 go:((l.length:Int)<=h.b/\T.h=h/\T.a.k=0)\/(h.b<l.length/\h.pos l<T.h.pos l/\T.h.C2=h.C2+if T.a.k=1 then 1 else 0)
theorem LA {e:Int}(h:bf e=false):¬Px e:=by
 unfold bf ry at h;simp only[Bool.or_eq_false_iff,Qh,ne_eq]at h;unfold Px;omega
def Dn (i n k m:Nat)(S:Al)(T:TR)(kd:Int):Prop:=bf T.a.e=false/\pu i T.S<=m+2/\(kd≠14->En (k+1) i (n+1) (n+1) (n+1) (n+1) T.S)/\(kd=14->En (k+1) i 0 0 0 0 T.S/\T.a.e=0)
theorem N6 {r:Bv}{m:Nat}(g:Gd (k+1) i (n+1) m r)(hl:(S.t i).live=true)(h:AD)(A:Nat){kd:Int}(hk:kd≠14):Dn i n k m S (CQ (S.AH i r) h A) kd:=by
 obtain⟨h1,h2,h3,h4⟩:=g.Cv hl;refine⟨?_,h4,fun _=>h1,fun e=>absurd e hk⟩
 show bf (Ek _ (S.AH i r).e).e=false;rw[h2];unfold Ek;split
 ·rfl
 ·exact h3
theorem QR {r:Bv}{m:Nat}(g:Gd (k+1) i (n+1) m r)(hl:(S.t i).live=true)(h:AD)(v:Int){kd:Int}(hk:kd≠14):Dn i n k m S (vy (S.AH i r).S v (S.AH i r).e h) kd:=by
 obtain⟨h1,h2,h3,h4⟩:=g.Cv hl;exact⟨by show bf (S.AH i r).e=false;rw[h2];exact h3,h4,fun _=>h1,fun e=>absurd e hk⟩
theorem Gd.up {m k':Nat}{r:Bv}(g:Gd k i n m r)(h:k<=k'):Gd k' i n m r:=⟨g.1,g.2.1.up h (Qk _) (Qk _) (Qk _) (Qk _),g.2.2⟩
theorem Jy (h:En k i n n n n S) (hl:(S.t i).live=true) (hn:n<100) (hk:k<=200) (g:AD) {d:Ay} (hd:d.ok):Dn i n k (pu i S) S (S.A6 i g d) d.k:=by
 have hkd:=hd.k;have h0:=h.up (Nat.le_succ k) (Nat.le_succ n) (Nat.le_succ n) (Nat.le_succ n) (Nat.le_succ n);have same:∀ (v:Int) (g:AD) {kd:Int},kd≠14->Dn i n k (pu i S) S (vy S v 0 g) kd:=fun v g kd e=>⟨rfl,Qu (Nat.le_succ _),fun _=>h0,fun z=>absurd z e⟩
 by_cases k1:d.k=1
 ·rw[gv _ _ _ _ k1];exact N6 (Tl h hl hn hk (QO hd (.inl k1) _) (by have:=hd.s (.inl k1);simp only;omega)) hl g _ (by omega)
 by_cases k2:d.k=2
 ·rw[dc _ _ _ _ k2];exact N6 (Tl h hl hn hk (QO hd (.inr k2) _) (by have:=hd.s (.inr k2);simp only;omega)) hl g _ (by omega)
 by_cases k3:d.k=3
 ·rw[fx _ _ _ _ k3];exact N6 (KJ h hl hn hk _) hl g _ (by omega)
 by_cases k4:d.k=4
 ·rw[gw _ _ _ _ k4];exact N6 ((MM h hl hn _ _).up (Nat.le_succ k)) hl g _ (by omega)
 by_cases k9:d.k=9
 ·rw[gx _ _ _ _ k9];exact N6 ((Kp h hl hn _).up (Nat.le_succ k)) hl g _ (by omega)
 by_cases k10:d.k=10
 ·rw[px _ _ _ _ k10];exact N6 ((KF h hl).up (Nat.le_succ k)) hl g _ (by omega)
 by_cases k5:d.k=5
 ·rw[dd _ _ _ _ k5];exact QR ((Nf h hl hn _ _ _).up (Nat.le_succ k)) hl g _ (by omega)
 by_cases k6:d.k=6
 ·rw[fz _ _ _ _ k6];exact QR ((Lk h hl hn _ _).up (Nat.le_succ k)) hl g _ (by omega)
 by_cases k7:d.k=7
 ·rw[ff _ _ _ _ k7];exact QR ((Gy h hl hn _ _ hd.n).up (Nat.le_succ k)) hl g _ (by omega)
 by_cases k8:d.k=8
 ·rw[fw _ _ _ _ k8];exact QR ((L8 h hl hn _).up (Nat.le_succ k)) hl g _ (by omega)
 by_cases k11:d.k=11
 ·rw[pi _ _ _ _ k11];exact same _ _ (by omega)
 by_cases k12:d.k=12
 ·rw[ux _ _ _ _ k12];exact same _ _ (by omega)
 by_cases k13:d.k=13
 ·rw[pd _ _ _ _ k13];exact same _ _ (by omega)
 ·rw[py _ _ _ _ (by omega)]
  obtain⟨h1,h2⟩:=h.abort hl;exact⟨rfl,Qo h2 (Qu (Nat.le_succ _)),fun e=>by omega,fun _=>⟨h1.up (Nat.le_succ k) (Qk _) (Qk _) (Qk _) (Qk _),rfl⟩⟩
theorem Wu (h:En k i n n n n S){l:List (List Ay)}{g:AD}(hn:g.n=n)(t:E6 l S i g)(hk:k<=200)(hd:∀ ds ∈ l,ds.length<=12/\∀ d ∈ ds,d.ok):XI i l g S k (S.Bn i l g):=by
 have hb:=t.th.b;have up0:=h.up (Nat.le_succ k) (Qk n) (Qk n) (Qk n) (Qk n);unfold Al.Bn;by_cases hdone:(l.length:Int)<=g.b
 ·rw[if_pos hdone]
  exact⟨rfl,Qu (Nat.le_succ _),⟨n,up0,hn⟩,.inl ⟨hdone,rfl,rfl⟩⟩
 rw[if_neg hdone];by_cases hlv:g.l=false
 ·rw[if_pos hlv]
  obtain⟨h1,h2⟩:=h.begin (t.lv.trans hlv) hk;unfold Al.CK;rw[if_pos h1];have hpu:pu i (S.AO i).1=pu i S:=by
   have e:(S.AO i).1=S.tx i ((S.t i).begun S.now S.next):=by
    unfold Al.AO at h1 ⊢;split
    ·rename_i e;rw[if_pos e]at h1;simp at h1
    ·rename_i e;rw[if_neg e]at h1
     split
     ·rfl
     ·rename_i e2;rw[if_neg e2]at h1;simp at h1
   rw[e];unfold pu;rw[Al.CO h.hi];rfl
  refine⟨rfl,by show pu i (S.AO i).1<=_;rw[hpu];omega,⟨0,h2.up (Nat.le_succ k) (Qk _) (Qk _) (Qk _) (Qk _),rfl⟩,.inr ⟨by omega,?_,?_⟩⟩
  ·unfold AD.pos
   simp only[hlv];show DV _+0<DV _+(1+0);omega
  ·unfold AD.C2
   simp[hlv]
 ·rw[if_neg hlv]
  have hl:g.l=true:=by simpa using hlv
  have hlive:=t.lv.trans hl;have hat:=t.th.at' hl;have hbl:g.b.toNat<l.length:=by omega
  have hm:=Uf hbl;have hbs:(g.b+1).toNat=g.b.toNat+1:=by omega
  cases hdm:(l.getD g.b.toNat [])[g.n.toNat]? with
  | none =>
   simp only;obtain⟨h1,h2,h3⟩:=h.Be hlive;have e1:S.Be i=S.AQ i:=by
    show S.AH i (S.AQ i)=_;unfold Al.AH;rw[if_pos hlive];unfold Bv.fin;rw[if_neg (by rw[h1];decide),if_pos h1]
   unfold Al.Cq;rw[e1,if_pos h1];refine⟨rfl,Qo h3 (Qu (Nat.le_succ _)),⟨0,h2,rfl⟩,.inr ⟨by omega,?_,?_⟩⟩
   ·unfold AD.pos
    simp only[hl];rw[hbs,hm];show DV _+(1+g.n.toNat)<DV _+_+2+0;omega
   ·unfold AD.C2
    simp[hl]
  | some d =>
   simp only;have hdl:=(Qc.1 hdm).1;have hds:l.getD g.b.toNat [] ∈ l:=by rw[Qi,Qb hbl];exact List.getElem_mem hbl
   have hdk:=(hd _ hds).2 d (Qe hdm);have h12:=(hd _ hds).1;have hg0:=t.th.n;obtain⟨q1,q2,q3,q4⟩:=Jy h hlive (by omega) hk g hdk
   have ht:=qnp hlive hl hdk;by_cases k14:d.k=14
   ·obtain⟨r1,r2⟩:=q4 k14
    obtain⟨s1,s2,s3⟩:=ht.ends (.inr ⟨r2,k14⟩);rw[r2,if_neg (by decide)]at s3
    refine⟨q1,q2,⟨0,r1,s2⟩,.inr ⟨by omega,?_,?_⟩⟩
    ·unfold AD.pos
     rw[s1,s2,s3,hl,hbs,hm];show DV _+(1+g.n.toNat)<DV _+_+2+0;omega
    ·unfold AD.C2
     rw[s1,s3,hl,ht.k];simp
   ·have hno:¬(Px (S.A6 i g d).a.e\/((S.A6 i g d).a.e=0/\d.k=14)):=fun e=>e.elim (LA q1) fun e=>k14 e.2
    obtain⟨s1,s2,s3⟩:=ht.goes hno;refine⟨q1,q2,⟨n+1,q3 k14,by rw[s2,hn];omega⟩,.inr ⟨by omega,?_,?_⟩⟩
    ·unfold AD.pos
     rw[s1,s2,s3,hl];simp only[if_true];omega
    ·unfold AD.C2
     rw[s1,s3,hl,ht.k];simp
end
def yj:List CS->Nat
 | []=>0
 | x::l=>(if x.a.k=1 then 1 else 0)+yj l
theorem Sc (l:List CS)(x:CS):yj (l++[x])=yj l+if x.a.k=1 then 1 else 0:=by
 induction l with
 | nil=>show (if x.a.k=1 then 1 else 0)+0=0+_;omega
 | cons y l ih=>show (if y.a.k=1 then 1 else 0)+yj (l++[x])=_;rw[ih];show _=(if y.a.k=1 then 1 else 0)+yj l+_;omega
def wy (hs:List AD):Int:=(hs.map AD.C2).foldr (·+·) 0
theorem UO:∀ (hs:List AD)(t:Nat)(h':AD),t<hs.length->wy (hs.set t h')=wy hs-(hs.getD t Cy).C2+h'.C2
 | [],_,_,h=>by simp at h
 | x::hs,0,h',_=>by show h'.C2+wy hs=x.C2+wy hs-x.C2+h'.C2;omega
 | x::hs,t+1,h',h=>by
  have:=UO hs t h' (by simpa using h)
  show x.C2+wy (hs.set t h')=x.C2+wy hs-(hs.getD t Cy).C2+h'.C2;omega
structure Es (M:Mc)(t k:Nat):Prop where
 ok:M.ok
 tl:t<M.hs.length
 en:∃ n:Nat,En k t n n n n M.S/\(M.h t).n=n
 pa:∃ L,M.past.length<=k+M.S.next+L/\L+pu t M.S<=2*k
 cn:(yj M.past:Int)=wy M.hs
section
variable {M : Mc} {t k : Nat}
theorem Es.pl (h:Es M t k):M.past.length<=4*k:=by
 obtain⟨n,h1,_⟩:=h.en;obtain⟨L,h2,h3⟩:=h.pa;have h4:=h.ok.inv.nx;have h5:=h1.he.hu.se;omega
theorem Es.step (h:Es M t k)(hk:k<=200):Es (M.step (t:Int)).1 t (k+1)/\bf (M.step (t:Int)).2.e=false/\(M.step (t:Int)).1.hs.length=M.hs.length/\(M.step (t:Int)).1.ps=M.ps/\(∀ u,u≠t->(M.step (t:Int)).1.h u=M.h u) /\
  ((((M.p t).length:Int)<=(M.h t).b/\(M.step (t:Int)).1.h t=M.h t)\/((M.h t).b<(M.p t).length/\(M.h t).pos (M.p t)<((M.step (t:Int)).1.h t).pos (M.p t))):=by
 have hpl:=h.pl;have htl:=h.tl;have hok:=Mc.EK h.ok (t:Int);have e:M.step (t:Int)=M.CE t:=by
  unfold Mc.step;rw[if_neg (by omega),Int.toNat_natCast]
 rw[e]at hok ⊢;obtain⟨n,h1,h2⟩:=h.en;have hpm:M.p t ∈ M.ps:=Qe (Mc.D2 (M:=M) (by rw[<-h.ok.len];exact htl))
 have hd:∀ ds ∈ M.p t,ds.length<=12/\∀ d ∈ ds,d.ok:=fun ds hds=>⟨((h.ok.dk _ hpm).2 ds hds).1,fun d hdd=>(((h.ok.dk _ hpm).2 ds hds).2 d hdd).1⟩
 have hD:=Wu h1 h2 (h.ok.th t htl) hk hd;obtain⟨q1,q2⟩:=VQ (h.ok.th t htl) h1.hi fun ds hds d hdd=>(hd ds hds).2 d hdd
 obtain⟨T,hT⟩:∃ T,T=M.S.Bn t (M.p t) (M.h t):=⟨_,rfl⟩;have e1:M.CE t=(⟨T.S,M.ps,M.hs.set t T.h,if T.a.k≠0 then kh M.past ⟨t,(M.h t).b,(M.h t).n,T.a⟩ else M.past⟩,T.a):=by rw[hT];rfl
 rw[<-hT]at hD q2;have hpast:(M.CE t).1.past=if T.a.k≠0 then M.past++[⟨t,(M.h t).b,(M.h t).n,T.a⟩] else M.past:=by
  rw[e1];simp only[kh,if_pos (show M.past.length<2000 by omega)]
 have hh:∀ u,(M.CE t).1.h u=if u=t then T.h else M.h u:=fun u=>by
  rw[e1];show (M.hs.set t T.h).getD u Cy=_;rw[Qi,Qr];by_cases e2:u=t
  ·subst e2;rw[if_pos rfl,if_pos htl,if_pos rfl];rfl
  ·rw[if_neg fun z=>e2 z.symm,if_neg e2,<-Qi];rfl
 have hlen:(M.CE t).1.hs.length=M.hs.length:=by rw[e1];exact Qq
 have ht':=hh t;rw[if_pos rfl]at ht';refine⟨⟨hok,by rw[hlen];exact htl,?_,?_,?_⟩,by rw[e1];exact hD.bad,hlen,by rw[e1],fun u hu=>by rw[hh,if_neg hu],?_⟩
 ·obtain⟨m,h3,h4⟩:=hD.en
  exact⟨m,by rw[e1];exact h3,by rw[ht'];exact h4⟩
 ·obtain⟨L,h3,h4⟩:=h.pa
  have h5:=hD.pu;refine⟨L,?_,by rw[e1];show L+pu t T.S<=2*(k+1);omega⟩
  rw[hpast,show (M.CE t).1.S.next=M.S.next by rw[e1];exact q2.next]
  split
  ·rw[Qd,List.length_singleton];omega
  ·omega
 ·have h3:=UO M.hs t T.h htl
  have h4:wy (M.CE t).1.hs=wy M.hs-(M.h t).C2+T.h.C2:=by rw[e1];exact h3
  have h5:=h.cn;rw[h4,hpast];rcases hD.go with ⟨_,g2,g3⟩|⟨_,_,g3⟩
  ·rw[g2,g3,if_neg (by simp)];omega
  ·by_cases ha:T.a.k=0
   ·rw[if_neg (by simpa using ha)]
    rw[if_neg (by omega)]at g3
    omega
   ·rw[if_pos ha,Sc]
    simp only;split
    ·rename_i e2;rw[if_pos e2]at g3;omega
    ·rename_i e2;rw[if_neg e2]at g3;omega
 ·rw[ht']
  rcases hD.go with ⟨g1,g2,_⟩|⟨g1,g2,_⟩
  ·exact .inl ⟨g1,g2⟩
  ·exact .inr ⟨g1,g2⟩
theorem qoc {k n:Int}(hk:k=5\/k=4)(l:List CS):yj (kh l ⟨-1,0,0,⟨k,0,n⟩⟩)=yj l/\(kh l ⟨-1,0,0,⟨k,0,n⟩⟩).length<=l.length+1:=by
 unfold kh;split
 ·rw[Sc,Qd]
  refine⟨?_,Qk _⟩;simp only;rw[if_neg (by omega)];rfl
 ·exact⟨rfl,Nat.le_succ _⟩
theorem nn {k:Int}(hk:k=5\/k=4):∀ (ns:List Nat)(l:List CS),yj (ze l k ns)=yj l/\(ze l k ns).length<=l.length+ns.length
 | [],l=>⟨rfl,Qk _⟩
 | n::ns,l=>by
  obtain⟨h1,h2⟩:=nn hk ns (kh l ⟨-1,0,0,⟨k,0,n⟩⟩);obtain⟨h3,h4⟩:=qoc (n:=(n:Int)) hk l;rw[YO,Qv];exact⟨h1.trans h3,by omega⟩
theorem YV {hs:List AD}:∀ {hs':List AD},hs'.length=hs.length->(∀ u,u<hs.length->(hs'.getD u Cy).C2=(hs.getD u Cy).C2)->wy hs'=wy hs:=by
 induction hs with
 | nil=>intro hs' hl _;rw[List.eq_nil_of_length_eq_zero hl]
 | cons x hs ih =>
  intro hs' hl h
  cases hs' with
  | nil=>cases hl
  | cons y hs' =>
   have h1:y.C2=x.C2:=h 0 (Nat.succ_pos _);have h2:=ih (hs':=hs') (Nat.succ.inj hl) fun u hu=>h (u+1) (Nat.succ_lt_succ hu)
   show y.C2+wy hs'=x.C2+wy hs;rw[h1,h2]
theorem Es.told (h:M.S.ok)(hl:M.hs.length=M.ps.length)(hx:M.S.Aw.length=M.ps.length)(h8:M.ps.length<=8)(hth:∀ t,t<M.hs.length->E6 (M.p t) M.S t (M.h t))(hdk:∀ p ∈ M.ps,p.length<=6/\∀ ds ∈ p,ds.length<=12/\∀ d ∈ ds,d.ok/\Pg.right d.D=true)
  (hpl:M.past.length<=2000)(htl:t<M.hs.length){n:Nat}(he:En k t n n n n M.S)(hn:(M.h t).n=n){L:Nat}(h1:M.past.length+M.S.came.length<=k+M.S.next+L)(h2:L+M.S.lost.length+pu t M.S<=2*k)(hc:(yj M.past:Int)=wy M.hs):Es M.told t k:=by
 obtain⟨c1,c2⟩:=nn (.inl rfl:(5:Int)=5\/(5:Int)=4) M.S.came M.past;obtain⟨c3,c4⟩:=nn (.inr rfl:(4:Int)=5\/(4:Int)=4) M.S.lost (ze M.past 5 M.S.came);have hok:=Mc.EA h hl hx h8 hth hdk hpl;refine⟨hok,htl,⟨n,he.F6 hok.inv rfl rfl rfl rfl he.he,hn⟩,⟨L+M.S.lost.length,?_,h2⟩,?_⟩
 ·show (ze (ze M.past 5 M.S.came) 4 M.S.lost).length<=k+M.S.next+_
  omega
 ·show (yj (ze (ze M.past 5 M.S.came) 4 M.S.lost):Int)=wy M.hs
  rw[c3,c1];exact hc
theorem Es.collect (h:Es M t k) (hk:k<=200):Es M.collect.1 t k/\M.collect.1.hs.length=M.hs.length/\M.collect.1.ps=M.ps/\∀ u,u<M.hs.length->(M.collect.1.h u).b=(M.h u).b/\(M.collect.1.h u).n=(M.h u).n/\(M.collect.1.h u).l=(M.h u).l:=by
 have h0:M.past.length<2000:=by have:=h.pl;omega
 obtain⟨n,h1,h2⟩:=h.en;obtain⟨L,h3,h4⟩:=h.pa;have hlo:=h.ok.lo;have hca:=h.ok.ca
 cases hc:(M.S.AG M.roots).2.2 with
 | true =>
  rw[gj h0 hc];obtain⟨e1,e2,_⟩:=Sm hc;obtain⟨k1,k2,k3,k4⟩:=Mc.EE h.ok hc;have hl:M.Cu.hs.length=M.hs.length:=by rw[e1,Qg]
  have hh:∀ u,u<M.hs.length->(M.Cu.h u).b=(M.h u).b/\(M.Cu.h u).n=(M.h u).n/\(M.Cu.h u).l=(M.h u).l:=fun u hu=>by
   have e3:M.Cu.h u=(M.h u).at' (M.S.begun M.roots).H.now:=by unfold Mc.h;rw[e1];exact Mo _ _ hu
   rw[e3];exact⟨rfl,rfl,rfl⟩
  have e4:M.Cu.S.next=M.S.next/\M.Cu.S.came=M.S.came/\M.Cu.S.lost=M.S.lost:=by rw[e2];exact⟨rfl,rfl,rfl⟩
  have e5:=Yj (i:=t) h.ok.inv M.roots;refine⟨Es.told k1 k2 k3 h.ok.n8 k4 h.ok.dk h.ok.pl (by rw[hl];exact h.tl) (h1.collect M.roots) ((hh t h.tl).2.1.trans h2) (L:=L) (by rw[e4.1,e4.2.1,hca];exact h3) (by rw[e4.2.2,hlo];show L+0+pu t (M.S.AG M.roots).1<=2*k;omega) ?_,hl,rfl,hh⟩
  show (yj M.past:Int)=wy M.Cu.hs;rw[h.cn];refine (YV hl fun u hu=>?_).symm
  obtain⟨f1,_,f3⟩:=hh u hu;show (M.Cu.h u).C2=(M.h u).C2;unfold AD.C2;rw[f1,f3]
 | false =>
  rw[g9 h0 hc];obtain⟨s1,s2⟩:=KG (i:=t) h.ok.inv;have e:=Uw h.ok.inv;rw[hlo]at s1;rw[hca]at s2;simp only[List.length_nil]at s1 s2;refine⟨Es.told (M:=M.Jb) (ld h.ok.inv) h.ok.len (by show M.S.Bg.1.Aw.length=_;rw[e];exact h.ok.Aw) h.ok.n8 (fun u hu=>⟨(h.ok.th u hu).th,?_⟩) h.ok.dk h.ok.pl h.tl h1.step h2 (L:=L) (by show M.past.length+M.S.Bg.1.came.length<=k+M.S.Bg.1.next+L;omega) (by show L+M.S.Bg.1.lost.length+pu t M.S.Bg.1<=2*k;omega) h.cn,rfl,rfl,fun _ _=>⟨rfl,rfl,rfl⟩⟩
  have h5:=(h.ok.th u hu).lv;show (M.S.Bg.1.t u).live=(M.h u).l;unfold Al.t at h5 ⊢;rw[e];exact h5
theorem Es.next (h:Es M t k)(hl:(M.h t).l=false){u:Nat}(hu:u<M.hs.length)(hun:(M.h u).n=0):Es M u k:=by
 obtain⟨n,h1,_⟩:=h.en;have hlive:=(h.ok.th t h.tl).lv.trans hl;obtain⟨L,h3,h4⟩:=h.pa;have hux:u<M.S.Aw.length:=by rw[h.ok.Aw,<-h.ok.len];exact hu
 have h5:=h1.SR hlive hux;refine⟨h.ok,hu,⟨0,h5,hun⟩,⟨L,h3,?_⟩,h.cn⟩;have:=h5.ln.2.2.2;unfold pu at h4 ⊢;omega
theorem Es.fresh {ps:List (List (List Ay))} (hp:D4 ps):Es (Mc.fresh (Al.fresh 3000 ps.length 100 100 999) ps) 0 0:=by
 have hok:=Mc.CW (n:=3000) (r:=100) (u:=100) (m:=999) (by decide) (by decide) (by decide) (by decide) (by decide) hp
 have ht:∀ j,(Al.fresh 3000 ps.length 100 100 999).t j=Tx.fresh 100 100\/¬j<ps.length:=fun j=>by
  by_cases hj:j<ps.length
  ·refine .inl ?_
   unfold Al.t Al.fresh;simp only;rw[Qi,Qy,if_pos hj];rfl
  ·exact .inr hj
 have h1:=hp.n1;have ht0:(Al.fresh 3000 ps.length 100 100 999).t 0=Tx.fresh 100 100:=(ht 0).resolve_right (by omega)
 have hd:∀ j,¬j<ps.length->(Al.fresh 3000 ps.length 100 100 999).t j=⟨false,0,0,⟨0,0,[],[],[],[]⟩,[]⟩:=fun j hj=>by
  unfold Al.t Al.fresh;simp only;rw[Qi,Qy,if_neg hj];rfl
 have hlen:(Al.fresh 3000 ps.length 100 100 999).Aw.length=ps.length:=Qx;refine⟨hok,by show 0<(List.replicate ps.length Cy).length;rw[Qx];omega,⟨0,⟨hok.inv,by show 0<(Al.fresh 3000 ps.length 100 100 999).Aw.length;rw[hlen];omega,fun j _=>?_,fun j _=>?_,fun j hj=>?_,⟨⟨fun x hx=>(by cases hx),fun x hx=>(by cases hx),?_⟩,⟨Qk _,rfl,Qk _⟩⟩,?_,?_,?_,Qk _,rfl,.inl rfl⟩,?_⟩,⟨0,Qk _,?_⟩,?_⟩
 ·show ((Al.fresh 3000 ps.length 100 100 999).t j).live=false
  rcases ht j with e|e
  ·rw[e];rfl
  ·rw[hd j e]
 ·show ((Al.fresh 3000 ps.length 100 100 999).t j).log.reads=[]/\((Al.fresh 3000 ps.length 100 100 999).t j).log.keeps=[]/\((Al.fresh 3000 ps.length 100 100 999).t j).log.holds=[]/\((Al.fresh 3000 ps.length 100 100 999).t j).log.Au=[]
  rcases ht j with e|e
  ·rw[e];exact⟨rfl,rfl,rfl,rfl⟩
  ·rw[hd j e];exact⟨rfl,rfl,rfl,rfl⟩
 ·show ((Al.fresh 3000 ps.length 100 100 999).t j).log.mr=100/\((Al.fresh 3000 ps.length 100 100 999).t j).log.mu=100
  rw[(ht j).resolve_right (by have:j<(Al.fresh 3000 ps.length 100 100 999).Aw.length:=hj;omega)];exact⟨rfl,rfl⟩
 ·show ∀ p ∈ ((Al.fresh 3000 ps.length 100 100 999).t 0).log.holds.map (·.1),_
  rw[ht0];intro p hp;cases hp
 ·show ∀ z ∈ ((Al.fresh 3000 ps.length 100 100 999).t 0).log.holds,_
  rw[ht0];intro p hp;cases hp
 ·show ((Al.fresh 3000 ps.length 100 100 999).t 0).live=true->_
  rw[ht0];intro e;cases e
 ·show ((Al.fresh 3000 ps.length 100 100 999).t 0).log.reads.length<=0/\((Al.fresh 3000 ps.length 100 100 999).t 0).log.keeps.length<=0/\((Al.fresh 3000 ps.length 100 100 999).t 0).log.holds.length<=0/\((Al.fresh 3000 ps.length 100 100 999).t 0).log.Au.length<=0
  rw[ht0];exact⟨Qk _,Qk _,Qk _,Qk _⟩
 ·show ((List.replicate ps.length Cy).getD 0 Cy).n=0
  rw[Qi,Qy,if_pos (by omega)];rfl
 ·show 0+(0+((Al.fresh 3000 ps.length 100 100 999).t 0).log.Au.length)<=0
  rw[ht0];exact Qk _
 ·show (0:Int)=wy (List.replicate ps.length Cy)
  have:∀ n,wy (List.replicate n Cy)=0:=by
   intro n;induction n with
   | zero=>rfl
   | succ n ih=>show Cy.C2+wy (List.replicate n Cy)=0;rw[ih];rfl
  rw[this]
end
end
end Go.Proofs.YteehgedabdchcaaGreat
