import Derived.Test.YteehgedabdchcaaGreatKbg
import Derived.Test.YteehgedabdchcaaGreatKbj
import Derived.Test.YteehgedabdchcaaGreatKbn
import Derived.Test.YteehgedabdchcaaGreatKbo
import Derived.Test.YteehgedabdchcaaGreatKbr
set_option linter.all false
set_option maxRecDepth 1000000
set_option maxHeartbeats 16000000
namespace Go.Proofs.YteehgedabdchcaaGreat
open Go.RowKit Hp
attribute [local go_sem ↓] Go.wp_at_zero Go.wp_at_succ
theorem lst_le {S:Stt}(hk:S.ok):S.lst.length≤1099511627776:=by
 unfold Stt.lst yu;split
 ·simp
 ·split
  ·simp
  ·split
   ·simp
   ·simp only[List.nil_append];exact qe7 hk
section
variable {w w' : World} {o o' : Own} {m : MLay} {M : Mc}
theorem xj {l:List Nat}{k x:Nat}(h:l[k]?=some x):l.take (k+1)=l.take k++[x]:=by
 rw[List.take_add_one,h];rfl
theorem nj (h:MIn w o m M)(hk:M.ok) :
  Calls Tryz.prog 31 #[ptr m.mb] w fun e w'=>e=.returned (.bool M.collect.2)∧MLft m M.collect.1 o w w':=by
 have hn8:M.hs.length≤8:=by rw[hk.len];exact hk.n8
 have hn1:1≤M.hs.length:=by rw[hk.len,←hk.txs];exact hk.inv.t1
 have hrl:M.roots.length=M.hs.length*12:=td _;have HFull:=Lib.hid (qez h);obtain⟨ve,jb,hrp⟩:=h.blk;have HC:=Lib.hid (fun (W:World)(oo:Own)(N:Mc)(hM:MIn W oo m N)=>show W.cell? ⟨m.mb,0,none⟩=some (ptr m.y.sb) from by obtain⟨_,j,_⟩:=hM.blk;exact j.cell 0)
 have HRoots:=Lib.hid (fun (W:World)(hM:MIn W o m M)=>qb9 hM hk)
 have HCol:=Lib.hid (fun (W w3:World)(v3:Value)(hM:MIn W o m M)(hb:Below W.heap.size W w3)(hr:Row w3 (fo W.heap.size) (1,0) 3 1 v3 M.roots.length (M.roots.map nv)) =>
  show Calls Tryz.prog 18 #[ptr m.y.sb,v3] w3 fun e w4=>∃ v' o4,e=.returned (.tuple #[v',.bool (M.S.collectR M.roots).2.2])∧MIn w4 o4 m { M with S:=(M.S.collectR M.roots).1 }∧Row w4 o4 (m.y.l.id+1,0) 3 1 v' (M.S.collectR M.roots).2.1.length ((M.S.collectR M.roots).2.1.map nv)∧Stp (qh m.y) o o4 W w4 from by
   have s3:Stp (fun _=>False) o (ext o W.heap.size (m.y.l.id+1,0)) W w3:=(Stp.of_below hb).ext _ _ (Nat.le_refl _)
   have hM3:MIn w3 (ext o W.heap.size (m.y.l.id+1,0)) m M:=hM.stp s3 (fun _ h=>h) fun _ h=>h
   refine (qfo hM3.st hk.inv (hr.out o (m.y.l.id+1,0)) (by omega) (by omega)).mono ?_
   rintro e w4 ⟨v',o4,rfl,hS,hR,hs⟩
   exact⟨v',o4,rfl,hM3.store hS hs,hR,(s3.mono fun _ h=>h.elim).trans hs⟩)
 have HRep:=Lib.hid (fun (w4:World)(o4:Own)(v':Value)(hM:MIn w4 o4 m { M with S:=(M.S.collectR M.roots).1 })(hr:Row w4 o4 (m.y.l.id+1,0) 3 1 v' (M.S.collectR M.roots).2.1.length ((M.S.collectR M.roots).2.1.map nv))(ht:(M.S.collectR M.roots).2.2=true) =>
  show Calls Tryz.prog 89 #[ptr m.mb,v'] w4 fun e w5=>e=.returned (.tuple #[])∧MIn w5 o4 m M.col1∧Stp (fun t=>t=(m.y.l.id+2,2)) o4 o4 w4 w5 from by
   have hl:(M.S.collectR M.roots).2.1.length=M.roots.length:=by
    unfold Stt.collectR at ht ⊢;split
    ·simp
    ·rename_i h;rw[if_neg h]at ht;cases ht
   rcases hr.shape with ⟨_,h0⟩|⟨g,cap,rfl,hc,_⟩
   ·exfalso;omega
   ·exact qe1 hM hn8 hr.plS (by rw[hr.otag]) hl)
 have HStep:=Lib.hid (fun (w4:World)(o4:Own)(hM:MIn w4 o4 m { M with S:=(M.S.collectR M.roots).1 })(ht:(M.S.collectR M.roots).2.2=false) =>
  show Calls Tryz.prog 19 #[ptr m.y.sb] w4 fun e w5=>∃ o5,e=.returned (.bool M.S.stepR.2)∧MIn w5 o5 m M.col2∧Stp (qh m.y) o4 o5 w4 w5 from by
   have e:(M.S.collectR M.roots).1=M.S:=by
    unfold Stt.collectR at ht ⊢;split
    ·rename_i h;rw[if_pos h]at ht;cases ht
    ·rfl
   rw[e]at hM;refine (qmq hM.st hk.inv (by rw[hk.lo];simp)).mono ?_
   rintro e w5 ⟨rfl,o5,hS,hs⟩
   exact⟨o5,rfl,hM.store hS hs,hs⟩)
 have HNote:=Lib.hid (fun (W:World)(oo:Own)(N:Mc)(hM:MIn W oo m N)(k n:Int)=>show Calls Tryz.prog 91 #[.pointer (some ⟨m.mb,3,none⟩),.agg #[.int .i64 (-1),.int .i64 0,.int .i64 0,.int .i64 k,.int .i64 0,.int .i64 n]] W fun e w'=>e=.returned (.tuple #[])∧∃ o',MIn w' o' m { N with past:=wu N.past ⟨-1,0,0,⟨k,0,n⟩⟩ }∧Stp (y9 m) oo o' W w' from qeu hM ⟨-1,0,0,⟨k,0,n⟩⟩)
 have HCame:=Lib.hid (fun (W:World)(oo:Own)(N:Mc)(hM:MIn W oo m N)=>show Calls Tryz.prog 90 #[ptr m.y.sb] W fun e w'=>∃ v,e=.returned v∧Row w' oo (m.y.l.id,15) 3 1 v N.S.came.length (N.S.came.map nv)∧MIn w' oo m { N with S:={ N.S with came:=[] } }∧Stp (qh m.y) oo oo W w' from by
  refine (qlw hM.st).mono ?_
  rintro e w' ⟨v,rfl,hr,hS,hs⟩
  have hs':Stp (qh m.y) oo oo W w':=hs.mono (by rintro _ rfl;rfl)
  exact⟨v,rfl,hr,hM.store hS hs',hs'⟩)
 have HLost:=Lib.hid (fun (W:World)(oo:Own)(N:Mc)(hM:MIn W oo m N)=>show Calls Tryz.prog 92 #[ptr m.y.sb] W fun e w'=>∃ v,e=.returned v∧Row w' oo (m.y.l.id,14) 3 1 v N.S.lost.length (N.S.lost.map nv)∧MIn w' oo m { N with S:={ N.S with lost:=[] } }∧Stp (qh m.y) oo oo W w' from by
  refine (qm0 hM.st).mono ?_
  rintro e w' ⟨v,rfl,hr,hS,hs⟩
  have hs':Stp (qh m.y) oo oo W w':=hs.mono (by rintro _ rfl;rfl)
  exact⟨v,rfl,hr,hM.store hS hs',hs'⟩)
 have cb:=jb.cell;obtain⟨RC,hRC⟩:∃ RC,RC=M.collect:=⟨_,rfl⟩;rw[←hRC];have HRC:=Lib.hid hRC;have HM:=Lib.hid h;have HK:=Lib.hid hk;clear hRC h hk hrp hn8 hn1 hrl jb;by_cases hf:2000≤M.past.length
 ·have e1:RC=(M,false):=by rw[HRC.out];unfold Mc.collect;rw[if_pos hf]
  rw[decide_eq_true hf]at HFull;have HE:=Lib.hid e1;clear e1 hf;go_enter Tryz.func31,Tryz.ntmps31;go_wp2_with (first|(go_at_call 87;refine HFull.out.mono ?_;rintro e w2 ⟨rfl,hM2,hk2,hz2,hs2⟩)|fail)
  go_ret;rw[HE.out];exact⟨rfl,o,hM2,hs2.mono (by rintro _ rfl;exact .inr rfl)⟩
 ·rw[decide_eq_false hf]at HFull
  have hf2:M.past.length<2000:=by omega
  have HF2:=Lib.hid hf2;clear hf hf2;go_enter Tryz.func31,Tryz.ntmps31;go_upto_region 4 with (first|(go_at_call 87;refine HFull.out.mono ?_;rintro e w2 ⟨rfl,hM2,hk2,hz2,hs2⟩)|fail)
  have c2:w2.cell? ⟨m.mb,0,none⟩=some (ptr m.y.sb):=HC.out w2 o M hM2;have HRo2:=Lib.hid (HRoots.out w2.drew (hM2.below (qe (qc w2))));have HM2:=Lib.hid (hM2.below (qe (qc w2)));have HS2:=Lib.hid (show Stp (jh m) o o w w2 from hs2.mono (by rintro _ rfl;exact .inr rfl))
  have l2:m.mb<w2.heap.size:=hM2.lt;clear hM2 hk2 hz2 hs2 cb;go_region_held3 (fun w'=>w'.cell? ⟨m.mb,0,none⟩=some (ptr m.y.sb)) (first|with_reducible assumption|go_keep) (first
   | (go_at_call 88;refine HRo2.out.mono ?_;rintro e w3 ⟨v3,rfl,hr3,hb3⟩;have cb3:w3.cell? ⟨m.mb,0,none⟩=some (ptr m.y.sb):=(hb3.cell (p:=⟨m.mb,0,none⟩) l2).trans c2)
   | (go_at_call 18;refine (HCol.out w2.drew w3 v3 HM2.out hb3 hr3).mono ?_;rintro e w4 ⟨v4,o4,rfl,hM4,hr4,hs4⟩;have cb4:w4.cell? ⟨m.mb,0,none⟩=some (ptr m.y.sb):=HC.out w4 o4 _ hM4)
   | fail)
  have HM4:=Lib.hid hM4;have HR4:=Lib.hid hr4;have HS4:=Lib.hid (show Stp (jh m) o o4 w w4 from (HS2.out.trans (Stp.of_below (qe (qc w2)))).trans (hs4.mono fun _ h=>py h))
  clear hM4 hr4 hs4 cb3 c2 l2 HRo2 HM2 HS2
  cases hbt:(M.S.collectR M.roots).2.2 with
  | true =>
   have HRep4:=Lib.hid (HRep.out w4 o4 v4 HM4.out HR4.out hbt);obtain⟨N,hN⟩:∃ N,N=M.col1:=⟨_,rfl⟩;have HRN:=Lib.hid (show RC=(N.told,false) from by rw[HRC.out,hN];exact qaz HF2.out hbt)
   have hNb:N.S.came.length≤1099511627776∧N.S.lost.length≤1099511627776:=by
    have hok:=(Mc.ok_col1 HK.out hbt).1;rw[←hN]at hok;refine⟨Nat.le_trans hok.cm hok.nx2,?_⟩;have e:N.S.lost=M.S.lost:=by rw[hN,(qj8 hbt).2.1];rfl
    rw[e,HK.out.lo];simp
   rw[←hN]at HRep4;clear hN;go_upto_region 8 with (first|(go_at_call 89;refine HRep4.out.mono ?_;rintro e w5 ⟨rfl,hM5,hs5⟩)|fail)
   obtain⟨o5,ho5⟩:∃ o5,o5=o4:=⟨_,rfl⟩;have sw5:Stp (jh m) o o4 w w5:=HS4.out.trans (hs5.mono (by rintro _ rfl;exact .inr rfl))
   rw[←ho5]at hM5 sw5;clear hs5 ho5 cb4 hbt HRep4;obtain⟨n,hn⟩:∃ n,n=N.S.came.length:=⟨_,rfl⟩;obtain⟨n2,hn2⟩:∃ n2,n2=N.S.lost.length:=⟨_,rfl⟩;have HNn:=Lib.hid hn;have HNn2:=Lib.hid hn2;have HBn:=Lib.hid (show n≤1099511627776∧n2≤1099511627776 from by rw[hn,hn2];exact hNb)
   have HC5:=Lib.hid (HCame.out w5 o5 N hM5);have cb5:w5.cell? ⟨m.mb,0,none⟩=some (ptr m.y.sb):=HC.out w5 o5 N hM5;have HS5:=Lib.hid sw5;clear hn hn2 hNb hM5 sw5;go_wp2_with (first|(go_at_call 90;refine HC5.out.mono ?_;rintro e w6 ⟨v6,rfl,hr6,hM6,hs6⟩;rw[←HNn.out]at hr6;obtain⟨pv,cv,rfl⟩:=hr6.slc)|fail)
   have HI6:=Lib.hid (And.intro hM6 (And.intro hr6 (HS5.out.trans (hs6.mono fun _ h=>py h))))
   clear hM6 hr6 hs6 cb5 HC5;go_loopw [39] (fun ix wr=>∃ (k:Nat)(oo:Own),ix=.int .i64 k∧k≤n∧MIn wr oo m (⟨{ N.S with came:=[] },N.ps,N.hs,zt N.past 5 (N.S.came.take k)⟩:Mc)∧Row wr oo (m.y.l.id,15) 3 1 (.slice pv n cv) n (N.S.came.map nv)∧Stp (jh m) o oo w wr) (fun ix _=>n-(intOf ix).toNat)
   case atStart=>exact⟨0,o5,rfl,Nat.zero_le _,HI6.out⟩
   case round =>
    clear HI6;obtain⟨k,oo,rfl,hkn,hM,hr,hs⟩:=hrel;by_cases hlt:k<n
    ·have hkI:(k:Int)<(n:Int):=by omega
     obtain⟨hw1,hw2⟩:=yh k n hlt HBn.out.1;obtain⟨x,hx⟩:∃ x,N.S.came[k]?=some x:=⟨_,List.getElem?_eq_getElem (by rw[←HNn.out];exact hlt)⟩
     obtain⟨g,e,hcell,hcap⟩:∃ g,pv=some ⟨g,0,none⟩∧wr.cell? ⟨g,k,none⟩=some (.int .i64 x)∧n≤cv:=by
      rcases hr.form with ⟨_,h0⟩|⟨g,cap,e,hcap,_⟩
      ·omega
      ·injection e with e1 _ e3
       subst e1 e3;exact⟨g,rfl,hr.cells k _ (by rw[List.getElem?_map,hx];rfl),hcap⟩
     subst e;have hcI:(n:Int)≤(cv:Int):=by omega
     have HNo:=Lib.hid (HNote.out wr oo _ hM 5 x);have HTk:=Lib.hid (show zt N.past 5 (N.S.came.take (k+1))=wu (zt N.past 5 (N.S.came.take k)) ⟨-1,0,0,⟨5,0,x⟩⟩ from by rw[xj hx];exact yy _ _ _ _)
     have HR:=Lib.hid (And.intro hr hs);have HLt:=Lib.hid hlt;clear hM hr hs hx hcap;go_wp2_with (first|(go_at_call 91;refine HNo.out.mono ?_;rintro e w7 ⟨rfl,o7,hM7,hs7⟩)|fail)
     go_roundw
     case rel=>exact⟨k+1,o7,by simp,hlt,by rw[HTk.out];exact hM7,HR.out.1.stp hs7 (by intro e;rcases e with e|e<;>simp at e),HR.out.2.trans (hs7.mono (by rintro _ (rfl|rfl)<;>exact .inr rfl))⟩
     case measure=>clear hw1 hw2;simp[intOf];omega
    ·obtain rfl:k=n:=by omega
     rw[HNn.out,List.take_length]at hM;have cb7:wr.cell? ⟨m.mb,0,none⟩=some (ptr m.y.sb):=HC.out wr oo _ hM;have HL7:=Lib.hid (HLost.out wr oo _ hM);have HS7:=Lib.hid hs;clear hM hr hs hlt hkn;go_wp2_with (first|(go_at_call 92;refine HL7.out.mono ?_;rintro e w8 ⟨v8,rfl,hr8,hM8,hs8⟩;rw[show (⟨{ N.S with came:=[] },N.ps,N.hs,zt N.past 5 N.S.came⟩:Mc).S.lost=N.S.lost from rfl,←HNn2.out]at hr8;obtain⟨pv2,cv2,rfl⟩:=hr8.slc)|fail)
     have HI8:=Lib.hid (And.intro hM8 (And.intro hr8 (HS7.out.trans (hs8.mono fun _ h=>py h))))
     clear hM8 hr8 hs8 cb7 HL7;go_loopw [57] (fun ix wr=>∃ (k:Nat)(oo:Own),ix=.int .i64 k∧k≤n2∧MIn wr oo m (⟨{ N.S with came:=[],lost:=[] },N.ps,N.hs,zt (zt N.past 5 N.S.came) 4 (N.S.lost.take k)⟩:Mc)∧Row wr oo (m.y.l.id,14) 3 1 (.slice pv2 n2 cv2) n2 (N.S.lost.map nv)∧Stp (jh m) o oo w wr) (fun ix _=>n2-(intOf ix).toNat)
     case atStart=>exact⟨0,oo,rfl,Nat.zero_le _,HI8.out⟩
     case round =>
      clear HI8;obtain⟨q,o9,rfl,hqn,hM,hr,hs⟩:=hrel;by_cases hlt:q<n2
      ·have hkI:(q:Int)<(n2:Int):=by omega
       obtain⟨hw1,hw2⟩:=yh q n2 hlt HBn.out.2;obtain⟨x,hx⟩:∃ x,N.S.lost[q]?=some x:=⟨_,List.getElem?_eq_getElem (by rw[←HNn2.out];exact hlt)⟩
       obtain⟨g,e,hcell,hcap⟩:∃ g,pv2=some ⟨g,0,none⟩∧wr.cell? ⟨g,q,none⟩=some (.int .i64 x)∧n2≤cv2:=by
        rcases hr.form with ⟨_,h0⟩|⟨g,cap,e,hcap,_⟩
        ·omega
        ·injection e with e1 _ e3
         subst e1 e3;exact⟨g,rfl,hr.cells q _ (by rw[List.getElem?_map,hx];rfl),hcap⟩
       subst e;have hcI:(n2:Int)≤(cv2:Int):=by omega
       have HNo:=Lib.hid (HNote.out wr o9 _ hM 4 x);have HTk:=Lib.hid (show zt (zt N.past 5 N.S.came) 4 (N.S.lost.take (q+1))=wu (zt (zt N.past 5 N.S.came) 4 (N.S.lost.take q)) ⟨-1,0,0,⟨4,0,x⟩⟩ from by rw[xj hx];exact yy _ _ _ _)
       have HR:=Lib.hid (And.intro hr hs);clear hM hr hs hx hcap;go_wp2_with (first|(go_at_call 91;refine HNo.out.mono ?_;rintro e w9 ⟨rfl,o10,hM9,hs9⟩)|fail)
       go_roundw
       case rel=>exact⟨q+1,o10,by simp,hlt,by rw[HTk.out];exact hM9,HR.out.1.stp hs9 (by intro e;rcases e with e|e<;>simp at e),HR.out.2.trans (hs9.mono (by rintro _ (rfl|rfl)<;>exact .inr rfl))⟩
       case measure=>clear hw1 hw2;simp[intOf];omega
      ·obtain rfl:q=n2:=by omega
       rw[HNn2.out,List.take_length]at hM;have HFin:=Lib.hid (show MLft m N.told o w wr from ⟨o9,hM,hs⟩);clear hM hr hs;go_wp2_with fail;go_ret;rw[HRN.out];exact⟨rfl,HFin.out⟩
  | false =>
   have HSt4:=Lib.hid (HStep.out w4 o4 HM4.out hbt);obtain⟨N,hN⟩:∃ N,N=M.col2:=⟨_,rfl⟩;obtain⟨bE,hbE⟩:∃ bE,bE=M.S.stepR.2:=⟨_,rfl⟩;have HRN:=Lib.hid (show RC=(N.told,bE) from by rw[HRC.out,hN,hbE];exact qap HF2.out hbt)
   have hNb:N.S.came.length≤1099511627776∧N.S.lost.length≤1099511627776:=by
    have hok:N.S.ok:=by rw[hN];exact qhf HK.out.inv
    refine⟨Nat.le_trans hok.cm hok.nx2,?_⟩;have e:N.S.lost=M.S.lost++M.S.lst:=by rw[hN];show M.S.stepR.1.lost=_;rw[qb0]
    rw[e,HK.out.lo,List.nil_append];exact lst_le HK.out.inv
   rw[←hN,←hbE]at HSt4;clear hN hbE;go_upto_region 8 with (first|(go_at_call 19;refine HSt4.out.mono ?_;rintro e w5 ⟨o5,rfl,hM5,hs5⟩)|fail)
   have sw5:Stp (jh m) o o5 w w5:=HS4.out.trans (hs5.mono fun _ h=>py h)
   clear hs5 cb4 hbt HSt4;obtain⟨n,hn⟩:∃ n,n=N.S.came.length:=⟨_,rfl⟩;obtain⟨n2,hn2⟩:∃ n2,n2=N.S.lost.length:=⟨_,rfl⟩;have HNn:=Lib.hid hn;have HNn2:=Lib.hid hn2;have HBn:=Lib.hid (show n≤1099511627776∧n2≤1099511627776 from by rw[hn,hn2];exact hNb)
   have HC5:=Lib.hid (HCame.out w5 o5 N hM5);have cb5:w5.cell? ⟨m.mb,0,none⟩=some (ptr m.y.sb):=HC.out w5 o5 N hM5;have HS5:=Lib.hid sw5;clear hn hn2 hNb hM5 sw5;go_wp2_with (first|(go_at_call 90;refine HC5.out.mono ?_;rintro e w6 ⟨v6,rfl,hr6,hM6,hs6⟩;rw[←HNn.out]at hr6;obtain⟨pv,cv,rfl⟩:=hr6.slc)|fail)
   have HI6:=Lib.hid (And.intro hM6 (And.intro hr6 (HS5.out.trans (hs6.mono fun _ h=>py h))))
   clear hM6 hr6 hs6 cb5 HC5;go_loopw [39] (fun ix wr=>∃ (k:Nat)(oo:Own),ix=.int .i64 k∧k≤n∧MIn wr oo m (⟨{ N.S with came:=[] },N.ps,N.hs,zt N.past 5 (N.S.came.take k)⟩:Mc)∧Row wr oo (m.y.l.id,15) 3 1 (.slice pv n cv) n (N.S.came.map nv)∧Stp (jh m) o oo w wr) (fun ix _=>n-(intOf ix).toNat)
   case atStart=>exact⟨0,o5,rfl,Nat.zero_le _,HI6.out⟩
   case round =>
    clear HI6;obtain⟨k,oo,rfl,hkn,hM,hr,hs⟩:=hrel;by_cases hlt:k<n
    ·have hkI:(k:Int)<(n:Int):=by omega
     obtain⟨hw1,hw2⟩:=yh k n hlt HBn.out.1;obtain⟨x,hx⟩:∃ x,N.S.came[k]?=some x:=⟨_,List.getElem?_eq_getElem (by rw[←HNn.out];exact hlt)⟩
     obtain⟨g,e,hcell,hcap⟩:∃ g,pv=some ⟨g,0,none⟩∧wr.cell? ⟨g,k,none⟩=some (.int .i64 x)∧n≤cv:=by
      rcases hr.form with ⟨_,h0⟩|⟨g,cap,e,hcap,_⟩
      ·omega
      ·injection e with e1 _ e3
       subst e1 e3;exact⟨g,rfl,hr.cells k _ (by rw[List.getElem?_map,hx];rfl),hcap⟩
     subst e;have hcI:(n:Int)≤(cv:Int):=by omega
     have HNo:=Lib.hid (HNote.out wr oo _ hM 5 x);have HTk:=Lib.hid (show zt N.past 5 (N.S.came.take (k+1))=wu (zt N.past 5 (N.S.came.take k)) ⟨-1,0,0,⟨5,0,x⟩⟩ from by rw[xj hx];exact yy _ _ _ _)
     have HR:=Lib.hid (And.intro hr hs);have HLt:=Lib.hid hlt;clear hM hr hs hx hcap;go_wp2_with (first|(go_at_call 91;refine HNo.out.mono ?_;rintro e w7 ⟨rfl,o7,hM7,hs7⟩)|fail)
     go_roundw
     case rel=>exact⟨k+1,o7,by simp,hlt,by rw[HTk.out];exact hM7,HR.out.1.stp hs7 (by intro e;rcases e with e|e<;>simp at e),HR.out.2.trans (hs7.mono (by rintro _ (rfl|rfl)<;>exact .inr rfl))⟩
     case measure=>clear hw1 hw2;simp[intOf];omega
    ·obtain rfl:k=n:=by omega
     rw[HNn.out,List.take_length]at hM;have cb7:wr.cell? ⟨m.mb,0,none⟩=some (ptr m.y.sb):=HC.out wr oo _ hM;have HL7:=Lib.hid (HLost.out wr oo _ hM);have HS7:=Lib.hid hs;clear hM hr hs hlt hkn;go_wp2_with (first|(go_at_call 92;refine HL7.out.mono ?_;rintro e w8 ⟨v8,rfl,hr8,hM8,hs8⟩;rw[show (⟨{ N.S with came:=[] },N.ps,N.hs,zt N.past 5 N.S.came⟩:Mc).S.lost=N.S.lost from rfl,←HNn2.out]at hr8;obtain⟨pv2,cv2,rfl⟩:=hr8.slc)|fail)
     have HI8:=Lib.hid (And.intro hM8 (And.intro hr8 (HS7.out.trans (hs8.mono fun _ h=>py h))))
     clear hM8 hr8 hs8 cb7 HL7;go_loopw [57] (fun ix wr=>∃ (k:Nat)(oo:Own),ix=.int .i64 k∧k≤n2∧MIn wr oo m (⟨{ N.S with came:=[],lost:=[] },N.ps,N.hs,zt (zt N.past 5 N.S.came) 4 (N.S.lost.take k)⟩:Mc)∧Row wr oo (m.y.l.id,14) 3 1 (.slice pv2 n2 cv2) n2 (N.S.lost.map nv)∧Stp (jh m) o oo w wr) (fun ix _=>n2-(intOf ix).toNat)
     case atStart=>exact⟨0,oo,rfl,Nat.zero_le _,HI8.out⟩
     case round =>
      clear HI8;obtain⟨q,o9,rfl,hqn,hM,hr,hs⟩:=hrel;by_cases hlt:q<n2
      ·have hkI:(q:Int)<(n2:Int):=by omega
       obtain⟨hw1,hw2⟩:=yh q n2 hlt HBn.out.2;obtain⟨x,hx⟩:∃ x,N.S.lost[q]?=some x:=⟨_,List.getElem?_eq_getElem (by rw[←HNn2.out];exact hlt)⟩
       obtain⟨g,e,hcell,hcap⟩:∃ g,pv2=some ⟨g,0,none⟩∧wr.cell? ⟨g,q,none⟩=some (.int .i64 x)∧n2≤cv2:=by
        rcases hr.form with ⟨_,h0⟩|⟨g,cap,e,hcap,_⟩
        ·omega
        ·injection e with e1 _ e3
         subst e1 e3;exact⟨g,rfl,hr.cells q _ (by rw[List.getElem?_map,hx];rfl),hcap⟩
       subst e;have hcI:(n2:Int)≤(cv2:Int):=by omega
       have HNo:=Lib.hid (HNote.out wr o9 _ hM 4 x);have HTk:=Lib.hid (show zt (zt N.past 5 N.S.came) 4 (N.S.lost.take (q+1))=wu (zt (zt N.past 5 N.S.came) 4 (N.S.lost.take q)) ⟨-1,0,0,⟨4,0,x⟩⟩ from by rw[xj hx];exact yy _ _ _ _)
       have HR:=Lib.hid (And.intro hr hs);clear hM hr hs hx hcap;go_wp2_with (first|(go_at_call 91;refine HNo.out.mono ?_;rintro e w9 ⟨rfl,o10,hM9,hs9⟩)|fail)
       go_roundw
       case rel=>exact⟨q+1,o10,by simp,hlt,by rw[HTk.out];exact hM9,HR.out.1.stp hs9 (by intro e;rcases e with e|e<;>simp at e),HR.out.2.trans (hs9.mono (by rintro _ (rfl|rfl)<;>exact .inr rfl))⟩
       case measure=>clear hw1 hw2;simp[intOf];omega
      ·obtain rfl:q=n2:=by omega
       rw[HNn2.out,List.take_length]at hM;have HFin:=Lib.hid (show MLft m N.told o w wr from ⟨o9,hM,hs⟩);clear hM hr hs;go_wp2_with fail;go_ret;rw[HRN.out];exact⟨rfl,HFin.out⟩
end
section
variable {w w' : World} {o o' : Own} {m : MLay} {M : Mc}
theorem mstep_go (h:MIn w o m M) (hk:M.ok) (t:Int) (ho:∀ b,w.heap.size≤b→o b=(m.y.l.id+1,0)) :
  Calls Tryz.prog 32 #[ptr m.mb,.int .i64 t] w fun e w'=>e=.returned (M.step t).2.val∧MLft m (M.step t).1 o w w':=by
 obtain⟨ve,jb,_⟩:=h.blk;have hhs:=h.hs;obtain⟨ph,ch,hvh⟩:=hhs.slc;rw[hvh]at hhs jb;have HN:=Lib.hid (fun (W:World) (hb:Below w.heap.size w W)=>qmh h W hb)
 by_cases h0:t<0
 ·have e1:M.step t=(M,⟨0,0,0⟩):=if_pos (.inl h0)
  rw[e1];clear h hk hhs hvh jb e1;go_enter Tryz.func32,Tryz.ntmps32;go_wp2_with fail;exact bodyPost_ret (v:=.agg #[.int .i64 0,.int .i64 0,.int .i64 0]) (by simp[results,Tryz.results32,go_sem]) rfl ⟨rfl,HN.out _ (qa (qc w) _)⟩
 by_cases h1:(M.hs.length:Int)≤t
 ·have e1:M.step t=(M,⟨0,0,0⟩):=if_pos (.inr (.inl h1))
  rw[e1];obtain⟨nh,hnh⟩:∃ nh,nh=M.hs.length:=⟨_,rfl⟩;rw[←hnh]at h1 jb;have cb:=jb.cell;have lb:=jb.lt;clear h hk hhs hvh hnh jb e1;go_enter Tryz.func32,Tryz.ntmps32;go_wp2_with fail;exact bodyPost_ret (v:=.agg #[.int .i64 0,.int .i64 0,.int .i64 0]) (by simp[results,Tryz.results32,go_sem]) rfl ⟨rfl,HN.out _ (qa (qc w) _)⟩
 obtain⟨T,rfl⟩:∃ T:Nat,t=T:=⟨t.toNat,by omega⟩
 have hT:T<M.hs.length:=by omega
 have hb1:Below w.heap.size w (w.alloc (.cells #[.int .i64 0,.int .i64 0,.int .i64 0] 54)):=qa (qc w) _;have HFull:=Lib.hid (qez (h.below hb1));have jA:=Blk.new w #[.int .i64 0,.int .i64 0,.int .i64 0] 54;have hAm:w.heap.size≠m.mb:=by have:=jb.lt;omega
 by_cases hf:2000≤M.past.length
 ·have e1:M.step T=(M,⟨0,0,0⟩):=if_pos (.inr (.inr hf))
  rw[e1];rw[decide_eq_true hf]at HFull;obtain⟨nh,hnh⟩:∃ nh,nh=M.hs.length:=⟨_,rfl⟩;rw[←hnh]at h1 jb;have cb:=jb.cell;have lb:=jb.lt;have oA:=ho w.heap.size (Nat.le_refl _);have hb1':=Lib.hid hb1;clear h hk hhs hvh hnh jb e1 hf hT hb1 ho;go_enter Tryz.func32,Tryz.ntmps32;go_wp2_with fail;refine HFull.out.mono ?_
  rintro e w2 ⟨rfl,hM2,hk2,hz2,hs2⟩
  have j2:=hk2 _ _ _ hAm jA;have c2:=j2.cell;have z2:=j2.free;have l2:=j2.lt;have jX:=gg j2 ⟨0,0,0⟩;have HL:=Lib.hid (MLft.act3 hM2 (((Stp.of_below hb1'.out).trans hs2).mono (by rintro _ rfl;exact .inr rfl)) (b:=w.heap.size) (Nat.le_refl _) oA ⟨0,0,0⟩)
  clear hM2 hk2 hz2 hs2 j2;go_wp2_with fail;change bodyPost _ _ _ _ _ (vg w2 w.heap.size ⟨0,0,0⟩);generalize vg w2 w.heap.size ⟨0,0,0⟩=X at *;have cX:=jX.cell;exact bodyPost_ret (v:=.agg #[.int .i64 0,.int .i64 0,.int .i64 0]) (by simp[results,Tryz.results32,go_sem,cX,ActV.cells]) rfl ⟨rfl,HL.out⟩
 ·have e1:M.step T=M.stepN T:=if_neg (fun e=>e.elim (by omega) fun e=>e.elim h1 hf)
  rw[e1];obtain⟨RR,hRR⟩:∃ RR,RR=M.stepN T:=⟨_,rfl⟩;rw[←hRR];have HRR:=Lib.hid hRR;rw[decide_eq_false hf]at HFull;have hz:=Mc.h_get (M:=M) hT;have hTp:T<M.ps.length:=by rw[←hk.len];exact hT
  have HTst:=Lib.hid (hk.tst hT);have HP:=Lib.hid (Mc.p_get (M:=M) hTp);obtain⟨gp0,cp0,a0',c0',ep,_,_⟩:=h.ps.at (Mc.p_get (M:=M) hTp);rw[ep]at jb;obtain⟨nh,hnh⟩:∃ nh,nh=M.hs.length:=⟨_,rfl⟩;have hnp:nh=M.ps.length:=by rw[hnh];exact hk.len
  have HNh:=Lib.hid hnh;have HNp:=Lib.hid hnp;rw[←hnh]at h1 jb hT hhs;rw[←hnp]at jb;have HVp:=Lib.hid ep;have HVh:=Lib.hid hvh;have HZ:=Lib.hid hz;have cb:=jb.cell;have lb:=jb.lt;have oA:=ho w.heap.size (Nat.le_refl _);have HO:=Lib.hid ho;have hb1':=Lib.hid hb1;have HK:=Lib.hid hk;have hTI:¬(nh:Int)≤(T:Int):=by omega
  have hTI2:(T:Int)<(nh:Int):=by omega
  clear h hk hhs jb e1 hf hb1 ho hnh hnp ep hvh h1 hTp hz hRR;go_enter Tryz.func32,Tryz.ntmps32;go_wp2_with fail;refine HFull.out.mono ?_
  rintro e w2 ⟨rfl,hM2,hk2,hz2,hs2⟩
  have jA2:=hk2 _ _ _ hAm jA;have sW2:Stp (jh m) o o w w2:=((Stp.of_below hb1'.out).trans hs2).mono (by rintro _ rfl;exact .inr rfl)
  obtain⟨ve2,jm2,_⟩:=hM2.blk;rw[HVh.out,HVp.out,←HNh.out,←HNp.out]at jm2;have hr2:=hM2.hs;rw[HVh.out,←HNh.out]at hr2;obtain⟨gq,eq,hcap,q⟩:=hr2.th15 HZ.out;subst eq;obtain⟨gp,cp,a,c,ep,hcp,hKB⟩:=hM2.ps.at HP.out;rw[HVp.out]at ep;injection ep with ep1 _ ep3;injection ep1 with ep1;injection ep1 with ep1;subst ep1 ep3;obtain⟨z,hze⟩:∃ z,z=M.h T:=⟨_,rfl⟩;rw[←hze]at q;have HZE:=Lib.hid hze;obtain⟨P,hPe⟩:∃ P,P=(M.p T).length:=⟨_,rfl⟩;rw[←hPe]at hcp;have HStep:=Lib.hid (fun (W:World) (hb:Below w2.heap.size w2 W)=>show Calls Tryz.prog 93 #[ptr m.y.sb,.int .i64 T,.slice a P c,z.v] W fun e' w'=>e'=.returned (.tuple #[(M.S.tstep T (M.p T) z).h.v,(M.S.tstep T (M.p T) z).a.val])∧Left m.y (M.S.tstep T (M.p T) z).S o W w' from by
   rw[hPe,hze];exact qm9 (hM2.st.below hb) (hKB.blks.below hb) (M.h T) HTst.out)
  have HM2:=Lib.hid hM2;have HJA:=Lib.hid jA2;have HSW:=Lib.hid sW2;obtain⟨R,hR⟩:∃ R,R=M.S.tstep T (M.p T) z:=⟨_,rfl⟩;rw[←hR]at HStep;have HR:=Lib.hid hR;obtain⟨RS,⟨rb,rn,⟨b0,b1,b2,b3,b4,b5⟩,⟨d0,d1,d2,d3,d4,d5⟩,rl⟩,⟨ak,ae,av⟩⟩:=R;obtain⟨zb,zn,⟨a0,a1,a2,a3,a4,a5⟩,⟨s0,s1,s2,s3,s4,s5⟩,zl⟩:=z;obtain⟨q0,q1,q2,q3,q4,q5,q6,q7,q8,q9,q10,q11,q12,q13,q14⟩:=q;have HRes:=Lib.hid (show RR=(⟨RS,M.ps,M.hs.set T ⟨rb,rn,⟨b0,b1,b2,b3,b4,b5⟩,⟨d0,d1,d2,d3,d4,d5⟩,rl⟩,if ak≠0 then wu M.past ⟨(T:Int),zb,zn,⟨ak,ae,av⟩⟩ else M.past⟩,⟨ak,ae,av⟩) from by rw[HRR.out];unfold Mc.stepN;rw[←HZE.out,←HR.out])
  simp only at q0 q1 q2 q3 q4 q5 q6 q7 q8 q9 q10 q11 q12 q13 q14;unfold ThV.v ThV.cells ActV.val ActV.cells at HStep;simp only at HStep;have cm:=jm2.cell;have lm:=jm2.lt;have lq:=hr2.blt;clear cb lb hM2 hk2 hs2 jA2 sW2 hze hPe hR hKB hr2;go_upto_region 4 with fail;obtain⟨W3,hW3⟩:∃ W3:World,W3=w2.alloc (.cells #[.int .i64 zb,.int .i64 zn,.int .i64 a0,.int .i64 a1,.int .i64 a2,.int .i64 a3,.int .i64 a4,.int .i64 a5,.int .i64 s0,.int .i64 s1,.int .i64 s2,.int .i64 s3,.int .i64 s4,.int .i64 s5,.bool zl] 58):=⟨_,rfl⟩;rw[←hW3];have hb3:Below w2.heap.size w2 W3:=by rw[hW3];exact qa (qc w2) _
  have hz2':w2.heap.size=w.heap.size+1:=by simpa using hz2
  have jx3:Blk W3 (w.heap.size+1) #[.int .i64 zb,.int .i64 zn,.int .i64 a0,.int .i64 a1,.int .i64 a2,.int .i64 a3,.int .i64 a4,.int .i64 a5,.int .i64 s0,.int .i64 s1,.int .i64 s2,.int .i64 s3,.int .i64 s4,.int .i64 s5,.bool zl] 58:=by rw[hW3,←hz2'];exact Blk.new w2 _ _
  have jm3:=jm2.below hb3 jm2.lt;have hc3:=cell_below hcp hb3;clear hW3 cm lm lq q0 q1 q2 q3 q4 q5 q6 q7 q8 q9 q10 q11 q12 q13 q14 jm2 hcp;have cm:=jm3.cell;have cx:=jx3.cell;have HH8:Hid (∀ (W:World),Below w2.heap.size w2 W→Calls Tryz.prog 93 #[ptr m.y.sb,.int .i64 T,.slice a P c,.agg #[.int .i64 zb,.int .i64 zn,.int .i64 a0,.int .i64 a1,.int .i64 a2,.int .i64 a3,.int .i64 a4,.int .i64 a5,.int .i64 s0,.int .i64 s1,.int .i64 s2,.int .i64 s3,.int .i64 s4,.int .i64 s5,.bool zl]] W fun e' w'=>e'=.returned (.tuple #[.agg #[.int .i64 rb,.int .i64 rn,.int .i64 b0,.int .i64 b1,.int .i64 b2,.int .i64 b3,.int .i64 b4,.int .i64 b5,.int .i64 d0,.int .i64 d1,.int .i64 d2,.int .i64 d3,.int .i64 d4,.int .i64 d5,.bool rl],.agg #[.int .i64 ak,.int .i64 ae,.int .i64 av]])∧Left m.y RS o W w'):=HStep
  refine r32_4 _ _ _ _ _ _ _ _ _ _ _ _ _ _ _ _ _ _ _ _ _ _ _ _ _ _ _ _ _ _ _ _ _ _ _ _ _ _ _ _ _ _ _ _ _ _ _ _ _ _ _ _ _ _ _ _ _ _ _ _ _ _ _ _ _ _ _ _ _ HM2 HJA HSW HO oA HVp hz2' hb3 jx3 jm3 hc3 (Int.not_le.2 hTI2) hTI2 HH8 (Lib.hid ?_)
  rintro W5 o5 C D z33 z34 z35 z36 z37 z38 z39 z40 z41 z42 z43 z44 z45 z46 z47 z48 z49 hA5 jC jD oC oD
  clear cm cx HH8 jx3 jm3 hc3 hb3;obtain⟨ve5,jm5,_⟩:=hA5.mi.blk;have jm5:Blk W5 m.mb #[ptr m.y.sb,m.vp,m.vh,.int .i32 0,.int .u32 0,ve5] 148:=jm5;rw[HVh.out,HVp.out,←HNh.out,←HNp.out]at jm5;have hr5:Row W5 o5 (m.y.l.id+2,2) 58 15 m.vh M.hs.length (za M.hs):=hA5.mi.hs;rw[HVh.out,←HNh.out]at hr5;obtain⟨_,e5,_,q⟩:=hr5.th15 (HZ.out.trans (congrArg some HZE.out.symm));injection e5 with e5;injection e5 with e5;subst e5;obtain⟨q0,q1,q2,q3,q4,q5,q6,q7,q8,q9,q10,q11,q12,q13,q14⟩:=q;simp only at q0 q1 q2 q3 q4 q5 q6 q7 q8 q9 q10 q11 q12 q13 q14;obtain⟨hM6,hs6⟩:=hA5.mi.hset (t:=T) (by rw[←HNh.out];exact hT) HVh.out ⟨rb,rn,⟨b0,b1,b2,b3,b4,b5⟩,⟨d0,d1,d2,d3,d4,d5⟩,rl⟩
  obtain⟨Y,hY⟩:∃ Y:World,Y=(qcq W5 gq (T*15) ⟨rb,rn,⟨b0,b1,b2,b3,b4,b5⟩,⟨d0,d1,d2,d3,d4,d5⟩,rl⟩).drew:=⟨_,rfl⟩;have jA7:Blk Y w.heap.size #[.int .i64 0,.int .i64 0,.int .i64 0] 54:=by rw[hY];exact qi (hA5.ja.stp hs6 (by rw[hA5.oa];simp))
  have jB7:Blk Y (w.heap.size+1) #[.int .i64 zb,.int .i64 zn,.int .i64 a0,.int .i64 a1,.int .i64 a2,.int .i64 a3,.int .i64 a4,.int .i64 a5,.int .i64 s0,.int .i64 s1,.int .i64 s2,.int .i64 s3,.int .i64 s4,.int .i64 s5,.bool zl] 58:=by rw[hY];exact qi (hA5.jb.stp hs6 (by rw[hA5.ob];simp))
  have jD7:=qi (jD.stp hs6 (by rw[oD];simp))
  rw[←hY]at jD7;have HM7:=Lib.hid (show MIn Y o5 m (⟨RS,M.ps,M.hs.set T ⟨rb,rn,⟨b0,b1,b2,b3,b4,b5⟩,⟨d0,d1,d2,d3,d4,d5⟩,rl⟩,M.past⟩:Mc) from by rw[hY];exact hM6.below (qe (qc _)))
  have HS7:=Lib.hid (show Stp (jh m) o o5 w Y from by rw[hY];exact (hA5.st.trans (hs6.mono (by rintro _ rfl;exact .inr rfl))).trans (Stp.of_below (qe (qc _))))
  have HO7:=Lib.hid (And.intro hA5.oa (And.intro hA5.ob oD));have zq:=hr5.free;have lq:=hr5.blt;have cm5:=jm5.cell;have cC:=jC.cell;have HYe:=Lib.hid hY;have HJ7:=Lib.hid (And.intro jA7 (And.intro jB7 jD7));clear hY hM6 hs6 hA5 jD jC oC oD hr5 jm5 jA7 jB7 jD7 HStep;go_upto_region 5 with fail;go_region;have hY2:=HYe.out;unfold qcq at hY2;simp only at hY2;rw[←hY2];clear hY2;obtain⟨jA7,jB7,jD7⟩:=HJ7.out;have cA:=jA7.cell;have zA:=jA7.free;have lA:=jA7.lt;have cB:=jB7.cell;have cD:=jD7.cell;have lm7:m.mb<Y.heap.size:=HM7.out.lt;clear zq lq cm5 cC q0 q1 q2 q3 q4 q5 q6 q7 q8 q9 q10 q11 q12 q13 q14;by_cases hk0:ak=0
  ·have hkb:(ak != 0)=false:=by rw[hk0];rfl
   have jX:=gg jA7 ⟨ak,ae,av⟩;have HL:=Lib.hid (MLft.act3 HM7.out HS7.out (b:=w.heap.size) (Nat.le_refl _) HO7.out.1 ⟨ak,ae,av⟩);have HK0:=Lib.hid hk0;clear jA7 jB7 jD7 hk0;go_wp2_with fail;change bodyPost _ _ _ _ _ (vg Y w.heap.size ⟨ak,ae,av⟩);generalize vg Y w.heap.size ⟨ak,ae,av⟩=V at *;have cX:=jX.cell;refine bodyPost_ret (v:=.agg #[.int .i64 ak,.int .i64 ae,.int .i64 av]) (by simp[results,Tryz.results32,go_sem,cX,ActV.cells]) rfl ⟨by rw[HRes.out];rfl,?_⟩
   rw[HRes.out];simp only[HK0.out,ne_eq,not_true_eq_false,if_false];exact HL.out
  ·have hkb:(ak != 0)=true:=by rw[bne_iff_ne];exact hk0
   have HNo:=Lib.hid (show Calls Tryz.prog 91 #[.pointer (some ⟨m.mb,3,none⟩),.agg #[.int .i64 T,.int .i64 zb,.int .i64 zn,.int .i64 ak,.int .i64 ae,.int .i64 av]] Y.drew fun e w'=>e=.returned (.tuple #[])∧∃ o',MIn w' o' m (⟨RS,M.ps,M.hs.set T ⟨rb,rn,⟨b0,b1,b2,b3,b4,b5⟩,⟨d0,d1,d2,d3,d4,d5⟩,rl⟩,wu M.past ⟨T,zb,zn,⟨ak,ae,av⟩⟩⟩:Mc)∧Stp (y9 m) o5 o' Y.drew w' from qeu (HM7.out.below (qe (qc Y))) ⟨T,zb,zn,⟨ak,ae,av⟩⟩)
   have HK0:=Lib.hid hk0;clear hk0;go_upto_region 7 with fail;go_still_tail 10,(by kernel_rfl)
   change wpList _ _ _ _ _ Y.drew;clear cA zA lA cB cD;have nrc:¬y9 m (m.y.l.id+1,0):=fun e=>by rcases e with e|e<;>simp at e
   have HFF:=Lib.hid (fun (w9:World) (o9:Own) (hM9:MIn w9 o9 m (⟨RS,M.ps,M.hs.set T ⟨rb,rn,⟨b0,b1,b2,b3,b4,b5⟩,⟨d0,d1,d2,d3,d4,d5⟩,rl⟩,wu M.past ⟨T,zb,zn,⟨ak,ae,av⟩⟩⟩:Mc)) (hs9:Stp (y9 m) o5 o9 Y.drew w9) =>
    show Blk w9 w.heap.size #[.int .i64 0,.int .i64 0,.int .i64 0] 54∧Blk w9 D #[.int .i64 ak,.int .i64 ae,.int .i64 av] 54∧MLft m (⟨RS,M.ps,M.hs.set T ⟨rb,rn,⟨b0,b1,b2,b3,b4,b5⟩,⟨d0,d1,d2,d3,d4,d5⟩,rl⟩,wu M.past ⟨T,zb,zn,⟨ak,ae,av⟩⟩⟩:Mc) o w (vg w9 w.heap.size ⟨ak,ae,av⟩) from by
     have a9:=(qi jA7).stp hs9 (by rw[HO7.out.1];exact nrc)
     have d9:=(qi jD7).stp hs9 (by rw[HO7.out.2.2];exact nrc)
     have t9:o9 w.heap.size=(m.y.l.id+1,0):=(hs9.tags _ (qi jA7).lt).trans HO7.out.1;have s9:Stp (jh m) o o9 w w9:=(HS7.out.trans (Stp.of_below (qe (qc Y)))).trans (hs9.mono (by rintro _ (rfl|rfl)<;>exact .inr rfl))
     exact⟨a9,d9,MLft.act3 hM9 s9 (b:=w.heap.size) (Nat.le_refl _) t9 ⟨ak,ae,av⟩⟩)
   clear jA7 jB7 jD7;go_wp2_with (first
    | (go_at_call 91;refine HNo.out.mono ?_;rintro e w9 ⟨rfl,o9,hM9,hs9⟩;obtain⟨a9,d9,hfin⟩:=HFF.out w9 o9 hM9 hs9;have cA:=a9.cell;have zA:=a9.free;have lA:=a9.lt;have cD:=d9.cell)
    | fail)
   have jX:=gg a9 ⟨ak,ae,av⟩;have HL:=Lib.hid hfin;clear a9 d9 hfin hM9 hs9;change bodyPost _ _ _ _ _ (vg w9 w.heap.size ⟨ak,ae,av⟩);generalize vg w9 w.heap.size ⟨ak,ae,av⟩=V at *;have cX:=jX.cell;refine bodyPost_ret (v:=.agg #[.int .i64 ak,.int .i64 ae,.int .i64 av]) (by simp[results,Tryz.results32,go_sem,cX,ActV.cells]) rfl ⟨by rw[HRes.out];rfl,?_⟩
   rw[HRes.out];simp only[ne_eq,HK0.out,not_false_eq_true,if_true];exact HL.out
theorem xh (h:MIn w o m M) (hk:M.ok) (t:Int) :
  Calls Tryz.prog 32 #[ptr m.mb,.int .i64 t] w fun e w'=>e=.returned (M.step t).2.val∧MLft m (M.step t).1 o w w':=
 (mstep_go (h.retag fun b hb=>qj (n:=w.heap.size) (t:=(m.y.l.id+1,0)) hb) hk t fun b hb=>qp hb).mono fun _ _⟨a,b⟩=>⟨a,b.of_ext⟩
end
namespace A17
def P:List (List (List DeedV)):=[[[⟨1,0,0,0,1⟩]]]
def M:Nat→Mc
 | 0=>Mc.fresh (Stt.fresh 60 1 9 9 (bnd 99).toNat) P
 | k+1=>((M k).step 0).1
theorem pok:ThsOk P:=by
 refine⟨by decide,by decide,fun p hp=>?_⟩
 simp only[P,List.mem_cons,List.not_mem_nil,or_false]at hp;subst hp;refine⟨by decide,fun ds hds=>?_⟩
 simp only[List.mem_cons,List.not_mem_nil,or_false]at hds;subst hds;refine⟨by decide,by decide,fun d hd=>?_⟩
 simp only[List.mem_cons,List.not_mem_nil,or_false]at hd;subst hd;exact⟨⟨by decide,by decide,by decide,by decide,by decide,fun _=>by decide⟩,by decide +kernel⟩
theorem ok:∀ k,(M k).ok
 | 0=>Mc.fresh_ok (by omega) (by omega) (by omega) (by omega) (by decide +kernel) pok
 | k+1=>Mc.ok_step (ok k) 0
theorem act0:((M 0).step 0).2=⟨1,0,0⟩:=by decide +kernel
theorem act1:((M 1).step 0).2=⟨2,0,1⟩:=by decide +kernel
theorem act2:((M 2).step 0).2=⟨3,0,1⟩:=by decide +kernel
theorem act3:((M 3).step 0).2=⟨0,0,0⟩:=by decide +kernel
theorem past:(M 4).past=[⟨0,0,0,⟨1,0,0⟩⟩,⟨0,0,0,⟨2,0,1⟩⟩,⟨0,0,1,⟨3,0,1⟩⟩]:=by decide +kernel
theorem fin:(M 4).done=true∧((M 4).thread 0).2=true∧((M 4).thread 0).1.r.a0=1∧(M 4).collect.2=false∧(M 4).collect.1.S.now=1∧(M 4).S.H.moving=false:=by decide +kernel
theorem shut:Shut (M 4).S.H:=by unfold Shut OkP;decide +kernel
theorem okp:OkP (lk (M 4).S.H.cur) ((M 4).S.places (M 4).roots):=by unfold OkP;decide +kernel
theorem cn:((M 4).S.H.canon ((M 4).S.places (M 4).roots)).length=1∧((M 4).S.places (M 4).roots).length≤1000000:=by decide +kernel
end A17
theorem Row.of_blk {w:World}{b:Nat}{cs:Array Value}{e:TypeId}{o:Own}{t:Tag}(n size:Nat)(h:Blk w b cs e)(hn:cs.size=n*size)(hm:n≤maxLen)(ht:o b=t):Row w o t e size (.slice (some ⟨b,0,none⟩) n n) n cs.toList:=
 ⟨⟨by simpa using hn,.inr ⟨b,n,cs,rfl,Nat.zero_le _,h,Nat.le_refl _,hm,hn,by rw[←hn,←Array.length_toList,List.take_length]⟩⟩,fun k hk=>by
  have:b=k:=by simpa [Value.ownBlock] using hk
  subst this;exact ht⟩
section
variable {w w' : World} {o o' : Own} {m : MLay} {M : Mc}
structure Bz (o:Own)(w:World)(b:Nat)(cs:Array Value)(t:TypeId):Prop where
 j:Blk w b cs t
 ow:o b=(9,1)
theorem Bz.stp {T:Tag→Prop}{b:Nat}{cs:Array Value}{t:TypeId}(h:Bz o w b cs t)(k:Stp T o o' w w')(ht:¬T (9,1)):Bz o' w' b cs t:=⟨h.j.stp k (by rw[h.ow];exact ht),(k.tags _ h.j.lt).trans h.ow⟩
theorem ka (o:Own)(w:World)(cs:Array Value)(t:TypeId):Stp (fun _=>False) o (ext o w.heap.size (9,1)) w (w.alloc (.cells cs t)):=(Stp.of_below (qa (qc w) _)).ext _ _ (Nat.le_refl _)
theorem tf (o:Own)(w:World)(cs:Array Value)(t:TypeId):Bz (ext o w.heap.size (9,1)) (w.alloc (.cells cs t)) w.heap.size cs t:=⟨Blk.new _ _ _,qp (Nat.le_refl _)⟩
theorem MIn.low (h:MIn w o m M)(k:Stp (fun _=>False) o o' w w'):MIn w' o' m M:=h.stp k (fun _ h=>h) fun _ h=>h
theorem qd6 (hid:m.y.l.id=0):¬jh m (9,1):=by unfold jh;rw[hid];simp
end
theorem gr (w:World):Calls Tryz.prog 26 #[] w fun e w'=>e=.returned (.bool true)∧Below w.heap.size w w':=by
 obtain⟨W3,hW3⟩:∃ W3:World,W3=((w.alloc (.cells #[.int .i64 1,.int .i64 0,.int .i64 0,.int .i64 0,.int .i64 1] 73)).alloc (.cells #[.slice (some ⟨w.heap.size,0,none⟩) 1 1] 71)).alloc (.cells #[.slice (some ⟨w.heap.size+1,0,none⟩) 1 1] 67):=⟨_,rfl⟩;have hb3:Below w.heap.size w W3:=by rw[hW3];exact qa (qa (qa (qc w) _) _) _
 have hRT:RT W3 (.slice (some ⟨w.heap.size+2,0,none⟩) 1 1) A17.P:=by
  have j0:Blk W3 w.heap.size #[.int .i64 1,.int .i64 0,.int .i64 0,.int .i64 0,.int .i64 1] 73:=by rw[hW3];exact ((Blk.new _ _ _).alloc _).alloc _
  have j1:Blk W3 (w.heap.size+1) #[.slice (some ⟨w.heap.size,0,none⟩) 1 1] 71:=by rw[hW3];exact (Blk.new_at _ _ _ _ _ (by simp) rfl).alloc _
  have j2:Blk W3 (w.heap.size+2) #[.slice (some ⟨w.heap.size+1,0,none⟩) 1 1] 67:=by rw[hW3];exact Blk.new_at _ _ _ _ _ (by simp) rfl
  refine⟨by decide,[.slice (some ⟨w.heap.size+1,0,none⟩) 1 1],fun _=>(5,5),(5,5),rfl,Row.of_blk 1 1 j2 rfl (by decide) rfl,fun j bs hj=>?_⟩
  cases j with
  | succ j=>simp[A17.P]at hj
  | zero =>
   simp only[A17.P,List.getElem?_cons_zero,Option.some.injEq]at hj;subst hj;refine⟨_,rfl,by decide,[.slice (some ⟨w.heap.size,0,none⟩) 1 1],fun _=>(5,5),(5,5),rfl,Row.of_blk 1 1 j1 rfl (by decide) rfl,fun j l hj=>?_⟩
   cases j with
   | succ j=>simp at hj
   | zero =>
    simp only[List.getElem?_cons_zero,Option.some.injEq]at hj;subst hj;exact⟨_,rfl,by decide,fun _=>(5,5),(5,5),Row.of_blk 1 5 j0 rfl (by decide) rfl⟩
 have HN:=Lib.hid (show Calls Tryz.prog 29 #[.int .i64 60,.int .i64 9,.int .i64 9,.int .i64 99,.slice (some ⟨w.heap.size+2,0,none⟩) 1 1] W3 fun e w'=>∃ m o',e=.returned (.tuple #[ptr m.mb,.int .i64 0])∧m.y.l.id=0∧MIn w' o' m (A17.M 0)∧Stp (fun _=>False) (fun _=>(7,0)) o' W3 w' from
  tb 60 9 9 99 (by omega) (by omega) (by omega) (by omega) A17.pok (fun _=>(7,0)) 0 W3 hRT fun b _=>⟨by simp,by simp⟩)
 have HE:=Lib.hid (fun W=>mnew_nil 60 9 9 99 W)
 have HS0:=Lib.hid (fun (X:World)(o2:Own)(m:MLay)(hM:MIn X o2 m (A17.M 0))=>show Calls Tryz.prog 32 #[ptr m.mb,.int .i64 0] X fun e w'=>e=.returned (.agg #[.int .i64 1,.int .i64 0,.int .i64 0])∧MLft m (A17.M 1) o2 X w' from by
  have h:=xh hM (A17.ok 0) 0;rw[A17.act0]at h;exact h)
 have HS1:=Lib.hid (fun (X:World)(o2:Own)(m:MLay)(hM:MIn X o2 m (A17.M 1))=>show Calls Tryz.prog 32 #[ptr m.mb,.int .i64 0] X fun e w'=>e=.returned (.agg #[.int .i64 2,.int .i64 0,.int .i64 1])∧MLft m (A17.M 2) o2 X w' from by
  have h:=xh hM (A17.ok 1) 0;rw[A17.act1]at h;exact h)
 have HS2:=Lib.hid (fun (X:World)(o2:Own)(m:MLay)(hM:MIn X o2 m (A17.M 2))=>show Calls Tryz.prog 32 #[ptr m.mb,.int .i64 0] X fun e w'=>e=.returned (.agg #[.int .i64 3,.int .i64 0,.int .i64 1])∧MLft m (A17.M 3) o2 X w' from by
  have h:=xh hM (A17.ok 2) 0;rw[A17.act2]at h;exact h)
 obtain⟨M4,hM4e⟩:∃ M4,M4=A17.M 4:=⟨_,rfl⟩;have hk4:M4.ok:=by rw[hM4e];exact A17.ok 4
 have HS3:=Lib.hid (fun (X:World)(o2:Own)(m:MLay)(hM:MIn X o2 m (A17.M 3))=>show Calls Tryz.prog 32 #[ptr m.mb,.int .i64 0] X fun e w'=>e=.returned (.agg #[.int .i64 0,.int .i64 0,.int .i64 0])∧MLft m M4 o2 X w' from by
  have h:=xh hM (A17.ok 3) 0;rw[A17.act3,show ((A17.M 3).step 0).1=M4 from hM4e.symm]at h;exact h)
 obtain⟨f1,f2,f3,f4,f5,f6⟩:=A17.fin;rw[←hM4e]at f1 f2 f3 f4 f5 f6;have HHi:=Lib.hid (fun (X:World)(o2:Own)(m:MLay)(hM:MIn X o2 m M4)=>show Calls Tryz.prog 36 #[ptr m.mb] X fun e w'=>∃ v',e=.returned v'∧Row w' (fo X.heap.size) (1,0) 69 6 v' 3 (qw [⟨0,0,0,⟨1,0,0⟩⟩,⟨0,0,0,⟨2,0,1⟩⟩,⟨0,0,1,⟨3,0,1⟩⟩])∧MIn w' o2 m M4∧Stp (fun t=>t=(m.y.l.id+2,0)) o2 o2 X w' from by
  have h:=uz hM hk4.pl;have hp:M4.past=[⟨0,0,0,⟨1,0,0⟩⟩,⟨0,0,0,⟨2,0,1⟩⟩,⟨0,0,1,⟨3,0,1⟩⟩]:=by rw[hM4e];exact A17.past
  rw[hp]at h;exact h)
 obtain⟨H,hH⟩:∃ H,H=(M4.thread 0).1:=⟨_,rfl⟩;have HTh:=Lib.hid (fun (X:World)(o2:Own)(m:MLay)(hM:MIn X o2 m M4)=>show Calls Tryz.prog 33 #[ptr m.mb,.int .i64 0] X fun e w'=>e=.returned (.tuple #[.agg #[.int .i64 H.b,.int .i64 H.n,.int .i64 1,.int .i64 H.r.a1,.int .i64 H.r.a2,.int .i64 H.r.a3,.int .i64 H.r.a4,.int .i64 H.r.a5,.int .i64 H.s.a0,.int .i64 H.s.a1,.int .i64 H.s.a2,.int .i64 H.s.a3,.int .i64 H.s.a4,.int .i64 H.s.a5,.bool H.l],.bool true])∧Below X.heap.size X w' from by
  have h:=qau hM hk4 0;rw[f2,←hH]at h;rw[←hH]at f3;have e:H.v=.agg #[.int .i64 H.b,.int .i64 H.n,.int .i64 1,.int .i64 H.r.a1,.int .i64 H.r.a2,.int .i64 H.r.a3,.int .i64 H.r.a4,.int .i64 H.r.a5,.int .i64 H.s.a0,.int .i64 H.s.a1,.int .i64 H.s.a2,.int .i64 H.s.a3,.int .i64 H.s.a4,.int .i64 H.s.a5,.bool H.l]:=by
   rw[←f3];rfl
  rw[e]at h;exact h)
 have HDone:=Lib.hid (fun (m:MLay)(X:World)(o2:Own)(hM:MIn X o2 m M4)=>show Calls Tryz.prog 37 #[ptr m.mb] X fun e w'=>e=.returned (.bool true)∧Below X.heap.size X w' from by
  have h:=qmw hM hk4;rw[f1]at h;exact h)
 have HCanon:=Lib.hid (fun (m:MLay)(X:World)(o2:Own)(hM:MIn X o2 m M4)=>show Calls Tryz.prog 40 #[ptr m.mb] X fun e w'=>∃ p c,e=.returned (.slice p 1 c)∧Below X.heap.size X w' from by
  refine (qh3 hM hk4 f6 (by rw[hM4e];exact A17.shut) (by rw[hM4e];exact A17.okp) (by rw[hM4e];exact A17.cn.2)).mono ?_
  rintro e w' ⟨v1,oo,rfl,hN,hb,_⟩
  obtain⟨es,_,hr,_⟩:=hN;obtain⟨p,c,rfl⟩:=hr.slc;have hl:(M4.S.H.canon (M4.S.places M4.roots)).length=1:=by rw[hM4e];exact A17.cn.1
  rw[hl];exact⟨p,c,rfl,hb⟩)
 have HCol:=Lib.hid (fun (m:MLay)(X:World)(o2:Own)(hM:MIn X o2 m M4)=>show Calls Tryz.prog 31 #[ptr m.mb] X fun e w'=>e=.returned (.bool false)∧MLft m M4.collect.1 o2 X w' from by
  have h:=nj hM hk4;rw[f4]at h;exact h)
 have HNow:=Lib.hid (fun (m:MLay)(X:World)(o2:Own)(hM:MIn X o2 m M4.collect.1)=>show Calls Tryz.prog 38 #[ptr m.mb] X fun e w'=>e=.returned (.int .i64 1)∧X=w' from by
  obtain⟨_,jb,_⟩:=hM.blk;have h:=qhk hM.st (Mc.ok_collect hk4).inv (jb.cell 0);rw[f5]at h;exact h)
 have HB':=Lib.hid hb3;clear hRT hb3 hk4 f1 f2 f3 f4 f5 f6 hH hM4e;go_enter Tryz.func26,Tryz.ntmps26;go_upto_region 11 with (first
  | (go_at_call 29;rw[←hW3];clear hW3;refine HN.out.mono ?_;rintro e w1 ⟨m,o1,rfl,hid,hM0,hs1⟩;have HID:=Lib.hid hid;have HMa:=Lib.hid hM0;have HSx:=Lib.hid hs1;clear hid hM0 hs1)
  | (go_at_call 29;refine (HE.out _).mono ?_;rintro e w2 ⟨rfl,hb2⟩;have HM0:=Lib.hid (HMa.out.below hb2);have HS'0:=Lib.hid (show Stp (jh m) (fun _=>(7,0)) o1 W3 w2 from (HSx.out.trans (Stp.of_below hb2)).mono fun _ h=>h.elim);clear hb2 HMa HSx)
  | (go_at_call 32;refine (HS0.out _ _ m HM0.out).mono ?_;rintro e w3 ⟨rfl,o3,hMn,hs3⟩;have HA:=Lib.hid (tf o3 w3 #[.int .i64 1,.int .i64 0,.int .i64 0] 54);have HM1:=Lib.hid (hMn.low (ka o3 w3 #[.int .i64 1,.int .i64 0,.int .i64 0] 54));have HS'1:=Lib.hid ((HS'0.out.trans hs3).trans ((ka o3 w3 #[.int .i64 1,.int .i64 0,.int .i64 0] 54).mono fun _ h=>h.elim));clear hMn hs3 HM0 HS'0)
  | (go_at_call 32;refine (HS1.out _ _ m HM1.out).mono ?_;rintro e w4 ⟨rfl,o4,hMn,hs4⟩;have HA:=Lib.hid ((HA.out.stp hs4 (qd6 HID.out)).stp (ka o4 w4 #[.int .i64 2,.int .i64 0,.int .i64 1] 54) id);have HB:=Lib.hid (tf o4 w4 #[.int .i64 2,.int .i64 0,.int .i64 1] 54);have HM2:=Lib.hid (hMn.low (ka o4 w4 #[.int .i64 2,.int .i64 0,.int .i64 1] 54));have HS'2:=Lib.hid ((HS'1.out.trans hs4).trans ((ka o4 w4 #[.int .i64 2,.int .i64 0,.int .i64 1] 54).mono fun _ h=>h.elim));clear hMn hs4 HM1 HS'1)
  | (go_at_call 32;refine (HS2.out _ _ m HM2.out).mono ?_;rintro e w5 ⟨rfl,o5,hMn,hs5⟩;have HA:=Lib.hid ((HA.out.stp hs5 (qd6 HID.out)).stp (ka o5 w5 #[.int .i64 3,.int .i64 0,.int .i64 1] 54) id);have HB:=Lib.hid ((HB.out.stp hs5 (qd6 HID.out)).stp (ka o5 w5 #[.int .i64 3,.int .i64 0,.int .i64 1] 54) id);have HC:=Lib.hid (tf o5 w5 #[.int .i64 3,.int .i64 0,.int .i64 1] 54);have HM3:=Lib.hid (hMn.low (ka o5 w5 #[.int .i64 3,.int .i64 0,.int .i64 1] 54));have HS'3:=Lib.hid ((HS'2.out.trans hs5).trans ((ka o5 w5 #[.int .i64 3,.int .i64 0,.int .i64 1] 54).mono fun _ h=>h.elim));clear hMn hs5 HM2 HS'2)
  | (go_at_call 32;refine (HS3.out _ _ m HM3.out).mono ?_;rintro e w6 ⟨rfl,o6,hMn,hs6⟩;have HA:=Lib.hid ((HA.out.stp hs6 (qd6 HID.out)).stp (ka o6 w6 #[.int .i64 0,.int .i64 0,.int .i64 0] 54) id);have HB:=Lib.hid ((HB.out.stp hs6 (qd6 HID.out)).stp (ka o6 w6 #[.int .i64 0,.int .i64 0,.int .i64 0] 54) id);have HC:=Lib.hid ((HC.out.stp hs6 (qd6 HID.out)).stp (ka o6 w6 #[.int .i64 0,.int .i64 0,.int .i64 0] 54) id);have HD:=Lib.hid (tf o6 w6 #[.int .i64 0,.int .i64 0,.int .i64 0] 54);have HM4:=Lib.hid (hMn.low (ka o6 w6 #[.int .i64 0,.int .i64 0,.int .i64 0] 54));have HS'4:=Lib.hid ((HS'3.out.trans hs6).trans ((ka o6 w6 #[.int .i64 0,.int .i64 0,.int .i64 0] 54).mono fun _ h=>h.elim));clear hMn hs6 HM3 HS'3)
  | (go_at_call 36;refine (HHi.out _ _ m (HM4.out.retag (o':=ext (ext o6 w6.heap.size (9,1)) (w6.heap.size+1) (9,2)) fun b hb=>qj (by simpa using hb))).mono ?_;rintro e w7 ⟨vh,rfl,hrh,hMh,hs7⟩;obtain⟨ph,ch,rfl⟩:=hrh.slc;have HM5:=Lib.hid hMh;have HRh:=Lib.hid hrh;have HS7:=Lib.hid hs7;clear hrh hMh hs7)
  | (go_at_call 33;refine (HTh.out _ _ m HM5.out).mono ?_;rintro e w8 ⟨rfl,hb8⟩;have HB8:=Lib.hid hb8;clear hb8)
  | fail)
 have hX:(w6.alloc (.cells #[.int .i64 0,.int .i64 0,.int .i64 0] 54)).heap.size=w6.heap.size+1:=by simp
 obtain⟨X,hXe⟩:∃ X:World,X=w6.alloc (.cells #[.int .i64 0,.int .i64 0,.int .i64 0] 54):=⟨_,rfl⟩;rw[←hXe]at HA HB HC HD HS'4 HS7 HRh hX;obtain⟨oX,hoX⟩:∃ oX,oX=ext o6 w6.heap.size (9,1):=⟨_,rfl⟩;rw[←hoX]at HA HB HC HD HS'4 HS7 HM5;obtain⟨o7,ho7⟩:∃ o7,o7=ext oX (w6.heap.size+1) (9,2):=⟨_,rfl⟩;rw[←ho7]at HS7 HM5;have e7:∀ b,b<X.heap.size→o7 b=oX b:=fun b hb=>by rw[ho7];exact qj (by omega)
 obtain⟨W9,hW9⟩:∃ W9:World,W9=w8.alloc (.cells #[.int .i64 H.b,.int .i64 H.n,.int .i64 1,.int .i64 H.r.a1,.int .i64 H.r.a2,.int .i64 H.r.a3,.int .i64 H.r.a4,.int .i64 H.r.a5,.int .i64 H.s.a0,.int .i64 H.s.a1,.int .i64 H.s.a2,.int .i64 H.s.a3,.int .i64 H.s.a4,.int .i64 H.s.a5,.bool H.l] 58):=⟨_,rfl⟩;rw[←hW9];have hb9:Below w7.heap.size w7 W9:=by rw[hW9];exact qa HB8.out _
 have hT:Blk W9 w8.heap.size #[.int .i64 H.b,.int .i64 H.n,.int .i64 1,.int .i64 H.r.a1,.int .i64 H.r.a2,.int .i64 H.r.a3,.int .i64 H.r.a4,.int .i64 H.r.a5,.int .i64 H.s.a0,.int .i64 H.s.a1,.int .i64 H.s.a2,.int .i64 H.s.a3,.int .i64 H.s.a4,.int .i64 H.s.a5,.bool H.l] 58:=by rw[hW9];exact Blk.new _ _ _
 have box:∀ {b:Nat}{cs:Array Value}{t:TypeId},Bz oX X b cs t→Blk W9 b cs t:=fun h=>by
  have k:=h.j.stp HS7.out (by rw[e7 _ h.j.lt,h.ow,HID.out];simp)
  exact k.below hb9 k.lt
 have hs9:Stp (jh m) (fun _=>(7,0)) o7 W3 W9:=by
  have s1:Stp (jh m) (fun _=>(7,0)) o7 W3 X:=by
   rw[ho7];exact HS'4.out.ext (9,2) _ (by have:=HS'4.out.size;omega)
  exact (s1.trans (HS7.out.mono (by rintro _ rfl;exact .inr rfl))).trans (Stp.of_below hb9)
 have hM9:MIn W9 o7 m M4:=HM5.out.below hb9;rcases (HRh.out.below hb9).form4 with ⟨_,e⟩|⟨g,cap,e,hc⟩
 ·simp[qw]at e
 ·injection e with e1 _ e3
  subst e1 e3;have hcs:∀ (j:Nat)(u:Value),(qw [⟨0,0,0,⟨1,0,0⟩⟩,⟨0,0,0,⟨2,0,1⟩⟩,⟨0,0,1,⟨3,0,1⟩⟩])[j]?=some u→W9.cell? ⟨g,j,none⟩=some u:=fun j u hu=>by
   have:=(HRh.out.below hb9).own.cells (g:=g) rfl j u hu;rwa [addr_add]at this
  have HSa:=Lib.hid hs9;refine r17_11 _ m M4 M4.collect.1 o7 W9 _ _ _ _ _ g ch _ _ _ _ _ _ _ _ _ _ _ _ _ _ _ _ _ _ _ _ _ _ _ _ _ _ _ _ _ _ _ _ _ _ _ _ _ _ _ _ _ _ _ _ _ _ _ _ _ _ _ _ _ _ _ _ _ _ _ _ _ _ _ _ _ _ _ _ _ _ _ _ _ _ _ _ _ _ _ _ _ _ _ _ _ _ _ _ _ _ _ _ _ _ _ _ _ _ _ _ _ hM9 (HDone.out m) (HCanon.out m) (HCol.out m) (HNow.out m) (box HA.out) (box HB.out) (box HC.out) (box HD.out) (hT.cell 2) hT.lt (HRh.out.below hb9).blt hc (hcs 6 _ rfl) (hcs 7 _ rfl) (hcs 8 _ rfl) (hcs 9 _ rfl) (hcs 10 _ rfl) (hcs 11 _ rfl) ?_
  rintro X9 o9 z49 z50 z51 z52 z53 z54 z55 z56 z57 z58 z59 z60 z61 z62 z63 z64 z65 z66 z67 z68 z69 z70 z71 z72 z73 z74 z75 z76 z77 z78 z79 z80 z81 z82 z83 z84 z85 z86 z87 z88 z89 z90 z91 z92 z93 z94 z95 z96 z97 z98 z99 z100 z101 z102 z103 z104 z105 z106 z107 z108 hM10 hs10
  have hfin:=(HSa.out.trans hs10).below fun b _=>by show ¬jh m (7,0);unfold jh;rw[HID.out];simp
  go_wp2_with fail;go_ret;exact⟨rfl,qd HB'.out hfin⟩
end Go.Proofs.YteehgedabdchcaaGreat
