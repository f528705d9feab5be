import Derived.Test.YteehgedabdchcaaGreatQat
import Derived.Test.YteehgedabdchcaaGreatQaz
import Derived.Test.YteehgedabdchcaaGreatQbd
set_option linter.all false
set_option maxRecDepth 1000000
set_option maxHeartbeats 16000000
namespace Go.Proofs.YteehgedabdchcaaGreat
open Go.RowKit Hp
attribute [local go_sem ↓] Go.wp_at_zero Go.wp_at_succ
theorem pick14_any (c:Int)(hc:-9223372036854775808≤c∧c≤9223372036854775807)(n:Nat)(h1:1≤n)(h2:n≤100)(w:World) :
  Calls Tryz.prog 55 #[.int .i64 c,.int .i64 n] w fun e w'=>e=.returned (.int .i64 (pk c n))∧w=w':=by
 obtain⟨c1,c2⟩:=hc;have hn0:((n:Int)==0)=false:=by rw[beq_eq_false_iff_ne];omega
 have hnI:(1:Int)≤(n:Int):=by omega
 have hnJ:(n:Int)≤100:=by omega
 rcases Int.lt_or_le c 0 with h|h
 ·have e1:(pk c n:Int)=(-(c+1))%(n:Int):=by
   unfold pk;rw[if_pos h];rw[Int.natCast_emod];congr 1;omega
  have b1:0≤-(c+1):=by omega
  have b2:-(c+1)≤9223372036854775807:=by omega
  have HE:=Lib.hid e1;clear e1 h1 h2;go_enter Tryz.func55,Tryz.ntmps55;go_wp2_with fail;go_ret;exact⟨ret_int (by rw[HE.out];first|rfl|rw[←Int.tmod_eq_emod_of_nonneg b1,Int.neg_tmod]),rfl⟩
 ·have e1:(pk c n:Int)=c%(n:Int):=by
   unfold pk;rw[if_neg (by omega)];rw[Int.natCast_emod];congr 1;omega
  have HE:=Lib.hid e1;clear e1 h1 h2;go_enter Tryz.func55,Tryz.ntmps55;go_wp2_with fail;go_ret;exact⟨ret_int (by rw[HE.out]),rfl⟩
theorem pick14_q (c:Int)(hc:-9223372036854775808≤c∧c≤9223372036854775807)(n:Nat)(h1:1≤n)(h2:n≤100)(w:World) :
  Calls Tryz.prog 55 #[.int .i64 c,.int .i64 n] w fun e w'=>e=.returned (.int .i64 (pk c n))∧w'=w:=
 (pick14_any c hc n h1 h2 w).mono fun _ _ h=>⟨h.1,h.2.symm⟩
def OpV.v (d:OpV):Value:=.agg #[.int .i64 d.k,.int .i64 d.t,.int .i64 d.a,.int .i64 d.b,.int .i64 d.i,.int .i64 d.n,.int .i64 d.s0,.int .i64 d.s1,.int .i64 d.s2]
def OpV.shp (d:OpV):Shp:=⟨1+pk d.s0 2,1+pk d.s1 2,false,pk d.s2 4==3⟩
theorem shape14_any (d:OpV)(hd:d.ok)(w:World) :
  Calls Tryz.prog 58 #[d.v] w fun e w'=>e=.returned (shpV d.shp)∧Below w.heap.size w w':=by
 have P0:=Lib.hid (fun w=>pick14_q d.s0 (hd 6) 2 (by omega) (by omega) w)
 have P1:=Lib.hid (fun w=>pick14_q d.s1 (hd 7) 2 (by omega) (by omega) w)
 have P2:=Lib.hid (fun w=>pick14_q d.s2 (hd 8) 4 (by omega) (by omega) w)
 have l0:=pk_lt d.s0 (show 1≤2 by omega)
 have l1:=pk_lt d.s1 (show 1≤2 by omega)
 have l2:=pk_lt d.s2 (show 1≤4 by omega)
 have e0:d.shp=⟨1+pk d.s0 2,1+pk d.s1 2,false,pk d.s2 4==3⟩:=rfl;rw[e0];have e1:d.v=.agg #[.int .i64 d.k,.int .i64 d.t,.int .i64 d.a,.int .i64 d.b,.int .i64 d.i,.int .i64 d.n,.int .i64 d.s0,.int .i64 d.s1,.int .i64 d.s2]:=rfl;rw[e1];generalize pk d.s0 2=p at *;generalize pk d.s1 2=q at *;generalize pk d.s2 4=r at *;have pI:(p:Int)<2:=by omega
 have qI:(q:Int)<2:=by omega
 have rI:(r:Int)<4:=by omega
 clear e0 e1 hd;obtain⟨dk,dt,da,db,di,dn,s0,s1,s2⟩:=d;simp only at P0 P1 P2 ⊢;go_enter Tryz.func58,Tryz.ntmps58;go_upto_region 1 with fail;obtain⟨W,hW⟩:∃ W:World,W=(w.alloc (.cells #[.int .i64 dk,.int .i64 dt,.int .i64 da,.int .i64 db,.int .i64 di,.int .i64 dn,.int .i64 s0,.int .i64 s1,.int .i64 s2] 37)).alloc (.cells #[.int .i64 0,.int .i64 0,.bool false,.bool false] 93):=⟨_,rfl⟩;rw[←hW];have hbW:Below w.heap.size w W:=by rw[hW];exact balloc (balloc (bsame w) _) _
 have j1:Blk W w.heap.size #[.int .i64 dk,.int .i64 dt,.int .i64 da,.int .i64 db,.int .i64 di,.int .i64 dn,.int .i64 s0,.int .i64 s1,.int .i64 s2] 37:=by rw[hW];exact (Blk.new w _ _).alloc _
 have j2:Blk W (w.heap.size+1) #[.int .i64 0,.int .i64 0,.bool false,.bool false] 93:=by rw[hW];exact Blk.new_at _ _ _ _ _ (by simp) rfl
 clear hW;have c1:=j1.cell;have c2:=j2.cell;have z2:=j2.free;have s2':=j2.lt;go_still_tail 16,(by kernel_rfl)
 still_call (P0.out _)
 repeat still_step
 still_call (P1.out _)
 repeat still_step
 still_call (P2.out _)
 repeat still_step
 refine wpStill_nil ?_;change wpList _ _ _ _ _ W.drew;go_wp2_with fail;have j3:=((((j2.set 0 (.int .i64 (1+(p:Int)))).set 1 (.int .i64 (1+(q:Int)))).set 2 (.bool false)).set 3 (.bool ((r:Int)==3)));have hr:((r:Int)==3)=(r==3):=by rw[Bool.eq_iff_iff,beq_iff_eq,beq_iff_eq];omega
 have hfin:Below w.heap.size w ((((W.setCell ⟨w.heap.size+1,0,none⟩ (.int .i64 (1+(p:Int)))).setCell ⟨w.heap.size+1,1,none⟩ (.int .i64 (1+(q:Int)))).setCell ⟨w.heap.size+1,2,none⟩ (.bool false)).setCell ⟨w.heap.size+1,3,none⟩ (.bool ((r:Int)==3))):=
  bset (bset (bset (bset hbW (by simp) _) (by simp) _) (by simp) _) (by simp) _
 generalize (((W.setCell ⟨w.heap.size+1,0,none⟩ (.int .i64 (1+(p:Int)))).setCell ⟨w.heap.size+1,1,none⟩ (.int .i64 (1+(q:Int)))).setCell ⟨w.heap.size+1,2,none⟩ (.bool false)).setCell ⟨w.heap.size+1,3,none⟩ (.bool ((r:Int)==3))=X at *;have c3:∀ i,X.drew.cell? ⟨w.heap.size+1,i,none⟩=_:=j3.cell;refine bodyPost_ret (v:=shpV ⟨1+p,1+q,false,r==3⟩) ?_ rfl ⟨rfl,bdrew hfin⟩;simp[results,Tryz.results58,go_sem,c3,shpV,hr]
def yT (y:SLay)(t:Tag):Prop:=stTag y t∨t=(9,0)
theorem nine_st {y:SLay}(h:y.l.id=0):¬stTag y (9,0):=by unfold stTag;rw[h];simp
theorem yard_any (w:World):Calls Tryz.prog 14 #[.int .i64 400,.int .i64 2] w fun e w' =>
  ∃ y v o',e=.returned (.tuple #[ptr y.sb,v])∧y.l.id=0∧StIn w' o' y (Yd.Y)∧Inv (Yd.Y)∧Row w' o' (9,0) 3 1 v 4 ((List.range 4).map fun t=>nv (Yd.pl t))∧Stp (yT y) (fun _=>(7,0)) o' w w':=by
 have hfree:∀ b,b<w.heap.size→((fun _=>(7,0):Own) b).1≠0:=fun b _=>by simp
 have HB:=Lib.hid Yd.fB;have HC:=Lib.hid Yd.fC;have HN:=Lib.hid (show Calls Tryz.prog 46 #[.int .i64 400,.int .i64 2,.int .i64 60,.int .i64 60,.int .i64 1073741824] w fun e w'=>∃ y,e=.returned (.tuple #[ptr y.sb,.int .i64 0])∧y.l.id=0∧Left y Yd.F (fun _=>(7,0)) w w' from c_new 400 2 60 60 1073741824 (by omega) (by omega) (by omega) (by omega) (by omega) (by omega) (fun _=>(7,0)) 0 w hfree)
 have HY:=Lib.hid Yd.fY;clear hfree;go_enter Tryz.func14,Tryz.ntmps14;go_wp2_with fail;refine HN.out.mono ?_
 rintro e w0 ⟨y,rfl,hid,hL⟩
 have HID:=Lib.hid hid;obtain⟨o0,hS0,hI0,hs0⟩:=hL;clear hid;go_wp2_with fail;refine (c_begin (i:=0) hS0 hI0 (by decide +kernel)).mono ?_
 rintro e w1 ⟨he,hL⟩
 rw[HY.out.1]at he;subst he;obtain⟨o1,hS1,hI1,hs'⟩:=show Left y (Yd.B 0) o0 w0 w1 from hL;have hs1:Stp (yT y) (fun _=>(7,0)) o1 w w1:=(hs0.trans hs').mono fun _ h=>.inl h
 clear hL hs' hs0 hS0 hI0;have hu64:=Tryz.underlying25;obtain⟨iI,hi,hsI,hyI,hzI⟩:=info_int;have hw4:=Lib.hid (fun (j:Nat) (hj:j≤4096)=>len_ok hj)
 go_wp2_with fail;go_loopw [9,8] (fun ix v wr=>∃ (j:Nat) (oo:Own),ix=.int .i64 j∧j≤4∧StIn wr oo y (Yd.B j)∧Inv (Yd.B j)∧Row wr oo (9,0) 3 1 v j ((List.range j).map fun t=>nv (Yd.pl t))∧Stp (yT y) (fun _=>(7,0)) oo w wr) (fun ix _ _=>4-(intOf ix).toNat)
 case atStart=>exact⟨0,o1,rfl,by omega,hS1,hI1,Row.nil _ _ _ _ _,hs1⟩
 case round =>
  clear hS1 hI1 hs1;obtain⟨j,oo,rfl,hj4,hS,hI,hr,hs⟩:=hrel;obtain⟨wo,rfl⟩:∃ wo:World,wo=wr:=⟨_,rfl⟩;by_cases hlt:j<4
  ·have jI:(j:Int)<4:=by omega
   obtain⟨f1,f2,f3,f4⟩:=HB.out j hlt;have HA:=Lib.hid (c_alloc (i:=0) hS hI f1 Yd.s2 (by unfold Shp.ok;decide) rfl)
   rw[f2,f3]at HA;obtain⟨pl,hpl⟩:∃ pl,pl=Yd.pl j:=⟨_,rfl⟩;rw[←hpl]at HA;have HPL:=Lib.hid hpl;clear f1 f2 f3 f4 hS hI hpl;go_wp2_with fail;refine HA.out.mono ?_
   rintro e w2 ⟨rfl,hL⟩
   obtain⟨o2,hS2,hI2,hs2⟩:=show Left y (Yd.B (j+1)) oo wo w2 from hL;have hr2:=hr.stp hs2 (nine_st HID.out);clear hL hr;obtain⟨pv,cv,rfl⟩:=hr2.slc;go_wp2_with (first|(at_builtin;refine wpList_append_row _ rfl _ _ _ rfl 3 iI _ 1 8 hu64 hi hzI hsI hyI rfl (by decide) o2 (9,0) _ _ _ rfl (Row.below hr2 (balloc (bsame w2) _)) ⟨w2.heap.size,0,none⟩ 1 1 [.int .i64 pl] rfl rfl (news_one (Blk.new w2 _ _)) one_i64 (hw4.out j (by omega)).1 (hw4.out j (by omega)).2 ?_;intro v' w8 hown hst))
   have hs8:Stp (yT y) o2 (ext o2 (w2.alloc (.cells #[.int .i64 pl] 3)).heap.size (9,0)) w2 w8:=(Stp.of_below (balloc (bsame w2) (.cells #[.int .i64 pl] 3))).trans (hst.mono fun _ h=>.inr h)
   have hS8:=(hS2.below (balloc (bsame w2) (.cells #[.int .i64 pl] 3))).stp hst (fun q=>by rw[HID.out];simp)
   go_roundw
   case rel =>
    refine⟨j+1,_,by simp,by omega,hS8,hI2,?_,hs.trans ((hs2.mono fun _ h=>.inl h).trans hs8)⟩
    rw[List.range_succ,List.map_append,List.map_cons,List.map_nil,←HPL.out];exact hown
   case measure=>simp[intOf];omega
  ·obtain rfl:j=4:=by omega
   clear hlt;obtain⟨g,cap,hv,hcap⟩:=(show ∃ g cap,u8=.slice (some ⟨g,0,none⟩) 4 cap∧4≤cap from by
    rcases hr.form with ⟨_,h0⟩|⟨g,cap,e,hn,_⟩
    ·cases h0
    ·exact⟨g,cap,e,hn⟩)
   subst hv;rw[show ((4:Nat):Int)=(4:Int) from rfl];go_wp2_with fail;go_loopw [12] (fun ix wr=>∃ (j:Nat) (oo:Own),ix=.int .i64 j∧j≤4∧StIn wr oo y (Yd.C j)∧Inv (Yd.C j)∧Row wr oo (9,0) 3 1 (.slice (some ⟨g,0,none⟩) 4 cap) 4 ((List.range 4).map fun t=>nv (Yd.pl t))∧Stp (yT y) (fun _=>(7,0)) oo w wr) (fun ix _=>4-(intOf ix).toNat)
   case atStart=>exact⟨0,oo,rfl,by omega,hS,hI,hr,hs⟩
   case round =>
    have HYY:=Lib.hid (And.intro HY.out.2.1 HY.out.2.2.1);clear hS hI hr hs HB hw4 HY hi;obtain⟨j,oo,rfl,hj4,hS,hI,hr,hs⟩:=hrel;obtain⟨wo,rfl⟩:∃ wo:World,wo=wr:=⟨_,rfl⟩;by_cases hlt:j<4
    ·obtain⟨f1,f4,f5,f7⟩:=HC.out j hlt
     have HP1:=Lib.hid (fun (W:World) (hW:Below wo.heap.size wo W)=>by
      have:=c_put (i:=0) (hS.below hW) hI f1 (plc _ (Yd.pl j)) (plc _ (Yd.pl ((j+1)%4))) 0;rw[f4]at this;exact this)
     have HP2:=Lib.hid (fun (W:World) (o':Own) (hS':StIn W o' y (Yd.C1 (Yd.C j) j)) (hI':Inv (Yd.C1 (Yd.C j) j))=>by
      have:=c_write (i:=0) hS' hI' f5 (plc _ (Yd.pl j)) 0 (10+(j:Int)) (by omega)
      rw[f7]at this;exact this)
     have HR:=Lib.hid hr;have HS:=Lib.hid hs;have hcell:∀ (t:Nat),t<4→wo.cell? ⟨g,t,none⟩=some (.int .i64 (Yd.pl t)):=fun t ht=>hr.cells t _ (by rw[List.getElem?_map,List.getElem?_range ht];rfl)
     have c0:=hcell 0 (by omega)
     have c1:=hcell 1 (by omega)
     have c2:=hcell 2 (by omega)
     have c3:=hcell 3 (by omega)
     have HCe:=Lib.hid (fun (W:World) (o':Own) (hW:Stp (stTag y) oo o' wo W) (t:Nat) (ht:t<4)=>show W.cell? ⟨g,t,none⟩=some (.int .i64 (Yd.pl t)) from (hr.stp hW (nine_st HID.out)).cells t _ (by rw[List.getElem?_map,List.getElem?_range ht];rfl))
     clear hS hI f1 f4 f5 f7 hr hs hcell hj4 HC;have a0:IntKind.i64.wrap (0:Int)=0:=by decide
     have a1:IntKind.i64.wrap (1:Int)=1:=by decide
     have a2:IntKind.i64.wrap (2:Int)=2:=by decide
     have a3:IntKind.i64.wrap (3:Int)=3:=by decide
     have a4:IntKind.i64.wrap (4:Int)=4:=by decide
     have t1:Int.tmod 1 4=1:=by decide
     have t2:Int.tmod 2 4=2:=by decide
     have t3:Int.tmod 3 4=3:=by decide
     have t4:Int.tmod 4 4=0:=by decide
     have a10:IntKind.i64.wrap (10:Int)=10:=by decide
     have a11:IntKind.i64.wrap (11:Int)=11:=by decide
     have a12:IntKind.i64.wrap (12:Int)=12:=by decide
     have a13:IntKind.i64.wrap (13:Int)=13:=by decide
     obtain rfl|rfl|rfl|rfl:j=0∨j=1∨j=2∨j=3:=by omega
     ·have HQ1:=Lib.hid (show Calls Tryz.prog 49 #[ptr y.sb,.int .i64 0,.int .i64 (Yd.pl 0),.int .i64 0,.int .i64 (Yd.pl 1)] wo.drew fun e w'=>e=.returned (.int .i64 0)∧Left y (Yd.C1 (Yd.C 0) 0) oo wo.drew w' from HP1.out _ (bdrew (bsame _)))
      have HQ2:=Lib.hid (fun (W:World) (o':Own) (hS':StIn W o' y (Yd.C1 (Yd.C 0) 0)) (hI':Inv (Yd.C1 (Yd.C 0) 0))=>show Calls Tryz.prog 48 #[ptr y.sb,.int .i64 0,.int .i64 (Yd.pl 0),.int .i64 0,.int .i64 10] W fun e w'=>e=.returned (.int .i64 0)∧Left y (Yd.C 1) o' W w' from HP2.out W o' hS' hI')
      clear HP1 HP2;go_upto_region 15 with fail;go_region_held3 (fun w'=>w'.cell? ⟨g,0,none⟩=some (.int .i64 (Yd.pl 0))∧w'.cell? ⟨g,1,none⟩=some (.int .i64 (Yd.pl 1))) (first|exact⟨by assumption,by assumption⟩|go_keep) (first
       | (go_at_call 49;refine HQ1.out.mono ?_;rintro e w3 ⟨rfl,hL3⟩;obtain⟨o3,hS3,hI3,hs3⟩:=hL3;have hsd:=(Stp.of_below (T:=stTag y) (o:=oo) (bdrew (bsame wo))).trans hs3;have d1:=HCe.out _ _ hsd 0 (by omega);have d2:=HCe.out _ _ hsd 1 (by omega))
       | (go_at_call 48;refine (HQ2.out _ _ hS3 hI3).mono ?_;rintro e w4 ⟨rfl,hL4⟩;obtain⟨o4,hS4,hI4,hs4⟩:=hL4;have hst:=hsd.trans hs4;have e1:=HCe.out _ _ hst 0 (by omega);have e2:=HCe.out _ _ hst 1 (by omega))
       | fail)
      all_goals
       clear a0 a1 a2 a3 a4 t1 t2 t3 t4 a10 a11 a12 a13;go_wp2_with fail;go_roundw
       case rel=>exact⟨1,o4,by simp,by omega,hS4,hI4,HR.out.stp hst (nine_st HID.out),HS.out.trans (hst.mono fun _ h=>.inl h)⟩
       case measure=>simp[intOf]
     ·have HQ1:=Lib.hid (show Calls Tryz.prog 49 #[ptr y.sb,.int .i64 0,.int .i64 (Yd.pl 1),.int .i64 0,.int .i64 (Yd.pl 2)] wo.drew fun e w'=>e=.returned (.int .i64 0)∧Left y (Yd.C1 (Yd.C 1) 1) oo wo.drew w' from HP1.out _ (bdrew (bsame _)))
      have HQ2:=Lib.hid (fun (W:World) (o':Own) (hS':StIn W o' y (Yd.C1 (Yd.C 1) 1)) (hI':Inv (Yd.C1 (Yd.C 1) 1))=>show Calls Tryz.prog 48 #[ptr y.sb,.int .i64 0,.int .i64 (Yd.pl 1),.int .i64 0,.int .i64 11] W fun e w'=>e=.returned (.int .i64 0)∧Left y (Yd.C 2) o' W w' from HP2.out W o' hS' hI')
      clear HP1 HP2;go_upto_region 15 with fail;go_region_held3 (fun w'=>w'.cell? ⟨g,1,none⟩=some (.int .i64 (Yd.pl 1))∧w'.cell? ⟨g,2,none⟩=some (.int .i64 (Yd.pl 2))) (first|exact⟨by assumption,by assumption⟩|go_keep) (first
       | (go_at_call 49;refine HQ1.out.mono ?_;rintro e w3 ⟨rfl,hL3⟩;obtain⟨o3,hS3,hI3,hs3⟩:=hL3;have hsd:=(Stp.of_below (T:=stTag y) (o:=oo) (bdrew (bsame wo))).trans hs3;have d1:=HCe.out _ _ hsd 1 (by omega);have d2:=HCe.out _ _ hsd 2 (by omega))
       | (go_at_call 48;refine (HQ2.out _ _ hS3 hI3).mono ?_;rintro e w4 ⟨rfl,hL4⟩;obtain⟨o4,hS4,hI4,hs4⟩:=hL4;have hst:=hsd.trans hs4;have e1:=HCe.out _ _ hst 1 (by omega);have e2:=HCe.out _ _ hst 2 (by omega))
       | fail)
      all_goals
       clear a0 a1 a2 a3 a4 t1 t2 t3 t4 a10 a11 a12 a13;go_wp2_with fail;go_roundw
       case rel=>exact⟨2,o4,by simp,by omega,hS4,hI4,HR.out.stp hst (nine_st HID.out),HS.out.trans (hst.mono fun _ h=>.inl h)⟩
       case measure=>simp[intOf]
     ·have HQ1:=Lib.hid (show Calls Tryz.prog 49 #[ptr y.sb,.int .i64 0,.int .i64 (Yd.pl 2),.int .i64 0,.int .i64 (Yd.pl 3)] wo.drew fun e w'=>e=.returned (.int .i64 0)∧Left y (Yd.C1 (Yd.C 2) 2) oo wo.drew w' from HP1.out _ (bdrew (bsame _)))
      have HQ2:=Lib.hid (fun (W:World) (o':Own) (hS':StIn W o' y (Yd.C1 (Yd.C 2) 2)) (hI':Inv (Yd.C1 (Yd.C 2) 2))=>show Calls Tryz.prog 48 #[ptr y.sb,.int .i64 0,.int .i64 (Yd.pl 2),.int .i64 0,.int .i64 12] W fun e w'=>e=.returned (.int .i64 0)∧Left y (Yd.C 3) o' W w' from HP2.out W o' hS' hI')
      clear HP1 HP2;go_upto_region 15 with fail;go_region_held3 (fun w'=>w'.cell? ⟨g,2,none⟩=some (.int .i64 (Yd.pl 2))∧w'.cell? ⟨g,3,none⟩=some (.int .i64 (Yd.pl 3))) (first|exact⟨by assumption,by assumption⟩|go_keep) (first
       | (go_at_call 49;refine HQ1.out.mono ?_;rintro e w3 ⟨rfl,hL3⟩;obtain⟨o3,hS3,hI3,hs3⟩:=hL3;have hsd:=(Stp.of_below (T:=stTag y) (o:=oo) (bdrew (bsame wo))).trans hs3;have d1:=HCe.out _ _ hsd 2 (by omega);have d2:=HCe.out _ _ hsd 3 (by omega))
       | (go_at_call 48;refine (HQ2.out _ _ hS3 hI3).mono ?_;rintro e w4 ⟨rfl,hL4⟩;obtain⟨o4,hS4,hI4,hs4⟩:=hL4;have hst:=hsd.trans hs4;have e1:=HCe.out _ _ hst 2 (by omega);have e2:=HCe.out _ _ hst 3 (by omega))
       | fail)
      all_goals
       clear a0 a1 a2 a3 a4 t1 t2 t3 t4 a10 a11 a12 a13;go_wp2_with fail;go_roundw
       case rel=>exact⟨3,o4,by simp,by omega,hS4,hI4,HR.out.stp hst (nine_st HID.out),HS.out.trans (hst.mono fun _ h=>.inl h)⟩
       case measure=>simp[intOf]
     ·have HQ1:=Lib.hid (show Calls Tryz.prog 49 #[ptr y.sb,.int .i64 0,.int .i64 (Yd.pl 3),.int .i64 0,.int .i64 (Yd.pl 0)] wo.drew fun e w'=>e=.returned (.int .i64 0)∧Left y (Yd.C1 (Yd.C 3) 3) oo wo.drew w' from HP1.out _ (bdrew (bsame _)))
      have HQ2:=Lib.hid (fun (W:World) (o':Own) (hS':StIn W o' y (Yd.C1 (Yd.C 3) 3)) (hI':Inv (Yd.C1 (Yd.C 3) 3))=>show Calls Tryz.prog 48 #[ptr y.sb,.int .i64 0,.int .i64 (Yd.pl 3),.int .i64 0,.int .i64 13] W fun e w'=>e=.returned (.int .i64 0)∧Left y (Yd.C 4) o' W w' from HP2.out W o' hS' hI')
      clear HP1 HP2;go_upto_region 15 with fail;go_region_held3 (fun w'=>w'.cell? ⟨g,3,none⟩=some (.int .i64 (Yd.pl 3))∧w'.cell? ⟨g,0,none⟩=some (.int .i64 (Yd.pl 0))) (first|exact⟨by assumption,by assumption⟩|go_keep) (first
       | (go_at_call 49;refine HQ1.out.mono ?_;rintro e w3 ⟨rfl,hL3⟩;obtain⟨o3,hS3,hI3,hs3⟩:=hL3;have hsd:=(Stp.of_below (T:=stTag y) (o:=oo) (bdrew (bsame wo))).trans hs3;have d1:=HCe.out _ _ hsd 3 (by omega);have d2:=HCe.out _ _ hsd 0 (by omega))
       | (go_at_call 48;refine (HQ2.out _ _ hS3 hI3).mono ?_;rintro e w4 ⟨rfl,hL4⟩;obtain⟨o4,hS4,hI4,hs4⟩:=hL4;have hst:=hsd.trans hs4;have e1:=HCe.out _ _ hst 3 (by omega);have e2:=HCe.out _ _ hst 0 (by omega))
       | fail)
      all_goals
       clear a0 a1 a2 a3 a4 t1 t2 t3 t4 a10 a11 a12 a13;go_wp2_with fail;go_roundw
       case rel=>exact⟨4,o4,by simp,by omega,hS4,hI4,HR.out.stp hst (nine_st HID.out),HS.out.trans (hst.mono fun _ h=>.inl h)⟩
       case measure=>simp[intOf]
    ·obtain rfl:j=4:=by omega
     have HCm:=Lib.hid (c_commit (i:=0) hS hI HYY.out.1);rw[HYY.out.2]at HCm;clear hS hI;go_wp2_with fail;refine HCm.out.mono ?_
     rintro e w5 ⟨rfl,hL⟩
     obtain⟨o5,hS5,hI5,hs5⟩:=show Left y (Yd.Y) oo wo w5 from hL;go_wp2_with fail;go_ret2;exact⟨y,_,o5,rfl,HID.out,hS5,hI5,hr.stp hs5 (nine_st HID.out),hs.trans (hs5.mono fun _ h=>.inl h)⟩
theorem OpV.shp_ok (d:OpV):d.shp.ok:=by
 have l0:=pk_lt d.s0 (show 1≤2 by omega)
 have l1:=pk_lt d.s1 (show 1≤2 by omega)
 exact⟨by show 1+pk d.s0 2≤8;omega,by show 1+pk d.s1 2≤8;omega,fun e=>by cases e⟩
section
variable {w w' : World} {o o' : Own} {y : SLay} {S : Stt} {i : Nat}
theorem deed14_read (f:Nat→Nat)(h:StIn w o y S)(hI:Inv S)(hc:S.chk i=true)(d:OpV)(hd:d.ok){gr cap:Nat}(hk:pk d.k 8=0∨pk d.k 8=1)
  (hr:∀ t,t<4→w.cell? ⟨gr,t,none⟩=some (.int .i64 (f t)))(hg:gr<w.heap.size) :
  Calls Tryz.prog 17 #[ptr y.sb,.int .i64 i,.slice (some ⟨gr,0,none⟩) 4 cap,d.v] w fun e w' =>
   e=.returned (.tuple #[.int .i64 (S.read i (f (pk d.b 4)) (pk d.i 2)).v,.int .i64 (S.read i (f (pk d.b 4)) (pk d.i 2)).e])∧Left y (S.read i (f (pk d.b 4)) (pk d.i 2)).S o w w':=by
 have PB:=Lib.hid (fun w=>pick14_any d.b (hd 3) 4 (by omega) (by omega) w)
 have PK:=Lib.hid (fun w=>pick14_any d.k (hd 0) 8 (by omega) (by omega) w)
 have PI:=Lib.hid (fun w=>pick14_any d.i (hd 4) 2 (by omega) (by omega) w)
 have lb:=pk_lt d.b (show 1≤4 by omega)
 have HR:=Lib.hid (fun W (hW:Below w.heap.size w W)(j:Nat)=>c_read (h.below hW) hI hc (p:=f (pk d.b 4)) (plc _ _) j)
 have e1:d.v=.agg #[.int .i64 d.k,.int .i64 d.t,.int .i64 d.a,.int .i64 d.b,.int .i64 d.i,.int .i64 d.n,.int .i64 d.s0,.int .i64 d.s1,.int .i64 d.s2]:=rfl;rw[e1];generalize pk d.b 4=b at *;generalize pk d.k 8=k at *;generalize pk d.i 2=j at *;obtain⟨dk,dt,da,db,di,dn,s0,s1,s2⟩:=d;simp only at PB PK PI ⊢;have bI:(b:Int)<4:=by omega
 have cr:=(balloc (bsame w) (.cells #[.int .i64 dk,.int .i64 dt,.int .i64 da,.int .i64 db,.int .i64 di,.int .i64 dn,.int .i64 s0,.int .i64 s1,.int .i64 s2] 37)).cell (p:=⟨gr,b,none⟩) hg;rw[hr b lb]at cr;clear h hI hc hd e1 hr;go_enter Tryz.func17,Tryz.ntmps17;go_wp2_with fail;refine (PB.out _).mono ?_
 rintro e w' ⟨rfl,rfl⟩
 go_wp2_with fail;refine (PK.out _).mono ?_
 rintro e w' ⟨rfl,rfl⟩
 rcases hk with rfl|rfl
 all_goals
  go_wp2_with fail;refine (PI.out _).mono ?_
  rintro e w' ⟨rfl,rfl⟩
  go_wp2_with fail;refine (HR.out _ (balloc (bsame w) _) j).mono ?_
  rintro e w2 ⟨rfl,o2,hS2,hI2,hs2⟩
  go_wp2_with fail;go_ret2;exact⟨rfl,o2,hS2,hI2,(Stp.of_below (balloc (bsame w) _)).trans hs2⟩
theorem deed14_five (f:Nat→Nat)(h:StIn w o y S)(hI:Inv S)(hc:S.chk i=true)(d:OpV)(hd:d.ok){gr cap:Nat}(hk:pk d.k 8=5)
  (hr:∀ t,t<4→w.cell? ⟨gr,t,none⟩=some (.int .i64 (f t)))(hg:gr<w.heap.size) :
  Calls Tryz.prog 17 #[ptr y.sb,.int .i64 i,.slice (some ⟨gr,0,none⟩) 4 cap,d.v] w fun e w' =>
   e=.returned (.tuple #[.int .i64 0,.int .i64 (if pk d.n 3=0 then S.free i (f (pk d.b 4)) else S.get i (f (pk d.b 4)) 0).e])∧Left y (if pk d.n 3=0 then S.free i (f (pk d.b 4)) else S.get i (f (pk d.b 4)) 0).S o w w':=by
 have PB:=Lib.hid (fun w=>pick14_any d.b (hd 3) 4 (by omega) (by omega) w)
 have PK:=Lib.hid (fun w=>pick14_any d.k (hd 0) 8 (by omega) (by omega) w)
 have PI:=Lib.hid (fun w=>pick14_any d.n (hd 5) 3 (by omega) (by omega) w)
 have lb:=pk_lt d.b (show 1≤4 by omega)
 have HR:=Lib.hid (fun W (hW:Below w.heap.size w W)=>c_free (h.below hW) hI hc (p:=f (pk d.b 4)) (plc _ _))
 have HG:=Lib.hid (fun W (hW:Below w.heap.size w W)=>c_get (h.below hW) hI hc (p:=f (pk d.b 4)) (plc _ _) 0)
 have ln:=pk_lt d.n (show 1≤3 by omega)
 have e1:d.v=.agg #[.int .i64 d.k,.int .i64 d.t,.int .i64 d.a,.int .i64 d.b,.int .i64 d.i,.int .i64 d.n,.int .i64 d.s0,.int .i64 d.s1,.int .i64 d.s2]:=rfl;rw[e1];generalize pk d.b 4=b at *;generalize pk d.k 8=k at *;generalize pk d.n 3=j at *;obtain⟨dk,dt,da,db,di,dn,s0,s1,s2⟩:=d;simp only at PB PK PI ⊢;generalize hR:(if j=0 then S.free i (f b) else S.get i (f b) 0)=R
 have bI:(b:Int)<4:=by omega
 have cr:=(balloc (bsame w) (.cells #[.int .i64 dk,.int .i64 dt,.int .i64 da,.int .i64 db,.int .i64 di,.int .i64 dn,.int .i64 s0,.int .i64 s1,.int .i64 s2] 37)).cell (p:=⟨gr,b,none⟩) hg;rw[hr b lb]at cr;clear h hI hc hd e1 hr;go_enter Tryz.func17,Tryz.ntmps17;go_wp2_with fail;refine (PB.out _).mono ?_
 rintro e w' ⟨rfl,rfl⟩
 go_wp2_with fail;refine (PK.out _).mono ?_
 rintro e w' ⟨rfl,rfl⟩
 subst hk;go_wp2_with fail;refine (PI.out _).mono ?_
 rintro e w' ⟨rfl,rfl⟩
 by_cases hj:j=0
 ·subst hj
  rw[if_pos rfl]at hR;subst hR;go_wp2_with fail;refine (HR.out _ (balloc (bsame w) _)).mono ?_
  rintro e w2 ⟨rfl,o2,hS2,hI2,hs2⟩
  go_wp2_with fail;go_ret2;exact⟨rfl,o2,hS2,hI2,(Stp.of_below (balloc (bsame w) _)).trans hs2⟩
 ·have hjI:((j:Int)==0)=false:=by rw[beq_eq_false_iff_ne];omega
  rw[if_neg hj]at hR;subst hR;go_wp2_with fail;refine (HG.out _ (balloc (bsame w) _)).mono ?_
  rintro e w2 ⟨rfl,o2,hS2,hI2,hs2⟩
  go_wp2_with fail;go_ret2;exact⟨rfl,o2,hS2,hI2,(Stp.of_below (balloc (bsame w) _)).trans hs2⟩
theorem deed14_take (f:Nat→Nat)(h:StIn w o y S)(hI:Inv S)(hc:S.chk i=true)(d:OpV)(hd:d.ok){gr cap:Nat}(hk:pk d.k 8=7)
  (hr:∀ t,t<4→w.cell? ⟨gr,t,none⟩=some (.int .i64 (f t)))(hg:gr<w.heap.size) :
  Calls Tryz.prog 17 #[ptr y.sb,.int .i64 i,.slice (some ⟨gr,0,none⟩) 4 cap,d.v] w fun e w' =>
   e=.returned (.tuple #[.int .i64 0,.int .i64 (S.take i).e])∧Left y (S.take i).S o w w':=by
 have PB:=Lib.hid (fun w=>pick14_any d.b (hd 3) 4 (by omega) (by omega) w)
 have PK:=Lib.hid (fun w=>pick14_any d.k (hd 0) 8 (by omega) (by omega) w)
 have lb:=pk_lt d.b (show 1≤4 by omega)
 have HR:=Lib.hid (fun W (hW:Below w.heap.size w W)=>c_take (h.below hW) hI hc)
 have e1:d.v=.agg #[.int .i64 d.k,.int .i64 d.t,.int .i64 d.a,.int .i64 d.b,.int .i64 d.i,.int .i64 d.n,.int .i64 d.s0,.int .i64 d.s1,.int .i64 d.s2]:=rfl;rw[e1];generalize pk d.b 4=b at *;generalize pk d.k 8=k at *;obtain⟨dk,dt,da,db,di,dn,s0,s1,s2⟩:=d;simp only at PB PK ⊢;have bI:(b:Int)<4:=by omega
 have cr:=(balloc (bsame w) (.cells #[.int .i64 dk,.int .i64 dt,.int .i64 da,.int .i64 db,.int .i64 di,.int .i64 dn,.int .i64 s0,.int .i64 s1,.int .i64 s2] 37)).cell (p:=⟨gr,b,none⟩) hg;rw[hr b lb]at cr;clear h hI hc hd e1 hr;go_enter Tryz.func17,Tryz.ntmps17;go_wp2_with fail;refine (PB.out _).mono ?_
 rintro e w' ⟨rfl,rfl⟩
 go_wp2_with fail;refine (PK.out _).mono ?_
 rintro e w' ⟨rfl,rfl⟩
 subst hk;go_wp2_with fail;refine (HR.out _ (balloc (bsame w) _)).mono ?_
 rintro e w2 ⟨rfl,o2,hS2,hI2,hs2⟩
 go_wp2_with fail;go_ret2;exact⟨rfl,o2,hS2,hI2,(Stp.of_below (balloc (bsame w) _)).trans hs2⟩
theorem deed14_write (f:Nat→Nat)(h:StIn w o y S)(hI:Inv S)(hc:S.chk i=true)(d:OpV)(hd:d.ok){gr cap:Nat}(hk:pk d.k 8=2∨pk d.k 8=3)
  (hr:∀ t,t<4→w.cell? ⟨gr,t,none⟩=some (.int .i64 (f t)))(hg:gr<w.heap.size) :
  Calls Tryz.prog 17 #[ptr y.sb,.int .i64 i,.slice (some ⟨gr,0,none⟩) 4 cap,d.v] w fun e w' =>
   e=.returned (.tuple #[.int .i64 0,.int .i64 (S.write i (f (pk d.b 4)) (pk d.i 2) d.n).e])∧Left y (S.write i (f (pk d.b 4)) (pk d.i 2) d.n).S o w w':=by
 have PB:=Lib.hid (fun w=>pick14_any d.b (hd 3) 4 (by omega) (by omega) w)
 have PK:=Lib.hid (fun w=>pick14_any d.k (hd 0) 8 (by omega) (by omega) w)
 have PI:=Lib.hid (fun w=>pick14_q d.i (hd 4) 2 (by omega) (by omega) w)
 have lb:=pk_lt d.b (show 1≤4 by omega)
 have HR:=Lib.hid (fun W (hW:Below w.heap.size w W)(j:Nat)=>c_write (h.below hW) hI hc (p:=f (pk d.b 4)) (plc _ _) j d.n (hd 5))
 have e1:d.v=.agg #[.int .i64 d.k,.int .i64 d.t,.int .i64 d.a,.int .i64 d.b,.int .i64 d.i,.int .i64 d.n,.int .i64 d.s0,.int .i64 d.s1,.int .i64 d.s2]:=rfl;rw[e1];generalize pk d.b 4=b at *;generalize pk d.k 8=k at *;generalize pk d.i 2=j at *;obtain⟨dk,dt,da,db,di,dn,s0,s1,s2⟩:=d;simp only at PB PK PI ⊢;have bI:(b:Int)<4:=by omega
 have cr:=(balloc (bsame w) (.cells #[.int .i64 dk,.int .i64 dt,.int .i64 da,.int .i64 db,.int .i64 di,.int .i64 dn,.int .i64 s0,.int .i64 s1,.int .i64 s2] 37)).cell (p:=⟨gr,b,none⟩) hg;rw[hr b lb]at cr;clear h hI hc hd e1 hr;go_enter Tryz.func17,Tryz.ntmps17;go_wp2_with fail;refine (PB.out _).mono ?_
 rintro e w' ⟨rfl,rfl⟩
 go_wp2_with fail;refine (PK.out _).mono ?_
 rintro e w' ⟨rfl,rfl⟩
 obtain⟨W,hW⟩:∃ W:World,W=w.alloc (.cells #[.int .i64 dk,.int .i64 dt,.int .i64 da,.int .i64 db,.int .i64 di,.int .i64 dn,.int .i64 s0,.int .i64 s1,.int .i64 s2] 37):=⟨_,rfl⟩;rw[←hW];have hbW:Below w.heap.size w W:=by rw[hW];exact balloc (bsame w) _
 have j1:Blk W w.heap.size #[.int .i64 dk,.int .i64 dt,.int .i64 da,.int .i64 db,.int .i64 di,.int .i64 dn,.int .i64 s0,.int .i64 s1,.int .i64 s2] 37:=by rw[hW];exact Blk.new w _ _
 have c1:=j1.cell;clear hW;rcases hk with rfl|rfl
 all_goals
  go_upto_region 8 with fail;go_still_tail 8,(by kernel_rfl)
  still_call (PI.out _)
  repeat still_step
  refine wpStill_nil ?_;change wpList _ _ _ _ _ W.drew;go_wp2_with fail;refine (HR.out _ (bdrew hbW) j).mono ?_
  rintro e w2 ⟨rfl,o2,hS2,hI2,hs2⟩
  go_wp2_with fail;go_ret2;exact⟨rfl,o2,hS2,hI2,(Stp.of_below (bdrew hbW)).trans hs2⟩
theorem deed14_put (f:Nat→Nat) (h:StIn w o y S) (hI:Inv S) (hc:S.chk i=true) (d:OpV) (hd:d.ok) {gr cap:Nat} (hk:pk d.k 8=4)
  (hr:∀ t,t<4→w.cell? ⟨gr,t,none⟩=some (.int .i64 (f t))) (hg:gr<w.heap.size) :
  Calls Tryz.prog 17 #[ptr y.sb,.int .i64 i,.slice (some ⟨gr,0,none⟩) 4 cap,d.v] w fun e w' =>
   e=.returned (.tuple #[.int .i64 0,.int .i64 (S.put i (f (pk d.b 4)) (pk d.i 2) (f (pk d.a 4))).e])∧Left y (S.put i (f (pk d.b 4)) (pk d.i 2) (f (pk d.a 4))).S o w w':=by
 have PB:=Lib.hid (fun w=>pick14_any d.b (hd 3) 4 (by omega) (by omega) w)
 have PK:=Lib.hid (fun w=>pick14_any d.k (hd 0) 8 (by omega) (by omega) w)
 have PI:=Lib.hid (fun w=>pick14_q d.i (hd 4) 2 (by omega) (by omega) w)
 have PA:=Lib.hid (fun w=>pick14_q d.a (hd 2) 4 (by omega) (by omega) w)
 have la:=pk_lt d.a (show 1≤4 by omega)
 have lb:=pk_lt d.b (show 1≤4 by omega)
 have HR:=Lib.hid (fun W (hW:Below w.heap.size w W) (j:Nat)=>c_put (h.below hW) hI hc (p:=f (pk d.b 4)) (q:=f (pk d.a 4)) (plc _ _) (plc _ _) j)
 have e1:d.v=.agg #[.int .i64 d.k,.int .i64 d.t,.int .i64 d.a,.int .i64 d.b,.int .i64 d.i,.int .i64 d.n,.int .i64 d.s0,.int .i64 d.s1,.int .i64 d.s2]:=rfl;rw[e1];generalize pk d.b 4=b at *;generalize pk d.k 8=k at *;generalize pk d.a 4=q at *;generalize pk d.i 2=j at *;obtain⟨dk,dt,da,db,di,dn,s0,s1,s2⟩:=d;simp only at PB PK PI PA ⊢;have bI:(b:Int)<4:=by omega
 have cr:=(balloc (bsame w) (.cells #[.int .i64 dk,.int .i64 dt,.int .i64 da,.int .i64 db,.int .i64 di,.int .i64 dn,.int .i64 s0,.int .i64 s1,.int .i64 s2] 37)).cell (p:=⟨gr,b,none⟩) hg;rw[hr b lb]at cr;have qI:(q:Int)<4:=by omega
 have cq0:=hr q la;clear h hI hc hd e1 hr;go_enter Tryz.func17,Tryz.ntmps17;go_wp2_with fail;refine (PB.out _).mono ?_
 rintro e w' ⟨rfl,rfl⟩
 go_wp2_with fail;refine (PK.out _).mono ?_
 rintro e w' ⟨rfl,rfl⟩
 obtain⟨W,hW⟩:∃ W:World,W=w.alloc (.cells #[.int .i64 dk,.int .i64 dt,.int .i64 da,.int .i64 db,.int .i64 di,.int .i64 dn,.int .i64 s0,.int .i64 s1,.int .i64 s2] 37):=⟨_,rfl⟩;rw[←hW];have hbW:Below w.heap.size w W:=by rw[hW];exact balloc (bsame w) _
 have j1:Blk W w.heap.size #[.int .i64 dk,.int .i64 dt,.int .i64 da,.int .i64 db,.int .i64 di,.int .i64 dn,.int .i64 s0,.int .i64 s1,.int .i64 s2] 37:=by rw[hW];exact Blk.new w _ _
 have c1:=j1.cell;have cq:=(hbW.cell (p:=⟨gr,q,none⟩) hg).trans cq0;clear hW;subst hk;go_upto_region 8 with fail;go_still_tail 12,(by kernel_rfl)
 still_call (PI.out _)
 repeat still_step
 still_call (PA.out _)
 repeat still_step
 refine wpStill_nil ?_;change wpList _ _ _ _ _ W.drew;go_wp2_with fail;refine (HR.out _ (bdrew hbW) j).mono ?_
 rintro e w2 ⟨rfl,o2,hS2,hI2,hs2⟩
 go_wp2_with fail;go_ret2;exact⟨rfl,o2,hS2,hI2,(Stp.of_below (bdrew hbW)).trans hs2⟩
theorem deed14_lay (f:Nat→Nat) (h:StIn w o y S) (hI:Inv S) (d:OpV) (hd:d.ok) {gr cap:Nat} (hc:S.chk i=true) (hD:(S.alloc i d.shp).S.chk i=true∧((S.alloc i d.shp).e=0→0≤(S.alloc i d.shp).v)) (hk:pk d.k 8=6)
  (hr:∀ t,t<4→w.cell? ⟨gr,t,none⟩=some (.int .i64 (f t))) (hg:gr<w.heap.size) (R:Res) (hR:R=if (S.alloc i d.shp).e=0 then (S.alloc i d.shp).S.put i (f (pk d.b 4)) 1 (S.alloc i d.shp).v.toNat else S.alloc i d.shp) :
  Calls Tryz.prog 17 #[ptr y.sb,.int .i64 i,.slice (some ⟨gr,0,none⟩) 4 cap,d.v] w fun e w' =>
   e=.returned (.tuple #[.int .i64 0,.int .i64 R.e])∧Left y R.S o w w':=by
 have PB:=Lib.hid (fun w=>pick14_any d.b (hd 3) 4 (by omega) (by omega) w)
 have PK:=Lib.hid (fun w=>pick14_any d.k (hd 0) 8 (by omega) (by omega) w)
 have lb:=pk_lt d.b (show 1≤4 by omega)
 have HS:=Lib.hid (fun W=>shape14_any d hd W)
 have HA:=Lib.hid (fun W (hW:Below w.heap.size w W)=>c_alloc (h.below hW) hI hc d.shp d.shp_ok rfl)
 have HP:=Lib.hid (fun (he:(S.alloc i d.shp).e=0) (o1:Own) W (h1:StIn W o1 y (S.alloc i d.shp).S) (h2:Inv (S.alloc i d.shp).S)=>by
  have:=c_put h1 h2 hD.1 (p:=f (pk d.b 4)) (q:=(S.alloc i d.shp).v.toNat) (plc _ _) (plc _ _) 1;rw[Int.toNat_of_nonneg (hD.2 he)]at this;exact this)
 have e1:d.v=.agg #[.int .i64 d.k,.int .i64 d.t,.int .i64 d.a,.int .i64 d.b,.int .i64 d.i,.int .i64 d.n,.int .i64 d.s0,.int .i64 d.s1,.int .i64 d.s2]:=rfl;generalize d.shp=s at *;rw[e1]at HS ⊢;generalize pk d.b 4=b at *;generalize pk d.k 8=k at *;obtain⟨dk,dt,da,db,di,dn,s0,s1,s2⟩:=d;simp only at PB PK HS ⊢;generalize S.alloc i s=A at *;have bI:(b:Int)<4:=by omega
 have cr:=(balloc (bsame w) (.cells #[.int .i64 dk,.int .i64 dt,.int .i64 da,.int .i64 db,.int .i64 di,.int .i64 dn,.int .i64 s0,.int .i64 s1,.int .i64 s2] 37)).cell (p:=⟨gr,b,none⟩) hg;rw[hr b lb]at cr;clear h hI hc hD hd e1 hr;go_enter Tryz.func17,Tryz.ntmps17;go_wp2_with fail;refine (PB.out _).mono ?_
 rintro e w' ⟨rfl,rfl⟩
 go_wp2_with fail;refine (PK.out _).mono ?_
 rintro e w' ⟨rfl,rfl⟩
 subst hk;go_wp2_with fail;refine (HS.out _).mono ?_
 rintro e w1 ⟨rfl,hb1⟩
 have hb01:=btrans (balloc (bsame w) (.cells #[.int .i64 dk,.int .i64 dt,.int .i64 da,.int .i64 db,.int .i64 di,.int .i64 dn,.int .i64 s0,.int .i64 s1,.int .i64 s2] 37)) hb1;go_wp2_with fail;refine (HA.out _ hb01).mono ?_
 rintro e w2 ⟨rfl,o2,hS2,hI2,hs2⟩
 by_cases he:A.e=0
 ·have heb:(A.e==0)=true:=by rw[beq_iff_eq];exact he
  rw[if_pos he]at hR;subst hR;go_wp2_with fail;refine (HP.out he o2 _ hS2 hI2).mono ?_
  rintro e w3 ⟨rfl,o3,hS3,hI3,hs3⟩
  go_wp2_with fail;go_ret2;exact⟨rfl,o3,hS3,hI3,((Stp.of_below hb01).trans hs2).trans hs3⟩
 ·have heb:(A.e==0)=false:=by rw[beq_eq_false_iff_ne];exact he
  rw[if_neg he]at hR;subst hR;go_wp2_with fail;go_ret2;exact⟨rfl,o2,hS2,hI2,(Stp.of_below hb01).trans hs2⟩
def Stt.deed14 (S:Stt)(i:Nat)(f:Nat→Nat)(d:OpV):Res:=S.deedA i f (pk d.k 8) (pk d.b 4) (pk d.a 4) (pk d.i 2) (decide (pk d.n 3=0)) d.n d.shp
theorem deed14_any (f:Nat→Nat)(h:StIn w o y S)(hI:Inv S)(d:OpV)(hd:d.ok){gr cap:Nat}(hc:S.chk i=true)(hD:(S.alloc i d.shp).S.chk i=true∧((S.alloc i d.shp).e=0→0≤(S.alloc i d.shp).v))
  (hr:∀ t,t<4→w.cell? ⟨gr,t,none⟩=some (.int .i64 (f t)))(hg:gr<w.heap.size) :
  Calls Tryz.prog 17 #[ptr y.sb,.int .i64 i,.slice (some ⟨gr,0,none⟩) 4 cap,d.v] w fun e w' =>
   (∃ v,e=.returned (.tuple #[v,.int .i64 (S.deed14 i f d).e]))∧Left y (S.deed14 i f d).S o w w':=by
 have lk:=pk_lt d.k (show 1≤8 by omega)
 unfold Stt.deed14 Stt.deedA;split
 ·rename_i hk
  exact (deed14_read f h hI hc d hd hk hr hg).mono fun e w' ⟨a,b⟩=>⟨⟨_,a⟩,b⟩
 split
 ·rename_i hk
  exact (deed14_write f h hI hc d hd hk hr hg).mono fun e w' ⟨a,b⟩=>⟨⟨_,a⟩,b⟩
 split
 ·rename_i hk
  exact (deed14_put f h hI hc d hd hk hr hg).mono fun e w' ⟨a,b⟩=>⟨⟨_,a⟩,b⟩
 split
 ·rename_i hk
  have:=deed14_five f h hI hc d hd hk hr hg (cap:=cap);simp only[decide_eq_true_eq];exact this.mono fun e w' ⟨a,b⟩=>⟨⟨_,a⟩,b⟩
 split
 ·rename_i hk
  exact (deed14_lay f h hI d hd hc hD hk hr hg _ rfl).mono fun e w' ⟨a,b⟩=>⟨⟨_,a⟩,b⟩
 ·exact (deed14_take f h hI hc d hd (by omega) hr hg).mono fun e w' ⟨a,b⟩=>⟨⟨_,a⟩,b⟩
end
theorem NdsIn.mixO {W:World}{o2:Own}{n:Nat}{v:Value}{l:List Nd}(h:NdsIn W o2 v l)(hO:Old n o2)(o:Own):NdsIn W (mixO o o2 n) v l:=by
 obtain⟨es,he,hr,hi⟩:=h;exact⟨es,he,hr.mixO hO (by simp) o,fun e h=>⟨(hi e h).1.mixO hO (by simp) o,(hi e h).2.mixO hO (by simp) o⟩⟩
def R4 (y:SLay)(W:World)(o:Own)(v:Value)(p:Nat→Nat):Prop:=∃ g cap t,v=.slice (some ⟨g,0,none⟩) 4 cap∧4≤cap∧¬stTag y t∧Row W o t 3 1 v 4 ((P4 p).map nv)
theorem R4.of {y:SLay}{W:World}{o:Own}{v:Value}{p:Nat→Nat}{t:Tag}(h:Row W o t 3 1 v 4 ((P4 p).map nv))(ht:¬stTag y t):R4 y W o v p:=by
 rcases h.form with⟨_,h0⟩|⟨g,cap,e,hn,_⟩
 ·cases h0
 ·exact⟨g,cap,t,e,hn,ht,h⟩
theorem R4.stp {y:SLay}{W W':World}{o o':Own}{v:Value}{p:Nat→Nat}(h:R4 y W o v p)(k:Stp (stTag y) o o' W W'):R4 y W' o' v p:=by
 obtain⟨g,cap,t,e,hn,ht,hr⟩:=h;exact⟨g,cap,t,e,hn,ht,hr.stp k ht⟩
theorem R4.cell {W:World}{o:Own}{t:Tag}{g cap:Nat}{p:Nat→Nat}(h:Row W o t 3 1 (.slice (some ⟨g,0,none⟩) 4 cap) 4 ((P4 p).map nv))(i:Nat)(hi:i<4):W.cell? ⟨g,i,none⟩=some (.int .i64 (p i)):=
 h.cells i _ (by unfold P4;rw[List.getElem?_map,List.getElem?_map,List.getElem?_range hi];rfl)
theorem P4_len (p:Nat→Nat):(P4 p).length=4:=by unfold P4;simp
def no7 (t:Tag):Prop:=t.1≠7
theorem ringN_len:ringN.length≤1000000∧∀ x ∈ ringN,x.ptrs.length≤1000000∧x.nums.length≤1000000:=by decide +kernel
theorem txnAborts_any (v0:Value) (l:List OpV) (c:Bool) (w:World) (hl:OpsAt w v0 l) (hI:∀ d ∈ l,d.ok) :
  Calls Tryz.prog 3 #[v0,.bool c] w fun e w'=>e=.returned (.bool true)∧Below w.heap.size w w':=by
 have HYd:=Lib.hid (fun w=>yard_any w)
 have HAw:=Lib.hid awake14_any;obtain⟨hlen,a,cl,rfl,hop⟩:=hl;have HOp:=Lib.hid hop;have HOk:=Lib.hid hI;have hlI:(l.length:Int)≤9223372036854775807:=by have:=hlen;simp[maxLen]at this;omega
 obtain⟨n,hn⟩:∃ n,n=l.length:=⟨_,rfl⟩;rw[←hn]at hlI ⊢;have HN:=Lib.hid hn;clear hop hI hlen hn;go_enter Tryz.func3,Tryz.ntmps3;go_wp2_with fail;refine (HAw.out _).mono ?_
 rintro e w1 ⟨rfl,hb1⟩
 go_wp2_with fail;refine (HYd.out _).mono ?_
 rintro e w2 ⟨y,v,o2,rfl,hid,hS2,hI2,hr2,hs2⟩
 have HID:=Lib.hid hid;have H0:∀ t,stTag y t→no7 t:=fun t h=>by
  have h:t.1=y.l.id:=h;unfold no7;rw[h,HID.out];decide
 have hold:=Lib.hid (fun (W:World) (o':Own) (hs:Stp no7 (fun _=>(7,0)) o' w1 W)=>show Below w.heap.size w W from
  btrans hb1 (hs.below fun c _ h=>h rfl))
 have hs2':Stp no7 (fun _=>(7,0)) o2 w1 w2:=hs2.mono fun t h=>h.elim (H0 t) (fun h=>by rw[h];unfold no7;decide)
 have h50:∀ k,50≤k→∀ j,¬stTag y (k,j):=fun k hk j h=>by have h:k=y.l.id:=h;rw[HID.out]at h;omega
 have hR2:R4 y w2 o2 v Yd.pl:=R4.of (t:=(9,0)) (by
  have:(P4 Yd.pl).map nv=(List.range 4).map fun t=>nv (Yd.pl t):=by unfold P4;rw[List.map_map];rfl
  rw[this];exact hr2) (fun h=>by have h:9=y.l.id:=h;rw[HID.out]at h;cases h)
 obtain⟨b1,b2,b3,b4,b5⟩:=Yd.before;have HCn:=Lib.hid (show Calls Tryz.prog 15 #[ptr y.sb,v] w2 fun e w'=>∃ v1 v2 oo,e=.returned (.tuple #[v1,v2,.int .i64 0])∧NdsIn w' oo v1 ringN∧(∃ n2 xs,Row w' oo (55,0) 3 1 v2 n2 xs)∧Below w2.heap.size w2 w'∧Old w2.heap.size oo from by
  obtain⟨g,cap,t,e,_,_,hr⟩:=id hR2;have:=scanonV_any hS2 b5 b3 (ps:=Yd.pl |> P4) (by rw[P4_len];exact hr) (by rw[P4_len];decide) (by rw[b1];exact b4) (by rw[b1,P4_len];decide)
  rw[b1,b2]at this;exact this.mono fun _ _ ⟨v1,v2,oo,h1,h2,h3,h4,h5⟩=>⟨v1,v2,oo,h1,h2,⟨_,_,h3⟩,h4,h5⟩)
 clear HYd HAw hs2 hr2 hb1 hid b1 b2 b3 b4 b5;have HX2:=Lib.hid (And.intro hS2 (And.intro hI2 (And.intro hR2 hs2')));have HB:=Lib.hid Yd.start;have HBe:=Lib.hid Yd.fY.2.2.2.1;have HCk:=Lib.hid (show 1<Yd.Y.txs.length from by have:=Yd.fY.2.2.2.2.2.1;omega)
 clear hS2 hI2 hR2 hs2';have HH0:=Lib.hid H0;have H50:=Lib.hid h50;clear H0 h50;go_wp2_with fail;refine HCn.out.mono ?_
 rintro e w3 ⟨v1,v2,oo,rfl,hN,⟨n2,xs2,hr3⟩,hb3,hO⟩
 obtain⟨_,_,hrn,_⟩:=id hN;obtain⟨pn,cn,rfl⟩:=hrn.slc;obtain⟨px,cx,rfl⟩:=hr3.slc;clear HCn hrn hr3;obtain⟨o3,ho3⟩:∃ o3,o3=mixO o2 oo w2.heap.size:=⟨_,rfl⟩;have hN3:NdsIn w3 o3 (.slice pn ringN.length cn) ringN:=by rw[ho3];exact hN.mixO hO o2
 have s3F:Stp (fun _=>False) o2 o3 w2 w3:=by rw[ho3];exact Stp.mixO oo hb3
 have s3:Stp (stTag y) o2 o3 w2 w3:=s3F.mono fun _ h=>h.elim
 have hS3:=HX2.out.1.stp s3F (fun _ h=>h)
 clear hN hO hb3;go_wp2_with fail;refine (c_begin (i:=1) hS3 HX2.out.2.1 HCk.out).mono ?_
 rintro e w4 ⟨he,o4,hS4,hI4,hs4⟩
 rw[HBe.out]at he;subst he;have hN4:=hN3.stp hs4 (H50.out 54 (by omega) 0) (H50.out 51 (by omega) 0) (H50.out 52 (by omega) 0)
 have hR4:=(HX2.out.2.2.1.stp s3).stp hs4;have hst4:Stp no7 (fun _=>(7,0)) o4 w1 w4:=HX2.out.2.2.2.trans ((s3.trans hs4).mono HH0.out)
 have hT4:=HB.out;generalize (Yd.Y.beginR 1).1=S4 at hS4 hI4 hT4;clear hN3 s3 s3F hS3 hs4 HX2 HB HBe HCk ho3;go_wp2_with fail;go_loopw [7,11,12,13] (fun vr ix _ _ wr=>∃ (t:Nat) (oo:Own) (p:Nat→Nat) (S:Stt),ix=.int .i64 t∧t≤20∧t≤n∧StIn wr oo y S∧Ta S p (2*t)∧R4 y wr oo vr p∧NdsIn wr oo (.slice pn ringN.length cn) ringN∧Stp no7 (fun _=>(7,0)) oo w1 wr) (fun _ ix _ _ _=>20-(intOf ix).toNat)
 case atStart=>exact⟨0,o4,_,S4,rfl,by omega,by omega,hS4,hT4,hR4,hN4,hst4⟩
 case round =>
  clear hS4 hI4 hT4 hR4 hN4 hst4;obtain⟨t,oo,p,S,rfl,ht,htl,hS,hT,hR,hNd,hs⟩:=hrel;obtain⟨wo,rfl⟩:∃ wo:World,wo=wr:=⟨_,rfl⟩;obtain⟨gr,cap,tg,rfl,hcap,htg,hr⟩:=hR;have hstop:(t<20∧t<n)∨¬(t<20∧t<n):=by omega
  rcases hstop with ⟨h20,hll⟩|hstop
  ·have tI:(t:Int)<20:=by omega
   have tL:(t:Int)<(n:Int):=by omega
   obtain⟨d,hd⟩:∃ d,l[t]?=some d:=⟨_,List.getElem?_eq_getElem (by rw[←HN.out];exact hll)⟩
   obtain⟨bb,off,rfl,hc⟩:∃ b off,a=some ⟨b,off,none⟩∧∀ (i:Nat) (d:OpV),l[i]?=some d→∀ j,j<9→w.cell? ⟨b,off+i*9+j,none⟩=some (.int .i64 (d.c j)):=by
    rcases HOp.out with h|h
    ·rw[h]at hd;simp at hd
    ·exact h
   have hdo:=HOk.out d (List.mem_of_getElem? hd);have hcell:=Lib.hid (fun (W:World) (hW:Below w.heap.size w W) (j:Nat) (hj:j<9)=>(hW.cell (p:=⟨bb,off+t*9+j,none⟩) (cell_in (hc t d hd j hj))).trans (hc t d hd j hj))
   have hrc:=R4.cell hr;have hgr:=cell_in (hrc 0 (by omega))
   have hlen:=hT.len;have hal:=hT.alloc d.shp_ok (by omega)
   have hchk:S.chk 1=true:=decide_eq_true (by omega)
   have HDd:=Lib.hid (deed14_any p hS hT.ok d hdo (cap:=cap) hchk ⟨decide_eq_true (by rw[hal.1.len];omega),fun he=>by obtain⟨x,e1,_⟩:=hal.2 he;rw[e1];exact Int.natCast_nonneg x⟩ hrc hgr)
   have hT1:Ta (S.deed14 1 p d).S p (2*t+2):=hT.deed (pk_lt d.b (show 1≤4 by omega)) (pk_lt d.a (show 1≤4 by omega)) d.shp_ok (hdo 5) (by omega)
   have HCap:=Lib.hid hcap;have HX:=Lib.hid (And.intro hT1 (And.intro htg (And.intro hr (And.intro hNd hs))));have hbw3:=hold.out _ _ hs;have q0:=hcell.out _ hbw3 0 (by omega)
   have q1:=hcell.out _ hbw3 1 (by omega)
   have q2:=hcell.out _ hbw3 2 (by omega)
   have q3:=hcell.out _ hbw3 3 (by omega)
   have q4:=hcell.out _ hbw3 4 (by omega)
   have q5:=hcell.out _ hbw3 5 (by omega)
   have q6:=hcell.out _ hbw3 6 (by omega)
   have q7:=hcell.out _ hbw3 7 (by omega)
   have q8:=hcell.out _ hbw3 8 (by omega)
   rw[Nat.add_zero]at q0;simp only[OpV.c]at q0 q1 q2 q3 q4 q5 q6 q7 q8;have hv:d.v=.agg #[.int .i64 d.k,.int .i64 d.t,.int .i64 d.a,.int .i64 d.b,.int .i64 d.i,.int .i64 d.n,.int .i64 d.s0,.int .i64 d.s1,.int .i64 d.s2]:=rfl;rw[hv]at HDd;generalize S.deed14 1 p d=R at *;clear hS hT hr hNd hs hT1 hal hchk hlen hgr hrc hc hd hbw3 hv hcell HOk HOp htg hcap hdo;have HW:=Lib.hid (wrap_nat t (by omega))
   go_wp2_with fail;refine HDd.out.mono ?_
   rintro e w6 ⟨⟨vv,rfl⟩,o6,hS6,hI6,hs6⟩
   clear q0 q1 q2 q3 q4 q5 q6 q7 q8 HDd;have hr6:=HX.out.2.2.1.stp hs6 HX.out.2.1;have hN6:=HX.out.2.2.2.1.stp hs6 (H50.out 54 (by omega) 0) (H50.out 51 (by omega) 0) (H50.out 52 (by omega) 0)
   have hst6:=HX.out.2.2.2.2.trans (hs6.mono HH0.out);have hT6:=HX.out.1;have htg:=Lib.hid HX.out.2.1;clear hs6 HX;have hrem:∃ r:Int,Int.tmod (t:Int) 3=r∧(r=0∨r=1∨r=2):=⟨_,rfl,by rw[Int.tmod_eq_emod_of_nonneg (by omega)];omega⟩
   obtain⟨r,hr1,hr2⟩:=hrem
   cases c
   ·have HR:=Lib.hid (And.intro hS6 (And.intro hT6 (And.intro hr6 (And.intro hN6 hst6))))
    clear hS6 hT6 hr6 hN6 hst6 hI6 hr1 hr2;obtain⟨hw1,hw2⟩:=HW.out;go_wp2_with fail;go_roundw
    case rel=>exact⟨t+1,o6,p,R.S,by simp,by omega,by omega,HR.out.1,HR.out.2.1,⟨gr,cap,tg,rfl,HCap.out,htg.out,HR.out.2.2.1⟩,HR.out.2.2.2.1,HR.out.2.2.2.2⟩
    case measure=>clear hw1 hw2;simp[intOf];omega
   ·rcases hr2 with rfl|rfl|rfl
    ·have HR:=Lib.hid (And.intro hS6 (And.intro hT6 (And.intro hr6 (And.intro hN6 hst6))))
     clear hS6 hT6 hr6 hN6 hst6 hI6;obtain⟨hw1,hw2⟩:=HW.out;go_wp2_with fail;go_roundw
     case rel=>exact⟨t+1,o6,p,R.S,by simp,by omega,by omega,HR.out.1,HR.out.2.1,⟨gr,cap,tg,rfl,HCap.out,htg.out,HR.out.2.2.1⟩,HR.out.2.2.2.1,HR.out.2.2.2.2⟩
     case measure=>clear hw1 hw2;simp[intOf];omega
    ·have hP4:(P4 p).length=4:=P4_len p
     have HCo:=Lib.hid (show Calls Tryz.prog 18 #[ptr y.sb,.slice (some ⟨gr,0,none⟩) 4 cap] w6 fun e w'=>(∃ v' o' q S',e=.returned (.tuple #[v',.bool true])∧StIn w' o' y S'∧Row w' o' (y.l.id+1,0) 3 1 v' 4 ((P4 q).map nv)∧Ta S' q (2*t+2)∧Stp (stTag y) o6 o' w6 w')∨(∃ v' o',e=.returned (.tuple #[v',.bool false])∧StIn w' o' y R.S∧Stp (stTag y) o6 o' w6 w') from by
      have h:=scollect_any hS6 hT6.ok (ps:=P4 p) (ta:=tg) (by rw[hP4];exact hr6) (by rw[hP4];decide) (by rw[hP4];decide)
      refine h.mono ?_
      rintro e w' ⟨v',o',rfl,k1,k2,k3⟩
      by_cases hm:R.S.may (P4 p)=true
      ·obtain⟨q,e2,hq⟩:=hT6.collect hm
       rw[e2,P4_len]at k2;rw[e2];exact .inl ⟨v',o',q,_,rfl,k1,k2,hq,k3⟩
      ·have e3:R.S.collectR (P4 p)=(R.S,[],false):=by unfold Stt.collectR;rw[if_neg hm]
       rw[e3]at k1 ⊢;exact .inr ⟨v',o',rfl,k1,k3⟩)
     have hr6':R4 y w6 o6 (.slice (some ⟨gr,0,none⟩) 4 cap) p:=⟨gr,cap,tg,rfl,HCap.out,htg.out,hr6⟩;have HR:=Lib.hid (And.intro hT6 (And.intro hr6' (And.intro hN6 hst6)));clear hS6 hT6 hr6 hr6' hN6 hst6 hI6 hP4;go_wp2_with fail;refine HCo.out.mono ?_;have HSt:=Lib.hid (fun (W:World) (o':Own) (S':Stt) (q:Nat→Nat) (h:StIn W o' y S') (hT:Ta S' q (2*t+2))=>show Calls Tryz.prog 19 #[ptr y.sb] W fun e w'=>∃ b o2,e=.returned (.bool b)∧StIn w' o2 y S'.stepR.1∧Ta S'.stepR.1 q (2*t+2)∧Stp (stTag y) o' o2 W w' from
      (sstep_any h hT.ok (hT.lost (by omega))).mono fun e w' ⟨h1,o2,h2,h3⟩=>⟨_,o2,h1,h2,hT.step,h3⟩)
     rintro e w7 (⟨v',o7,q,S7,rfl,hS7,hr7,hT7,hs7⟩|⟨v',o7,rfl,hS7,hs7⟩)
     ·have hR7:R4 y w7 o7 v' q:=R4.of hr7 (fun h=>by have h:y.l.id+1=y.l.id:=h;omega)
      obtain⟨g7,c7,t7,rfl,hc7,ht7,hr7⟩:=hR7;have HR7:=Lib.hid (show R4 y w7 o7 (.slice (some ⟨g7,0,none⟩) 4 c7) q from ⟨g7,c7,t7,rfl,hc7,ht7,hr7⟩);have HS7:=Lib.hid (HSt.out w7 o7 S7 q hS7 hT7);have Hs7:=Lib.hid hs7;clear hS7 hT7 hr7 ht7 hc7 hs7 HSt HCo;obtain⟨hw1,hw2⟩:=HW.out;go_wp2_with fail;refine HS7.out.mono ?_
      rintro e w8 ⟨b8,o8,rfl,hS8,hT8,hs8⟩
      have hs78:=Hs7.out.trans hs8;have hfin:=And.intro hS8 (And.intro hT8 (And.intro (HR7.out.stp hs8) (And.intro (HR.out.2.2.1.stp hs78 (H50.out 54 (by omega) 0) (H50.out 51 (by omega) 0) (H50.out 52 (by omega) 0)) (HR.out.2.2.2.trans (hs78.mono HH0.out)))))
      have HF:=Lib.hid hfin;clear hS8 hT8 hs8 hs78 hfin;go_wp2_with fail;go_roundw
      case rel=>exact⟨t+1,o8,q,_,by simp,by omega,by omega,HF.out.1,HF.out.2.1,HF.out.2.2.1,HF.out.2.2.2.1,HF.out.2.2.2.2⟩
      case measure=>clear hw1 hw2;simp[intOf];omega
     ·have HS7:=Lib.hid (HSt.out w7 o7 R.S p hS7 HR.out.1)
      have Hs7:=Lib.hid hs7;clear hS7 hs7 HSt HCo;obtain⟨hw1,hw2⟩:=HW.out;go_wp2_with fail;refine HS7.out.mono ?_
      rintro e w8 ⟨b8,o8,rfl,hS8,hT8,hs8⟩
      have hs78:=Hs7.out.trans hs8;have hfin:=And.intro hS8 (And.intro hT8 (And.intro (HR.out.2.1.stp hs78) (And.intro (HR.out.2.2.1.stp hs78 (H50.out 54 (by omega) 0) (H50.out 51 (by omega) 0) (H50.out 52 (by omega) 0)) (HR.out.2.2.2.trans (hs78.mono HH0.out)))))
      have HF:=Lib.hid hfin;clear hS8 hT8 hs8 hs78 hfin;go_wp2_with fail;go_roundw
      case rel=>exact⟨t+1,o8,p,_,by simp,by omega,by omega,HF.out.1,HF.out.2.1,HF.out.2.2.1,HF.out.2.2.2.1,HF.out.2.2.2.2⟩
      case measure=>clear hw1 hw2;simp[intOf];omega
    ·have HR:=Lib.hid (And.intro hS6 (And.intro hT6 (And.intro hr6 (And.intro hN6 hst6))))
     clear hS6 hT6 hr6 hN6 hst6 hI6;obtain⟨hw1,hw2⟩:=HW.out;go_wp2_with fail;go_roundw
     case rel=>exact⟨t+1,o6,p,R.S,by simp,by omega,by omega,HR.out.1,HR.out.2.1,⟨gr,cap,tg,rfl,HCap.out,htg.out,HR.out.2.2.1⟩,HR.out.2.2.2.1,HR.out.2.2.2.2⟩
     case measure=>clear hw1 hw2;simp[intOf];omega
  ·have hcs:((t:Int)<(n:Int)∧¬(t:Int)<20)∨¬(t:Int)<(n:Int):=by omega
   obtain⟨hE,hq⟩:=hT.end;obtain⟨e1,e2,e3,e4,e5,e6,e7⟩:=hE.canon hq;obtain⟨f1,f2⟩:=hE.begin;have hlen:=hT.len;have HAb:=Lib.hid (c_abort (i:=1) hS hT.ok (by omega))
   have HX:=Lib.hid (And.intro (show R4 y wo oo (.slice (some ⟨gr,0,none⟩) 4 cap) p from ⟨gr,cap,tg,rfl,hcap,htg,hr⟩) (And.intro hNd hs));have HE5:=Lib.hid (And.intro e5 hE.len);have HLv:=Lib.hid (fun (W:World) (o':Own) (h:StIn W o' y (S.abortR 1).1)=>show Calls Tryz.prog 21 #[ptr y.sb,.int .i64 1] W fun e w'=>e=.returned (.tuple #[.int .i64 0,.bool false])∧W=w' from by
    have:=c_live (i:=1) h e5 (by rw[hE.len];decide)
    rw[e7]at this;exact this)
   have HCn:=Lib.hid (fun (W:World) (o':Own) (h:StIn W o' y (S.abortR 1).1) (hR:R4 y W o' (.slice (some ⟨gr,0,none⟩) 4 cap) p)=>show Calls Tryz.prog 15 #[ptr y.sb,.slice (some ⟨gr,0,none⟩) 4 cap] W fun e w'=>∃ v1 v2 oo,e=.returned (.tuple #[v1,v2,.int .i64 0])∧NdsIn w' oo v1 ringN∧(∃ n2 xs,Row w' oo (55,0) 3 1 v2 n2 xs)∧Below W.heap.size W w'∧Old W.heap.size oo from by
    obtain⟨g,cap,t,e,_,_,hr⟩:=id hR;have:=scanonV_any h e5 e3 (ps:=P4 p) (by rw[P4_len];exact hr) (by rw[P4_len];decide) (by rw[e1];exact e4) (by rw[e1,P4_len];decide)
    rw[e1,e2]at this;exact this.mono fun _ _ ⟨v1,v2,oo,h1,h2,h3,h4,h5⟩=>⟨v1,v2,oo,h1,h2,⟨_,_,h3⟩,h4,h5⟩)
   have HNo:=Lib.hid (fun (W:World) (o':Own) (h:StIn W o' y (S.abortR 1).1)=>show Calls Tryz.prog 23 #[ptr y.sb] W fun e w'=>e=.returned (.int .i64 1)∧W=w' from by
    have:=now_in h;rw[e6]at this;exact this)
   have HBe:=Lib.hid (fun (W:World) (o':Own) (h:StIn W o' y (S.abortR 1).1)=>show Calls Tryz.prog 16 #[ptr y.sb,.int .i64 0] W fun e w'=>e=.returned (.int .i64 0)∧∃ o2,StIn w' o2 y ((S.abortR 1).1.beginR 0).1∧Stp (stTag y) o' o2 W w' from by
    have:=c_begin (i:=0) h e5 (by rw[hE.len];decide)
    rw[f1]at this;exact this.mono fun _ _ ⟨h1,o2,h2,_,h3⟩=>⟨h1,o2,h2,h3⟩)
   have HG:=Lib.hid f2;generalize ((S.abortR 1).1.beginR 0).1=S9 at HBe HG;generalize (S.abortR 1).1=S8 at *;generalize (S.abortR 1).2=z8 at *;clear hE hq e1 e2 e3 e4 e5 e6 e7 f1 f2 hlen hS hT hr hNd hs hcap htg hstop htl ht HOk HOp;rcases hcs with ⟨hA,hB⟩|hA
   all_goals
    go_wp2_with fail;refine HAb.out.mono ?_
    rintro e w5 ⟨rfl,o5,hS5,_,hs5⟩
    have hR5:=HX.out.1.stp hs5;have hN5:=HX.out.2.1.stp hs5 (H50.out 54 (by omega) 0) (H50.out 51 (by omega) 0) (H50.out 52 (by omega) 0)
    have hst5:=HX.out.2.2.trans (hs5.mono HH0.out);clear hs5 HX HAb;go_wp2_with fail;refine (HLv.out _ _ hS5).mono ?_
    rintro e w' ⟨rfl,rfl⟩
    go_wp2_with fail;refine (HCn.out _ _ hS5 hR5).mono ?_
    rintro e w6 ⟨v1,v2,oc,rfl,hN,⟨n2,xs2,hr3⟩,hb6,hO⟩
    obtain⟨_,_,hrn,_⟩:=id hN;obtain⟨pn2,cn2,rfl⟩:=hrn.slc;obtain⟨px2,cx2,rfl⟩:=hr3.slc;obtain⟨o6,ho6⟩:∃ o6,o6=mixO o5 oc w5.heap.size:=⟨_,rfl⟩;have s6F:Stp (fun _=>False) o5 o6 w5 w6:=by rw[ho6];exact Stp.mixO oc hb6
    have s6:Stp (stTag y) o5 o6 w5 w6:=s6F.mono fun _ h=>h.elim
    have hS6:=hS5.stp s6F (fun _ h=>h)
    have hR6:=hR5.stp s6;have hN6:=hN5.stp s6 (H50.out 54 (by omega) 0) (H50.out 51 (by omega) 0) (H50.out 52 (by omega) 0)
    have hst6:=hst5.trans (s6.mono HH0.out);have HSa:=Lib.hid (same09_any hN6 hN ringN_len.1 ringN_len.2);have HZ:=Lib.hid (And.intro hS6 (And.intro hR6 hst6));clear hrn hr3 hN hO hb6 ho6 s6F s6 hS6 hR6 hN6 hst6 hS5 hR5 hN5 hst5 HLv HCn;go_wp2_with fail;refine HSa.out.mono ?_
    rintro e w7 ⟨rfl,hb7⟩
    have s7:Stp (stTag y) o6 o6 w6 w7:=Stp.of_below hb7;have hS7:=HZ.out.1.below hb7;have HR7:=Lib.hid (HZ.out.2.1.stp s7);have HT7:=Lib.hid (HZ.out.2.2.trans (s7.mono HH0.out));clear s7 hb7 HSa HZ;go_wp2_with fail;refine (HNo.out _ _ hS7).mono ?_
    rintro e w' ⟨rfl,rfl⟩
    go_wp2_with fail;refine (HBe.out _ _ hS7).mono ?_
    rintro e w8 ⟨rfl,o8,hS8,hs8⟩
    have HR8:=Lib.hid (HR7.out.stp hs8);have HT8:=Lib.hid (HT7.out.trans (hs8.mono HH0.out));have HS8:=Lib.hid hS8;clear hS7 hS8 hs8 HR7 HT7 HNo HBe;go_wp2_with fail;go_loopw [19,20,21] (fun ix _ _ wr=>∃ (k:Nat) (oo:Own) (S:Stt),ix=.int .i64 k∧k≤4∧StIn wr oo y S∧Tg S p k∧R4 y wr oo (.slice (some ⟨gr,0,none⟩) 4 cap) p∧Stp no7 (fun _=>(7,0)) oo w1 wr) (fun ix _ _ _=>4-(intOf ix).toNat)
    case atStart=>exact⟨0,o8,S9,rfl,by omega,HS8.out,HG.out,HR8.out,HT8.out⟩
    case round =>
     clear HS8 HG HR8 HT8;obtain⟨k,oo,S,rfl,hk,hS,hT,hR,hs⟩:=hrel;by_cases hlt:k<4
     ·have kI:(k:Int)<4:=by omega
      obtain⟨r1,r2,r3⟩:=hT.read hlt (by omega)
      have hok:S.ok:=by obtain⟨A,h1,_⟩:=hT.ex;exact h1.ok
      have HRd:=Lib.hid (c_read (i:=0) hS hok (decide_eq_true (by rw[hT.len];decide)) (plc S (p k)) 0)
      rw[r1,r2]at HRd;obtain⟨g1,c1,t1,e1,hc1,ht1,hr1⟩:=id hR;injection e1 with e1 _ e3;injection e1 with e1;injection e1 with e1;subst e1 e3;have hcl:=R4.cell hr1 k hlt;have HX:=Lib.hid (And.intro r3 (And.intro hR hs));have HW:=Lib.hid (And.intro (wrap_nat k (by omega)) (show wrap64 (10+(k:Int))=10+(k:Int)∧IntKind.i64.wrap (10+(k:Int))=10+(k:Int) from ⟨IntWalk.wrap64_in _ (by omega),IntWalk.i64_in _ (by omega)⟩))
      generalize (S.read 0 (p k) 0).S=S10 at *;clear hS hT hR hs r1 r2 r3 hok hr1 ht1;obtain⟨⟨hw1,hw2⟩,hw3,hw4⟩:=HW.out;go_wp2_with fail;refine HRd.out.mono ?_
      rintro e w9 ⟨rfl,o9,hS9,_,hs9⟩
      have HY:=Lib.hid (And.intro hS9 (And.intro (HX.out.2.1.stp hs9) (HX.out.2.2.trans (hs9.mono HH0.out))));clear hS9 hs9 hcl;go_wp2_with fail;go_roundw
      case rel=>exact⟨k+1,o9,S10,by simp,hlt,HY.out.1,HX.out.1,HY.out.2.1,HY.out.2.2⟩
      case measure=>clear hw1 hw2 hw3 hw4;simp[intOf];omega
     ·obtain rfl:k=4:=by omega
      obtain⟨r1,r2⟩:=hT.commit;have hok:S.ok:=by obtain⟨A,h1,_⟩:=hT.ex;exact h1.ok
      have HCm:=Lib.hid (c_commit (i:=0) hS hok (decide_eq_true (by rw[hT.len];decide)))
      rw[r1,r2]at HCm;have HX:=Lib.hid hs;clear hS hT hR hs r1 r2 hok;go_wp2_with fail;refine HCm.out.mono ?_
      rintro e w9 ⟨rfl,o9,hS9,_,hs9⟩
      have hfin:=hold.out _ _ (HX.out.trans (hs9.mono HH0.out));clear hS9 hs9;go_wp2_with fail;go_ret;exact⟨rfl,hfin⟩
end Go.Proofs.YteehgedabdchcaaGreat
