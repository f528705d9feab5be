import Derived.Test.YteehgedabdchcaaGreatQao
import Derived.Test.YteehgedabdchcaaGreatQar
import Derived.Test.YteehgedabdchcaaGreatQax
set_option linter.all false
set_option maxRecDepth 1000000
set_option maxHeartbeats 16000000
namespace Go.Proofs.YteehgedabdchcaaGreat
open Go.RowKit Hp
attribute [local go_sem ↓] Go.wp_at_zero Go.wp_at_succ
section
variable {w w' : World} {o o' : Own} {y : SLay} {S : Stt} {i : Nat}
def Stt.alloc (S:Stt)(i:Nat)(s:Shp):Res:=S.deedR i (S.allocR i s)
def Stt.weak (S:Stt)(i q:Nat):Res:=S.deedR i (S.weakR i q)
theorem alloc1_any (h:StIn w o y S)(hk:S.ok)(hi:i<S.txs.length)(s:Shp)(hs:s.ok)(hwk:s.weak=false)
  {b1 b2:Nat}(j1:Blk w b1 #[.int .i64 s.p,.int .i64 s.d,.bool s.weak,.bool s.final] 93)(j2:Blk w b2 #[ptr y.sb] 24) :
  Calls Tryz.prog 105 #[ptr (y.xb i),ptr b1,ptr b2] w fun e w'=>e=.returned (.tuple #[.int .i64 (S.allocR i s).v,.int .i64 (S.allocR i s).e])∧Lft y (S.allocR i s).S o w w':=by
 have HR:=Lib.hid (fun w=>hright_any s hs w)
 have HL:=Lib.hid (fun w' (hw:Below w.heap.size w w')=>lay_any (h.below hw) hk hi s hs)
 rw[hwk]at j1;have c1:=j1.cell;have c2:=j2.cell;rw[show shpV s=.agg #[.int .i64 s.p,.int .i64 s.d,.bool false,.bool s.final] from by rw[←hwk]]at HR HL
 show Calls _ _ _ _ fun e w'=>e=.returned (.tuple #[.int .i64 ((S.layR i s).2.1:Nat),.int .i64 (S.layR i s).2.2])∧Lft y (S.layR i s).1 o w w'
 generalize S.layR i s=R at *;clear h hk hi hs hwk;go_enter Tryz.func105,Tryz.ntmps105;go_wp2_with fail;refine (HR.out _).mono ?_
 rintro e w1⟨rfl,hb1⟩
 have c1:=(j1.below hb1 j1.lt).cell;have c2:=(j2.below hb1 j2.lt).cell;go_wp2_with fail;refine (HL.out _ hb1).mono ?_
 rintro e w2⟨rfl,o2,hS2,hs2⟩
 go_wp2_with fail;go_ret2;exact⟨rfl,o2,hS2,(Stp.of_below hb1).trans hs2⟩
theorem eg_alloc1 (args:Array Value)(w:World):(callFunc 105 args).run Tryz.prog w=.ok (.enter 105 args) w:=enters_of Tryz.func105 (by kernel_rfl) rfl args w
theorem salloc_any (h:StIn w o y S)(hk:S.ok)(hi:i<S.txs.length)(s:Shp)(hs:s.ok)(hwk:s.weak=false) :
  Calls Tryz.prog 47 #[ptr y.sb,.int .i64 i,shpV s] w fun e w'=>e=.returned (.tuple #[.int .i64 (S.alloc i s).v,.int .i64 (S.alloc i s).e])∧Lft y (S.alloc i s).S o w w':=by
 have hmf:∀ (fn:Fn)(first cap:Array Value)(w:World),(Instr.makeFunc fn first cap).run Tryz.prog w=.ok (.func fn first cap) w:=fun _ _ _ _=>rfl
 have HD:=Lib.hid (fun w' b1 b2 (hw:Below w.heap.size w w')(j1:Blk w' b1 #[.int .i64 s.p,.int .i64 s.d,.bool s.weak,.bool s.final] 93)(j2:Blk w' b2 #[ptr y.sb] 24) =>
  deed_any 105 [ptr b1,ptr b2] (h.below hw) hk hi eg_alloc1 (S.allocR i s) (fun _=>good_allocR hk hi hs)
   (fun _ w1 o1 hb _ hS=>alloc1_any hS hk hi s hs hwk (j1.below hb j1.lt) (j2.below hb j2.lt)))
 unfold Stt.alloc;generalize S.deedR i (S.allocR i s)=R at *;clear h hk hi hs hwk;go_enter Tryz.func47,Tryz.ntmps47;go_wp2_with fail;refine (HD.out _ (w.heap.size+1) w.heap.size (balloc (balloc (bsame w) _) _) (Blk.new_at _ _ _ _ _ (by simp) rfl) ((Blk.new w _ _).alloc _)).mono ?_
 rintro e w2⟨rfl,o2,hS2,hs2⟩
 go_wp2_with fail;go_ret2;exact⟨rfl,o2,hS2,(Stp.of_below (balloc (balloc (bsame w) _) _)).trans hs2⟩
end
section
variable {w w' : World} {o o' : Own} {y : SLay} {S : Stt} {i : Nat}
theorem commit_good (hk:S.ok)(hi:i<S.txs.length):Good S.txs.length (S.commit i):=by
 unfold Stt.commit Stt.deedR
 cases hl:(S.t i).live with
 | false=>rw[if_neg (by simp)];exact⟨hk,rfl⟩
 | true =>
  rw[if_pos rfl];have hg:=good_commitR hk hi hl;exact⟨Stt.ok_fin hg.1 (by have:=hg.2;omega),by rw[fin_len];exact hg.2⟩
theorem commit1_any (h:StIn w o y S)(hk:S.ok)(hi:i<S.txs.length)(hl:(S.t i).live=true){b1:Nat}(j1:Blk w b1 #[ptr y.sb] 24)(t1:o b1=(y.l.id+1,0)) :
  Calls Tryz.prog 78 #[ptr (y.xb i),ptr b1] w fun e w'=>e=.returned (.tuple #[.int .i64 (S.commitR i).v,.int .i64 (S.commitR i).e])∧Lft y (S.commitR i).S o w w':=by
 by_cases hw:(S.t i).log.holds=[]∧S.holder≠(i:Int)
 ·have e1:S.commitR i=⟨S.tx i (S.t i).ended,0,0⟩:=by unfold Stt.commitR;rw[if_pos hw]
  rw[e1];exact commit1_read h hk hi hw.1 hw.2 j1
 ·exact commit1_write h hk hi hl hw j1 t1
theorem scommit_any (h0:StIn w o y S)(hk:S.ok)(hi:i<S.txs.length) :
  Calls Tryz.prog 25 #[ptr y.sb,.int .i64 i] w fun e w'=>e=.returned (.tuple #[.int .i64 (S.commit i).v,.int .i64 (S.commit i).e])∧Lft y (S.commit i).S o w w':=by
 have hmf:∀ (fn:Fn)(first cap:Array Value)(w:World),(Instr.makeFunc fn first cap).run Tryz.prog w=.ok (.func fn first cap) w:=fun _ _ _ _=>rfl
 obtain⟨o1,ho1⟩:∃ o1,o1=ext o w.heap.size (y.l.id+1,0):=⟨_,rfl⟩;have h:=h0.retag (o':=o1) fun b hb=>by rw[ho1];exact ext_lt hb
 have hS0:Stp (stTag y) o o1 w w:=by rw[ho1];exact (Stp.refl _ o w).ext _ _ (Nat.le_refl _)
 have hbx:o1 w.heap.size=(y.l.id+1,0):=by rw[ho1];exact ext_ge (Nat.le_refl _)
 clear ho1 h0;have j1:=Blk.new w #[ptr y.sb] 24;have HD:=Lib.hid (deed_any 78 [ptr w.heap.size] (h.below (balloc (bsame w) (.cells #[ptr y.sb] 24))) hk hi eg_commit1 (S.commitR i) (fun hl=>good_commitR hk hi hl)
  (fun hl w1 o2 hb he2 hS=>commit1_any hS hk hi hl (j1.below hb j1.lt) ((he2 _ j1.lt).trans hbx)))
 have HS:=Lib.hid (hS0.trans (Stp.of_below (balloc (bsame w) (.cells #[ptr y.sb] 24))));unfold Stt.commit;generalize S.deedR i (S.commitR i)=R at *;clear h hbx hS0 j1 hk hi;go_enter Tryz.func25,Tryz.ntmps25;go_wp2_with fail;refine HD.out.mono ?_
 rintro e w2⟨rfl,o2,hS2,hs2⟩
 go_wp2_with fail;go_ret2;exact⟨rfl,o2,hS2,HS.out.trans hs2⟩
theorem sabort_any (h:StIn w o y S)(hk:S.ok)(hi:i<S.txs.length) :
  Calls Tryz.prog 20 #[ptr y.sb,.int .i64 i] w fun e w'=>e=.returned (.int .i64 (S.abortR i).2)∧Lft y (S.abortR i).1 o w w':=by
 have HT:=Lib.hid (running_in h hk (Stt.t_get hi));have HA:=Lib.hid (abort_any h hk hi);have H:=Lib.hid h;unfold Stt.abortR;clear h hk hi
 cases hl:(S.t i).live
 ·rw[hl]at HT
  simp only[if_false,Bool.false_eq_true]at HT ⊢;have hfin:=Lib.hid H.out.lft_same;clear hl HA H;go_enter Tryz.func20,Tryz.ntmps20;go_wp2_with fail;refine HT.out.mono ?_
  rintro e w1⟨rfl,rfl⟩
  go_wp2_with fail;go_ret;exact⟨rfl,hfin.out⟩
 ·rw[hl]at HT
  simp only[if_true]at HT ⊢;generalize S.abort i=S2 at *;clear hl H;go_enter Tryz.func20,Tryz.ntmps20;go_wp2_with fail;refine HT.out.mono ?_
  rintro e w1⟨rfl,rfl⟩
  go_wp2_with fail;refine HA.out.mono ?_
  rintro e w2⟨rfl,hl2⟩
  go_wp2_with fail;go_ret;exact⟨rfl,hl2⟩
theorem StIn.thrCells (h:StIn w o y S)(h1:1≤S.txs.length):∃ g cap,y.vth=.slice (some ⟨g,0,none⟩) S.txs.length cap∧(∀ k,k<S.txs.length→w.cell? ⟨g,k,none⟩=some (ptr (y.xb k)))∧S.txs.length≤cap:=by
 obtain⟨g,cap,e,_,hc⟩:=h.thrCell 0 (by omega)
 refine⟨g,cap,e,fun k hk=>?_,hc⟩
 obtain⟨g',cap',e',hk',_⟩:=h.thrCell k hk;rw[e]at e';injection e' with e1 _ _;injection e1 with e1;injection e1 with e1 _ _;rw[e1];exact hk'
theorem begin_live (h:StIn w o y S)(hk:S.ok)(hi:i<S.txs.length)(hl:(S.t i).live=true) :
  Calls Tryz.prog 16 #[ptr y.sb,.int .i64 i] w fun e w'=>e=.returned (.int .i64 140)∧w=w':=by
 have HT:=Lib.hid (thread_in h hk hi);obtain⟨vt,jx,_⟩:=(h.txs i _ (Stt.t_get hi)).blk;unfold txCells at jx;have c:=jx.cell;rw[hl]at c;clear h hk hi;go_enter Tryz.func16,Tryz.ntmps16;go_wp2_with fail;refine HT.out.mono ?_
 rintro e w1⟨rfl,rfl⟩
 go_wp2_with fail;go_ret;exact⟨rfl,rfl⟩
def LvJ (l:List Tx)(k n:Nat):Prop:=k≤l.length∧n=liveN (l.take k)∧n≤k
theorem LvJ.z (l:List Tx):LvJ l 0 0:=⟨Nat.zero_le _,rfl,Nat.le_refl _⟩
theorem liveN_snoc (l:List Tx)(z:Tx):liveN (l++[z])=liveN l+if z.live then 1 else 0:=by
 unfold liveN;rw[List.filter_append,List.length_append]
 cases hz:z.live<;>simp[hz]
theorem LvJ.t {l:List Tx}{k n:Nat}(h:LvJ l k n){z:Tx}(hz:l[k]?=some z)(hl:z.live=true):LvJ l (k+1) (n+1):=by
 obtain⟨hk,he⟩:=List.getElem?_eq_some_iff.1 hz;refine⟨hk,?_,by have:=h.2.2;omega⟩
 rw[List.take_succ_eq_append_getElem hk,liveN_snoc,he,hl,if_pos rfl,←h.2.1]
theorem LvJ.f {l:List Tx}{k n:Nat}(h:LvJ l k n){z:Tx}(hz:l[k]?=some z)(hl:z.live=false):LvJ l (k+1) n:=by
 obtain⟨hk,he⟩:=List.getElem?_eq_some_iff.1 hz;refine⟨hk,?_,by have:=h.2.2;omega⟩
 rw[List.take_succ_eq_append_getElem hk,liveN_snoc,he,hl,if_neg (by simp),←h.2.1];rfl
theorem LvJ.e {l:List Tx}{n:Nat}(h:LvJ l l.length n):n=liveN l:=by have:=h.2.1;rwa [List.take_length]at this
theorem begin_in (h:StIn w o y S)(hk:S.ok)(hi:i<S.txs.length)(hl:(S.t i).live=false) :
  Calls Tryz.prog 16 #[ptr y.sb,.int .i64 i] w fun e w'=>e=.returned (.int .i64 (S.beginR i).2)∧Lft y (S.beginR i).1 o w w':=by
 have hx:=Stt.t_get hi;have HB1:=Lib.hid (fun (hm:S.now+(liveN S.txs+1)≤S.most)=>show S.beginR i=(S.tx i ((S.t i).begun S.now S.next),0) from by unfold Stt.beginR;rw[if_neg (by rw[hl];simp),if_pos hm])
 have HB2:=Lib.hid (fun (hm:¬S.now+(liveN S.txs+1)≤S.most)=>show S.beginR i=(S,120) from by unfold Stt.beginR;rw[if_neg (by rw[hl];simp),if_neg hm])
 generalize S.beginR i=R at *;have HT:=Lib.hid (thread_in h hk hi);have HI:=Lib.hid h;have HX:=Lib.hid (h.txs i _ hx);obtain⟨vt,jx,hrow⟩:=(h.txs i _ hx).blk;unfold txCells at jx;have HRow:=Lib.hid hrow;have cx:=jx.cell;rw[hl]at cx;obtain⟨g,cap,ev,hcs,hcap⟩:=h.thrCells hk.t1;obtain⟨vq,v14,v15,jb,_⟩:=h.blk;unfold stCells at jb;rw[ev]at jb;have c:=jb.cell;have hn1:=hk.n1;have hn2:=hk.n2;have h8:=hk.t8;have HM:=Lib.hid (fun (k:Nat)(hk:k≤9)=>clk_may h.ck (k:Int) (by omega) (by omega) (by omega) (by omega))
 have HMd:=Lib.hid (fun (k:Nat)(hk:S.now+k≤S.most)=>show decide ((k:Int)≤(S.most:Int)-(S.now:Int))=true from by rw[decide_eq_true_eq];omega)
 have HMn:=Lib.hid (fun (k:Nat)(hk:¬S.now+k≤S.most)=>show decide ((k:Int)≤(S.most:Int)-(S.now:Int))=false from by rw[decide_eq_false_iff_not];omega)
 have HN:=Lib.hid (fun w' (hw:Below w.heap.size w w')=>clk_now (h.ck.below hw h.ck.lt))
 have HXS:=Lib.hid (fun k (hk:k<S.txs.length)=>show ∃ z,S.txs[k]?=some z∧∃ vt,(∀ j,w.cell? ⟨y.xb k,j,none⟩=(#[.int .i64 k,.bool z.live,.int .i64 z.start,.int .i64 z.seen,ptr (y.lb k),vt]:Array Value)[j]?) from by
  obtain⟨vt,jz,_⟩:=(h.txs k _ (List.getElem?_eq_getElem hk)).blk;exact⟨S.txs[k],List.getElem?_eq_getElem hk,vt,jz.cell⟩)
 have hcs:=Lib.hid hcs;clear h hk hi hx hn1 hn2 hrow;go_enter Tryz.func16,Tryz.ntmps16;go_wp2_with fail;refine HT.out.mono ?_
 rintro e w1 ⟨rfl,rfl⟩
 go_wp2_with fail;go_loopw [25,6,8] (fun ix cn _ wr=>∃ k n:Nat,ix=.int .i64 k∧cn=.int .i64 n∧LvJ S.txs k n∧wr=w) (fun ix _ _ _=>S.txs.length-(intOf ix).toNat)
 case atStart=>exact⟨0,0,rfl,rfl,LvJ.z _,rfl⟩
 case round =>
  obtain⟨k,n,rfl,rfl,hJ,rfl⟩:=hrel;have HJ:=Lib.hid hJ;have hkl:=hJ.1;have hnk:=hJ.2.2;clear hJ;by_cases hlt:k<S.txs.length
  ·have ck:=hcs.out k hlt
   obtain⟨z,hz,vz,cz⟩:=HXS.out k hlt;have hI:(k:Int)<(S.txs.length:Int):=by omega
   cases hzl:z.live
   ·rw[hzl]at cz
    have HJ2:=Lib.hid (HJ.out.f hz hzl);clear hz hzl;go_wp2_with fail;go_roundw
    case rel=>exact⟨k+1,n,by simp,rfl,HJ2.out,trivial⟩
    case measure=>simp[intOf];omega
   ·rw[hzl]at cz
    have hn8:(n:Int)<9:=by omega
    have HJ2:=Lib.hid (HJ.out.t hz hzl);clear hz hzl;go_wp2_with fail;go_roundw
    case rel=>exact⟨k+1,n+1,by simp,by simp,HJ2.out,trivial⟩
    case measure=>simp[intOf];omega
  ·obtain rfl:k=S.txs.length:=by omega
   have hn8:(n:Int)<9:=by omega
   have hne:=HJ.out.e;have HM2:=Lib.hid (HM.out (n+1) (by omega))
   by_cases hm:S.now+(n+1)≤S.most
   ·rw[HMd.out (n+1) hm,show ((n+1:Nat):Int)=(n:Int)+1 from by omega]at HM2
    have HR:=Lib.hid (HB1.out (by rw[←hne];exact hm))
    clear hm hne;go_wp2_with fail;refine HM2.out.mono ?_
    rintro e w2 ⟨rfl,hb2⟩
    have jx2:=jx.below hb2 jx.lt;rw[hl]at jx2;have jb2:=jb.below hb2 jb.lt;clear cx c HM2;have cx:=jx2.cell;have zx:=jx2.free;have sx:=jx2.lt;have c:=jb2.cell;have sb:=jb2.lt;have nsb:y.sb≠y.xb i:=fun e=>by have h1:=HI.out.os;rw[e,HX.out.ob]at h1;injection h1 with _ h1;omega
    have HN2:=Lib.hid (HN.out w2.drew (bdrew hb2));have hfin:=Lib.hid (show Lft y (S.tx i ((S.t i).begun S.now S.next)) o wr (((w2.setCell ⟨y.xb i,1,none⟩ (.bool true)).setCell ⟨y.xb i,2,none⟩ (.int .i64 S.now)).setCell ⟨y.xb i,3,none⟩ (.int .i64 S.next)).drew from by
     have ob:=HX.out.ob;have hs0:Stp (fun t=>t=(y.l.id,16+8*i)) o o w2 (((w2.setCell ⟨y.xb i,1,none⟩ (.bool true)).setCell ⟨y.xb i,2,none⟩ (.int .i64 S.now)).setCell ⟨y.xb i,3,none⟩ (.int .i64 S.next)).drew:=
      ((((Stp.refl _ o w2).setCell (by show o (y.xb i)=_;exact ob) _).setCell (by show o (y.xb i)=_;exact ob) _).setCell (by show o (y.xb i)=_;exact ob) _).drew
     have hs:Stp (txTag y i) o o wr _:=(Stp.of_below hb2).trans (hs0.mono (by rintro _ rfl;exact⟨rfl,by simp,by simp⟩))
     obtain⟨vr,vk,vh,vu,hlg⟩:=HX.out.log;refine⟨o,HI.out.tx ⟨⟨vt,drewB (((jx2.set 1 _).set 2 _).set 3 _),(HRow.out.below hb2).stp hs0 (by simp)⟩,⟨vr,vk,vh,vu,(hlg.below hb2).stp hs0 fun j hj=>by simp;omega⟩,ob⟩ hs,hs.mono fun _=>stTag_tx⟩)
    go_upto_region 13 with fail;go_region_with (first|(go_at_call 54;refine HN2.out.mono ?_;rintro e w3 ⟨rfl,rfl⟩)|fail)
    all_goals
     go_wp2_with fail;go_ret;rw[HR.out];exact⟨rfl,hfin.out⟩
   ·rw[HMn.out (n+1) hm,show ((n+1:Nat):Int)=(n:Int)+1 from by omega]at HM2
    have HR:=Lib.hid (HB2.out (by rw[←hne];exact hm))
    have HL:=Lib.hid (fun W (hb:Below wr.heap.size wr W)=>HI.out.lft hb)
    clear hm hne;go_wp2_with fail;refine HM2.out.mono ?_
    rintro e w2 ⟨rfl,hb2⟩
    go_wp2_with fail;go_ret;rw[HR.out];exact⟨rfl,HL.out _ hb2⟩
theorem sbegin_any (h:StIn w o y S)(hk:S.ok)(hi:i<S.txs.length) :
  Calls Tryz.prog 16 #[ptr y.sb,.int .i64 i] w fun e w'=>e=.returned (.int .i64 (S.beginR i).2)∧Lft y (S.beginR i).1 o w w':=by
 cases hl:(S.t i).live with
 | false=>exact begin_in h hk hi hl
 | true =>
  have e1:S.beginR i=(S,140):=by unfold Stt.beginR;rw[if_pos hl]
  rw[e1];refine (begin_live h hk hi hl).mono ?_
  rintro e w'⟨rfl,rfl⟩
  exact⟨rfl,h.lft_same⟩
end
end Go.Proofs.YteehgedabdchcaaGreat
namespace Go.Proofs.YteehgedabdchcaaGreat
open Go.RowKit Hp
def Inv (S:Stt):Prop:=S.ok
theorem Inv.ok {S:Stt}(h:Inv S):S.ok:=h
def Stt.chk (S:Stt)(i:Nat):Bool:=decide (i<S.txs.length)
theorem chk_lt {S:Stt}{i:Nat}(h:S.chk i=true):i<S.txs.length:=of_decide_eq_true h
def Plc (_:Stt)(_:Nat):Prop:=True
theorem plc (S:Stt)(p:Nat):Plc S p:=trivial
section
variable {w w' : World} {o o' : Own} {y : SLay} {S : Stt} {i : Nat}
def Left (y:SLay)(S:Stt)(o:Own)(w w':World):Prop:=∃ o',StIn w' o' y S∧Inv S∧Stp (stTag y) o o' w w'
theorem Lft.left (h:Lft y S o w w')(hk:S.ok):Left y S o w w':=by
 obtain⟨o',h1,h2⟩:=h;exact⟨o',h1,hk,h2⟩
theorem c_write (h:StIn w o y S)(hI:Inv S)(hc:S.chk i=true){p:Nat}(_:Plc S p)(j:Nat)(v:Int)(hv:-9223372036854775808≤v∧v≤9223372036854775807) :
  Calls Tryz.prog 48 #[ptr y.sb,.int .i64 i,.int .i64 p,.int .i64 j,.int .i64 v] w fun e w'=>e=.returned (.int .i64 (S.write i p j v).e)∧Left y (S.write i p j v).S o w w':=
 (swrite_any h hI (chk_lt hc) p j v hv).mono fun _ _⟨a,b⟩=>⟨a,b.left (Good.deed hI (chk_lt hc) (good_writeR hI (chk_lt hc) p j hv)).1⟩
theorem c_put (h:StIn w o y S)(hI:Inv S)(hc:S.chk i=true){p q:Nat}(_:Plc S p)(_:Plc S q)(j:Nat) :
  Calls Tryz.prog 49 #[ptr y.sb,.int .i64 i,.int .i64 p,.int .i64 j,.int .i64 q] w fun e w'=>e=.returned (.int .i64 (S.put i p j q).e)∧Left y (S.put i p j q).S o w w':=
 (sput_any h hI (chk_lt hc) p j q).mono fun _ _⟨a,b⟩=>⟨a,b.left (Good.deed hI (chk_lt hc) (good_putR hI (chk_lt hc) p j q)).1⟩
theorem c_read (h:StIn w o y S)(hI:Inv S)(hc:S.chk i=true){p:Nat}(_:Plc S p)(j:Nat) :
  Calls Tryz.prog 24 #[ptr y.sb,.int .i64 i,.int .i64 p,.int .i64 j] w fun e w'=>e=.returned (.tuple #[.int .i64 (S.read i p j).v,.int .i64 (S.read i p j).e])∧Left y (S.read i p j).S o w w':=
 (sread_any h hI (chk_lt hc) p j).mono fun _ _⟨a,b⟩=>⟨a,b.left (Good.deed hI (chk_lt hc) (good_readR hI (chk_lt hc) p j)).1⟩
theorem c_get (h:StIn w o y S)(hI:Inv S)(hc:S.chk i=true){p:Nat}(_:Plc S p)(j:Nat) :
  Calls Tryz.prog 57 #[ptr y.sb,.int .i64 i,.int .i64 p,.int .i64 j] w fun e w'=>e=.returned (.tuple #[.int .i64 (S.get i p j).v,.int .i64 (S.get i p j).e])∧Left y (S.get i p j).S o w w':=
 (sget_any h hI (chk_lt hc) p j).mono fun _ _⟨a,b⟩=>⟨a,b.left (Good.deed hI (chk_lt hc) (good_getR hI (chk_lt hc) p j)).1⟩
theorem c_free (h:StIn w o y S)(hI:Inv S)(hc:S.chk i=true){p:Nat}(_:Plc S p) :
  Calls Tryz.prog 56 #[ptr y.sb,.int .i64 i,.int .i64 p] w fun e w'=>e=.returned (.int .i64 (S.free i p).e)∧Left y (S.free i p).S o w w':=
 (sfree_any h hI (chk_lt hc) p).mono fun _ _⟨a,b⟩=>⟨a,b.left (Good.deed hI (chk_lt hc) (good_freeR hI (chk_lt hc) p)).1⟩
theorem c_alloc (h:StIn w o y S)(hI:Inv S)(hc:S.chk i=true)(s:Shp)(hs:s.ok)(hwk:s.weak=false) :
  Calls Tryz.prog 47 #[ptr y.sb,.int .i64 i,shpV s] w fun e w'=>e=.returned (.tuple #[.int .i64 (S.alloc i s).v,.int .i64 (S.alloc i s).e])∧Left y (S.alloc i s).S o w w':=
 (salloc_any h hI (chk_lt hc) s hs hwk).mono fun _ _⟨a,b⟩=>⟨a,b.left (Good.deed hI (chk_lt hc) (good_allocR hI (chk_lt hc) hs)).1⟩
theorem c_take (h:StIn w o y S)(hI:Inv S)(hc:S.chk i=true) :
  Calls Tryz.prog 59 #[ptr y.sb,.int .i64 i] w fun e w'=>e=.returned (.tuple #[.int .i64 (S.take i).v,.int .i64 (S.take i).e])∧Left y (S.take i).S o w w':=
 (stake_any h hI (chk_lt hc)).mono fun _ _⟨a,b⟩=>⟨a,b.left (Good.deed hI (chk_lt hc) (good_takeR hI (chk_lt hc))).1⟩
theorem c_commit (h:StIn w o y S)(hI:Inv S)(hc:S.chk i=true) :
  Calls Tryz.prog 25 #[ptr y.sb,.int .i64 i] w fun e w'=>e=.returned (.tuple #[.int .i64 (S.commit i).v,.int .i64 (S.commit i).e])∧Left y (S.commit i).S o w w':=
 (scommit_any h hI (chk_lt hc)).mono fun _ _⟨a,b⟩=>⟨a,b.left (commit_good hI (chk_lt hc)).1⟩
theorem c_begin (h:StIn w o y S)(hI:Inv S)(hi:i<S.txs.length) :
  Calls Tryz.prog 16 #[ptr y.sb,.int .i64 i] w fun e w'=>e=.returned (.int .i64 (S.beginR i).2)∧Left y (S.beginR i).1 o w w':=
 (sbegin_any h hI hi).mono fun _ _⟨a,b⟩=>⟨a,b.left (ok_beginR hI hi)⟩
theorem c_abort (h:StIn w o y S)(hI:Inv S)(hi:i<S.txs.length) :
  Calls Tryz.prog 20 #[ptr y.sb,.int .i64 i] w fun e w'=>e=.returned (.int .i64 (S.abortR i).2)∧Left y (S.abortR i).1 o w w':=
 (sabort_any h hI hi).mono fun _ _⟨a,b⟩=>⟨a,b.left (ok_abortR hI hi)⟩
theorem c_live (h:StIn w o y S)(hI:Inv S)(hi:i<S.txs.length) :
  Calls Tryz.prog 21 #[ptr y.sb,.int .i64 i] w fun e w'=>e=.returned (.tuple #[.int .i64 (if (S.t i).live then ((S.t i).start:Int) else 0),.bool (S.t i).live])∧w=w':=
 live_in h hI (Stt.t_get hi)
end
end Go.Proofs.YteehgedabdchcaaGreat
namespace Go.Proofs.YteehgedabdchcaaGreat
open Go.RowKit Hp
attribute [local go_sem ↓] Go.wp_at_zero Go.wp_at_succ
theorem Row.cell2' {w:World}{o:Own}{t:Tag}{e:TypeId}{l:List (Nat×Nat)}{g n cap:Nat}(h:Row w o t e 2 (.slice (some ⟨g,0,none⟩) n cap) n (hcells l))(i:Nat)(x:Nat×Nat)(hx:l[i]?=some x) :
  w.cell? ⟨g,i*2,none⟩=some (nv x.1)∧w.cell? ⟨g,i*2+1,none⟩=some (nv x.2):=by
 have h2:=hcells_at l i x hx;have f:=fun j u hu=>h.own.cells (g:=g) rfl j u hu
 have a1:=f _ _ h2.1;have a2:=f _ _ h2.2;rw[addr_add]at a1 a2;rw[Nat.mul_comm i 2];exact⟨a1,a2⟩
theorem Row.at2p {w:World}{o:Own}{t:Tag}{e:TypeId}{l:List (Nat×Nat)}{n cap:Nat}{pa:Option Addr}(h:Row w o t e 2 (.slice pa n cap) n (hcells l))(i:Nat)(x:Nat×Nat)(hx:l[i]?=some x) :
  ∃ g,pa=some ⟨g,0,none⟩∧w.cell? ⟨g,i*2,none⟩=some (.int .i64 x.1)∧w.cell? ⟨g,i*2+1,none⟩=some (.int .i64 x.2):=by
 rcases h.form4 with ⟨_,h0⟩|⟨g,cap',e',hn⟩
 ·have:=hcells_at l i x hx
  rw[h0]at this;simp at this
 ·injection e' with e1 _ e3
  subst e1 e3;obtain⟨a,b⟩:=h.cell2' i x hx;exact⟨g,rfl,a,b⟩
def txP (ts:List Tx)(k:Nat):List Nat:=(ts.take k).flatMap Tx.places
theorem txP_succ {ts:List Tx}{k:Nat}{x:Tx}(h:ts[k]?=some x):txP ts (k+1)=txP ts k++x.log.roots++x.took.map (·.1):=by
 unfold txP;rw[List.take_add_one,h,List.flatMap_append];simp[Tx.places]
theorem tookL_le:∀ (ts:List Tx)(k:Nat),(∀ x ∈ ts,x.log.fit)→(txP ts k).length≤1000*k+tookN ts
 | [],k,_=>by simp[txP]
 | x::ts,0,_=>by simp[txP]
 | x::ts,k+1,h=>by
  have h1:=tookL_le ts k fun z hz=>h z (.tail _ hz)
  have h2:=lg_bound (h x (.head _));have e:txP (x::ts) (k+1)=x.places++txP ts k:=by unfold txP;rw[List.take_succ_cons,List.flatMap_cons]
  have e2:tookN (x::ts)=x.took.length+tookN ts:=rfl;rw[e,e2,List.length_append];unfold Tx.places;rw[List.length_append,List.length_map];omega
theorem map_nv_snoc (l:List Nat)(x:Nat):(l++[x]).map nv=l.map nv++[.int .i64 x]:=map_snoc_nv l x
section
variable {w w' : World} {o o' : Own} {y : SLay} {S : Stt}
theorem places_len (hk:S.ok)(ps:List Nat):(S.places ps).length≤ps.length+S.next+8000:=by
 have h1:=tookL_le S.txs S.txs.length hk.lg;have h2:=hk.qu;have h3:=hk.t8;have e:txP S.txs S.txs.length=S.txs.flatMap Tx.places:=by unfold txP;rw[List.take_length]
 rw[e]at h1;unfold Stt.places;simp only[List.length_append,List.length_map];omega
theorem splaces_any (h:StIn w o y S) (hk:S.ok) {v:Value} {ps:List Nat} {ta:Tag} (hv:Row w o ta 3 1 v ps.length (ps.map nv)) (hp:ps.length≤100000) :
  Calls Tryz.prog 51 #[ptr y.sb,v] w fun e w'=>∃ v',e=.returned v'∧Row w' (fo w.heap.size) (1,0) 3 1 v' (S.places ps).length ((S.places ps).map nv)∧Below w.heap.size w w':=by
 obtain⟨iI,hi,hsI,hyI,hzI⟩:=info_int;have hu64:=Tryz.underlying25;have hpl:=places_len hk ps;have hn2:=hk.nx2;have hv0:Row w (fun _=>(0,0)) (0,0) 3 1 v ps.length (ps.map nv):=⟨hv.own,fun _ _=>rfl⟩
 have HC:=Lib.hid (show Calls Tryz.prog 63 #[v] w fun e w'=>∃ v',e=.returned v'∧Row w' (fo w.heap.size) (1,0) 3 1 v' ps.length (ps.map nv)∧Below w.heap.size w w' from clone_int hv0 hp (nv_one ps) (1,0))
 obtain⟨vq,vl,vm,jb,hrw⟩:=h.blk;have hq:=hrw.q;obtain⟨pq,cq,rfl⟩:=hq.slc;obtain⟨pv,cv,rfl⟩:=hv.slc;obtain⟨gt,ct,hvt,hct,hctn⟩:=h.thrCells hk.t1;unfold stCells at jb;rw[hvt]at jb;obtain⟨q,hqe⟩:∃ q,q=S.queue:=⟨_,rfl⟩;obtain⟨ts,hts⟩:∃ ts,ts=S.txs:=⟨_,rfl⟩;have hq2:q.length+(txP ts ts.length).length≤S.next+8000:=by
  have h1:=tookL_le ts ts.length (by rw[hts];exact hk.lg)
  have h2:=hk.qu;have h3:=hk.t8;rw[hqe,hts]at *;omega
 have hmx:∀ k,k≤S.next+200000→k≤maxLen∧k*8≤140737488355328:=fun k hk'=>by simp only[maxLen];omega
 have hpm:∀ k,(txP ts k).length≤(txP ts ts.length).length:=fun k=>by
  unfold txP;rw[List.take_length];conv=>rhs;rw[←List.take_append_drop k ts]
  rw[List.flatMap_append,List.length_append];omega
 have HT8:Hid (ts.length≤8):=by show _≤_;rw[hts];exact hk.t8
 have HMX:=Lib.hid hmx;have HN2:=Lib.hid hn2;have HPM:=Lib.hid hpm;have HQ2:=Lib.hid hq2;have HP:=Lib.hid hp;have HPL:=Lib.hid (show S.places ps=ps++q.map (·.1)++txP ts ts.length from by unfold Stt.places txP;rw[hqe,hts,List.take_length])
 rw[←hqe]at hq jb;rw[←hts]at jb hct hctn;have HQ:=Lib.hid hq;have HCT:=Lib.hid hct;have HTX:=Lib.hid (fun (i:Nat) (x:Tx) (hx:ts[i]?=some x)=>show (∃ pk ck,∀ (w2:World),Below w.heap.size w w2→Blk w2 (y.xb i) (txCells i x (y.lb i) (.slice pk x.took.length ck)) 107∧Row w2 o (y.l.id,22+8*i) 117 2 (.slice pk x.took.length ck) x.took.length (hcells x.took)) ∧
   ∀ (w2:World),Below w.heap.size w w2→Calls Tryz.prog 65 #[ptr (y.lb i)] w2 (fun e w'=>∃ v,e=.returned v∧Row w' (fo w2.heap.size) (1,0) 3 1 v x.log.roots.length (x.log.roots.map nv)∧Below w2.heap.size w2 w') from by
  have hx':S.txs[i]?=some x:=by rw[←hts];exact hx
  have h2:=h.txs i x hx';obtain⟨vt,hb',hr'⟩:=h2.blk;obtain⟨pk,ck,rfl⟩:=hr'.slc;refine⟨⟨pk,ck,fun w2 hb=>⟨hb'.below hb hb'.lt,hr'.below hb⟩⟩,fun w2 hb=>?_⟩
  obtain⟨vr,vk,vh,vu,hl⟩:=h2.log;exact roots_log (hl.below hb) (hk.lg x (List.mem_of_getElem? hx')))
 have HS:=Lib.hid (fun (w2:World) (hb:Below w.heap.size w w2)=>hb)
 have hgl:gt<w.heap.size:=by
  have h1:=h.thr;rw[hvt]at h1;exact h1.blt
 have HGL:=Lib.hid hgl;have HJB:=Lib.hid jb;have c:=jb.cell;rw[HPL.out];generalize S.next=N at *;generalize S.holder=N1 at *;generalize S.version=N2 at *;clear h hk hv hv0 hrw hq hq2 hpl hn2 hp hct hmx hpm jb hqe hts hgl hvt;go_enter Tryz.func51,Tryz.ntmps51;go_wp2_with fail;refine HC.out.mono ?_
 rintro e w1 ⟨v1,rfl,hr1,hb1⟩
 obtain⟨p1,c1,rfl⟩:=hr1.slc;have j1:=HJB.out.below hb1 HJB.out.lt;clear c HC;have c:=j1.cell;go_wp2_with fail;go_loopw [5,19] (fun vv ix wr=>∃ k:Nat,ix=.int .i64 k∧k≤q.length∧Row wr (fo w.heap.size) (1,0) 3 1 vv (ps.length+k) ((ps++(q.take k).map (·.1)).map nv)∧Below w.heap.size w wr) (fun _ ix _=>q.length-(intOf ix).toNat)
 case atStart=>exact⟨0,rfl,Nat.zero_le _,by simpa using hr1,hb1⟩
 case round =>
  clear c j1 hr1 hb1;obtain⟨k,rfl,hkn,hr,hb⟩:=hrel;obtain⟨pp,cc,rfl⟩:=hr.slc;by_cases hlt:k<q.length
  ·have hkI:(k:Int)<(q.length:Int):=by omega
   obtain⟨z,hz⟩:∃ z,q[k]?=some z:=⟨_,List.getElem?_eq_getElem hlt⟩;obtain⟨gq,rfl,q0,q1⟩:=(HQ.out.below hb).at2p k z hz;obtain⟨hw1,hw2⟩:=wrap_nat k (by have:=HQ2.out;have:=HN2.out;omega)
   have hk1:Hid (ps.length+k+1≤maxLen∧(ps.length+k+1)*8≤140737488355328):=HMX.out _ (by have:=HQ2.out;have:=HP.out;omega)
   have htk:(q.take (k+1)).map (·.1)=(q.take k).map (·.1)++[z.1]:=by rw[List.take_add_one,hz];simp
   have HTK:=Lib.hid htk;obtain⟨zp,zs⟩:=z;simp only at q0 q1 HTK;have HR:=Lib.hid hr;clear hr hz htk;go_wp2_with (first|(at_builtin;refine wpList_append_row _ rfl _ _ _ rfl 3 iI _ 1 8 hu64 hi hzI hsI hyI rfl (by decide) (fo w.heap.size) (1,0) _ _ _ rfl (Row.below (Row.below HR.out (balloc (bsame _) _)) (balloc (bsame _) _)) ⟨wr.heap.size+1,0,none⟩ 1 1 [.int .i64 zp] rfl rfl (news_one (Blk.new_at _ _ _ _ _ (by simp) rfl)) one_i64 hk1.out.1 hk1.out.2 ?_;intro v' w8 hown hst)|fail)
   have hb8:=balloc (balloc hb (.cells #[.int .i64 zp,.int .i64 zs] 117)) (.cells #[.int .i64 zp] 3);have hr9:=fo_grow hb8 hown;have hb9:=fo_below hb8 hst;go_roundw
   case rel=>exact⟨k+1,by simp,by omega,by rw[HTK.out,←List.append_assoc,map_nv_snoc];exact hr9,hb9⟩
   case measure=>simp[intOf];omega
  ·obtain rfl:k=q.length:=by omega
   rw[List.take_length]at hr;have j1:=HJB.out.below hb HJB.out.lt;have c:=j1.cell;go_wp2_with fail;clear c j1 hkn hlt;have HR0:=Lib.hid hr;have HB0:=Lib.hid hb;clear hr hb;obtain⟨P1,hP1⟩:∃ P1,P1=ps++q.map (·.1):=⟨_,rfl⟩;have HP1:Hid (P1.length=ps.length+q.length):=by show _=_;rw[hP1];simp
   rw[←hP1,←HP1.out]at HR0;have HPE:=Lib.hid hP1;rw[←HP1.out];have HL2:Hid (∀ k,(P1++txP ts k).length≤N+200000):=fun k=>by
    have h1:=HPM.out k;have h2:=HQ2.out;have h3:=HP.out;have h4:=HP1.out;rw[List.length_append];omega
   clear hP1;go_loopw [5,34] (fun vv ix wr=>∃ k:Nat,ix=.int .i64 k∧k≤ts.length∧Row wr (fo w.heap.size) (1,0) 3 1 vv (P1.length+(txP ts k).length) ((P1++txP ts k).map nv)∧Below w.heap.size w wr) (fun _ ix _=>ts.length-(intOf ix).toNat)
   case atStart=>exact⟨0,rfl,Nat.zero_le _,by rw[show txP ts 0=[] from rfl,List.append_nil];exact HR0.out,HB0.out⟩
   case round =>
    clear HR0 HB0;obtain⟨k,rfl,hkn,hr,hb⟩:=hrel;obtain⟨wo,rfl⟩:∃ wo:World,wo=wr:=⟨_,rfl⟩;obtain⟨pp,cc,rfl⟩:=hr.slc;by_cases hlt:k<ts.length
    ·have hkI:(k:Int)<(ts.length:Int):=by omega
     obtain⟨x,hx⟩:∃ x,ts[k]?=some x:=⟨_,List.getElem?_eq_getElem hlt⟩;obtain⟨⟨pk,ck,hX2⟩,hRt⟩:=HTX.out k x hx;have jx:=(hX2 wo hb).1;have HX2:=Lib.hid hX2;have HRt:=hRt wo hb;have ct0:wo.cell? ⟨gt,k,none⟩=some (ptr (y.xb k)):=by rw[hb.cell (p:=⟨gt,k,none⟩) HGL.out];exact HCT.out k hlt
     have HTS:=Lib.hid (txP_succ hx);obtain⟨n2,hn2⟩:∃ n2,n2=P1.length+(txP ts k).length:=⟨_,rfl⟩;rw[←hn2]at hr ⊢;have HNN:=Lib.hid hn2;have HLk:=Lib.hid (HL2.out (k+1));have HR:=Lib.hid hr;have HRT:=Lib.hid HRt;unfold txCells at jx;have cx:=jx.cell;have HB:=Lib.hid hb;obtain⟨r,hre⟩:∃ r,r=x.log.roots:=⟨_,rfl⟩;obtain⟨P2,hP2⟩:∃ P2,P2=P1++txP ts k:=⟨_,rfl⟩;rw[←hre]at HRT HTS;rw[←hP2]at HR;have HTS2:Hid (P1++txP ts (k+1)=P2++r++x.took.map (·.1)):=by show _=_;rw[HTS.out,hP2];simp
     rw[HTS2.out]at HLk;have HP2:Hid (P2.length=n2):=by show _=_;rw[hP2,hn2,List.length_append]
     have hk1:Hid (n2+r.length≤maxLen∧(n2+r.length)*8≤140737488355328):=HMX.out _ (by have:=HLk.out;have:=HP2.out;simp only[List.length_append,List.length_map]at *;omega)
     have HKL:=Lib.hid (wrap_nat k (by have:=HT8.out;omega))
     clear hr hRt HRt jx hre HTS hx hb hn2 hX2;go_wp2_with (first
      | (go_at_call 65;refine HRT.out.mono ?_;rintro e w3 ⟨v3,rfl,hr3,hb3⟩;obtain⟨p3,c3,rfl⟩:=hr3.slc)
      | (at_builtin;go_loud (refine wpList_append_rows _ rfl _ _ _ rfl 3 iI _ 1 8 hu64 hi hzI hsI hyI rfl (by decide) (fo w.heap.size) (1,0) _ _ _ rfl (Row.below HR.out hb3) _ _ _ _ _ rfl hr3 (nv_one _) hk1.out.1 hk1.out.2 ?_;intro v' w8 hown hst;obtain⟨p8,c8,rfl⟩:=hown.slc;have hb8:=fo_below (btrans HB.out hb3) hst;have hr9:=fo_grow (btrans HB.out hb3) hown;have jx8:=(HX2.out w8 hb8).1;unfold txCells at jx8;have cx8:=jx8.cell))
      | fail)
     clear hown hst hb3 hr3 cx jx8 cx8 ct0 HRT HR HB;have HR9:=Lib.hid hr9;have HB8:=Lib.hid hb8;have HRX:=Lib.hid (fun w2 hb=>(HX2.out w2 hb).2)
     obtain⟨tk,htk⟩:∃ tk,tk=x.took:=⟨_,rfl⟩;rw[←htk]at HRX HTS2 HLk ⊢;clear hr9 hb8 hk1 HX2 htk;go_loopw [5,50] (fun vv ix wr=>∃ j:Nat,ix=.int .i64 j∧j≤tk.length∧Row wr (fo w.heap.size) (1,0) 3 1 vv (n2+r.length+j) ((P2++r++(tk.take j).map (·.1)).map nv)∧Below w.heap.size w wr) (fun _ ix _=>tk.length-(intOf ix).toNat)
     case atStart=>exact⟨0,rfl,Nat.zero_le _,by simpa using HR9.out,HB8.out⟩
     case round =>
      clear HR9 HB8;obtain⟨j,rfl,hjn,hr,hb⟩:=hrel;obtain⟨wi,rfl⟩:∃ wi:World,wi=wr:=⟨_,rfl⟩;obtain⟨pp,cc,rfl⟩:=hr.slc;by_cases hj:j<tk.length
      ·have hjI:(j:Int)<(tk.length:Int):=by omega
       obtain⟨z,hz⟩:∃ z,tk[j]?=some z:=⟨_,List.getElem?_eq_getElem hj⟩;obtain⟨gq,rfl,q0,q1⟩:=(HRX.out wi hb).at2p j z hz;have hlen:n2+r.length+tk.length≤N+200000:=by have:=HLk.out;have:=HP2.out;simp only[List.length_append,List.length_map]at *;omega
       have hk1:Hid (n2+r.length+j+1≤maxLen∧(n2+r.length+j+1)*8≤140737488355328):=HMX.out _ (by omega)
       obtain⟨hw1,hw2⟩:=wrap_nat j (by have:=HN2.out;omega)
       have htk:(tk.take (j+1)).map (·.1)=(tk.take j).map (·.1)++[z.1]:=by rw[List.take_add_one,hz];simp
       have HTK:=Lib.hid htk;obtain⟨zp,zs⟩:=z;simp only at q0 q1 HTK;have HR:=Lib.hid hr;clear hr hz htk hlen;go_wp2_with (first|(at_builtin;refine wpList_append_row _ rfl _ _ _ rfl 3 iI _ 1 8 hu64 hi hzI hsI hyI rfl (by decide) (fo w.heap.size) (1,0) _ _ _ rfl (Row.below (Row.below HR.out (balloc (bsame _) _)) (balloc (bsame _) _)) ⟨wi.heap.size+1,0,none⟩ 1 1 [.int .i64 zp] rfl rfl (news_one (Blk.new_at _ _ _ _ _ (by simp) rfl)) one_i64 hk1.out.1 hk1.out.2 ?_;intro v' w9 hown hst)|fail)
       have hb9:=balloc (balloc hb (.cells #[.int .i64 zp,.int .i64 zs] 117)) (.cells #[.int .i64 zp] 3);have hr9:=fo_grow hb9 hown;have hb10:=fo_below hb9 hst;go_roundw
       case rel=>exact⟨j+1,by simp,by omega,by rw[HTK.out,←List.append_assoc,map_nv_snoc];exact hr9,hb10⟩
       case measure=>simp[intOf];omega
      ·obtain rfl:j=tk.length:=by omega
       rw[List.take_length,←HTS2.out]at hr;have hr2:=hr.ite (n':=P1.length+(txP ts (k+1)).length) (by
        have e:=congrArg List.length HTS2.out;have e2:=HP2.out;simp only[List.length_append,List.length_map]at e;omega) rfl
       have HR2:=Lib.hid hr2;have HB2:=Lib.hid hb;obtain⟨hw1,hw2⟩:=HKL.out;clear hr hr2 hb hj hjn;go_wp2_with fail;go_roundw
       case rel=>exact⟨k+1,by simp,by omega,HR2.out,HB2.out⟩
       case measure=>simp[intOf];omega
    ·obtain rfl:k=ts.length:=by omega
     have hr2:=hr.ite (n':=(ps++q.map (·.1)++txP ts ts.length).length) (by rw[←HPE.out,List.length_append]) (xs':=(ps++q.map (·.1)++txP ts ts.length).map nv) (by rw[HPE.out])
     have HR2:=Lib.hid hr2;have HB2:=Lib.hid hb;clear hr hr2 hb hlt;go_wp2_with fail;go_ret;exact⟨_,rfl,HR2.out.ite (by simp) (by simp),HB2.out⟩
end
section
variable {w w' : World} {o o' : Own} {y : SLay} {S : Stt} {i : Nat}
theorem collect_go (h0:StIn w o y S)(hk:S.ok){v:Value}{ps:List Nat}{ta:Tag}(hv:Row w o ta 3 1 v ps.length (ps.map nv))(hp:ps.length≤100000)(hp1:1≤ps.length)(hm:S.may ps=true) :
  Calls Tryz.prog 18 #[ptr y.sb,v] w fun e w'=>∃ v' o',e=.returned (.tuple #[v',.bool true])∧StIn w' o' y ((S.begun ps).at' (S.begun ps).H.now)∧Row w' o' (y.l.id+1,0) 3 1 v' ps.length ((ps.map (S.begun ps).H.now).map nv)∧Stp (stTag y) o o' w w':=by
 have hph:S.ph=0:=may_ph hm;have hall:ps.all (rootOk S.H)=true:=by unfold Stt.may at hm;simp only[Bool.and_eq_true]at hm;exact hm.2
 have hmv:S.H.moving=false:=hk.ph.2.1 hph;obtain⟨NN,hNN⟩:=fresh_tag o w.heap.size;have hNid:y.l.id<NN:=by have:=hNN _ h0.lt;rw[h0.os]at this;exact this
 have h:=h0;have HL:=Lib.hid (clive_any h.cyIn hk.ph.1);rw[show decide (S.ph≠0)=false from by rw[hph];rfl]at HL
 have HH:=Lib.hid (fun (w2:World)(hb:Below w.heap.size w w2)(p:Nat)=>s_here (h.below hb) hk p)
 obtain⟨vq,vl,vm,jb,_⟩:=h.blk;unfold stCells at jb;obtain⟨pv,cv,rfl⟩:=hv.slc;have HV:=Lib.hid hv;have HJ:=Lib.hid jb;have HAll:=Lib.hid hall;have HP0:=Lib.hid (fun (w2:World)(hb:Below w.heap.size w w2)=>splaces_any (h.below hb) hk (hv.below hb) hp)
 have HST:=Lib.hid (fun (W w3:World)(hW:Below w.heap.size w W)(hb3:Below W.heap.size W w3)(v3:Value)(hr3:Row w3 (fo W.heap.size) (1,0) 3 1 v3 (S.places ps).length ((S.places ps).map nv)) =>
  show Calls Tryz.prog 62 #[ptr y.cy,v3] w3 fun e w4=>∃ v4 o4,e=.returned (.tuple #[v4,.bool true])∧StIn w4 o4 y (S.begun ps)∧Row w4 o4 (NN,1) 3 1 v4 (S.places ps).length (((S.places ps).map (S.begun ps).H.now).map nv)∧Stp (stTag y) o o4 w w4 from by
   have hS3:StIn w3 (ext o W.heap.size (NN,0)) y S:=((h.below hW).retag fun b hb=>ext_lt hb).below hb3
   have hpl:=places_len hk ps;have hn2:=hk.nx2;refine (cstart_is hS3.hp hk.H hmv (by have:=hS3.cy;rw[hph]at this;exact this) hS3.oy (hr3.out o (NN,0)) (by omega) (NN,1) (fun e=>by have:=e.1;simp only at this;omega) (fun e=>by have:=e.1;simp only at this;omega) (by simp)).mono ?_
   rintro e w4 ⟨v4,o4,rfl,hH4,hc4,hr4,hs4⟩
   have s3:Stp (fun _=>False) o (ext o W.heap.size (NN,0)) w w3:=(Stp.of_below (btrans hW hb3)).ext _ _ hW.size
   have hS4:StIn w4 o4 y { S with H:=(S.H.flip.movedL (S.places ps)).1,ph:=1 }:=hS3.cyc hH4 hc4 hs4 fun j hj e=>by
    rcases e with e|e
    ·have:=e.2;simp only at this;omega
    ·have:=congrArg Prod.fst e;simp only at this;omega
   refine⟨v4,o4,rfl,hS4,?_,((s3.mono fun _ h=>h.elim).trans hs4).shrink fun b hb e=>?_⟩
   ·have e:(S.H.flip.movedL (S.places ps)).2=(S.places ps).map (S.begun ps).H.now:=movedL_now (S.places ps) S.H.flip
    rw[←e];exact hr4
   ·rcases e with e|e
    ·exact e.1
    ·exfalso;have:=hNN b hb;rw[e]at this;exact Nat.lt_irrefl _ this)
 obtain⟨n,hn⟩:∃ n,n=ps.length:=⟨_,rfl⟩;rw[←hn]at HV HP0;have HN:=Lib.hid hn;have HK:=Lib.hid hk;have HOK:=Lib.hid (Stt.ok_begun hk hph ps);have HNid:=Lib.hid hNid;obtain⟨H,hHe⟩:∃ H,H=S.H:=⟨_,rfl⟩;rw[←hHe]at HH HAll;have c':=jb.cell;have hn1:n≤100000:=by omega
 have hn2:1≤n:=by omega
 rw[←hn];generalize S.next=N at *;generalize S.holder=N1 at *;generalize S.version=N2 at *;clear h h0 hk hph hv hp hp1 hm hall hmv hNN jb hHe hn hNid;go_enter Tryz.func18,Tryz.ntmps18;go_wp2_with fail;refine HL.out.mono ?_
 rintro e w1 ⟨rfl,rfl⟩
 go_wp2_with fail;clear c';go_loopw [25] (fun ix wr=>∃ k:Nat,ix=.int .i64 k∧k≤n∧Below w.heap.size w wr) (fun ix _=>n-(intOf ix).toNat)
 case atStart=>exact⟨0,rfl,Nat.zero_le _,bsame w⟩
 case round =>
  obtain⟨k,rfl,hkn,hb⟩:=hrel;obtain⟨wo,rfl⟩:∃ wo:World,wo=wr:=⟨_,rfl⟩;have jo:=HJ.out.below hb HJ.out.lt;have c':=jo.cell;by_cases hlt:k<n
  ·have hkI:(k:Int)<(n:Int):=by omega
   obtain⟨x,hx⟩:∃ x,ps[k]?=some x:=⟨_,List.getElem?_eq_getElem (by rw[←HN.out];exact hlt)⟩
   obtain⟨g,cap,e,hcell⟩:∃ g cap,Value.slice pv n cv=.slice (some ⟨g,0,none⟩) n cap∧wo.cell? ⟨g,k,none⟩=some (.int .i64 x):=by
    rcases (HV.out.below hb).form with ⟨_,h0⟩|⟨g,cap,e,_⟩
    ·omega
    ·injection e with e1 _ e3
     subst e1 e3;exact⟨g,cv,rfl,(HV.out.below hb).cells k _ (by rw[List.getElem?_map,hx];rfl)⟩
   injection e with e1 _ e3;subst e1 e3;have hro:=List.all_eq_true.1 HAll.out x (List.mem_of_getElem? hx);have HC:=Lib.hid (HH.out wo hb x);obtain⟨hw1,hw2⟩:=wrap_nat k (by omega)
   by_cases hx0:x=0
   ·subst hx0
    have hxb:(((0:Nat):Int) != 0)=false:=rfl;clear hx hro jo;go_wp2_with fail;go_roundw
    case rel=>exact⟨k+1,by simp,by omega,hb⟩
    case measure=>simp[intOf];omega
   ·have hxb:((x:Int) != 0)=true:=by rw[bne_iff_ne];omega
    have hs:(lk H.cur x).isSome=true:=by unfold rootOk at hro;rw[decide_eq_false hx0,Bool.false_or]at hro;exact hro
    rw[hs]at HC;clear hx hro hs hx0 jo;go_wp2_with fail;refine HC.out.mono ?_
    rintro e w3 ⟨rfl,hb3⟩
    go_wp2_with fail;go_roundw
    case rel=>exact⟨k+1,by simp,by omega,btrans hb hb3⟩
    case measure=>simp[intOf];omega
  ·obtain rfl:k=n:=by omega
   have HB:=Lib.hid hb;have HPl:=Lib.hid (HP0.out wo.drew (bdrew hb));have cb:wo.cell? ⟨y.sb,1,none⟩=some (ptr y.cy):=jo.cell 1;clear hb hlt c' hkn;go_upto_region 9 with fail
   go_region_held3 (fun w'=>w'.cell? ⟨y.sb,1,none⟩=some (ptr y.cy)) (first|with_reducible assumption|go_keep) (first
    | (go_at_call 51;refine HPl.out.mono ?_;rintro e w3 ⟨v3,rfl,hr3,hb3⟩;have cb3:=((drewB jo).below hb3 jo.lt).cell 1)
    | (go_at_call 62;refine (HST.out _ _ (bdrew HB.out) hb3 _ hr3).mono ?_;rintro e w4 ⟨v4,o4,rfl,hS4,hr4,hs4⟩;have cb4:w4.cell? ⟨y.sb,1,none⟩=some (ptr y.cy):=by { obtain⟨_,_,_,j4,_⟩:=hS4.blk;exact j4.cell 1 })
    | fail)
   obtain⟨ms,hms⟩:∃ ms,ms=(S.places ps).map (S.begun ps).H.now:=⟨_,rfl⟩;obtain⟨L,hL⟩:∃ L,L=(S.places ps).length:=⟨_,rfl⟩;have hLm:ms.length=L:=by rw[hms,hL,List.length_map]
   have hkL:k≤L:=by rw[hL,HN.out];unfold Stt.places;simp only[List.length_append];omega
   rw[←hms,←hL]at hr4
   obtain⟨g,cap,rfl,hcap⟩:∃ g cap,v4=.slice (some ⟨g,0,none⟩) L cap∧L≤cap:=by
    rcases hr4.shape with ⟨_,h0⟩|⟨g,cap,e,hc,_⟩
    ·omega
    ·exact⟨g,cap,e,hc⟩
   have hcapm:=hr4.shape;have P4:PlS w4 g 0 ms cap:=by rw[←hLm]at hr4;exact hr4.plS
   have hgt:o4 g=(NN,1):=hr4.otag;have HCl:=Lib.hid (clone_int (hr4.takeN hkL) (by omega) (fun u hu=>nv_one ms u (List.mem_of_mem_take hu)) (y.l.id+1,0))
   have HS4:=Lib.hid hS4;have HST4:=Lib.hid hs4;have HMS:=Lib.hid hms;have HLL:=Lib.hid hL;have HLM:=Lib.hid hLm;have HKL:=Lib.hid hkL;have hcL:(L:Int)≤(cap:Int):=by omega
   have hkI:(k:Int)≤(L:Int):=by omega
   have hkc:(k:Int)≤(cap:Int):=by omega
   have hk0:(0:Int)≤(k:Int):=by omega
   have hnx:=HOK.out.qu;have hnx2:=HOK.out.nx2;have hq40:(S.begun ps).queue.length≤1099511627776:=by omega
   obtain⟨q1,hq1,P5⟩:=P4.drop (n:=k) (by rw[hLm];exact hkL)
   simp only[Nat.zero_add]at hq1
   have hlq:(S.begun ps).queue.length≤(ms.drop k).length:=by
    rw[List.length_drop,hLm,hL,HN.out];unfold Stt.places;simp only[List.length_append,List.length_map];have:(S.begun ps).queue=S.queue:=rfl;rw[this];omega
   have hdl:(ms.drop k).length=L-k:=by rw[List.length_drop,hLm]
   obtain⟨_,_,_,j4,_⟩:=hS4.blk;unfold stCells at j4;have c4:=j4.cell;have HPQ:=Lib.hid (fun (w5:World)(hb5:Below w4.heap.size w4 w5)=>sqplace_any ((hS4.retag (o':=ext o4 w4.heap.size (y.l.id+1,0)) fun b hb=>ext_lt hb).below hb5) (P5.below hb5) (by rw[ext_lt P5.lt,hgt];have:=HNid.out;simp only;omega) hlq hq40)
   have HGT:=Lib.hid (show (ext o4 w4.heap.size (y.l.id+1,0)) g=(NN,1) from by rw[ext_lt P5.lt];exact hgt)
   rw[hdl]at HPQ;clear hr4 hms hL hLm hkL hS4 hs4 hcapm jo cb cb3 cb4 hb3 hr3 hnx hnx2 hq40 hlq hdl P4;go_wp2_with fail;refine HCl.out.mono ?_
   rintro e w5 ⟨v5,rfl,hr5,hb5⟩
   obtain⟨p5,c5,rfl⟩:=hr5.slc;obtain⟨q2,pt5,ct5,vl5,vm5,j5,P6,hC5⟩:=HPQ.out w5 hb5;have HC5:=Lib.hid hC5;have HJ5:=Lib.hid j5;unfold stCells at j5;have cc5:=j5.cell;clear c4 j4 hC5 HPQ;go_wp2_with fail;refine HC5.out.mono ?_
   rintro e w6 ⟨rfl,hS6,hs6⟩
   obtain⟨S1,hS1⟩:∃ S1,S1=S.begun ps:=⟨_,rfl⟩;obtain⟨f,hf⟩:∃ f,f=(S.begun ps).H.now:=⟨_,rfl⟩
   have hdrop:ms.drop k=(S1.queue.map (·.1)).map f++(txR S1.txs 0).map f:=by
    have e:S.places ps=ps++(S1.queue.map (·.1)++txR S1.txs 0):=by rw[hS1];unfold Stt.places txR;rw[List.drop_zero,List.append_assoc];rfl
    rw[HMS.out,←hf,e,List.map_append,List.drop_left' (by rw[List.length_map];exact HN.out.symm),List.map_append]
   have hput:putH S1.queue (ms.drop k)=at1 f S1.queue:=by rw[hdrop,putH_map]
   have hdrop2:(ms.drop k).drop S1.queue.length=(txR S1.txs 0).map f:=by rw[hdrop,List.drop_left' (by simp)]
   have hlen0:((txR S1.txs 0).map f).length=L-k-S1.queue.length:=by rw[←hdrop2,List.length_drop,List.length_drop,HLM.out]
   rw[←hS1]at hS6 P6 HOK;rw[←hS1];rw[hput,←upto_zero]at hS6;rw[hdrop2]at P6;have hgn:¬(fun t=>t=(y.l.id,13)) ((ext o4 w4.heap.size (y.l.id+1,0)) g):=by rw[HGT.out];simp
   have P7:=P6.stp hs6 hgn;have hr6:=hr5.stp hs6 (by simp)
   have hs7:Stp (stTag y) o (ext o4 w4.heap.size (y.l.id+1,0)) w w6:=(HST4.out.trans ((Stp.of_below hb5).ext _ _ (Nat.le_refl _))).trans (hs6.mono (by rintro _ rfl;exact rfl))
   obtain⟨gt,ct,hvt,hct,hctn⟩:=hS6.thrCells (by rw[upto_len];exact HOK.out.t1)
   rw[upto_len]at hvt hct hctn
   have hgtl:gt<w6.heap.size:=by
    have h1:=hS6.thr;rw[hvt]at h1;exact h1.blt
   obtain⟨_,_,_,j6,_⟩:=hS6.blk;unfold stCells at j6;rw[hvt]at j6;have c6:=j6.cell;have h8:=HOK.out.t8;have HS1:=Lib.hid hS1;have HF:=Lib.hid hf;have HR6:=Lib.hid hr6;have HMM:Hid (ms=(S.places ps).map (S.begun ps).H.now):=HMS.out
   have HTH:=Lib.hid (fun (w7:World)(o7:Own)(q:Nat)(h7:StIn w7 o7 y (S1.upto f q))(t:Nat)(ht:t<S1.txs.length)=>show w7.cell? ⟨gt,t,none⟩=some (ptr (y.xb t)) from by
    obtain⟨g',c',e',h',_⟩:=h7.thrCell t (by rw[upto_len];exact ht)
    rw[hvt]at e';injection e' with e1;injection e1 with e1;injection e1 with e1;rw[e1];exact h')
   obtain⟨qn,hqn⟩:∃ qn,qn=S1.queue.length:=⟨_,rfl⟩;rw[←hqn]at hlen0 P7 ⊢;generalize hN8:S1.txs.length=N8 at *;have HN8:=Lib.hid hN8;have HL0:=Lib.hid hlen0;have HX:=Lib.hid (And.intro hS6 (And.intro P7 hs7));clear hS6 P6 P7 hs6 hs7 hr5 hr6 hb5 HC5 HJ5 j5 cc5 hdrop hput hdrop2 hS1 hf hgn hct hqn hN8 hlen0 HLL;clear P5 hq1;go_wp2_with fail;clear c6 j6;go_loopw [8,72] (fun vv ix wr=>∃ (j:Nat)(oo:Own)(off C:Nat)(R:List Nat),ix=.int .i64 j∧j≤N8∧vv=.slice (some ⟨g,off,none⟩) R.length C∧R=(txR S1.txs j).map f∧PlS wr g off R C∧StIn wr oo y (S1.upto f j)∧oo g=(NN,1)∧Row wr oo (y.l.id+1,0) 3 1 (.slice p5 k c5) k ((ms.map nv).take k)∧Stp (stTag y) o oo w wr) (fun _ ix _=>N8-(intOf ix).toNat)
   case atStart=>exact⟨0,_,q2,_,_,rfl,Nat.zero_le _,by rw[HL0.out],rfl,HX.out.2.1,HX.out.1,HGT.out,HR6.out,HX.out.2.2⟩
   case round =>
    clear HX HR6 HGT;obtain⟨j,oo,off,C,R,rfl,hjn,rfl,hR,hP,hS,hgo,hrw,hst⟩:=hrel;obtain⟨wi,rfl⟩:∃ wi:World,wi=wr:=⟨_,rfl⟩;by_cases hj:j<N8
    ·have hjI:(j:Int)<(N8:Int):=by omega
     have hj':j<S1.txs.length:=by rw[HN8.out];exact hj
     have hju:j<(S1.upto f j).txs.length:=by rw[upto_len];exact hj'
     have ct0:=HTH.out wi oo j hS j hj;have hfit:(S1.t j).log.fit:=HOK.out.lgt hj';have hto:=HOK.out;have htx:=hS.txs j _ (Stt.t_get hju);rw[upto_t S1 f hj']at htx;have hut:=upto_t S1 f hj';obtain⟨vr,vk,vh,vu,hl⟩:=htx.log;have HRo:=Lib.hid (roots_log hl hfit);obtain⟨vt,jx,_⟩:=htx.blk;have hRs:R=(S1.t j).log.roots.map f++(((S1.t j).took.map (·.1)).map f++(txR S1.txs (j+1)).map f):=by rw[hR,txR_succ hj',List.map_append,List.map_append]
     obtain⟨n1,hn1⟩:∃ n1,n1=(S1.t j).log.roots.length:=⟨_,rfl⟩;obtain⟨n2,hn2⟩:∃ n2,n2=(S1.t j).took.length:=⟨_,rfl⟩;have hRl:R.length=n1+(n2+((txR S1.txs (j+1)).map f).length):=by rw[hRs,hn1,hn2];simp only[List.length_append,List.length_map]
     have htk:R.take n1=(S1.t j).log.roots.map f:=by rw[hRs,hn1,List.take_left' (by simp)]
     have hdr:R.drop n1=((S1.t j).took.map (·.1)).map f++(txR S1.txs (j+1)).map f:=by rw[hRs,hn1,List.drop_left' (by simp)]
     have hdd:(R.drop n1).drop n2=(txR S1.txs (j+1)).map f:=by rw[hdr,hn2,List.drop_left' (by simp)]
     have hle1:n1≤R.length:=by omega
     have hgid:(oo g).1≠y.l.id:=by rw[hgo];have:=HNid.out;simp only;omega
     have PT:=hP.take hle1;obtain⟨q3,hq3,PD⟩:=hP.drop hle1;have htkl:(R.take n1).length=n1:=by rw[List.length_take];omega
     have hqj:(S1.t j).took.length≤1099511627776:=by
      have h1:=tookN_ge _ _ _ (Stt.t_get hj');have h2:=HOK.out.qu;have h3:=HOK.out.nx2;omega
     have HRp:=Lib.hid (fun (w3:World)(hb3:Below wi.heap.size wi w3)=>show Calls Tryz.prog 66 #[ptr (y.lb j),.slice (some ⟨g,off,none⟩) n1 C] w3 fun e w5=>e=.returned (.bool true) ∧
       ∃ q4 pt ct,Blk w5 (y.xb j) #[.int .i64 j,.bool (S1.t j).live,.int .i64 (S1.t j).start,.int .i64 (S1.t j).seen,ptr (y.lb j),.slice pt n2 ct] 107 ∧
       Calls Tryz.prog 64 #[.slice pt n2 ct,.slice (some ⟨g,q3,none⟩) (R.length-n1) (C-n1)] w5.drew fun e w6=>e=.returned (.slice (some ⟨g,q4,none⟩) (R.length-n1-n2) (C-n1-n2)) ∧
        ∃ o6,PlS w6 g q4 ((txR S1.txs (j+1)).map f) (C-n1-n2)∧StIn w6 o6 y (S1.upto f (j+1))∧o6 g=(NN,1)∧Row w6 o6 (y.l.id+1,0) 3 1 (.slice p5 k c5) k ((ms.map nv).take k)∧Stp (stTag y) o o6 w w6 from by
      have hr1:=sreplace_any (hS.below hb3) (by rw[hut];exact hfit) hju (PT.below hb3) hgid (by rw[hut,htkl,hn1])
      rw[htkl]at hr1;refine hr1.mono ?_
      rintro e w5 ⟨rfl,o5,hS5,hs5⟩
      rw[hut]at hS5;replace hS5:=hS5.below (bdrew (bsame w5));have hs5':Stp (stTag y) oo o5 wi w5.drew:=((Stp.of_below hb3).trans (hs5.mono fun _ h=>h.1)).drew
      have hg5:o5 g=(NN,1):=(hs5'.tags _ hP.lt).trans hgo;have PD5:=PD.stp hs5' hgid;have h5t:((S1.upto f j).tx j ((S1.t j).putL (R.take n1))).t j=(S1.t j).putL (R.take n1):=Stt.tx_t hju _;have h5l:j<((S1.upto f j).tx j ((S1.t j).putL (R.take n1))).txs.length:=by rw[Stt.tx_len];exact hju
      have e2:(((S1.upto f j).tx j ((S1.t j).putL (R.take n1))).t j).took.length=n2:=by rw[h5t,hn2];rfl
      have hdl1:(R.drop n1).length=R.length-n1:=by rw[List.length_drop]
      obtain⟨q4,pt,ct,j5,P6,hC⟩:=splace_any hS5 h5l PD5 (by rw[hg5];have:=HNid.out;simp only;omega) (by rw[e2,hdl1];omega) (by rw[e2,hn2];exact hqj)
      rw[e2]at j5 P6 hC;rw[hdl1]at hC;rw[h5t]at j5 hC;refine⟨rfl,q4,pt,ct,j5,hC.mono ?_⟩
      rintro e w6 ⟨rfl,hS6,hs6⟩
      have hs6':Stp (stTag y) o5 o5 w5.drew w6:=hs6.mono (by rintro _ rfl;exact rfl)
      rw[hdd]at P6
      have e3:(((S1.upto f j).tx j ((S1.t j).putL (R.take n1))).tx j (((S1.t j).putL (R.take n1)).putT (R.drop n1)))=S1.upto f (j+1):=by
       rw[Stt.tx_tx,upto_succ S1 f hj',htk,hdr,at_split]
      rw[e3]at hS6;refine⟨rfl,o5,P6.stp hs6' (by rw[hg5];have:=HNid.out;intro e;have e:NN=y.l.id:=e;omega),hS6,hg5,?_,(hst.trans hs5').trans hs6'⟩
      exact (hrw.stp hs5' (stTag_box y)).stp hs6' (stTag_box y))
     have hn1I:(n1:Int)≤(R.length:Int):=by omega
     have hn1C:(n1:Int)≤(C:Int):=by have:=hP.cap;omega
     have hRC:(R.length:Int)≤(C:Int):=by have:=hP.cap;omega
     have hn10:(0:Int)≤(n1:Int):=by omega
     have hw12:=wrap_nat j (by omega)
     have HL9:=Lib.hid (show ((txR S1.txs (j+1)).map f).length=R.length-n1-n2 from by omega)
     unfold txCells at jx;have HJX:=Lib.hid jx;have cx:=jx.cell;rw[←hn1]at HRo;obtain⟨hw1,hw2⟩:=hw12;generalize R.length=RL at *;clear hfit hto htx hut hl hRs hn1 hn2 hRl htk hdr hdd hle1 hgid PT PD htkl hqj hS hP hgo hrw hst hR hju;go_wp2_with fail;refine HRo.out.mono ?_
     rintro e w3 ⟨v3,rfl,hr3,hb3⟩
     obtain⟨p3,c3,rfl⟩:=hr3.slc;have HRp3:=Lib.hid (HRp.out _ (bdrew hb3));have cx3:=(HJX.out.below hb3 HJX.out.lt).cell;clear hr3 cx HRp HRo ct0;go_upto_region 17 with fail;go_still_tail 7,(by kernel_rfl)
     change wpList _ _ _ _ _ w3.drew;go_wp2_with (first|(go_at_call 66;refine HRp3.out.mono ?_;rintro e w5 ⟨rfl,q4,pt,ct9,j5,hC⟩)|fail)
     have HC9:=Lib.hid hC;have cx5:=j5.cell;clear hC cx3 HRp3;go_upto_region 18 with fail;go_still_tail 7,(by kernel_rfl)
     change wpList _ _ _ _ _ w5.drew;go_wp2_with (first|(go_at_call 64;refine HC9.out.mono ?_;rintro e w6 ⟨rfl,o6,hP6,hS6,hg6,hr6,hs6⟩)|fail)
     have HX6:=Lib.hid (And.intro hP6 (And.intro hS6 (And.intro hg6 (And.intro hr6 hs6))));clear hP6 hS6 hg6 hr6 hs6 HC9 cx5 j5;go_roundw
     case rel=>exact⟨j+1,o6,q4,_,_,by simp,hj,by rw[HL9.out],rfl,HX6.out.1,HX6.out.2.1,HX6.out.2.2.1,HX6.out.2.2.2.1,HX6.out.2.2.2.2⟩
     case measure =>
      clear hw1 hw2 hcL hkI hkc hk0 hn1I hn1C hRC hn10 hn2 h8 hctn hjI hcap;simp[intOf];omega
    ·obtain rfl:j=N8:=by omega
     have hSf:StIn wi oo y ((S.begun ps).at' (S.begun ps).H.now):=by
      rw[←HN8.out,upto_all,HS1.out,HF.out]at hS;exact hS
     have hrf:Row wi oo (y.l.id+1,0) 3 1 (.slice p5 k c5) k ((ps.map (S.begun ps).H.now).map nv):=by
      have e:(ms.map nv).take k=(ps.map (S.begun ps).H.now).map nv:=by
       rw[HMM.out];unfold Stt.places;rw[List.map_append,List.map_append,List.map_append,List.map_append,List.append_assoc,List.take_left' (by rw[List.length_map,List.length_map];exact HN.out.symm)]
      rw[←e];exact hrw
     have HX7:=Lib.hid (And.intro hSf (And.intro hrf hst));clear hS hP hgo hrw hst hR hSf hrf;go_wp2_with fail;go_ret2;exact⟨_,oo,rfl,HX7.out⟩
end
end Go.Proofs.YteehgedabdchcaaGreat
namespace Go.Proofs.YteehgedabdchcaaGreat
open Go.RowKit Hp
section
variable {w w' : World} {o o' : Own} {y : SLay} {S : Stt}
theorem scollect_any (h:StIn w o y S)(hk:S.ok){v:Value}{ps:List Nat}{ta:Tag}(hv:Row w o ta 3 1 v ps.length (ps.map nv))(hp:ps.length≤100000)(hp1:1≤ps.length) :
  Calls Tryz.prog 18 #[ptr y.sb,v] w fun e w'=>∃ v' o',e=.returned (.tuple #[v',.bool (S.collectR ps).2.2])∧StIn w' o' y (S.collectR ps).1∧Row w' o' (y.l.id+1,0) 3 1 v' (S.collectR ps).2.1.length ((S.collectR ps).2.1.map nv)∧Stp (stTag y) o o' w w':=by
 unfold Stt.collectR;by_cases hm:S.may ps=true
 ·rw[if_pos hm]
  simp only[List.length_map];exact collect_go h hk hv hp hp1 hm
 ·rw[if_neg hm]
  have fin:∀ w',Below w.heap.size w w'→∃ v' o',Ending.returned (.tuple #[.slice none 0 0,.bool false])=.returned (.tuple #[v',.bool false])∧StIn w' o' y S∧Row w' o' (y.l.id+1,0) 3 1 v' ([]:List Nat).length (([]:List Nat).map nv)∧Stp (stTag y) o o' w w':=
   fun w' hb=>⟨_,o,rfl,h.below hb,Row.nil _ _ _ _ _,Stp.of_below hb⟩
  by_cases h0:S.ph=0
  ·have hb:ps.all (rootOk S.H)=false:=by
    cases ha:ps.all (rootOk S.H) with
    | false=>rfl
    | true =>
     refine absurd ?_ hm;unfold Stt.may;rw[decide_eq_true h0,Bool.true_and];exact ha
   refine (collect_bad h hk h0 hv hp hb).mono ?_
   rintro e w'⟨rfl,hb⟩
   exact fin w' hb
  ·obtain⟨pa,cp,rfl⟩:=hv.slc
   refine (collect_live h hk h0 pa ps.length cp).mono ?_
   rintro e w'⟨rfl,rfl⟩
   exact fin w (bsame w)
end
end Go.Proofs.YteehgedabdchcaaGreat
namespace Go.Proofs.YteehgedabdchcaaGreat
open Go.RowKit Hp
attribute [local go_sem ↓] Go.wp_at_zero Go.wp_at_succ
namespace Aw14
def s1:Shp:=⟨0,1,false,false⟩
def A0:Stt:=Stt.fresh 60 2 9 9 (bnd 99).toNat
def A1:Stt:=(A0.beginR 0).1
def A2:Stt:=(A1.alloc 0 s1).S
def A3:Stt:=(A2.write 0 1 0 5).S
def A4:Stt:=(A3.commit 0).S
def A5:Stt:=(A4.beginR 0).1
def A6:Stt:=(A5.beginR 1).1
def A7:Stt:=(A6.write 0 1 0 6).S
def A8:Stt:=(A7.read 1 1 0).S
def A9:Stt:=(A8.abortR 0).1
def A10:Stt:=(A9.beginR 1).1
def A11:Stt:=(A10.read 1 1 0).S
end Aw14
theorem c_new (n k r u:Nat)(m:Int)(h1:16≤n)(h2:n≤16384)(k1:1≤k)(k8:k≤8)(hr:r≤200)(hu:u≤200)(o:Own)(id:Nat)(w:World)(hfree:∀ b,b<w.heap.size→(o b).1≠id) :
  Calls Tryz.prog 46 #[.int .i64 n,.int .i64 k,.int .i64 r,.int .i64 u,.int .i64 m] w fun e w'=>∃ y,e=.returned (.tuple #[ptr y.sb,.int .i64 0])∧y.l.id=id∧Left y (Stt.fresh n k r u (bnd m).toNat) o w w':=by
 refine (new_in n k r u m h1 h2 k1 k8 hr hu o id w hfree).mono ?_
 rintro e w'⟨y,o',rfl,hid,hS,hs⟩
 exact⟨y,rfl,hid,o',hS,Stt.fresh_ok h1 h2 k1 k8 hr hu (by unfold bnd;omega),hs.mono fun _ h=>h.elim⟩
theorem new_no (n r u m:Int)(w:World):Calls Tryz.prog 46 #[.int .i64 n,.int .i64 0,.int .i64 r,.int .i64 u,.int .i64 m] w fun e w'=>e=.returned (.tuple #[.pointer none,.int .i64 1])∧w=w':=by
 go_enter Tryz.func46,Tryz.ntmps46;go_wp2_with fail;go_ret2;exact⟨rfl,rfl⟩
theorem awake14_any (w:World):Calls Tryz.prog 13 #[] w fun e w'=>e=.returned (.bool true)∧Below w.heap.size w w':=by
 have hfree:∀ b,b<w.heap.size→((fun _=>(7,0):Own) b).1≠0:=fun b _=>by simp
 have HN:=Lib.hid (c_new 60 2 9 9 99 (by omega) (by omega) (by omega) (by omega) (by omega) (by omega) (fun _=>(7,0)) 0 w hfree)
 have HE:=Lib.hid (fun w=>new_no 60 9 9 99 w)
 clear hfree;go_enter Tryz.func13,Tryz.ntmps13;go_wp2_with fail;refine HN.out.mono ?_
 rintro e w0⟨y,rfl,hid,hL⟩
 have HID:=Lib.hid hid;obtain⟨o0,hS0,hI0,hs0⟩:=show Left y Aw14.A0 (fun _=>(7,0)) w w0 from hL
 clear hL hid;go_wp2_with fail;refine (HE.out _).mono ?_
 rintro e w'⟨rfl,rfl⟩
 go_wp2_with fail;refine (c_begin (i:=0) hS0 hI0 (by decide +kernel)).mono ?_
 rintro e w1⟨he,hL⟩
 rw[show (Aw14.A0.beginR 0).2=0 from by decide +kernel]at he
 subst he;obtain⟨o1,hS1,hI1,hs'⟩:=show Left y Aw14.A1 o0 w0 w1 from hL;have hs1:=hs0.trans hs';clear hL hs' hs0 hS0 hI0;go_wp2_with fail;refine (c_alloc (i:=0) hS1 hI1 (by decide +kernel) Aw14.s1 (by unfold Shp.ok;decide) rfl).mono ?_
 rintro e w2⟨he,hL⟩
 rw[show (Aw14.A1.alloc 0 Aw14.s1).v=1 from by decide +kernel,show (Aw14.A1.alloc 0 Aw14.s1).e=0 from by decide +kernel]at he
 subst he;obtain⟨o2,hS2,hI2,hs'⟩:=show Left y Aw14.A2 o1 w1 w2 from hL;have hs2:=hs1.trans hs';clear hL hs' hs1 hS1 hI1;go_wp2_with fail;refine (c_write (i:=0) hS2 hI2 (by decide +kernel) (p:=1) (plc _ _) 0 5 (by omega)).mono ?_
 rintro e w3⟨he,hL⟩
 rw[show (Aw14.A2.write 0 1 0 5).e=0 from by decide +kernel]at he
 subst he;obtain⟨o3,hS3,hI3,hs'⟩:=show Left y Aw14.A3 o2 w2 w3 from hL;have hs3:=hs2.trans hs';clear hL hs' hs2 hS2 hI2;go_wp2_with fail;refine (c_commit (i:=0) hS3 hI3 (by decide +kernel)).mono ?_
 rintro e w4⟨he,hL⟩
 rw[show (Aw14.A3.commit 0).v=1 from by decide +kernel,show (Aw14.A3.commit 0).e=0 from by decide +kernel]at he
 subst he;obtain⟨o4,hS4,hI4,hs'⟩:=show Left y Aw14.A4 o3 w3 w4 from hL;have hs4:=hs3.trans hs';clear hL hs' hs3 hS3 hI3;go_wp2_with fail;refine (c_begin (i:=0) hS4 hI4 (by decide +kernel)).mono ?_
 rintro e w5⟨he,hL⟩
 rw[show (Aw14.A4.beginR 0).2=0 from by decide +kernel]at he
 subst he;obtain⟨o5,hS5,hI5,hs'⟩:=show Left y Aw14.A5 o4 w4 w5 from hL;have hs5:=hs4.trans hs';clear hL hs' hs4 hS4 hI4;go_wp2_with fail;refine (c_begin (i:=1) hS5 hI5 (by decide +kernel)).mono ?_
 rintro e w6⟨he,hL⟩
 rw[show (Aw14.A5.beginR 1).2=0 from by decide +kernel]at he
 subst he;obtain⟨o6,hS6,hI6,hs'⟩:=show Left y Aw14.A6 o5 w5 w6 from hL;have hs6:=hs5.trans hs';clear hL hs' hs5 hS5 hI5;go_wp2_with fail;refine (c_write (i:=0) hS6 hI6 (by decide +kernel) (p:=1) (plc _ _) 0 6 (by omega)).mono ?_
 rintro e w7⟨he,hL⟩
 rw[show (Aw14.A6.write 0 1 0 6).e=0 from by decide +kernel]at he
 subst he;obtain⟨o7,hS7,hI7,hs'⟩:=show Left y Aw14.A7 o6 w6 w7 from hL;have hs7:=hs6.trans hs';clear hL hs' hs6 hS6 hI6;go_wp2_with fail;refine (c_read (i:=1) hS7 hI7 (by decide +kernel) (p:=1) (plc _ _) 0).mono ?_
 rintro e w8⟨he,hL⟩
 rw[show (Aw14.A7.read 1 1 0).v=0 from by decide +kernel,show (Aw14.A7.read 1 1 0).e=141 from by decide +kernel]at he
 subst he;obtain⟨o8,hS8,hI8,hs'⟩:=show Left y Aw14.A8 o7 w7 w8 from hL;have hs8:=hs7.trans hs';clear hL hs' hs7 hS7 hI7;go_wp2_with fail;refine (c_live (i:=1) hS8 hI8 (by decide +kernel)).mono ?_
 rintro e w'⟨he,rfl⟩
 rw[show (Aw14.A8.t 1).live=false from by decide +kernel]at he
 subst he;go_wp2_with fail;refine (c_abort (i:=0) hS8 hI8 (by decide +kernel)).mono ?_
 rintro e w9⟨he,hL⟩
 rw[show (Aw14.A8.abortR 0).2=0 from by decide +kernel]at he
 subst he;obtain⟨o9,hS9,hI9,hs'⟩:=show Left y Aw14.A9 o8 w8 w9 from hL;have hs9:=hs8.trans hs';clear hL hs' hs8 hS8 hI8;go_wp2_with fail;refine (c_begin (i:=1) hS9 hI9 (by decide +kernel)).mono ?_
 rintro e w10⟨he,hL⟩
 rw[show (Aw14.A9.beginR 1).2=0 from by decide +kernel]at he
 subst he;obtain⟨o10,hS10,hI10,hs'⟩:=show Left y Aw14.A10 o9 w9 w10 from hL;have hs10:=hs9.trans hs';clear hL hs' hs9 hS9 hI9;go_wp2_with fail;refine (c_read (i:=1) hS10 hI10 (by decide +kernel) (p:=1) (plc _ _) 0).mono ?_
 rintro e w11⟨he,hL⟩
 rw[show (Aw14.A10.read 1 1 0).v=5 from by decide +kernel,show (Aw14.A10.read 1 1 0).e=0 from by decide +kernel]at he
 subst he;obtain⟨o11,hS11,hI11,hs'⟩:=show Left y Aw14.A11 o10 w10 w11 from hL;have hs11:=hs10.trans hs';clear hL hs' hs10 hS10 hI10;go_wp2_with fail;go_ret;exact⟨rfl,hs11.below fun b _ h=>by have h:(7:Nat)=y.l.id:=h;rw[HID.out]at h;cases h⟩
end Go.Proofs.YteehgedabdchcaaGreat
