import Derived.Test.YteehgedabdchcaaGreatQam
set_option linter.all false
set_option maxRecDepth 1000000
set_option maxHeartbeats 16000000
namespace Go.Proofs.YteehgedabdchcaaGreat
open Go.RowKit Hp
attribute [local go_sem ↓] Go.wp_at_zero Go.wp_at_succ
section
variable {w w' : World} {o o' : Own} {y : SLay} {S : Stt} {i : Nat}
theorem StIn.took {x:Tx}{z:Nat×Nat}(h:StIn w o y S)(hx:S.txs[i]?=some x){v:Value}(hs:Stp (fun t=>t=(y.l.id,22+8*i)) o o' w w')
  (hr:Row w' o' (y.l.id,22+8*i) 117 2 v (x.took.length+1) (hcells x.took++[.int .i64 z.1,.int .i64 z.2])) :
  StIn (w'.setCell ⟨y.xb i,5,none⟩ v) o' y (S.tx i (x.taking z))∧Stp (txTag y i) o o' w (w'.setCell ⟨y.xb i,5,none⟩ v):=by
 have ht:=h.txs i x hx;obtain⟨vr,vk,vh,vu,hlg⟩:=ht.log;obtain⟨vt,jx,_⟩:=ht.blk;have ob:=ht.ob;have ob7:o' (y.xb i)=(y.l.id,16+8*i):=(hs.tags _ jx.lt).trans ob;have k:Stp (fun t=>t=(y.l.id,16+8*i)) o' o' w' (w'.setCell ⟨y.xb i,5,none⟩ v):=(Stp.refl _ o' w').setCell (by show o' (y.xb i)=_;exact ob7) _
 have hT:Stp (txTag y i) o o' w (w'.setCell ⟨y.xb i,5,none⟩ v):=
  (hs.mono (by rintro _ rfl;exact⟨rfl,by simp<;>omega,by simp<;>omega⟩)).trans (k.mono (by rintro _ rfl;exact⟨rfl,by simp,by simp⟩))
 refine⟨h.tx ⟨⟨v,(jx.stp hs (by rw[ob];simp<;>omega)).set 5 v,?_⟩,⟨vr,vk,vh,vu,(hlg.stp hs fun j hj=>by simp<;>omega).stp k fun j hj=>by simp<;>omega⟩,ob7⟩ hT,hT⟩
 have e:=hr.stp k (by simp<;>omega)
 have e1:(x.taking z).took.length=x.took.length+1:=by simp[Tx.taking]
 have e2:hcells (x.taking z).took=hcells x.took++[.int .i64 z.1,.int .i64 z.2]:=hcells_snoc x.took z;rw[e1,e2];exact e
theorem take1_pop (h0:StIn w o y S) (hk:S.ok) (hi:i<S.txs.length) (hn:S.holder=-1∨S.holder=(i:Int)) (hv:S.version≤(S.t i).start) {z:Nat×Nat} {l:List (Nat×Nat)} (hq:S.queue=z::l) (hz:z.2<(S.t i).seen)
  {b1:Nat} (j1:Blk w b1 #[ptr y.sb] 24) (t1:o b1=(y.l.id+1,0)) :
  Calls Tryz.prog 122 #[ptr (y.xb i),ptr b1] w fun e w'=>e=.returned (.tuple #[.int .i64 z.1,.int .i64 0])∧Lft y (({ S with holder:=(i:Int),queue:=l }:Stt).tx i ((S.t i).taking z)) o w w':=by
 obtain⟨o1,ho1⟩:∃ o1,o1=ext o w.heap.size (y.l.id+1,0):=⟨_,rfl⟩;have h:=h0.retag (o':=o1) fun b hb=>by rw[ho1];exact ext_lt hb
 have hS0:Stp (stTag y) o o1 w w:=by rw[ho1];exact (Stp.refl _ o w).ext _ _ (Nat.le_refl _)
 have u1:o1 b1=(y.l.id+1,0):=by rw[ho1,ext_lt j1.lt];exact t1
 have hbx:∀ b,w.heap.size≤b→o1 b=(y.l.id+1,0):=fun b hb=>by rw[ho1];exact ext_ge hb
 clear ho1 h0 t1;have hx:=Stt.t_get hi;have hlq:l.length≤1099511627776:=by have h1:=hk.qu;have h2:=hk.nx2;rw[hq,List.length_cons]at h1;omega
 have hlt:(S.t i).took.length≤1099511627776:=by
  have h1:=hk.qu;have h2:=hk.nx2;have h3:=tookN_set S.txs i { S.t i with took:=[] } _ hx;simp only[List.length_nil]at h3;omega
 obtain⟨x,hxe⟩:∃ x,x=S.t i:=⟨_,rfl⟩;rw[←hxe]at hx hv hz hlt;have HX:=Lib.hid hx;have HXE:=Lib.hid hxe;have HS:=Lib.hid hS0;have HB:=Lib.hid hbx;have hold:=Lib.hid (fun (W:World) (hb:Below w.heap.size w W)=>h.hold i hb)
 obtain⟨vt,jx,hrt⟩:=(h.txs i _ hx).blk;unfold txCells at jx;have otx:=(h.txs i _ hx).ob;obtain⟨vq,vl,vm,jb,hrw⟩:=h.blk;have hrq:=hrw.q;have rl:=hrw.l;have rm:=hrw.m;rw[hq]at hrq;unfold stCells at jb;have hos:=h.os;have n1:b1≠y.sb:=fun e=>by rw[e,hos]at u1;injection u1 with u1 _;omega
 have nx:y.xb i≠y.sb:=fun e=>by have h1:=otx;rw[e,hos]at h1;injection h1 with _ h1;omega
 have hvI:¬(x.start:Int)<(S.version:Int):=by omega
 have hzI:¬(x.seen:Int)≤(z.2:Int):=by omega
 have c1:=j1.cell;have cx:=jx.cell;rcases hrq.form4 with ⟨_,hh⟩|⟨g,cap,rfl,hcap⟩
 ·simp[hcells]at hh
 have ng:g≠y.sb:=fun e=>by have:=hrq.otag;rw[e,hos]at this;injection this with _ this;omega
 obtain⟨r0,r1⟩:=hrq.at2 0 z rfl;have hlen:S.queue.length=l.length+1:=by rw[hq];rfl
 rw[List.length_cons]at jb hrq;obtain⟨nl,hnl⟩:∃ nl,nl=l.length+1:=⟨_,rfl⟩;have HNL:=Lib.hid hnl;rw[←hnl]at jb hrq;have hq0:((nl:Int)==0)=false:=by rw[beq_eq_false_iff_ne];omega
 have hqp:(0:Int)<(nl:Int):=by omega
 have hqp2:0<nl:=by omega
 have hqp3:¬(nl:Int)≤0:=by omega
 have hqp4:nl≠0:=by omega
 clear hnl r0 r1;obtain⟨hd,hhd⟩:∃ hd,hd=S.holder:=⟨_,rfl⟩;rw[←hhd]at hn jb;have HK:=Lib.hid hk;have HQ:=Lib.hid hq;have HI:=Lib.hid hi;have HLQ:=Lib.hid hlq;have HLT:=Lib.hid hlt;clear h hk hi hx hxe hS0 hbx hv hz hq hlq hlt hhd hcap hrw hlen;have c:=jb.cell;have zb:=jb.free;have sb:=jb.lt
 have hcase:(hd != -1)=false∨(hd != -1)=true∧(hd != (i:Int))=false:=by
  rcases hn with e|e
  ·exact .inl (by rw[e];rfl)
  ·by_cases e1:hd=-1
   ·exact .inl (by rw[e1];rfl)
   ·exact .inr ⟨by rw[bne_iff_ne];exact e1,by rw[e];simp⟩
 clear hn;rcases hcase with hc1|⟨hc1,hc2⟩
 all_goals
  go_enter Tryz.func122,Tryz.ntmps122;go_upto_region 1 with fail;go_quiet (fail);obtain⟨W1,hW1⟩:∃ W:World,W=w.drewN nq:=⟨_,rfl⟩;have hb1:Below w.heap.size w W1:=by rw[hW1];exact bdrewN (bsame w) _
  rw[←hW1];clear hW1;obtain⟨hS2,hs2⟩:=hold.out W1 hb1;have k1:=j1.below hb1 j1.lt;have kx:=jx.below hb1 jx.lt;have kb:=jb.below hb1 jb.lt;have hr1:=hrq.below hb1;clear c1 cx c zb sb;have c1:=k1.cell;have cx:=kx.cell;have c:=kb.cell;have zb:=kb.free;have sb:=kb.lt;go_upto_region 3 with fail;go_region_with (fail)
  all_goals
   obtain⟨W2,hW2⟩:∃ W:World,W=(W1.setCell ⟨y.sb,6,none⟩ (.int .i64 i)).drew:=⟨_,rfl⟩;have hst2:Stp (ownTag y) o1 o1 w W2:=by rw[hW2];exact hs2.drew
   have hS2':=hS2.below (bdrew (bsame (W1.setCell ⟨y.sb,6,none⟩ (.int .i64 i))));rw[←hW2]at hS2';have hb2s:W1.heap.size≤W2.heap.size:=by rw[hW2];simp
   have k61:Stp (fun t=>t=(y.l.id,11)) o1 o1 W1 W2:=by rw[hW2];exact ((Stp.refl _ o1 W1).setCell (by show o1 y.sb=_;exact hos) _).drew
   have mb:Blk W2 y.sb #[ptr y.l.h,ptr y.cy,ptr y.ck,y.vth,.slice (some ⟨g,0,none⟩) nl cap,.int .i64 S.next,.int .i64 i,.int .i64 S.version,vl,vm] 101:=by rw[hW2];exact drewB (kb.set 6 _)
   rw[←hW2];clear hW2;have m1:=k1.stp k61 (by rw[u1];simp)
   have mx:=kx.stp k61 (by rw[otx];simp<;>omega)
   have mq:=hr1.stp k61 (by simp)
   have mt:=(hrt.below hb1).stp k61 (by simp<;>omega)
   have rl2:=(rl.below hb1).stp k61 (by simp)
   have rm2:=(rm.below hb1).stp k61 (by simp)
   clear c1 cx c zb sb k1 kx kb hr1 hs2 hS2 k61;have c1:=m1.cell;have cx:=mx.cell;have c:=mb.cell;have q0:W2.cell? ⟨g,0,none⟩=some (.int .i64 z.1):=(mq.at2 0 z rfl).1;have q1:W2.cell? ⟨g,1,none⟩=some (.int .i64 z.2):=(mq.at2 0 z rfl).2;go_upto_region 4 with fail;go_quiet (fail);obtain⟨W3,hW3⟩:∃ W:World,W=W2.drewN nq:=⟨_,rfl⟩;have hb3:Below W2.heap.size W2 W3:=by rw[hW3];exact bdrewN (bsame W2) _
   rw[←hW3];clear hW3 c1 cx c q0 q1;have hS3:=hS2'.below hb3;have n1':=m1.below hb3 m1.lt;have nx':=mx.below hb3 mx.lt;have nb':=mb.below hb3 mb.lt;have nq':=mq.below hb3;have nt':=mt.below hb3;have rl3:=rl2.below hb3;have rm3:=rm2.below hb3;have hst3:=hst2.trans (Stp.of_below (T:=ownTag y) (o:=o1) hb3);clear hS2' m1 mx mb mq mt hst2;have c1:=n1'.cell;have cx:=nx'.cell;have c:=nb'.cell;have q0:W3.cell? ⟨g,0,none⟩=some (.int .i64 z.1):=(nq'.at2 0 z rfl).1;have q1:W3.cell? ⟨g,1,none⟩=some (.int .i64 z.2):=(nq'.at2 0 z rfl).2;go_upto_region 7 with fail;obtain⟨W4,hW4⟩:∃ W:World,W=W3.alloc (.cells #[.int .i64 z.1,.int .i64 z.2] 117):=⟨_,rfl⟩;have hb4:Below W3.heap.size W3 W4:=by rw[hW4];exact balloc (bsame W3) _
   have jI:Blk W4 W3.heap.size #[.int .i64 z.1,.int .i64 z.2] 117:=by rw[hW4];exact Blk.new W3 _ _
   rw[←hW4];clear hW4 c1 cx c q0 q1;have uI:o1 W3.heap.size=(y.l.id+1,0):=HB.out _ (Nat.le_trans hb1.size (Nat.le_trans hb2s hb3.size));obtain⟨bI,hbI⟩:∃ b,b=W3.heap.size:=⟨_,rfl⟩;rw[←hbI]at jI uI ⊢;clear hbI;have hS4:=hS3.below hb4;have m1:=n1'.below hb4 n1'.lt;have mx:=nx'.below hb4 nx'.lt;have mb:=nb'.below hb4 nb'.lt;have mq:=nq'.below hb4;have mt:=nt'.below hb4;have rl4:=rl3.below hb4;have rm4:=rm3.below hb4;have hst4:=hst3.trans (Stp.of_below (T:=ownTag y) (o:=o1) hb4);clear n1' nx' nb' nq' nt' hS3 hst3;have c1:=m1.cell;have cb:=mb.cell;have mq2:Row W4.drew o1 (y.l.id,13) 117 2 (.slice (some ⟨g,0,none⟩) nl cap) (l.length+1) (hcells (z::l)):=by have:=mq.below (bdrew (bsame W4));rw[HNL.out]at this ⊢;exact this
   have HD:=Lib.hid (qdelete mq2 HLQ.out);have HB1:=Lib.hid (fun (w5:World) (hs:Stp (fun u=>u=(y.l.id,13)) o1 o1 W4.drew w5)=>(drewB m1).stp hs (by rw[u1];simp))
   have HBx:=Lib.hid (fun (w5:World) (hs:Stp (fun u=>u=(y.l.id,13)) o1 o1 W4.drew w5)=>(drewB mx).stp hs (by rw[otx];simp<;>omega))
   have HBI:=Lib.hid (fun (w5:World) (hs:Stp (fun u=>u=(y.l.id,13)) o1 o1 W4.drew w5)=>(drewB jI).stp hs (by rw[uI];simp))
   have HBb:=Lib.hid (fun (w5:World) (hs:Stp (fun u=>u=(y.l.id,13)) o1 o1 W4.drew w5)=>(drewB mb).stp hs (by rw[hos];simp))
   have HBt:=Lib.hid (fun (w5:World) (hs:Stp (fun u=>u=(y.l.id,13)) o1 o1 W4.drew w5)=>(mt.below (bdrew (bsame W4))).stp hs (by simp<;>omega))
   have HS6:=Lib.hid (fun (w5:World) (p5:Option Addr) (cp5:Nat) (hr5:Row w5 o1 (y.l.id,13) 117 2 (.slice p5 l.length cp5) l.length (hcells l)) (hs:Stp (fun u=>u=(y.l.id,13)) o1 o1 W4.drew w5) =>
    show StIn (w5.setCell ⟨y.sb,4,none⟩ (.slice p5 l.length cp5)) o1 y { S with holder:=(i:Int),queue:=l }∧Stp (ownTag y) o1 o1 w (w5.setCell ⟨y.sb,4,none⟩ (.slice p5 l.length cp5))∧Stp (fun t=>t=(y.l.id,11)) o1 o1 w5 (w5.setCell ⟨y.sb,4,none⟩ (.slice p5 l.length cp5)) from by
     have k:Stp (fun t=>t=(y.l.id,11)) o1 o1 w5 (w5.setCell ⟨y.sb,4,none⟩ (.slice p5 l.length cp5)):=(Stp.refl _ o1 w5).setCell (by show o1 y.sb=_;exact hos) _
     have hT:Stp (ownTag y) o1 o1 W4 (w5.setCell ⟨y.sb,4,none⟩ (.slice p5 l.length cp5)):=((Stp.of_below (bdrew (bsame W4))).trans (hs.mono (by rintro _ rfl;exact⟨rfl,.inr (.inl rfl)⟩))).trans (k.mono (by rintro _ rfl;exact⟨rfl,.inl rfl⟩))
     refine⟨hS4.own (S':={ S with holder:=(i:Int),queue:=l }) rfl rfl rfl rfl rfl ((HBb.out _ hs).set 4 _) ⟨hr5.stp k (by simp),((rl4.below (bdrew (bsame W4))).stp hs (by simp)).stp k (by simp),((rm4.below (bdrew (bsame W4))).stp hs (by simp)).stp k (by simp)⟩ hT,hst4.trans hT,k⟩)
   clear mq mq2 rl4 rm4 rl3 rm3 rl2 rm2
   go_region_with (first
    | (go_at_call 123;refine HD.out.mono ?_;rintro e w5 ⟨v5,rfl,hr5,hs5⟩;obtain⟨p5,cp5,rfl⟩:=hr5.slc;have d1:=(HB1.out _ hs5).cell;have db:=(HBb.out _ hs5).cell;have zb:=(HBb.out _ hs5).free;have sb:=(HBb.out _ hs5).lt)
    | fail)
   all_goals
    obtain⟨hS6,hst6,k6⟩:=HS6.out _ _ _ hr5 hs5;have j1':=(HB1.out _ hs5).stp k6 (by rw[u1];simp)
    have jx':=(HBx.out _ hs5).stp k6 (by rw[otx];simp<;>omega)
    have jI':=(HBI.out _ hs5).stp k6 (by rw[uI];simp)
    have jt':=(HBt.out _ hs5).stp k6 (by simp<;>omega)
    obtain⟨W6,hW6⟩:∃ W:World,W=w5.setCell ⟨y.sb,4,none⟩ (.slice p5 l.length cp5):=⟨_,rfl⟩;rw[←hW6]at hS6 hst6 j1' jx' jI' jt' ⊢;clear hW6 k6 hr5 hs5 d1 db zb sb c1 cb;have cx:=jx'.cell;have cI:=jI'.cell;have zx:=jx'.free;have sx:=jx'.lt;go_upto_region 8 with fail;obtain⟨iU,hiU,hsI,hyI,hzI⟩:=info_item;have hu64:=Tryz.underlying99;have hlt:=HLT.out;have hml:x.took.length+1≤maxLen:=by simp only[maxLen];omega
    have hmb:(x.took.length+1)*16≤140737488355328:=by omega
    have hbN:Below W6.heap.size W6 (W6.drew.alloc (.cells #[.int .i64 z.1,.int .i64 z.2] 117)):=balloc (bdrew (bsame W6)) _;have jn:=Blk.new W6.drew #[.int .i64 z.1,.int .i64 z.2] 117;have rn:Row (W6.drew.alloc (.cells #[.int .i64 z.1,.int .i64 z.2] 117)) o1 (y.l.id,22+8*i) 117 2 vt x.took.length (hcells x.took):=jt'.below hbN
    have hnews:∀ (j:Nat) (u:Value),([.int .i64 z.1,.int .i64 z.2]:List Value)[j]?=some u→(W6.drew.alloc (.cells #[.int .i64 z.1,.int .i64 z.2] 117)).cell? ((⟨W6.heap.size,0,none⟩:Addr).add j)=some u:=fun j u hu=>by
     have:=jn.cell j;rw[Addr.add_lit,Nat.zero_add];show World.cell? _ ⟨W6.drew.heap.size,j,none⟩=_;rw[this];simpa using hu
    have hone:∀ u ∈ ([.int .i64 z.1,.int .i64 z.2]:List Value),u.oneCell'=true:=by simp[Value.oneCell']
    have HK7:=Lib.hid (fun (w7:World) (o7:Own) (hs:Stp (fun u=>u=(y.l.id,22+8*i)) o1 o7 (W6.drew.alloc (.cells #[.int .i64 z.1,.int .i64 z.2] 117)) w7) =>
     show Blk w7 (y.xb i) _ _∧Blk w7 bI _ _ from ⟨(jx'.below hbN jx'.lt).stp hs (by rw[otx];simp<;>omega),(jI'.below hbN jI'.lt).stp hs (by rw[uI];simp<;>omega)⟩)
    have HF7:=Lib.hid (fun (w7:World) (o7:Own) (v7:Value) (hr:Row w7 o7 (y.l.id,22+8*i) 117 2 v7 (x.took.length+1) (hcells x.took++[.int .i64 z.1,.int .i64 z.2])) (hs:Stp (fun u=>u=(y.l.id,22+8*i)) o1 o7 (W6.drew.alloc (.cells #[.int .i64 z.1,.int .i64 z.2] 117)) w7) =>
     show Lft y (({ S with holder:=(i:Int),queue:=l }:Stt).tx i (x.taking z)) o w (w7.setCell ⟨y.xb i,5,none⟩ v7) from by
      obtain⟨a,b⟩:=(hS6.below hbN).took (i:=i) (x:=x) (z:=z) HX.out hs hr;exact⟨o7,a,(HS.out.trans (hst6.mono fun _=>stTag_own)).trans ((Stp.of_below hbN).trans (b.mono fun _=>stTag_tx))⟩)
    clear hS6 hst6 jt' j1';go_region_law ((refine step_append_row _ (by rfl) _ _ _ (by rfl) 117 iU _ 2 16 hu64 hiU hzI hsI hyI (by rfl) (by decide) o1 (y.l.id,22+8*i) vt x.took.length (hcells x.took) (by rfl) rn ⟨W6.heap.size,0,none⟩ 1 1 [.int .i64 z.1,.int .i64 z.2] (by rfl) (by rfl) hnews hone hml hmb ?_;intro v' w7 hown hst7;obtain⟨pa,cp,rfl⟩:=hown.slc;obtain⟨jX7,jI7⟩:=HK7.out _ _ hst7;have cX:=jX7.cell;have zX:=jX7.free;have sX:=jX7.lt;have cI7:=jI7.cell))
    all_goals
     go_wp2_with fail;go_ret2;rw[←HXE.out];exact⟨rfl,HF7.out _ _ _ hown hst7⟩
end
end Go.Proofs.YteehgedabdchcaaGreat
