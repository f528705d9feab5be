import Derived.Test.YteehgedabdchcaaGreatKbq
import Derived.Test.YteehgedabdchcaaGreatKbs
set_option linter.all false
set_option maxRecDepth 1000000
set_option maxHeartbeats 16000000
namespace Go.Proofs.YteehgedabdchcaaGreat
open Go.RowKit Hp
attribute [local go_sem ↓] Go.wp_at_zero Go.wp_at_succ
theorem qhn (o:Own):∀ n:Nat,∃ id,20≤id∧∀ b,b<n→(o b).1<id
 | 0=>⟨20,Nat.le_refl _,fun b hb=>by omega⟩
 | n+1=>by
  obtain⟨id,h1,h2⟩:=qhn o n;refine⟨id+(o n).1+1,by omega,fun b hb=>?_⟩
  by_cases h:b<n
  ·have:=h2 b h;omega
  ·rw[show b=n from by omega];omega
def oS (n:Nat):Own:=fun b=>if b<n then (7,0) else (9,0)
structure Two (n0:Nat)(w0:World)(ma mb:MLay)(w:World)(o:Own)(A B:Mc):Prop where
 a:MIn w o ma A
 b:MIn w o mb B
 ak:A.ok
 bk:B.ok
 st:Stp (fun t=>jh ma t∨jh mb t∨t.1=9) (oS n0) o w0 w
 ia:ma.y.l.id=0
 ib:20≤mb.y.l.id
section
variable {n0 : Nat} {w0 w w' : World} {ma mb : MLay} {o o' : Own} {A B A' B' : Mc}
theorem Two.old (h:Two n0 w0 ma mb w o A B)(hn:n0≤w0.heap.size):Below n0 w0 w:=
 ⟨h.st.os,h.st.tape,h.st.output,h.st.size,fun k hk=>h.st.block k (by omega) (by
  unfold oS;rw[if_pos hk];unfold jh;rw[h.ia];have:=h.ib
  rintro (e|e|e)
  ·simp at e
  ·simp at e;omega
  ·simp at e)⟩
theorem Two.own (h:Two n0 w0 ma mb w o A B)(s:Stp (fun t=>t.1=9) o o' w w'):Two n0 w0 ma mb w' o' A B:=
 have i1:=h.ib
 ⟨h.a.stp s (fun _ e=>by rw[h.ia]at e;simp at e<;>omega) (fun _ e=>by rw[h.ia]at e;simp at e<;>omega),h.b.stp s (fun _ e=>by simp at e<;>omega) (fun _ e=>by simp at e<;>omega),h.ak,h.bk,h.st.trans (s.mono fun _ h=>.inr (.inr h)),h.ia,h.ib⟩
theorem Two.below (h:Two n0 w0 ma mb w o A B)(k:Below w.heap.size w w'):Two n0 w0 ma mb w' o A B:=h.own (Stp.of_below k)
theorem Two.ga (h:Two n0 w0 ma mb w o A B)(k:MIn w' o' ma A')(hk:A'.ok)(s:Stp (jh ma) o o' w w'):Two n0 w0 ma mb w' o' A' B:=
 have i1:=h.ib
 ⟨k,h.b.stp s (fun _ e=>by unfold jh at e;rw[h.ia]at e;simp at e<;>omega) (fun _ e=>by unfold jh at e;rw[h.ia]at e;simp at e<;>omega),hk,h.bk,h.st.trans (s.mono fun _ h=>.inl h),h.ia,h.ib⟩
theorem Two.gb (h:Two n0 w0 ma mb w o A B)(k:MIn w' o' mb B')(hk:B'.ok)(s:Stp (jh mb) o o' w w'):Two n0 w0 ma mb w' o' A B':=
 have i1:=h.ib
 ⟨h.a.stp s (fun _ e=>by unfold jh at e;rw[h.ia]at e;simp at e<;>omega) (fun _ e=>by unfold jh at e;rw[h.ia]at e;simp at e<;>omega),k,h.ak,hk,h.st.trans (s.mono fun _ h=>.inr (.inl h)),h.ia,h.ib⟩
theorem Two.stepA (h:Two n0 w0 ma mb w o A B)(t:Int):Calls Tryz.prog 32 #[ptr ma.mb,.int .i64 t] w fun e w'=>e=.returned (.agg #[.int .i64 (A.step t).2.k,.int .i64 (A.step t).2.e,.int .i64 (A.step t).2.v])∧∃ o',Two n0 w0 ma mb w' o' (A.step t).1 B∧Stp (jh ma) o o' w w':=
 (xh h.a h.ak t).mono fun _ _⟨a,o',b,s⟩=>⟨a,o',h.ga b (Mc.ok_step h.ak t) s,s⟩
theorem Two.stepB (h:Two n0 w0 ma mb w o A B)(t:Int):Calls Tryz.prog 32 #[ptr mb.mb,.int .i64 t] w fun e w'=>e=.returned (.agg #[.int .i64 (B.step t).2.k,.int .i64 (B.step t).2.e,.int .i64 (B.step t).2.v])∧∃ o',Two n0 w0 ma mb w' o' A (B.step t).1∧Stp (jh mb) o o' w w':=
 (xh h.b h.bk t).mono fun _ _⟨a,o',b,s⟩=>⟨a,o',h.gb b (Mc.ok_step h.bk t) s,s⟩
theorem qkp {m:MLay}{M:Mc}(h:MIn w o m M)(hk:M.ok):Calls Tryz.prog 36 #[ptr m.mb] w fun e w'=>∃ v',e=.returned v'∧Row w' (ext o w.heap.size (9,6)) (9,6) 69 6 v' M.past.length (qw M.past)∧MIn w' (ext o w.heap.size (9,6)) m M∧Stp (jh m) o (ext o w.heap.size (9,6)) w w':=by
 have he:∀ b,b<w.heap.size→ext o w.heap.size (9,6) b=o b:=fun b hb=>qj hb
 refine (uz (h.retag he) hk.pl).mono ?_
 rintro e w'⟨v',rfl,hr,hM,hs⟩
 have s:Stp (jh m) o (ext o w.heap.size (9,6)) w w':=⟨hs.os,hs.tape,hs.output,hs.size,fun b hb=>he b hb,fun k hk hn=>hs.block k hk fun e=>hn (by rw[he k hk]at e;rw[e];exact .inr rfl)⟩
 exact⟨v',rfl,hr.out o (9,6),hM,s⟩
theorem Two.histA (h:Two n0 w0 ma mb w o A B):Calls Tryz.prog 36 #[ptr ma.mb] w fun e w'=>∃ v',e=.returned v'∧Row w' (ext o w.heap.size (9,6)) (9,6) 69 6 v' A.past.length (qw A.past)∧Two n0 w0 ma mb w' (ext o w.heap.size (9,6)) A B∧Stp (jh ma) o (ext o w.heap.size (9,6)) w w':=
 (qkp h.a h.ak).mono fun _ _⟨v',e,r,k,s⟩=>⟨v',e,r,h.ga k h.ak s,s⟩
theorem Two.histB (h:Two n0 w0 ma mb w o A B):Calls Tryz.prog 36 #[ptr mb.mb] w fun e w'=>∃ v',e=.returned v'∧Row w' (ext o w.heap.size (9,6)) (9,6) 69 6 v' B.past.length (qw B.past)∧Two n0 w0 ma mb w' (ext o w.heap.size (9,6)) A B∧Stp (jh mb) o (ext o w.heap.size (9,6)) w w':=
 (qkp h.b h.bk).mono fun _ _⟨v',e,r,k,s⟩=>⟨v',e,r,h.gb k h.bk s,s⟩
end
theorem two_new (n r u:Nat)(b:Int)(h1:16≤n)(h2:n≤16384)(hr:r≤200)(hu:u≤200){v:Value}{raw:List (List (List Pg.D))}{w0 w:World}(hv:RT w v (mm raw))(n0:Nat){o:Own}(hs0:Stp (fun _=>False) (oS n0) o w0 w){ma:MLay}{A:Mc}(hA:MIn w o ma A)(ak:A.ok)(ia:ma.y.l.id=0) :
  Calls Tryz.prog 29 #[.int .i64 n,.int .i64 r,.int .i64 u,.int .i64 b,v] w fun e w'=>∃ mb o',e=.returned (.tuple #[ptr mb.mb,.int .i64 0])∧Two n0 w0 ma mb w' o' A (Mc.fresh (Stt.fresh n (mm raw).length r u (bnd b).toNat) (mm raw))∧Stp (fun _=>False) o o' w w':=by
 obtain⟨id,hid,hf⟩:=qhn o w.heap.size;refine (tb n r u b h1 h2 hr hu (lc raw) o id w hv fun b hb=>⟨by have:=hf b hb;omega,by have:=hf b hb;omega⟩).mono ?_
 rintro e w'⟨m,o',rfl,hid',hM,hs⟩
 exact⟨m,o',rfl,⟨hA.stp hs (fun _ h=>h) fun _ h=>h,hM,ak,Mc.fresh_ok h1 h2 hr hu (by unfold bnd;omega) (lc raw),(hs0.trans hs).mono fun _ h=>h.elim,ia,by omega⟩,hs⟩
def QD (W:World)(o:Own)(v:Value)(n:Nat):Prop:=n≤6∧∃ xs,Row W o (9,0) 73 5 v n xs
def QB (W:World)(o:Own)(v:Value)(bs:List Nat):Prop:=
 bs.length≤3∧∃ vs:List Value,vs.length=bs.length∧Row W o (9,0) 71 1 v bs.length vs∧∀ (j n:Nat),bs[j]?=some n→∃ u:Value,vs[j]?=some u∧QD W o u n
def QT (W:World)(o:Own)(v:Value)(ths:List (List Nat)):Prop:=
 ths.length≤4∧∃ vs:List Value,vs.length=ths.length∧Row W o (9,0) 67 1 v ths.length vs∧∀ (j:Nat)(bs:List Nat),ths[j]?=some bs→∃ u:Value,vs[j]?=some u∧QB W o u bs
def qat (raw:List (List (List Pg.D))):List (List Nat):=(kf raw).map fun t=>t.map List.length
section
variable {W W' : World} {o o' : Own} {v : Value}
theorem QT.low {ths:List (List Nat)}(h:QT W o v ths)(k:Stp (fun _=>False) o o' W W'):QT W' o' v ths:=by
 obtain⟨h0,vs,h1,h2,h3⟩:=h;refine⟨h0,vs,h1,h2.stp k id,fun j bs hj=>?_⟩
 obtain⟨u,hu,g0,us,g1,g2,g3⟩:=h3 j bs hj;refine⟨u,hu,g0,us,g1,g2.stp k id,fun i n hi=>?_⟩
 obtain⟨x,hx,q0,xs,q1⟩:=g3 i n hi;exact⟨x,hx,q0,xs,q1.stp k id⟩
theorem Row.own9 {w:World}{oP:Own}{n0:Nat}{e:TypeId}{size n:Nat}{v:Value}{xs:List Value}(h:Row W oP (1,0) e size v n xs)(hk:Wk w W oP)(hn:n0≤w.heap.size):Row W (oS n0) (9,0) e size v n xs:=
 ⟨h.own,fun b hb=>by
  have h1:=h.tag b hb;unfold oS;rw[if_neg fun hl=>?_]
  have:=hk.z b (by omega)
  rw[this]at h1;simp at h1⟩
theorem q_of {w:World}{oP:Own}{n0:Nat}{raw:List (List (List Pg.D))}(h:FT (1,0) W oP v (kf raw))(hk:Wk w W oP)(hn:n0≤w.heap.size):QT W (oS n0) v (qat raw):=by
 obtain⟨h0,us,h1,h2,h3⟩:=h;have hl:(qat raw).length=(kf raw).length:=by unfold qat;rw[List.length_map]
 refine⟨by omega,us,by rw[hl];exact h1,by rw[hl];exact h2.own9 hk hn,fun j bs hj=>?_⟩
 unfold qat at hj;rw[List.getElem?_map]at hj;obtain⟨t,ht,rfl⟩:=Option.map_eq_some_iff.1 hj;obtain⟨u,hu,k0,us',k1,k2,k3⟩:=h3 j t ht;have hvl:(t.map List.length).length=t.length:=List.length_map _;refine⟨u,hu,by omega,us',by rw[hvl];exact k1,by rw[hvl];exact k2.own9 hk hn,fun i n hi=>?_⟩
 rw[List.getElem?_map]at hi;obtain⟨l0,hl0,rfl⟩:=Option.map_eq_some_iff.1 hi;obtain⟨u',hu',d0,d1⟩:=k3 i l0 hl0;exact⟨u',hu',d0,_,d1.own9 hk hn⟩
def IsD (W:World)(g:Nat):Prop:=∃ cs,Blk W g cs 73
theorem IsD.set {g:Nat}(h:IsD W g)(i:Nat)(u:Value):IsD (W.setCell ⟨g,i,none⟩ u) g:=let ⟨_,hb⟩:=h;⟨_,hb.set i u⟩
theorem Row.set_ty {t:Tag}{e:TypeId}{size n:Nat}{xs:List Value}(h:Row W o t e size v n xs){g:Nat}(hg:IsD W g)(he:e≠73)(i:Nat)(u:Value):Row (W.setCell ⟨g,i,none⟩ u) o t e size v n xs:=by
 refine⟨ownsRow_setCell_other h.own (fun hb=>?_) u,h.tag⟩
 obtain⟨cs,hc⟩:=hg;rcases h.own.2 with ⟨rfl,_⟩|⟨g',cap,cur,rfl,_,hh,_⟩
 ·simp[Value.ownBlock]at hb
 ·simp[Value.ownBlock]at hb
  subst hb;unfold Blk at hc;rw[hc]at hh;injection hh with hh;injection hh with _ hh _;exact he hh.symm
theorem QD.set {n:Nat}(h:QD W o v n){g:Nat}(i:Nat)(u:Value):QD (W.setCell ⟨g,i,none⟩ u) o v n:=by
 obtain⟨h0,xs,hr⟩:=h;refine⟨h0,?_⟩;by_cases hb:v.ownBlock=some g
 ·rcases hr.own.2 with ⟨rfl,_⟩|⟨g',cap,cur,rfl,_⟩
  ·simp[Value.ownBlock]at hb
  ·simp[Value.ownBlock]at hb
   subst hb;exact⟨_,hr.put2 i u⟩
 ·exact⟨xs,ownsRow_setCell_other hr.own hb u,hr.tag⟩
theorem QT.set {ths:List (List Nat)}(h:QT W o v ths){g:Nat}(hg:IsD W g)(i:Nat)(u:Value):QT (W.setCell ⟨g,i,none⟩ u) o v ths:=by
 obtain⟨h0,vs,h1,h2,h3⟩:=h;refine⟨h0,vs,h1,h2.set_ty hg (by decide) i u,fun j bs hj=>?_⟩
 obtain⟨u1,hu,g0,us,g1,g2,g3⟩:=h3 j bs hj;refine⟨u1,hu,g0,us,g1,g2.set_ty hg (by decide) i u,fun k n hk=>?_⟩
 obtain⟨x,hx,q⟩:=g3 k n hk;exact⟨x,hx,q.set i u⟩
theorem QT.at {ths:List (List Nat)}{pq:Option Addr}{cq:Nat}(h:QT W o (.slice pq ths.length cq) ths){i:Nat}{bs:List Nat}(hi:ths[i]?=some bs) :
  ∃ g0 p1 c1,pq=some ⟨g0,0,none⟩∧ths.length≤cq∧W.cell? ⟨g0,i,none⟩=some (.slice p1 bs.length c1)∧QB W o (.slice p1 bs.length c1) bs:=by
 obtain⟨h0,vs,h1,h2,h3⟩:=h;obtain⟨u,hu,hq⟩:=h3 i bs hi;have hl:=(List.getElem?_eq_some_iff.1 hi).1;obtain⟨_,us,_,hr,_⟩:=id hq;obtain⟨p1,c1,rfl⟩:=hr.slc;rcases h2.form with ⟨_,e⟩|⟨g,cap,e,hc,_⟩
 ·omega
 ·injection e with e1 _ e3
  subst e1 e3;exact⟨g,p1,c1,rfl,hc,h2.cells i _ hu,hq⟩
theorem QB.at {bs:List Nat}{pq:Option Addr}{cq:Nat}(h:QB W o (.slice pq bs.length cq) bs){i n:Nat}(hi:bs[i]?=some n) :
  ∃ g0 p1 c1,pq=some ⟨g0,0,none⟩∧bs.length≤cq∧W.cell? ⟨g0,i,none⟩=some (.slice p1 n c1)∧QD W o (.slice p1 n c1) n:=by
 obtain⟨h0,vs,h1,h2,h3⟩:=h;obtain⟨u,hu,hq⟩:=h3 i n hi;have hl:=(List.getElem?_eq_some_iff.1 hi).1;obtain⟨_,xs,hr⟩:=id hq;obtain⟨p1,c1,rfl⟩:=hr.slc;rcases h2.form with ⟨_,e⟩|⟨g,cap,e,hc,_⟩
 ·omega
 ·injection e with e1 _ e3
  subst e1 e3;exact⟨g,p1,c1,rfl,hc,h2.cells i _ hu,hq⟩
theorem QD.at {n:Nat}{pq:Option Addr}{cq:Nat}(h:QD W o (.slice pq n cq) n){k:Nat}(hk:k<n) :
  ∃ g,pq=some ⟨g,0,none⟩∧n≤cq∧IsD W g∧o g=(9,0)∧g<W.heap.size∧(∀ j,W.frozen? ⟨g,j,none⟩=false)∧∀ r,r<5→∃ x,W.cell? ⟨g,k*5+r,none⟩=some x:=by
 obtain⟨h0,xs,hr⟩:=h;rcases hr.form4 with ⟨_,e⟩|⟨g,cap,e,hc⟩
 ·have:=hr.len;rw[e]at this;simp at this;omega
 ·injection e with e1 _ e3
  subst e1 e3;refine⟨g,rfl,hc,?_,hr.otag,hr.blt,fun j=>hr.free j,fun r hr5=>?_⟩
  ·rcases hr.own.2 with ⟨e,_⟩|⟨g',cap',cur,e,_,hh,_⟩
   ·cases e
   ·injection e with e1
    injection e1 with e1;injection e1 with e1;subst e1;exact⟨cur,hh⟩
  ·have hlen:=hr.len
   have hlt:k*5+r<xs.length:=by omega
   have:=hr.own.cells (g:=g) rfl (k*5+r) _ (List.getElem?_eq_getElem hlt);rw[addr_add]at this;exact⟨_,this⟩
end
theorem below_tr {n:Nat}{a b c:World}(h:Below n a b)(k:Below n b c):Below n a c:=⟨k.os.trans h.os,k.tape.trans h.tape,k.output.trans h.output,Nat.le_trans h.size k.size,fun x hx=>(k.block x hx).trans (h.block x hx)⟩
structure OwnIn (n0:Nat)(w2:World)(ma mb:MLay)(M0:Mc)(o:Own)(vq:Value)(ths:List (List Nat))(w:World):Prop where
 two:Two n0 w2 ma mb w o M0 M0
 q:QT w o vq ths
theorem OwnIn.set {n0:Nat}{w2:World}{ma mb:MLay}{M0:Mc}{o:Own}{vq:Value}{ths:List (List Nat)}{w:World}(h:OwnIn n0 w2 ma mb M0 o vq ths w){g:Nat}(hg:IsD w g)(ho:o g=(9,0))(i:Nat)(u:Value) :
  OwnIn n0 w2 ma mb M0 o vq ths (w.setCell ⟨g,i,none⟩ u):=⟨h.two.own ((Stp.refl _ o w).setCell (by show (o g).1=9;rw[ho]) u),h.q.set hg i u⟩
theorem qby (v:Value)(raw:List (List (List Pg.D)))(rd:Int)(w:World)(h:ThreadsAt w v raw)(hI:TI raw)(hz:Z64 rd) :
  Calls Tryz.prog 8 #[v,.int .i64 rd] w fun e w'=>e=.returned (.bool true)∧Below w.heap.size w w':=by
 have HAw:=Lib.hid gr;have HPr:=Lib.hid (fun (w':World)(hb:Below w.heap.size w w')=>me v raw w' (h.below hb) hI)
 have HPk:=Lib.hid (fun (W:World)=>dw rd hz 31 (by omega) (by omega) W)
 obtain⟨R,hR⟩:∃ R,R=pk rd 31:=⟨_,rfl⟩;have hR31:R<31:=by rw[hR];exact pk_lt rd (by omega)
 rw[←hR]at HPk;obtain⟨p1,p4⟩:=dc raw;obtain⟨np,hnp⟩:∃ np,np=(kf raw).length:=⟨_,rfl⟩;rw[←hnp]at p1 p4;have HNP:=Lib.hid hnp;obtain⟨n0,hn0⟩:∃ n0,n0=w.heap.size:=⟨_,rfl⟩;rw[←hn0];have HN0:=Lib.hid hn0;have hpl:(qat raw).length=np:=by unfold qat;rw[List.length_map,hnp]
 clear h hI hz hnp hR hn0;go_enter Tryz.func8,Tryz.ntmps8;go_wp2_with (first
  | (go_at_call 26;refine (HAw.out _).mono ?_;rintro e w1 ⟨rfl,hb1⟩;have HB1:=Lib.hid hb1;clear hb1 HAw)
  | (go_at_call 28;refine (HPr.out _ HB1.out).mono ?_;rintro e w2 ⟨v2,oP,rfl,hF,hK⟩;obtain⟨q0,us,q1,q2,q3⟩:=hF;obtain⟨pv,cv,rfl⟩:=q2.slc;have HF:=Lib.hid (show FT (1,0) w2 oP (.slice pv (kf raw).length cv) (kf raw) from ⟨q0,us,q1,q2,q3⟩);have HB2:=Lib.hid (qd HB1.out hK.b);rw[←HNP.out]at HF ⊢;clear q0 q1 q2 q3 hK HB1)
  | (go_at_call 28;refine (HPr.out _ HB2.out).mono ?_;rintro e w3 ⟨v3,oQ,rfl,hF3,hK3⟩;obtain⟨q0,us3,q1,q2,q3⟩:=hF3;obtain⟨pq,cq,rfl⟩:=q2.slc;have hF3':FT (1,0) w3 oQ (.slice pq (kf raw).length cq) (kf raw):=⟨q0,us3,q1,q2,q3⟩;have HQ:=Lib.hid (q_of (n0:=n0) hF3' hK3 (by rw[HN0.out];exact HB2.out.size));have HF3:=Lib.hid hF3';have HB3:=Lib.hid (qd HB2.out hK3.b);have HFa:=Lib.hid (rt_of (HF.out) |>.below hK3.b);rw[←HNP.out]at HF3 HQ ⊢;clear q0 q1 q2 q3 hK3 hF3' HB2 HPr)
  | (go_at_call 29;refine (tb 500 60 60 300 (by omega) (by omega) (by omega) (by omega) (lc raw) (oS n0) 0 w3 HFa.out (fun b _=>by unfold oS;split<;>simp)).mono ?_;rintro e w4 ⟨ma,o4,rfl,ida,hA,hsa⟩;have HA:=Lib.hid hA;have HIa:=Lib.hid ida;have HSa:=Lib.hid hsa;have HQ4:=Lib.hid (HQ.out.low hsa);have HF4:=Lib.hid (rt_of HF3.out |>.below (hsa.below fun _ _ h=>h));clear hA ida hsa HFa HQ)
  | (go_at_call 29;refine (two_new 500 60 60 300 (by omega) (by omega) (by omega) (by omega) HF4.out n0 HSa.out HA.out (Mc.fresh_ok (by omega) (by omega) (by omega) (by omega) (by decide +kernel) (lc raw)) HIa.out).mono ?_;rintro e w5 ⟨mb,o5,rfl,hT,hsb⟩;have HO0:=Lib.hid (show OwnIn n0 w3 ma mb (Mc.fresh (Stt.fresh 500 (mm raw).length 60 60 (bnd 300).toNat) (mm raw)) o5 (.slice pq np cq) (qat raw) w5 from ⟨hT,HQ4.out.low hsb⟩);clear hT hsb HQ4 HF4 HF3 HF)
  | fail)
 obtain⟨M0,hM0⟩:∃ M0,M0=Mc.fresh (Stt.fresh 500 (mm raw).length 60 60 (bnd 300).toNat) (mm raw):=⟨_,rfl⟩;obtain⟨ths,hths⟩:∃ ths,ths=qat raw:=⟨_,rfl⟩;rw[←hM0,←hths]at HO0;rw[←hths]at hpl;subst hpl;have HN3:=Lib.hid (show Below n0 w w3 from by have h:=HB3.out;rw[←HN0.out]at h;exact h)
 have hn3:n0≤w3.heap.size:=by rw[HN0.out];exact HB3.out.size
 have HN3s:=Lib.hid hn3;have HP14:=Lib.hid (And.intro p1 p4);clear hM0 hths hn3 p1 p4 HNP HB3 HA HIa HSa;go_loopw [12] (fun iv wr=>∃ i:Nat,iv=.int .i64 i∧i≤ths.length∧OwnIn n0 w3 ma mb M0 o5 (.slice pq ths.length cq) ths wr) (fun iv _=>ths.length-(intOf iv).toNat)
 case atStart=>exact⟨0,rfl,Nat.zero_le _,HO0.out⟩
 case round =>
  clear HO0;obtain⟨i,rfl,hin,hO⟩:=hrel;by_cases hlt:i<ths.length
  ·have hiI:(i:Int)<(ths.length:Int):=by omega
   have HWi:=Lib.hid (qr i (by have:=HP14.out;omega))
   obtain⟨bs,hbs⟩:∃ bs,ths[i]?=some bs:=⟨_,List.getElem?_eq_getElem hlt⟩;have HBs:=Lib.hid hbs;have HO1:=Lib.hid hO;clear hO hbs;go_wp2_with fail;go_loopw [13] (fun kv wr=>∃ k:Nat,kv=.int .i64 k∧k≤bs.length∧OwnIn n0 w3 ma mb M0 o5 (.slice pq ths.length cq) ths wr) (fun kv _=>bs.length-(intOf kv).toNat)
   case atStart=>exact⟨0,rfl,Nat.zero_le _,HO1.out⟩
   case round =>
    clear HO1;obtain⟨k,rfl,hkn,hO⟩:=hrel;obtain⟨g0,pb,cb,rfl,hc0,cell0,hB⟩:=hO.q.at HBs.out;have hb3:bs.length≤3:=hB.1;by_cases hlt2:k<bs.length
    ·have hkI:(k:Int)<(bs.length:Int):=by omega
     have HWk:=Lib.hid (qr k (by omega))
     obtain⟨n,hn⟩:∃ n,bs[k]?=some n:=⟨_,List.getElem?_eq_getElem hlt2⟩;have HNn:=Lib.hid hn;have HO1:=Lib.hid hO;clear hO hn hB;go_wp2_with fail;clear cell0;go_loopw [14] (fun jv wr=>∃ j:Nat,jv=.int .i64 j∧j≤n∧OwnIn n0 w3 ma mb M0 o5 (.slice (some ⟨g0,0,none⟩) ths.length cq) ths wr) (fun jv _=>n-(intOf jv).toNat)
     case atStart=>exact⟨0,rfl,Nat.zero_le _,HO1.out⟩
     case round =>
      clear HO1;obtain⟨j,rfl,hjn,hO⟩:=hrel;obtain⟨g0',pb',cb',e0,_,cell0,hB⟩:=hO.q.at HBs.out;injection e0 with e0;injection e0 with e0;subst e0;obtain⟨g1,pd,cd,rfl,hc1,cell1,hD⟩:=hB.at HNn.out;have hn6:n≤6:=hD.1;by_cases hlt3:j<n
      ·have hjI:(j:Int)<(n:Int):=by omega
       have HWj:=Lib.hid (qr j (by omega))
       obtain⟨g2,rfl,hc2,hDg,ho2,hlt2',hfz,hcs⟩:=hD.at hlt3;obtain⟨x0,k0⟩:=hcs 0 (by omega)
       obtain⟨x1,k1⟩:=hcs 1 (by omega)
       obtain⟨x2,k2⟩:=hcs 2 (by omega)
       obtain⟨x3,k3⟩:=hcs 3 (by omega)
       obtain⟨x4,k4⟩:=hcs 4 (by omega)
       rw[Nat.add_zero]at k0;have s0:=hO.set hDg ho2 (j*5) (.int .i64 14);have d0:=hDg.set (j*5) (.int .i64 14);have s1:=s0.set d0 ho2 (j*5+1) (.int .i64 0);have d1:=d0.set (j*5+1) (.int .i64 0);have s2:=s1.set d1 ho2 (j*5+2) (.int .i64 0);have d2:=d1.set (j*5+2) (.int .i64 0);have s3:=s2.set d2 ho2 (j*5+3) (.int .i64 0);have d3:=d2.set (j*5+3) (.int .i64 0);have HS4:=Lib.hid (s3.set d3 ho2 (j*5+4) (.int .i64 0));clear s0 s1 s2 s3 d0 d1 d2 d3 hO hB hD hDg ho2 hcs;obtain⟨hw1,hw2⟩:=HWj.out;go_wp2_with fail;go_roundw
       case rel=>exact⟨j+1,by simp,hlt3,HS4.out⟩
       case measure=>clear hw1 hw2;simp[intOf];omega
      ·have hjI:¬((j:Int)<(n:Int)):=by omega
       have HO1:=Lib.hid hO;obtain⟨hw1,hw2⟩:=HWk.out;clear hO hB hD;go_wp2_with fail;go_roundw
       case rel=>exact⟨k+1,by simp,hlt2,HO1.out⟩
       case measure=>clear hw1 hw2;simp[intOf];omega
    ·have hkI:¬((k:Int)<(bs.length:Int)):=by omega
     have HO1:=Lib.hid hO;obtain⟨hw1,hw2⟩:=HWi.out;clear hO hB;go_wp2_with fail;go_roundw
     case rel=>exact⟨i+1,by simp,hlt,HO1.out⟩
     case measure=>clear hw1 hw2;simp[intOf];omega
  ·have hiI:¬((i:Int)<(ths.length:Int)):=by omega
   have HT0:=Lib.hid hO.two;clear hO;go_wp2_with fail;clear hiI hlt hin;go_loopw [15] (fun iv wr=>∃ (i:Nat)(M:Mc)(o:Own),iv=.int .i64 i∧i≤R∧Two n0 w3 ma mb wr o M M) (fun iv _=>R-(intOf iv).toNat)
   case atStart=>exact⟨0,M0,o5,rfl,Nat.zero_le _,HT0.out⟩
   case round =>
    clear HT0;obtain⟨i,M,o,rfl,hiR,hT⟩:=hrel;have HT:=Lib.hid hT;clear hT;by_cases hlt:i<R
    ·have hiI:(i:Int)<(R:Int):=by omega
     have HWi:=Lib.hid (qr i (by omega))
     go_wp2_with (first
      | (go_at_call 30;refine (HPk.out _).mono ?_;rintro e w4 ⟨rfl,rfl⟩)
      | fail)
     go_loopw [16] (fun tv wr=>∃ (t:Nat)(M:Mc)(o:Own),tv=.int .i64 t∧t≤ths.length∧Two n0 w3 ma mb wr o M M) (fun tv _=>ths.length-(intOf tv).toNat)
     case atStart=>exact⟨0,M,o,rfl,Nat.zero_le _,HT.out⟩
     case round =>
      clear HT;obtain⟨t,M,o,rfl,htn,hT⟩:=hrel;by_cases hlt2:t<ths.length
      ·have htI:(t:Int)<(ths.length:Int):=by omega
       have HWt:=Lib.hid (qr t (by have:=HP14.out;omega))
       have hA:=hT.stepA (t:Int);have hB:=fun (W:World)(oo:Own)(h:Two n0 w3 ma mb W oo (M.step (t:Int)).1 M)=>h.stepB (t:Int)
       obtain⟨M',hM'⟩:∃ M',M'=(M.step (t:Int)).1:=⟨_,rfl⟩;obtain⟨a,ha⟩:∃ a,a=(M.step (t:Int)).2:=⟨_,rfl⟩;rw[←hM',←ha]at hA hB;clear hM' ha;obtain⟨ak,ae,av⟩:=a;simp only at hA hB;have HA:=Lib.hid hA;have HB:=Lib.hid hB;clear hA hB hT;obtain⟨hw1,hw2⟩:=HWt.out;go_wp2_with (first
        | (go_at_call 32;refine HA.out.mono ?_;rintro e w6 ⟨rfl,o6,hT6,_⟩;have HT6:=Lib.hid hT6;clear hT6 HA)
        | (go_at_call 32;refine (HB.out _ _ HT6.out).mono ?_;rintro e w7 ⟨rfl,o7,hT7,_⟩;have HT7:=Lib.hid hT7;clear hT7)
        | fail)
       go_roundw
       case rel=>exact⟨t+1,M',o7,by simp,hlt2,HT7.out⟩
       case measure=>clear hw1 hw2;simp[intOf];omega
      ·have htI:¬((t:Int)<(ths.length:Int)):=by omega
       have HT:=Lib.hid hT;clear hT;obtain⟨hw1,hw2⟩:=HWi.out;go_wp2_with fail;go_roundw
       case rel=>exact⟨i+1,M,o,by simp,hlt,HT.out⟩
       case measure=>clear hw1 hw2;simp[intOf];omega
    ·have hiI:¬((i:Int)<(R:Int)):=by omega
     have HL:=Lib.hid (show M.past.length≤1099511627776 from Nat.le_trans HT.out.ak.pl (by omega))
     have HIb:=Lib.hid HT.out.ib;go_wp2_with (first
      | (go_at_call 30;refine (HPk.out _).mono ?_;rintro e w4 ⟨rfl,rfl⟩)
      | (go_at_call 36;refine HT.out.histA.mono ?_;rintro e w6 ⟨va,rfl,hra,hT6,_⟩;have HT6:=Lib.hid hT6;have HRa:=Lib.hid hra;clear hT6 hra HT)
      | (go_at_call 36;refine HT6.out.histB.mono ?_;rintro e w7 ⟨vb,rfl,hrb,hT7,hs7⟩;have HRb:=Lib.hid hrb;have HRa7:=Lib.hid (HRa.out.stp hs7 (by unfold jh;have:=HIb.out;simp;omega));have HT7:=Lib.hid hT7;clear hT7 hrb hs7)
      | (go_at_call 34;refine (dz HRa7.out HRb.out HL.out).mono ?_;rintro e w8 ⟨rfl,hb8⟩;have HT8:=Lib.hid (HT7.out.below hb8);clear hb8)
      | fail)
     go_ret;exact⟨rfl,below_tr HN3.out (HT8.out.old HN3s.out)⟩
end Go.Proofs.YteehgedabdchcaaGreat
