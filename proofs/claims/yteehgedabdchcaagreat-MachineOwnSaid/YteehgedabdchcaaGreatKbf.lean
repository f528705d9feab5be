import Derived.Test.YteehgedabdchcaaGreatKbb
import Derived.Test.YteehgedabdchcaaGreatKbd
set_option linter.all false
set_option maxRecDepth 1000000
set_option maxHeartbeats 16000000
namespace Go.Proofs.YteehgedabdchcaaGreat
open Go.RowKit Hp
def za (l:List ThV):List Value:=l.flatMap fun h=>h.cells.toList
theorem qao:∀ (l:List ThV),(za l).length=l.length*15
 | []=>rfl
 | h::l=>by
  have e:za (h::l)=h.cells.toList++za l:=rfl;rw[e,List.length_append,qao l,List.length_cons];show 15+_=_;omega
theorem qc1:∀ (l:List ThV)(t:Nat)(h:ThV),l[t]?=some h→∀ k,k<15→(za l)[t*15+k]?=h.cells.toList[k]?
 | [],_,_,ht,_,_=>by simp at ht
 | z::l,0,h,ht,k,hk=>by
  simp at ht;subst ht;have e:za (z::l)=z.cells.toList++za l:=rfl;have e2:z.cells.toList.length=15:=rfl;rw[e,Nat.zero_mul,Nat.zero_add,List.getElem?_append_left (by omega)]
 | z::l,t+1,h,ht,k,hk=>by
  have ih:=qc1 l t h (by simpa using ht) k hk
  have e:za (z::l)=z.cells.toList++za l:=rfl;have e2:z.cells.toList.length=15:=rfl;rw[e,List.getElem?_append_right (by omega),e2,←ih]
  congr 1;omega
def put15 (xs:List Value)(b:Nat)(h:ThV):List Value:=
 ((((((((((((((xs.set b (.int .i64 h.b)).set (b+1) (.int .i64 h.n)).set (b+2) (.int .i64 h.r.a0)).set (b+3) (.int .i64 h.r.a1)).set (b+4) (.int .i64 h.r.a2)).set (b+5) (.int .i64 h.r.a3)).set (b+6) (.int .i64 h.r.a4)).set (b+7) (.int .i64 h.r.a5)).set (b+8) (.int .i64 h.s.a0)).set (b+9) (.int .i64 h.s.a1)).set (b+10) (.int .i64 h.s.a2)).set (b+11) (.int .i64 h.s.a3)).set (b+12) (.int .i64 h.s.a4)).set (b+13) (.int .i64 h.s.a5)).set (b+14) (.bool h.l)
theorem qlk (xs ys:List Value)(b:Nat)(h:ThV):put15 (xs++ys) (xs.length+b) h=xs++put15 ys b h:=by
 have e:∀ (ys:List Value)(k:Nat)(v:Value),(xs++ys).set (xs.length+b+k) v=xs++ys.set (b+k) v:=fun ys k v=>by
  rw[List.set_append_right _ _ (by omega)];congr 2;omega
 have e0:∀ (ys:List Value)(v:Value),(xs++ys).set (xs.length+b) v=xs++ys.set b v:=fun ys v=>by
  rw[List.set_append_right _ _ (by omega)];congr 2;omega
 unfold put15;simp only[e0,e]
theorem qa4:∀ (l:List ThV)(t:Nat)(h':ThV),t<l.length→put15 (za l) (t*15) h'=za (l.set t h')
 | [],_,_,ht=>by simp at ht
 | z::l,0,h',_=>by
  have e:za (z::l)=z.cells.toList++za l:=rfl;rw[e,Nat.zero_mul];rfl
 | z::l,t+1,h',ht=>by
  have ih:=qa4 l t h' (by simpa using ht)
  have e:za (z::l)=z.cells.toList++za l:=rfl;have e2:z.cells.toList.length=15:=rfl;rw[e,show (t+1)*15=z.cells.toList.length+t*15 from by rw[e2];omega,qlk,ih]
  rfl
def qcq (W:World)(g b:Nat)(h:ThV):World:=(((((((((((((((W.setCell ⟨g,b,none⟩ (.int .i64 h.b)).setCell ⟨g,b+1,none⟩ (.int .i64 h.n)).setCell ⟨g,b+2,none⟩ (.int .i64 h.r.a0)).setCell ⟨g,b+3,none⟩ (.int .i64 h.r.a1)).setCell ⟨g,b+4,none⟩ (.int .i64 h.r.a2)).setCell ⟨g,b+5,none⟩ (.int .i64 h.r.a3)).setCell ⟨g,b+6,none⟩ (.int .i64 h.r.a4)).setCell ⟨g,b+7,none⟩ (.int .i64 h.r.a5)).setCell ⟨g,b+8,none⟩ (.int .i64 h.s.a0)).setCell ⟨g,b+9,none⟩ (.int .i64 h.s.a1)).setCell ⟨g,b+10,none⟩ (.int .i64 h.s.a2)).setCell ⟨g,b+11,none⟩ (.int .i64 h.s.a3)).setCell ⟨g,b+12,none⟩ (.int .i64 h.s.a4)).setCell ⟨g,b+13,none⟩ (.int .i64 h.s.a5)).setCell ⟨g,b+14,none⟩ (.bool h.l))
theorem qgc {W:World}{o:Own}{t:Tag}{e:TypeId}{g n cap:Nat}{l:List ThV}(h:Row W o t e 15 (.slice (some ⟨g,0,none⟩) n cap) n (za l)){i:Nat}(hi:i<l.length)(h':ThV) :
  Row (qcq W g (i*15) h') o t e 15 (.slice (some ⟨g,0,none⟩) n cap) n (za (l.set i h')):=by
 rw[←qa4 l i h' hi];exact ((((((((((((((h.put2 _ _).put2 _ _).put2 _ _).put2 _ _).put2 _ _).put2 _ _).put2 _ _).put2 _ _).put2 _ _).put2 _ _).put2 _ _).put2 _ _).put2 _ _).put2 _ _).put2 _ _
theorem qcx {T:Tag→Prop}{o o':Own}{w W:World}(h:Stp T o o' w W){g b:Nat}(ht:T (o' g))(z:ThV):Stp T o o' w (qcq W g b z):=by
 have k:∀ {W:World},Stp T o o' w W→∀ j v,Stp T o o' w (W.setCell ⟨g,j,none⟩ v):=fun h j v=>h.setCell (by exact ht) v
 exact k (k (k (k (k (k (k (k (k (k (k (k (k (k (k h _ _) _ _) _ _) _ _) _ _) _ _) _ _) _ _) _ _) _ _) _ _) _ _) _ _) _ _) _ _
structure Th15 (w:World)(g b:Nat)(h:ThV):Prop where
 c0:w.cell? ⟨g,b,none⟩=some (.int .i64 h.b)
 c1:w.cell? ⟨g,b+1,none⟩=some (.int .i64 h.n)
 c2:w.cell? ⟨g,b+2,none⟩=some (.int .i64 h.r.a0)
 c3:w.cell? ⟨g,b+3,none⟩=some (.int .i64 h.r.a1)
 c4:w.cell? ⟨g,b+4,none⟩=some (.int .i64 h.r.a2)
 c5:w.cell? ⟨g,b+5,none⟩=some (.int .i64 h.r.a3)
 c6:w.cell? ⟨g,b+6,none⟩=some (.int .i64 h.r.a4)
 c7:w.cell? ⟨g,b+7,none⟩=some (.int .i64 h.r.a5)
 c8:w.cell? ⟨g,b+8,none⟩=some (.int .i64 h.s.a0)
 c9:w.cell? ⟨g,b+9,none⟩=some (.int .i64 h.s.a1)
 c10:w.cell? ⟨g,b+10,none⟩=some (.int .i64 h.s.a2)
 c11:w.cell? ⟨g,b+11,none⟩=some (.int .i64 h.s.a3)
 c12:w.cell? ⟨g,b+12,none⟩=some (.int .i64 h.s.a4)
 c13:w.cell? ⟨g,b+13,none⟩=some (.int .i64 h.s.a5)
 c14:w.cell? ⟨g,b+14,none⟩=some (.bool h.l)
theorem Row.th15 {w:World}{o:Own}{tg:Tag}{e:TypeId}{n cap:Nat}{pa:Option Addr}{l:List ThV}(hr:Row w o tg e 15 (.slice pa n cap) n (za l)){t:Nat}{h:ThV}(ht:l[t]?=some h) :
  ∃ g,pa=some ⟨g,0,none⟩∧n≤cap∧Th15 w g (t*15) h:=by
 have ha:=qc1 l t h ht;rcases hr.form4 with ⟨_,h0⟩|⟨g,cap',e',hn⟩
 ·have:=ha 0 (by omega)
  rw[h0]at this;simp[ThV.cells]at this
 ·injection e' with e1 _ e3
  subst e1 e3;have f:∀ k u,k<15→h.cells.toList[k]?=some u→w.cell? ⟨g,t*15+k,none⟩=some u:=fun k u hk hu=>by
   have:=hr.own.cells (g:=g) rfl (t*15+k) u ((ha k hk).trans hu);rwa [addr_add]at this
  exact⟨g,rfl,hn,f 0 _ (by omega) rfl,f 1 _ (by omega) rfl,f 2 _ (by omega) rfl,f 3 _ (by omega) rfl,f 4 _ (by omega) rfl,f 5 _ (by omega) rfl,f 6 _ (by omega) rfl,f 7 _ (by omega) rfl,f 8 _ (by omega) rfl,f 9 _ (by omega) rfl,f 10 _ (by omega) rfl,f 11 _ (by omega) rfl,f 12 _ (by omega) rfl,f 13 _ (by omega) rfl,f 14 _ (by omega) rfl⟩
structure Mc where
 S:Stt
 ps:List (List (List DeedV))
 hs:List ThV
 past:List EnV
def R6.places (r:R6):List Nat:=[r.a0.toNat,r.a1.toNat,r.a2.toNat,r.a3.toNat,r.a4.toNat,r.a5.toNat]
def ThV.roots (h:ThV):List Nat:=h.r.places++h.s.places
def R6.of (l:List Nat):R6:=⟨l.getD 0 0,l.getD 1 0,l.getD 2 0,l.getD 3 0,l.getD 4 0,l.getD 5 0⟩
def ThV.place (h:ThV)(l:List Nat):ThV:={ h with r:=R6.of l,s:=R6.of (l.drop 6) }
def kh:List ThV→List Nat→List ThV
 | [],_=>[]
 | h::hs,l=>h.place l::kh hs (l.drop 12)
def wu (l:List EnV)(x:EnV):List EnV:=if l.length<2000 then l++[x] else l
def zt (l:List EnV)(k:Int)(ns:List Nat):List EnV:=ns.foldl (fun (l:List EnV)(n:Nat)=>wu l ⟨-1,0,0,⟨k,0,(n:Int)⟩⟩) l
def zTV:ThV:=⟨0,0,⟨0,0,0,0,0,0⟩,⟨0,0,0,0,0,0⟩,false⟩
def Mc.h (M:Mc)(t:Nat):ThV:=M.hs.getD t zTV
def Mc.p (M:Mc)(t:Nat):List (List DeedV):=M.ps.getD t []
def Mc.roots (M:Mc):List Nat:=M.hs.flatMap ThV.roots
def Mc.stepN (M:Mc)(t:Nat):Mc×ActV:=
 (⟨(M.S.tstep t (M.p t) (M.h t)).S,M.ps,M.hs.set t (M.S.tstep t (M.p t) (M.h t)).h,if (M.S.tstep t (M.p t) (M.h t)).a.k≠0 then wu M.past ⟨t,(M.h t).b,(M.h t).n,(M.S.tstep t (M.p t) (M.h t)).a⟩ else M.past⟩,(M.S.tstep t (M.p t) (M.h t)).a)
def Mc.step (M:Mc)(t:Int):Mc×ActV:=
 if t<0∨(M.hs.length:Int)≤t∨2000≤M.past.length then (M,⟨0,0,0⟩) else M.stepN t.toNat
def Mc.told (M:Mc):Mc:={ M with S:={ M.S with came:=[],lost:=[] },past:=zt (zt M.past 5 M.S.came) 4 M.S.lost }
def Mc.collect (M:Mc):Mc×Bool:=
 if 2000≤M.past.length then (M,false)
 else if (M.S.collectR M.roots).2.2=true then (Mc.told { M with S:=(M.S.collectR M.roots).1,hs:=kh M.hs (M.S.collectR M.roots).2.1 },false)
 else (Mc.told { M with S:=M.S.stepR.1 },M.S.stepR.2)
def Mc.done (M:Mc):Bool:=(List.range M.hs.length).all fun t=>decide (((M.p t).length:Int)≤(M.h t).b)
def R6.sers (S:Stt)(r:R6):R6:=⟨S.ser r.a0.toNat,S.ser r.a1.toNat,S.ser r.a2.toNat,S.ser r.a3.toNat,S.ser r.a4.toNat,S.ser r.a5.toNat⟩
def ThV.sers (S:Stt)(h:ThV):ThV:={ h with r:=h.r.sers S,s:=h.s.sers S }
def Mc.thread (M:Mc)(t:Int):ThV×Bool:=if t<0∨(M.hs.length:Int)≤t then (zTV,false) else ((M.h t.toNat).sers M.S,true)
structure MLay where
 mb:Nat
 y:SLay
 vp:Value
 vh:Value
def KD (W:World)(o:Own)(tg:Tag)(v:Value)(l:List DeedV):Prop:=l.length≤12∧Row W o tg 73 5 v l.length (jt (l.map DeedV.D))
def KB (W:World)(o:Own)(tg:Tag)(v:Value)(bs:List (List DeedV)):Prop:=
 bs.length≤6∧∃ vs:List Value,vs.length=bs.length∧Row W o tg 71 1 v bs.length vs∧∀ (j:Nat)(l:List DeedV),bs[j]?=some l→∃ u:Value,vs[j]?=some u∧KD W o tg u l
def KT (W:World)(o:Own)(tg tr:Tag)(v:Value)(ths:List (List (List DeedV))):Prop:=
 ths.length≤8∧∃ vs:List Value,vs.length=ths.length∧Row W o tr 67 1 v ths.length vs∧∀ (j:Nat)(bs:List (List DeedV)),ths[j]?=some bs→∃ u:Value,vs[j]?=some u∧KB W o tg u bs
section
variable {W W' : World} {o o' : Own} {v : Value} {T : Tag → Prop} {tg : Tag}
theorem KD.stp {l:List DeedV}(h:KD W o tg v l)(k:Stp T o o' W W')(ht:¬T tg):KD W' o' tg v l:=⟨h.1,h.2.stp k ht⟩
theorem KB.stp {bs:List (List DeedV)}(h:KB W o tg v bs)(k:Stp T o o' W W')(ht:¬T tg):KB W' o' tg v bs:=by
 obtain⟨h0,vs,h1,h2,h3⟩:=h;exact⟨h0,vs,h1,h2.stp k ht,fun j l hj=>let⟨u,hu,hd⟩:=h3 j l hj;⟨u,hu,hd.stp k ht⟩⟩
theorem KT.stp {tr:Tag}{ths:List (List (List DeedV))}(h:KT W o tg tr v ths)(k:Stp T o o' W W')(ht:¬T tg)(htr:¬T tr):KT W' o' tg tr v ths:=by
 obtain⟨h0,vs,h1,h2,h3⟩:=h;exact⟨h0,vs,h1,h2.stp k htr,fun j l hj=>let⟨u,hu,hd⟩:=h3 j l hj;⟨u,hu,hd.stp k ht⟩⟩
end
structure MIn (w:World)(o:Own)(m:MLay)(M:Mc):Prop where
 blk:∃ ve,Blk w m.mb #[ptr m.y.sb,m.vp,m.vh,.int .i32 0,.int .u32 0,ve] 148∧Row w o (m.y.l.id+2,3) 69 6 ve M.past.length (qw M.past)
 st:StIn w o m.y M.S
 ps:KT w o (m.y.l.id+2,1) (m.y.l.id+2,4) m.vp M.ps
 hs:Row w o (m.y.l.id+2,2) 58 15 m.vh M.hs.length (za M.hs)
 om:o m.mb=(m.y.l.id+2,0)
structure Mc.ok (M:Mc):Prop where
 inv:M.S.ok
 len:M.hs.length=M.ps.length
 txs:M.S.txs.length=M.ps.length
 n8:M.ps.length≤8
 th:∀ t,t<M.hs.length→TOk (M.p t) M.S t (M.h t)
 dk:∀ p ∈ M.ps,p.length≤6∧∀ ds ∈ p,ds.length≤12∧∀ d ∈ ds,d.ok∧Pg.right d.D=true
 pl:M.past.length≤2000
 lo:M.S.lost=[]
 ca:M.S.came=[]
def jh (m:MLay)(t:Tag):Prop:=t.1=m.y.l.id∨t.1=m.y.l.id+2
def MLft (m:MLay)(M:Mc)(o:Own)(w w':World):Prop:=∃ o',MIn w' o' m M∧Stp (jh m) o o' w w'
section
variable {w w' : World} {o o' : Own} {m : MLay} {M : Mc}
theorem MIn.stp {T:Tag→Prop}(h:MIn w o m M)(hs:Stp T o o' w w')(h1:∀ j,¬T (m.y.l.id,j))(h2:∀ j,¬T (m.y.l.id+2,j)):MIn w' o' m M:=by
 obtain⟨ve,hb,hr⟩:=h.blk;exact⟨⟨ve,hb.stp hs (by rw[h.om];exact h2 _),hr.stp hs (h2 _)⟩,h.st.stp hs h1,h.ps.stp hs (h2 _) (h2 _),h.hs.stp hs (h2 _),(hs.tags _ hb.lt).trans h.om⟩
theorem MIn.below (h:MIn w o m M)(hb:Below w.heap.size w w'):MIn w' o m M:=h.stp (T:=fun _=>False) (Stp.of_below hb) (fun _ h=>h) fun _ h=>h
theorem MIn.lt (h:MIn w o m M):m.mb<w.heap.size:=by obtain⟨_,hb,_⟩:=h.blk;exact hb.lt
theorem MIn.store (h:MIn w o m M){S':Stt}(hS:StIn w' o' m.y S')(hs:Stp (qh m.y) o o' w w'):MIn w' o' m { M with S:=S' }:=by
 obtain⟨ve,hb,hr⟩:=h.blk;have hn:∀ j,¬qh m.y (m.y.l.id+2,j):=fun j e=>by unfold qh at e;simp at e
 exact⟨⟨ve,hb.stp hs (by rw[h.om];exact hn _),hr.stp hs (hn _)⟩,hS,h.ps.stp hs (hn _) (hn _),h.hs.stp hs (hn _),(hs.tags _ hb.lt).trans h.om⟩
theorem py {m:MLay}{t:Tag}(h:qh m.y t):jh m t:=.inl h
theorem Mc.h_get {M:Mc}{t:Nat}(h:t<M.hs.length):M.hs[t]?=some (M.h t):=by unfold Mc.h;simp[List.getD,List.getElem?_eq_getElem h]
theorem Mc.p_get {M:Mc}{t:Nat}(h:t<M.ps.length):M.ps[t]?=some (M.p t):=by unfold Mc.p;simp[List.getD,List.getElem?_eq_getElem h]
end
end Go.Proofs.YteehgedabdchcaaGreat
namespace Go.Proofs.YteehgedabdchcaaGreat
open Go.RowKit Hp
attribute [local go_sem ↓] Go.wp_at_zero Go.wp_at_succ
section
variable {w w' : World} {o o' : Own} {m : MLay} {M : Mc}
theorem MIn.retag (h:MIn w o m M)(he:∀ b,b<w.heap.size→o' b=o b):MIn w o' m M:=
 h.stp (T:=fun _=>False) ⟨rfl,rfl,rfl,Nat.le_refl _,he,fun _ _ _=>rfl⟩ (fun _ h=>h) fun _ h=>h
theorem qez (h:MIn w o m M):Calls Tryz.prog 87 #[.pointer (some ⟨m.mb,3,none⟩)] w fun e w'=>e=.returned (.bool (decide (2000≤M.past.length)))∧MIn w' o m M∧(∀ (b:Nat)(cs:Array Value)(t:TypeId),b≠m.mb→Blk w b cs t→Blk w' b cs t)∧w'.heap.size=w.heap.size∧Stp (fun t=>t=(m.y.l.id+2,0)) o o w w':=by
 obtain⟨ve,jb,hr⟩:=h.blk;obtain⟨pa,cp,rfl⟩:=hr.slc;refine (full_any m.mb M.past.length cp pa w (jb.cell 3) (jb.cell 5) (jb.free 3)).mono ?_
 rintro e w' ⟨rfl,rfl⟩
 have e1:o m.mb=(m.y.l.id+2,0):=h.om;have k:Stp (fun t=>t=(m.y.l.id+2,0)) o o w ((w.setCell ⟨m.mb,3,none⟩ (.int .i32 1)).setCell ⟨m.mb,3,none⟩ (.int .i32 0)):=((Stp.refl _ o w).setCell (by show o m.mb=_;exact e1) _).setCell (by show o m.mb=_;exact e1) _
 have j2:=(jb.set 3 (.int .i32 1)).set 3 (.int .i32 0);exact⟨rfl,⟨⟨_,j2,hr.stp k (by simp)⟩,h.st.stp k (by simp),h.ps.stp k (by simp) (by simp),h.hs.stp k (by simp),h.om⟩,fun b cs t hb j=>(j.set_other (a:=⟨m.mb,3,none⟩) hb _).set_other (a:=⟨m.mb,3,none⟩) hb _,by simp,k⟩
theorem MIn.hset (h:MIn w o m M){t:Nat}(ht:t<M.hs.length){g n c:Nat}(hv:m.vh=.slice (some ⟨g,0,none⟩) n c)(z:ThV) :
  MIn (qcq w g (t*15) z) o m { M with hs:=M.hs.set t z }∧Stp (fun u=>u=(m.y.l.id+2,2)) o o w (qcq w g (t*15) z):=by
 have hr:=h.hs;have hn:n=M.hs.length:=by
  obtain⟨a,c',e⟩:=hr.slc;rw[hv]at e;injection e
 subst hn;rw[hv]at hr;have k:Stp (fun u=>u=(m.y.l.id+2,2)) o o w (qcq w g (t*15) z):=qcx (Stp.refl _ o w) hr.otag z
 obtain⟨ve,jb,hp⟩:=h.blk;refine⟨⟨⟨ve,jb.stp k (by rw[h.om];simp),hp.stp k (by simp)⟩,h.st.stp k (by simp),h.ps.stp k (by simp) (by simp),?_,(k.tags _ jb.lt).trans h.om⟩,k⟩
 show Row _ o _ _ 15 m.vh (M.hs.set t z).length _;rw[List.length_set,hv];exact qgc hr ht z
theorem KD.dds {v:Value}{tg:Tag}{l:List DeedV}(h:KD w o tg v l):DdsAt w v l:=by
 obtain⟨h12,hr⟩:=h;obtain⟨a,c,rfl⟩:=hr.slc;refine⟨a,c,rfl,fun k d hd=>?_⟩
 have key:∀ r,r<5→(jt (l.map DeedV.D))[k*5+r]?=(zz d.D)[r]?:=fun r hr=>by
  rw[da,show (k*5+r)/5=k from by omega,show (k*5+r)%5=r from by omega,List.getElem?_map,hd];rfl
 rcases hr.form4 with ⟨_,h0⟩|⟨g,cap,e,_⟩
 ·have:=key 0 (by omega)
  rw[h0]at this;simp[zz]at this
 ·injection e with e1 _ e3
  subst e1 e3;have f:∀ r u,r<5→(zz d.D)[r]?=some u→w.cell? ⟨g,0+(k*5+r),none⟩=some u:=fun r u hr' hu=>by
   have:=hr.own.cells (g:=g) rfl (k*5+r) u ((key r hr').trans hu);rw[addr_add]at this;rw[Nat.zero_add];exact this
  refine⟨g,0,rfl,?_,?_,?_,?_,?_⟩
  ·exact (congrArg w.cell? (by rw[Nat.add_zero])).trans (f 0 _ (by omega) rfl)
  ·exact f 1 _ (by omega) rfl
  ·exact f 2 _ (by omega) rfl
  ·exact f 3 _ (by omega) rfl
  ·exact f 4 _ (by omega) rfl
theorem KB.blks {v:Value}{tg:Tag}{bs:List (List DeedV)}(h:KB w o tg v bs):BlksAt w v bs:=by
 obtain⟨h6,vs,hl,hr,hd⟩:=h;obtain⟨a,c,rfl⟩:=hr.slc;refine⟨a,c,rfl,fun j ds hj=>?_⟩
 obtain⟨u,hu,hk⟩:=hd j ds hj;rcases hr.form with⟨_,h0⟩|⟨g,cap,e,_⟩
 ·have:=(List.getElem?_eq_some_iff.1 hj).1;omega
 ·injection e with e1 _ e3
  subst e1 e3;exact⟨g,0,rfl,u,by rw[Nat.zero_add];exact hr.cells j _ hu,hk.dds⟩
end
section
variable {w w' : World} {o o' : Own} {m : MLay} {M : Mc}
theorem MLft.of_ext {tg:Tag}(h:MLft m M (ext o w.heap.size tg) w w'):MLft m M o w w':=by
 obtain⟨o',h1,h2⟩:=h;exact⟨o',h1,h2.os,h2.tape,h2.output,h2.size,fun b hb=>(h2.tags b hb).trans (qj hb),fun b hb hn=>h2.block b hb (by rw[qj hb];exact hn)⟩
def vg (W:World)(b:Nat)(a:ActV):World:=((W.setCell ⟨b,0,none⟩ (.int .i64 a.k)).setCell ⟨b,1,none⟩ (.int .i64 a.e)).setCell ⟨b,2,none⟩ (.int .i64 a.v)
theorem gg {W:World}{b:Nat}{t:TypeId}{x y z:Value}(j:Blk W b #[x,y,z] t)(a:ActV):Blk (vg W b a) b a.cells t:=((j.set 0 (.int .i64 a.k)).set 1 (.int .i64 a.e)).set 2 (.int .i64 a.v)
theorem qgx {T:Tag→Prop}{W:World}{b:Nat}(ht:T (o b))(a:ActV):Stp T o o W (vg W b a):=(((Stp.refl _ o W).setCell (by exact ht) _).setCell (by exact ht) _).setCell (by exact ht) _
theorem qfx {W:World}{b c:Nat}{cs:Array Value}{t:TypeId}(j:Blk W c cs t)(h:c≠b)(z:ThV):Blk (thW W b z) c cs t:=(((((((((((((((j.set_other (a:=⟨b,0,none⟩) h _).set_other (a:=⟨b,1,none⟩) h _).set_other (a:=⟨b,2,none⟩) h _).set_other (a:=⟨b,3,none⟩) h _).set_other (a:=⟨b,4,none⟩) h _).set_other (a:=⟨b,5,none⟩) h _).set_other (a:=⟨b,6,none⟩) h _).set_other (a:=⟨b,7,none⟩) h _).set_other (a:=⟨b,8,none⟩) h _).set_other (a:=⟨b,9,none⟩) h _).set_other (a:=⟨b,10,none⟩) h _).set_other (a:=⟨b,11,none⟩) h _).set_other (a:=⟨b,12,none⟩) h _).set_other (a:=⟨b,13,none⟩) h _).set_other (a:=⟨b,14,none⟩) h _)
theorem qc4 {W:World}{b c:Nat}{cs:Array Value}{t:TypeId}(j:Blk W c cs t)(h:c≠b)(a:ActV):Blk (vg W b a) c cs t:=(((j.set_other (a:=⟨b,0,none⟩) h _).set_other (a:=⟨b,1,none⟩) h _).set_other (a:=⟨b,2,none⟩) h _)
theorem thW_new {T:Tag→Prop}{W:World}(h:Stp T o o' w W){b:Nat}(hb:w.heap.size≤b)(z:ThV):Stp T o o' w (thW W b z):=by
 have k2:∀ {W:World},Stp T o o' w W→∀ j v,Stp T o o' w (W.setCell ⟨b,j,none⟩ v):=fun h j v=>h.setCell_new (by exact hb) v
 exact k2 (k2 (k2 (k2 (k2 (k2 (k2 (k2 (k2 (k2 (k2 (k2 (k2 (k2 (k2 h _ _) _ _) _ _) _ _) _ _) _ _) _ _) _ _) _ _) _ _) _ _) _ _) _ _) _ _) _ _
theorem actW_new {T:Tag→Prop}{W:World}(h:Stp T o o' w W){b:Nat}(hb:w.heap.size≤b)(a:ActV):Stp T o o' w (vg W b a):=by
 have k2:∀ {W:World},Stp T o o' w W→∀ j v,Stp T o o' w (W.setCell ⟨b,j,none⟩ v):=fun h j v=>h.setCell_new (by exact hb) v
 exact k2 (k2 (k2 h _ _) _ _) _ _
theorem thW_size (W:World)(b:Nat)(z:ThV):(thW W b z).heap.size=W.heap.size:=by unfold thW;simp only[World.size_setCell]
theorem qlc (W:World)(b:Nat)(a:ActV):(vg W b a).heap.size=W.heap.size:=by unfold vg;simp only[World.size_setCell]
structure Af (m:MLay)(N:Mc)(o:Own)(w:World)(ca cb:Array Value)(W:World)(o':Own):Prop where
 mi:MIn W o' m N
 ja:Blk W w.heap.size ca 54
 jb:Blk W (w.heap.size+1) cb 58
 st:Stp (jh m) o o' w W
 oa:o' w.heap.size=(m.y.l.id+1,0)
 ob:o' (w.heap.size+1)=(m.y.l.id+1,0)
section
variable {N : Mc} {ca cb : Array Value} {W : World}
theorem Af.alloc (h:Af m N o w ca cb W o')(c:Array Value)(t:TypeId):Af m N o w ca cb (W.alloc (.cells c t)) (ext o' W.heap.size (m.y.l.id+1,0))∧Blk (W.alloc (.cells c t)) W.heap.size c t∧ext o' W.heap.size (m.y.l.id+1,0) W.heap.size=(m.y.l.id+1,0) ∧
  ∀ (b:Nat)(cs:Array Value)(t2:TypeId),Blk W b cs t2→o' b=(m.y.l.id+1,0)→Blk (W.alloc (.cells c t)) b cs t2∧ext o' W.heap.size (m.y.l.id+1,0) b=(m.y.l.id+1,0):=by
 refine⟨⟨(h.mi.retag fun b hb=>qj hb).below (qa (qc W) _),h.ja.alloc _,h.jb.alloc _,(h.st.ext _ _ h.st.size).trans (Stp.of_below (qa (qc W) _)),(qj h.ja.lt).trans h.oa,(qj h.jb.lt).trans h.ob⟩,Blk.new W c t,qp (Nat.le_refl _),fun b cs t2 j hj=>⟨j.alloc _,(qj j.lt).trans hj⟩⟩
theorem Af.thw (h:Af m N o w ca cb W o'){b:Nat}(hb:w.heap.size+2≤b)(ht:o' b=(m.y.l.id+1,0))(z:ThV):Af m N o w ca cb (thW W b z) o':=by
 have k:Stp (fun t=>t=(m.y.l.id+1,0)) o' o' W (thW W b z):=qcx (b:=0) (Stp.refl _ o' W) ht z
 exact⟨h.mi.stp k (fun j h=>by simp at h) (fun j h=>by simp at h),qfx h.ja (by omega) z,qfx h.jb (by omega) z,thW_new h.st (by omega) z,h.oa,h.ob⟩
theorem Af.actw (h:Af m N o w ca cb W o'){b:Nat}(hb:w.heap.size+2≤b)(ht:o' b=(m.y.l.id+1,0))(a:ActV):Af m N o w ca cb (vg W b a) o':=by
 have k:Stp (fun t=>t=(m.y.l.id+1,0)) o' o' W (vg W b a):=qgx (T:=fun t=>t=(m.y.l.id+1,0)) ht a
 exact⟨h.mi.stp k (fun j h=>by simp at h) (fun j h=>by simp at h),qc4 h.ja (by omega) a,qc4 h.jb (by omega) a,actW_new h.st (by omega) a,h.oa,h.ob⟩
theorem Af.way1 (h:Af m N o w ca cb W o')(z:ThV)(a:ActV):∃ o5,Af m N o w ca cb ((W.alloc (.cells z.cells 58)).alloc (.cells a.cells 54)) o5∧Blk ((W.alloc (.cells z.cells 58)).alloc (.cells a.cells 54)) W.heap.size z.cells 58∧Blk ((W.alloc (.cells z.cells 58)).alloc (.cells a.cells 54)) (W.heap.size+1) a.cells 54∧o5 W.heap.size=(m.y.l.id+1,0)∧o5 (W.heap.size+1)=(m.y.l.id+1,0):=by
 obtain⟨x1,x2,x3,_⟩:=h.alloc z.cells 58;obtain⟨y1,y2,y3,y4⟩:=x1.alloc a.cells 54;obtain⟨z1,z2⟩:=y4 _ _ _ x2 x3;have e:(W.alloc (.cells z.cells 58)).heap.size=W.heap.size+1:=World.size_alloc _ _;exact⟨_,y1,z1,by rw[←e];exact y2,z2,by rw[←e];exact y3⟩
theorem Af.way2 (h:Af m N o w ca cb W o')(z:ThV)(a:ActV):∃ o5,Af m N o w ca cb ((W.alloc (.cells a.cells 54)).alloc (.cells z.cells 58)) o5∧Blk ((W.alloc (.cells a.cells 54)).alloc (.cells z.cells 58)) (W.heap.size+1) z.cells 58∧Blk ((W.alloc (.cells a.cells 54)).alloc (.cells z.cells 58)) W.heap.size a.cells 54∧o5 (W.heap.size+1)=(m.y.l.id+1,0)∧o5 W.heap.size=(m.y.l.id+1,0):=by
 obtain⟨x1,x2,x3,_⟩:=h.alloc a.cells 54;obtain⟨y1,y2,y3,y4⟩:=x1.alloc z.cells 58;obtain⟨z1,z2⟩:=y4 _ _ _ x2 x3;have e:(W.alloc (.cells a.cells 54)).heap.size=W.heap.size+1:=World.size_alloc _ _;exact⟨_,y1,by rw[←e];exact y2,z1,by rw[←e];exact y3,z2⟩
theorem Af.way3 (h:Af m N o w ca cb W o'){b:Nat}(hb:w.heap.size+2≤b)(ht:o' b=(m.y.l.id+1,0))(j:Blk W b zTV.cells 58)(z:ThV)(a:ActV):∃ o5,Af m N o w ca cb ((thW W b z).alloc (.cells a.cells 54)) o5∧Blk ((thW W b z).alloc (.cells a.cells 54)) b z.cells 58∧Blk ((thW W b z).alloc (.cells a.cells 54)) W.heap.size a.cells 54∧o5 b=(m.y.l.id+1,0)∧o5 W.heap.size=(m.y.l.id+1,0):=by
 obtain⟨y1,y2,y3,y4⟩:=(h.thw hb ht z).alloc a.cells 54;obtain⟨z1,z2⟩:=y4 _ _ _ (mj (g:=zTV) j z) ht;have e:=thW_size W b z;exact⟨_,y1,z1,by rw[←e];exact y2,z2,by rw[←e];exact y3⟩
theorem Af.way5 (h:Af m N o w ca cb W o'){b:Nat}(hb:w.heap.size+2≤b)(ht:o' b=(m.y.l.id+1,0))(j:Blk W b #[.int .i64 0,.int .i64 0,.int .i64 0] 54)(z:ThV)(a:ActV):∃ o5,Af m N o w ca cb ((vg W b a).alloc (.cells z.cells 58)) o5∧Blk ((vg W b a).alloc (.cells z.cells 58)) W.heap.size z.cells 58∧Blk ((vg W b a).alloc (.cells z.cells 58)) b a.cells 54∧o5 W.heap.size=(m.y.l.id+1,0)∧o5 b=(m.y.l.id+1,0):=by
 obtain⟨y1,y2,y3,y4⟩:=(h.actw hb ht a).alloc z.cells 58;obtain⟨z1,z2⟩:=y4 _ _ _ (gg j a) ht;have e:=qlc W b a;exact⟨_,y1,by rw[←e];exact y2,z1,by rw[←e];exact y3,z2⟩
theorem Af.way4 (h:Af m N o w ca cb W o'){b c:Nat}(hne:b≠c)(hb:w.heap.size+2≤b)(ht:o' b=(m.y.l.id+1,0))(j:Blk W b zTV.cells 58)(hc:w.heap.size+2≤c)(htc:o' c=(m.y.l.id+1,0))(jc:Blk W c #[.int .i64 0,.int .i64 0,.int .i64 0] 54)(z:ThV)(a:ActV):∃ o5,Af m N o w ca cb (vg (thW W b z) c a) o5∧Blk (vg (thW W b z) c a) b z.cells 58∧Blk (vg (thW W b z) c a) c a.cells 54∧o5 b=(m.y.l.id+1,0)∧o5 c=(m.y.l.id+1,0):=
 ⟨o',(h.thw hb ht z).actw hc htc a,qc4 (mj (g:=zTV) j z) hne a,gg (qfx jc (fun e=>hne e.symm) z) a,ht,htc⟩
end
theorem MLft.act3 {W:World}(h1:MIn W o' m M)(h2:Stp (jh m) o o' w W){b:Nat}(hb:w.heap.size≤b)(ht:o' b=(m.y.l.id+1,0))(a:ActV):MLft m M o w (vg W b a):=by
 have k:Stp (fun t=>t=(m.y.l.id+1,0)) o' o' W (vg W b a):=qgx (T:=fun t=>t=(m.y.l.id+1,0)) ht a
 exact⟨o',h1.stp k (fun j h=>by simp at h) (fun j h=>by simp at h),((h2.setCell_new (by exact hb) _).setCell_new (by exact hb) _).setCell_new (by exact hb) _⟩
theorem qmh (h:MIn w o m M)(W:World)(hb:Below w.heap.size w W):MLft m M o w W:=⟨o,h.below hb,Stp.of_below hb⟩
def xy (n:Nat):Code→Option Code
 | .region id ops b=>if id=n then some (.region id ops b) else none
 | .seq a b=>match xy n a with
  | some c=>some c
  | none=>xy n b
 | .block _ c=>xy n c
 | .scope c=>xy n c
 | .cond _ a b=>match xy n a with
  | some c=>some c
  | none=>xy n b
 | .loop c=>xy n c
 | _=>none
noncomputable def reg32 (n:Nat):Code:=((Tryz.f32.body.bind (xy n)).getD .skip)
theorem r32_4 (Q:Exit→Act→World→Prop){w2 W3:World}{RS:Stt}{gp0 gq nh cp0 ch P c T:Nat}{a:Option Addr}{ve2:Value}{zb zn a0 a1 a2 a3 a4 a5 s0 s1 s2 s3 s4 s5 rb rn b0 b1 b2 b3 b4 b5 d0 d1 d2 d3 d4 d5 ak ae av:Int}{zl rl:Bool}(u2 u3 u6 u7 u8 u9 u10 u11 u12 u13 u14 u15 u16 u17 u18 u19 u20 u21 u22 u23 u24 u25 u26 u27 u28 u29 u30 u31 u32 u33 u34 u35 u36 u37 u38 u39 u40 u41 u42 u43 u44 u45 u46 u47 u48 u49 u50 u51 u52 u53 u54 u55 u56 u57 u58 u59 u60 u61 u62 u63 u64 u65 u66 u67 u68 u69 u70 u71:Value)
  (HM2:Hid (MIn w2 o m M))(HJA:Hid (Blk w2 w.heap.size #[.int .i64 0,.int .i64 0,.int .i64 0] 54))(HSW:Hid (Stp (jh m) o o w w2))(HO:Hid (∀ b,w.heap.size≤b→o b=(m.y.l.id+1,0)))(oA:o w.heap.size=(m.y.l.id+1,0))(HVp:Hid (m.vp=.slice (some ⟨gp0,0,none⟩) M.ps.length cp0))
  (hz2':w2.heap.size=w.heap.size+1)(hb3:Below w2.heap.size w2 W3)(jx3:Blk W3 (w.heap.size+1) #[.int .i64 zb,.int .i64 zn,.int .i64 a0,.int .i64 a1,.int .i64 a2,.int .i64 a3,.int .i64 a4,.int .i64 a5,.int .i64 s0,.int .i64 s1,.int .i64 s2,.int .i64 s3,.int .i64 s4,.int .i64 s5,.bool zl] 58)(jm3:Blk W3 m.mb #[ptr m.y.sb,.slice (some ⟨gp0,0,none⟩) nh cp0,.slice (some ⟨gq,0,none⟩) nh ch,.int .i32 0,.int .u32 0,ve2] 148)
  (hc3:W3.cell? ⟨gp0,T,none⟩=some (.slice a P c))(hTI:¬(nh:Int)≤(T:Int))(hTI2:(T:Int)<(nh:Int))
  (HStep:Hid (∀ (W:World),Below w2.heap.size w2 W→Calls Tryz.prog 93 #[ptr m.y.sb,.int .i64 T,.slice a P c,.agg #[.int .i64 zb,.int .i64 zn,.int .i64 a0,.int .i64 a1,.int .i64 a2,.int .i64 a3,.int .i64 a4,.int .i64 a5,.int .i64 s0,.int .i64 s1,.int .i64 s2,.int .i64 s3,.int .i64 s4,.int .i64 s5,.bool zl]] W fun e' w'=>e'=.returned (.tuple #[.agg #[.int .i64 rb,.int .i64 rn,.int .i64 b0,.int .i64 b1,.int .i64 b2,.int .i64 b3,.int .i64 b4,.int .i64 b5,.int .i64 d0,.int .i64 d1,.int .i64 d2,.int .i64 d3,.int .i64 d4,.int .i64 d5,.bool rl],.agg #[.int .i64 ak,.int .i64 ae,.int .i64 av]])∧Left m.y RS o W w'))
  (HX:Hid (∀ (X:World)(o5:Own)(C D:Nat)(z33 z34 z35 z36 z37 z38 z39 z40 z41 z42 z43 z44 z45 z46 z47 z48 z49:Value),Af m { M with S:=RS } o w #[.int .i64 0,.int .i64 0,.int .i64 0] #[.int .i64 zb,.int .i64 zn,.int .i64 a0,.int .i64 a1,.int .i64 a2,.int .i64 a3,.int .i64 a4,.int .i64 a5,.int .i64 s0,.int .i64 s1,.int .i64 s2,.int .i64 s3,.int .i64 s4,.int .i64 s5,.bool zl] X o5→Blk X C #[.int .i64 rb,.int .i64 rn,.int .i64 b0,.int .i64 b1,.int .i64 b2,.int .i64 b3,.int .i64 b4,.int .i64 b5,.int .i64 d0,.int .i64 d1,.int .i64 d2,.int .i64 d3,.int .i64 d4,.int .i64 d5,.bool rl] 58→Blk X D #[.int .i64 ak,.int .i64 ae,.int .i64 av] 54→o5 C=(m.y.l.id+1,0)→o5 D=(m.y.l.id+1,0)→Q .normal ⟨#[ptr m.mb,.int .i64 (T:Int),u2,u3,ptr w.heap.size,ptr (w.heap.size+1),ptr C,ptr D,u8,u9,u10,u11,u12,u13,u14,u15,u16,u17,u18,u19,u20,u21,u22,u23,u24,u25,u26,u27,u28,u29,u30,u31,u32,z33,z34,z35,z36,z37,z38,z39,z40,z41,z42,z43,z44,z45,z46,z47,z48,z49,u50,u51,u52,u53,u54,u55,u56,u57,u58,u59,u60,u61,u62,u63,u64,u65,u66,u67,u68,u69,u70,u71],[]⟩ X)) :
  Code.wp Tryz.prog (reg32 4) Q ⟨#[ptr m.mb,.int .i64 (T:Int),u2,u3,ptr w.heap.size,ptr (w.heap.size+1),u6,u7,u8,u9,u10,u11,u12,u13,u14,u15,u16,u17,u18,u19,u20,u21,u22,u23,u24,u25,u26,u27,u28,u29,u30,u31,u32,u33,u34,u35,u36,u37,u38,u39,u40,u41,u42,u43,u44,u45,u46,u47,u48,u49,u50,u51,u52,u53,u54,u55,u56,u57,u58,u59,u60,u61,u62,u63,u64,u65,u66,u67,u68,u69,u70,u71],[]⟩ W3:=by
 conv=>arg 2;whnf
 have HX4:=Lib.hid (fun (Wp w4:World)(o4:Own)(hbp:Below W3.heap.size W3 Wp)(hS4:StIn w4 o4 m.y RS)(hs4:Stp (qh m.y) o o4 Wp w4) =>
  show MIn w4 o4 m { M with S:=RS }∧Blk w4 w.heap.size #[.int .i64 0,.int .i64 0,.int .i64 0] 54∧Blk w4 (w.heap.size+1) #[.int .i64 zb,.int .i64 zn,.int .i64 a0,.int .i64 a1,.int .i64 a2,.int .i64 a3,.int .i64 a4,.int .i64 a5,.int .i64 s0,.int .i64 s1,.int .i64 s2,.int .i64 s3,.int .i64 s4,.int .i64 s5,.bool zl] 58∧Stp (jh m) o o4 w w4∧o4 w.heap.size=(m.y.l.id+1,0)∧o4 (w.heap.size+1)=(m.y.l.id+1,0) ∧
   W3.heap.size≤w4.heap.size∧w.heap.size+2≤W3.heap.size∧(∀ (b:Nat)(cs:Array Value)(t:TypeId),W3.heap.size≤b→Blk Wp b cs t→Blk w4 b cs t∧o4 b=(m.y.l.id+1,0))∧(w4.cell? ⟨m.mb,0,none⟩=some (ptr m.y.sb)∧w4.cell? ⟨m.mb,1,none⟩=some (.slice (some ⟨gp0,0,none⟩) nh cp0)∧w4.cell? ⟨gp0,T,none⟩=some (.slice a P c)) from by
   have n1:¬qh m.y (m.y.l.id+1,0):=fun e=>by unfold qh at e;simp at e
   have hbq:Below w2.heap.size w2 Wp:=qd hb3 hbp;have hM4:=(HM2.out.below hbq).store hS4 hs4;have oB:=HO.out (w.heap.size+1) (by omega)
   have jAp:=HJA.out.below hbq HJA.out.lt;have jBp:=jx3.below hbp jx3.lt;have lB:=jx3.lt;have sw:Stp (jh m) o o4 w w4:=(HSW.out.trans (Stp.of_below hbq)).trans (hs4.mono fun _ h=>py h)
   exact⟨hM4,jAp.stp hs4 (by rw[oA];exact n1),jBp.stp hs4 (by rw[oB];exact n1),sw,(hs4.tags _ jAp.lt).trans oA,(hs4.tags _ jBp.lt).trans oB,Nat.le_trans hbp.size hs4.size,lB,fun b cs t hb j=>by
    have ob:=HO.out b (by omega)
    exact⟨j.stp hs4 (by rw[ob];exact n1),(hs4.tags _ j.lt).trans ob⟩,by
    have jm4:=(jm3.below hbp jm3.lt).stp hs4 (by rw[HM2.out.om];intro e;unfold qh at e;simp at e)
    have og:o gp0=(m.y.l.id+2,4):=by
     obtain⟨_,vs,_,hr,_⟩:=HM2.out.ps;rw[HVp.out]at hr;exact hr.otag
    have hcp':=cell_below hc3 hbp;refine⟨jm4.cell 0,jm4.cell 1,?_⟩;have hb:=hs4.block gp0 (qbg hcp') (by rw[og];intro e;unfold qh at e;simp at e)
    rw[World.cell?_of_block (w:=Wp) hb];exact hcp'⟩)
 have lm:=jm3.lt;have lx:=jx3.lt;have lgp:=qbg hc3;have nm:W3.heap.size≠m.mb:=by omega
 have nx:W3.heap.size≠w.heap.size+1:=by omega
 have ng:W3.heap.size≠gp0:=by omega
 have nm':W3.heap.size+1≠m.mb:=by omega
 have nx':W3.heap.size≠w.heap.size:=by omega
 have ng':W3.heap.size+1≠gp0:=by omega
 have xb:=jx3.cell;have m0:=jm3.cell 0;have m1:=jm3.cell 1;simp at m0 m1;have x0:=xb 0;have x1:=xb 1;have x2:=xb 2;have x3:=xb 3;have x4:=xb 4;have x5:=xb 5;have x6:=xb 6;have x7:=xb 7;have x8:=xb 8;have x9:=xb 9;have x10:=xb 10;have x11:=xb 11;have x12:=xb 12;have x13:=xb 13;have x14:=xb 14;simp at x0 x1 x2 x3 x4 x5 x6 x7 x8 x9 x10 x11 x12 x13 x14;clear xb;go_region_held3 (fun w'=>w'.cell? ⟨m.mb,0,none⟩=some (ptr m.y.sb)∧w'.cell? ⟨m.mb,1,none⟩=some (.slice (some ⟨gp0,0,none⟩) nh cp0)∧w'.cell? ⟨gp0,T,none⟩=some (.slice a P c)∧w'.cell? ⟨w.heap.size+1,0,none⟩=some (.int .i64 zb)∧w'.cell? ⟨w.heap.size+1,1,none⟩=some (.int .i64 zn)∧w'.cell? ⟨w.heap.size+1,2,none⟩=some (.int .i64 a0)∧w'.cell? ⟨w.heap.size+1,3,none⟩=some (.int .i64 a1)∧w'.cell? ⟨w.heap.size+1,4,none⟩=some (.int .i64 a2)∧w'.cell? ⟨w.heap.size+1,5,none⟩=some (.int .i64 a3)∧w'.cell? ⟨w.heap.size+1,6,none⟩=some (.int .i64 a4)∧w'.cell? ⟨w.heap.size+1,7,none⟩=some (.int .i64 a5)∧w'.cell? ⟨w.heap.size+1,8,none⟩=some (.int .i64 s0)∧w'.cell? ⟨w.heap.size+1,9,none⟩=some (.int .i64 s1)∧w'.cell? ⟨w.heap.size+1,10,none⟩=some (.int .i64 s2)∧w'.cell? ⟨w.heap.size+1,11,none⟩=some (.int .i64 s3)∧w'.cell? ⟨w.heap.size+1,12,none⟩=some (.int .i64 s4)∧w'.cell? ⟨w.heap.size+1,13,none⟩=some (.int .i64 s5)∧w'.cell? ⟨w.heap.size+1,14,none⟩=some (.bool zl)) (go_keep) (first
  | (go_at_call 93;first
   | (refine (HStep.out _ (qe hb3)).mono ?_;rintro e w4 ⟨rfl,o4,hS4,hI4,hs4⟩;obtain⟨hM4,jA4,jB4,sw4,oA4,oB4,lz4,lz3,hp4,y0,y1,y2⟩:=HX4.out _ w4 o4 (qe (qc W3)) hS4 hs4;have xb:=jB4.cell;have x0:=xb 0;have x1:=xb 1;have x2:=xb 2;have x3:=xb 3;have x4:=xb 4;have x5:=xb 5;have x6:=xb 6;have x7:=xb 7;have x8:=xb 8;have x9:=xb 9;have x10:=xb 10;have x11:=xb 11;have x12:=xb 12;have x13:=xb 13;have x14:=xb 14;simp at x0 x1 x2 x3 x4 x5 x6 x7 x8 x9 x10 x11 x12 x13 x14;clear xb;have nm4:w4.heap.size≠m.mb:=(by omega);have nx4:w4.heap.size≠w.heap.size+1:=(by omega);have ng4:w4.heap.size≠gp0:=(by omega);have nm5:w4.heap.size+1≠m.mb:=(by omega);have nx5:w4.heap.size≠w.heap.size:=(by omega);have ng5:w4.heap.size+1≠gp0:=(by omega))
   | (refine (HStep.out _ (qa (qe hb3) _)).mono ?_;rintro e w4 ⟨rfl,o4,hS4,hI4,hs4⟩;obtain⟨hM4,jA4,jB4,sw4,oA4,oB4,lz4,lz3,hp4,y0,y1,y2⟩:=HX4.out _ w4 o4 (qa (qe (qc W3)) _) hS4 hs4;have xb:=jB4.cell;have x0:=xb 0;have x1:=xb 1;have x2:=xb 2;have x3:=xb 3;have x4:=xb 4;have x5:=xb 5;have x6:=xb 6;have x7:=xb 7;have x8:=xb 8;have x9:=xb 9;have x10:=xb 10;have x11:=xb 11;have x12:=xb 12;have x13:=xb 13;have x14:=xb 14;simp at x0 x1 x2 x3 x4 x5 x6 x7 x8 x9 x10 x11 x12 x13 x14;clear xb;have nm4:w4.heap.size≠m.mb:=(by omega);have nx4:w4.heap.size≠w.heap.size+1:=(by omega);have ng4:w4.heap.size≠gp0:=(by omega);have nm5:w4.heap.size+1≠m.mb:=(by omega);have nx5:w4.heap.size≠w.heap.size:=(by omega);have ng5:w4.heap.size+1≠gp0:=(by omega);obtain⟨jp,op⟩:=hp4 W3.heap.size _ _ (Nat.le_refl _) (Blk.new W3.drew _ _);have cp:=jp.cell;have zp:=jp.free;have lp:=jp.lt)
   | (refine (HStep.out _ (qa (qa (qe hb3) _) _)).mono ?_;rintro e w4 ⟨rfl,o4,hS4,hI4,hs4⟩;obtain⟨hM4,jA4,jB4,sw4,oA4,oB4,lz4,lz3,hp4,y0,y1,y2⟩:=HX4.out _ w4 o4 (qa (qa (qe (qc W3)) _) _) hS4 hs4;have xb:=jB4.cell;have x0:=xb 0;have x1:=xb 1;have x2:=xb 2;have x3:=xb 3;have x4:=xb 4;have x5:=xb 5;have x6:=xb 6;have x7:=xb 7;have x8:=xb 8;have x9:=xb 9;have x10:=xb 10;have x11:=xb 11;have x12:=xb 12;have x13:=xb 13;have x14:=xb 14;simp at x0 x1 x2 x3 x4 x5 x6 x7 x8 x9 x10 x11 x12 x13 x14;clear xb;have nm4:w4.heap.size≠m.mb:=(by omega);have nx4:w4.heap.size≠w.heap.size+1:=(by omega);have ng4:w4.heap.size≠gp0:=(by omega);have nm5:w4.heap.size+1≠m.mb:=(by omega);have nx5:w4.heap.size≠w.heap.size:=(by omega);have ng5:w4.heap.size+1≠gp0:=(by omega);obtain⟨jp,op⟩:=hp4 W3.heap.size _ _ (Nat.le_refl _) ((Blk.new W3.drew _ _).alloc _);obtain⟨jq,oq⟩:=hp4 (W3.heap.size+1) _ _ (Nat.le_succ _) (Blk.new_at (W3.drew.alloc _) _ _ _ (W3.heap.size+1) (by simp) rfl);have cp:=jp.cell;have zp:=jp.free;have lp:=jp.lt;have cq:=jq.cell;have zq:=jq.free;have lq:=jq.lt))
  | fail)
 all_goals
  have hA4:Af m { M with S:=RS } o w #[.int .i64 0,.int .i64 0,.int .i64 0] #[.int .i64 zb,.int .i64 zn,.int .i64 a0,.int .i64 a1,.int .i64 a2,.int .i64 a3,.int .i64 a4,.int .i64 a5,.int .i64 s0,.int .i64 s1,.int .i64 s2,.int .i64 s3,.int .i64 s4,.int .i64 s5,.bool zl] w4 o4:=⟨hM4,jA4,jB4,sw4,oA4,oB4⟩;clear hM4 jA4 jB4 sw4 oA4 oB4 x0 x1 x2 x3 x4 x5 x6 x7 x8 x9 x10 x11 x12 x13 x14;first
   | (obtain⟨W5,hW5⟩:∃ W5:World,W5=(w4.alloc (.cells #[.int .i64 rb,.int .i64 rn,.int .i64 b0,.int .i64 b1,.int .i64 b2,.int .i64 b3,.int .i64 b4,.int .i64 b5,.int .i64 d0,.int .i64 d1,.int .i64 d2,.int .i64 d3,.int .i64 d4,.int .i64 d5,.bool rl] 58)).alloc (.cells #[.int .i64 ak,.int .i64 ae,.int .i64 av] 54):=⟨_,rfl⟩;have HH:∃ o5,Af m { M with S:=RS } o w #[.int .i64 0,.int .i64 0,.int .i64 0] #[.int .i64 zb,.int .i64 zn,.int .i64 a0,.int .i64 a1,.int .i64 a2,.int .i64 a3,.int .i64 a4,.int .i64 a5,.int .i64 s0,.int .i64 s1,.int .i64 s2,.int .i64 s3,.int .i64 s4,.int .i64 s5,.bool zl] W5 o5∧Blk W5 w4.heap.size #[.int .i64 rb,.int .i64 rn,.int .i64 b0,.int .i64 b1,.int .i64 b2,.int .i64 b3,.int .i64 b4,.int .i64 b5,.int .i64 d0,.int .i64 d1,.int .i64 d2,.int .i64 d3,.int .i64 d4,.int .i64 d5,.bool rl] 58∧Blk W5 (w4.heap.size+1) #[.int .i64 ak,.int .i64 ae,.int .i64 av] 54∧o5 w4.heap.size=(m.y.l.id+1,0)∧o5 (w4.heap.size+1)=(m.y.l.id+1,0):=(by rw[hW5];exact hA4.way1 ⟨rb,rn,⟨b0,b1,b2,b3,b4,b5⟩,⟨d0,d1,d2,d3,d4,d5⟩,rl⟩ ⟨ak,ae,av⟩);(try unfold thW at hW5);(try unfold vg at hW5);(try simp only at hW5);rw[←hW5];clear hW5;obtain⟨o5,hA5,jC,jD,oC,oD⟩:=HH)
   | (obtain⟨W5,hW5⟩:∃ W5:World,W5=(w4.alloc (.cells #[.int .i64 ak,.int .i64 ae,.int .i64 av] 54)).alloc (.cells #[.int .i64 rb,.int .i64 rn,.int .i64 b0,.int .i64 b1,.int .i64 b2,.int .i64 b3,.int .i64 b4,.int .i64 b5,.int .i64 d0,.int .i64 d1,.int .i64 d2,.int .i64 d3,.int .i64 d4,.int .i64 d5,.bool rl] 58):=⟨_,rfl⟩;have HH:∃ o5,Af m { M with S:=RS } o w #[.int .i64 0,.int .i64 0,.int .i64 0] #[.int .i64 zb,.int .i64 zn,.int .i64 a0,.int .i64 a1,.int .i64 a2,.int .i64 a3,.int .i64 a4,.int .i64 a5,.int .i64 s0,.int .i64 s1,.int .i64 s2,.int .i64 s3,.int .i64 s4,.int .i64 s5,.bool zl] W5 o5∧Blk W5 (w4.heap.size+1) #[.int .i64 rb,.int .i64 rn,.int .i64 b0,.int .i64 b1,.int .i64 b2,.int .i64 b3,.int .i64 b4,.int .i64 b5,.int .i64 d0,.int .i64 d1,.int .i64 d2,.int .i64 d3,.int .i64 d4,.int .i64 d5,.bool rl] 58∧Blk W5 w4.heap.size #[.int .i64 ak,.int .i64 ae,.int .i64 av] 54∧o5 (w4.heap.size+1)=(m.y.l.id+1,0)∧o5 w4.heap.size=(m.y.l.id+1,0):=(by rw[hW5];exact hA4.way2 ⟨rb,rn,⟨b0,b1,b2,b3,b4,b5⟩,⟨d0,d1,d2,d3,d4,d5⟩,rl⟩ ⟨ak,ae,av⟩);(try unfold thW at hW5);(try unfold vg at hW5);(try simp only at hW5);rw[←hW5];clear hW5;obtain⟨o5,hA5,jC,jD,oC,oD⟩:=HH)
   | (obtain⟨W5,hW5⟩:∃ W5:World,W5=(thW w4 W3.heap.size ⟨rb,rn,⟨b0,b1,b2,b3,b4,b5⟩,⟨d0,d1,d2,d3,d4,d5⟩,rl⟩).alloc (.cells #[.int .i64 ak,.int .i64 ae,.int .i64 av] 54):=⟨_,rfl⟩;have HH:∃ o5,Af m { M with S:=RS } o w #[.int .i64 0,.int .i64 0,.int .i64 0] #[.int .i64 zb,.int .i64 zn,.int .i64 a0,.int .i64 a1,.int .i64 a2,.int .i64 a3,.int .i64 a4,.int .i64 a5,.int .i64 s0,.int .i64 s1,.int .i64 s2,.int .i64 s3,.int .i64 s4,.int .i64 s5,.bool zl] W5 o5∧Blk W5 W3.heap.size #[.int .i64 rb,.int .i64 rn,.int .i64 b0,.int .i64 b1,.int .i64 b2,.int .i64 b3,.int .i64 b4,.int .i64 b5,.int .i64 d0,.int .i64 d1,.int .i64 d2,.int .i64 d3,.int .i64 d4,.int .i64 d5,.bool rl] 58∧Blk W5 w4.heap.size #[.int .i64 ak,.int .i64 ae,.int .i64 av] 54∧o5 W3.heap.size=(m.y.l.id+1,0)∧o5 w4.heap.size=(m.y.l.id+1,0):=(by rw[hW5];exact hA4.way3 lz3 op jp ⟨rb,rn,⟨b0,b1,b2,b3,b4,b5⟩,⟨d0,d1,d2,d3,d4,d5⟩,rl⟩ ⟨ak,ae,av⟩);(try unfold thW at hW5);(try unfold vg at hW5);(try simp only at hW5);rw[←hW5];clear hW5;obtain⟨o5,hA5,jC,jD,oC,oD⟩:=HH)
   | (obtain⟨W5,hW5⟩:∃ W5:World,W5=(vg w4 W3.heap.size ⟨ak,ae,av⟩).alloc (.cells #[.int .i64 rb,.int .i64 rn,.int .i64 b0,.int .i64 b1,.int .i64 b2,.int .i64 b3,.int .i64 b4,.int .i64 b5,.int .i64 d0,.int .i64 d1,.int .i64 d2,.int .i64 d3,.int .i64 d4,.int .i64 d5,.bool rl] 58):=⟨_,rfl⟩;have HH:∃ o5,Af m { M with S:=RS } o w #[.int .i64 0,.int .i64 0,.int .i64 0] #[.int .i64 zb,.int .i64 zn,.int .i64 a0,.int .i64 a1,.int .i64 a2,.int .i64 a3,.int .i64 a4,.int .i64 a5,.int .i64 s0,.int .i64 s1,.int .i64 s2,.int .i64 s3,.int .i64 s4,.int .i64 s5,.bool zl] W5 o5∧Blk W5 w4.heap.size #[.int .i64 rb,.int .i64 rn,.int .i64 b0,.int .i64 b1,.int .i64 b2,.int .i64 b3,.int .i64 b4,.int .i64 b5,.int .i64 d0,.int .i64 d1,.int .i64 d2,.int .i64 d3,.int .i64 d4,.int .i64 d5,.bool rl] 58∧Blk W5 W3.heap.size #[.int .i64 ak,.int .i64 ae,.int .i64 av] 54∧o5 w4.heap.size=(m.y.l.id+1,0)∧o5 W3.heap.size=(m.y.l.id+1,0):=(by rw[hW5];exact hA4.way5 lz3 op jp ⟨rb,rn,⟨b0,b1,b2,b3,b4,b5⟩,⟨d0,d1,d2,d3,d4,d5⟩,rl⟩ ⟨ak,ae,av⟩);(try unfold thW at hW5);(try unfold vg at hW5);(try simp only at hW5);rw[←hW5];clear hW5;obtain⟨o5,hA5,jC,jD,oC,oD⟩:=HH)
   | (obtain⟨W5,hW5⟩:∃ W5:World,W5=vg (thW w4 W3.heap.size ⟨rb,rn,⟨b0,b1,b2,b3,b4,b5⟩,⟨d0,d1,d2,d3,d4,d5⟩,rl⟩) (W3.heap.size+1) ⟨ak,ae,av⟩:=⟨_,rfl⟩;have HH:∃ o5,Af m { M with S:=RS } o w #[.int .i64 0,.int .i64 0,.int .i64 0] #[.int .i64 zb,.int .i64 zn,.int .i64 a0,.int .i64 a1,.int .i64 a2,.int .i64 a3,.int .i64 a4,.int .i64 a5,.int .i64 s0,.int .i64 s1,.int .i64 s2,.int .i64 s3,.int .i64 s4,.int .i64 s5,.bool zl] W5 o5∧Blk W5 W3.heap.size #[.int .i64 rb,.int .i64 rn,.int .i64 b0,.int .i64 b1,.int .i64 b2,.int .i64 b3,.int .i64 b4,.int .i64 b5,.int .i64 d0,.int .i64 d1,.int .i64 d2,.int .i64 d3,.int .i64 d4,.int .i64 d5,.bool rl] 58∧Blk W5 (W3.heap.size+1) #[.int .i64 ak,.int .i64 ae,.int .i64 av] 54∧o5 W3.heap.size=(m.y.l.id+1,0)∧o5 (W3.heap.size+1)=(m.y.l.id+1,0):=(by rw[hW5];exact hA4.way4 (by omega) lz3 op jp (by omega) oq jq ⟨rb,rn,⟨b0,b1,b2,b3,b4,b5⟩,⟨d0,d1,d2,d3,d4,d5⟩,rl⟩ ⟨ak,ae,av⟩);(try unfold thW at hW5);(try unfold vg at hW5);(try simp only at hW5);rw[←hW5];clear hW5;obtain⟨o5,hA5,jC,jD,oC,oD⟩:=HH)
   | (obtain⟨W5,hW5⟩:∃ W5:World,W5=vg (thW w4 (W3.heap.size+1) ⟨rb,rn,⟨b0,b1,b2,b3,b4,b5⟩,⟨d0,d1,d2,d3,d4,d5⟩,rl⟩) W3.heap.size ⟨ak,ae,av⟩:=⟨_,rfl⟩;have HH:∃ o5,Af m { M with S:=RS } o w #[.int .i64 0,.int .i64 0,.int .i64 0] #[.int .i64 zb,.int .i64 zn,.int .i64 a0,.int .i64 a1,.int .i64 a2,.int .i64 a3,.int .i64 a4,.int .i64 a5,.int .i64 s0,.int .i64 s1,.int .i64 s2,.int .i64 s3,.int .i64 s4,.int .i64 s5,.bool zl] W5 o5∧Blk W5 (W3.heap.size+1) #[.int .i64 rb,.int .i64 rn,.int .i64 b0,.int .i64 b1,.int .i64 b2,.int .i64 b3,.int .i64 b4,.int .i64 b5,.int .i64 d0,.int .i64 d1,.int .i64 d2,.int .i64 d3,.int .i64 d4,.int .i64 d5,.bool rl] 58∧Blk W5 W3.heap.size #[.int .i64 ak,.int .i64 ae,.int .i64 av] 54∧o5 (W3.heap.size+1)=(m.y.l.id+1,0)∧o5 W3.heap.size=(m.y.l.id+1,0):=(by rw[hW5];exact hA4.way4 (by omega) (by omega) oq jq lz3 op jp ⟨rb,rn,⟨b0,b1,b2,b3,b4,b5⟩,⟨d0,d1,d2,d3,d4,d5⟩,rl⟩ ⟨ak,ae,av⟩);(try unfold thW at hW5);(try unfold vg at hW5);(try simp only at hW5);rw[←hW5];clear hW5;obtain⟨o5,hA5,jC,jD,oC,oD⟩:=HH)
  exact HX.out _ _ _ _ _ _ _ _ _ _ _ _ _ _ _ _ _ _ _ _ _ hA5 jC jD oC oD
end
theorem RgN.places {r:R6}(h:RgN r):r.places.map nv=[.int .i64 r.a0,.int .i64 r.a1,.int .i64 r.a2,.int .i64 r.a3,.int .i64 r.a4,.int .i64 r.a5]:=by
 have f:∀ j,j<6→((r.get j).toNat:Int)=r.get j:=fun j hj=>by obtain⟨p,hp⟩:=h j hj;rw[hp];simp
 have h0:=f 0 (by omega)
 have h1:=f 1 (by omega)
 have h2:=f 2 (by omega)
 have h3:=f 3 (by omega)
 have h4:=f 4 (by omega)
 have h5:=f 5 (by omega)
 simp only[R6.get]at h0 h1 h2 h3 h4 h5;simp only[R6.places,List.map_cons,List.map_nil,nv,h0,h1,h2,h3,h4,h5]
theorem qi1 {w w':World}{b:Nat}{cs:List Value}{e:TypeId}(h:Blk w' b cs.toArray e)(hb:w.heap.size≤b)(hl:cs.length≤maxLen):Row w' (fo w.heap.size) (1,0) e 1 (.slice (some ⟨b,0,none⟩) cs.length cs.length) cs.length cs:=by
 refine⟨⟨by simp,.inr ⟨b,cs.length,cs.toArray,rfl,Nat.zero_le _,h,Nat.le_refl _,hl,by simp,by simp⟩⟩,fun k hk=>?_⟩
 have:b=k:=by simpa [Value.ownBlock] using hk
 subst this;exact fo_ge hb
theorem qh8 {h:ThV}(hr:RgN h.r)(hs:RgN h.s)(w:World):Calls Tryz.prog 150 #[h.v] w fun e w'=>∃ b,e=.returned (.slice (some ⟨b,0,none⟩) 12 12) ∧
  Row w' (fo w.heap.size) (1,0) 3 1 (.slice (some ⟨b,0,none⟩) 12 12) 12 (h.roots.map nv)∧Below w.heap.size w w':=by
 refine (qew h w).mono ?_
 rintro e w' ⟨rfl,hb,hbl⟩
 refine⟨_,rfl,?_,hbl⟩;have e1:h.roots.map nv=[.int .i64 h.r.a0,.int .i64 h.r.a1,.int .i64 h.r.a2,.int .i64 h.r.a3,.int .i64 h.r.a4,.int .i64 h.r.a5,.int .i64 h.s.a0,.int .i64 h.s.a1,.int .i64 h.s.a2,.int .i64 h.s.a3,.int .i64 h.s.a4,.int .i64 h.s.a5]:=by
  unfold ThV.roots;rw[List.map_append,hr.places,hs.places];rfl
 rw[e1];exact qi1 (cs:=[.int .i64 h.r.a0,.int .i64 h.r.a1,.int .i64 h.r.a2,.int .i64 h.r.a3,.int .i64 h.r.a4,.int .i64 h.r.a5,.int .i64 h.s.a0,.int .i64 h.s.a1,.int .i64 h.s.a2,.int .i64 h.s.a3,.int .i64 h.s.a4,.int .i64 h.s.a5]) hb (by omega) (by simp[maxLen])
theorem qma (h:ThV):h.roots.length=12:=rfl
theorem qm2 {l:List ThV}{k:Nat}{h:ThV}(hx:l[k]?=some h):(l.take (k+1)).flatMap ThV.roots=(l.take k).flatMap ThV.roots++h.roots:=by
 rw[List.take_add_one,hx,List.flatMap_append];simp
theorem td (l:List ThV):(l.flatMap ThV.roots).length=l.length*12:=by
 induction l with
 | nil=>rfl
 | cons h l ih=>rw[List.flatMap_cons,List.length_append,ih,List.length_cons,qma];omega
section
variable {w w' : World} {o o' : Own} {m : MLay} {M : Mc}
theorem Mc.ok.rg (hk:M.ok){t:Nat}{h:ThV}(ht:M.hs[t]?=some h):RgN h.r∧RgN h.s:=by
 have hlt:=(List.getElem?_eq_some_iff.1 ht).1;have:=(hk.th t hlt).th;rw[Mc.h_get hlt]at ht;injection ht with ht;rw[ht]at this;exact⟨this.r,this.s⟩
theorem qb9 (h:MIn w o m M)(hk:M.ok) :
  Calls Tryz.prog 88 #[ptr m.mb] w fun e w'=>∃ v',e=.returned v'∧Row w' (fo w.heap.size) (1,0) 3 1 v' M.roots.length (M.roots.map nv)∧Below w.heap.size w w':=by
 obtain⟨iI,hi,hsI,hyI,hzI⟩:=zg;have hu64:=Tryz.underlying25;obtain⟨ve,jb,_⟩:=h.blk;have hn8:M.hs.length≤8:=by rw[hk.len];exact hk.n8
 have hhs:=h.hs;obtain⟨ph,ch,hvh⟩:=hhs.slc;rw[hvh]at hhs jb;have HHS:=Lib.hid hhs;have HRG:=Lib.hid (fun (t:Nat)(z:ThV)(ht:M.hs[t]?=some z)=>hk.rg ht)
 unfold Mc.roots;obtain⟨hs,hhe⟩:∃ hs,hs=M.hs:=⟨_,rfl⟩;rw[←hhe]at HHS HRG hn8 jb ⊢;have c:=jb.cell;clear h hk hhs hvh hhe;go_enter Tryz.func88,Tryz.ntmps88;go_wp2_with fail;clear c jb;go_loopw [3,11] (fun vv ix wr=>∃ k:Nat,ix=.int .i64 k∧k≤hs.length∧Row wr (fo w.heap.size) (1,0) 3 1 vv (k*12) (((hs.take k).flatMap ThV.roots).map nv)∧Below w.heap.size w wr) (fun _ ix _=>hs.length-(intOf ix).toNat)
 case atStart=>exact⟨0,rfl,Nat.zero_le _,Row.nil _ _ _ _ _,qc w⟩
 case round =>
  obtain⟨k,rfl,hkn,hr,hb⟩:=hrel;obtain⟨pp,cc,rfl⟩:=hr.slc;by_cases hlt:k<hs.length
  ·have hkI:(k:Int)<(hs.length:Int):=by omega
   obtain⟨z,hz⟩:∃ z,hs[k]?=some z:=⟨_,List.getElem?_eq_getElem hlt⟩;obtain⟨gq,rfl,hcap,q⟩:=(HHS.out.below hb).th15 hz;obtain⟨q0,q1,q2,q3,q4,q5,q6,q7,q8,q9,q10,q11,q12,q13,q14⟩:=q;obtain⟨hw1,hw2⟩:=qr k (by omega)
   have hk1:Hid (k*12+12≤maxLen∧(k*12+12)*8≤140737488355328):=by show _∧_;simp only[maxLen];omega
   have HTK:=Lib.hid (qm2 hz);have HG:=Lib.hid (HRG.out k z hz);have HR:=Lib.hid hr;have HTR:=Lib.hid (fun w=>qh8 HG.out.1 HG.out.2 w)
   obtain⟨zb,zn,⟨a0,a1,a2,a3,a4,a5⟩,⟨s0,s1,s2,s3,s4,s5⟩,zl⟩:=z;simp only at q0 q1 q2 q3 q4 q5 q6 q7 q8 q9 q10 q11 q12 q13 q14;unfold ThV.v ThV.cells at HTR;simp only at HTR;clear hr hz;go_wp2_with (first
    | (go_at_call 150;refine (HTR.out _).mono ?_;rintro e w3⟨b3,rfl,hr3,hb3⟩)
    | (at_builtin;refine zj _ rfl _ _ _ rfl 3 iI _ 1 8 hu64 hi hzI hsI hyI rfl (by decide) (fo w.heap.size) (1,0) _ _ _ rfl (Row.below (Row.below HR.out (qa (qc _) _)) hb3) _ _ _ _ _ rfl hr3 (bc _) hk1.out.1 hk1.out.2 ?_;intro v' w8 hown hst)
    | fail)
   have hb8:=qd (qa hb _) hb3;have hr9:=xx hb8 hown;have hb9:=wn hb8 hst;go_roundw
   case rel=>exact⟨k+1,by simp,by omega,by rw[HTK.out,List.map_append,Nat.succ_mul];exact hr9,hb9⟩
   case measure=>simp[intOf];omega
  ·obtain rfl:k=hs.length:=by omega
   rw[List.take_length]at hr;go_wp2_with fail;go_ret;exact⟨_,rfl,hr.ite (td _).symm rfl,hb⟩
end
def pk (c:Int)(n:Nat):Nat:=(if c<0 then (-(c+1)).toNat else c.toNat)%n
theorem pk_lt (c:Int){n:Nat}(h:1≤n):pk c n<n:=Nat.mod_lt _ h
theorem dw (c:Int)(hc:-9223372036854775808≤c∧c≤9223372036854775807)(n:Nat)(h1:1≤n)(h2:n≤100)(w:World) :
  Calls Tryz.prog 30 #[.int .i64 c,.int .i64 n] w fun e w'=>e=.returned (.int .i64 (pk c n))∧w=w':=by
 obtain⟨c1,c2⟩:=hc;have hn0:((n:Int)==0)=false:=by rw[beq_eq_false_iff_ne];omega
 have hnI:(1:Int)≤(n:Int):=by omega
 have hnJ:(n:Int)≤100:=by omega
 rcases Int.lt_or_le c 0 with h|h
 ·have e1:(pk c n:Int)=(-(c+1))%(n:Int):=by
   unfold pk;rw[if_pos h];rw[Int.natCast_emod];congr 1;omega
  have b1:0≤-(c+1):=by omega
  have b2:-(c+1)≤9223372036854775807:=by omega
  have HE:=Lib.hid e1;clear e1 h1 h2;go_enter Tryz.func30,Tryz.ntmps30;go_wp2_with fail;go_ret;exact⟨fq (by rw[HE.out];first|rfl|rw[←Int.tmod_eq_emod_of_nonneg b1,Int.neg_tmod]),rfl⟩
 ·have e1:(pk c n:Int)=c%(n:Int):=by
   unfold pk;rw[if_neg (by omega)];rw[Int.natCast_emod];congr 1;omega
  have HE:=Lib.hid e1;clear e1 h1 h2;go_enter Tryz.func30,Tryz.ntmps30;go_wp2_with fail;go_ret;exact⟨fq (by rw[HE.out]),rfl⟩
theorem qcb:∀ (l:List EnV)(k:Nat)(x:EnV),l[k]?=some x→∀ j,j<6→(qw l)[k*6+j]?=[Value.int .i64 x.t,.int .i64 x.b,.int .i64 x.n,.int .i64 x.a.k,.int .i64 x.a.e,.int .i64 x.a.v][j]?
 | [],_,_,h,_,_=>by simp at h
 | z::l,0,x,h,j,hj=>by
  simp at h;subst h;have e:qw (z::l)=[Value.int .i64 z.t,.int .i64 z.b,.int .i64 z.n,.int .i64 z.a.k,.int .i64 z.a.e,.int .i64 z.a.v]++qw l:=rfl;rw[e,Nat.zero_mul,Nat.zero_add,List.getElem?_append_left (by simpa using hj)]
 | z::l,k+1,x,h,j,hj=>by
  have ih:=qcb l k x (by simpa using h) j hj
  have e:qw (z::l)=[Value.int .i64 z.t,.int .i64 z.b,.int .i64 z.n,.int .i64 z.a.k,.int .i64 z.a.e,.int .i64 z.a.v]++qw l:=rfl;rw[e,show (k+1)*6+j=6+(k*6+j) from by omega,List.getElem?_append_right (by simp),←ih]
  congr 1;simp
structure En6 (w:World)(g b:Nat)(x:EnV):Prop where
 c0:w.cell? ⟨g,b,none⟩=some (.int .i64 x.t)
 c1:w.cell? ⟨g,b+1,none⟩=some (.int .i64 x.b)
 c2:w.cell? ⟨g,b+2,none⟩=some (.int .i64 x.n)
 c3:w.cell? ⟨g,b+3,none⟩=some (.int .i64 x.a.k)
 c4:w.cell? ⟨g,b+4,none⟩=some (.int .i64 x.a.e)
 c5:w.cell? ⟨g,b+5,none⟩=some (.int .i64 x.a.v)
theorem Row.en6 {w:World}{o:Own}{tg:Tag}{e:TypeId}{n cap:Nat}{pa:Option Addr}{l:List EnV}(hr:Row w o tg e 6 (.slice pa n cap) n (qw l)){t:Nat}{x:EnV}(ht:l[t]?=some x) :
  ∃ g,pa=some ⟨g,0,none⟩∧n≤cap∧En6 w g (t*6) x:=by
 have ha:=qcb l t x ht;rcases hr.form4 with ⟨_,h0⟩|⟨g,cap',e',hn⟩
 ·have:=ha 0 (by omega)
  rw[h0]at this;simp at this
 ·injection e' with e1 _ e3
  subst e1 e3;have f:∀ k u,k<6→[Value.int .i64 x.t,.int .i64 x.b,.int .i64 x.n,.int .i64 x.a.k,.int .i64 x.a.e,.int .i64 x.a.v][k]?=some u→w.cell? ⟨g,t*6+k,none⟩=some u:=fun k u hk hu=>by
   have:=hr.own.cells (g:=g) rfl (t*6+k) u ((ha k hk).trans hu);rwa [addr_add]at this
  exact⟨g,rfl,hn,f 0 _ (by omega) rfl,f 1 _ (by omega) rfl,f 2 _ (by omega) rfl,f 3 _ (by omega) rfl,f 4 _ (by omega) rfl,f 5 _ (by omega) rfl⟩
section
variable {w w' : World} {o o' : Own} {m : MLay} {M : Mc}
open Go.MuLone in
theorem uz (h:MIn w o m M)(hk:M.past.length≤2000) :
  Calls Tryz.prog 36 #[ptr m.mb] w fun e w'=>∃ v',e=.returned v'∧Row w' (fo w.heap.size) (1,0) 69 6 v' M.past.length (qw M.past)∧MIn w' o m M∧Stp (fun t=>t=(m.y.l.id+2,0)) o o w w':=by
 obtain⟨ve,jb,hr⟩:=h.blk;have e1:o m.mb=(m.y.l.id+2,0):=h.om;have HA:=Lib.hid (all_any m.mb M.past ve w o (m.y.l.id+2,3) (jb.cell 3) (jb.cell 5) (jb.free 3) jb.lt hr hk (by rw[e1];simp))
 have HF:=Lib.hid (fun (w1:World)(hb:Below w.heap.size (w.setCell ⟨m.mb,3,none⟩ (.int .i32 1)) w1)=>show MIn (w1.setCell ⟨m.mb,3,none⟩ (.int .i32 0)) o m M∧Stp (fun t=>t=(m.y.l.id+2,0)) o o w (w1.setCell ⟨m.mb,3,none⟩ (.int .i32 0)) from by
  have k1:Stp (fun t=>t=(m.y.l.id+2,0)) o o w (w.setCell ⟨m.mb,3,none⟩ (.int .i32 1)):=(Stp.refl _ o w).setCell (by show o m.mb=_;exact e1) _
  have hb':Below (w.setCell ⟨m.mb,3,none⟩ (.int .i32 1)).heap.size (w.setCell ⟨m.mb,3,none⟩ (.int .i32 1)) w1:=by rw[World.size_setCell];exact hb
  have k2:=k1.trans (Stp.of_below hb');have k3:Stp (fun t=>t=(m.y.l.id+2,0)) o o w (w1.setCell ⟨m.mb,3,none⟩ (.int .i32 0)):=k2.setCell (by show o m.mb=_;exact e1) _
  have j3:=((jb.set 3 (.int .i32 1)).below hb' (jb.set 3 (.int .i32 1)).lt).set 3 (.int .i32 0);exact⟨⟨⟨_,j3,hr.stp k3 (by simp)⟩,h.st.stp k3 (by simp),h.ps.stp k3 (by simp) (by simp),h.hs.stp k3 (by simp),h.om⟩,k3⟩)
 have cb:=jb.cell;have HRw:=Lib.hid (fun (w1:World)(v:Value)(hb:Below w.heap.size (w.setCell ⟨m.mb,3,none⟩ (.int .i32 1)) w1)(hr1:Row w1 (fo w.heap.size) (1,0) 69 6 v M.past.length (qw M.past))=>show Row (w1.setCell ⟨m.mb,3,none⟩ (.int .i32 0)) (fo w.heap.size) (1,0) 69 6 v M.past.length (qw M.past) from
  hr1.stp (T:=fun t=>t=(0,0)) ((Stp.refl _ (fo w.heap.size) w1).setCell (by show fo w.heap.size m.mb=(0,0);exact fo_lt jb.lt) _) (by simp))
 clear h jb hr;go_enter Tryz.func36,Tryz.ntmps36;go_wp2_with fail;refine HA.out.mono ?_
 rintro e w2 ⟨v',w1,rfl,hr1,hb1,rfl⟩
 obtain⟨hM,hs⟩:=HF.out w1 hb1;have hr2:=HRw.out w1 v' hb1 hr1;generalize w1.setCell ⟨m.mb,3,none⟩ (.int .i32 0)=X at *;go_wp2_with fail;go_ret;exact⟨_,rfl,hr2,hM,hs⟩
theorem dz {w:World}{o1 o2:Own}{t1 t2:Tag}{e1 e2:TypeId}{va vb:Value}{es:List EnV}(ha:Row w o1 t1 e1 6 va es.length (qw es))(hb:Row w o2 t2 e2 6 vb es.length (qw es))(hn:es.length≤1099511627776) :
  Calls Tryz.prog 34 #[va,vb] w fun e w'=>e=.returned (.bool true)∧Below w.heap.size w w':=by
 obtain⟨pa,ca,rfl⟩:=ha.slc;obtain⟨pb,cb,rfl⟩:=hb.slc;have HA:=Lib.hid ha;have HB:=Lib.hid hb;obtain⟨n,hnn⟩:∃ n,n=es.length:=⟨_,rfl⟩;rw[←hnn]at HA HB hn ⊢;have HN:=Lib.hid hnn;have HL:=Lib.hid hn;clear ha hb hnn hn;go_enter Tryz.func34,Tryz.ntmps34;go_wp2_with fail;go_loopw [5](fun ix wr=>∃ k:Nat,ix=.int .i64 k∧k≤n∧Below w.heap.size w wr)(fun ix _=>n-(intOf ix).toNat)
 case atStart=>exact⟨0,rfl,Nat.zero_le _,qc w⟩
 case round =>
  obtain⟨k,rfl,hkn,hb⟩:=hrel;by_cases hlt:k<n
  ·have hkI:(k:Int)<(n:Int):=by omega
   obtain⟨hw1,hw2⟩:=yh k n hlt HL.out;obtain⟨x,hx⟩:∃ x,es[k]?=some x:=⟨_,List.getElem?_eq_getElem (by rw[←HN.out];exact hlt)⟩
   obtain⟨ga,rfl,hca,q⟩:=(HA.out.below hb).en6 hx;obtain⟨gb,rfl,hcb,r⟩:=(HB.out.below hb).en6 hx;obtain⟨xt,xb,xn,⟨xk,xe,xv⟩⟩:=x;obtain⟨q0,q1,q2,q3,q4,q5⟩:=q;obtain⟨r0,r1,r2,r3,r4,r5⟩:=r;simp only at q0 q1 q2 q3 q4 q5 r0 r1 r2 r3 r4 r5;clear hx;go_upto_region 6 with fail;go_region;go_wp2_with fail;go_roundw
   case rel=>exact⟨k+1,by simp,hlt,by first|exact hb|exact qe hb⟩
   case measure=>clear hw1 hw2;simp[intOf];omega
  ·obtain rfl:k=n:=by omega
   go_wp2_with fail;go_ret;exact⟨rfl,hb⟩
end
end Go.Proofs.YteehgedabdchcaaGreat
namespace Go.Proofs.YteehgedabdchcaaGreat
open Hp
section
variable {S : Stt} {i : Nat} {M : Mc}
theorem shp_ok {d:DeedV}(hd:d.ok)(h:d.k=1∨d.k=2)(f:Bool):(⟨d.i.toNat,d.n.toNat,false,f⟩:Shp).ok:=by
 have hs:=hd.s h;exact⟨by simp only;omega,by simp only;omega,fun h=>by simp at h⟩
theorem tdeed_ok (hk:S.ok)(hi:i<S.txs.length)(h:ThV){d:DeedV}(hd:d.ok):(S.tdeed i h d).S.ok:=by
 have hkd:=hd.k;by_cases k1:d.k=1
 ·rw[ry _ _ _ _ k1];exact (Good.deed hk hi (y8 hk hi (shp_ok hd (.inl k1) _))).1
 by_cases k2:d.k=2
 ·rw[ni _ _ _ _ k2];exact (Good.deed hk hi (y8 hk hi (shp_ok hd (.inr k2) _))).1
 by_cases k3:d.k=3
 ·rw[sn _ _ _ _ k3];exact (Good.deed hk hi (du hk hi _)).1
 by_cases k4:d.k=4
 ·rw[co _ _ _ _ k4];exact (Good.deed hk hi (lj hk hi _ _)).1
 by_cases k9:d.k=9
 ·rw[ce _ _ _ _ k9];exact (Good.deed hk hi (bi hk hi _)).1
 by_cases k10:d.k=10
 ·rw[fw _ _ _ _ k10];exact (Good.deed hk hi (bg hk hi)).1
 by_cases k5:d.k=5
 ·rw[sm _ _ _ _ k5];exact (Good.deed hk hi (lr hk hi _ _ _)).1
 by_cases k6:d.k=6
 ·rw[nf _ _ _ _ k6];exact (Good.deed hk hi (bp hk hi _ _)).1
 by_cases k7:d.k=7
 ·rw[sa _ _ _ _ k7];exact (Good.deed hk hi (gd hk hi _ _ hd.n)).1
 by_cases k8:d.k=8
 ·rw[bw _ _ _ _ k8];exact (Good.deed hk hi (ba hk hi _)).1
 by_cases k11:d.k=11
 ·rw[fx _ _ _ _ k11];exact hk
 by_cases k12:d.k=12
 ·rw[ff _ _ _ _ k12];exact hk
 by_cases k13:d.k=13
 ·rw[fp _ _ _ _ k13];exact hk
 ·rw[fy _ _ _ _ (by omega)];exact Stt.ok_abort hk hi
theorem tstep_ok {l:List (List DeedV)}{h:ThV}(hk:S.ok)(hi:i<S.txs.length)(hd:∀ ds ∈ l,∀ d ∈ ds,d.ok):(S.tstep i l h).S.ok:=by
 unfold Stt.tstep;split
 ·exact hk
 ·split
  ·unfold Stt.tbegin
   split<;>exact qes hk hi
  ·split
   ·unfold Stt.tcommit
    split<;>exact (qa3 hk hi).1
   ·rename_i h1 _ _ d hdm
    by_cases hlt:h.b.toNat<l.length
    ·have e0:l.getD h.b.toNat []=l[h.b.toNat]:=by rw[List.getD_eq_getElem?_getD,List.getElem?_eq_getElem hlt];rfl
     rw[e0]at hdm;exact tdeed_ok hk hi h (hd _ (List.getElem_mem hlt) d (List.mem_of_getElem? hdm))
    ·have e0:l.getD h.b.toNat []=[]:=by rw[List.getD_eq_getElem?_getD,List.getElem?_eq_none (show l.length≤h.b.toNat by omega)];rfl
     rw[e0]at hdm;simp at hdm
theorem Mc.ok.dok (hk:M.ok)(t:Nat):∀ ds ∈ M.p t,∀ d ∈ ds,d.ok∧Pg.right d.D=true:=by
 intro ds hds d hd;by_cases ht:t<M.ps.length
 ·have hm:M.p t ∈ M.ps:=List.mem_of_getElem? (Mc.p_get ht)
  exact ((hk.dk _ hm).2 ds hds).2 d hd
 ·unfold Mc.p at hds
  rw[List.getD_eq_getElem?_getD,List.getElem?_eq_none (by omega)]at hds
  simp at hds
theorem Mc.ok.p6 (hk:M.ok)(t:Nat):(M.p t).length≤6∧∀ ds ∈ M.p t,ds.length≤12:=by
 by_cases ht:t<M.ps.length
 ·have hm:M.p t ∈ M.ps:=List.mem_of_getElem? (Mc.p_get ht)
  exact⟨(hk.dk _ hm).1,fun ds hds=>((hk.dk _ hm).2 ds hds).1⟩
 ·unfold Mc.p
  rw[List.getD_eq_getElem?_getD,List.getElem?_eq_none (by omega)]
  exact⟨by simp,fun ds hds=>by simp at hds⟩
theorem Mc.ok.nb (hk:M.ok){t:Nat}(ht:t<M.hs.length):(0≤(M.h t).n∧(M.h t).n≤12)∧0≤(M.h t).b∧(M.h t).b≤6:=by
 have h:=(hk.th t ht).th;have hp:=hk.p6 t;have hb:=h.b;refine⟨⟨h.n,?_⟩,hb.1,by omega⟩
 cases hl:(M.h t).l with
 | false=>have:=(h.idle hl).1;omega
 | true =>
  obtain⟨h1,h2⟩:=h.at' hl;have hlt:(M.h t).b.toNat<(M.p t).length:=by omega
  rw[List.getD_eq_getElem?_getD,List.getElem?_eq_getElem hlt]at h2;have:=hp.2 _ (List.getElem_mem hlt);simp only[Option.getD_some]at h2;omega
theorem Mc.ok.tst (hk:M.ok){t:Nat}(ht:t<M.hs.length):Tst M.S t (M.p t) (M.h t):=by
 have h:=hk.th t ht;have hb:=hk.nb ht;exact⟨hk.inv,by rw[hk.txs,←hk.len];exact ht,h.lv,h.th.r.rgs _,by omega,by omega,hk.dok t⟩
theorem Mc.ok.keeps (hk:M.ok){t:Nat}(ht:t<M.hs.length):TOk (M.p t) (M.S.tstep t (M.p t) (M.h t)).S t (M.S.tstep t (M.p t) (M.h t)).h∧Ty t M.S (M.S.tstep t (M.p t) (M.h t)).S:=
 qg4 (hk.th t ht) (by rw[hk.txs,←hk.len];exact ht) fun ds hds d hd=>(hk.dok t ds hds d hd).1
theorem qd5 {l:List EnV}(h:l.length≤2000)(x:EnV):(wu l x).length≤2000:=by
 unfold wu;split
 ·rw[List.length_append,List.length_singleton];omega
 ·exact h
theorem bn (k:Int):∀ (ns:List Nat){l:List EnV},l.length≤2000→(zt l k ns).length≤2000
 | [],_,h=>h
 | n::ns,l,h=>bn k ns (l:=wu l ⟨-1,0,0,⟨k,0,n⟩⟩) (qd5 h _)
theorem yy (k:Int)(l:List EnV)(ns:List Nat)(n:Nat):zt l k (ns++[n])=wu (zt l k ns) ⟨-1,0,0,⟨k,0,n⟩⟩:=by unfold zt;rw[List.foldl_append];rfl
theorem h_set (hs:List ThV)(t u:Nat)(z:ThV):(hs.set t z).getD u zTV=if u=t∧t<hs.length then z else hs.getD u zTV:=by
 rw[List.getD_eq_getElem?_getD,List.getElem?_set,List.getD_eq_getElem?_getD];by_cases h:t=u
 ·subst h
  rw[if_pos rfl];by_cases h2:t<hs.length
  ·rw[if_pos h2,if_pos ⟨rfl,h2⟩];rfl
  ·rw[if_neg h2,if_neg (fun z=>h2 z.2),List.getElem?_eq_none (by omega)]
 ·rw[if_neg h,if_neg (fun z=>h z.1.symm)]
theorem Mc.ok_stepN (hk:M.ok){t:Nat}(ht:t<M.hs.length):(M.stepN t).1.ok:=by
 obtain⟨h1,h2⟩:=hk.keeps ht;have h3:=tstep_ok (h:=M.h t) hk.inv (i:=t) (by rw[hk.txs,←hk.len];exact ht) fun ds hds d hd=>(hk.dok t ds hds d hd).1
 refine⟨h3,?_,h2.len.trans hk.txs,hk.n8,?_,hk.dk,?_,h2.lost.trans hk.lo,h2.came.trans hk.ca⟩
 ·show (M.hs.set t _).length=_
  rw[List.length_set];exact hk.len
 ·intro u hu
  have hu':u<M.hs.length:=by simpa [Mc.stepN] using hu
  show TOk (M.p u) _ u ((M.hs.set t _).getD u zTV);rw[h_set];by_cases e:u=t
  ·subst e
   rw[if_pos ⟨rfl,ht⟩];exact h1
  ·rw[if_neg (fun z=>e z.1)]
   have h4:=hk.th u hu';exact⟨h4.th,by show ((M.S.tstep t (M.p t) (M.h t)).S.t u).live=_;rw[h2.oth u e];exact h4.lv⟩
 ·show (if _ then wu M.past _ else M.past).length≤2000
  split
  ·exact qd5 hk.pl _
  ·exact hk.pl
theorem Mc.ok_step (hk:M.ok)(t:Int):(M.step t).1.ok:=by
 unfold Mc.step;split
 ·exact hk
 ·exact Mc.ok_stepN hk (by omega)
def R6.at' (g:Nat→Nat)(r:R6):R6:=⟨g r.a0.toNat,g r.a1.toNat,g r.a2.toNat,g r.a3.toNat,g r.a4.toNat,g r.a5.toNat⟩
def ThV.at' (g:Nat→Nat)(h:ThV):ThV:={ h with r:=h.r.at' g,s:=h.s.at' g }
theorem qb7 (g:Nat→Nat):∀ (hs:List ThV),kh hs ((hs.flatMap ThV.roots).map g)=hs.map (ThV.at' g)
 | []=>rfl
 | h::hs=>by
  have e:((h::hs).flatMap ThV.roots).map g=h.roots.map g++(hs.flatMap ThV.roots).map g:=by rw[List.flatMap_cons,List.map_append]
  rw[e];show h.place _::kh hs _=h.at' g::hs.map (ThV.at' g);rw[←qb7 g hs];rfl
theorem R6.at_n (g:Nat→Nat)(r:R6):RgN (r.at' g):=by
 intro j hj;rcases six hj with rfl|rfl|rfl|rfl|rfl|rfl<;>exact⟨_,rfl⟩
theorem ThOk.moved {l:List (List DeedV)}{h:ThV}(t:ThOk l h)(g:Nat→Nat):ThOk l (h.at' g):=
 ⟨R6.at_n g _,R6.at_n g _,t.n,t.b,t.at',fun hl=>⟨(t.idle hl).1,by show R6.at' g h.r=R6.at' g h.s;rw[(t.idle hl).2]⟩⟩
theorem at_live (S:Stt) (g:Nat→Nat) (i:Nat) (hi:i<S.txs.length):((S.at' g).t i).live=(S.t i).live:=by
 have h1:(S.at' g).txs[i]?=some ((S.t i).at' g):=by
  show (S.txs.map (Tx.at' g))[i]?=_;rw[List.getElem?_map,Stt.t_get hi];rfl
 have h2:=Stt.t_get (S:=S.at' g) (i:=i) (by show i<(S.txs.map _).length;rw[List.length_map];exact hi)
 rw[h1]at h2;injection h2 with h2;rw[←h2];rfl
theorem cycR_txs (S:Stt):S.cycR.1.txs=S.txs:=by
 unfold Stt.cycR;split
 ·rfl
 ·split
  ·rfl
  ·split<;>rfl
theorem qmm {S:Stt}(hk:S.ok):S.stepR.1.txs=S.txs:=((fg _ (si hk).1 (si hk).2).2.1).trans (cycR_txs S)
theorem Mc.ok_told (hk:M.S.ok)(h1:M.hs.length=M.ps.length)(h2:M.S.txs.length=M.ps.length)(h3:M.ps.length≤8)(h4:∀ t,t<M.hs.length→TOk (M.p t) M.S t (M.h t))
  (h5:∀ p ∈ M.ps,p.length≤6∧∀ ds ∈ p,ds.length≤12∧∀ d ∈ ds,d.ok∧Pg.right d.D=true)(h6:M.past.length≤2000):M.told.ok:=
 ⟨Inv.lost0 (Inv.came0 hk),h1,h2,h3,fun t ht=>⟨(h4 t ht).th,(h4 t ht).lv⟩,h5,bn 4 _ (bn 5 _ h6),rfl,rfl⟩
def Mc.col1 (M:Mc):Mc:={ M with S:=(M.S.collectR M.roots).1,hs:=kh M.hs (M.S.collectR M.roots).2.1 }
def Mc.col2 (M:Mc):Mc:={ M with S:=M.S.stepR.1 }
theorem qaz (h0:M.past.length<2000)(h:(M.S.collectR M.roots).2.2=true):M.collect=(M.col1.told,false):=by
 unfold Mc.collect;rw[if_neg (by omega),if_pos h];rfl
theorem qap (h0:M.past.length<2000)(h:(M.S.collectR M.roots).2.2=false):M.collect=(M.col2.told,M.S.stepR.2):=by
 unfold Mc.collect;rw[if_neg (by omega),if_neg (by rw[h];simp)];rfl
theorem qj8 (h:(M.S.collectR M.roots).2.2=true):M.col1.hs=M.hs.map (ThV.at' (M.S.begun M.roots).H.now)∧M.col1.S=(M.S.begun M.roots).at' (M.S.begun M.roots).H.now∧M.S.may M.roots=true:=by
 have hm:M.S.may M.roots=true:=by
  unfold Stt.collectR at h;split at h
  ·assumption
  ·simp at h
 refine⟨?_,?_,hm⟩
 ·show kh M.hs (M.S.collectR M.roots).2.1=_
  unfold Stt.collectR;rw[if_pos hm];exact qb7 _ _
 ·show (M.S.collectR M.roots).1=_
  unfold Stt.collectR;rw[if_pos hm]
theorem h_map (f:ThV→ThV)(hs:List ThV){t:Nat}(ht:t<hs.length):(hs.map f).getD t zTV=f (hs.getD t zTV):=by
 rw[List.getD_eq_getElem?_getD,List.getD_eq_getElem?_getD,List.getElem?_map,List.getElem?_eq_getElem ht];rfl
theorem Mc.ok_col1 (hk:M.ok)(h:(M.S.collectR M.roots).2.2=true):M.col1.S.ok∧M.col1.hs.length=M.ps.length∧M.col1.S.txs.length=M.ps.length∧∀ t,t<M.col1.hs.length→TOk (M.p t) M.col1.S t (M.col1.h t):=by
 obtain⟨e1,e2,hm⟩:=qj8 h;have hl:M.col1.hs.length=M.hs.length:=by rw[e1,List.length_map]
 refine⟨qgy hk.inv _,hl.trans hk.len,(qfi _ _).trans hk.txs,fun t ht=>?_⟩
 rw[hl]at ht;have h4:=hk.th t ht;have e3:M.col1.h t=(M.h t).at' (M.S.begun M.roots).H.now:=by unfold Mc.h;rw[e1];exact h_map _ _ ht
 rw[e3,e2];exact⟨h4.th.moved _,(at_live _ _ _ (by show t<M.S.txs.length;rw[hk.txs,←hk.len];exact ht)).trans h4.lv⟩
theorem Mc.ok_collect (hk:M.ok):M.collect.1.ok:=by
 by_cases h0:M.past.length<2000
 ·cases h:(M.S.collectR M.roots).2.2 with
  | true =>
   rw[qaz h0 h];obtain⟨h1,h2,h3,h4⟩:=Mc.ok_col1 hk h;exact Mc.ok_told h1 h2 h3 hk.n8 h4 hk.dk hk.pl
  | false =>
   rw[qap h0 h];have e:=qmm hk.inv;refine Mc.ok_told (M:=M.col2) (qhf hk.inv) hk.len (by show M.S.stepR.1.txs.length=_;rw[e];exact hk.txs) hk.n8 (fun t ht=>⟨(hk.th t ht).th,?_⟩) hk.dk hk.pl
   have h4:=(hk.th t ht).lv;show (M.S.stepR.1.t t).live=(M.h t).l;unfold Stt.t at h4 ⊢;rw[e];exact h4
 ·unfold Mc.collect
  rw[if_pos (by omega)];exact hk
end
end Go.Proofs.YteehgedabdchcaaGreat
