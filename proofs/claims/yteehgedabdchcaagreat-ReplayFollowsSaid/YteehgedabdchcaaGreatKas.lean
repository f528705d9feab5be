import Derived.Test.YteehgedabdchcaaGreatKad
import Derived.Test.YteehgedabdchcaaGreatKar
import Derived.BigRegion
set_option linter.all false
set_option maxRecDepth 1000000
set_option maxHeartbeats 0
open Go renaming World->Aa,Calls->Ab,Value->Ac
open Go.RowKit renaming Below->Ae
open Go.Value renaming int->I,slice->Ah,agg->Ak
open Go.IntKind renaming i64->Z
open Go.Ending renaming returned->O
open List renaming setIfInBounds_toArray->Ad,set_cons_zero->Ai,set_cons_succ->aa,mem_or_eq_of_mem_set->ag,length_singleton->ai,flatten_cons->ay,eq_of_mem_replicate->aA,set_set->aB,getElem_cons_succ->aD,getElem_cons_zero->aF,getElem_toArray->aG,map_set->aH,getD->aI
open Int renaming toNat_natCast->af,natCast_nonneg->az
open And renaming intro->aj
open Nat renaming zero_le->aC,zero_mul->aJ,zero_add->aK,succ_mul->aL
open Go.Proofs.Tryz
open Go.Proofs.Tryz renaming prog->ARt
namespace Go.Proofs.YteehgedabdchcaaGreat
section
open Go.RowKit Hp
def SN {n:Nat}:∀ (L:List (List Ac)),(∀ x ∈ L,x.length=n)->∀ (k:Nat)(x:List Ac),L[k]?=some x->∀ j,j<n->L.flatten[k*n+j]?=x[j]?
 | [],_,k,x,h,_,_=>by simp at h
 | z::L,hL,0,x,h,j,hj=>by
  simp at h;subst h;rw[ay,aJ,aK,Qm (by rw[hL z (by simp)];exact hj)]
 | z::L,hL,k+1,x,h,j,hj=>by
  have hz:=hL z (by simp)
  have ih:=SN L (fun x hx=>hL x (by simp[hx])) k x (by simpa using h) j hj
  rw[ay,aL,Ql (by rw[hz];omega),hz,<-ih]
  congr 1;omega
def VP {n:Nat}:∀ (L:List (List Ac)),(∀ x ∈ L,x.length=n)->∀ (k:Nat)(x:List Ac),L[k]?=some x->∀ j,j<n->∀ u,L.flatten.set (k*n+j) u=(L.set k (x.set j u)).flatten
 | [],_,k,x,h,_,_,_=>by simp at h
 | z::L,hL,0,x,h,j,hj,u=>by
  simp at h;subst h;rw[ay,aJ,aK,List.set_append_left _ _ (by rw[hL z (by simp)];exact hj)]
  rfl
 | z::L,hL,k+1,x,h,j,hj,u=>by
  have hz:=hL z (by simp)
  have ih:=VP L (fun x hx=>hL x (by simp[hx])) k x (by simpa using h) j hj u
  rw[ay,aL,List.set_append_right _ _ (by rw[hz];omega),hz,show k*n+n+j-n=k*n+j by omega,ih]
  rfl
structure BZ where
 b:Int
 k:Int
def BZ.cells (s:BZ):List Ac:=[I Z s.b,I Z s.k]
structure AK where
 t:Int
 b:Int
 st:Int
 se:Int
 fr:Int
 te:Int
 AX:List A0
 Cu:List Nat
 en:Int
 ve:Int
structure A2 where
 x:AK
 va:Ac
 vt:Ac
def A2.cells (m:A2):List Ac:=[I Z m.x.t,I Z m.x.b,I Z m.x.st,I Z m.x.se,I Z m.x.fr,I Z m.x.te,m.va,m.vt,I Z m.x.en,I Z m.x.ve]
def Eu (A:List BZ):List Ac:=(A.map BZ.cells).flatten
def FK (M:List A2):List Ac:=(M.map A2.cells).flatten
def acl (l:List A0):List Ac:=(l.map fun a=>a.cells.toList).flatten
def dw {α:Type}{f:α->List Ac}{n:Nat}(h:∀ a,(f a).length=n)(l:List α):∀ x ∈ l.map f,x.length=n:=by
 intro x hx;obtain⟨a,_,rfl⟩:=Qt.1 hx;exact h a
def KL {A:List BZ} {t:Nat} {s:BZ} (h:A[t]?=some s):(Eu A)[t*2]?=some (I Z s.b)/\(Eu A)[t*2+1]?=some (I Z s.k):=by
 have h':(A.map BZ.cells)[t]?=some s.cells:=by rw[Qj,h];rfl
 exact⟨SN (n:=2) _ (dw (f:=BZ.cells) (n:=2) (fun _=>rfl) A) t _ h' 0 (by omega),SN (n:=2) _ (dw (f:=BZ.cells) (n:=2) (fun _=>rfl) A) t _ h' 1 (by omega)⟩
def qmj {A:List BZ} {t:Nat} {s:BZ} (h:A[t]?=some s) (s':BZ) {j:Nat} (hj:j<2) (u:Ac) (e:s.cells.set j u=s'.cells):(Eu A).set (t*2+j) u=Eu (A.set t s'):=by
 have h':(A.map BZ.cells)[t]?=some s.cells:=by rw[Qj,h];rfl
 unfold Eu;rw[VP (n:=2) _ (dw (f:=BZ.cells) (n:=2) (fun _=>rfl) A) t _ h' j hj u,e,aH]
def T0 {M:List A2} {k:Nat} {m:A2} (h:M[k]?=some m) (j:Nat) (hj:j<10):(FK M)[k*10+j]?=m.cells[j]?:=by
 have h':(M.map A2.cells)[k]?=some m.cells:=by rw[Qj,h];rfl
 exact SN (n:=10) _ (dw (f:=A2.cells) (n:=10) (fun _=>rfl) M) k _ h' j hj
def U8 {M:List A2} {k:Nat} {m:A2} (h:M[k]?=some m) (m':A2) {j:Nat} (hj:j<10) (u:Ac) (e:m.cells.set j u=m'.cells):(FK M).set (k*10+j) u=FK (M.set k m'):=by
 have h':(M.map A2.cells)[k]?=some m.cells:=by rw[Qj,h];rfl
 unfold FK;rw[VP (n:=10) _ (dw (f:=A2.cells) (n:=10) (fun _=>rfl) M) k _ h' j hj u,e,aH]
def KZ (M:List A2)(m:A2):FK (M++[m])=FK M++m.cells:=by simp[FK]
def FW (l:List A0)(a:A0):acl (l++[a])=acl l++[I Z a.k,I Z a.e,I Z a.v]:=by simp[acl,A0.cells]
def jm (t:Tag):Prop:=t.1=70\/t.1=71\/t.1=72
def Du (w:Aa)(o:Own)(M:List A2):Prop:=
 ∀ (j:Nat)(m:A2),M[j]?=some m->Row w o (71,j) 54 3 m.va m.x.AX.length (acl m.x.AX)/\Row w o (72,j) 3 1 m.vt m.x.Cu.length (m.x.Cu.map nv)
structure Rd where
 A:List BZ
 M:List AK
 c:Nat
structure Cg (w:Aa)(o:Own)(rb:Nat)(vt:Ac)(A:List BZ)(M:List A2)(c:Nat)(va vr:Ac):Prop where
 AM:Al w rb #[vt,va,vr,I Z c] 163
 ra:Row w o (70,1) 165 2 va A.length (Eu A)
 rm:Row w o (70,0) 86 10 vr M.length (FK M)
 ms:Du w o M
 om:o rb=(70,2)
def BC (w:Aa)(o:Own)(rb:Nat)(vt:Ac)(R:Rd):Prop:=∃ (M:List A2)(va vr:Ac),M.map A2.x=R.M/\Cg w o rb vt R.A M R.c va vr
section
variable {w w' : Aa} {o o' : Own} {rb : Nat} {vt va vr : Ac} {A : List BZ} {M : List A2} {c : Nat} {T : Tag -> Prop} {R : Rd}
def Du.Ao (h:Du w o M)(k:Stp T o o' w w')(hn:∀ j,¬T (71,j)/\¬T (72,j)):Du w' o' M:=
 fun j m hm=>⟨(h j m hm).1.Ao k (hn j).1,(h j m hm).2.Ao k (hn j).2⟩
def Cg.Ao (h:Cg w o rb vt A M c va vr)(k:Stp T o o' w w')(hn:∀ t,jm t->¬T t):Cg w' o' rb vt A M c va vr:=
 ⟨h.AM.Ao k (by rw[h.om];exact hn _ (.inl rfl)),h.ra.Ao k (hn _ (.inl rfl)),h.rm.Ao k (hn _ (.inl rfl)),h.ms.Ao k fun j=>⟨hn _ (.inr (.inl rfl)),hn _ (.inr (.inr rfl))⟩,(k.tags _ h.AM.lt).trans h.om⟩
def Cg.below (h:Cg w o rb vt A M c va vr)(k:Ae w.1.size w w'):Cg w' o rb vt A M c va vr:=h.Ao (T:=fun _=>False) (Stp.of_below k) fun _ _ h=>h
def BC.Ao (h:BC w o rb vt R)(k:Stp T o o' w w')(hn:∀ t,jm t->¬T t):BC w' o' rb vt R:=by
 obtain⟨M,va,vr,h1,h2⟩:=h;exact⟨M,va,vr,h1,h2.Ao k hn⟩
def BC.below (h:BC w o rb vt R)(k:Ae w.1.size w w'):BC w' o rb vt R:=h.Ao (T:=fun _=>False) (Stp.of_below k) fun _ _ h=>h
def Cg.spot (h:Cg w o rb vt A M c va vr){g cp:Nat}(hv:va=Ah (some ⟨g,0,none⟩) A.length cp){t:Nat}{s:BZ}(hs:A[t]?=some s)(s':BZ){j:Nat}(hj:j<2)(u:Ac)(e:s.cells.set j u=s'.cells) :
  Cg (w.setCell ⟨g,t*2+j,none⟩ u) o rb vt (A.set t s') M c va vr/\Stp (fun t=>t=(70,1)) o o w (w.setCell ⟨g,t*2+j,none⟩ u):=by
 subst hv;have k:Stp (fun t=>t=(70,1)) o o w (w.setCell ⟨g,t*2+j,none⟩ u):=(Stp.refl _ o w).setCell (by show o g=_;exact h.ra.CZ) _
 refine⟨⟨h.AM.Ao k (by rw[h.om];simp),?_,h.rm.Ao k (by simp),h.ms.Ao k (fun j=>by simp),h.om⟩,k⟩
 have:=h.ra.Ct (t*2+j) u;rw[qmj hs s' hj u e]at this;exact this.ite (by simp) rfl
def Cg.FL (h:Cg w o rb vt A M c va vr){g cp:Nat}(hv:vr=Ah (some ⟨g,0,none⟩) M.length cp){t:Nat}{s:A2}(hs:M[t]?=some s)(s':A2){j:Nat}(hj:j<10)(u:Ac)(e:s.cells.set j u=s'.cells)
  (e1:s'.x.AX=s.x.AX)(e2:s'.x.Cu=s.x.Cu)(e3:s'.va=s.va)(e4:s'.vt=s.vt) :
  Cg (w.setCell ⟨g,t*10+j,none⟩ u) o rb vt A (M.set t s') c va vr/\Stp (fun t=>t=(70,0)) o o w (w.setCell ⟨g,t*10+j,none⟩ u):=by
 subst hv;have k:Stp (fun t=>t=(70,0)) o o w (w.setCell ⟨g,t*10+j,none⟩ u):=(Stp.refl _ o w).setCell (by show o g=_;exact h.rm.CZ) _
 refine⟨⟨h.AM.Ao k (by rw[h.om];simp),h.ra.Ao k (by simp),?_,?_,h.om⟩,k⟩
 ·have:=h.rm.Ct (t*10+j) u
  rw[U8 hs s' hj u e]at this;exact this.ite (by simp) rfl
 ·intro i m hm
  rw[Qr]at hm;split at hm
  ·rename_i e5
   subst e5;split at hm
   ·injection hm with hm
    subst hm;rw[e1,e2,e3,e4];exact⟨(h.ms t s hs).1.Ao k (by simp),(h.ms t s hs).2.Ao k (by simp)⟩
   ·cases hm
  ·exact⟨(h.ms i m hm).1.Ao k (by simp),(h.ms i m hm).2.Ao k (by simp)⟩
end
def qni:∃ i,ARt.info? 165=some i/\i.size=2/\i.bytes=16/\i.zero=some (Ak #[I Z 0,I Z 0]):=info_parts (by kernel_rfl)
def Jy:∃ i,ARt.info? 86=some i/\i.size=10/\i.bytes=112/\i.zero=some (Ak #[I Z 0,I Z 0,I Z 0,I Z 0,I Z 0,I Z 0,Ah none 0 0,Ah none 0 0,I Z 0,I Z 0]):=info_parts (by kernel_rfl)
def AH.blocks {w:Aa}{v:Ac}{bK:List (List (List Pg.D))}(h:AH w v bK){t:Nat}{bs:List (List Pg.D)}(ht:bK[t]?=some bs) :
  ∃ g off cp a c,v=Ah (some ⟨g,off,none⟩) bK.length cp/\w.cell? ⟨g,off+t,none⟩=some (.slice a bs.length c)/\Bn w (.slice a bs.length c) bs:=by
 obtain⟨_,vs,hl,⟨a,c,rfl,hc⟩,hd⟩:=h;obtain⟨u,hu,hb⟩:=hd t bs ht;rcases hc with e|⟨g,off,rfl,hc⟩
 ·rw[e]at hu;simp at hu
 ·have hb2:=hb
  obtain⟨_,_,_,⟨a2,c2,rfl,_⟩,_⟩:=hb2;exact⟨g,off,c,a2,c2,rfl,hc t _ hu,hb⟩
def Bn.EB {w:Aa}{v:Ac}{bs:List (List Pg.D)}(h:Bn w v bs){b:Nat}{l:List Pg.D}(hb:bs[b]?=some l) :
  ∃ g off cp a c,v=Ah (some ⟨g,off,none⟩) bs.length cp/\w.cell? ⟨g,off+b,none⟩=some (.slice a l.length c)/\Bw w (.slice a l.length c) l:=by
 obtain⟨_,vs,hl,⟨a,c,rfl,hc⟩,hd⟩:=h;obtain⟨u,hu,hb⟩:=hd b l hb;rcases hc with e|⟨g,off,rfl,hc⟩
 ·rw[e]at hu;simp at hu
 ·have hb2:=hb
  obtain⟨_,⟨a2,c2,rfl,_⟩⟩:=hb2;exact⟨g,off,c,a2,c2,rfl,hc b _ hu,hb⟩
def Bw.kind {w:Aa}{v:Ac}{l:List Pg.D}(h:Bw w v l){n:Nat}{d:Pg.D}(hn:l[n]?=some d) :
  ∃ g off cp,v=Ah (some ⟨g,off,none⟩) l.length cp/\w.cell? ⟨g,off+n*5,none⟩=some (I Z d.k):=by
 obtain⟨_,⟨a,c,rfl,hc⟩⟩:=h;have hk:=(Tz l n d hn).1;rcases hc with e|⟨g,off,rfl,hc⟩
 ·rw[e]at hk;simp at hk
 ·exact⟨g,off,c,rfl,hc _ _ hk⟩
end
section
def yp (e:Int):Bool:=e==141||e==100||e==130
def Rd.fail (R:Rd)(t nb:Nat)(s:BZ):Rd:={ R with A:=R.A.set t ⟨nb,s.k⟩ }
def Rd.begun (R:Rd)(i t:Nat)(s:BZ)(b v:Int):Rd:={ R with A:=R.A.set t ⟨s.b,R.M.length⟩,M:=R.M++[⟨t,b,v,R.c,i,-1,[],[],0,0⟩] }
def AK.act (x:AK)(i:Nat)(a:A0):AK:={ x with AX:=x.AX++[a],Cu:=x.Cu++[i] }
def AK.ended (x:AK)(i:Nat)(en ve:Int):AK:={ x with te:=i,en:=en,ve:=ve }
def Rd.shut (R:Rd)(t:Nat)(b:Int)(k:Nat)(x:AK):Rd:={ R with A:=R.A.set t ⟨b,-1⟩,M:=R.M.set k x }
def Rd.put (R:Rd)(k:Nat)(x:AK):Rd:={ R with M:=R.M.set k x }
def E9 (ds:List Pg.D)(n:Int):Int:=match ds[n.toNat]? with|some d=>d.k|none=>0
def rp (ds:List Pg.D)(e:Bg):Bool:=yp e.a.e||(e.a.e==0&&E9 ds e.n==14)
def Rd.Bs (R:Rd)(i t:Nat)(s:BZ)(x:AK)(ds:List Pg.D)(e:Bg):Option Rd:=
 if e.n≠x.AX.length\/(ds.length:Int)<=e.n then none
 else if rp ds e=true then some (R.shut t (if e.a.e=141 then s.b else s.b+1) s.k.toNat ((x.act i e.a).ended i 2 x.ve))
 else some (R.put s.k.toNat (x.act i e.a))
def Rd.AL (R:Rd)(i t:Nat)(s:BZ)(x:AK)(ds:List Pg.D)(e:Bg):Option Rd:=
 if e.n≠x.AX.length\/e.n≠ds.length then none
 else if e.a.e≠0 then some (R.shut t s.b s.k.toNat (x.ended i 2 x.ve))
 else some (R.shut t (s.b+1) s.k.toNat (x.ended i 1 e.a.v))
def Fq:AK:=⟨0,0,0,0,0,0,[],[],0,0⟩
def Rd.s (R:Rd)(t:Nat):BZ:=R.A.getD t ⟨0,-1⟩
def Rd.x (R:Rd)(k:Int):AK:=R.M.getD k.toNat Fq
def Rd.take (bK:List (List (List Pg.D)))(R:Rd)(i:Nat)(e:Bg):Option Rd:=
 if e.t=-1 then (if e.a.k=5 then some { R with c:=R.c+1 } else if e.a.k=4 then some R else none)
 else if e.t<0\/(bK.length:Int)<=e.t then none
 else if e.b<0\/((bK.getD e.t.toNat []).length:Int)<=e.b\/e.b≠(R.s e.t.toNat).b then none
 else if e.a.k=1 then
  if 0<=(R.s e.t.toNat).k then none
  else if e.a.e≠0 then some (R.fail e.t.toNat (bK.getD e.t.toNat []).length (R.s e.t.toNat))
  else some (R.begun i e.t.toNat (R.s e.t.toNat) e.b e.a.v)
 else if e.a.k=2 then
  if 0<=(R.s e.t.toNat).k then R.Bs i e.t.toNat (R.s e.t.toNat) (R.x (R.s e.t.toNat).k) ((bK.getD e.t.toNat []).getD e.b.toNat []) e else none
 else if e.a.k=3 then
  if 0<=(R.s e.t.toNat).k then R.AL i e.t.toNat (R.s e.t.toNat) (R.x (R.s e.t.toNat).k) ((bK.getD e.t.toNat []).getD e.b.toNat []) e else none
 else none
def za (bK:List (List (List Pg.D))):Option Rd->Nat->List Bg->Option Rd
 | R,_,[]=>R
 | none,_,_::_=>none
 | some R,i,e::l=>za bK (R.take bK i e) (i+1) l
def Rd.new (n:Nat):Rd:=⟨List.replicate n ⟨0,-1⟩,[],0⟩
section
variable {bK : List (List (List Pg.D))} {R R' : Rd} {i : Nat} {e : Bg} {es : List Bg}
def zy (bK:List (List (List Pg.D)))(i:Nat):∀ l,za bK none i l=none
 | []=>rfl
 | _::_=>rfl
def wj:∀ (l1 l2:List Bg)(R:Option Rd)(i:Nat),za bK R i (l1++l2)=za bK (za bK R i l1) (i+l1.length) l2
 | [],l2,R,i=>by cases R<;>simp[za]
 | e::l1,l2,none,i=>by simp[za,zy]
 | e::l1,l2,some R,i=>by
  show za bK (R.take bK i e) (i+1) (l1++l2)=za bK (za bK (R.take bK i e) (i+1) l1) _ l2;rw[wj l1 l2 _ (i+1),Qv,show i+1+l1.length=i+(l1.length+1) from by omega]
def gv (l:List Bg)(e:Bg)(R:Option Rd)(i:Nat):za bK R i (l++[e])=match za bK R i l with|none=>none|some R1=>R1.take bK (i+l.length) e:=by
 rw[wj]
 cases za bK R i l with
 | none=>rfl
 | some R1 =>
  show za bK (R1.take bK (i+l.length) e) (i+l.length+1) []=R1.take bK (i+l.length) e;generalize R1.take bK (i+l.length) e=z
  cases z<;>rfl
inductive Ej (bK:List (List (List Pg.D)))(R:Rd)(i:Nat)(e:Bg):Rd->Prop
 | came (h:e.t=-1)(hk:e.a.k=5):Ej bK R i e { R with c:=R.c+1 }
 | lost (h:e.t=-1)(hk:e.a.k=4):Ej bK R i e R
 | fail (t:Nat)(s:BZ)(b:Nat)(bs:List (List Pg.D))(ht:e.t=t)(hs:R.s t=s)(htl:t<bK.length)(hth:bK.getD t []=bs)(hb:e.b=b)(hbl:b<bs.length)(hsb:s.b=b)(hk:e.a.k=1)(hl:¬0<=s.k)(he:e.a.e≠0):Ej bK R i e (R.fail t bs.length s)
 | begun (t:Nat)(s:BZ)(b:Nat)(bs:List (List Pg.D))(ht:e.t=t)(hs:R.s t=s)(htl:t<bK.length)(hth:bK.getD t []=bs)(hb:e.b=b)(hbl:b<bs.length)(hsb:s.b=b)(hk:e.a.k=1)(hl:¬0<=s.k)(he:e.a.e=0):Ej bK R i e (R.begun i t s b e.a.v)
 | Bs (t:Nat)(s:BZ)(b:Nat)(bs:List (List Pg.D))(ht:e.t=t)(hs:R.s t=s)(htl:t<bK.length)(hth:bK.getD t []=bs)(hb:e.b=b)(hbl:b<bs.length)(hsb:s.b=b)(hk:e.a.k=2)(hl:0<=s.k)(hn:e.n=((R.x s.k).AX.length:Int))(hd:e.n<((bs.getD b []).length:Int))(hf:rp (bs.getD b []) e=false):Ej bK R i e (R.put s.k.toNat ((R.x s.k).act i e.a))
 | gG (t:Nat)(s:BZ)(b:Nat)(bs:List (List Pg.D))(ht:e.t=t)(hs:R.s t=s)(htl:t<bK.length)(hth:bK.getD t []=bs)(hb:e.b=b)(hbl:b<bs.length)(hsb:s.b=b)(hk:e.a.k=2)(hl:0<=s.k)(hn:e.n=((R.x s.k).AX.length:Int))(hd:e.n<((bs.getD b []).length:Int))(hf:rp (bs.getD b []) e=true):Ej bK R i e (R.shut t (if e.a.e=141 then s.b else s.b+1) s.k.toNat (((R.x s.k).act i e.a).ended i 2 (R.x s.k).ve))
 | dW (t:Nat)(s:BZ)(b:Nat)(bs:List (List Pg.D))(ht:e.t=t)(hs:R.s t=s)(htl:t<bK.length)(hth:bK.getD t []=bs)(hb:e.b=b)(hbl:b<bs.length)(hsb:s.b=b)(hk:e.a.k=3)(hl:0<=s.k)(hn:e.n=((R.x s.k).AX.length:Int))(hd:e.n=((bs.getD b []).length:Int))(hf:e.a.e≠0):Ej bK R i e (R.shut t s.b s.k.toNat ((R.x s.k).ended i 2 (R.x s.k).ve))
 | AL (t:Nat)(s:BZ)(b:Nat)(bs:List (List Pg.D))(ht:e.t=t)(hs:R.s t=s)(htl:t<bK.length)(hth:bK.getD t []=bs)(hb:e.b=b)(hbl:b<bs.length)(hsb:s.b=b)(hk:e.a.k=3)(hl:0<=s.k)(hn:e.n=((R.x s.k).AX.length:Int))(hd:e.n=((bs.getD b []).length:Int))(hf:e.a.e=0):Ej bK R i e (R.shut t (s.b+1) s.k.toNat ((R.x s.k).ended i 1 e.a.v))
def AP (h:R.take bK i e=some R'):Ej bK R i e R':=by
 unfold Rd.take at h;split at h
 ·rename_i ht
  split at h
  ·rename_i hk;injection h with h;subst h;exact .came ht hk
  ·split at h
   ·rename_i hk;injection h with h;subst h;exact .lost ht hk
   ·cases h
 ·split at h
  ·cases h
  ·rename_i ht1 ht2
   split at h
   ·cases h
   ·rename_i hb0
    obtain⟨t,ht⟩:∃ t:Nat,e.t=t:=⟨e.t.toNat,by omega⟩
    obtain⟨b,hb⟩:∃ b:Nat,e.b=b:=⟨e.b.toNat,by omega⟩
    rw[ht,af,hb,af]at h;rw[ht,af,hb]at hb0;have htl:t<bK.length:=by omega
    have hbl:b<(bK.getD t []).length:=by omega
    have hsb:(R.s t).b=b:=by omega
    split at h
    ·rename_i hk
     split at h
     ·cases h
     ·rename_i hl
      split at h
      ·rename_i he;injection h with h;subst h;exact .fail t _ b _ ht rfl htl rfl hb hbl hsb hk hl he
      ·rename_i he;injection h with h;subst h;exact .begun t _ b _ ht rfl htl rfl hb hbl hsb hk hl (by simpa using he)
    ·split at h
     ·rename_i hk
      split at h
      ·rename_i hl
       unfold Rd.Bs at h;split at h
       ·cases h
       ·rename_i hn
        split at h
        ·rename_i hf;injection h with h;subst h
         exact .gG t _ b _ ht rfl htl rfl hb hbl hsb hk hl (by omega) (by omega) hf
        ·rename_i hf;injection h with h;subst h
         exact .Bs t _ b _ ht rfl htl rfl hb hbl hsb hk hl (by omega) (by omega) (by simpa using hf)
      ·cases h
     ·split at h
      ·rename_i hk
       split at h
       ·rename_i hl
        unfold Rd.AL at h;split at h
        ·cases h
        ·rename_i hn
         split at h
         ·rename_i hf;injection h with h;subst h
          exact .dW t _ b _ ht rfl htl rfl hb hbl hsb hk hl (by omega) (by omega) hf
         ·rename_i hf;injection h with h;subst h
          exact .AL t _ b _ ht rfl htl rfl hb hbl hsb hk hl (by omega) (by omega) (by simpa using hf)
       ·cases h
      ·cases h
def ju (M:List AK)(t:Int):Nat->Option Nat
 | 0=>none
 | k+1=>if (M.getD k Fq).t=t then some k else ju M t k
def mp (M:List AK)(t:Int):∀ (k j:Nat),ju M t k=some j->j<k/\(M.getD j Fq).t=t
 | k+1,j,h=>by
  unfold ju at h;split at h
  ·injection h with h;subst h;exact⟨Nat.lt_succ_self _,by assumption⟩
  ·have:=mp M t k j h;exact⟨by omega,this.2⟩
def gl {M M':List AK}(t:Int):∀ (k:Nat),(∀ j,j<k->(M'.getD j Fq).t=(M.getD j Fq).t)->ju M' t k=ju M t k
 | 0,_=>rfl
 | k+1,h=>by
  unfold ju;rw[h k (by omega),gl t k fun j hj=>h j (by omega)]
def Fw (es:List Bg)(x:AK):Prop:=
 ∃ (f:Nat)(e:Bg),x.fr=f/\es[f]?=some e/\(e.a.k=1/\e.a.e=0)/\e.t=x.t/\x.AX.length=x.Cu.length/\((x.te=-1/\x.en=0)\/∃ g:Nat,x.te=g/\f<g/\g<es.length/\(x.en=1\/x.en=2))
def Nx (es:List Bg)(x:AK)(b:Int):Prop:=∃ (g:Nat)(e:Bg),x.te=g/\es[g]?=some e/\((b=x.b/\x.en=2/\e.a.e=141)\/b=x.b+1)
def FP (es:List Bg)(R:Rd)(nb:Nat)(t:Nat)(s:BZ):Prop:=
 match ju R.M t R.M.length with
 | none=>s.k=-1/\(s.b=0\/s.b=nb)
 | some j=>∃ x,R.M[j]?=some x/\((s.k=j/\x.te=-1/\s.b=x.b)\/(s.k=-1/\0<=x.te/\(Nx es x s.b\/s.b=nb)))
def NX (es:List Bg)(M:List AK)(k:Nat)(y:AK):Prop:=
 match ju M y.t k with
 | none=>y.b=0
 | some j=>∃ x,M[j]?=some x/\x.te<y.fr/\Nx es x y.b
structure Rd.inv (bK:List (List (List Pg.D)))(R:Rd)(es:List Bg):Prop where
 len:R.A.length=bK.length
 te:∀ (k:Nat)(x:AK),R.M[k]?=some x->Fw es x
 inc:∀ (k:Nat)(x y:AK),R.M[k]?=some x->R.M[k+1]?=some y->x.fr<y.fr
 pv:∀ (k:Nat)(y:AK),R.M[k]?=some y->NX es R.M k y
 sp:∀ (t:Nat)(s:BZ),R.A[t]?=some s->FP es R (bK.getD t []).length t s
def Fw.mono {x:AK}(h:Fw es x)(e:Bg):Fw (es++[e]) x:=by
 obtain⟨f,y,h1,h2,h3,h4,h5,h6⟩:=h;have hf:=(Qc.1 h2).1;refine⟨f,y,h1,by rw[Qm hf];exact h2,h3,h4,h5,?_⟩
 rcases h6 with h6|⟨g,h7,h8,h9,h10⟩
 ·exact .inl h6
 ·exact .inr ⟨g,h7,h8,by rw[Qd];omega,h10⟩
def Nx.mono {x:AK}{b:Int}(h:Nx es x b)(e:Bg):Nx (es++[e]) x b:=by
 obtain⟨g,y,h1,h2,h3⟩:=h;exact⟨g,y,h1,by rw[Qm (Qc.1 h2).1];exact h2,h3⟩
def Nx.te0 {x:AK}{b:Int}(h:Nx es x b):0<=x.te:=by obtain⟨g,_,h1,_⟩:=h;omega
def dj {t:Nat}(h:t<R.A.length):R.A[t]?=some (R.s t):=by unfold Rd.s;simp[aI,Qb h]
def TN {t j:Nat}{s:BZ}{x x':AK}{e:Bg}(h:R.inv bK es)(hs:R.A[t]?=some s)(hk:s.k=j)(hx:R.M[j]?=some x)
  (e1:x'.t=x.t)(e2:x'.b=x.b)(e3:x'.fr=x.fr)(h1:Fw (es++[e]) x')(s':BZ)
  (h2:(s'.k=j/\x'.te=-1/\s'.b=x'.b)\/(s'.k=-1/\0<=x'.te/\Nx (es++[e]) x' s'.b)):Rd.inv bK { R with A:=R.A.set t s',M:=R.M.set j x' } (es++[e]):=by
 have hjl:=(Qc.1 hx).1;have hg:∀ k,(R.M.set j x').getD k Fq=if k=j then x' else R.M.getD k Fq:=fun k=>by
  rw[Qi,Qr];by_cases e:k=j
  ·subst e;rw[if_pos rfl,if_pos hjl,if_pos rfl];rfl
  ·rw[if_neg fun z=>e z.symm,if_neg e,Qi]
 have hxd:R.M.getD j Fq=x:=by rw[Qi,hx];rfl
 have hla:∀ t k,ju (R.M.set j x') t k=ju R.M t k:=fun t k=>gl t k fun i _=>by
  rw[hg];split
  ·rename_i e;subst e;rw[e1,hxd]
  ·rfl
 have hget:∀ k z,(R.M.set j x')[k]?=some z->(k=j/\z=x')\/(k≠j/\R.M[k]?=some z):=fun k z hz=>by
  rw[Qr]at hz;split at hz
  ·rename_i e;subst e;(try rw[if_pos hjl]at hz);injection hz with hz;exact .inl ⟨rfl,hz.symm⟩
  ·rename_i e;exact .inr ⟨fun z=>e z.symm,hz⟩
 have hfr:∀ (k:Nat)(z:AK),(R.M.set j x')[k]?=some z->∃ z0:AK,R.M[k]?=some z0/\z.fr=z0.fr/\z.t=z0.t/\z.b=z0.b:=fun k z hz=>by
  rcases hget k z hz with ⟨rfl,rfl⟩|⟨_,h⟩
  ·exact⟨x,hx,e3,e1,e2⟩
  ·exact⟨z,h,rfl,rfl,rfl⟩
 have hlive:x.te=-1/\ju R.M t R.M.length=some j/\x.t=t:=by
  have h3:=h.sp t s hs;unfold FP at h3;split at h3
  ·omega
  ·rename_i j2 hj2
   obtain⟨z,hz,h3⟩:=h3;rcases h3 with ⟨h4,h5,_⟩|⟨h4,_⟩
   ·have:j2=j:=by omega
    subst this;rw[hx]at hz;injection hz with hz;subst hz;refine⟨h5,hj2,?_⟩;have h6:=(mp _ _ _ _ hj2).2;rw[hxd]at h6;exact h6
   ·omega
 obtain⟨hte,Aol,hxt⟩:=hlive;refine⟨by simpa using h.len,fun k z hz=>?_,fun k y z hy hz=>?_,fun k y hy=>?_,fun u su hu=>?_⟩
 ·rcases hget k z hz with ⟨rfl,rfl⟩|⟨_,h3⟩
  ·exact h1
  ·exact (h.te k z h3).mono e
 ·obtain⟨y0,hy0,f1,_⟩:=hfr _ _ hy
  obtain⟨z0,hz0,f2,_⟩:=hfr _ _ hz;rw[f1,f2];exact h.inc k y0 z0 hy0 hz0
 ·obtain⟨y0,hy0,f1,f2,f3⟩:=hfr _ _ hy
  have h3:=h.pv k y0 hy0;unfold NX at h3 ⊢;rw[hla,f2];split
  ·rename_i hn
   rw[hn]at h3;rw[f3];exact h3
  ·rename_i j2 hn
   rw[hn]at h3;obtain⟨z,hz,h4,h5⟩:=h3;by_cases e4:j2=j
   ·subst e4
    rw[hx]at hz;injection hz with hz;subst hz;exact absurd h5.te0 (by omega)
   ·refine⟨z,by simp only;rw[Qr,if_neg fun z=>e4 z.symm];exact hz,by rw[f1];exact h4,by rw[f3];exact h5.mono e⟩
 ·show FP (es++[e]) _ _ u su
  have hA:=hu;simp only[Qr]at hA;unfold FP;simp only[Qq,hla];by_cases e4:t=u
  ·subst e4
   rw[if_pos rfl,if_pos (Qc.1 hs).1]at hA;injection hA with hA;subst hA;rw[Aol];exact⟨x',by rw[Qr,if_pos rfl,if_pos hjl],h2.imp id fun ⟨a,b,c⟩=>⟨a,b,.inl c⟩⟩
  ·rw[if_neg e4]at hA
   have h3:=h.sp u su hA;unfold FP at h3;split
   ·rename_i hn
    rw[hn]at h3;exact h3
   ·rename_i j2 hn
    rw[hn]at h3;obtain⟨z,hz,h4⟩:=h3;have hne:j2≠j:=fun e5=>by
     subst e5;have h6:=(mp _ _ _ _ hn).2;rw[hxd,hxt]at h6;omega
    refine⟨z,by rw[Qr,if_neg fun z=>hne z.symm];exact hz,h4.imp id fun ⟨a,b,c⟩=>⟨a,b,c.imp (fun c=>c.mono e) id⟩⟩
def li {e:Bg}(h:R.inv bK es)(c:Nat):Rd.inv bK { R with c:=c } (es++[e]):=by
 refine⟨h.len,fun k x hx=>(h.te k x hx).mono e,h.inc,fun k y hy=>?_,fun t s hs=>?_⟩
 ·have h3:=h.pv k y hy
  unfold NX at h3 ⊢;split
  ·rename_i hn;rw[hn]at h3;exact h3
  ·rename_i j hn
   rw[hn]at h3;obtain⟨z,hz,h4,h5⟩:=h3;exact⟨z,hz,h4,h5.mono e⟩
 ·have h3:=h.sp t s hs
  unfold FP at h3 ⊢;split
  ·rename_i hn;simp only at hn;rw[hn]at h3;exact h3
  ·rename_i j hn
   simp only at hn;rw[hn]at h3;obtain⟨z,hz,h4⟩:=h3;exact⟨z,hz,h4.imp id fun⟨a,b,c⟩=>⟨a,b,c.imp (fun c=>c.mono e) id⟩⟩
def Et (h:R.inv bK es){t:Nat}{s:BZ}(hs:R.A[t]?=some s):s.k=-1\/∃ (j:Nat)(x:AK),s.k=j/\R.M[j]?=some x/\x.te=-1/\s.b=x.b/\x.t=t:=by
 have h3:=h.sp t s hs;unfold FP at h3;split at h3
 ·exact .inl h3.1
 ·rename_i j hn
  obtain⟨x,hx,h4⟩:=h3;rcases h4 with ⟨a,b,c⟩|⟨a,_⟩
  ·refine .inr ⟨j,x,a,hx,b,c,?_⟩
   have h6:=(mp _ _ _ _ hn).2;rw[Qi,hx]at h6;exact h6
  ·exact .inl a
def TC (h:R.inv bK es) (htk:R.take bK es.length e=some R') (hc:e.a.k=3->e.a.e≠0->e.a.e=141):R'.inv bK (es++[e]):=by
 have hlen:(es++[e])[es.length]?=some e:=by simp
 cases AP htk with
 | came _ _=>exact li h _
 | lost _ _=>exact li h R.c
 | fail t s b bs ht hs htl hth hb hbl hsb hk hl he =>
  have hs':R.A[t]?=some s:=by rw[<-hs];exact dj (by rw[h.len];exact htl)
  have hk1:s.k=-1:=(Et h hs').resolve_right fun ⟨j,_,e1,_⟩=>hl (by omega)
  have h0:=li (e:=e) h R.c;refine⟨by simpa [Rd.fail] using h.len,h0.te,h0.inc,h0.pv,fun u su hu=>?_⟩
  by_cases e1:t=u
  ·subst e1
   simp only[Rd.fail,Qr,if_true,if_pos (Qc.1 hs').1]at hu;injection hu with hu;subst hu;have h3:=h0.sp t s hs';unfold FP at h3 ⊢;show match ju R.M _ R.M.length with|none=>_|some j=>_
   simp only at h3;rw[hth];split
   ·exact⟨hk1,.inr rfl⟩
   ·rename_i j hn
    rw[hn]at h3;obtain⟨x,hx,h4⟩:=h3;refine⟨x,hx,.inr ⟨hk1,?_,.inr rfl⟩⟩;rcases h4 with ⟨a,_⟩|⟨_,b,_⟩
    ·omega
    ·exact b
  ·simp only[Rd.fail,Qr,if_neg e1]at hu
   exact h0.sp u su hu
 | begun t s b bs ht hs htl hth hb hbl hsb hk hl he =>
  have hs':R.A[t]?=some s:=by rw[<-hs];exact dj (by rw[h.len];exact htl)
  have hk1:s.k=-1:=(Et h hs').resolve_right fun ⟨j,_,e1,_⟩=>hl (by omega)
  have h0:=li (e:=e) h R.c;have hy:Fw (es++[e]) ⟨t,b,e.a.v,R.c,es.length,-1,[],[],0,0⟩:=⟨es.length,e,rfl,hlen,⟨hk,he⟩,ht,rfl,.inl ⟨rfl,rfl⟩⟩;have hla:∀ (y:AK) (t:Int) k,k<=R.M.length->ju (R.M++[y]) t k=ju R.M t k:=fun y t k hk=>gl t k fun i hi=>by
   rw[Qi,Qi,Qm (by omega)]
  have hfr:∀ (k:Nat) (x:AK),R.M[k]?=some x->x.fr<(es.length:Int):=fun k x hx=>by
   obtain⟨f,z,h1,h2,_⟩:=h.te k x hx;have:=(Qc.1 h2).1;omega
  have hget:∀ k z y,(R.M++[y])[k]?=some z->(k<R.M.length/\R.M[k]?=some z)\/(k=R.M.length/\z=y):=fun k z y hz=>by
   by_cases e1:k<R.M.length
   ·rw[Qm e1]at hz;exact .inl ⟨e1,hz⟩
   ·rw[Ql (by omega)]at hz
    have hl:=(Qc.1 hz).1;simp only[ai]at hl;have:k=R.M.length:=by omega
    subst this;simp at hz;exact .inr ⟨rfl,hz.symm⟩
  have oV:=h.sp t s hs';refine⟨by simpa [Rd.begun] using h.len,fun k x hx=>?_,fun k x y hx hy2=>?_,fun k y hy2=>?_,fun u su hu=>?_⟩
  ·rcases hget k x _ hx with ⟨_,h1⟩|⟨_,rfl⟩
   ·exact h0.te k x h1
   ·exact hy
  ·rcases hget k x _ hx with ⟨h1,h2⟩|⟨h1,_⟩
   ·rcases hget _ y _ hy2 with ⟨_,h3⟩|⟨_,rfl⟩
    ·exact h.inc k x y h2 h3
    ·exact hfr k x h2
   ·have:=(Qc.1 hy2).1
    simp only[Rd.begun,Qd,ai]at this;omega
  ·show NX (es++[e]) (R.M++[_]) k y
   rcases hget k y _ hy2 with ⟨h1,h2⟩|⟨h1,rfl⟩
   ·have h3:=h0.pv k y h2
    unfold NX at h3 ⊢;simp only at h3;rw[hla _ _ _ (by omega)]
    split
    ·rename_i hn;rw[hn]at h3;exact h3
    ·rename_i j hn
     rw[hn]at h3;obtain⟨z,hz,h4⟩:=h3;exact⟨z,by rw[Qm (Qc.1 hz).1];exact hz,h4⟩
   ·unfold NX
    subst h1;simp only;rw[hla _ _ _ (Qk _)];unfold FP at oV;split
    ·rename_i hn
     rw[hn]at oV;simp only at oV;rw[hth]at oV;omega
    ·rename_i j hn
     rw[hn]at oV;obtain⟨z,hz,h4⟩:=oV;refine⟨z,by rw[Qm (Qc.1 hz).1];exact hz,?_⟩
     rcases h4 with ⟨a,_⟩|⟨_,h5,h6⟩
     ·omega
     ·rcases h6 with h6|h6
      ·obtain⟨g,z2,f1,f2,f3⟩:=h6
       refine⟨?_,Nx.mono ⟨g,z2,f1,f2,by omega⟩ e⟩
       have:=(Qc.1 f2).1;show z.te<(es.length:Int);omega
      ·rw[hth]at h6;omega
  ·show FP (es++[e]) (R.begun _ t s b _) _ u su
   unfold FP;have e2:(R.begun es.length t s b e.a.v).M=R.M++[⟨t,b,e.a.v,R.c,es.length,-1,[],[],0,0⟩]:=rfl;rw[e2,Qd,ai];by_cases e1:t=u
   ·subst e1
    simp only[Rd.begun,Qr,if_true,if_pos (Qc.1 hs').1]at hu;injection hu with hu;subst hu;have e3:ju (R.M++[(⟨t,b,e.a.v,R.c,es.length,-1,[],[],0,0⟩:AK)]) t (R.M.length+1)=some R.M.length:=by
     unfold ju;rw[if_pos];simp[aI]
    rw[e3];exact⟨⟨t,b,e.a.v,R.c,es.length,-1,[],[],0,0⟩,by simp,.inl ⟨rfl,rfl,hsb⟩⟩
   ·simp only[Rd.begun,Qr,if_neg e1]at hu
    have h3:=h0.sp u su hu;unfold FP at h3;simp only at h3;have e3:ju (R.M++[(⟨t,b,e.a.v,R.c,es.length,-1,[],[],0,0⟩:AK)]) u (R.M.length+1)=ju R.M u R.M.length:=by
     rw[<-hla ⟨t,b,e.a.v,R.c,es.length,-1,[],[],0,0⟩ u R.M.length (Qk _)];conv=>lhs;unfold ju
     rw[if_neg];simp[aI];omega
    rw[e3];split
    ·rename_i hn;rw[hn]at h3;exact h3
    ·rename_i j hn
     rw[hn]at h3;obtain⟨z,hz,h4⟩:=h3;exact⟨z,by rw[Qm (Qc.1 hz).1];exact hz,h4⟩
 | Bs t s b bs ht hs htl hth hb hbl hsb hk hl hn hd hf =>
  have hs':R.A[t]?=some s:=by rw[<-hs];exact dj (by rw[h.len];exact htl)
  rcases Et h hs' with e1|⟨j,x,e1,hx,hte,hsx,hxt⟩
  ·omega
  ·have ex:R.x s.k=x:=by unfold Rd.x;rw[e1,af,Qi,hx];rfl
   rw[ex,e1,af];have h4:=TN (e:=e) (x':=x.act es.length e.a) h hs' e1 hx rfl rfl rfl ?_ s (.inl ⟨e1,hte,hsx⟩)
   ·rw[show R.A.set t s=R.A from by
     apply List.ext_getElem?;intro i;rw[Qr];split
     ·rename_i e;subst e;rw[hs'];simp[(Qc.1 hs').1]
     ·rfl]at h4
    exact h4
   ·obtain⟨f,y,h1,h2,h3,h4,h5,h6⟩:=(h.te j x hx).mono e
    exact⟨f,y,h1,h2,h3,h4,by simp[AK.act,h5],h6⟩
 | gG t s b bs ht hs htl hth hb hbl hsb hk hl hn hd hf =>
  have hs':R.A[t]?=some s:=by rw[<-hs];exact dj (by rw[h.len];exact htl)
  rcases Et h hs' with e1|⟨j,x,e1,hx,hte,hsx,hxt⟩
  ·omega
  ·have ex:R.x s.k=x:=by unfold Rd.x;rw[e1,af,Qi,hx];rfl
   rw[ex,e1,af];refine TN (e:=e) (x':=(x.act es.length e.a).ended es.length 2 x.ve) h hs' e1 hx rfl rfl rfl ?_ ⟨_,-1⟩ (.inr ⟨rfl,az es.length,es.length,e,rfl,hlen,?_⟩)
   ·obtain⟨f,y,h1,h2,h3,h4,h5,h6⟩:=h.te j x hx
    have hfl:=(Qc.1 h2).1;exact⟨f,y,h1,by rw[Qm hfl];exact h2,h3,h4,by simp[AK.act,AK.ended,h5],.inr ⟨es.length,rfl,hfl,by simp,.inr rfl⟩⟩
   ·by_cases e2:e.a.e=141
    ·exact .inl ⟨by simp only[e2,if_true];exact hsx,rfl,e2⟩
    ·exact .inr (by simp only[e2,if_false];show s.b+1=x.b+1;rw[hsx])
 | dW t s b bs ht hs htl hth hb hbl hsb hk hl hn hd hf =>
  have hs':R.A[t]?=some s:=by rw[<-hs];exact dj (by rw[h.len];exact htl)
  rcases Et h hs' with e1|⟨j,x,e1,hx,hte,hsx,hxt⟩
  ·omega
  ·have ex:R.x s.k=x:=by unfold Rd.x;rw[e1,af,Qi,hx];rfl
   rw[ex,e1,af];refine TN (e:=e) (x':=x.ended es.length 2 x.ve) h hs' e1 hx rfl rfl rfl ?_ ⟨_,-1⟩ (.inr ⟨rfl,az es.length,es.length,e,rfl,hlen,.inl ⟨hsx,rfl,hc hk hf⟩⟩);obtain⟨f,y,h1,h2,h3,h4,h5,h6⟩:=h.te j x hx;have hfl:=(Qc.1 h2).1;exact⟨f,y,h1,by rw[Qm hfl];exact h2,h3,h4,h5,.inr ⟨es.length,rfl,hfl,by simp,.inr rfl⟩⟩
 | AL t s b bs ht hs htl hth hb hbl hsb hk hl hn hd hf =>
  have hs':R.A[t]?=some s:=by rw[<-hs];exact dj (by rw[h.len];exact htl)
  rcases Et h hs' with e1|⟨j,x,e1,hx,hte,hsx,hxt⟩
  ·omega
  ·have ex:R.x s.k=x:=by unfold Rd.x;rw[e1,af,Qi,hx];rfl
   rw[ex,e1,af];refine TN (e:=e) (x':=x.ended es.length 1 e.a.v) h hs' e1 hx rfl rfl rfl ?_ ⟨_,-1⟩ (.inr ⟨rfl,az es.length,es.length,e,rfl,hlen,.inr (by show s.b+1=x.b+1;rw[hsx])⟩)
   obtain⟨f,y,h1,h2,h3,h4,h5,h6⟩:=h.te j x hx;have hfl:=(Qc.1 h2).1;exact⟨f,y,h1,by rw[Qm hfl];exact h2,h3,h4,h5,.inr ⟨es.length,rfl,hfl,by simp,.inl rfl⟩⟩
structure Rd.bd (bK:List (List (List Pg.D)))(R:Rd)(i:Nat):Prop where
 len:R.A.length=bK.length
 k:∀ s ∈ R.A,s.k=-1\/∃ j:Nat,s.k=j/\j<R.M.length
 m:R.M.length<=i
 c:R.c<=i
 a:∀ x ∈ R.M,x.AX.length<=i/\x.Cu.length<=i
def Ue {t:Nat}(h:R.bd bK i):(R.s t).k=-1\/∃ j:Nat,(R.s t).k=j/\j<R.M.length:=by
 by_cases ht:t<R.A.length
 ·exact h.k _ (Qe (dj ht))
 ·refine .inl ?_
  unfold Rd.s;rw[Qi,Zb (by omega)];rfl
def LG {k:Int}(h:R.bd bK i):(R.x k).AX.length<=i/\(R.x k).Cu.length<=i:=by
 unfold Rd.x;rw[Qi]
 cases hx:R.M[k.toNat]? with
 | none=>exact⟨aC _,aC _⟩
 | some x=>exact h.a x (Qe hx)
def TV {k:Nat}{x:AK}(h:R.bd bK i)(hx:x.AX.length<=i+1/\x.Cu.length<=i+1){A:List BZ}(hA:A.length=R.A.length)(hk:∀ s ∈ A,s ∈ R.A\/s.k=-1):Rd.bd bK { R with A:=A,M:=R.M.set k x } (i+1):=by
 refine⟨hA.trans h.len,fun s hs=>?_,by simp only[Qq];exact Qu h.m,Qu h.c,fun y hy=>?_⟩
 ·simp only[Qq]
  rcases hk s hs with h1|h1
  ·exact h.k s h1
  ·exact .inl h1
 ·rcases ag hy with h1|rfl
  ·have:=h.a y h1;omega
  ·exact hx
def qme (h:R.bd bK i) (ht:R.take bK i e=some R'):R'.bd bK (i+1):=by
 have up:∀ {x:AK},x.AX.length<=i/\x.Cu.length<=i->x.AX.length<=i+1/\x.Cu.length<=i+1:=fun h=>by omega
 cases AP ht with
 | came _ _=>exact⟨h.len,h.k,Qu h.m,by simp only;have:=h.c;omega,fun x hx=>up (h.a x hx)⟩
 | lost _ _=>exact⟨h.len,h.k,Qu h.m,Qu h.c,fun x hx=>up (h.a x hx)⟩
 | fail t s b bs ht hs htl hth hb hbl hsb hk hl he =>
  refine⟨by simpa [Rd.fail] using h.len,fun s' hs'=>?_,Qu h.m,Qu h.c,fun x hx=>up (h.a x hx)⟩
  rcases ag hs' with h1|rfl
  ·exact h.k s' h1
  ·have:=Ue (t:=t) h;rw[hs]at this;exact this
 | begun t s b bs ht hs htl hth hb hbl hsb hk hl he =>
  refine⟨by simpa [Rd.begun] using h.len,fun s' hs'=>?_,by simp only[Rd.begun,Qd,ai];have:=h.m;omega,Qu h.c,fun x hx=>?_⟩
  ·simp only[Rd.begun,Qd,ai]
   rcases ag hs' with h1|rfl
   ·rcases h.k s' h1 with h2|⟨j,h2,h3⟩
    ·exact .inl h2
    ·exact .inr ⟨j,h2,by omega⟩
   ·exact .inr ⟨R.M.length,rfl,by omega⟩
  ·rcases Qs.1 hx with h1|h1
   ·exact up (h.a x h1)
   ·simp only[Zc]at h1;subst h1;exact⟨aC _,aC _⟩
 | Bs t s b bs ht hs htl hth hb hbl hsb hk hl hn hd hf =>
  refine TV h ?_ rfl fun _ h=>.inl h;have:=LG (k:=s.k) h;simp only[AK.act,Qd,ai];omega
 | gG t s b bs ht hs htl hth hb hbl hsb hk hl hn hd hf =>
  refine TV h ?_ (by simp) fun s' h=>(ag h).imp id fun e=>by rw[e]
  have:=LG (k:=s.k) h;simp only[AK.act,AK.ended,Qd,ai];omega
 | dW t s b bs ht hs htl hth hb hbl hsb hk hl hn hd hf=>exact TV (k:=s.k.toNat) (x:=(R.x s.k).ended i 2 (R.x s.k).ve) (A:=R.A.set t ⟨s.b,-1⟩) h (up (LG (k:=s.k) h)) (by simp) fun s' h=>(ag h).imp id fun e=>by rw[e]
 | AL t s b bs ht hs htl hth hb hbl hsb hk hl hn hd hf=>exact TV (k:=s.k.toNat) (x:=(R.x s.k).ended i 1 e.a.v) (A:=R.A.set t ⟨s.b+1,-1⟩) h (up (LG (k:=s.k) h)) (by simp) fun s' h=>(ag h).imp id fun e=>by rw[e]
def T4 (bK:List (List (List Pg.D))):(Rd.new bK.length).bd bK 0:=
 ⟨Qy,fun s hs=>.inl (by rw[aA hs]),Qk _,Qk _,fun x hx=>by cases hx⟩
def Mw (bK:List (List (List Pg.D))):(Rd.new bK.length).inv bK []:=by
 refine⟨Qy,fun k x hx=>by simp[Rd.new]at hx,fun k x y hx=>by simp[Rd.new]at hx,fun k x hx=>by simp[Rd.new]at hx,fun t s hs=>?_⟩
 have:=aA (Qe hs);subst this;exact⟨rfl,.inl rfl⟩
def ux (es:List Bg):Prop:=∀ e ∈ es,e.a.k=3->e.a.e≠0->e.a.e=141
def uj (hc:ux es)(h:za bK (some (Rd.new bK.length)) 0 es=some R):R.inv bK es:=by
 suffices H:∀ (l l0:List Bg)(R0:Rd),R0.inv bK l0->ux l->za bK (some R0) l0.length l=some R->R.inv bK (l0++l) by
  simpa using H es [] _ (Mw bK) hc h
 intro l;induction l with
 | nil=>intro l0 R0 h0 _ h;injection h with h;subst h;simpa using h0
 | cons e l ih =>
  intro l0 R0 h0 hc h
  cases hR:R0.take bK l0.length e with
  | none =>
   have:za bK (R0.take bK l0.length e) (l0.length+1) l=some R:=h;rw[hR,zy]at this;cases this
  | some R1 =>
   have h2:za bK (R0.take bK l0.length e) (l0.length+1) l=some R:=h;rw[hR]at h2;have h3:=ih (l0++[e]) R1 (TC h0 hR (hc e (by simp))) (fun z hz=>hc z (by simp[hz])) (by simpa using h2)
   simpa using h3
def td {t:Nat}(h:R.take bK i e=some R')(ht:e.t≠t):R'.s t=R.s t:=by
 have BF:∀ (u:Nat)(s:BZ),e.t=u->(R.A.set u s).getD t ⟨0,-1⟩=R.A.getD t ⟨0,-1⟩:=fun u s hu=>by
  rw[Qi,Qr,if_neg (by omega),Qi]
 cases AP h with
 | came _ _=>rfl
 | lost _ _=>rfl
 | fail u s b bs hu _ _ _ _ _ _ _ _ _=>exact BF u _ hu
 | begun u s b bs hu _ _ _ _ _ _ _ _ _=>exact BF u _ hu
 | Bs u s b bs hu _ _ _ _ _ _ _ _ _ _ _=>rfl
 | gG u s b bs hu _ _ _ _ _ _ _ _ _ _ _=>exact BF u _ hu
 | dW u s b bs hu _ _ _ _ _ _ _ _ _ _ _=>exact BF u _ hu
 | AL u s b bs hu _ _ _ _ _ _ _ _ _ _ _=>exact BF u _ hu
def UC {t m:Nat} {x:AK}:∀ (l:List Bg) {es:List Bg} {R0:Rd},(∀ z ∈ l,z.t≠(t:Int))->R0.inv bK es->ux l->R0.M[m]?=some x->x.t=t->za bK (some R0) es.length l=some R->R.M[m]?=some x
 | [],es,R0,_,_,_,hx,_,h=>by injection h with h;subst h;exact hx
 | e::l,es,R0,ho,h0,hc,hx,hxt,h=>by
  have h2:za bK (R0.take bK es.length e) (es.length+1) l=some R:=h
  cases hR:R0.take bK es.length e with
  | none=>rw[hR,zy]at h2;cases h2
  | some R1 =>
   rw[hR]at h2;refine UC l (es:=es++[e]) (R0:=R1) (fun z hz=>ho z (by simp[hz])) (TC h0 hR (hc e (by simp))) (fun z hz=>hc z (by simp[hz])) ?_ hxt (by simpa using h2)
   have ne:∀ {u:Nat} {s:BZ},e.t=u->R0.s u=s->u<bK.length->0<=s.k->s.k.toNat≠m:=by
    intro u s hu hs pE hl e1;rcases Et h0 (s:=s) (t:=u) (by rw[<-hs];exact dj (by rw[h0.len];exact pE)) with e2|⟨j,y,e2,hy,_,_,hyt⟩
    ·omega
    ·have:j=m:=by omega
     subst this;rw[hx]at hy;injection hy with hy;subst hy;have:=ho e (by simp)
     omega
   have BF:∀ {j:Nat} (y:AK),j≠m->(R0.M.set j y)[m]?=some x:=fun y hj=>by rw[Qr,if_neg hj];exact hx
   cases AP hR with
   | came _ _=>exact hx
   | lost _ _=>exact hx
   | fail u s b bs hu _ _ _ _ _ _ _ _ _=>exact hx
   | begun u s b bs hu _ _ _ _ _ _ _ _ _=>simp only[Rd.begun];rw[Qm (Qc.1 hx).1];exact hx
   | Bs u s b bs hu hs pE _ _ _ _ _ hl _ _ _=>exact BF _ (ne hu hs pE hl)
   | gG u s b bs hu hs pE _ _ _ _ _ hl _ _ _=>exact BF _ (ne hu hs pE hl)
   | dW u s b bs hu hs pE _ _ _ _ _ hl _ _ _=>exact BF _ (ne hu hs pE hl)
   | AL u s b bs hu hs pE _ _ _ _ _ hl _ _ _=>exact BF _ (ne hu hs pE hl)
end
end
section
open Go.RowKit Hp
attribute [local go_sem ↓] Go.wp_at_zero Go.wp_at_succ
section
variable {w w' : Aa} {o o' : Own} {rb : Nat} {vt va vr : Ac} {A : List BZ} {M : List A2} {c : Nat} {R : Rd} {bK : List (List (List Pg.D))}
def Cg.sp (h:Cg w o rb vt A M c va vr){t:Nat}{s:BZ}(hs:A[t]?=some s) :
  ∃ g cp,va=Ah (some ⟨g,0,none⟩) A.length cp/\A.length<=cp/\w.cell? ⟨g,t*2,none⟩=some (I Z s.b)/\w.cell? ⟨g,t*2+1,none⟩=some (I Z s.k)/\(∀ j,w.frozen? ⟨g,j,none⟩=false)/\g<w.1.size/\o g=(70,1):=by
 obtain⟨h1,h2⟩:=KL hs;have hr:=h.ra;rcases hr.B7 with ⟨_,hh⟩|⟨g,cp,rfl,hc⟩
 ·rw[hh]at h1;simp at h1
 ·have f:=fun j u (hu:(Eu A)[j]?=some u)=>hr.own.cells (g:=g) rfl j u hu
  have f1:=f _ _ h1;have f2:=f _ _ h2;rw[addr_add]at f1 f2;exact⟨g,cp,rfl,hc,f1,f2,fun j=>hr.free j,hr.blt,hr.CZ⟩
def Cg.tr (h:Cg w o rb vt A M c va vr){k:Nat}{m:A2}(hm:M[k]?=some m) :
  ∃ g cp,vr=Ah (some ⟨g,0,none⟩) M.length cp/\M.length<=cp/\(∀ j u,m.cells[j]?=some u->w.cell? ⟨g,k*10+j,none⟩=some u)/\(∀ j,w.frozen? ⟨g,j,none⟩=false)/\g<w.1.size/\o g=(70,0):=by
 have hr:=h.rm;have ht:=T0 hm;rcases hr.B7 with ⟨_,hh⟩|⟨g,cp,rfl,hc⟩
 ·have:=ht 0 (by omega)
  rw[hh]at this;simp[A2.cells]at this
 ·refine⟨g,cp,rfl,hc,fun j u hu=>?_,fun j=>hr.free j,hr.blt,hr.CZ⟩
  have hj:j<10:=(Qc.1 hu).1;have:=hr.own.cells (g:=g) rfl (k*10+j) u ((ht j hj).trans hu);rwa [addr_add]at this
def Cg.retag (h:Cg w o rb vt A M c va vr):Cg w (ext o w.1.size (69,0)) rb vt A M c va vr:=
 h.Ao ((Stp.refl (fun _=>False) o w).ext (69,0) w.1.size (Qk _)) fun _ _ h=>h
def Cg.T5 {g n cp:Nat}(h:Cg w o rb vt A M c (Ah (some ⟨g,0,none⟩) n cp) vr){t:Nat}{s:BZ}(hs:A[t]?=some s) :
  w.cell? ⟨g,t*2,none⟩=some (I Z s.b)/\w.cell? ⟨g,t*2+1,none⟩=some (I Z s.k)/\(∀ j,w.frozen? ⟨g,j,none⟩=false)/\g<w.1.size/\o g=(70,1):=by
 obtain⟨g',cp',e,_,h1⟩:=h.sp hs;injection e with e _ _;injection e with e;injection e with e;subst e;exact h1
def Cg.Wb {g n cp:Nat}(h:Cg w o rb vt A M c va (Ah (some ⟨g,0,none⟩) n cp)){k:Nat}{m:A2}(hm:M[k]?=some m) :
  (∀ j u,m.cells[j]?=some u->w.cell? ⟨g,k*10+j,none⟩=some u)/\(∀ j,w.frozen? ⟨g,j,none⟩=false)/\g<w.1.size/\o g=(70,0):=by
 obtain⟨g',cp',e,_,h1⟩:=h.tr hm;injection e with e _ _;injection e with e;injection e with e;subst e;exact h1
abbrev enC (t b n k e v:Int):Array Ac:=#[I Z t,I Z b,I Z n,I Z k,I Z e,I Z v]
def qj7 (h0:BC w o rb vt R)(hT:AH w vt bK){t:Nat}{s:BZ}(hs:R.A[t]?=some s)(hA:R.A.length=bK.length){bs:List (List Pg.D)}(ht:bK[t]?=some bs)(i:Nat)(b n k ae av:Int)(hae:ae≠0) :
  Ab ARt 161 #[ptr rb,I Z i,Ak #[I Z t,I Z b,I Z n,I Z k,I Z ae,I Z av]] w fun e w'=>e=O (.bool true)/\∃ o',BC w' o' rb vt (R.fail t bs.length s)/\Stp jm o o' w w':=by
 obtain⟨M,va,vr,hM,h⟩:=h0;obtain⟨g,cp,rfl,hcp,q0,q1,zg,lg,og⟩:=h.sp hs;obtain⟨g0,off,fE,a0,c0,rfl,p0,_⟩:=hT.blocks ht;have l0:=qh p0;have htl:t<R.A.length:=(Qc.1 hs).1;have hlt:(t:Int)<(R.A.length:Int):=by omega
 have heb:(ae != 0)=true:=by rw[bne_iff_ne];exact hae
 have HI:=Qa h;have HF:=Qa (fun (W:Aa)(hb:Ae w.1.size w W) =>
  show ∃ o',BC (W.setCell ⟨g,t*2,none⟩ (I Z bs.length)) o' rb (Ah (some ⟨g0,off,none⟩) bK.length fE) (R.fail t bs.length s)/\Stp jm o o' w (W.setCell ⟨g,t*2,none⟩ (I Z bs.length)) from by
   obtain⟨h2,k2⟩:=(h.below hb).spot rfl hs ⟨bs.length,s.k⟩ (j:=0) (by omega) (I Z bs.length) rfl
   exact⟨o,⟨M,_,vr,hM,h2⟩,(Stp.of_below hb).trans (k2.mono (by rintro _ rfl;exact .inl rfl))⟩)
 have jb:=h.AM;obtain⟨n1,hn1⟩:=Ja0 bs.length;rw[hA]at hlt hcp jb htl;rw[<-hn1]at HF p0 ⊢;obtain⟨nt,hnt⟩:=Ja0 bK.length;rw[<-hnt]at hlt hcp jb htl HF ⊢;clear hT h hM hs ht hae hA hn1 hnt HI;have hb1:=qc (qd w) (.cells (enC t b n k ae av) 69);have c1:=jb.cell;have s1:=jb.lt;go_enter func161,ntmps161;go_upto_region 1 with fail;go_quiet (fail);obtain⟨W,hW⟩:=Ja0 ((w.alloc (.cells #[I Z t,I Z b,I Z n,I Z k,I Z ae,I Z av] 69)).drewN nq);rw[<-hW];have hbW:Ae w.1.size w W:=by rw[hW];exact qx (qc (qd w) _) _
 have jB:Al W w.1.size #[I Z t,I Z b,I Z n,I Z k,I Z ae,I Z av] 69:=by rw[hW];exact (Al.new w _ _).drewN _
 have jL:=jb.below hbW jb.lt;have HFW:=Qa (fun (W2:Aa)(hb:Ae W.1.size W W2)=>HF.out W2 (qe hbW hb))
 have p0W:=(hbW.cell (p:=⟨g0,off+t,none⟩) l0).trans p0;have q0W:=(hbW.cell (p:=⟨g,t*2,none⟩) lg).trans q0;have lgW:g<W.1.size:=Qn lg hbW.size;have zgW:∀ j,W.frozen? ⟨g,j,none⟩=false:=fun j=>by
  have e:=hbW.block g lg;have:=zg j;simp only[World.frozen?,e]at this ⊢;exact this
 clear hW c1 s1 p0 q0 q1 zg lg HF hb1 l0 hbW;have c1:=jL.cell;have s1:=jL.lt;have cB:=jB.cell;have sB:=jB.lt;go_upto_region 3 with fail;go_region;go_wp2_with fail;go_ret;obtain⟨o',h1,h2⟩:=HFW.out W (qd W);exact⟨rfl,o',h1.below (qf (qd _)),h2.drew⟩
end
section
variable {w w' : Aa} {o o' : Own} {rb : Nat} {vt va vr : Ac} {A : List BZ} {M : List A2} {c : Nat} {R : Rd} {bK : List (List (List Pg.D))}
def NQ {a b c d e f g h:Int}:∀ u ∈ [Value.int .i64 a,I Z b,I Z c,I Z d,I Z e,I Z f,Ah none 0 0,Ah none 0 0,I Z g,I Z h],u.oneCell'=true:=by
 intro u hu;simp at hu;rcases hu with rfl|rfl|rfl|rfl|rfl|rfl|rfl|rfl|rfl<;>rfl
def Cg.more (h:Cg w o rb vt A M c va vr){v':Ac}{m:A2}(h1:m.va=Ah none 0 0)(h2:m.vt=Ah none 0 0)(h3:m.x.AX=[])(h4:m.x.Cu=[])(hs:Stp (fun t=>t=(70,0)) o o' w w')
  (hr:Row w' o' (70,0) 86 10 v' (M.length+1) (FK M++m.cells)) :
  Cg (w'.setCell ⟨rb,2,none⟩ v') o' rb vt A (M++[m]) c va v'/\Stp jm o o' w (w'.setCell ⟨rb,2,none⟩ v'):=by
 have hb:=h.AM.Ao hs (by rw[h.om];simp)
 have e1:o' rb=(70,2):=(hs.tags _ h.AM.lt).trans h.om;have k:Stp (fun t=>t=(70,2)) o' o' w' (w'.setCell ⟨rb,2,none⟩ v'):=(Stp.refl _ o' w').setCell (by show o' rb=_;exact e1) _
 refine⟨⟨hb.set 2 v',(h.ra.Ao hs (by simp)).Ao k (by simp),?_,?_,e1⟩,(hs.mono (by rintro _ rfl;exact .inl rfl)).trans (k.mono (by rintro _ rfl;exact .inl rfl))⟩
 ·rw[KZ]
  exact (hr.Ao k (by simp)).ite (by simp) rfl
 ·intro j x hx
  by_cases e2:j<M.length
  ·rw[Qm e2]at hx
   exact⟨((h.ms j x hx).1.Ao hs (by simp)).Ao k (by simp),((h.ms j x hx).2.Ao hs (by simp)).Ao k (by simp)⟩
  ·rw[Ql (by omega)]at hx
   have:=Qe hx;simp only[Zc]at this;subst this;rw[h1,h2,h3,h4];exact⟨Row.nil _ _ _ _ _,Row.nil _ _ _ _ _⟩
def qo0 (h0:BC w o rb vt R){t:Nat}{s:BZ}(hs:R.A[t]?=some s)(i:Nat)(b n k av:Int)(hM:R.M.length<=1099511627776) :
  Ab ARt 161 #[ptr rb,I Z i,Ak #[I Z t,I Z b,I Z n,I Z k,I Z 0,I Z av]] w fun e w'=>e=O (.bool true)/\∃ o',BC w' o' rb vt (R.begun i t s b av)/\Stp jm o o' w w':=by
 obtain⟨M,va,vr,hMe,h00⟩:=h0;have h:=h00.retag;obtain⟨o1,ho1⟩:∃ o1,o1=ext o w.1.size (69,0):=⟨_,rfl⟩;rw[<-ho1]at h;have hS0:Stp jm o o1 w w:=by rw[ho1];exact (Stp.refl _ o w).ext _ _ (Qk _)
 have oB:o1 w.1.size=(69,0):=by rw[ho1];exact qz (Qk _)
 clear ho1 h00;obtain⟨g,cp,rfl,hcp,q0,q1,zg,lg,og⟩:=h.sp hs;obtain⟨pr,cr,rfl⟩:=h.rm.AS;have htl:t<R.A.length:=(Qc.1 hs).1;have hlt:(t:Int)<(R.A.length:Int):=by omega
 have Afy:M.length=R.M.length:=by rw[<-hMe,Qg]
 obtain⟨iU,hi,hsI,bZ,bT⟩:=Jy;have huT:=underlying80;have gY:=Qa (show M.length+1<=maxLen/\(M.length+1)*112<=140737488355328 from by simp only[maxLen];omega)
 have HA:=Qa (fun (W:Aa)(hb:Ae w.1.size w W)=>(h.below hb).spot rfl hs ⟨s.b,M.length⟩ (j:=1) (by omega) (I Z M.length) rfl)
 have HE:=Qa (show ∀ (M':List A2)(w5:Aa)(o5:Own)(v5:Ac),M'=M++[(⟨⟨t,b,av,R.c,i,-1,[],[],0,0⟩,Ah none 0 0,Ah none 0 0⟩:A2)]->Cg w5 o5 rb vt (R.A.set t ⟨s.b,M.length⟩) M' R.c (Ah (some ⟨g,0,none⟩) R.A.length cp) v5->BC w5 o5 rb vt (R.begun i t s b av) from by
  rintro M' w5 o5 v5 rfl h5;refine⟨M++[(⟨⟨t,b,av,R.c,i,-1,[],[],0,0⟩,Ah none 0 0,Ah none 0 0⟩:A2)],Ah (some ⟨g,0,none⟩) R.A.length cp,v5,?_,?_⟩
  ·rw[Qx,hMe];rfl
  ·have:(R.begun i t s b av).A=R.A.set t ⟨s.b,M.length⟩:=by unfold Rd.begun;simp only;rw[Afy]
   rw[this];exact h5)
 have jb:=h.AM;obtain⟨c,hc⟩:=Ja0 R.c;rw[<-hc]at jb HA HE;obtain⟨nm,hnm⟩:=Ja0 M.length;obtain⟨na,hna⟩:=Ja0 R.A.length;obtain⟨cs,hcs⟩:=Ja0 (FK M);rw[<-hna]at hlt hcp jb htl HA HE;rw[<-hnm]at jb gY HA HE;have Aow:w.1.size≠rb:=by have:=h.AM.lt;omega
 have HX:=Qa (fun (W2 W5:Aa)(h2:Cg W2 o1 rb vt (R.A.set t ⟨s.b,nm⟩) M c (Ah (some ⟨g,0,none⟩) na cp) (.slice pr nm cr))(hb:Ae W2.1.size W2 W5)(iO:Al W5 w.1.size #[I Z t,I Z b,I Z n,I Z k,I Z 0,I Z av] 69) =>
  show Row W5 o1 (70,0) 86 10 (.slice pr nm cr) nm cs/\∀ (w5:Aa)(o5:Own)(v5:Ac),Row w5 o5 (70,0) 86 10 v5 (nm+1) (cs++[I Z t,I Z b,I Z av,I Z c,I Z i,I Z (-1),Ah none 0 0,Ah none 0 0,I Z 0,I Z 0])->Stp (fun t=>t=(70,0)) o1 o5 W5 w5 ->
   Al w5 rb #[vt,Ah (some ⟨g,0,none⟩) na cp,.slice pr nm cr,I Z c] 163/\Al w5 w.1.size #[I Z t,I Z b,I Z n,I Z k,I Z 0,I Z av] 69/\Al (w5.setCell ⟨rb,2,none⟩ v5) rb #[vt,Ah (some ⟨g,0,none⟩) na cp,v5,I Z c] 163/\Al (w5.setCell ⟨rb,2,none⟩ v5) w.1.size #[I Z t,I Z b,I Z n,I Z k,I Z 0,I Z av] 69/\BC (w5.setCell ⟨rb,2,none⟩ v5) o5 rb vt (R.begun i t s b av)/\Stp jm o1 o5 W2 (w5.setCell ⟨rb,2,none⟩ v5) from by
   have h5:=h2.below hb;refine⟨by rw[hcs,hnm];have:=h5.rm;rw[<-hnm]at this ⊢;exact this,fun w5 o5 v5 hr hst=>?_⟩
   have hr':Row w5 o5 (70,0) 86 10 v5 (M.length+1) (FK M++A2.cells ⟨⟨t,b,av,c,i,-1,[],[],0,0⟩,Ah none 0 0,Ah none 0 0⟩):=by rw[<-hcs,<-hnm];exact hr
   obtain⟨h6,k6⟩:=h5.more rfl rfl rfl rfl hst hr';exact⟨h5.AM.Ao hst (by rw[h5.om];simp),iO.Ao hst (by rw[oB];simp),(h5.AM.Ao hst (by rw[h5.om];simp)).set 2 v5,(iO.Ao hst (by rw[oB];simp)).Am Aow v5,HE.out _ _ _ _ rfl h6,(Stp.of_below hb).trans k6⟩)
 have oU:g≠rb:=fun e=>by have h1:=h.om;rw[<-e,og]at h1;simp at h1
 clear h hMe hs Afy hM hc hnm hna hcs HE;have c1:=jb.cell;have s1:=jb.lt;go_enter func161,ntmps161;go_upto_region 1 with fail;go_quiet (fail);obtain⟨W,hW⟩:=Ja0 ((w.alloc (.cells #[I Z t,I Z b,I Z n,I Z k,I Z 0,I Z av] 69)).drewN nq);rw[<-hW];have hbW:Ae w.1.size w W:=by rw[hW];exact qx (qc (qd w) _) _
 have jB:Al W w.1.size #[I Z t,I Z b,I Z n,I Z k,I Z 0,I Z av] 69:=by rw[hW];exact (Al.new w _ _).drewN _
 have jL:=jb.below hbW jb.lt;obtain⟨hI2,k2⟩:=HA.out W hbW;have q1W:=(hbW.cell (p:=⟨g,t*2+1,none⟩) lg).trans q1;have lgW:g<W.1.size:=Qn lg hbW.size;have zgW:∀ j,W.frozen? ⟨g,j,none⟩=false:=fun j=>by
  have e:=hbW.block g lg;have:=zg j;simp only[World.frozen?,e]at this ⊢;exact this
 have hwr:w.1.size≠g:=by omega
 have rX:Al (W.setCell ⟨g,t*2+1,none⟩ (I Z nm)) w.1.size #[I Z t,I Z b,I Z n,I Z k,I Z 0,I Z av] 69:=jB.Am hwr _;clear hW c1 s1 q0 q1 zg lg HA;have c1:=jL.cell;have s1:=jL.lt;have cB:=jB.cell;have sB:=jB.lt;go_upto_region 6 with fail;obtain⟨W2,hW2⟩:=Ja0 (W.setCell ⟨g,t*2+1,none⟩ (I Z nm));rw[<-hW2]at hI2 k2 rX ⊢;have K2:=Qa ((Stp.of_below hbW).trans k2);have H2:=Qa hI2;have qH:=hI2.AM;clear hW2 c1 s1 cB sB jL jB hbW q1W lgW zgW k2 hI2 jb;have c1:=qH.cell;have s1:=qH.lt;have cB:=rX.cell;have sB:=rX.lt;have hXX:=HX.out W2 (W2.drew.alloc (.cells #[I Z t,I Z b,I Z av,I Z c,I Z i,I Z (-1),Ah none 0 0,Ah none 0 0,I Z 0,I Z 0] 86)) H2.out (qc (qf (qd W2)) _) (Al.alloc (qj rX) _);obtain⟨rn,hfin⟩:=hXX;have HFin:=Qa hfin;have jn:=Al.new W2.drew #[I Z t,I Z b,I Z av,I Z c,I Z i,I Z (-1),Ah none 0 0,Ah none 0 0,I Z 0,I Z 0] 86;clear hfin;have b0:W2.cell? ⟨w.1.size,0,none⟩=some (I Z t):=rX.cell 0;have b1:W2.cell? ⟨w.1.size,1,none⟩=some (I Z b):=rX.cell 1;have b5:W2.cell? ⟨w.1.size,5,none⟩=some (I Z av):=rX.cell 5;have r3:W2.cell? ⟨rb,3,none⟩=some (I Z c):=qH.cell 3;refine zo (fun w'=>w'.cell? ⟨w.1.size,0,none⟩=some (I Z t)/\w'.cell? ⟨w.1.size,1,none⟩=some (I Z b)/\w'.cell? ⟨w.1.size,5,none⟩=some (I Z av)/\w'.cell? ⟨rb,3,none⟩=some (I Z c)/\w'.cell? ⟨rb,2,none⟩=some (.slice pr nm cr)) 22 (by kernel_rfl) ?_
 have HS:=aj (show W2.drew.cell? ⟨w.1.size,0,none⟩=some (I Z t) from b0) (aj (show W2.drew.cell? ⟨w.1.size,1,none⟩=some (I Z b) from b1) (aj (show W2.drew.cell? ⟨w.1.size,5,none⟩=some (I Z av) from b5) (aj (show W2.drew.cell? ⟨rb,3,none⟩=some (I Z c) from r3) (show W2.drew.cell? ⟨rb,2,none⟩=some (.slice pr nm cr) from qH.cell 2))));refine qp (by kernel_rfl) (fun c d x a w h=>by cases d<;>exact h) [0,1,2,3,4,5,6,7,8,9,10,11,12,13,14,15,16,17] (by kernel_rfl) (by decide) HS ?_
 iterate 18 (refine De (v:=?_) rfl ?_ ?_;rotate_left;(· (first|(refine Or.inl ⟨by rfl,?_⟩;rintro w' ⟨h0,h1,h5,h3,h2⟩;go_simp;try with_reducible rfl)));simp only[aG,aD,aF,Act.put,Ad,Ai,aa])
 refine Df ?_;refine qg (i:=18) (by kernel_rfl) rfl fun K hK=>?_
 go_simp;refine hK.out _ _ (fun _=>⟨(Al.alloc (qj rX) _).cell 0,(Al.alloc (qj rX) _).cell 1,(Al.alloc (qj rX) _).cell 5,(Al.alloc (qj qH) _).cell 3,(Al.alloc (qj qH) _).cell 2⟩) ?_
 clear hK K
 try simp only[Act.put,Ad,Ai,aa]
 refine qg (i:=19) (by kernel_rfl) rfl fun K hK=>?_
 refine qv _ (by rfl) _ _ _ (by rfl) 86 iU _ 10 112 huT hi bT hsI bZ (by rfl) (by decide) o1 (70,0) _ _ _ (by rfl) rn ⟨W2.1.size,0,none⟩ 1 1 [I Z t,I Z b,I Z av,I Z c,I Z i,I Z (-1),Ah none 0 0,Ah none 0 0,I Z 0,I Z 0] (by rfl) (by rfl) (xw jn) NQ gY.out.1 gY.out.2 ?_
 intro v' w5 hown hst;obtain⟨p5,c5,rfl⟩:=hown.AS;obtain⟨jY,jZ,jY2,jZ2,hX1,hX2⟩:=HFin.out _ _ _ hown hst;have HX1:=Qa hX1;have HX2:=Qa hX2;have iG:=aj (show w5.cell? ⟨w.1.size,0,none⟩=some (I Z t) from jZ.cell 0) (aj (show w5.cell? ⟨w.1.size,1,none⟩=some (I Z b) from jZ.cell 1) (aj (show w5.cell? ⟨w.1.size,5,none⟩=some (I Z av) from jZ.cell 5) (aj (show w5.cell? ⟨rb,3,none⟩=some (I Z c) from jY.cell 3) (show w5.cell? ⟨rb,2,none⟩=some (.slice pr nm cr) from jY.cell 2))));clear hX1 hX2 jZ jY2 jZ2 hown hst c1 cB s1 sB HS rX qH HFin rn jn b0 b1 b5 r3;refine hK.out _ _ (fun _=>iG) ?_
 clear hK K;have cX:=jY.cell;have zX:=jY.free;have sX:=jY.lt
 try simp only[Act.put,Ad,Ai,aa]
 refine qg (i:=20) (by kernel_rfl) rfl fun K hK=>?_
 go_simp;refine hK.out _ _ (fun _=>iG) ?_
 clear hK K
 try simp only[Act.put,Ad,Ai,aa]
 refine qg (i:=21) (by kernel_rfl) rfl fun K hK=>?_
 go_simp;refine hK.out _ _ (fun _=>iG) ?_
 clear hK K
 try simp only[Act.put,Ad,Ai,aa]
 refine qg (i:=22) (by kernel_rfl) rfl fun K hK=>?_
 go_simp;refine hK.out _ _ (fun h=>absurd h (by decide)) ?_
 clear hK K
 try simp only[Act.put,Ad,Ai,aa]
 refine zd (by kernel_rfl) ?_
 go_wp2_with fail;go_ret;exact⟨rfl,_,HX1.out,hS0.trans ((K2.out.mono (by rintro _ rfl;exact .inl rfl)).trans HX2.out)⟩
end
def qop (e:Int)(w:Aa):Ab ARt 158 #[I Z e] w fun en w'=>en=O (.bool (yp e))/\w=w':=by
 unfold yp
 cases h1:(e==141)<;>cases h2:(e==100)<;>cases h3:(e==130)
 all_goals
  go_enter func158,ntmps158;go_wp2_with fail;go_ret;exact⟨rfl,rfl⟩
section
variable {w w' : Aa} {o o' : Own} {rb : Nat} {vt va vr : Ac} {A : List BZ} {M : List A2} {c : Nat} {R : Rd} {bK : List (List (List Pg.D))}
def Cg.AX (h:Cg w o rb vt A M c va vr){g cp:Nat}(hv:vr=Ah (some ⟨g,0,none⟩) M.length cp){k:Nat}{m:A2}(hm:M[k]?=some m)(a:A0){v':Ac}(hs:Stp (fun t=>t=(71,k)) o o' w w')
  (hr:Row w' o' (71,k) 54 3 v' (m.x.AX.length+1) (acl m.x.AX++[I Z a.k,I Z a.e,I Z a.v])) :
  Cg (w'.setCell ⟨g,k*10+6,none⟩ v') o' rb vt A (M.set k ⟨{ m.x with AX:=m.x.AX++[a] },v',m.vt⟩) c va vr/\Stp jm o o' w (w'.setCell ⟨g,k*10+6,none⟩ v'):=by
 subst hv;have og:o' g=(70,0):=(hs.tags _ h.rm.blt).trans h.rm.CZ;have e1:o' rb=(70,2):=(hs.tags _ h.AM.lt).trans h.om;have kk:Stp (fun t=>t=(70,0)) o' o' w' (w'.setCell ⟨g,k*10+6,none⟩ v'):=(Stp.refl _ o' w').setCell (by show o' g=_;exact og) _
 refine⟨⟨(h.AM.Ao hs (by rw[h.om];simp)).Ao kk (by rw[e1];simp),(h.ra.Ao hs (by simp)).Ao kk (by simp),?_,?_,e1⟩,(hs.mono (by rintro _ rfl;exact .inr (.inl rfl))).trans (kk.mono (by rintro _ rfl;exact .inl rfl))⟩
 ·have:=(h.rm.Ao hs (by simp)).Ct (k*10+6) v'
  rw[U8 hm ⟨{ m.x with AX:=m.x.AX++[a] },v',m.vt⟩ (j:=6) (by omega) v' rfl]at this
  exact this.ite (by simp) rfl
 ·intro j x hx
  rw[Qr]at hx;split at hx
  ·rename_i e5
   subst e5;(try rw[if_pos (Qc.1 hm).1]at hx);injection hx with hx;subst hx;refine⟨?_,((h.ms k m hm).2.Ao hs (by simp)).Ao kk (by simp)⟩
   simp only;rw[FW];exact (hr.Ao kk (by simp)).ite (by simp) rfl
  ·rename_i e5
   exact⟨((h.ms j x hx).1.Ao hs (by simp;omega)).Ao kk (by simp),((h.ms j x hx).2.Ao hs (by simp)).Ao kk (by simp)⟩
def Cg.Cu (h:Cg w o rb vt A M c va vr){g cp:Nat}(hv:vr=Ah (some ⟨g,0,none⟩) M.length cp){k:Nat}{m:A2}(hm:M[k]?=some m)(i:Nat){v':Ac}(hs:Stp (fun t=>t=(72,k)) o o' w w')
  (hr:Row w' o' (72,k) 3 1 v' (m.x.Cu.length+1) (m.x.Cu.map nv++[I Z i])) :
  Cg (w'.setCell ⟨g,k*10+7,none⟩ v') o' rb vt A (M.set k ⟨{ m.x with Cu:=m.x.Cu++[i] },m.va,v'⟩) c va vr/\Stp jm o o' w (w'.setCell ⟨g,k*10+7,none⟩ v'):=by
 subst hv;have og:o' g=(70,0):=(hs.tags _ h.rm.blt).trans h.rm.CZ;have e1:o' rb=(70,2):=(hs.tags _ h.AM.lt).trans h.om;have kk:Stp (fun t=>t=(70,0)) o' o' w' (w'.setCell ⟨g,k*10+7,none⟩ v'):=(Stp.refl _ o' w').setCell (by show o' g=_;exact og) _
 refine⟨⟨(h.AM.Ao hs (by rw[h.om];simp)).Ao kk (by rw[e1];simp),(h.ra.Ao hs (by simp)).Ao kk (by simp),?_,?_,e1⟩,(hs.mono (by rintro _ rfl;exact .inr (.inr rfl))).trans (kk.mono (by rintro _ rfl;exact .inl rfl))⟩
 ·have:=(h.rm.Ao hs (by simp)).Ct (k*10+7) v'
  rw[U8 hm ⟨{ m.x with Cu:=m.x.Cu++[i] },m.va,v'⟩ (j:=7) (by omega) v' rfl]at this
  exact this.ite (by simp) rfl
 ·intro j x hx
  rw[Qr]at hx;split at hx
  ·rename_i e5
   subst e5;(try rw[if_pos (Qc.1 hm).1]at hx);injection hx with hx;subst hx;refine⟨((h.ms k m hm).1.Ao hs (by simp)).Ao kk (by simp),?_⟩
   simp only;exact (hr.Ao kk (by simp)).ite (by simp) (by rw[Qx];rfl)
  ·rename_i e5
   exact⟨((h.ms j x hx).1.Ao hs (by simp)).Ao kk (by simp),((h.ms j x hx).2.Ao hs (by simp;omega)).Ao kk (by simp)⟩
def Ko (h0:BC w o rb vt R)(hT:AH w vt bK){t b k:Nat}(hs:R.A[t]?=some ⟨b,k⟩)(hA:R.A.length=bK.length){bs:List (List Pg.D)}(ht:bK[t]?=some bs){ds:List Pg.D}(hb:bs[b]?=some ds){x:AK}(hx:R.M[k]?=some x)
  (i:Nat)(n kk ae av:Int)(hn:n≠x.AX.length\/(ds.length:Int)<=n) :
  Ab ARt 162 #[ptr rb,I Z i,Ak #[I Z t,I Z b,I Z n,I Z kk,I Z ae,I Z av]] w fun e w'=>e=O (.bool false)/\Ae w.1.size w w':=by
 obtain⟨M,va,vr,hM,h⟩:=h0;obtain⟨m,hm,rfl⟩:∃ m,M[k]?=some m/\m.x=x:=by
  rw[<-hM,Qj]at hx
  cases hm:M[k]? with
  | none=>rw[hm]at hx;cases hx
  | some m=>rw[hm]at hx;exact⟨m,rfl,by injection hx⟩
 obtain⟨g,cp,rfl,hcp,q0,q1,zg,lg,og⟩:=h.sp hs;obtain⟨gm,cm,rfl,hcm,qm,zm,lm,om⟩:=h.tr hm;obtain⟨g0,off,fE,a0,c0,rfl,p0,hB⟩:=hT.blocks ht;obtain⟨g1,lY,gP,a1,c1',e1,p1,hD⟩:=hB.EB hb;injection e1 with e1 _ e3;subst e1 e3;obtain⟨pa,ca,hva⟩:=(h.ms k m hm).1.AS;have qa:=qm 6 m.va rfl;rw[hva]at qa;have l0:=qh p0;have l1:=qh p1;have htl:t<R.A.length:=(Qc.1 hs).1;have hbl:b<bs.length:=(Qc.1 hb).1;have hkl:k<M.length:=(Qc.1 hm).1;have hlt:(t:Int)<(R.A.length:Int):=by omega
 have hlb:(b:Int)<(bs.length:Int):=by omega
 have hlk:(k:Int)<(M.length:Int):=by omega
 have jb:=h.AM;obtain⟨na,hna⟩:=Ja0 m.x.AX.length;obtain⟨nd,hnd⟩:=Ja0 ds.length;obtain⟨nb,hnb⟩:=Ja0 bs.length;obtain⟨nm,hnm⟩:=Ja0 M.length;obtain⟨nt,hnt⟩:=Ja0 bK.length;rw[hA]at hlt hcp jb htl;rw[<-hna]at hn qa;rw[<-hnd]at hn p1;rw[<-hnb]at hbl hlb p0;rw[<-hnm]at hkl hlk jb hcm;rw[<-hnt]at hlt hcp jb htl;have c:=jb.cell;have s:=jb.lt;simp only at q0 q1;clear hT hM h hs hA ht hb hx hm hna hnd hnb hnm hnt hva hB hD qm og om;rcases (show (n != (na:Int))=true\/((n != (na:Int))=false/\(nd:Int)<=n) from by
  by_cases e:n=na
  ·exact .inr ⟨by rw[e];simp,hn.resolve_left fun z=>z e⟩
  ·exact .inl (by rw[bne_iff_ne];exact e)) with h1|⟨h1,h2⟩
 all_goals
  clear hn;go_enter func162,ntmps162;go_upto_region 1 with fail;go_quiet (fail);go_upto_region 2 with fail;go_quiet (fail);go_upto_region 3 with fail;go_quiet (fail);go_upto_region 4 with fail;go_quiet (fail);go_wp2_with fail;go_ret;exact⟨rfl,by repeat (first|exact qd w|refine qx ?_ _|refine qc ?_ _)⟩
end
section
variable {w w' : Aa} {o o' : Own} {rb : Nat} {vt va vr : Ac} {A : List BZ} {M : List A2} {c : Nat} {R : Rd} {bK : List (List (List Pg.D))}
def Lv {a b c:Int}:∀ u ∈ [Value.int .i64 a,I Z b,I Z c],u.oneCell'=true:=by
 intro u hu;simp at hu;rcases hu with rfl|rfl|rfl<;>rfl
def Jx:∃ i,ARt.info? 54=some i/\i.size=3/\i.bytes=24/\i.zero=some (Ak #[I Z 0,I Z 0,I Z 0]):=info_parts (by kernel_rfl)
def K6 {Ms:List A2}{L:List AK}(hM:Ms.map A2.x=L){k:Nat}{x:AK}(hx:L[k]?=some x):∃ m,Ms[k]?=some m/\m.x=x:=by
 rw[<-hM,Qj]at hx
 cases hm:Ms[k]? with
 | none=>rw[hm]at hx;cases hx
 | some m=>rw[hm]at hx;exact⟨m,rfl,by injection hx⟩
def Kp (h0 : BC w o rb vt R) (hT : AH w vt bK) {t b k : Nat} (hs : R.A[t]? = some ⟨b, k⟩) (hA : R.A.length = bK.length) {bs : List (List Pg.D)} (ht : bK[t]? = some bs) {ds : List Pg.D} (hb : bs[b]? = some ds) (hbs : bs.length <= 1000000) {x : AK} (hx : R.M[k]? = some x)
    (i : Nat) (kk ae av : Int) (hn : x.AX.length < ds.length) (ha : x.AX.length <= 1099511627776) (ha2 : x.Cu.length <= 1099511627776) :
    Ab ARt 162 #[ptr rb, I Z i, Ak #[I Z t, I Z b, I Z x.AX.length, I Z kk, I Z ae, I Z av]] w fun e w' => e = O (.bool true) /\
      ∃ o', BC w' o' rb vt (if rp ds ⟨t, b, x.AX.length, ⟨kk, ae, av⟩⟩ = true then R.shut t (if ae = 141 then b else b + 1) k ((x.act i ⟨kk, ae, av⟩).ended i 2 x.ve) else R.put k (x.act i ⟨kk, ae, av⟩)) /\ Stp jm o o' w w' := by
  obtain ⟨M, va, vr, hM, h00⟩ := h0
  have h := h00.retag
  obtain ⟨o1, ho1⟩ : ∃ o1, o1 = ext o w.1.size (69, 0) := ⟨_, rfl⟩
  rw [<- ho1] at h
  have hS0 : Stp jm o o1 w w := by rw [ho1]; exact (Stp.refl _ o w).ext _ _ (Qk _)
  have oB : o1 w.1.size = (69, 0) := by rw [ho1]; exact qz (Qk _)
  clear ho1 h00
  obtain ⟨m, hm, rfl⟩ := K6 hM hx
  obtain ⟨g, cp, rfl, hcp, q0, q1, zg, lg, og⟩ := h.sp hs
  obtain ⟨gm, cm, rfl, hcm, qm, zm, lm, om⟩ := h.tr hm
  obtain ⟨g0, off, fE, a0, c0, rfl, p0, hB⟩ := hT.blocks ht
  obtain ⟨g1, lY, gP, a1, c1', e1, p1, hD⟩ := hB.EB hb
  injection e1 with e1 _ e3
  subst e1 e3
  obtain ⟨d, hd⟩ : ∃ d, ds[m.x.AX.length]? = some d := ⟨_, Qb hn⟩
  obtain ⟨g2, dU, cp2, e2, p2⟩ := hD.kind hd
  injection e2 with e2 _ e4
  subst e2 e4
  obtain ⟨pa, ca, hva⟩ := (h.ms k m hm).1.AS
  obtain ⟨pt, ct, qG⟩ := (h.ms k m hm).2.AS
  have qa := qm 6 m.va rfl;have qt := qm 7 m.vt rfl;rw [hva] at qa;rw [qG] at qt;have l0 := qh p0;have l1 := qh p1;have l2 := qh p2;have htl : t < R.A.length := (Qc.1 hs).1;have hbl : b < bs.length := (Qc.1 hb).1;have hkl : k < M.length := (Qc.1 hm).1;have hlt : (t : Int) < (R.A.length : Int) := by omega
  have hlb : (b : Int) < (bs.length : Int) := by omega
  have hlk : (k : Int) < (M.length : Int) := by omega
  have hgr : g ≠ gm := fun e => by rw [e, om] at og; simp at og
  have gX : rp ds ⟨t, b, m.x.AX.length, ⟨kk, ae, av⟩⟩ = (yp ae || (ae == 0 && d.k == 14)) := by
    unfold rp E9; simp only [af, hd]
  have hdl : ¬ ((ds.length : Int) <= (m.x.AX.length : Int)) := by omega
  have Afp : (m.x.AX.length : Int) < (ds.length : Int) := by omega
  obtain ⟨iU, hi, hsI, bZ, bT⟩ := Jx;have huA := underlying84;obtain ⟨iI, hiI, vO, vT, vV⟩ := jh;have hu64 := underlying25;have gY := Qa (show (m.x.AX.length + 1 <= maxLen /\ (m.x.AX.length + 1) * 24 <= 140737488355328) /\ (m.x.Cu.length + 1 <= maxLen /\ (m.x.Cu.length + 1) * 8 <= 140737488355328) from by simp only [maxLen]; omega)
  have HW := Qa (show wrap64 ((b : Int) + 1) = (b : Int) + 1 /\ IntKind.i64.wrap ((b : Int) + 1) = (b : Int) + 1 from ⟨IntWalk.wrap64_in _ (by omega), IntWalk.i64_in _ (by omega)⟩)
  have jb := h.AM;obtain ⟨na, hna⟩ : ∃ na, na = m.x.AX.length := ⟨_, rfl⟩;obtain ⟨nt, hnt⟩ : ∃ nt, nt = m.x.Cu.length := ⟨_, rfl⟩;obtain ⟨nA, vC⟩ : ∃ nA, nA = R.A.length := ⟨_, rfl⟩;obtain ⟨nM, rQ⟩ : ∃ nM, nM = M.length := ⟨_, rfl⟩;obtain ⟨nD, hnD⟩ : ∃ nD, nD = ds.length := ⟨_, rfl⟩
  obtain ⟨nB, hnB⟩ : ∃ nB, nB = bs.length := ⟨_, rfl⟩
  have gU : bK.length = nA := by rw [vC, hA]
  obtain ⟨lZ, gJ⟩ : ∃ lZ, lZ = Value.slice (some ⟨g0, off, none⟩) bK.length fE := ⟨_, rfl⟩
  have hka := (h.ms k m hm)
  obtain ⟨m1, hm1⟩ : ∃ m1 : Ac -> A2, m1 = fun v => ⟨{ m.x with AX := m.x.AX ++ [⟨kk, ae, av⟩] }, v, m.vt⟩ := ⟨_, rfl⟩
  obtain ⟨m2, hm2⟩ : ∃ m2 : Ac -> Ac -> A2, m2 = fun v u => ⟨m.x.act i ⟨kk, ae, av⟩, v, u⟩ := ⟨_, rfl⟩
  have hwg : w.1.size ≠ gm := by omega
  have H7 := Qa (fun (W5 : Aa) (hb : Ae w.1.size w W5) (jB : Al W5 w.1.size #[I Z t, I Z b, I Z na, I Z kk, I Z ae, I Z av] 69) =>
    show Row W5 o1 (71, k) 54 3 (.slice pa na ca) na (acl m.x.AX) /\ ∀ (w5 : Aa) (o5 : Own) (v5 : Ac), Row w5 o5 (71, k) 54 3 v5 (na + 1) (acl m.x.AX ++ [I Z kk, I Z ae, I Z av]) -> Stp (fun t => t = (71, k)) o1 o5 W5 w5 ->
      w5.frozen? ⟨gm, k * 10 + 6, none⟩ = false /\ gm < w5.1.size /\ w5.cell? ⟨gm, k * 10 + 6, none⟩ = some (.slice pa na ca) /\ Al w5 w.1.size #[I Z t, I Z b, I Z na, I Z kk, I Z ae, I Z av] 69 /\ Al (w5.setCell ⟨gm, k * 10 + 6, none⟩ v5) w.1.size #[I Z t, I Z b, I Z na, I Z kk, I Z ae, I Z av] 69 /\ o5 w.1.size = (69, 0) /\
      Cg (w5.setCell ⟨gm, k * 10 + 6, none⟩ v5) o5 rb lZ R.A (M.set k (m1 v5)) R.c (Ah (some ⟨g, 0, none⟩) nA cp) (Ah (some ⟨gm, 0, none⟩) nM cm) /\ Stp jm o o5 w (w5.setCell ⟨gm, k * 10 + 6, none⟩ v5) from by
      have h5 := h.below hb
      rw [hna, vC, rQ, gJ]
      rw [hna] at jB
      refine ⟨by have := (h5.ms k m hm).1; rw [hva] at this; exact this, fun w5 o5 v5 hr hst => ?_⟩
      obtain ⟨h6, k6⟩ := h5.AX rfl hm ⟨kk, ae, av⟩ hst hr
      have dQ := h5.rm.Ao hst (by simp)
      have ob : o5 w.1.size = (69, 0) := (hst.tags _ jB.lt).trans oB
      have iO := jB.Ao hst (by rw [oB]; simp)
      refine ⟨dQ.free _, dQ.blt, ?_, iO, iO.Am hwg _, ob, by rw [hm1]; exact h6, hS0.trans ((Stp.of_below hb).trans k6)⟩
      have := dQ.own.cells (g := gm) rfl (k * 10 + 6) m.va (by rw [T0 hm 6 (by omega)]; rfl)
      rw [addr_add] at this
      rw [this, hva])
  have H8 := Qa (fun (W6 W7 : Aa) (o5 : Own) (v5 : Ac) (h6 : Cg W6 o5 rb lZ R.A (M.set k (m1 v5)) R.c (Ah (some ⟨g, 0, none⟩) nA cp) (Ah (some ⟨gm, 0, none⟩) nM cm)) (hb : Ae W6.1.size W6 W7) (jB : Al W6 w.1.size #[I Z t, I Z b, I Z na, I Z kk, I Z ae, I Z av] 69) (oB6 : o5 w.1.size = (69, 0)) =>
    show Row W7 o5 (72, k) 3 1 (.slice pt nt ct) nt (m.x.Cu.map nv) /\ W6.cell? ⟨gm, k * 10 + 7, none⟩ = some (.slice pt nt ct) /\ ∀ (w8 : Aa) (o8 : Own) (v8 : Ac), Row w8 o8 (72, k) 3 1 v8 (nt + 1) (m.x.Cu.map nv ++ [I Z i]) -> Stp (fun t => t = (72, k)) o5 o8 W7 w8 ->
      w8.frozen? ⟨gm, k * 10 + 7, none⟩ = false /\ gm < w8.1.size /\ w8.cell? ⟨gm, k * 10 + 7, none⟩ = some (.slice pt nt ct) /\ Al (w8.setCell ⟨gm, k * 10 + 7, none⟩ v8) w.1.size #[I Z t, I Z b, I Z na, I Z kk, I Z ae, I Z av] 69 /\
      Cg (w8.setCell ⟨gm, k * 10 + 7, none⟩ v8) o8 rb lZ R.A (M.set k (m2 v5 v8)) R.c (Ah (some ⟨g, 0, none⟩) nA cp) (Ah (some ⟨gm, 0, none⟩) nM cm) /\ Stp jm o5 o8 W6 (w8.setCell ⟨gm, k * 10 + 7, none⟩ v8) from by
      have hm6 : (M.set k (m1 v5))[k]? = some (m1 v5) := by rw [Qr, if_pos rfl, if_pos (by rw [<- rQ] at hkl; rw [<- rQ]; exact hkl)]
      have h7 := h6.below hb
      have e1 : (m1 v5).vt = .slice pt nt ct := by rw [hm1, hnt]; exact qG
      have e2 : (m1 v5).x.Cu = m.x.Cu := by rw [hm1]
      have e3 : ∀ v8, (⟨{ (m1 v5).x with Cu := (m1 v5).x.Cu ++ [i] }, (m1 v5).va, v8⟩ : A2) = m2 v5 v8 := fun v8 => by rw [hm1, hm2]; rfl
      have hn6 : (M.set k (m1 v5)).length = nM := by rw [Qq, rQ]
      have hrow := (h7.ms k _ hm6).2
      have hc6 := (h6.Wb hm6).1 7 (m1 v5).vt rfl
      rw [e1] at hc6
      rw [e2, e1, <- hnt] at hrow
      refine ⟨hrow, hc6, fun w8 o8 v8 hr hst => ?_⟩
      obtain ⟨h9, k9⟩ := h7.Cu (g := gm) (cp := cm) (by rw [hn6]) hm6 i hst (by rw [e2, <- hnt]; exact hr)
      have dQ := h7.rm.Ao hst (by simp)
      rw [hn6] at dQ
      have jB8 := (jB.below hb jB.lt).Ao hst (by rw [oB6]; simp)
      refine ⟨dQ.free _, dQ.blt, ?_, jB8.Am hwg _, ?_, (Stp.of_below hb).trans k9⟩
      · have := dQ.own.cells (g := gm) rfl (k * 10 + 7) (m1 v5).vt (by rw [T0 hm6 7 (by omega)]; rfl)
        rw [addr_add, e1] at this
        exact this
      · rw [e3, aB] at h9; exact h9)
  have H9 := Qa (fun (W9 : Aa) (o8 : Own) (v5 v8 : Ac) (h9 : Cg W9 o8 rb lZ R.A (M.set k (m2 v5 v8)) R.c (Ah (some ⟨g, 0, none⟩) nA cp) (Ah (some ⟨gm, 0, none⟩) nM cm)) =>
    show BC W9 o8 rb lZ (R.put k (m.x.act i ⟨kk, ae, av⟩)) /\ (∀ j, W9.frozen? ⟨gm, j, none⟩ = false) /\ gm < W9.1.size /\ (∀ j, W9.frozen? ⟨g, j, none⟩ = false) /\ g < W9.1.size /\ W9.cell? ⟨gm, k * 10 + 8, none⟩ = some (I Z m.x.en) /\ W9.cell? ⟨gm, k * 10 + 5, none⟩ = some (I Z m.x.te) /\ W9.cell? ⟨g, t * 2, none⟩ = some (I Z b) /\ W9.cell? ⟨g, t * 2 + 1, none⟩ = some (I Z k) /\
      (((W9.setCell ⟨gm, k * 10 + 8, none⟩ (I Z 2)).setCell ⟨gm, k * 10 + 5, none⟩ (I Z i)).setCell ⟨g, t * 2 + 1, none⟩ (I Z (-1))).cell? ⟨g, t * 2, none⟩ = some (I Z b) /\
      (BC (((W9.setCell ⟨gm, k * 10 + 8, none⟩ (I Z 2)).setCell ⟨gm, k * 10 + 5, none⟩ (I Z i)).setCell ⟨g, t * 2 + 1, none⟩ (I Z (-1))) o8 rb lZ (R.shut t b k ((m.x.act i ⟨kk, ae, av⟩).ended i 2 m.x.ve)) /\
       Stp jm o8 o8 W9 (((W9.setCell ⟨gm, k * 10 + 8, none⟩ (I Z 2)).setCell ⟨gm, k * 10 + 5, none⟩ (I Z i)).setCell ⟨g, t * 2 + 1, none⟩ (I Z (-1)))) /\
      (BC ((((W9.setCell ⟨gm, k * 10 + 8, none⟩ (I Z 2)).setCell ⟨gm, k * 10 + 5, none⟩ (I Z i)).setCell ⟨g, t * 2 + 1, none⟩ (I Z (-1))).setCell ⟨g, t * 2, none⟩ (I Z ((b : Int) + 1))) o8 rb lZ (R.shut t ((b : Int) + 1) k ((m.x.act i ⟨kk, ae, av⟩).ended i 2 m.x.ve)) /\
       Stp jm o8 o8 W9 ((((W9.setCell ⟨gm, k * 10 + 8, none⟩ (I Z 2)).setCell ⟨gm, k * 10 + 5, none⟩ (I Z i)).setCell ⟨g, t * 2 + 1, none⟩ (I Z (-1))).setCell ⟨g, t * 2, none⟩ (I Z ((b : Int) + 1)))) from by
      have hkM : k < M.length := hkl
      have BF : ∀ (z : A2), (M.set k z)[k]? = some z := fun z => by rw [Qr, if_pos rfl, if_pos hkM]
      have hlen : ∀ (z : A2), (M.set k z).length = nM := fun z => by rw [Qq, rQ]
      have hmap : ∀ (z : A2), (M.set k z).map A2.x = R.M.set k z.x := fun z => by rw [aH, hM]
      have e8 : m2 v5 v8 = ⟨m.x.act i ⟨kk, ae, av⟩, v5, v8⟩ := by rw [hm2]
      rw [e8] at h9
      have uA := h9.Wb (BF _)
      have fP := h9.T5 hs
      obtain ⟨a1, b1⟩ := h9.FL (g := gm) (cp := cm) (by rw [hlen]) (BF _) ⟨{ m.x.act i ⟨kk, ae, av⟩ with en := 2 }, v5, v8⟩ (j := 8) (by omega) (I Z 2) rfl rfl rfl rfl rfl
      rw [aB] at a1
      obtain ⟨a2, b2⟩ := a1.FL (g := gm) (cp := cm) (by rw [hlen]) (BF _) ⟨{ m.x.act i ⟨kk, ae, av⟩ with en := 2, te := i }, v5, v8⟩ (j := 5) (by omega) (I Z i) rfl rfl rfl rfl rfl
      rw [aB] at a2
      obtain ⟨a3, b3⟩ := a2.spot (g := g) (cp := cp) (by rw [vC]) hs ⟨b, -1⟩ (j := 1) (by omega) (I Z (-1)) rfl
      have hs3 : (R.A.set t ⟨(b : Int), (-1 : Int)⟩)[t]? = some ⟨(b : Int), (-1 : Int)⟩ := by rw [Qr, if_pos rfl, if_pos htl]
      have hs4 := a3.T5 hs3
      obtain ⟨a4, b4⟩ := a3.spot (g := g) (cp := cp) (by rw [Qq, vC]) hs3 ⟨(b : Int) + 1, -1⟩ (j := 0) (by omega) (I Z ((b : Int) + 1)) rfl
      rw [aB] at a4
      have s3 := ((b1.trans b2).mono (U := jm) (by rintro _ rfl; exact .inl rfl)).trans (b3.mono (U := jm) (by rintro _ rfl; exact .inl rfl))
      exact ⟨⟨_, _, _, hmap _, h9⟩, uA.2.1, uA.2.2.1, fP.2.2.1, fP.2.2.2.1, uA.1 8 _ rfl, uA.1 5 _ rfl, fP.1, fP.2.1, hs4.1, ⟨⟨_, _, _, hmap _, a3⟩, s3⟩, ⟨_, _, _, hmap _, a4⟩, s3.trans (b4.mono (by rintro _ rfl; exact .inl rfl))⟩)
  have hgm : gm ≠ g := fun e => hgr e.symm
  rw [<- hna] at qa hdl Afp p2 gY gX ⊢
  rw [<- hnt] at qt gY
  rw [hA, gU] at hcp jb
  rw [<- rQ] at jb
  rw [<- vC] at hlt htl
  rw [<- rQ] at hkl hlk hcm
  rw [<- hnD] at p1 hdl Afp
  rw [<- hnB] at p0 hbl hlb
  rw [gX, <- gJ]
  rw [gU] at gJ
  simp only at q0 q1;obtain ⟨dk, hdk⟩ : ∃ dk, dk = d.k := ⟨_, rfl⟩;rw [<- hdk] at p2 ⊢;rw [gJ];have HV := Qa gJ;clear hT hM h hs hA ht hb hx hm hna hnt vC rQ hnD hnB hva qG hB hD qm og om hka gX hd hdk hn ha ha2 hbs gU gJ hm1 hm2;have c1 := jb.cell;have s1 := jb.lt;go_enter func162, ntmps162;go_upto_region 1 with fail;go_quiet (fail);revert nq;intro k1;go_upto_region 2 with fail;go_quiet (fail);revert nq;intro k2;go_upto_region 3 with fail;go_quiet (fail);revert nq;intro k3;go_upto_region 4 with fail;go_quiet (fail);revert nq;intro k4;go_upto_region 7 with fail;obtain ⟨W, hW⟩ : ∃ W : Aa, W = (w.alloc (.cells #[I Z t, I Z b, I Z na, I Z kk, I Z ae, I Z av] 69)).drewN (k1 + k2 + k3 + k4) := ⟨_, rfl⟩;rw [<- hW];have hbW : Ae w.1.size w W := by rw [hW]; exact qx (qc (qd w) _) _
  have jB : Al W w.1.size #[I Z t, I Z b, I Z na, I Z kk, I Z ae, I Z av] 69 := by rw [hW]; exact (Al.new w _ _).drewN _
  have x6 : W.cell? ⟨gm, k * 10 + 6, none⟩ = some (.slice pa na ca) := (hbW.cell (p := ⟨gm, k * 10 + 6, none⟩) lm).trans qa;clear hW c1 s1 jb p0 p1 p2 l0 l1 l2 q0 q1 zg zm lg qa qt lm;obtain ⟨rn, hfin⟩ := H7.out (W.drew.alloc (.cells #[I Z kk, I Z ae, I Z av] 54)) (qc (qf hbW) _) (Al.alloc (qj jB) _);have HFin := Qa hfin;have jn := Al.new W.drew #[I Z kk, I Z ae, I Z av] 54;clear hfin H7;have HBW := Qa hbW;clear hbW;refine zo (fun w' => w'.cell? ⟨w.1.size, 3, none⟩ = some (I Z kk) /\ w'.cell? ⟨w.1.size, 4, none⟩ = some (I Z ae) /\ w'.cell? ⟨w.1.size, 5, none⟩ = some (I Z av) /\ w'.cell? ⟨gm, k * 10 + 6, none⟩ = some (.slice pa na ca)) 11 (by kernel_rfl) ?_
  have HS := aj (show W.drew.cell? ⟨w.1.size, 3, none⟩ = some (I Z kk) from jB.cell 3) (aj (show W.drew.cell? ⟨w.1.size, 4, none⟩ = some (I Z ae) from jB.cell 4) (aj (show W.drew.cell? ⟨w.1.size, 5, none⟩ = some (I Z av) from jB.cell 5) (show W.drew.cell? ⟨gm, k * 10 + 6, none⟩ = some (.slice pa na ca) from x6)));refine qp (by kernel_rfl) (fun c d x a w h => by cases d <;> exact h) [0, 1, 2, 3, 4, 5, 6] (by kernel_rfl) (by decide) HS ?_
  iterate 7 (refine De (v := ?_) rfl ?_ ?_; rotate_left; (· (first | (refine Or.inl ⟨by rfl, ?_⟩; rintro w' ⟨h3, h4, h5, h6⟩; go_simp; try with_reducible rfl))); simp only [aG, aD, aF, Act.put, Ad, Ai, aa])
  refine Df ?_;refine qg (i := 7) (by kernel_rfl) rfl fun K hK => ?_
  go_simp
  refine hK.out _ _ (fun _ => ⟨(Al.alloc (qj jB) _).cell 3, (Al.alloc (qj jB) _).cell 4, (Al.alloc (qj jB) _).cell 5, ((qc (qf (qd W)) _).cell (p := ⟨gm, k * 10 + 6, none⟩) (qh x6)).trans x6⟩) ?_
  clear hK K
  try simp only [Act.put, Ad, Ai, aa]
  refine qg (i := 8) (by kernel_rfl) rfl fun K hK => ?_
  refine qv _ (by rfl) _ _ _ (by rfl) 54 iU _ 3 24 huA hi bT hsI bZ (by rfl) (by decide) o1 (71, k) _ _ _ (by rfl) rn ⟨W.1.size, 0, none⟩ 1 1 [I Z kk, I Z ae, I Z av] (by rfl) (by rfl) (xw jn) Lv gY.out.1.1 gY.out.1.2 ?_
  intro v' w5 hown hst
  obtain ⟨p5, c5, rfl⟩ := hown.AS
  obtain ⟨z5, l5, x5, iO, jB6, oB6, h6, S6⟩ := HFin.out _ _ _ hown hst
  have iG := aj (show w5.cell? ⟨w.1.size, 3, none⟩ = some (I Z kk) from iO.cell 3) (aj (show w5.cell? ⟨w.1.size, 4, none⟩ = some (I Z ae) from iO.cell 4) (aj (show w5.cell? ⟨w.1.size, 5, none⟩ = some (I Z av) from iO.cell 5) x5))
  have H6 := Qa h6
  have S6 := Qa S6
  have JB6 := Qa jB6
  clear hown hst HS jB iO jB6 h6 rn jn HFin x6
  refine hK.out _ _ (fun _ => iG) ?_
  clear hK K
  try simp only [Act.put, Ad, Ai, aa]
  refine qg (i := 9) (by kernel_rfl) rfl fun K hK => ?_
  go_simp
  refine hK.out _ _ (fun _ => iG) ?_
  clear hK K
  try simp only [Act.put, Ad, Ai, aa]
  refine qg (i := 10) (by kernel_rfl) rfl fun K hK => ?_
  go_simp
  refine hK.out _ _ (fun _ => iG) ?_
  clear hK K
  try simp only [Act.put, Ad, Ai, aa]
  refine qg (i := 11) (by kernel_rfl) rfl fun K hK => ?_
  go_simp
  refine hK.out _ _ (fun h => absurd h (by decide)) ?_
  clear hK K iG
  try simp only [Act.put, Ad, Ai, aa]
  refine zd (by kernel_rfl) ?_
  obtain ⟨W6, eF⟩ : ∃ W6 : Aa, W6 = w5.setCell ⟨gm, k * 10 + 6, none⟩ (.slice p5 (na + 1) c5) := ⟨_, rfl⟩
  rw [<- eF] at H6 S6 JB6 ⊢
  clear eF z5 l5 x5
  obtain ⟨rn, x7, hfin⟩ := H8.out W6 (W6.alloc (.cells #[I Z i] 3)) _ _ H6.out (qc (qd W6) _) JB6.out oB6
  have HFin := Qa hfin
  have iQ := Qa rn
  have jn := Al.new W6 #[I Z i] 3
  clear hfin H8 rn
  go_upto_region 9 with (first
    | (at_builtin; refine qi _ rfl _ _ _ rfl 3 iI _ 1 8 hu64 hiI vV vO vT rfl (by decide) _ (72, k) _ _ _ rfl iQ.out ⟨W6.1.size, 0, none⟩ 1 1 [I Z i] rfl rfl (zj jn) ka gY.out.2.1 gY.out.2.2 ?_; intro v8 w8 hown hst; obtain ⟨p8, c8, rfl⟩ := hown.AS; obtain ⟨z8, l8, x8, jB9, h9, S9⟩ := HFin.out _ _ _ hown hst; have H9' := Qa h9; have S9' := Qa S9; clear hown hst h9 S9)
    | fail)
  obtain ⟨W9, oL⟩ : ∃ W9 : Aa, W9 = w8.setCell ⟨gm, k * 10 + 7, none⟩ (.slice p8 (nt + 1) c8) := ⟨_, rfl⟩
  rw [<- oL] at H9' S9' jB9 ⊢
  clear oL z8 l8 x8 x7 jn iQ HFin JB6
  obtain ⟨r1, z1, l1, z2, l2, e8, e5, sb, sk, sb3, u1, u2⟩ := H9.out W9 _ _ _ H9'.out
  have HR1 := Qa r1
  have ib := Qa u1
  have iK := Qa u2
  have cB := jB9.cell
  have lB := jB9.lt;have sP := Qa (qop ae);obtain ⟨hw1, hw2⟩ := HW.out;clear r1 u1 u2 jB9 H9 H9';have hcase : (yp ae = true /\ (ae != 141) = false) \/ (((yp ae = true) \/ (yp ae = false /\ (ae == 0) = true /\ (dk == 14) = true)) /\ (ae != 141) = true) \/ (yp ae = false /\ (ae == 0) = false) \/ (yp ae = false /\ (ae == 0) = true /\ (dk == 14) = false) := by
    cases hf : yp ae
    · cases h0 : (ae == 0)
      · exact .inr (.inr (.inl ⟨rfl, rfl⟩))
      · cases h14 : (dk == 14)
        · exact .inr (.inr (.inr ⟨rfl, rfl, rfl⟩))
        · refine .inr (.inl ⟨.inr ⟨rfl, rfl, rfl⟩, ?_⟩)
          rw [beq_iff_eq] at h0; subst h0; rfl
    · cases h1 : (ae != 141)
      · exact .inl ⟨rfl, rfl⟩
      · exact .inr (.inl ⟨.inl rfl, rfl⟩)
  rcases hcase with ⟨f1, f2⟩ | ⟨f1 | ⟨f1, f0, f14⟩, f2⟩ | ⟨f1, f0⟩ | ⟨f1, f0, f14⟩
  · rw [f1] at sP
    go_wp2_with (first
      | (go_at_call 158; refine (sP.out _).mono ?_; rintro e nQ ⟨rfl, rfl⟩)
      | fail)
    all_goals first
      | (exfalso; simp at f2; done)
      | (exfalso; simp at f2; contradiction)
      | (go_ret; have Anc : ae = 141 := by simpa using f2
         subst Anc; refine ⟨rfl, _, ?_, S6.out.trans (S9'.out.trans ib.out.2)⟩; rw [<- HV.out]; exact ib.out.1)
  · rw [f1] at sP
    go_wp2_with (first
      | (go_at_call 158; refine (sP.out _).mono ?_; rintro e nQ ⟨rfl, rfl⟩)
      | fail)
    all_goals first
      | (exfalso; simp at f2; done)
      | (exfalso; simp at f2; contradiction)
      | (go_ret; refine ⟨rfl, _, ?_, S6.out.trans (S9'.out.trans iK.out.2)⟩; rw [<- HV.out]; exact iK.out.1)
  · rw [f1] at sP
    go_wp2_with (first
      | (go_at_call 158; refine (sP.out _).mono ?_; rintro e nQ ⟨rfl, rfl⟩)
      | fail)
    all_goals first
      | (exfalso; simp at f0; done)
      | (exfalso; simp at f0; contradiction)
      | (exfalso; simp at f14; done)
      | (exfalso; simp at f14; contradiction)
      | (exfalso; simp at f2; done)
      | (exfalso; simp at f2; contradiction)
      | (go_ret; refine ⟨rfl, _, ?_, S6.out.trans (S9'.out.trans iK.out.2)⟩; rw [<- HV.out]; exact iK.out.1)
  · rw [f1] at sP
    go_wp2_with (first
      | (go_at_call 158; refine (sP.out _).mono ?_; rintro e nQ ⟨rfl, rfl⟩)
      | fail)
    all_goals first
      | (exfalso; simp at f0; done)
      | (exfalso; simp at f0; contradiction)
      | (go_ret; refine ⟨rfl, _, ?_, S6.out.trans S9'.out⟩; rw [<- HV.out]; exact HR1.out)
  · rw [f1] at sP
    go_wp2_with (first
      | (go_at_call 158; refine (sP.out _).mono ?_; rintro e nQ ⟨rfl, rfl⟩)
      | fail)
    all_goals first
      | (exfalso; simp at f0; done)
      | (exfalso; simp at f0; contradiction)
      | (exfalso; simp at f14; done)
      | (exfalso; simp at f14; contradiction)
      | (go_ret; refine ⟨rfl, _, ?_, S6.out.trans S9'.out⟩; rw [<- HV.out]; exact HR1.out)
