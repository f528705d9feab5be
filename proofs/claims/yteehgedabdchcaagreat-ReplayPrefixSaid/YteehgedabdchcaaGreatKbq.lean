import Derived.Test.YteehgedabdchcaaGreatKbm
set_option linter.all false
set_option maxRecDepth 1000000
set_option maxHeartbeats 0
open Go renaming World->Aa,Calls->Ab,Value->Ac
open Go.RowKit renaming Below->Ae
open Go.Value renaming int->I,slice->Ah,tuple->Aj,agg->Ak
open Go.IntKind renaming i64->Z
open Go.Ending renaming returned->O
namespace Go.Proofs.YteehgedabdchcaaGreat
open Go.RowKit Hp
attribute [local go_sem ↓] Go.wp_at_zero Go.wp_at_succ
section
variable {w w' : Aa} {o o' : Own} {m : Ck} {M : Mc}
def C9.QR {tg:Tag}(h:C9 m M (ext o w.1.size tg) w w'):C9 m M o w w':=by
 obtain⟨o',h1,h2⟩:=h;exact⟨o',h1,h2.os,h2.tape,h2.output,h2.size,fun b hb=>(h2.tags b hb).trans (qr hb),fun b hb hn=>h2.block b hb (by rw[qr hb];exact hn)⟩
def wy (W:Aa)(b:Nat)(a:A0):Aa:=((W.setCell ⟨b,0,none⟩ (I Z a.k)).setCell ⟨b,1,none⟩ (I Z a.e)).setCell ⟨b,2,none⟩ (I Z a.v)
def ff {W:Aa}{b:Nat}{t:TypeId}{x y z:Ac}(j:Al W b #[x,y,z] t)(a:A0):Al (wy W b a) b a.cells t:=((j.set 0 (I Z a.k)).set 1 (I Z a.e)).set 2 (I Z a.v)
def qiv {T:Tag->Prop}{W:Aa}{b:Nat}(ht:T (o b))(a:A0):Stp T o o W (wy W b a):=(((Stp.refl _ o W).setCell (by exact ht) _).setCell (by exact ht) _).setCell (by exact ht) _
def VL {W:Aa}{b c:Nat}{cs:Array Ac}{t:TypeId}(j:Al W c cs t)(h:c≠b)(z:AE):Al (CS W b z) c cs t:=(((((((((((((((j.Am (a:=⟨b,0,none⟩) h _).Am (a:=⟨b,1,none⟩) h _).Am (a:=⟨b,2,none⟩) h _).Am (a:=⟨b,3,none⟩) h _).Am (a:=⟨b,4,none⟩) h _).Am (a:=⟨b,5,none⟩) h _).Am (a:=⟨b,6,none⟩) h _).Am (a:=⟨b,7,none⟩) h _).Am (a:=⟨b,8,none⟩) h _).Am (a:=⟨b,9,none⟩) h _).Am (a:=⟨b,10,none⟩) h _).Am (a:=⟨b,11,none⟩) h _).Am (a:=⟨b,12,none⟩) h _).Am (a:=⟨b,13,none⟩) h _).Am (a:=⟨b,14,none⟩) h _)
def UM {W:Aa}{b c:Nat}{cs:Array Ac}{t:TypeId}(j:Al W c cs t)(h:c≠b)(a:A0):Al (wy W b a) c cs t:=(((j.Am (a:=⟨b,0,none⟩) h _).Am (a:=⟨b,1,none⟩) h _).Am (a:=⟨b,2,none⟩) h _)
def NL {T:Tag->Prop}{W:Aa}(h:Stp T o o' w W){b:Nat}(hb:w.1.size<=b)(z:AE):Stp T o o' w (CS W b z):=by
 have k2:∀ {W:Aa},Stp T o o' w W->∀ j v,Stp T o o' w (W.setCell ⟨b,j,none⟩ v):=fun h j v=>h.setCell_new (by exact hb) v
 exact k2 (k2 (k2 (k2 (k2 (k2 (k2 (k2 (k2 (k2 (k2 (k2 (k2 (k2 (k2 h _ _) _ _) _ _) _ _) _ _) _ _) _ _) _ _) _ _) _ _) _ _) _ _) _ _) _ _) _ _
def FX {T:Tag->Prop}{W:Aa}(h:Stp T o o' w W){b:Nat}(hb:w.1.size<=b)(a:A0):Stp T o o' w (wy W b a):=by
 have k2:∀ {W:Aa},Stp T o o' w W->∀ j v,Stp T o o' w (W.setCell ⟨b,j,none⟩ v):=fun h j v=>h.setCell_new (by exact hb) v
 exact k2 (k2 (k2 h _ _) _ _) _ _
def KY (W:Aa)(b:Nat)(z:AE):(CS W b z).1.size=W.1.size:=by unfold CS;simp only[World.size_setCell]
def qof (W:Aa)(b:Nat)(a:A0):(wy W b a).1.size=W.1.size:=by unfold wy;simp only[World.size_setCell]
structure Af (m:Ck)(N:Mc)(o:Own)(w:Aa)(ca cb:Array Ac)(W:Aa)(o':Own):Prop where
 mi:BN W o' m N
 ja:Al W w.1.size ca 54
 jb:Al W (w.1.size+1) cb 58
 st:Stp (yo m) o o' w W
 oa:o' w.1.size=(m.y.l.id+1,0)
 ob:o' (w.1.size+1)=(m.y.l.id+1,0)
section
variable {N : Mc} {ca cb : Array Ac} {W : Aa}
def Af.alloc (h:Af m N o w ca cb W o')(c:Array Ac)(t:TypeId):Af m N o w ca cb (W.alloc (.cells c t)) (ext o' W.1.size (m.y.l.id+1,0))/\Al (W.alloc (.cells c t)) W.1.size c t/\ext o' W.1.size (m.y.l.id+1,0) W.1.size=(m.y.l.id+1,0) /\
  ∀ (b:Nat)(cs:Array Ac)(t2:TypeId),Al W b cs t2->o' b=(m.y.l.id+1,0)->Al (W.alloc (.cells c t)) b cs t2/\ext o' W.1.size (m.y.l.id+1,0) b=(m.y.l.id+1,0):=by
 refine⟨⟨(h.mi.retag fun b hb=>qr hb).below (qc (qd W) _),h.ja.alloc _,h.jb.alloc _,(h.st.ext _ _ h.st.size).trans (Stp.of_below (qc (qd W) _)),(qr h.ja.lt).trans h.oa,(qr h.jb.lt).trans h.ob⟩,Al.new W c t,qz (Qk _),fun b cs t2 j hj=>⟨j.alloc _,(qr j.lt).trans hj⟩⟩
def Af.thw (h:Af m N o w ca cb W o'){b:Nat}(hb:w.1.size+2<=b)(ht:o' b=(m.y.l.id+1,0))(z:AE):Af m N o w ca cb (CS W b z) o':=by
 have k:Stp (fun t=>t=(m.y.l.id+1,0)) o' o' W (CS W b z):=UI (b:=0) (Stp.refl _ o' W) ht z
 exact⟨h.mi.Ao k (fun j h=>by simp at h) (fun j h=>by simp at h),VL h.ja (by omega) z,VL h.jb (by omega) z,NL h.st (by omega) z,h.oa,h.ob⟩
def Af.RZ (h:Af m N o w ca cb W o'){b:Nat}(hb:w.1.size+2<=b)(ht:o' b=(m.y.l.id+1,0))(a:A0):Af m N o w ca cb (wy W b a) o':=by
 have k:Stp (fun t=>t=(m.y.l.id+1,0)) o' o' W (wy W b a):=qiv (T:=fun t=>t=(m.y.l.id+1,0)) ht a
 exact⟨h.mi.Ao k (fun j h=>by simp at h) (fun j h=>by simp at h),UM h.ja (by omega) a,UM h.jb (by omega) a,FX h.st (by omega) a,h.oa,h.ob⟩
def Af.Wd (h:Af m N o w ca cb W o')(z:AE)(a:A0):∃ o5,Af m N o w ca cb ((W.alloc (.cells z.cells 58)).alloc (.cells a.cells 54)) o5/\Al ((W.alloc (.cells z.cells 58)).alloc (.cells a.cells 54)) W.1.size z.cells 58/\Al ((W.alloc (.cells z.cells 58)).alloc (.cells a.cells 54)) (W.1.size+1) a.cells 54/\o5 W.1.size=(m.y.l.id+1,0)/\o5 (W.1.size+1)=(m.y.l.id+1,0):=by
 obtain⟨x1,x2,x3,_⟩:=h.alloc z.cells 58;obtain⟨y1,y2,y3,y4⟩:=x1.alloc a.cells 54;obtain⟨z1,z2⟩:=y4 _ _ _ x2 x3;have e:(W.alloc (.cells z.cells 58)).1.size=W.1.size+1:=World.size_alloc _ _;exact⟨_,y1,z1,by rw[<-e];exact y2,z2,by rw[<-e];exact y3⟩
def Af.We (h:Af m N o w ca cb W o')(z:AE)(a:A0):∃ o5,Af m N o w ca cb ((W.alloc (.cells a.cells 54)).alloc (.cells z.cells 58)) o5/\Al ((W.alloc (.cells a.cells 54)).alloc (.cells z.cells 58)) (W.1.size+1) z.cells 58/\Al ((W.alloc (.cells a.cells 54)).alloc (.cells z.cells 58)) W.1.size a.cells 54/\o5 (W.1.size+1)=(m.y.l.id+1,0)/\o5 W.1.size=(m.y.l.id+1,0):=by
 obtain⟨x1,x2,x3,_⟩:=h.alloc a.cells 54;obtain⟨y1,y2,y3,y4⟩:=x1.alloc z.cells 58;obtain⟨z1,z2⟩:=y4 _ _ _ x2 x3;have e:(W.alloc (.cells a.cells 54)).1.size=W.1.size+1:=World.size_alloc _ _;exact⟨_,y1,by rw[<-e];exact y2,z1,by rw[<-e];exact y3,z2⟩
def Af.Wg (h:Af m N o w ca cb W o'){b:Nat}(hb:w.1.size+2<=b)(ht:o' b=(m.y.l.id+1,0))(j:Al W b DZ.cells 58)(z:AE)(a:A0):∃ o5,Af m N o w ca cb ((CS W b z).alloc (.cells a.cells 54)) o5/\Al ((CS W b z).alloc (.cells a.cells 54)) b z.cells 58/\Al ((CS W b z).alloc (.cells a.cells 54)) W.1.size a.cells 54/\o5 b=(m.y.l.id+1,0)/\o5 W.1.size=(m.y.l.id+1,0):=by
 obtain⟨y1,y2,y3,y4⟩:=(h.thw hb ht z).alloc a.cells 54;obtain⟨z1,z2⟩:=y4 _ _ _ (d8 (g:=DZ) j z) ht;have e:=KY W b z;exact⟨_,y1,z1,by rw[<-e];exact y2,z2,by rw[<-e];exact y3⟩
def Af.Wh (h:Af m N o w ca cb W o'){b:Nat}(hb:w.1.size+2<=b)(ht:o' b=(m.y.l.id+1,0))(j:Al W b #[I Z 0,I Z 0,I Z 0] 54)(z:AE)(a:A0):∃ o5,Af m N o w ca cb ((wy W b a).alloc (.cells z.cells 58)) o5/\Al ((wy W b a).alloc (.cells z.cells 58)) W.1.size z.cells 58/\Al ((wy W b a).alloc (.cells z.cells 58)) b a.cells 54/\o5 W.1.size=(m.y.l.id+1,0)/\o5 b=(m.y.l.id+1,0):=by
 obtain⟨y1,y2,y3,y4⟩:=(h.RZ hb ht a).alloc z.cells 58;obtain⟨z1,z2⟩:=y4 _ _ _ (ff j a) ht;have e:=qof W b a;exact⟨_,y1,by rw[<-e];exact y2,z1,by rw[<-e];exact y3,z2⟩
def Af.Te (h:Af m N o w ca cb W o'){b c:Nat}(hne:b≠c)(hb:w.1.size+2<=b)(ht:o' b=(m.y.l.id+1,0))(j:Al W b DZ.cells 58)(hc:w.1.size+2<=c)(htc:o' c=(m.y.l.id+1,0))(jc:Al W c #[I Z 0,I Z 0,I Z 0] 54)(z:AE)(a:A0):∃ o5,Af m N o w ca cb (wy (CS W b z) c a) o5/\Al (wy (CS W b z) c a) b z.cells 58/\Al (wy (CS W b z) c a) c a.cells 54/\o5 b=(m.y.l.id+1,0)/\o5 c=(m.y.l.id+1,0):=
 ⟨o',(h.thw hb ht z).RZ hc htc a,UM (d8 (g:=DZ) j z) hne a,ff (VL jc (fun e=>hne e.symm) z) a,ht,htc⟩
end
def C9.Pz {W:Aa}(h1:BN W o' m M)(h2:Stp (yo m) o o' w W){b:Nat}(hb:w.1.size<=b)(ht:o' b=(m.y.l.id+1,0))(a:A0):C9 m M o w (wy W b a):=by
 have k:Stp (fun t=>t=(m.y.l.id+1,0)) o' o' W (wy W b a):=qiv (T:=fun t=>t=(m.y.l.id+1,0)) ht a
 exact⟨o',h1.Ao k (fun j h=>by simp at h) (fun j h=>by simp at h),((h2.setCell_new (by exact hb) _).setCell_new (by exact hb) _).setCell_new (by exact hb) _⟩
def qox (h:BN w o m M)(W:Aa)(hb:Ae w.1.size w W):C9 m M o w W:=⟨o,h.below hb,Stp.of_below hb⟩
def uz (n:Nat):Code->Option Code
 | .region id ops b=>if id=n then some (.region id ops b) else none
 | .seq a b=>match uz n a with
  | some c=>some c
  | none=>uz n b
 | .block _ c=>uz n c
 | .scope c=>uz n c
 | .cond _ a b=>match uz n a with
  | some c=>some c
  | none=>uz n b
 | .loop c=>uz n c
 | _=>none
noncomputable def SQ (n:Nat):Code:=((Tryz.f32.body.bind (uz n)).getD .skip)
def SP (Q:Exit->Act->Aa->Prop){w2 W3:Aa}{RS:An}{iM gq nh fE ch P c T:Nat}{a:Option Addr}{ve2:Ac}{zb zn a0 a1 a2 a3 a4 a5 s0 s1 s2 s3 s4 s5 rb rn b0 b1 b2 b3 b4 b5 d0 d1 d2 d3 d4 d5 ak ae av:Int}{zl rl:Bool}(u2 u3 u6 u7 u8 u9 u10 u11 u12 u13 u14 u15 u16 u17 u18 u19 u20 u21 u22 u23 u24 u25 u26 u27 u28 u29 u30 u31 u32 u33 u34 u35 u36 u37 u38 u39 u40 u41 u42 u43 u44 u45 u46 u47 u48 u49 u50 u51 u52 u53 u54 u55 u56 u57 u58 u59 u60 u61 u62 u63 u64 u65 u66 u67 u68 u69 u70 u71:Ac)
  (eH:Hid (BN w2 o m M))(HJA:Hid (Al w2 w.1.size #[I Z 0,I Z 0,I Z 0] 54))(oF:Hid (Stp (yo m) o o w w2))(HO:Hid (∀ b,w.1.size<=b->o b=(m.y.l.id+1,0)))(oA:o w.1.size=(m.y.l.id+1,0))(HVp:Hid (m.vp=Ah (some ⟨iM,0,none⟩) M.ps.length fE))
  (hz2':w2.1.size=w.1.size+1)(hb3:Ae w2.1.size w2 W3)(gW:Al W3 (w.1.size+1) #[I Z zb,I Z zn,I Z a0,I Z a1,I Z a2,I Z a3,I Z a4,I Z a5,I Z s0,I Z s1,I Z s2,I Z s3,I Z s4,I Z s5,.bool zl] 58)(wD:Al W3 m.mb #[ptr m.y.sb,Ah (some ⟨iM,0,none⟩) nh fE,Ah (some ⟨gq,0,none⟩) nh ch,.int .i32 0,.int .u32 0,ve2] 148)
  (hc3:W3.cell? ⟨iM,T,none⟩=some (.slice a P c))(hTI:¬(nh:Int)<=(T:Int))(zO:(T:Int)<(nh:Int))
  (dV:Hid (∀ (W:Aa),Ae w2.1.size w2 W->Ab Tryz.prog 93 #[ptr m.y.sb,I Z T,.slice a P c,Ak #[I Z zb,I Z zn,I Z a0,I Z a1,I Z a2,I Z a3,I Z a4,I Z a5,I Z s0,I Z s1,I Z s2,I Z s3,I Z s4,I Z s5,.bool zl]] W fun e' w'=>e'=O (Aj #[Ak #[I Z rb,I Z rn,I Z b0,I Z b1,I Z b2,I Z b3,I Z b4,I Z b5,I Z d0,I Z d1,I Z d2,I Z d3,I Z d4,I Z d5,.bool rl],Ak #[I Z ak,I Z ae,I Z av]])/\Left m.y RS o W w'))
  (HX:Hid (∀ (X:Aa)(o5:Own)(C D:Nat)(z33 z34 z35 z36 z37 z38 z39 z40 z41 z42 z43 z44 z45 z46 z47 z48 z49:Ac),Af m { M with S:=RS } o w #[I Z 0,I Z 0,I Z 0] #[I Z zb,I Z zn,I Z a0,I Z a1,I Z a2,I Z a3,I Z a4,I Z a5,I Z s0,I Z s1,I Z s2,I Z s3,I Z s4,I Z s5,.bool zl] X o5->Al X C #[I Z rb,I Z rn,I Z b0,I Z b1,I Z b2,I Z b3,I Z b4,I Z b5,I Z d0,I Z d1,I Z d2,I Z d3,I Z d4,I Z d5,.bool rl] 58->Al X D #[I Z ak,I Z ae,I Z av] 54->o5 C=(m.y.l.id+1,0)->o5 D=(m.y.l.id+1,0)->Q .normal ⟨#[ptr m.mb,I Z (T:Int),u2,u3,ptr w.1.size,ptr (w.1.size+1),ptr C,ptr D,u8,u9,u10,u11,u12,u13,u14,u15,u16,u17,u18,u19,u20,u21,u22,u23,u24,u25,u26,u27,u28,u29,u30,u31,u32,z33,z34,z35,z36,z37,z38,z39,z40,z41,z42,z43,z44,z45,z46,z47,z48,z49,u50,u51,u52,u53,u54,u55,u56,u57,u58,u59,u60,u61,u62,u63,u64,u65,u66,u67,u68,u69,u70,u71],[]⟩ X)) :
  Code.wp Tryz.prog (SQ 4) Q ⟨#[ptr m.mb,I Z (T:Int),u2,u3,ptr w.1.size,ptr (w.1.size+1),u6,u7,u8,u9,u10,u11,u12,u13,u14,u15,u16,u17,u18,u19,u20,u21,u22,u23,u24,u25,u26,u27,u28,u29,u30,u31,u32,u33,u34,u35,u36,u37,u38,u39,u40,u41,u42,u43,u44,u45,u46,u47,u48,u49,u50,u51,u52,u53,u54,u55,u56,u57,u58,u59,u60,u61,u62,u63,u64,u65,u66,u67,u68,u69,u70,u71],[]⟩ W3:=by
 conv=>arg 2;whnf
 have HX4:=Qa (fun (Wp w4:Aa)(o4:Own)(hbp:Ae W3.1.size W3 Wp)(dR:Aq w4 o4 m.y RS)(hs4:Stp (qo m.y) o o4 Wp w4) =>
  show BN w4 o4 m { M with S:=RS }/\Al w4 w.1.size #[I Z 0,I Z 0,I Z 0] 54/\Al w4 (w.1.size+1) #[I Z zb,I Z zn,I Z a0,I Z a1,I Z a2,I Z a3,I Z a4,I Z a5,I Z s0,I Z s1,I Z s2,I Z s3,I Z s4,I Z s5,.bool zl] 58/\Stp (yo m) o o4 w w4/\o4 w.1.size=(m.y.l.id+1,0)/\o4 (w.1.size+1)=(m.y.l.id+1,0) /\
   W3.1.size<=w4.1.size/\w.1.size+2<=W3.1.size/\(∀ (b:Nat)(cs:Array Ac)(t:TypeId),W3.1.size<=b->Al Wp b cs t->Al w4 b cs t/\o4 b=(m.y.l.id+1,0))/\(w4.cell? ⟨m.mb,0,none⟩=some (ptr m.y.sb)/\w4.cell? ⟨m.mb,1,none⟩=some (Ah (some ⟨iM,0,none⟩) nh fE)/\w4.cell? ⟨iM,T,none⟩=some (.slice a P c)) from by
   have n1:¬qo m.y (m.y.l.id+1,0):=fun e=>by unfold qo at e;simp at e
   have hbq:Ae w2.1.size w2 Wp:=qe hb3 hbp;have tX:=(eH.out.below hbq).store dR hs4;have oB:=HO.out (w.1.size+1) (by omega)
   have jAp:=HJA.out.below hbq HJA.out.lt;have jBp:=gW.below hbp gW.lt;have lB:=gW.lt;have sw:Stp (yo m) o o4 w w4:=(oF.out.trans (Stp.of_below hbq)).trans (hs4.mono fun _ h=>m8 h);exact⟨tX,jAp.Ao hs4 (by rw[oA];exact n1),jBp.Ao hs4 (by rw[oB];exact n1),sw,(hs4.tags _ jAp.lt).trans oA,(hs4.tags _ jBp.lt).trans oB,Qo hbp.size hs4.size,lB,fun b cs t hb j=>by
    have ob:=HO.out b (by omega)
    exact⟨j.Ao hs4 (by rw[ob];exact n1),(hs4.tags _ j.lt).trans ob⟩,by
    have jm4:=(wD.below hbp wD.lt).Ao hs4 (by rw[eH.out.om];intro e;unfold qo at e;simp at e)
    have og:o iM=(m.y.l.id+2,4):=by
     obtain⟨_,vs,_,hr,_⟩:=eH.out.ps;rw[HVp.out]at hr;exact hr.CZ
    have Afk:=cell_below hc3 hbp;refine⟨jm4.cell 0,jm4.cell 1,?_⟩;have hb:=hs4.block iM (VG Afk) (by rw[og];intro e;unfold qo at e;simp at e)
    rw[World.cell?_of_block (w:=Wp) hb];exact Afk⟩)
 have lm:=wD.lt;have lx:=gW.lt;have lgp:=VG hc3;have nm:W3.1.size≠m.mb:=by omega
 have nx:W3.1.size≠w.1.size+1:=by omega
 have ng:W3.1.size≠iM:=by omega
 have nm':W3.1.size+1≠m.mb:=by omega
 have nx':W3.1.size≠w.1.size:=by omega
 have ng':W3.1.size+1≠iM:=by omega
 have xb:=gW.cell;have m0:=wD.cell 0;have m1:=wD.cell 1;simp at m0 m1;have x0:=xb 0;have x1:=xb 1;have x2:=xb 2;have x3:=xb 3;have x4:=xb 4;have x5:=xb 5;have x6:=xb 6;have x7:=xb 7;have x8:=xb 8;have x9:=xb 9;have wJ:=xb 10;have wK:=xb 11;have xS:=xb 12;have xU:=xb 13;have xV:=xb 14;simp at x0 x1 x2 x3 x4 x5 x6 x7 x8 x9 wJ wK xS xU xV;clear xb;go_region_held3 (fun w'=>w'.cell? ⟨m.mb,0,none⟩=some (ptr m.y.sb)/\w'.cell? ⟨m.mb,1,none⟩=some (Ah (some ⟨iM,0,none⟩) nh fE)/\w'.cell? ⟨iM,T,none⟩=some (.slice a P c)/\w'.cell? ⟨w.1.size+1,0,none⟩=some (I Z zb)/\w'.cell? ⟨w.1.size+1,1,none⟩=some (I Z zn)/\w'.cell? ⟨w.1.size+1,2,none⟩=some (I Z a0)/\w'.cell? ⟨w.1.size+1,3,none⟩=some (I Z a1)/\w'.cell? ⟨w.1.size+1,4,none⟩=some (I Z a2)/\w'.cell? ⟨w.1.size+1,5,none⟩=some (I Z a3)/\w'.cell? ⟨w.1.size+1,6,none⟩=some (I Z a4)/\w'.cell? ⟨w.1.size+1,7,none⟩=some (I Z a5)/\w'.cell? ⟨w.1.size+1,8,none⟩=some (I Z s0)/\w'.cell? ⟨w.1.size+1,9,none⟩=some (I Z s1)/\w'.cell? ⟨w.1.size+1,10,none⟩=some (I Z s2)/\w'.cell? ⟨w.1.size+1,11,none⟩=some (I Z s3)/\w'.cell? ⟨w.1.size+1,12,none⟩=some (I Z s4)/\w'.cell? ⟨w.1.size+1,13,none⟩=some (I Z s5)/\w'.cell? ⟨w.1.size+1,14,none⟩=some (.bool zl)) (go_keep) (first
  | (go_at_call 93;first
   | (refine (dV.out _ (qf hb3)).mono ?_;rintro e w4 ⟨rfl,o4,dR,hI4,hs4⟩;obtain⟨tX,jA4,dL,sw4,oA4,oB4,lz4,lz3,hp4,y0,y1,y2⟩:=HX4.out _ w4 o4 (qf (qd W3)) dR hs4;have xb:=dL.cell;have x0:=xb 0;have x1:=xb 1;have x2:=xb 2;have x3:=xb 3;have x4:=xb 4;have x5:=xb 5;have x6:=xb 6;have x7:=xb 7;have x8:=xb 8;have x9:=xb 9;have wJ:=xb 10;have wK:=xb 11;have xS:=xb 12;have xU:=xb 13;have xV:=xb 14;simp at x0 x1 x2 x3 x4 x5 x6 x7 x8 x9 wJ wK xS xU xV;clear xb;have nm4:w4.1.size≠m.mb:=(by omega);have nx4:w4.1.size≠w.1.size+1:=(by omega);have ng4:w4.1.size≠iM:=(by omega);have nm5:w4.1.size+1≠m.mb:=(by omega);have nx5:w4.1.size≠w.1.size:=(by omega);have ng5:w4.1.size+1≠iM:=(by omega))
   | (refine (dV.out _ (qc (qf hb3) _)).mono ?_;rintro e w4 ⟨rfl,o4,dR,hI4,hs4⟩;obtain⟨tX,jA4,dL,sw4,oA4,oB4,lz4,lz3,hp4,y0,y1,y2⟩:=HX4.out _ w4 o4 (qc (qf (qd W3)) _) dR hs4;have xb:=dL.cell;have x0:=xb 0;have x1:=xb 1;have x2:=xb 2;have x3:=xb 3;have x4:=xb 4;have x5:=xb 5;have x6:=xb 6;have x7:=xb 7;have x8:=xb 8;have x9:=xb 9;have wJ:=xb 10;have wK:=xb 11;have xS:=xb 12;have xU:=xb 13;have xV:=xb 14;simp at x0 x1 x2 x3 x4 x5 x6 x7 x8 x9 wJ wK xS xU xV;clear xb;have nm4:w4.1.size≠m.mb:=(by omega);have nx4:w4.1.size≠w.1.size+1:=(by omega);have ng4:w4.1.size≠iM:=(by omega);have nm5:w4.1.size+1≠m.mb:=(by omega);have nx5:w4.1.size≠w.1.size:=(by omega);have ng5:w4.1.size+1≠iM:=(by omega);obtain⟨jp,op⟩:=hp4 W3.1.size _ _ (Qk _) (Al.new W3.drew _ _);have cp:=jp.cell;have zp:=jp.free;have lp:=jp.lt)
   | (refine (dV.out _ (qc (qc (qf hb3) _) _)).mono ?_;rintro e w4 ⟨rfl,o4,dR,hI4,hs4⟩;obtain⟨tX,jA4,dL,sw4,oA4,oB4,lz4,lz3,hp4,y0,y1,y2⟩:=HX4.out _ w4 o4 (qc (qc (qf (qd W3)) _) _) dR hs4;have xb:=dL.cell;have x0:=xb 0;have x1:=xb 1;have x2:=xb 2;have x3:=xb 3;have x4:=xb 4;have x5:=xb 5;have x6:=xb 6;have x7:=xb 7;have x8:=xb 8;have x9:=xb 9;have wJ:=xb 10;have wK:=xb 11;have xS:=xb 12;have xU:=xb 13;have xV:=xb 14;simp at x0 x1 x2 x3 x4 x5 x6 x7 x8 x9 wJ wK xS xU xV;clear xb;have nm4:w4.1.size≠m.mb:=(by omega);have nx4:w4.1.size≠w.1.size+1:=(by omega);have ng4:w4.1.size≠iM:=(by omega);have nm5:w4.1.size+1≠m.mb:=(by omega);have nx5:w4.1.size≠w.1.size:=(by omega);have ng5:w4.1.size+1≠iM:=(by omega);obtain⟨jp,op⟩:=hp4 W3.1.size _ _ (Qk _) ((Al.new W3.drew _ _).alloc _);obtain⟨jq,oq⟩:=hp4 (W3.1.size+1) _ _ (Nat.le_succ _) (Al.Ap (W3.drew.alloc _) _ _ _ (W3.1.size+1) (by simp) rfl);have cp:=jp.cell;have zp:=jp.free;have lp:=jp.lt;have cq:=jq.cell;have zq:=jq.free;have lq:=jq.lt))
  | fail)
 all_goals
  have fG:Af m { M with S:=RS } o w #[I Z 0,I Z 0,I Z 0] #[I Z zb,I Z zn,I Z a0,I Z a1,I Z a2,I Z a3,I Z a4,I Z a5,I Z s0,I Z s1,I Z s2,I Z s3,I Z s4,I Z s5,.bool zl] w4 o4:=⟨tX,jA4,dL,sw4,oA4,oB4⟩;clear tX jA4 dL sw4 oA4 oB4 x0 x1 x2 x3 x4 x5 x6 x7 x8 x9 wJ wK xS xU xV;first
   | (obtain⟨W5,dA⟩:=Ja0 ((w4.alloc (.cells #[I Z rb,I Z rn,I Z b0,I Z b1,I Z b2,I Z b3,I Z b4,I Z b5,I Z d0,I Z d1,I Z d2,I Z d3,I Z d4,I Z d5,.bool rl] 58)).alloc (.cells #[I Z ak,I Z ae,I Z av] 54));have HH:∃ o5,Af m { M with S:=RS } o w #[I Z 0,I Z 0,I Z 0] #[I Z zb,I Z zn,I Z a0,I Z a1,I Z a2,I Z a3,I Z a4,I Z a5,I Z s0,I Z s1,I Z s2,I Z s3,I Z s4,I Z s5,.bool zl] W5 o5/\Al W5 w4.1.size #[I Z rb,I Z rn,I Z b0,I Z b1,I Z b2,I Z b3,I Z b4,I Z b5,I Z d0,I Z d1,I Z d2,I Z d3,I Z d4,I Z d5,.bool rl] 58/\Al W5 (w4.1.size+1) #[I Z ak,I Z ae,I Z av] 54/\o5 w4.1.size=(m.y.l.id+1,0)/\o5 (w4.1.size+1)=(m.y.l.id+1,0):=(by rw[dA];exact fG.Wd ⟨rb,rn,⟨b0,b1,b2,b3,b4,b5⟩,⟨d0,d1,d2,d3,d4,d5⟩,rl⟩ ⟨ak,ae,av⟩);(try unfold CS at dA);(try unfold wy at dA);(try simp only at dA);rw[<-dA];clear dA;obtain⟨o5,gQ,jC,jD,oC,oD⟩:=HH)
   | (obtain⟨W5,dA⟩:=Ja0 ((w4.alloc (.cells #[I Z ak,I Z ae,I Z av] 54)).alloc (.cells #[I Z rb,I Z rn,I Z b0,I Z b1,I Z b2,I Z b3,I Z b4,I Z b5,I Z d0,I Z d1,I Z d2,I Z d3,I Z d4,I Z d5,.bool rl] 58));have HH:∃ o5,Af m { M with S:=RS } o w #[I Z 0,I Z 0,I Z 0] #[I Z zb,I Z zn,I Z a0,I Z a1,I Z a2,I Z a3,I Z a4,I Z a5,I Z s0,I Z s1,I Z s2,I Z s3,I Z s4,I Z s5,.bool zl] W5 o5/\Al W5 (w4.1.size+1) #[I Z rb,I Z rn,I Z b0,I Z b1,I Z b2,I Z b3,I Z b4,I Z b5,I Z d0,I Z d1,I Z d2,I Z d3,I Z d4,I Z d5,.bool rl] 58/\Al W5 w4.1.size #[I Z ak,I Z ae,I Z av] 54/\o5 (w4.1.size+1)=(m.y.l.id+1,0)/\o5 w4.1.size=(m.y.l.id+1,0):=(by rw[dA];exact fG.We ⟨rb,rn,⟨b0,b1,b2,b3,b4,b5⟩,⟨d0,d1,d2,d3,d4,d5⟩,rl⟩ ⟨ak,ae,av⟩);(try unfold CS at dA);(try unfold wy at dA);(try simp only at dA);rw[<-dA];clear dA;obtain⟨o5,gQ,jC,jD,oC,oD⟩:=HH)
   | (obtain⟨W5,dA⟩:=Ja0 ((CS w4 W3.1.size ⟨rb,rn,⟨b0,b1,b2,b3,b4,b5⟩,⟨d0,d1,d2,d3,d4,d5⟩,rl⟩).alloc (.cells #[I Z ak,I Z ae,I Z av] 54));have HH:∃ o5,Af m { M with S:=RS } o w #[I Z 0,I Z 0,I Z 0] #[I Z zb,I Z zn,I Z a0,I Z a1,I Z a2,I Z a3,I Z a4,I Z a5,I Z s0,I Z s1,I Z s2,I Z s3,I Z s4,I Z s5,.bool zl] W5 o5/\Al W5 W3.1.size #[I Z rb,I Z rn,I Z b0,I Z b1,I Z b2,I Z b3,I Z b4,I Z b5,I Z d0,I Z d1,I Z d2,I Z d3,I Z d4,I Z d5,.bool rl] 58/\Al W5 w4.1.size #[I Z ak,I Z ae,I Z av] 54/\o5 W3.1.size=(m.y.l.id+1,0)/\o5 w4.1.size=(m.y.l.id+1,0):=(by rw[dA];exact fG.Wg lz3 op jp ⟨rb,rn,⟨b0,b1,b2,b3,b4,b5⟩,⟨d0,d1,d2,d3,d4,d5⟩,rl⟩ ⟨ak,ae,av⟩);(try unfold CS at dA);(try unfold wy at dA);(try simp only at dA);rw[<-dA];clear dA;obtain⟨o5,gQ,jC,jD,oC,oD⟩:=HH)
   | (obtain⟨W5,dA⟩:=Ja0 ((wy w4 W3.1.size ⟨ak,ae,av⟩).alloc (.cells #[I Z rb,I Z rn,I Z b0,I Z b1,I Z b2,I Z b3,I Z b4,I Z b5,I Z d0,I Z d1,I Z d2,I Z d3,I Z d4,I Z d5,.bool rl] 58));have HH:∃ o5,Af m { M with S:=RS } o w #[I Z 0,I Z 0,I Z 0] #[I Z zb,I Z zn,I Z a0,I Z a1,I Z a2,I Z a3,I Z a4,I Z a5,I Z s0,I Z s1,I Z s2,I Z s3,I Z s4,I Z s5,.bool zl] W5 o5/\Al W5 w4.1.size #[I Z rb,I Z rn,I Z b0,I Z b1,I Z b2,I Z b3,I Z b4,I Z b5,I Z d0,I Z d1,I Z d2,I Z d3,I Z d4,I Z d5,.bool rl] 58/\Al W5 W3.1.size #[I Z ak,I Z ae,I Z av] 54/\o5 w4.1.size=(m.y.l.id+1,0)/\o5 W3.1.size=(m.y.l.id+1,0):=(by rw[dA];exact fG.Wh lz3 op jp ⟨rb,rn,⟨b0,b1,b2,b3,b4,b5⟩,⟨d0,d1,d2,d3,d4,d5⟩,rl⟩ ⟨ak,ae,av⟩);(try unfold CS at dA);(try unfold wy at dA);(try simp only at dA);rw[<-dA];clear dA;obtain⟨o5,gQ,jC,jD,oC,oD⟩:=HH)
   | (obtain⟨W5,dA⟩:=Ja0 (wy (CS w4 W3.1.size ⟨rb,rn,⟨b0,b1,b2,b3,b4,b5⟩,⟨d0,d1,d2,d3,d4,d5⟩,rl⟩) (W3.1.size+1) ⟨ak,ae,av⟩);have HH:∃ o5,Af m { M with S:=RS } o w #[I Z 0,I Z 0,I Z 0] #[I Z zb,I Z zn,I Z a0,I Z a1,I Z a2,I Z a3,I Z a4,I Z a5,I Z s0,I Z s1,I Z s2,I Z s3,I Z s4,I Z s5,.bool zl] W5 o5/\Al W5 W3.1.size #[I Z rb,I Z rn,I Z b0,I Z b1,I Z b2,I Z b3,I Z b4,I Z b5,I Z d0,I Z d1,I Z d2,I Z d3,I Z d4,I Z d5,.bool rl] 58/\Al W5 (W3.1.size+1) #[I Z ak,I Z ae,I Z av] 54/\o5 W3.1.size=(m.y.l.id+1,0)/\o5 (W3.1.size+1)=(m.y.l.id+1,0):=(by rw[dA];exact fG.Te (by omega) lz3 op jp (by omega) oq jq ⟨rb,rn,⟨b0,b1,b2,b3,b4,b5⟩,⟨d0,d1,d2,d3,d4,d5⟩,rl⟩ ⟨ak,ae,av⟩);(try unfold CS at dA);(try unfold wy at dA);(try simp only at dA);rw[<-dA];clear dA;obtain⟨o5,gQ,jC,jD,oC,oD⟩:=HH)
   | (obtain⟨W5,dA⟩:=Ja0 (wy (CS w4 (W3.1.size+1) ⟨rb,rn,⟨b0,b1,b2,b3,b4,b5⟩,⟨d0,d1,d2,d3,d4,d5⟩,rl⟩) W3.1.size ⟨ak,ae,av⟩);have HH:∃ o5,Af m { M with S:=RS } o w #[I Z 0,I Z 0,I Z 0] #[I Z zb,I Z zn,I Z a0,I Z a1,I Z a2,I Z a3,I Z a4,I Z a5,I Z s0,I Z s1,I Z s2,I Z s3,I Z s4,I Z s5,.bool zl] W5 o5/\Al W5 (W3.1.size+1) #[I Z rb,I Z rn,I Z b0,I Z b1,I Z b2,I Z b3,I Z b4,I Z b5,I Z d0,I Z d1,I Z d2,I Z d3,I Z d4,I Z d5,.bool rl] 58/\Al W5 W3.1.size #[I Z ak,I Z ae,I Z av] 54/\o5 (W3.1.size+1)=(m.y.l.id+1,0)/\o5 W3.1.size=(m.y.l.id+1,0):=(by rw[dA];exact fG.Te (by omega) (by omega) oq jq lz3 op jp ⟨rb,rn,⟨b0,b1,b2,b3,b4,b5⟩,⟨d0,d1,d2,d3,d4,d5⟩,rl⟩ ⟨ak,ae,av⟩);(try unfold CS at dA);(try unfold wy at dA);(try simp only at dA);rw[<-dA];clear dA;obtain⟨o5,gQ,jC,jD,oC,oD⟩:=HH)
  exact HX.out _ _ _ _ _ _ _ _ _ _ _ _ _ _ _ _ _ _ _ _ _ gQ jC jD oC oD
