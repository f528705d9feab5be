import Derived.Test.YteehgedabdchcaaGreatKas
import Derived.Laws.IdiomCopy
import Derived.Laws.MakeOwn
set_option linter.all false
set_option maxRecDepth 1000000
set_option maxHeartbeats 0
open Go renaming World->Aa,Calls->Ab,Value->Ac
open Go.RowKit renaming Below->Ae
open Go.Value renaming int->I,slice->Ah,tuple->Aj,agg->Ak
open Go.IntKind renaming i64->Z
open Go.Ending renaming returned->O
open Int renaming toNat_natCast->Ad
open List renaming replicate->Ai,set_set->af,take_add_one->aj
open And renaming intro->aa
open Nat renaming zero_le->ag,zero_add->ai
open Go.Proofs.Tryz
open Go.Proofs.Tryz renaming prog->ARt
namespace Go.Proofs.YteehgedabdchcaaGreat
section
open Go.RowKit Hp
attribute [local go_sem ↓] Go.wp_at_zero Go.wp_at_succ
section
variable {w w' : Aa} {o o' : Own} {rb : Nat} {vt va vr : Ac} {A : List BZ} {M : List A2} {c : Nat} {R : Rd} {bK : List (List (List Pg.D))}
def qjk (h0:BC w o rb vt R)(hT:AH w vt bK){t b k:Nat}(hs:R.A[t]?=some ⟨b,k⟩)(hA:R.A.length=bK.length){bs:List (List Pg.D)}(ht:bK[t]?=some bs){ds:List Pg.D}(hb:bs[b]?=some ds){x:AK}(hx:R.M[k]?=some x)
  (i:Nat)(n kk ae av:Int)(hn:n≠x.AX.length\/n≠(ds.length:Int)) :
  Ab ARt 163 #[ptr rb,I Z i,Ak #[I Z t,I Z b,I Z n,I Z kk,I Z ae,I Z av]] w fun e w'=>e=O (.bool false)/\Ae w.1.size w w':=by
 obtain⟨M,va,vr,hM,h⟩:=h0;obtain⟨m,hm,rfl⟩:∃ m,M[k]?=some m/\m.x=x:=by
  rw[<-hM,Qj]at hx
  cases hm:M[k]? with
  | none=>rw[hm]at hx;cases hx
  | some m=>rw[hm]at hx;exact⟨m,rfl,by injection hx⟩
 obtain⟨g,cp,rfl,hcp,q0,q1,zg,lg,og⟩:=h.sp hs;obtain⟨gm,cm,rfl,hcm,qm,zm,lm,om⟩:=h.tr hm;obtain⟨g0,off,fE,a0,c0,rfl,p0,hB⟩:=hT.blocks ht;obtain⟨g1,lY,gP,a1,c1',e1,p1,hD⟩:=hB.EB hb;injection e1 with e1 _ e3;subst e1 e3;obtain⟨pa,ca,hva⟩:=(h.ms k m hm).1.AS;have qa:=qm 6 m.va rfl;rw[hva]at qa;have l0:=qh p0;have l1:=qh p1;have htl:t<R.A.length:=(Qc.1 hs).1;have hbl:b<bs.length:=(Qc.1 hb).1;have hkl:k<M.length:=(Qc.1 hm).1;have hlt:(t:Int)<(R.A.length:Int):=by omega
 have hlb:(b:Int)<(bs.length:Int):=by omega
 have hlk:(k:Int)<(M.length:Int):=by omega
 have jb:=h.AM;obtain⟨na,hna⟩:=Ja0 m.x.AX.length;obtain⟨nd,hnd⟩:=Ja0 ds.length;obtain⟨nb,hnb⟩:=Ja0 bs.length;obtain⟨nm,hnm⟩:=Ja0 M.length;obtain⟨nt,hnt⟩:=Ja0 bK.length;rw[hA]at hlt hcp jb htl;rw[<-hna]at hn qa;rw[<-hnd]at hn p1;rw[<-hnb]at hbl hlb p0;rw[<-hnm]at hkl hlk jb hcm;rw[<-hnt]at hlt hcp jb htl;have c:=jb.cell;have s:=jb.lt;simp only at q0 q1;clear hT hM h hs hA ht hb hx hm hna hnd hnb hnm hnt hva hB hD qm og om;rcases (show (n != (na:Int))=true\/((n != (na:Int))=false/\(n != (nd:Int))=true) from by
  by_cases e:n=na
  ·exact .inr ⟨by rw[e];simp,by rw[bne_iff_ne];exact hn.resolve_left fun z=>z e⟩
  ·exact .inl (by rw[bne_iff_ne];exact e)) with h1|⟨h1,h2⟩
 all_goals
  clear hn;go_enter func163,ntmps163;go_upto_region 1 with fail;go_quiet (fail);go_upto_region 2 with fail;go_quiet (fail);go_upto_region 3 with fail;go_quiet (fail);go_wp2_with fail;go_ret;exact⟨rfl,by repeat (first|exact qd w|refine qx ?_ _|refine qc ?_ _)⟩
def qjn (h0:BC w o rb vt R) (hT:AH w vt bK) {t b k:Nat} (hs:R.A[t]?=some ⟨b,k⟩) (hA:R.A.length=bK.length) {bs:List (List Pg.D)} (ht:bK[t]?=some bs) {ds:List Pg.D} (hb:bs[b]?=some ds) (hbs:bs.length<=1000000) {x:AK} (hx:R.M[k]?=some x)
  (i:Nat) (kk ae av:Int) (hn:x.AX.length=ds.length) :
  Ab ARt 163 #[ptr rb,I Z i,Ak #[I Z t,I Z b,I Z x.AX.length,I Z kk,I Z ae,I Z av]] w fun e w'=>e=O (.bool true) /\
   ∃ o',BC w' o' rb vt (if ae≠0 then R.shut t b k (x.ended i 2 x.ve) else R.shut t (b+1) k (x.ended i 1 av))/\Stp jm o o' w w':=by
 obtain⟨M,va,vr,hM,h⟩:=h0;obtain⟨m,hm,rfl⟩:=K6 hM hx;obtain⟨g,cp,rfl,hcp,q0,q1,zg,lg,og⟩:=h.sp hs;obtain⟨gm,cm,rfl,hcm,qm,zm,lm,om⟩:=h.tr hm;obtain⟨g0,off,fE,a0,c0,rfl,p0,hB⟩:=hT.blocks ht;obtain⟨g1,lY,gP,a1,c1',e1,p1,hD⟩:=hB.EB hb;injection e1 with e1 _ e3;subst e1 e3;obtain⟨pa,ca,hva⟩:=(h.ms k m hm).1.AS;have qa:=qm 6 m.va rfl;rw[hva]at qa;have l0:=qh p0;have l1:=qh p1;have htl:t<R.A.length:=(Qc.1 hs).1;have hbl:b<bs.length:=(Qc.1 hb).1;have hkl:k<M.length:=(Qc.1 hm).1;have hlt:(t:Int)<(R.A.length:Int):=by omega
 have hlb:(b:Int)<(bs.length:Int):=by omega
 have hlk:(k:Int)<(M.length:Int):=by omega
 have hgr:g≠gm:=fun e=>by rw[e,om]at og;simp at og
 have hwm:w.1.size≠gm:=by omega
 have hwg:w.1.size≠g:=by omega
 have HW:=Qa (show wrap64 ((b:Int)+1)=(b:Int)+1/\IntKind.i64.wrap ((b:Int)+1)=(b:Int)+1 from ⟨IntWalk.wrap64_in _ (by omega),IntWalk.i64_in _ (by omega)⟩)
 have jb:=h.AM;obtain⟨na,hna⟩:=Ja0 m.x.AX.length;obtain⟨nd,hnd⟩:=Ja0 ds.length;obtain⟨nb,hnb⟩:=Ja0 bs.length;obtain⟨nA,vC⟩:=Ja0 R.A.length;obtain⟨nM,rQ⟩:=Ja0 M.length;have gU:bK.length=nA:=by rw[vC,hA]
 obtain⟨lZ,gJ⟩:=Ja0 (Value.slice (some ⟨g0,off,none⟩) bK.length fE);have HFin:=Qa (fun (W:Aa) (hbW:Ae w.1.size w W) =>
  show (∀ j,W.frozen? ⟨gm,j,none⟩=false)/\gm<W.1.size/\(∀ j,W.frozen? ⟨g,j,none⟩=false)/\g<W.1.size /\
   W.cell? ⟨gm,k*10+5,none⟩=some (I Z m.x.te)/\W.cell? ⟨gm,k*10+8,none⟩=some (I Z m.x.en)/\W.cell? ⟨gm,k*10+9,none⟩=some (I Z m.x.ve)/\W.cell? ⟨g,t*2,none⟩=some (I Z b)/\W.cell? ⟨g,t*2+1,none⟩=some (I Z k) /\
   (((((W.setCell ⟨gm,k*10+5,none⟩ (I Z i)).setCell ⟨g,t*2+1,none⟩ (I Z (-1))).setCell ⟨gm,k*10+8,none⟩ (I Z 1)).setCell ⟨gm,k*10+9,none⟩ (I Z av))).cell? ⟨g,t*2,none⟩=some (I Z b) /\
   (BC (((W.setCell ⟨gm,k*10+5,none⟩ (I Z i)).setCell ⟨g,t*2+1,none⟩ (I Z (-1))).setCell ⟨gm,k*10+8,none⟩ (I Z 2)) o rb lZ (R.shut t b k (m.x.ended i 2 m.x.ve))/\Stp jm o o w (((W.setCell ⟨gm,k*10+5,none⟩ (I Z i)).setCell ⟨g,t*2+1,none⟩ (I Z (-1))).setCell ⟨gm,k*10+8,none⟩ (I Z 2))) /\
   (BC (((((W.setCell ⟨gm,k*10+5,none⟩ (I Z i)).setCell ⟨g,t*2+1,none⟩ (I Z (-1))).setCell ⟨gm,k*10+8,none⟩ (I Z 1)).setCell ⟨gm,k*10+9,none⟩ (I Z av)).setCell ⟨g,t*2,none⟩ (I Z ((b:Int)+1))) o rb lZ (R.shut t ((b:Int)+1) k (m.x.ended i 1 av))/\Stp jm o o w (((((W.setCell ⟨gm,k*10+5,none⟩ (I Z i)).setCell ⟨g,t*2+1,none⟩ (I Z (-1))).setCell ⟨gm,k*10+8,none⟩ (I Z 1)).setCell ⟨gm,k*10+9,none⟩ (I Z av)).setCell ⟨g,t*2,none⟩ (I Z ((b:Int)+1)))) from by
   have h2:=h.below hbW;rw[gJ];have BF:∀ (z:A2),(M.set k z)[k]?=some z:=fun z=>by rw[Qr,if_pos rfl,if_pos hkl]
   have hlen:∀ (z:A2),(M.set k z).length=M.length:=fun z=>Qq;have hmap:∀ (z:A2),(M.set k z).map A2.x=R.M.set k z.x:=fun z=>by rw[List.map_set,hM]
   have uA:=h2.Wb hm;have fP:=h2.T5 hs;obtain⟨a1,b1⟩:=h2.FL (g:=gm) (cp:=cm) rfl hm ⟨{ m.x with te:=i },m.va,m.vt⟩ (j:=5) (by omega) (I Z i) rfl rfl rfl rfl rfl
   obtain⟨a2,b2⟩:=a1.spot (g:=g) (cp:=cp) rfl hs ⟨b,-1⟩ (j:=1) (by omega) (I Z (-1)) rfl
   obtain⟨a3,b3⟩:=a2.FL (g:=gm) (cp:=cm) (by rw[hlen]) (BF _) ⟨{ m.x with te:=i,en:=2 },m.va,m.vt⟩ (j:=8) (by omega) (I Z 2) rfl rfl rfl rfl rfl
   rw[af]at a3;obtain⟨a4,b4⟩:=a2.FL (g:=gm) (cp:=cm) (by rw[hlen]) (BF _) ⟨{ m.x with te:=i,en:=1 },m.va,m.vt⟩ (j:=8) (by omega) (I Z 1) rfl rfl rfl rfl rfl
   rw[af]at a4;obtain⟨a5,b5⟩:=a4.FL (g:=gm) (cp:=cm) (by rw[hlen]) (BF _) ⟨{ m.x with te:=i,en:=1,ve:=av },m.va,m.vt⟩ (j:=9) (by omega) (I Z av) rfl rfl rfl rfl rfl
   rw[af]at a5;have hs3:(R.A.set t ⟨(b:Int),(-1:Int)⟩)[t]?=some ⟨(b:Int),(-1:Int)⟩:=by rw[Qr,if_pos rfl,if_pos htl]
   have hs4:=a5.T5 hs3;obtain⟨a6,b6⟩:=a5.spot (g:=g) (cp:=cp) (by rw[Qq]) hs3 ⟨(b:Int)+1,-1⟩ (j:=0) (by omega) (I Z ((b:Int)+1)) rfl
   rw[af]at a6;have m1:∀ t:Tag,t=(70,0)->jm t:=by rintro _ rfl;exact .inl rfl
   have m2:∀ t:Tag,t=(70,1)->jm t:=by rintro _ rfl;exact .inl rfl
   have s2:=((Stp.of_below hbW).trans (b1.mono m1)).trans (b2.mono m2);have s5:=(s2.trans (b4.mono m1)).trans (b5.mono m1);exact⟨uA.2.1,uA.2.2.1,fP.2.2.1,fP.2.2.2.1,uA.1 5 _ rfl,uA.1 8 _ rfl,uA.1 9 _ rfl,fP.1,fP.2.1,hs4.1,⟨⟨_,_,_,hmap _,a3⟩,s2.trans (b3.mono m1)⟩,⟨_,_,_,hmap _,a6⟩,s5.trans (b6.mono m2)⟩)
 rw[hA]at hlt hcp jb htl;rw[gU]at gJ hlt hcp jb htl;have e1:((na:Int) != (nd:Int))=false:=by rw[hna,hnd,hn];simp
 rw[<-hna]at qa ⊢;rw[<-hnd]at p1;rw[<-hnb]at hbl hlb p0;rw[<-rQ]at hkl hlk jb hcm;rw[gU];have HV:=Qa gJ;have c:=jb.cell;have s:=jb.lt;simp only at q0 q1;have hgm:gm≠g:=fun e=>hgr e.symm
 clear hT hM h hs hA ht hb hx hm hna hnd hnb rQ vC hva hB hD qm og om hn hbs gU gJ;go_enter func163,ntmps163;go_upto_region 1 with fail;go_quiet (fail);revert nq;intro k1;go_upto_region 2 with fail;go_quiet (fail);revert nq;intro k2;go_upto_region 3 with fail;go_quiet (fail);revert nq;intro k3;go_upto_region 5 with fail;obtain⟨W,hW⟩:=Ja0 ((((w.alloc (.cells #[I Z t,I Z b,I Z na,I Z kk,I Z ae,I Z av] 69)).drewN k1).drewN k2).drewN k3);rw[<-hW];have hbW:Ae w.1.size w W:=by rw[hW];exact qx (qx (qx (qc (qd w) _) _) _) _
 have jB:Al W w.1.size #[I Z t,I Z b,I Z na,I Z kk,I Z ae,I Z av] 69:=by rw[hW];exact (((Al.new w _ _).drewN _).drewN _).drewN _
 clear hW c s jb p0 p1 l0 l1 q0 q1 zg zm lg lm qa;obtain⟨f1,f2,f3,f4,f5,f6,f7,f8,f9,f10,u1,u2⟩:=HFin.out W hbW;have ib:=Qa u1;have iK:=Qa u2;obtain⟨hw1,hw2⟩:=HW.out;have cB:=jB.cell;have lB:=jB.lt;clear u1 u2 jB HFin hbW;rcases (show (ae != 0)=true\/(ae != 0)=false from by cases (ae != 0)<;>simp) with h0|h0
 ·have e0:ae≠0:=by simpa using h0
  go_wp2_with fail;go_ret;refine⟨rfl,_,?_,ib.out.2⟩;rw[<-HV.out];first|exact ib.out.1|(rw[if_pos e0];exact ib.out.1)
 ·have e0:ae=0:=by simpa using h0
  go_wp2_with fail;go_ret;refine⟨rfl,_,?_,iK.out.2⟩;rw[<-HV.out];first|exact iK.out.1|(rw[if_neg (by simp[e0])];exact iK.out.1)
end
section
variable {w w' : Aa} {o o' : Own} {rb : Nat} {vt va vr : Ac} {A : List BZ} {M : List A2} {c : Nat} {R : Rd} {bK : List (List (List Pg.D))}
def Cg.came (h:Cg w o rb vt A M c va vr):Cg (w.setCell ⟨rb,3,none⟩ (I Z ((c:Int)+1))) o rb vt A M (c+1) va vr/\Stp jm o o w (w.setCell ⟨rb,3,none⟩ (I Z ((c:Int)+1))):=by
 have k:Stp (fun t=>t=(70,2)) o o w (w.setCell ⟨rb,3,none⟩ (I Z ((c:Int)+1))):=(Stp.refl _ o w).setCell (by show o rb=_;exact h.om) _
 refine⟨⟨?_,h.ra.Ao k (by simp),h.rm.Ao k (by simp),h.ms.Ao k (by simp),h.om⟩,k.mono (by rintro _ rfl;exact .inl rfl)⟩
 have:=h.AM.set (i:=3) (I Z ((c:Int)+1));exact this
def qoz (h:Cg w o rb vt A M c va vr)(hc:c<=1099511627776)(i:Nat)(b n ae av:Int) :
  Ab ARt 100 #[ptr rb,I Z i,Ak #[I Z (-1),I Z b,I Z n,I Z 5,I Z ae,I Z av]] w fun e w'=>e=O (.bool true)/\Cg w' o rb vt A M (c+1) va vr/\Stp jm o o w w':=by
 have HF:=Qa (h.came.1.below (qc (qd _) (.cells #[I Z (-1),I Z b,I Z n,I Z 5,I Z ae,I Z av] 69)));have HS:=Qa (h.came.2.trans (Stp.of_below (qc (qd _) (.cells #[I Z (-1),I Z b,I Z n,I Z 5,I Z ae,I Z av] 69))));have jf:=h.AM.free 3;have HW:=Qa (show wrap64 ((c:Int)+1)=(c:Int)+1/\IntKind.i64.wrap ((c:Int)+1)=(c:Int)+1 from⟨IntWalk.wrap64_in _ (by omega),IntWalk.i64_in _ (by omega)⟩)
 have jb:=h.AM;have jc:=jb.cell;have js:=jb.lt;clear h hc;obtain⟨hw1,hw2⟩:=HW.out;go_enter func100,ntmps100;go_upto_region 3 with fail;go_wp2_with fail;go_ret;exact⟨rfl,HF.out,HS.out⟩
def qn0 (h:Cg w o rb vt A M c va vr)(i:Nat)(b n ae av:Int) :
  Ab ARt 100 #[ptr rb,I Z i,Ak #[I Z (-1),I Z b,I Z n,I Z 4,I Z ae,I Z av]] w fun e w'=>e=O (.bool true)/\Ae w.1.size w w':=by
 clear h;go_enter func100,ntmps100;go_wp2_with fail;go_ret;exact⟨rfl,by repeat (first|exact qd w|exact qd _|refine qx ?_ _|refine qf ?_|refine qc ?_ _)⟩
def qk4 (h:Cg w o rb vt A M c va vr)(i:Nat)(b n k ae av:Int)(h5:(k==5)=false)(h4:(k==4)=false) :
  Ab ARt 100 #[ptr rb,I Z i,Ak #[I Z (-1),I Z b,I Z n,I Z k,I Z ae,I Z av]] w fun e w'=>e=O (.bool false)/\Ae w.1.size w w':=by
 clear h;go_enter func100,ntmps100;go_wp2_with fail;go_ret;exact⟨rfl,by repeat (first|exact qd w|exact qd _|refine qx ?_ _|refine qf ?_|refine qc ?_ _)⟩
def KU (h:Cg w o rb vt A M c va vr)(hT:AH w vt bK)(i:Nat)(t b n k ae av:Int)(h1:(t==-1)=false)(h2:t<0\/(¬t<0/\(bK.length:Int)<=t)) :
  Ab ARt 100 #[ptr rb,I Z i,Ak #[I Z t,I Z b,I Z n,I Z k,I Z ae,I Z av]] w fun e w'=>e=O (.bool false)/\Ae w.1.size w w':=by
 obtain⟨_,vs,hl,⟨a,cq,rfl,hc⟩,hd⟩:=hT;have jb:=h.AM;obtain⟨nt,hnt⟩:=Ja0 bK.length;rw[<-hnt]at jb;rw[<-hnt]at h2;have jc:=jb.cell;have js:=jb.lt;clear h hc hd hl hnt;rcases h2 with h2|⟨h2,h3⟩
 all_goals
  go_enter func100,ntmps100;go_upto_region 5 with fail;go_quiet (fail);go_wp2_with fail;go_ret;exact⟨rfl,by repeat (first|exact qd w|exact qd _|refine qx ?_ _|refine qf ?_|refine qc ?_ _)⟩
def KP (h:Cg w o rb vt A M c va vr)(hT:AH w vt bK){t:Nat}{s:BZ}(hs:A[t]?=some s)(hA:A.length=bK.length){bs:List (List Pg.D)}(ht:bK[t]?=some bs)(i:Nat)(b n k ae av:Int)(hb:b<0\/(¬b<0/\(bs.length:Int)<=b)\/(¬b<0/\¬(bs.length:Int)<=b/\b≠s.b)) :
  Ab ARt 100 #[ptr rb,I Z i,Ak #[I Z t,I Z b,I Z n,I Z k,I Z ae,I Z av]] w fun e w'=>e=O (.bool false)/\Ae w.1.size w w':=by
 obtain⟨g,cp,rfl,hcp,q0,q1,zg,lg,og⟩:=h.sp hs;obtain⟨g0,off,fE,a0,c0,rfl,p0,hB⟩:=hT.blocks ht;have l0:=qh p0;have htl:t<A.length:=(Qc.1 hs).1;have hlt:(t:Int)<(A.length:Int):=by omega
 have jb:=h.AM;obtain⟨nb,hnb⟩:=Ja0 bs.length;obtain⟨nt,hnt⟩:=Ja0 bK.length;rw[hA]at hlt hcp jb htl;rw[<-hnt]at hlt hcp jb htl;rw[<-hnb]at p0;have h1:((t:Int)==-1)=false:=by simp
 have h2:¬((t:Int)<0):=by omega
 have h3:¬((nt:Int)<=(t:Int)):=by omega
 rw[<-hnb]at hb;have jc:=jb.cell;have js:=jb.lt;obtain⟨sb,hsb⟩:=Ja0 s.b;rw[<-hsb]at q0 hb;clear hT h hs hA ht hnb hnt hB og hsb q1;rw[<-bne_iff_ne (a:=b)]at hb;rcases hb with h4|⟨h4,h5⟩|⟨h4,h5,h6⟩
 all_goals
  go_enter func100,ntmps100;go_upto_region 5 with fail;go_quiet (fail);go_upto_region 7 with fail;go_quiet (fail);go_wp2_with fail;go_ret;exact⟨rfl,by repeat (first|exact qd w|exact qd _|refine qx ?_ _|refine qf ?_|refine qc ?_ _)⟩
def Tu (h:Cg w o rb vt A M c va vr)(hT:AH w vt bK){t:Nat}{b:Nat}{kk:Int}(hs:A[t]?=some ⟨b,kk⟩)(hA:A.length=bK.length){bs:List (List Pg.D)}(ht:bK[t]?=some bs){ds:List Pg.D}(hbb:bs[b]?=some ds)(i:Nat)(n k ae av:Int)(hk:(k=1/\0<=kk)\/(k=2/\¬0<=kk)\/(k=3/\¬0<=kk)\/((k==1)=false/\(k==2)=false/\(k==3)=false)) :
  Ab ARt 100 #[ptr rb,I Z i,Ak #[I Z t,I Z b,I Z n,I Z k,I Z ae,I Z av]] w fun e w'=>e=O (.bool false)/\Ae w.1.size w w':=by
 obtain⟨g,cp,rfl,hcp,q0,q1,zg,lg,og⟩:=h.sp hs;obtain⟨g0,off,fE,a0,c0,rfl,p0,hB⟩:=hT.blocks ht;have l0:=qh p0;have htl:t<A.length:=(Qc.1 hs).1;have hlt:(t:Int)<(A.length:Int):=by omega
 have jb:=h.AM;obtain⟨nb,hnb⟩:=Ja0 bs.length;obtain⟨nt,hnt⟩:=Ja0 bK.length;rw[hA]at hlt hcp jb htl;rw[<-hnt]at hlt hcp jb htl;rw[<-hnb]at p0;have h1:((t:Int)==-1)=false:=by simp
 have h2:¬((t:Int)<0):=by omega
 have h3:¬((nt:Int)<=(t:Int)):=by omega
 have hlb:b<bs.length:=(Qc.1 hbb).1;have h4:¬((b:Int)<0):=by omega
 have h5:¬((bs.length:Int)<=(b:Int)):=by omega
 have h6:((b:Int) != (b:Int))=false:=by simp
 rw[<-hnb]at h5;have jc:=jb.cell;have js:=jb.lt;simp only at q0 q1;clear hT h hs hA ht hnb hnt hB og hbb hlb;have hk:(k=1/\0<=kk)\/(k=2/\¬0<=kk)\/(k=3/\¬0<=kk)\/((k==1)=false/\(k==2)=false/\(k==3)=false/\0<=kk)\/((k==1)=false/\(k==2)=false/\(k==3)=false/\¬0<=kk):=by
  rcases hk with e|e|e|⟨e1,e2,e3⟩
  ·exact .inl e
  ·exact .inr (.inl e)
  ·exact .inr (.inr (.inl e))
  ·rcases (show 0<=kk\/¬0<=kk from by omega) with e4|e4
   ·exact .inr (.inr (.inr (.inl ⟨e1,e2,e3,e4⟩)))
   ·exact .inr (.inr (.inr (.inr ⟨e1,e2,e3,e4⟩)))
 rcases hk with ⟨rfl,hk⟩|⟨rfl,hk⟩|⟨rfl,hk⟩|⟨hk,hk2,hk3,hkk⟩|⟨hk,hk2,hk3,hkk⟩
 all_goals
  go_enter func100,ntmps100;go_upto_region 5 with fail;go_quiet (fail);go_upto_region 7 with fail;go_quiet (fail);go_upto_region 9 with fail;go_quiet (fail);go_wp2_with fail;go_ret;exact⟨rfl,by repeat (first|exact qd w|exact qd _|refine qx ?_ _|refine qf ?_|refine qc ?_ _)⟩
def XA (h:Cg w o rb vt A M c va vr)(hT:AH w vt bK){t:Nat}{b:Nat}{kk:Int}(hs:A[t]?=some ⟨b,kk⟩)(hA:A.length=bK.length){bs:List (List Pg.D)}(ht:bK[t]?=some bs){ds:List Pg.D}(hbb:bs[b]?=some ds)(i:Nat)(n ae av:Int)(hk:¬0<=kk){r:Bool}{P:Aa->Prop}
  (HC:∀ W,Ae w.1.size w W->Ab ARt 161 #[ptr rb,I Z i,Ak #[I Z t,I Z b,I Z n,I Z 1,I Z ae,I Z av]] W fun e w'=>e=O (.bool r)/\P w')(hP:∀ w',P w'->P w'.drew) :
  Ab ARt 100 #[ptr rb,I Z i,Ak #[I Z t,I Z b,I Z n,I Z 1,I Z ae,I Z av]] w fun e w'=>e=O (.bool r)/\P w':=by
 obtain⟨g,cp,rfl,hcp,q0,q1,zg,lg,og⟩:=h.sp hs;obtain⟨g0,off,fE,a0,c0,rfl,p0,hB⟩:=hT.blocks ht;have l0:=qh p0;have htl:t<A.length:=(Qc.1 hs).1;have hlt:(t:Int)<(A.length:Int):=by omega
 have jb:=h.AM;obtain⟨nb,hnb⟩:=Ja0 bs.length;obtain⟨nt,hnt⟩:=Ja0 bK.length;rw[hA]at hlt hcp jb htl;rw[<-hnt]at hlt hcp jb htl;rw[<-hnb]at p0;have h1:((t:Int)==-1)=false:=by simp
 have h2:¬((t:Int)<0):=by omega
 have h3:¬((nt:Int)<=(t:Int)):=by omega
 have hlb:b<bs.length:=(Qc.1 hbb).1;have h4:¬((b:Int)<0):=by omega
 have h5:¬((bs.length:Int)<=(b:Int)):=by omega
 have h6:((b:Int) != (b:Int))=false:=by simp
 rw[<-hnb]at h5;have jc:=jb.cell;have js:=jb.lt;simp only at q0 q1;have HC':=Qa HC;have HP:=Qa hP;clear hT h hs hA ht hnb hnt hB og hbb hlb HC hP;go_enter func100,ntmps100;go_upto_region 5 with fail;go_quiet (fail);go_upto_region 7 with fail;go_quiet (fail);go_upto_region 9 with fail;go_quiet (fail);go_wp2_with (first
  | (go_at_call 161;refine (HC'.out _ (by repeat (first|exact qd w|exact qd _|refine qx ?_ _|refine qf ?_|refine qc ?_ _))).mono ?_;rintro e nQ ⟨rfl,hp⟩;have hp:=Qa hp)
  | fail)
 go_ret;first
  | exact⟨rfl,hp.out⟩
  | exact⟨rfl,HP.out _ hp.out⟩
def YF (h:Cg w o rb vt A M c va vr)(hT:AH w vt bK){t:Nat}{b:Nat}{kk:Int}(hs:A[t]?=some ⟨b,kk⟩)(hA:A.length=bK.length){bs:List (List Pg.D)}(ht:bK[t]?=some bs){ds:List Pg.D}(hbb:bs[b]?=some ds)(i:Nat)(n ae av:Int)(hk:0<=kk){r:Bool}{P:Aa->Prop}
  (HC:∀ W,Ae w.1.size w W->Ab ARt 162 #[ptr rb,I Z i,Ak #[I Z t,I Z b,I Z n,I Z 2,I Z ae,I Z av]] W fun e w'=>e=O (.bool r)/\P w')(hP:∀ w',P w'->P w'.drew) :
  Ab ARt 100 #[ptr rb,I Z i,Ak #[I Z t,I Z b,I Z n,I Z 2,I Z ae,I Z av]] w fun e w'=>e=O (.bool r)/\P w':=by
 obtain⟨g,cp,rfl,hcp,q0,q1,zg,lg,og⟩:=h.sp hs;obtain⟨g0,off,fE,a0,c0,rfl,p0,hB⟩:=hT.blocks ht;have l0:=qh p0;have htl:t<A.length:=(Qc.1 hs).1;have hlt:(t:Int)<(A.length:Int):=by omega
 have jb:=h.AM;obtain⟨nb,hnb⟩:=Ja0 bs.length;obtain⟨nt,hnt⟩:=Ja0 bK.length;rw[hA]at hlt hcp jb htl;rw[<-hnt]at hlt hcp jb htl;rw[<-hnb]at p0;have h1:((t:Int)==-1)=false:=by simp
 have h2:¬((t:Int)<0):=by omega
 have h3:¬((nt:Int)<=(t:Int)):=by omega
 have hlb:b<bs.length:=(Qc.1 hbb).1;have h4:¬((b:Int)<0):=by omega
 have h5:¬((bs.length:Int)<=(b:Int)):=by omega
 have h6:((b:Int) != (b:Int))=false:=by simp
 rw[<-hnb]at h5;have jc:=jb.cell;have js:=jb.lt;simp only at q0 q1;have HC':=Qa HC;have HP:=Qa hP;clear hT h hs hA ht hnb hnt hB og hbb hlb HC hP;go_enter func100,ntmps100;go_upto_region 5 with fail;go_quiet (fail);go_upto_region 7 with fail;go_quiet (fail);go_upto_region 9 with fail;go_quiet (fail);go_wp2_with (first
  | (go_at_call 162;refine (HC'.out _ (by repeat (first|exact qd w|exact qd _|refine qx ?_ _|refine qf ?_|refine qc ?_ _))).mono ?_;rintro e nQ ⟨rfl,hp⟩;have hp:=Qa hp)
  | fail)
 go_ret;first
  | exact⟨rfl,hp.out⟩
  | exact⟨rfl,HP.out _ hp.out⟩
def WA (h:Cg w o rb vt A M c va vr)(hT:AH w vt bK){t:Nat}{b:Nat}{kk:Int}(hs:A[t]?=some ⟨b,kk⟩)(hA:A.length=bK.length){bs:List (List Pg.D)}(ht:bK[t]?=some bs){ds:List Pg.D}(hbb:bs[b]?=some ds)(i:Nat)(n ae av:Int)(hk:0<=kk){r:Bool}{P:Aa->Prop}
  (HC:∀ W,Ae w.1.size w W->Ab ARt 163 #[ptr rb,I Z i,Ak #[I Z t,I Z b,I Z n,I Z 3,I Z ae,I Z av]] W fun e w'=>e=O (.bool r)/\P w')(hP:∀ w',P w'->P w'.drew) :
  Ab ARt 100 #[ptr rb,I Z i,Ak #[I Z t,I Z b,I Z n,I Z 3,I Z ae,I Z av]] w fun e w'=>e=O (.bool r)/\P w':=by
 obtain⟨g,cp,rfl,hcp,q0,q1,zg,lg,og⟩:=h.sp hs;obtain⟨g0,off,fE,a0,c0,rfl,p0,hB⟩:=hT.blocks ht;have l0:=qh p0;have htl:t<A.length:=(Qc.1 hs).1;have hlt:(t:Int)<(A.length:Int):=by omega
 have jb:=h.AM;obtain⟨nb,hnb⟩:=Ja0 bs.length;obtain⟨nt,hnt⟩:=Ja0 bK.length;rw[hA]at hlt hcp jb htl;rw[<-hnt]at hlt hcp jb htl;rw[<-hnb]at p0;have h1:((t:Int)==-1)=false:=by simp
 have h2:¬((t:Int)<0):=by omega
 have h3:¬((nt:Int)<=(t:Int)):=by omega
 have hlb:b<bs.length:=(Qc.1 hbb).1;have h4:¬((b:Int)<0):=by omega
 have h5:¬((bs.length:Int)<=(b:Int)):=by omega
 have h6:((b:Int) != (b:Int))=false:=by simp
 rw[<-hnb]at h5;have jc:=jb.cell;have js:=jb.lt;simp only at q0 q1;have HC':=Qa HC;have HP:=Qa hP;clear hT h hs hA ht hnb hnt hB og hbb hlb HC hP;go_enter func100,ntmps100;go_upto_region 5 with fail;go_quiet (fail);go_upto_region 7 with fail;go_quiet (fail);go_upto_region 9 with fail;go_quiet (fail);go_wp2_with (first
  | (go_at_call 163;refine (HC'.out _ (by repeat (first|exact qd w|exact qd _|refine qx ?_ _|refine qf ?_|refine qc ?_ _))).mono ?_;rintro e nQ ⟨rfl,hp⟩;have hp:=Qa hp)
  | fail)
 go_ret;first
  | exact⟨rfl,hp.out⟩
  | exact⟨rfl,HP.out _ hp.out⟩
end
end
section
open Go.RowKit Hp
section
variable {w w' : Aa} {o o' : Own} {rb : Nat} {vt va vr : Ac} {A : List BZ} {M : List A2} {c : Nat} {R : Rd} {bK : List (List (List Pg.D))}
def Ud (o:Own)(rb:Nat)(vt:Ac)(w w':Aa):Option Rd->Prop
 | none=>∃ o',Stp jm o o' w w'
 | some R'=>∃ o',BC w' o' rb vt R'/\Stp jm o o' w w'
def gj {e:Ending}{z:Option Rd}(hz:z=none)(h:e=O (.bool false)/\Ae w.1.size w w'):e=O (.bool z.isSome)/\Ud o rb vt w w' z:=by
 subst hz;exact⟨h.1,o,.of_below h.2⟩
def dz {e:Ending}{z:Option Rd}{R':Rd}(hz:z=some R')(h:e=O (.bool true)/\∃ o',BC w' o' rb vt R'/\Stp jm o o' w w'):e=O (.bool z.isSome)/\Ud o rb vt w w' z:=by
 subst hz;exact h
def KV {i t b:Nat}{n k ae av kk:Int}(e1:¬(t:Int)=-1){bs:List (List Pg.D)}(htl:t<bK.length)(hth:bK.getD t []=bs)(hbl:b<bs.length){ds:List Pg.D}(hdd:bs.getD b []=ds)(hkk:R.s t=⟨b,kk⟩) :
  R.take bK i ⟨t,b,n,⟨k,ae,av⟩⟩=if k=1 then (if 0<=kk then none else if ae≠0 then some (R.fail t bs.length ⟨b,kk⟩) else some (R.begun i t ⟨b,kk⟩ b av))
   else if k=2 then (if 0<=kk then R.Bs i t ⟨b,kk⟩ (R.x kk) ds ⟨t,b,n,⟨k,ae,av⟩⟩ else none)
   else if k=3 then (if 0<=kk then R.AL i t ⟨b,kk⟩ (R.x kk) ds ⟨t,b,n,⟨k,ae,av⟩⟩ else none) else none:=by
 unfold Rd.take;rw[if_neg e1,if_neg (by simp only;omega)]
 simp only[Ad,hth,hkk,hdd];rw[if_neg (by omega)]
def NJ (h0:BC w o rb vt R) (hT:AH w vt bK) {i:Nat} (hB:R.bd bK i) (hbs:∀ bs ∈ bK,bs.length<=1000000) (hi:i<=1099511627776) (t b n k ae av:Int) :
  Ab ARt 100 #[ptr rb,I Z i,Ak #[I Z t,I Z b,I Z n,I Z k,I Z ae,I Z av]] w fun e' w'=>e'=O (.bool (R.take bK i ⟨t,b,n,⟨k,ae,av⟩⟩).isSome)/\Ud o rb vt w w' (R.take bK i ⟨t,b,n,⟨k,ae,av⟩⟩):=by
 obtain⟨M,va,vr,hM,hR⟩:=h0;have h0:BC w o rb vt R:=⟨M,va,vr,hM,hR⟩;by_cases e1:t=-1
 ·subst e1
  by_cases k5:k=5
  ·subst k5
   refine (qoz hR (by have:=hB.c;omega) i b n ae av).mono ?_
   rintro e w' ⟨rfl,h1,h2⟩;exact dz (R':={ R with c:=R.c+1 }) (by unfold Rd.take;rw[if_pos rfl,if_pos rfl]) ⟨rfl,o,⟨M,va,vr,hM,h1⟩,h2⟩
  ·by_cases k4:k=4
   ·subst k4
    refine (qn0 hR i b n ae av).mono ?_;rintro e w' ⟨rfl,h1⟩;exact dz (R':=R) (by unfold Rd.take;rw[if_pos rfl,if_neg (by simp),if_pos rfl]) ⟨rfl,o,h0.below h1,.of_below h1⟩
   ·refine (qk4 hR i b n k ae av (by simpa using k5) (by simpa using k4)).mono fun e w' h=>?_
    exact gj (by unfold Rd.take;rw[if_pos rfl,if_neg (by simpa using k5),if_neg (by simpa using k4)]) h
 ·by_cases e2:t<0\/(bK.length:Int)<=t
  ·refine (KU hR hT i t b n k ae av (by simpa using e1) (by omega)).mono fun e w' h=>?_
   exact gj (by unfold Rd.take;rw[if_neg (by simpa using e1),if_pos (by simpa using e2)]) h
  ·obtain⟨t,rfl⟩:∃ t':Nat,t=t':=⟨t.toNat,by omega⟩
   have htl:t<bK.length:=by omega
   obtain⟨bs,ht⟩:∃ bs,bK[t]?=some bs:=⟨_,Qb htl⟩;have hth:bK.getD t []=bs:=by rw[Qi,ht];rfl
   have hs:R.A[t]?=some (R.s t):=dj (by rw[hB.len];exact htl)
   by_cases e3:b<0\/(bs.length:Int)<=b\/b≠(R.s t).b
   ·refine (KP hR hT hs hB.len ht i b n k ae av (by omega)).mono fun e w' h=>?_
    exact gj (by unfold Rd.take;rw[if_neg (by simp only;exact e1),if_neg (by simp only;exact e2)];simp only[Ad,hth];rw[if_pos e3]) h
   ·obtain⟨b,rfl⟩:∃ b':Nat,b=b':=⟨b.toNat,by omega⟩
    have hbl:b<bs.length:=by omega
    obtain⟨ds,hb⟩:∃ ds,bs[b]?=some ds:=⟨_,Qb hbl⟩;have hdd:bs.getD b []=ds:=by rw[Qi,hb];rfl
    obtain⟨kk,hkk⟩:∃ kk,R.s t=⟨b,kk⟩:=⟨(R.s t).k,by
     have:(R.s t).b=b:=by omega
     revert this;cases R.s t;intro h;simp only at h;rw[h]⟩
    rw[hkk]at hs;have hv:=KV (R:=R) (i:=i) (n:=n) (k:=k) (ae:=ae) (av:=av) e1 htl hth hbl hdd hkk;have Aff:=hbs bs (Qe ht);have hlive:0<=kk->∃ (j:Nat) (x:AK),kk=j/\R.M[j]?=some x/\R.x kk=x/\x.AX.length<=i/\x.Cu.length<=i:=fun hk=>by
     rcases hB.k _ (Qe hs) with h1|⟨j,h1,h2⟩
     ·simp only at h1;omega
     ·simp only at h1
      subst h1;refine⟨j,_,rfl,Qb h2,?_,hB.a _ (List.getElem_mem h2)⟩;unfold Rd.x;rw[Ad,Qi,Qb h2];rfl
    have hPd:∀ R' w',(∃ o',BC w' o' rb vt R'/\Stp jm o o' w w')->∃ o',BC w'.drew o' rb vt R'/\Stp jm o o' w w'.drew:=fun R' w' ⟨o',h1,h2⟩=>⟨o',h1.below (qf (qd _)),h2.drew⟩;have hcomp:∀ (R':Rd) (W:Aa) (hW:Ae w.1.size w W) (e:Ending) (w':Aa),(e=O (.bool true)/\∃ o',BC w' o' rb vt R'/\Stp jm o o' W w')->(e=O (.bool true)/\∃ o',BC w' o' rb vt R'/\Stp jm o o' w w'):=fun R' W hW e w' ⟨h1,o',h2,h3⟩=>⟨h1,o',h2,(Stp.of_below hW).trans h3⟩;by_cases k1:k=1
    ·subst k1
     by_cases hk:0<=kk
     ·refine (Tu hR hT hs hB.len ht hb i n 1 ae av (.inl ⟨rfl,hk⟩)).mono fun e w' h=>?_
      exact gj (by rw[hv,if_pos rfl,if_pos hk]) h
     ·by_cases ha:ae=0
      ·subst ha
       refine (XA hR hT hs hB.len ht hb i n 0 av hk (r:=true) (P:=fun w'=>∃ o',BC w' o' rb vt (R.begun i t ⟨b,kk⟩ b av)/\Stp jm o o' w w') (fun W hW=>?_) (hPd _)).mono fun e w' h=>?_
       ·exact (qo0 (h0.below hW) hs i b n 1 av (by have:=hB.m;omega)).mono (hcomp _ W hW)
       ·exact dz (by rw[hv,if_pos rfl,if_neg hk,if_neg (by simp)]) h
      ·refine (XA hR hT hs hB.len ht hb i n ae av hk (r:=true) (P:=fun w'=>∃ o',BC w' o' rb vt (R.fail t bs.length ⟨b,kk⟩)/\Stp jm o o' w w') (fun W hW=>?_) (hPd _)).mono fun e w' h=>?_
       ·exact (qj7 (h0.below hW) (hT.below hW) hs hB.len ht i b n 1 ae av ha).mono (hcomp _ W hW)
       ·exact dz (by rw[hv,if_pos rfl,if_neg hk,if_pos ha]) h
    ·by_cases k2:k=2
     ·subst k2
      by_cases hk:0<=kk
      ·obtain⟨j,x,rfl,hx,hxx,hx1,hx2⟩:=hlive hk
       rw[hxx]at hv;by_cases hn:n≠x.AX.length\/(ds.length:Int)<=n
       ·refine (YF hR hT hs hB.len ht hb i n ae av hk (r:=false) (P:=fun w'=>Ae w.1.size w w') (fun W hW=>?_) (fun _ h=>qf h)).mono fun e w' h=>?_
        ·exact (Ko (h0.below hW) (hT.below hW) hs hB.len ht hb hx i n 2 ae av hn).mono fun e w' h=>⟨h.1,qe hW h.2⟩
        ·exact gj (by rw[hv,if_neg (by decide),if_pos rfl,if_pos hk];unfold Rd.Bs;rw[if_pos hn]) h
       ·obtain rfl:n=x.AX.length:=by omega
        refine (YF hR hT hs hB.len ht hb i _ ae av hk (r:=true) (P:=fun w'=>∃ o',BC w' o' rb vt (if rp ds ⟨t,b,x.AX.length,⟨2,ae,av⟩⟩=true then R.shut t (if ae=141 then b else b+1) j ((x.act i ⟨2,ae,av⟩).ended i 2 x.ve) else R.put j (x.act i ⟨2,ae,av⟩))/\Stp jm o o' w w') (fun W hW=>?_) (hPd _)).mono fun e w' h=>?_
        ·exact (Kp (h0.below hW) (hT.below hW) hs hB.len ht hb Aff hx i 2 ae av (by omega) (by omega) (by omega)).mono (hcomp _ W hW)
        ·refine dz ?_ h
         rw[hv,if_neg (by decide),if_pos rfl,if_pos hk];unfold Rd.Bs;rw[if_neg hn]
         simp only[Ad];split<;>rfl
      ·refine (Tu hR hT hs hB.len ht hb i n 2 ae av (.inr (.inl ⟨rfl,hk⟩))).mono fun e w' h=>?_
       exact gj (by rw[hv,if_neg (by decide),if_pos rfl,if_neg hk]) h
     ·by_cases k3:k=3
      ·subst k3
       by_cases hk:0<=kk
       ·obtain⟨j,x,rfl,hx,hxx,hx1,hx2⟩:=hlive hk
        rw[hxx]at hv;by_cases hn:n≠x.AX.length\/n≠(ds.length:Int)
        ·refine (WA hR hT hs hB.len ht hb i n ae av hk (r:=false) (P:=fun w'=>Ae w.1.size w w') (fun W hW=>?_) (fun _ h=>qf h)).mono fun e w' h=>?_
         ·exact (qjk (h0.below hW) (hT.below hW) hs hB.len ht hb hx i n 3 ae av hn).mono fun e w' h=>⟨h.1,qe hW h.2⟩
         ·exact gj (by rw[hv,if_neg (by decide),if_neg (by decide),if_pos rfl,if_pos hk];unfold Rd.AL;rw[if_pos hn]) h
        ·obtain rfl:n=x.AX.length:=by omega
         refine (WA hR hT hs hB.len ht hb i _ ae av hk (r:=true) (P:=fun w'=>∃ o',BC w' o' rb vt (if ae≠0 then R.shut t b j (x.ended i 2 x.ve) else R.shut t (b+1) j (x.ended i 1 av))/\Stp jm o o' w w') (fun W hW=>?_) (hPd _)).mono fun e w' h=>?_
         ·exact (qjn (h0.below hW) (hT.below hW) hs hB.len ht hb Aff hx i 3 ae av (by omega)).mono (hcomp _ W hW)
         ·refine dz ?_ h
          rw[hv,if_neg (by decide),if_neg (by decide),if_pos rfl,if_pos hk];unfold Rd.AL;rw[if_neg hn]
          simp only[Ad];split<;>rfl
       ·refine (Tu hR hT hs hB.len ht hb i n 3 ae av (.inr (.inr (.inl ⟨rfl,hk⟩)))).mono fun e w' h=>?_
        exact gj (by rw[hv,if_neg (by decide),if_neg (by decide),if_pos rfl,if_neg hk]) h
      ·refine (Tu hR hT hs hB.len ht hb i n k ae av (.inr (.inr (.inr ⟨by simpa using k1,by simpa using k2,by simpa using k3⟩)))).mono fun e w' h=>?_
       exact gj (by rw[hv,if_neg k1,if_neg k2,if_neg k3]) h
end
end
section
open Go.RowKit Hp
attribute [local go_sem ↓] Go.wp_at_zero Go.wp_at_succ
def Ci (w:Aa)(v:Ac)(es:List Bg):Prop:=es.length<=maxLen/\∃ a c,v=.slice a es.length c/\es.length<=c/\(es=[]\/∃ g off,a=some ⟨g,off,none⟩/\∀ k x,es[k]?=some x->Ln w g (off+k*6) x)
section
variable {w w' : Aa} {o o' : Own} {rb : Nat} {vt va vr : Ac} {A : List BZ} {M : List A2} {c : Nat} {R : Rd} {bK : List (List (List Pg.D))}
def Ln.below {g b:Nat}{x:Bg}(h:Ln w g b x)(k:Ae w.1.size w w'):Ln w' g b x:=
 ⟨(k.cell (p:=⟨g,b,none⟩) (qh h.c0)).trans h.c0,(k.cell (p:=⟨g,b+1,none⟩) (qh h.c1)).trans h.c1,(k.cell (p:=⟨g,b+2,none⟩) (qh h.c2)).trans h.c2,(k.cell (p:=⟨g,b+3,none⟩) (qh h.c3)).trans h.c3,(k.cell (p:=⟨g,b+4,none⟩) (qh h.c4)).trans h.c4,(k.cell (p:=⟨g,b+5,none⟩) (qh h.c5)).trans h.c5⟩
def Ci.below {v:Ac}{es:List Bg}(h:Ci w v es)(k:Ae w.1.size w w'):Ci w' v es:=by
 obtain⟨h0,a,c,h1,h2,h3⟩:=h;refine⟨h0,a,c,h1,h2,?_⟩;rcases h3 with h3|⟨g,off,h3,h4⟩
 ·exact .inl h3
 ·exact .inr ⟨g,off,h3,fun k' x hx=>(h4 k' x hx).below k⟩
def Row.Sk {tg:Tag}{v:Ac}{es:List Bg}(hr:Row w o tg 69 6 v es.length (qq es))(hl:es.length<=maxLen):Ci w v es:=by
 obtain⟨pa,c,rfl⟩:=hr.AS;rcases hr.B7 with ⟨h0,h1⟩|⟨g,cap,e,hn⟩
 ·cases es with
  | nil=>exact⟨hl,pa,c,rfl,ag _,.inl rfl⟩
  | cons x l=>exact absurd h1 (by unfold qq;simp)
 ·injection e with e1 _ e3
  subst e1 e3;refine⟨hl,_,_,rfl,hn,.inr ⟨g,0,rfl,fun k x hx=>?_⟩⟩;obtain⟨g',e1,_,h⟩:=hr.en6 hx;injection e1 with e1;injection e1 with e1;subst e1;rw[ai];exact h
def ql9:∀ l:List BZ,(Eu l).length=l.length*2
 | []=>rfl
 | x::l=>by
  have ih:=ql9 l;show (BZ.cells x++Eu l).length=_;rw[Qd,ih,Qv];simp[BZ.cells];omega
def qix {W:Aa}{b n:Nat}{l:List BZ}{t:Tag}(h:Al W b (Eu l).toArray 165)(hn:l.length=n)(ht:o b=t)(h8:n<=8):Row W o t 165 2 (Ah (some ⟨b,0,none⟩) n n) n (Eu l):=by
 have e:(Eu l).length=n*2:=by rw[ql9,hn]
 refine⟨⟨e,.inr ⟨b,n,(Eu l).toArray,rfl,ag _,h,Qk _,by simp only[maxLen];omega,by simp[e],by simp[e,List.take_of_length_le]⟩⟩,fun k hk=>?_⟩
 have:b=k:=by simpa [Value.ownBlock] using hk
 subst this;exact ht
def Ng {n:Nat}(h1:1<=n)(h8:n<=8)(w:Aa):(Instr.makeSlice 161 (I Z n) (I Z n)).run ARt w=.ok (Ah (some ⟨w.1.size,0,none⟩) n n) (w.alloc (.cells (Eu (Ai n ⟨0,0⟩)).toArray 165)):=by
 obtain⟨iI,hi,hsI,bZ,bT⟩:=qni;have h:=run_make (P:=ARt) w 161 165 iI _ underlying161 hi bT .i64 .i64 n n (by omega) (by omega) (by rw[bZ];omega) (by omega)
 rw[hsI]at h;simp only[Ad]at h;have e:madeCells (Value.agg #[I Z 0,I Z 0]).cells (n*2)=(Eu (Ai n ⟨0,0⟩)).toArray:=by
  clear h;obtain rfl|rfl|rfl|rfl|rfl|rfl|rfl|rfl:n=1\/n=2\/n=3\/n=4\/n=5\/n=6\/n=7\/n=8:=by omega
  all_goals kernel_rfl
 rw[h,e]
def Ec (w w':Aa)(e:Ending):Option Rd->Prop
 | none=>e=O (Aj #[Ah none 0 0,.bool false])/\Ae w.1.size w w'
 | some R=>∃ (M:List A2)(va:Ac)(o':Own),e=O (Aj #[va,.bool true])/\Ae w.1.size w w'/\M.map A2.x=R.M/\Row w' o' (70,0) 86 10 va M.length (FK M)/\Du w' o' M
def Lt (n k:Nat):List BZ:=Ai k ⟨0,-1⟩++Ai (n-k) ⟨0,0⟩
def Q7 {n k:Nat}(h:k<n):(Lt n k)[k]?=some ⟨0,0⟩/\(Lt n k).set k ⟨0,-1⟩=Lt n (k+1):=by
 obtain⟨d,rfl⟩:∃ d,n=k+(d+1):=⟨n-k-1,by omega⟩
 unfold Lt;have e1:k+(d+1)-k=d+1:=by omega
 have e2:k+(d+1)-(k+1)=d:=by omega
 rw[e1,e2,List.replicate_succ (n:=d)];refine⟨by rw[Ql (by simp)];simp,?_⟩
 rw[List.set_append_right _ _ (by simp)]
 simp[List.replicate_succ',List.append_assoc]
def Kr {es:List Bg}{k:Nat}{x:Bg}(hx:es[k]?=some x)(hr:za bK (some (Rd.new bK.length)) 0 (es.take k)=some R)(hn:R.take bK k x=none):za bK (some (Rd.new bK.length)) 0 es=none:=by
 have hk:k<es.length:=(Qc.1 hx).1;have e:es.take (k+1)=es.take k++[x]:=by rw[aj,hx];rfl
 have e2:(es.take k).length=k:=by rw[Qp];omega
 rw[<-Qw (k+1) es,wj,e,gv,hr];simp only;rw[e2,ai,hn,zy]
def qnw {es:List Bg}{k:Nat}{x:Bg}{R':Rd}(hx:es[k]?=some x)(hr:za bK (some (Rd.new bK.length)) 0 (es.take k)=some R)(hn:R.take bK k x=some R'):za bK (some (Rd.new bK.length)) 0 (es.take (k+1))=some R':=by
 have hk:k<es.length:=(Qc.1 hx).1;have e:es.take (k+1)=es.take k++[x]:=by rw[aj,hx];rfl
 have e2:(es.take k).length=k:=by rw[Qp];omega
 rw[e,gv,hr];simp only;rw[e2,ai,hn]
end
section
variable {w w' : Aa} {o o' : Own} {rb : Nat} {vt va vr : Ac} {A : List BZ} {M : List A2} {c : Nat} {R : Rd} {bK : List (List (List Pg.D))}
def Uu (hT:AH w vt bK)(hck:check bK=(0,0,0,0))(h1:1<=bK.length)(h8:bK.length<=8)(hbs:∀ bs ∈ bK,bs.length<=1000000){vh:Ac}{es:List Bg}(hE:Ci w vh es)(hl:es.length<=1000000) :
  Ab ARt 43 #[vt,vh] w fun e w'=>Ec w w' e (za bK (some (Rd.new bK.length)) 0 es):=by
 have hc:=XO vt bK w hT;unfold yw at hc;rw[hck]at hc;have HCk:=Qa (show Ab ARt 86 #[vt] w fun e w'=>e=O (Aj #[I Z 0,Ak #[I Z 0,I Z 0,I Z 0]])/\Ae w.1.size w w' from hc)
 have HT:=Qa hT;have HE:=Qa hE;have HB:=Qa hbs;have HL:=Qa hl;obtain⟨n,hn⟩:=Ja0 bK.length;obtain⟨ne,hne⟩:=Ja0 es.length;obtain⟨pt,ct,rfl⟩:∃ pt ct,vt=.slice pt n ct:=by
  obtain⟨_,vs,_,⟨a,c,rfl,_⟩,_⟩:=hT;exact⟨a,c,by rw[hn]⟩
 obtain⟨_,ph,ch,rfl,hch,_⟩:=hE;rw[<-hne]at hch HL ⊢;rw[<-hn]at h1 h8 ⊢;have HN:=Qa hn;have HNe:=Qa hne;have hmk:=@Ng n h1 h8;have kI1:(1:Int)<=(n:Int):=by omega
 have kI8:(n:Int)<=8:=by omega
 clear hc hT hbs hl hck hn hne;go_enter func43,ntmps43;go_wp2_with (first
  | (go_at_call 86;refine HCk.out.mono ?_;rintro e w1 ⟨rfl,hb1⟩)
  | fail)
 obtain⟨W0,hW0⟩:=Ja0 (((w1.alloc (.cells #[I Z 0,I Z 0,I Z 0] 35)).alloc (.cells (Eu (Ai n ⟨0,0⟩)).toArray 165)).alloc (.cells #[.slice pt n ct,Ah (some ⟨w1.1.size+1,0,none⟩) n n,Ah none 0 0,I Z 0] 163));rw[<-hW0];have hb0:Ae w.1.size w W0:=by rw[hW0];exact qc (qc (qc hb1 _) _) _
 have hsz:=hb1.size;obtain⟨gs,hgs⟩:=Ja0 (w1.1.size+1);have hW1:W0.1.size=gs+2:=by rw[hW0,hgs];simp
 have BS:Al W0 gs (Eu (Lt n 0)).toArray 165:=by
  rw[hW0,hgs];exact (Al.Ap _ _ _ _ _ (by simp) (by unfold Lt;rw[Nat.sub_zero];rfl)).alloc _
 have BR:Al W0 (gs+1) #[.slice pt n ct,Ah (some ⟨gs,0,none⟩) n n,Ah none 0 0,I Z 0] 163:=by
  rw[hW0,hgs];exact Al.Ap _ _ _ _ _ (by simp) rfl
 rw[<-hgs];have hgw:w.1.size<gs:=by omega
 have HB0:=Qa (aa hb0 (aa BS BR));clear hW0 hmk HCk hb1 hsz hgs hb0 BS BR;go_loopw [27] (fun ix wr=>∃ k:Nat,ix=I Z k/\k<=n/\Ae w.1.size w wr/\wr.1.size=gs+2/\Al wr gs (Eu (Lt n k)).toArray 165/\Al wr (gs+1) #[.slice pt n ct,Ah (some ⟨gs,0,none⟩) n n,Ah none 0 0,I Z 0] 163) (fun ix _=>n-(intOf ix).toNat)
 case atStart=>exact⟨0,rfl,ag _,HB0.out.1,hW1,HB0.out.2.1,HB0.out.2.2⟩
 case round =>
  clear HB0;obtain⟨k,rfl,hkn,hbw,hsz,hS,hR⟩:=hrel;by_cases hlt:k<n
  ·have kI:(k:Int)<(n:Int):=by omega
   obtain⟨hw1,hw2⟩:=jd k (by omega)
   obtain⟨wo,rfl⟩:=Ja0 wr;have cR:=hR.cell;have lR:=hR.lt;have lS:=hS.lt;have fS:=hS.free;obtain⟨e1,e2⟩:=Q7 hlt;have cS:wo.cell? ⟨gs,k*2+1,none⟩=some (I Z 0):=by
    rw[hS.cell];have:=(KL e1).2;simpa using this
   have HX:=Qa (show Ae w.1.size w (wo.setCell ⟨gs,k*2+1,none⟩ (I Z (-1)))/\(wo.setCell ⟨gs,k*2+1,none⟩ (I Z (-1))).1.size=gs+2/\Al (wo.setCell ⟨gs,k*2+1,none⟩ (I Z (-1))) gs (Eu (Lt n (k+1))).toArray 165/\Al (wo.setCell ⟨gs,k*2+1,none⟩ (I Z (-1))) (gs+1) #[.slice pt n ct,Ah (some ⟨gs,0,none⟩) n n,Ah none 0 0,I Z 0] 163 from by
    refine⟨zc hbw (by show _<=gs;omega) _,by simpa [World.setCell] using hsz,?_,hR.Am (by show gs+1≠gs;omega) _⟩
    have h:=hS.set (k*2+1) (I Z (-1));rw[List.setIfInBounds_toArray,qmj e1 ⟨0,-1⟩ (j:=1) (by omega) (I Z (-1)) rfl,e2]at h
    exact h)
   clear hS hR hbw hsz e1 e2;go_wp2_with fail;go_roundw
   case rel=>exact⟨k+1,by simp,hlt,HX.out⟩
   case measure=>clear hw1 hw2;simp[intOf];omega
  ·obtain rfl:k=n:=by omega
   have e0:Lt k k=(Rd.new k).A:=by unfold Lt Rd.new;simp
   rw[e0]at hS;obtain⟨o2,ho2⟩:∃ o2:Own,o2=fun b=>if b=gs then (70,1) else if b=gs+1 then (70,2) else (0,0):=⟨_,rfl⟩;have hSt:Stp jm (fun _=>(0,0)) o2 w wr:=⟨hbw.os,hbw.tape,hbw.output,hbw.size,fun b hb=>by rw[ho2];show (if _ then _ else _)=_;rw[if_neg (by omega),if_neg (by omega)],fun b hb _=>hbw.block b hb⟩
   have dI:BC wr o2 (gs+1) (.slice pt k ct) (Rd.new k):=by
    have ea:(Rd.new k).A.length=k:=by simp[Rd.new]
    refine⟨[],Ah (some ⟨gs,0,none⟩) k k,Ah none 0 0,rfl,hR,?_,Row.nil _ _ _ _ _,fun j m hm=>by simp at hm,by rw[ho2];show (if _ then _ else _)=_;rw[if_neg (by omega),if_pos rfl]⟩
    rw[ea];exact qix hS ea (by rw[ho2];exact if_pos rfl) h8
   have tK:=Qa (aa dI hSt);have pW:=Qa (show (Rd.new k).bd bK 0 from by rw[HN.out];exact T4 bK)
   clear e0 hS ho2 dI hSt hR hbw hsz;go_wp2_with fail;go_loopw [38] (fun ix wi=>∃ (q:Nat)(o:Own)(R:Rd),ix=I Z q/\q<=ne/\za bK (some (Rd.new k)) 0 (es.take q)=some R/\R.bd bK q/\BC wi o (gs+1) (.slice pt k ct) R/\Stp jm (fun _=>(0,0)) o w wi) (fun ix _=>ne-(intOf ix).toNat)
   case atStart=>exact⟨0,o2,Rd.new k,rfl,ag _,rfl,pW.out,tK.out.1,tK.out.2⟩
   case round =>
    clear pW tK;obtain⟨q,o,R,rfl,hqn,hrd,hbd,dI,hSt⟩:=hrel;obtain⟨wo,rfl⟩:=Ja0 wr;have hbw:Ae w.1.size w wo:=hSt.below fun b _ h=>by simp[jm]at h
    have HR:=Qa dI;have HS:=Qa hSt;have mI:=Qa hrd;have pW:=Qa hbd;by_cases hlt2:q<ne
    ·have qI:(q:Int)<(ne:Int):=by omega
     obtain⟨hw1,hw2⟩:=jd q (by have:=HL.out;omega)
     obtain⟨x,hx⟩:∃ x,es[q]?=some x:=⟨_,Qb (by rw[<-HNe.out];exact hlt2)⟩
     obtain⟨_,ph',ch',ev,_,hent⟩:=HE.out.below hbw;injection ev with ev _ iY;subst ev iY;rcases hent with h0|⟨g,off,rfl,hent⟩
     ·rw[h0]at hx;simp at hx
     have e6:=hent q x hx;obtain⟨t,b,m,⟨ak,ae,av⟩⟩:=x;obtain⟨c0,c1,c2,c3,c4,c5⟩:=e6;simp only at c0 c1 c2 c3 c4 c5;have iH:=Qa (fun (W:Aa)(hb:Ae wo.1.size wo W)=>NJ (HR.out.below hb) (HT.out.below (qe hbw hb)) pW.out HB.out (by have:=HL.out;omega) t b m ak ae av)
     obtain⟨z,hz⟩:=Ja0 (R.take bK q ⟨t,b,m,⟨ak,ae,av⟩⟩);rw[<-hz]at iH;have HX:=Qa hx;clear hent dI hSt hrd hbd hx
     cases z with
     | none =>
      have qV:=Qa (show za bK (some (Rd.new k)) 0 es=none from by
       have h:=mI.out;rw[HN.out]at h ⊢;exact Kr HX.out h hz.symm)
      clear hz;go_wp2_with (first
       | (go_at_call 100;refine (iH.out _ (qc (qd _) _)).mono ?_;rintro e w4 ⟨rfl,o4,h4⟩)
       | fail)
      refine bodyPost_ret (v:=Aj #[Ah none 0 0,.bool false]) (by simp[results,results43,go_sem]) rfl ?_
      rw[qV.out];exact⟨rfl,((HS.out.trans (.of_below (qc (qd _) _))).trans h4).below fun b _ h=>by simp[jm]at h⟩
     | some R' =>
      have Amo:=Qa (show za bK (some (Rd.new k)) 0 (es.take (q+1))=some R' from by
       have h:=mI.out;rw[HN.out]at h ⊢;exact qnw HX.out h hz.symm)
      have Akg:=Qa (qme pW.out hz.symm);clear hz;go_wp2_with (first
       | (go_at_call 100;refine (iH.out _ (qc (qd _) _)).mono ?_;rintro e w4 ⟨rfl,o4,h4,s4⟩)
       | fail)
      have HR4:=Qa h4;have yQ:=Qa ((HS.out.trans (.of_below (qc (qd _) _))).trans s4);clear h4 s4;go_roundw
      case rel=>exact⟨q+1,o4,R',by simp,hlt2,Amo.out,Akg.out,HR4.out,yQ.out⟩
      case measure=>clear hw1 hw2;simp[intOf];omega
    ·obtain rfl:q=ne:=by omega
     have uE:=Qa (show za bK (some (Rd.new k)) 0 es=some R from by
      have h:=mI.out;rw[HNe.out,List.take_length]at h;exact h)
     obtain⟨Ms,va,vr,hM,hI⟩:=dI;have cR:=hI.AM.cell;have lR:=hI.AM.lt;have HFin:=Qa (aa hM (aa hI.rm (aa hI.ms hbw)));clear hI hM hrd hbd hSt hbw mI;go_wp2_with fail;refine bodyPost_ret (v:=Aj #[vr,.bool true]) (by simp[results,results43,go_sem]) rfl ?_
     rw[uE.out];exact⟨Ms,vr,o,rfl,HFin.out.2.2.2,HFin.out.1,HFin.out.2.1,HFin.out.2.2.1⟩
