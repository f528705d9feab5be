import Derived.Test.YteehgedabdchcaaGreatKbm
set_option linter.all false
set_option maxRecDepth 1000000
set_option maxHeartbeats 0
open Go renaming World->Aa,Calls->Ab,Value->Ac
open Go.RowKit renaming Below->Ae
open Go.Value renaming int->I,pointer->Ag,slice->Ah,tuple->Aj,agg->Ak
open Go.IntKind renaming i64->Z
open Go.Ending renaming returned->O
open And renaming intro->Ad
open List renaming take_length->Ai,take_add_one->af,length_drop->ag,nil_append->ai,drop_drop->aj
open Nat renaming zero_le->aa,sub_self->ay
open Go.Proofs.Tryz
open Go.Proofs.Tryz renaming prog->ARt
namespace Go.Proofs.YteehgedabdchcaaGreat
section
open Go.RowKit Hp
attribute [local go_sem ↓] Go.wp_at_zero Go.wp_at_succ
def uo:∀ (l:List AE)(ms:List Nat),(vg l ms).length=l.length
 | [],_=>rfl
 | _::l,ms=>congrArg (·+1) (uo l (ms.drop 12))
def WT:∀ (l:List AE)(h:AE)(ms:List Nat),vg (l++[h]) ms=vg l ms++[h.place (ms.drop (l.length*12))]
 | [],h,ms=>rfl
 | z::l,h,ms=>by
  show z.place ms::vg (l++[h]) (ms.drop 12)=z.place ms::(vg l (ms.drop 12)++[h.place (ms.drop ((l.length+1)*12))]);rw[WT l h (ms.drop 12),aj,show 12+l.length*12=(l.length+1)*12 from by omega]
def FR (hs:List AE)(ms:List Nat)(k:Nat):List AE:=vg (hs.take k) ms++hs.drop k
def Jw (hs:List AE)(ms:List Nat)(k:Nat):(FR hs ms k).length=hs.length:=by
 unfold FR;rw[Qd,uo,Qp,ag];omega
def Jv (hs:List AE)(ms:List Nat):FR hs ms hs.length=vg hs ms:=by
 unfold FR;rw[Ai,List.drop_length,List.append_nil]
def qh3 {hs:List AE}(ms:List Nat){k:Nat}{z:AE}(h:hs[k]?=some z):(FR hs ms k)[k]?=some z:=by
 have hk:=(Qc.1 h).1;have e:(vg (hs.take k) ms).length=k:=by rw[uo,Qp];omega
 unfold FR;rw[Ql (by omega),e,ay,List.getElem?_drop,Nat.add_zero,h]
def qod {hs:List AE}(ms:List Nat){k:Nat}{z:AE}(h:hs[k]?=some z):FR hs ms (k+1)=(FR hs ms k).set k (z.place (ms.drop (k*12))):=by
 have hk:=(Qc.1 h).1;have e0:(hs.take k).length=k:=by rw[Qp];omega
 have e:(vg (hs.take k) ms).length=k:=by rw[uo,e0]
 have e2:hs.drop k=z::hs.drop (k+1):=by
  rw[List.drop_eq_getElem_cons hk];congr 1;rw[Qb hk]at h;injection h
 unfold FR;rw[af,h,Option.toList_some,WT,e0,List.set_append_right _ _ (by omega),e,ay,e2,List.set_cons_zero,List.append_assoc]
 rfl
def Dt.Q9 {w:Aa}{g off c:Nat}{l:List Nat}(h:Dt w g off l c)(hl:12<=l.length)(r s:R6)(hr:r=R6.of l)(hs:s=R6.of (l.drop 6)):∀ j,j<12->w.cell? ⟨g,off+j,none⟩ =
  #[Value.int .i64 r.a0,I Z r.a1,I Z r.a2,I Z r.a3,I Z r.a4,I Z r.a5,I Z s.a0,I Z s.a1,I Z s.a2,I Z s.a3,I Z s.a4,I Z s.a5][j]?:=by
 subst hr hs;have g:=h.at';match l,hl,g with
 | x0::x1::x2::x3::x4::x5::x6::x7::x8::x9::wJ::wK::l,_,g =>
  intro j hj;obtain rfl|rfl|rfl|rfl|rfl|rfl|rfl|rfl|rfl|rfl|rfl|rfl:j=0\/j=1\/j=2\/j=3\/j=4\/j=5\/j=6\/j=7\/j=8\/j=9\/j=10\/j=11:=by omega
  all_goals exact g _ _ rfl
section
variable {w w' : Aa} {o o' : Own} {m : Ck} {M : Mc}
def qgs (h:BN w o m M)(tZ:M.hs.length<=8){g c:Nat}{ms:List Nat}(hv:Dt w g 0 ms c)(hg:(o g).1=m.y.l.id+1)(hn:ms.length=M.roots.length) :
  Ab ARt 89 #[ptr m.mb,Ah (some ⟨g,0,none⟩) ms.length c] w fun e w'=>e=O (Aj #[])/\BN w' o m { M with hs:=vg M.hs ms }/\Stp (fun t=>t=(m.y.l.id+2,2)) o o w w':=by
 obtain⟨ve,jb,hrp⟩:=h.AM;have dX:ms.length=M.hs.length*12:=by rw[hn];exact UR _
 have eu:=h.hs;have HF:=Qa (fun (w':Aa)(hr:Row w' o (m.y.l.id+2,2) 58 15 m.vh M.hs.length (zt (vg M.hs ms)))(hs:Stp (fun t=>t=(m.y.l.id+2,2)) o o w w') =>
  show BN w' o m { M with hs:=vg M.hs ms } from
   ⟨⟨ve,jb.Ao hs (by rw[h.om];simp),hrp.Ao hs (by simp)⟩,h.st.Ao hs (by simp),h.ps.Ao hs (by simp) (by simp),by show Row w' o _ _ 15 m.vh (vg M.hs ms).length _;rw[uo];exact hr,(hs.tags _ jb.lt).trans h.om⟩)
 have HJ:=Qa (fun (w':Aa)(hs:Stp (fun t=>t=(m.y.l.id+2,2)) o o w w')=>show Al w' m.mb #[ptr m.y.sb,m.vp,m.vh,.int .i32 0,.int .u32 0,ve] 148 from jb.Ao hs (by rw[h.om];simp))
 have HG:=Qa (show ¬(fun t=>t=(m.y.l.id+2,2)) (o g) from fun e=>by have e:o g=(m.y.l.id+2,2):=e;rw[e]at hg;simp at hg)
 obtain⟨hs,hhe⟩:=Ja0 M.hs;obtain⟨nh,dJ⟩:=Ja0 hs.length;obtain⟨ph,ch,pF⟩:=eu.AS;rw[<-hhe,<-dJ]at pF;rw[pF]at HF HJ jb eu;rw[<-hhe]at HF eu tZ dX ⊢;rw[<-dJ]at HF eu tZ dX;have HV:=Qa hv;have HR:=Qa eu;have HN:=Qa dJ;have gY:=Qa dX;obtain⟨L,hL⟩:=Ja0 ms.length;rw[<-hL]at gY ⊢;have HL:=Qa hL;have cb:=jb.cell;clear h hv hg hn hrp eu dX hhe dJ pF hL jb;go_enter func89,ntmps89;go_wp2_with fail;clear cb;go_loopw [1,12] (fun vv ix wr=>∃ (k off C:Nat),ix=I Z k/\vv=Ah (some ⟨g,off,none⟩) ((nh-k)*12) C/\k<=nh/\Dt wr g off (ms.drop (k*12)) C/\Row wr o (m.y.l.id+2,2) 58 15 (.slice ph nh ch) nh (zt (FR hs ms k))/\Stp (fun t=>t=(m.y.l.id+2,2)) o o w wr) (fun _ ix _=>nh-(intOf ix).toNat)
 case atStart=>exact⟨0,0,c,rfl,by rw[gY.out];rfl,aa _,HV.out,HR.out,Stp.refl _ _ _⟩
 case round =>
  obtain⟨k,off,C,rfl,rfl,hkn,hP,hR,hS⟩:=hrel;by_cases hlt:k<nh
  ·have gT:(k:Int)<(nh:Int):=by omega
   obtain⟨z,hz⟩:∃ z,hs[k]?=some z:=⟨_,Qb (by rw[<-HN.out];exact hlt)⟩
   obtain⟨gq,rfl,hcap,q⟩:=hR.KX (qh3 ms hz);obtain⟨hw1,hw2⟩:=jd k (by omega)
   have hdl:(ms.drop (k*12)).length=(nh-k)*12:=by
    rw[ag];have h1:=gY.out;have h2:=HL.out;omega
   obtain⟨Q,hQ⟩:=Ja0 ((nh-k)*12);have hQ2:(nh-(k+1))*12=Q-12:=by omega
   rw[<-hQ]at hdl ⊢;have zK:12<=Q:=by omega
   have hQC:Q<=C:=by rw[<-hdl];exact hP.cap
   have i1:(12:Int)<=(Q:Int):=by omega
   have i2:(12:Int)<=(C:Int):=by omega
   have i3:(Q:Int)<=(C:Int):=by omega
   obtain⟨dU,hoff,hP2⟩:=hP.drop (n:=12) (by rw[hdl];exact zK)
   rw[aj,show k*12+12=(k+1)*12 from by omega]at hP2
   obtain⟨r,hr⟩:=Ja0 (R6.of (ms.drop (k*12)));obtain⟨s,hsr⟩:=Ja0 (R6.of ((ms.drop (k*12)).drop 6));have hpl:z.place (ms.drop (k*12))=⟨z.b,z.n,r,s,z.l⟩:=by rw[hr,hsr];rfl
   have HTW:=Qa (hP.Q9 (by rw[hdl];exact zK) r s hr hsr)
   have htk:=qod ms hz;rw[hpl]at htk;have qA:=Qa htk;have jb:=HJ.out wr hS;have cb:=jb.cell;have hks:k<(FR hs ms k).length:=by rw[Jw,<-HN.out];exact hlt
   clear hr hsr hpl htk hQ;obtain⟨b0,b1,b2,b3,b4,b5⟩:=r;obtain⟨d0,d1,d2,d3,d4,d5⟩:=s;obtain⟨zb,zn,⟨a0,a1,a2,a3,a4,a5⟩,⟨s0,s1,s2,s3,s4,s5⟩,zl⟩:=z;obtain⟨q0,q1,q2,q3,q4,q5,q6,q7,q8,q9,nN,nO,qJ,qL,qM⟩:=q;simp only at q0 q1 q2 q3 q4 q5 q6 q7 q8 q9 nN nO qJ qL qM;have wS:=Qa (fun W=>show Ab ARt 150 #[Ak #[I Z zb,I Z zn,I Z a0,I Z a1,I Z a2,I Z a3,I Z a4,I Z a5,I Z s0,I Z s1,I Z s2,I Z s3,I Z s4,I Z s5,.bool zl]] W fun e w'=>∃ b,e=O (Ah (some ⟨b,0,none⟩) 12 12)/\Ae W.1.size W w' from
    (YY ⟨zb,zn,⟨a0,a1,a2,a3,a4,a5⟩,⟨s0,s1,s2,s3,s4,s5⟩,zl⟩ W).mono fun e w' ⟨h1,_,h3⟩=>⟨_,h1,h3⟩)
   have HRe:=Qa (fun (W:Aa)(hb:Ae wr.1.size wr W)=>show Ab ARt 151 #[Ak #[I Z zb,I Z zn,I Z a0,I Z a1,I Z a2,I Z a3,I Z a4,I Z a5,I Z s0,I Z s1,I Z s2,I Z s3,I Z s4,I Z s5,.bool zl],Ah (some ⟨g,off,none⟩) 12 C] W fun e w'=>e=O (Aj #[Ak #[I Z zb,I Z zn,I Z b0,I Z b1,I Z b2,I Z b3,I Z b4,I Z b5,I Z d0,I Z d1,I Z d2,I Z d3,I Z d4,I Z d5,.bool zl],.bool true])/\Ae W.1.size W w' from
    qiq ⟨zb,zn,⟨a0,a1,a2,a3,a4,a5⟩,⟨s0,s1,s2,s3,s4,s5⟩,zl⟩ g off C ⟨b0,b1,b2,b3,b4,b5⟩ ⟨d0,d1,d2,d3,d4,d5⟩ W (by omega) (Qn hP.lt hb.size) (fun j hj=>(hb.cell (p:=⟨g,off+j,none⟩) hP.lt).trans (HTW.out j hj)))
   have HX:=Qa (fun (W:Aa)(hb:Ae wr.1.size wr W)=>show Row (Km W gq (k*15) ⟨zb,zn,⟨b0,b1,b2,b3,b4,b5⟩,⟨d0,d1,d2,d3,d4,d5⟩,zl⟩) o (m.y.l.id+2,2) 58 15 (Ah (some ⟨gq,0,none⟩) nh ch) nh (zt (FR hs ms (k+1)))/\Dt (Km W gq (k*15) ⟨zb,zn,⟨b0,b1,b2,b3,b4,b5⟩,⟨d0,d1,d2,d3,d4,d5⟩,zl⟩) g dU (ms.drop ((k+1)*12)) (C-12)/\Stp (fun t=>t=(m.y.l.id+2,2)) o o w (Km W gq (k*15) ⟨zb,zn,⟨b0,b1,b2,b3,b4,b5⟩,⟨d0,d1,d2,d3,d4,d5⟩,zl⟩) from by
    have rb:=hR.below hb;have k1:Stp (fun t=>t=(m.y.l.id+2,2)) o o W (Km W gq (k*15) ⟨zb,zn,⟨b0,b1,b2,b3,b4,b5⟩,⟨d0,d1,d2,d3,d4,d5⟩,zl⟩):=UI (Stp.refl _ o W) rb.CZ _;exact⟨by rw[qA.out];exact qif rb hks _,(hP2.below hb).Ao k1 HG.out,(hS.trans (Stp.of_below hb)).trans k1⟩)
   have HRr:=Qa hR;have qW:=Qa hQ2;have HZ:=Qa hz;clear hz hdl zK hQC hP hP2 hS hks hR hQ2;go_wp2_with (first
    | (go_at_call 150;refine (wS.out _).mono ?_;rintro e w3 ⟨b3',rfl,hb3⟩)
    | fail)
   have jx:=(Al.new wr #[I Z zb,I Z zn,I Z a0,I Z a1,I Z a2,I Z a3,I Z a4,I Z a5,I Z s0,I Z s1,I Z s2,I Z s3,I Z s4,I Z s5,.bool zl] 58).below hb3 (Al.new wr #[I Z zb,I Z zn,I Z a0,I Z a1,I Z a2,I Z a3,I Z a4,I Z a5,I Z s0,I Z s1,I Z s2,I Z s3,I Z s4,I Z s5,.bool zl] 58).lt;have ig:=qe (qc (qd wr) _) hb3;have j3:=jb.below ig jb.lt;clear cb q0 q1 q2 q3 q4 q5 q6 q7 q8 q9 nN nO qJ qL qM hb3;have c3:=j3.cell;have cx:=jx.cell;go_region_with (first
    | (go_at_call 151;refine (HRe.out _ (by first|exact qf ig|exact ig)).mono ?_;rintro e w8 ⟨rfl,gB⟩;have zZ:Ae wr.1.size wr w8:=(by first|exact qe (qf ig) gB|exact qe ig gB);have j8:=jb.below zZ jb.lt;have c8:=j8.cell;have r8:=HRr.out.below zZ;have z8:=r8.free;have l8:=r8.blt;obtain⟨_,e8,_,q8⟩:=r8.KX (qh3 ms HZ.out);injection e8 with e8;injection e8 with e8;subst e8;obtain⟨q0,q1,q2,q3,q4,q5,q6,q7,q8,q9,nN,nO,qJ,qL,qM⟩:=q8;simp only at q0 q1 q2 q3 q4 q5 q6 q7 q8 q9 nN nO qJ qL qM)
    | fail)
   all_goals
    go_wp2_with fail;have hx:=HX.out w8 zZ;go_roundw
    case rel=>exact⟨k+1,dU,C-12,by simp,by simp[qW.out],hlt,hx.2.1,hx.1,hx.2.2⟩
    case measure=>clear hw1 hw2;simp[intOf];omega
  ·obtain rfl:k=nh:=by omega
   rw[HN.out,Jv,<-HN.out]at hR;go_wp2_with fail;go_end0;exact⟨rfl,HF.out _ hR hS,hS⟩
end
end
section
open Go.RowKit Hp
open Go.MuLone
attribute [local go_sem ↓] Go.wp_at_zero Go.wp_at_succ
def Kv {b:Nat} {c0 c1 c2 v:Ac} (x:Bg) {es:List Bg} {w:Aa} {o:Own} {tg:Tag} (jb:Al w b #[c0,c1,c2,.int .i32 0,.int .u32 0,v] 148)
  (hr:Row w o tg 69 6 v es.length (qq es)) (hn:es.length<2000) (nb:o b≠tg) :
  Ab ARt 91 #[Ag (some ⟨b,3,none⟩),x.val] w fun e w'=>e=O (Aj #[])/\∃ v' o',Al w' b #[c0,c1,c2,.int .i32 0,.int .u32 0,v'] 148 /\
   Row w' o' tg 69 6 v' (es++[x]).length (qq (es++[x]))/\Stp (fun u=>u=tg\/u=o b) o o' w w':=by
 obtain⟨iU,hi,hsI,bZ,bT⟩:=gw;have hu64:=underlying62;have hlen:(es++[x]).length=es.length+1:=by simp
 rw[hlen,qg9];obtain⟨xt,xb,xn,⟨xk,xe,xv⟩⟩:=x;obtain⟨pa,cp,rfl⟩:=hr.AS;obtain⟨cs,hcs⟩:=Ja0 (qq es);obtain⟨n,hnn⟩:=Ja0 es.length;rw[<-hcs,<-hnn]at hr;rw[<-hnn]at jb;rw[<-hcs,<-hnn];rw[<-hnn]at hn;show Ab _ _ #[Ag (some ⟨b,3,none⟩),Ak #[I Z xt,I Z xb,I Z xn,I Z xk,I Z xe,I Z xv]] _ _;obtain⟨z,hz⟩:=Ja0 w.1.size;obtain⟨W,hW⟩:=Ja0 (w.alloc (.cells #[I Z xt,I Z xb,I Z xn,I Z xk,I Z xe,I Z xv] 69));have hb:Ae w.1.size w W:=by rw[hW];exact qc (qd w) _
 have jW:=jb.below hb jb.lt;have jX:Al W z #[I Z xt,I Z xb,I Z xn,I Z xk,I Z xe,I Z xv] 69:=by rw[hW,hz];exact Al.new w _ _
 have q0:W.cell? ⟨b,3,none⟩=some (.int .i32 0):=jW.cell 3;have fW:W.frozen? ⟨b,3,none⟩=false:=jW.free 3;have hbz:b<z:=by rw[hz];exact jb.lt
 have hzW:z<W.1.size:=jX.lt
 have H1:=Qa (fun (W1:Aa) (h:W1=W.setCell ⟨b,3,none⟩ (.int .i32 1)) =>
  show Al W1 b #[c0,c1,c2,.int .i32 1,.int .u32 0,.slice pa n cp] 148/\Al W1 z #[I Z xt,I Z xb,I Z xn,I Z xk,I Z xe,I Z xv] 69/\Row W1 o tg 69 6 (.slice pa n cp) n cs/\Stp (fun u=>u=o b) o o w W1 from by
   subst h;have k:Stp (fun u=>u=o b) o o W (W.setCell ⟨b,3,none⟩ (.int .i32 1)):=(Stp.refl _ o W).setCell (by show o b=o b;rfl) _
   exact⟨jW.set 3 _,jX.Am (by show z≠b;omega) _,(hr.below hb).Ao k (fun e=>nb e.symm),(Stp.of_below hb).trans k⟩)
 have HF:=Qa (fun (W1 w5:Aa) (o5:Own) (p5:Option Addr) (c5:Nat) (j1:Al W1 b #[c0,c1,c2,.int .i32 1,.int .u32 0,.slice pa n cp] 148) (s1:Stp (fun u=>u=o b) o o w W1)
   (hown:Row w5 o5 tg 69 6 (.slice p5 (n+1) c5) (n+1) (cs++[I Z xt,I Z xb,I Z xn,I Z xk,I Z xe,I Z xv]))
   (hst:Stp (fun u=>u=tg) o o5 (W1.drew.alloc (.cells #[I Z xt,I Z xb,I Z xn,I Z xk,I Z xe,I Z xv] 69)) w5) =>
  show Al w5 b #[c0,c1,c2,.int .i32 1,.int .u32 0,.slice pa n cp] 148/\Al (w5.setCell ⟨b,5,none⟩ (.slice p5 (n+1) c5)) b #[c0,c1,c2,.int .i32 1,.int .u32 0,.slice p5 (n+1) c5] 148 /\
   ∃ o',Al ((w5.setCell ⟨b,5,none⟩ (.slice p5 (n+1) c5)).setCell ⟨b,3,none⟩ (.int .i32 0)) b #[c0,c1,c2,.int .i32 0,.int .u32 0,.slice p5 (n+1) c5] 148 /\
    Row ((w5.setCell ⟨b,5,none⟩ (.slice p5 (n+1) c5)).setCell ⟨b,3,none⟩ (.int .i32 0)) o' tg 69 6 (.slice p5 (n+1) c5) (n+1) (cs++[I Z xt,I Z xb,I Z xn,I Z xk,I Z xe,I Z xv]) /\
    Stp (fun u=>u=tg\/u=o b) o o' w ((w5.setCell ⟨b,5,none⟩ (.slice p5 (n+1) c5)).setCell ⟨b,3,none⟩ (.int .i32 0)) from by
   have kb:Ae W1.1.size W1 (W1.drew.alloc (.cells #[I Z xt,I Z xb,I Z xn,I Z xk,I Z xe,I Z xv] 69)):=qc (qf (qd W1)) _;have j2:=(j1.below kb j1.lt).Ao hst nb;have e5:o5 b=o b:=hst.tags _ (j1.below kb j1.lt).lt;have j3:=j2.set 5 (.slice p5 (n+1) c5);have k3:Stp (fun u=>u=o b) o5 o5 w5 ((w5.setCell ⟨b,5,none⟩ (.slice p5 (n+1) c5)).setCell ⟨b,3,none⟩ (.int .i32 0)):=((Stp.refl _ o5 w5).setCell (by show o5 b=o b;exact e5) _).setCell (by show o5 b=o b;exact e5) _
   exact⟨j2,j3,o5,j3.set 3 _,hown.Ao k3 (fun e=>nb e.symm),(s1.mono fun _ h=>.inr h).trans (((Stp.of_below kb).trans hst).mono (fun _ h=>.inl h) |>.trans (k3.mono fun _ h=>.inr h))⟩)
 have xH:(n:Int)<2000:=by omega
 have dX:n+1<=maxLen:=by simp only[maxLen];omega
 have hmb:(n+1)*48<=140737488355328:=by omega
 have h1c:∀ u ∈ [Value.int .i64 xt,I Z xb,I Z xn,I Z xk,I Z xe,I Z xv],u.oneCell'=true:=by intro u hu;simp at hu;rcases hu with rfl|rfl|rfl|rfl|rfl|rfl<;>rfl
 clear hr hn hcs hnn hb jW jX hbz hzW jb;go_enter_defers func91,ntmps91
 go_upto_region 4 with (first
  | (go_at_call 148;rw[<-hW];refine (lock_free Tryz.muLib ⟨b,3,none⟩ _ q0 fW).mono ?_;rintro e W1 ⟨rfl,hW1⟩;obtain⟨j1,jx1,r1,s1⟩:=H1.out W1 hW1;clear hW1 hW q0 fW H1;have d1:=j1.cell;have f1:=j1.free;have l1:=j1.lt;have d2:=jx1.cell;rw[hz]at d2)
  | fail)
 have S1:=Qa s1;have J1:=Qa j1;have jn:=Al.new W1.drew #[I Z xt,I Z xb,I Z xn,I Z xk,I Z xe,I Z xv] 69;have rn:=r1.below (qc (qf (qd W1)) (.cells #[I Z xt,I Z xb,I Z xn,I Z xk,I Z xe,I Z xv] 69));clear s1 j1 jx1 r1;refine wp_region_noPanic ?_;go_region_law ((refine qv _ (by rfl) _ _ _ (by rfl) 69 iU _ 6 48 hu64 hi bT hsI bZ (by rfl) (by decide) o tg _ _ _ (by rfl) rn ⟨W1.1.size,0,none⟩ 1 1 [I Z xt,I Z xb,I Z xn,I Z xk,I Z xe,I Z xv] (by rfl) (by rfl) (xw jn) h1c dX hmb ?_;intro v' w5 hown hst;obtain⟨p5,c5,rfl⟩:=hown.AS;obtain⟨jY,jZ,hfin⟩:=HF.out _ _ _ _ _ J1.out S1.out hown hst;have cX:=jY.cell;have zX:=jY.free;have sX:=jY.lt))
 all_goals
  refine NoPanic.normal ?_;try go_wp2_with fail
  refine leaves_cons (f:=149) (args:=#[Ag (some ⟨b,3,none⟩)]) (by simp) (by simp[go_sem]) ?_
  refine (unlock_deferred Tryz.muLib ⟨b,3,none⟩ .returning _ (jZ.cell 3) (jZ.free 3)).mono ?_;rintro e u' w'' ⟨rfl,rfl,rfl⟩;exact⟨Aj #[],by simp[results,results91,go_sem],rfl,_,hfin⟩
def pm (m:Ck)(t:Tag):Prop:=t=(m.y.l.id+2,3)\/t=(m.y.l.id+2,0)
def XZ {w:Aa}{o:Own}{m:Ck}{M:Mc}(h:BN w o m M)(x:Bg) :
  Ab ARt 91 #[Ag (some ⟨m.mb,3,none⟩),x.val] w fun e w'=>e=O (Aj #[])/\∃ o',BN w' o' m { M with past:=wb M.past x }/\Stp (pm m) o o' w w':=by
 obtain⟨ve,jb,hr⟩:=h.AM;have fin:∀ {w':Aa}{o':Own}{l:List Bg},(∃ v',Al w' m.mb #[ptr m.y.sb,m.vp,m.vh,.int .i32 0,.int .u32 0,v'] 148/\Row w' o' (m.y.l.id+2,3) 69 6 v' l.length (qq l))->Stp (pm m) o o' w w'->BN w' o' m { M with past:=l }:=by
  intro w' o' l hb hs;have hn:∀ j,¬pm m (m.y.l.id,j):=fun j e=>by rcases e with e|e<;>simp at e
  have hn2:∀ j,j≠0->j≠3->¬pm m (m.y.l.id+2,j):=fun j h0 h3 e=>by rcases e with e|e<;>simp at e<;>omega
  exact⟨hb,h.st.Ao hs hn,h.ps.Ao hs (hn2 1 (by omega) (by omega)) (hn2 4 (by omega) (by omega)),h.hs.Ao hs (hn2 2 (by omega) (by omega)),(hs.tags _ h.lt).trans h.om⟩
 unfold wb;by_cases hl:M.past.length<2000
 ·rw[if_pos hl]
  refine (Kv x jb hr hl (by rw[h.om];simp)).mono ?_
  rintro e w' ⟨rfl,v',o',h1,h2,h3⟩;have h4:Stp (pm m) o o' w w':=h3.mono (by rintro t (rfl|rfl);exact .inl rfl;exact .inr h.om)
  exact⟨rfl,o',fin ⟨v',h1,h2⟩ h4,h4⟩
 ·rw[if_neg hl]
  obtain⟨pa,cp,rfl⟩:=hr.AS;refine (ql5 m.mb M.past.length cp pa x w (jb.cell 3) (jb.cell 5) (jb.free 3) jb.lt (by omega)).mono ?_
  rintro e w' ⟨rfl,X,rfl⟩;have e1:o m.mb=(m.y.l.id+2,0):=h.om;have k1:Stp (pm m) o o w (w.setCell ⟨m.mb,3,none⟩ (.int .i32 1)):=(Stp.refl _ o w).setCell (by show pm m (o m.mb);rw[e1];exact .inr rfl) _
  have k2:Stp (pm m) o o w ((w.setCell ⟨m.mb,3,none⟩ (.int .i32 1)).alloc X):=k1.trans (Stp.of_below (qc (qd _) X));have k3:Stp (pm m) o o w (((w.setCell ⟨m.mb,3,none⟩ (.int .i32 1)).alloc X).setCell ⟨m.mb,3,none⟩ (.int .i32 0)):=k2.setCell (by show pm m (o m.mb);rw[e1];exact .inr rfl) _
  have j3:=((jb.set 3 (.int .i32 1)).alloc X).set 3 (.int .i32 0);have hr3:=hr.Ao ((Stp.refl (fun t=>t=(m.y.l.id+2,0)) o w).setCell (a:=⟨m.mb,3,none⟩) (by show o m.mb=_;exact e1) (.int .i32 1)) (by simp)
  have hr4:=hr3.below (qc (qd _) X);have dQ:=hr4.Ao ((Stp.refl (fun t=>t=(m.y.l.id+2,0)) o _).setCell (a:=⟨m.mb,3,none⟩) (by show o m.mb=_;exact e1) (.int .i32 0)) (by simp)
  exact⟨rfl,o,fin ⟨_,j3,dQ⟩ k3,k3⟩
end
section
open Go.RowKit Hp
attribute [local go_sem ↓] Go.wp_at_zero Go.wp_at_succ
def QK {S:An}(hk:S.ok):S.JN.length<=1099511627776:=by
 unfold An.JN uu;split
 ·simp
 ·split
  ·simp
  ·split
   ·simp
   ·simp only[ai];exact VC hk
section
variable {w w' : Aa} {o o' : Own} {m : Ck} {M : Mc}
def yi {l:List Nat}{k x:Nat}(h:l[k]?=some x):l.take (k+1)=l.take k++[x]:=by
 rw[af,h];rfl
def qg1 (h:BN w o m M)(hk:M.ok) :
  Ab ARt 31 #[ptr m.mb] w fun e w'=>e=O (.bool M.collect.2)/\C9 m M.collect.1 o w w':=by
 have tZ:M.hs.length<=8:=by rw[hk.len];exact hk.n8
 have hn1:1<=M.hs.length:=by rw[hk.len,<-hk.Au];exact hk.inv.t1
 have hrl:M.roots.length=M.hs.length*12:=UR _;have eG:=Qa (qfz h);obtain⟨ve,jb,hrp⟩:=h.AM;have HC:=Qa (fun (W:Aa)(oo:Own)(N:Mc)(hM:BN W oo m N)=>show W.cell? ⟨m.mb,0,none⟩=some (ptr m.y.sb) from by obtain⟨_,j,_⟩:=hM.AM;exact j.cell 0)
 have yP:=Qa (fun (W:Aa)(hM:BN W o m M)=>qj3 hM hk)
 have Akj:=Qa (fun (W w3:Aa)(v3:Ac)(hM:BN W o m M)(hb:Ae W.1.size W w3)(hr:Row w3 (fo W.1.size) (1,0) 3 1 v3 M.roots.length (M.roots.map nv)) =>
  show Ab ARt 18 #[ptr m.y.sb,v3] w3 fun e w4=>∃ v' o4,e=O (Aj #[v',.bool (M.S.AF M.roots).2.2])/\BN w4 o4 m { M with S:=(M.S.AF M.roots).1 }/\Row w4 o4 (m.y.l.id+1,0) 3 1 v' (M.S.AF M.roots).2.1.length ((M.S.AF M.roots).2.1.map nv)/\Stp (qo m.y) o o4 W w4 from by
   have s3:Stp (fun _=>False) o (ext o W.1.size (m.y.l.id+1,0)) W w3:=(Stp.of_below hb).ext _ _ (Qk _);have hM3:BN w3 (ext o W.1.size (m.y.l.id+1,0)) m M:=hM.Ao s3 (fun _ h=>h) fun _ h=>h;refine (qhc hM3.st hk.inv (hr.out o (m.y.l.id+1,0)) (by omega) (by omega)).mono ?_
   rintro e w4 ⟨v',o4,rfl,hS,hR,hs⟩;exact⟨v',o4,rfl,hM3.store hS hs,hR,(s3.mono fun _ h=>h.elim).trans hs⟩)
 have Ama:=Qa (fun (w4:Aa)(o4:Own)(v':Ac)(hM:BN w4 o4 m { M with S:=(M.S.AF M.roots).1 })(hr:Row w4 o4 (m.y.l.id+1,0) 3 1 v' (M.S.AF M.roots).2.1.length ((M.S.AF M.roots).2.1.map nv))(ht:(M.S.AF M.roots).2.2=true) =>
  show Ab ARt 89 #[ptr m.mb,v'] w4 fun e w5=>e=O (Aj #[])/\BN w5 o4 m M.Db/\Stp (fun t=>t=(m.y.l.id+2,2)) o4 o4 w4 w5 from by
   have hl:(M.S.AF M.roots).2.1.length=M.roots.length:=by
    unfold An.AF at ht ⊢;split
    ·simp
    ·rename_i h;rw[if_neg h]at ht;cases ht
   rcases hr.shape with ⟨_,h0⟩|⟨g,cap,rfl,hc,_⟩
   ·exfalso;omega
   ·exact qgs hM tZ hr.Wq (by rw[hr.CZ]) hl)
 have dV:=Qa (fun (w4:Aa)(o4:Own)(hM:BN w4 o4 m { M with S:=(M.S.AF M.roots).1 })(ht:(M.S.AF M.roots).2.2=false) =>
  show Ab ARt 19 #[ptr m.y.sb] w4 fun e w5=>∃ o5,e=O (.bool M.S.B9.2)/\BN w5 o5 m M.Fx/\Stp (qo m.y) o4 o5 w4 w5 from by
   have e:(M.S.AF M.roots).1=M.S:=by
    unfold An.AF at ht ⊢;split
    ·rename_i h;rw[if_pos h]at ht;cases ht
    ·rfl
   rw[e]at hM;refine (qpk hM.st hk.inv (by rw[hk.lo];simp)).mono ?_
   rintro e w5 ⟨rfl,o5,hS,hs⟩;exact⟨o5,rfl,hM.store hS hs,hs⟩)
 have mG:=Qa (fun (W:Aa)(oo:Own)(N:Mc)(hM:BN W oo m N)(k n:Int)=>show Ab ARt 91 #[Ag (some ⟨m.mb,3,none⟩),Ak #[I Z (-1),I Z 0,I Z 0,I Z k,I Z 0,I Z n]] W fun e w'=>e=O (Aj #[])/\∃ o',BN w' o' m { N with past:=wb N.past ⟨-1,0,0,⟨k,0,n⟩⟩ }/\Stp (pm m) oo o' W w' from XZ hM ⟨-1,0,0,⟨k,0,n⟩⟩)
 have wN:=Qa (fun (W:Aa)(oo:Own)(N:Mc)(hM:BN W oo m N)=>show Ab ARt 90 #[ptr m.y.sb] W fun e w'=>∃ v,e=O v/\Row w' oo (m.y.l.id,15) 3 1 v N.S.came.length (N.S.came.map nv)/\BN w' oo m { N with S:={ N.S with came:=[] } }/\Stp (qo m.y) oo oo W w' from by
  refine (qo5 hM.st).mono ?_;rintro e w' ⟨v,rfl,hr,hS,hs⟩;have hs':Stp (qo m.y) oo oo W w':=hs.mono (by rintro _ rfl;rfl)
  exact⟨v,rfl,hr,hM.store hS hs',hs'⟩)
 have wP:=Qa (fun (W:Aa)(oo:Own)(N:Mc)(hM:BN W oo m N)=>show Ab ARt 92 #[ptr m.y.sb] W fun e w'=>∃ v,e=O v/\Row w' oo (m.y.l.id,14) 3 1 v N.S.lost.length (N.S.lost.map nv)/\BN w' oo m { N with S:={ N.S with lost:=[] } }/\Stp (qo m.y) oo oo W w' from by
  refine (qpa hM.st).mono ?_;rintro e w' ⟨v,rfl,hr,hS,hs⟩;have hs':Stp (qo m.y) oo oo W w':=hs.mono (by rintro _ rfl;rfl)
  exact⟨v,rfl,hr,hM.store hS hs',hs'⟩)
 have cb:=jb.cell;obtain⟨RC,hRC⟩:=Ja0 M.collect;rw[<-hRC];have tJ:=Qa hRC;have HM:=Qa h;have HK:=Qa hk;clear hRC h hk hrp tZ hn1 hrl jb;by_cases hf:2000<=M.past.length
 ·have e1:RC=(M,false):=by rw[tJ.out];unfold Mc.collect;rw[if_pos hf]
  rw[decide_eq_true hf]at eG;have HE:=Qa e1;clear e1 hf;go_enter func31,ntmps31;go_wp2_with (first|(go_at_call 87;refine eG.out.mono ?_;rintro e w2 ⟨rfl,hM2,hk2,hz2,hs2⟩)|fail)
  go_ret;rw[HE.out];exact⟨rfl,o,hM2,hs2.mono (by rintro _ rfl;exact .inr rfl)⟩
 ·rw[decide_eq_false hf]at eG
  have hf2:M.past.length<2000:=by omega
  have wO:=Qa hf2;clear hf hf2;go_enter func31,ntmps31;go_upto_region 4 with (first|(go_at_call 87;refine eG.out.mono ?_;rintro e w2 ⟨rfl,hM2,hk2,hz2,hs2⟩)|fail)
  have c2:w2.cell? ⟨m.mb,0,none⟩=some (ptr m.y.sb):=HC.out w2 o M hM2;have Ads:=Qa (yP.out w2.drew (hM2.below (qf (qd w2))));have eH:=Qa (hM2.below (qf (qd w2)));have HS2:=Qa (show Stp (yo m) o o w w2 from hs2.mono (by rintro _ rfl;exact .inr rfl))
  have l2:m.mb<w2.1.size:=hM2.lt;clear hM2 hk2 hz2 hs2 cb;go_region_held3 (fun w'=>w'.cell? ⟨m.mb,0,none⟩=some (ptr m.y.sb)) (first|with_reducible assumption|go_keep) (first
   | (go_at_call 88;refine Ads.out.mono ?_;rintro e w3 ⟨v3,rfl,hr3,hb3⟩;have cb3:w3.cell? ⟨m.mb,0,none⟩=some (ptr m.y.sb):=(hb3.cell (p:=⟨m.mb,0,none⟩) l2).trans c2)
   | (go_at_call 18;refine (Akj.out w2.drew w3 v3 eH.out hb3 hr3).mono ?_;rintro e w4 ⟨v4,o4,rfl,tX,hr4,hs4⟩;have cb4:w4.cell? ⟨m.mb,0,none⟩=some (ptr m.y.sb):=HC.out w4 o4 _ tX)
   | fail)
  have HM4:=Qa tX;have HR4:=Qa hr4;have yQ:=Qa (show Stp (yo m) o o4 w w4 from (HS2.out.trans (Stp.of_below (qf (qd w2)))).trans (hs4.mono fun _ h=>m8 h));clear tX hr4 hs4 cb3 c2 l2 Ads eH HS2
  cases hbt:(M.S.AF M.roots).2.2 with
  | true =>
   have qX:=Qa (Ama.out w4 o4 v4 HM4.out HR4.out hbt);obtain⟨N,hN⟩:=Ja0 M.Db;have HRN:=Qa (show RC=(N.told,false) from by rw[tJ.out,hN];exact uw wO.out hbt)
   have hNb:N.S.came.length<=1099511627776/\N.S.lost.length<=1099511627776:=by
    have hok:=(Mc.Fg HK.out hbt).1;rw[<-hN]at hok;refine⟨Qo hok.cm hok.Lr,?_⟩;have e:N.S.lost=M.S.lost:=by rw[hN,(TP hbt).2.1];rfl
    rw[e,HK.out.lo];simp
   rw[<-hN]at qX;clear hN;go_upto_region 8 with (first|(go_at_call 89;refine qX.out.mono ?_;rintro e w5 ⟨rfl,wW,hs5⟩)|fail)
   obtain⟨o5,ho5⟩:=Ja0 o4;have sw5:Stp (yo m) o o4 w w5:=yQ.out.trans (hs5.mono (by rintro _ rfl;exact .inr rfl))
   rw[<-ho5]at wW sw5;clear hs5 ho5 cb4 hbt qX;obtain⟨n,hn⟩:=Ja0 N.S.came.length;obtain⟨n2,hn2⟩:=Ja0 N.S.lost.length;have gZ:=Qa hn;have kW:=Qa hn2;have qQ:=Qa (show n<=1099511627776/\n2<=1099511627776 from by rw[hn,hn2];exact hNb)
   have wM:=Qa (wN.out w5 o5 N wW);have cb5:w5.cell? ⟨m.mb,0,none⟩=some (ptr m.y.sb):=HC.out w5 o5 N wW;have iG:=Qa sw5;clear hn hn2 hNb wW sw5;go_wp2_with (first|(go_at_call 90;refine wM.out.mono ?_;rintro e w6 ⟨v6,rfl,eY,wX,hs6⟩;rw[<-gZ.out]at eY;obtain⟨pv,cv,rfl⟩:=eY.AS)|fail)
   have HI6:=Qa (Ad wX (Ad eY (iG.out.trans (hs6.mono fun _ h=>m8 h))));clear wX eY hs6 cb5 wM;go_loopw [39] (fun ix wr=>∃ (k:Nat)(oo:Own),ix=I Z k/\k<=n/\BN wr oo m (⟨{ N.S with came:=[] },N.ps,N.hs,ji N.past 5 (N.S.came.take k)⟩:Mc)/\Row wr oo (m.y.l.id,15) 3 1 (.slice pv n cv) n (N.S.came.map nv)/\Stp (yo m) o oo w wr) (fun ix _=>n-(intOf ix).toNat)
   case atStart=>exact⟨0,o5,rfl,aa _,HI6.out⟩
   case round =>
    clear HI6;obtain⟨k,oo,rfl,hkn,hM,hr,hs⟩:=hrel;by_cases hlt:k<n
    ·have gT:(k:Int)<(n:Int):=by omega
     obtain⟨hw1,hw2⟩:=mf k n hlt qQ.out.1;obtain⟨x,hx⟩:∃ x,N.S.came[k]?=some x:=⟨_,Qb (by rw[<-gZ.out];exact hlt)⟩
     obtain⟨g,e,hcell,hcap⟩:∃ g,pv=some ⟨g,0,none⟩/\wr.cell? ⟨g,k,none⟩=some (I Z x)/\n<=cv:=by
      rcases hr.form with ⟨_,h0⟩|⟨g,cap,e,hcap,_⟩
      ·omega
      ·injection e with e1 _ e3
       subst e1 e3;exact⟨g,rfl,hr.cells k _ (by rw[Qj,hx];rfl),hcap⟩
     subst e;have hcI:(n:Int)<=(cv:Int):=by omega
     have qV:=Qa (mG.out wr oo _ hM 5 x);have iH:=Qa (show ji N.past 5 (N.S.came.take (k+1))=wb (ji N.past 5 (N.S.came.take k)) ⟨-1,0,0,⟨5,0,x⟩⟩ from by rw[yi hx];exact pe _ _ _ _)
     have HR:=Qa (Ad hr hs);have HLt:=Qa hlt;clear hM hr hs hx hcap;go_wp2_with (first|(go_at_call 91;refine qV.out.mono ?_;rintro e w7 ⟨rfl,o7,hM7,hs7⟩)|fail)
     go_roundw
     case rel=>exact⟨k+1,o7,by simp,hlt,by rw[iH.out];exact hM7,HR.out.1.Ao hs7 (by intro e;rcases e with e|e<;>simp at e),HR.out.2.trans (hs7.mono (by rintro _ (rfl|rfl)<;>exact .inr rfl))⟩
     case measure=>clear hw1 hw2;simp[intOf];omega
    ·obtain rfl:k=n:=by omega
     rw[gZ.out,Ai]at hM;have cb7:wr.cell? ⟨m.mb,0,none⟩=some (ptr m.y.sb):=HC.out wr oo _ hM;have HL7:=Qa (wP.out wr oo _ hM);have HS7:=Qa hs;clear hM hr hs hlt hkn;go_wp2_with (first|(go_at_call 92;refine HL7.out.mono ?_;rintro e w8 ⟨v8,rfl,mY,hM8,hs8⟩;rw[show (⟨{ N.S with came:=[] },N.ps,N.hs,ji N.past 5 N.S.came⟩:Mc).S.lost=N.S.lost from rfl,<-kW.out]at mY;obtain⟨pv2,yY,rfl⟩:=mY.AS)|fail)
     have HI8:=Qa (Ad hM8 (Ad mY (HS7.out.trans (hs8.mono fun _ h=>m8 h))));clear hM8 mY hs8 cb7 HL7;go_loopw [57] (fun ix wr=>∃ (k:Nat)(oo:Own),ix=I Z k/\k<=n2/\BN wr oo m (⟨{ N.S with came:=[],lost:=[] },N.ps,N.hs,ji (ji N.past 5 N.S.came) 4 (N.S.lost.take k)⟩:Mc)/\Row wr oo (m.y.l.id,14) 3 1 (.slice pv2 n2 yY) n2 (N.S.lost.map nv)/\Stp (yo m) o oo w wr) (fun ix _=>n2-(intOf ix).toNat)
     case atStart=>exact⟨0,oo,rfl,aa _,HI8.out⟩
     case round =>
      clear HI8;obtain⟨q,o9,rfl,hqn,hM,hr,hs⟩:=hrel;by_cases hlt:q<n2
      ·have gT:(q:Int)<(n2:Int):=by omega
       obtain⟨hw1,hw2⟩:=mf q n2 hlt qQ.out.2;obtain⟨x,hx⟩:∃ x,N.S.lost[q]?=some x:=⟨_,Qb (by rw[<-kW.out];exact hlt)⟩
       obtain⟨g,e,hcell,hcap⟩:∃ g,pv2=some ⟨g,0,none⟩/\wr.cell? ⟨g,q,none⟩=some (I Z x)/\n2<=yY:=by
        rcases hr.form with ⟨_,h0⟩|⟨g,cap,e,hcap,_⟩
        ·omega
        ·injection e with e1 _ e3
         subst e1 e3;exact⟨g,rfl,hr.cells q _ (by rw[Qj,hx];rfl),hcap⟩
       subst e;have hcI:(n2:Int)<=(yY:Int):=by omega
       have qV:=Qa (mG.out wr o9 _ hM 4 x);have iH:=Qa (show ji (ji N.past 5 N.S.came) 4 (N.S.lost.take (q+1))=wb (ji (ji N.past 5 N.S.came) 4 (N.S.lost.take q)) ⟨-1,0,0,⟨4,0,x⟩⟩ from by rw[yi hx];exact pe _ _ _ _)
       have HR:=Qa (Ad hr hs);clear hM hr hs hx hcap;go_wp2_with (first|(go_at_call 91;refine qV.out.mono ?_;rintro e w9 ⟨rfl,o10,wY,fP⟩)|fail)
       go_roundw
       case rel=>exact⟨q+1,o10,by simp,hlt,by rw[iH.out];exact wY,HR.out.1.Ao fP (by intro e;rcases e with e|e<;>simp at e),HR.out.2.trans (fP.mono (by rintro _ (rfl|rfl)<;>exact .inr rfl))⟩
       case measure=>clear hw1 hw2;simp[intOf];omega
      ·obtain rfl:q=n2:=by omega
       rw[kW.out,Ai]at hM;have HFin:=Qa (show C9 m N.told o w wr from ⟨o9,hM,hs⟩);clear hM hr hs;go_wp2_with fail;go_ret;rw[HRN.out];exact⟨rfl,HFin.out⟩
  | false =>
   have yT:=Qa (dV.out w4 o4 HM4.out hbt);obtain⟨N,hN⟩:=Ja0 M.Fx;obtain⟨bE,hbE⟩:=Ja0 M.S.B9.2;have HRN:=Qa (show RC=(N.told,bE) from by rw[tJ.out,hN,hbE];exact uv wO.out hbt)
   have hNb:N.S.came.length<=1099511627776/\N.S.lost.length<=1099511627776:=by
    have hok:N.S.ok:=by rw[hN];exact qii HK.out.inv
    refine⟨Qo hok.cm hok.Lr,?_⟩;have e:N.S.lost=M.S.lost++M.S.JN:=by rw[hN];show M.S.B9.1.lost=_;rw[UN]
    rw[e,HK.out.lo,ai];exact QK HK.out.inv
   rw[<-hN,<-hbE]at yT;clear hN hbE;go_upto_region 8 with (first|(go_at_call 19;refine yT.out.mono ?_;rintro e w5 ⟨o5,rfl,wW,hs5⟩)|fail)
   have sw5:Stp (yo m) o o5 w w5:=yQ.out.trans (hs5.mono fun _ h=>m8 h);clear hs5 cb4 hbt yT;obtain⟨n,hn⟩:=Ja0 N.S.came.length;obtain⟨n2,hn2⟩:=Ja0 N.S.lost.length;have gZ:=Qa hn;have kW:=Qa hn2;have qQ:=Qa (show n<=1099511627776/\n2<=1099511627776 from by rw[hn,hn2];exact hNb)
   have wM:=Qa (wN.out w5 o5 N wW);have cb5:w5.cell? ⟨m.mb,0,none⟩=some (ptr m.y.sb):=HC.out w5 o5 N wW;have iG:=Qa sw5;clear hn hn2 hNb wW sw5;go_wp2_with (first|(go_at_call 90;refine wM.out.mono ?_;rintro e w6 ⟨v6,rfl,eY,wX,hs6⟩;rw[<-gZ.out]at eY;obtain⟨pv,cv,rfl⟩:=eY.AS)|fail)
   have HI6:=Qa (Ad wX (Ad eY (iG.out.trans (hs6.mono fun _ h=>m8 h))));clear wX eY hs6 cb5 wM;go_loopw [39] (fun ix wr=>∃ (k:Nat)(oo:Own),ix=I Z k/\k<=n/\BN wr oo m (⟨{ N.S with came:=[] },N.ps,N.hs,ji N.past 5 (N.S.came.take k)⟩:Mc)/\Row wr oo (m.y.l.id,15) 3 1 (.slice pv n cv) n (N.S.came.map nv)/\Stp (yo m) o oo w wr) (fun ix _=>n-(intOf ix).toNat)
   case atStart=>exact⟨0,o5,rfl,aa _,HI6.out⟩
   case round =>
    clear HI6;obtain⟨k,oo,rfl,hkn,hM,hr,hs⟩:=hrel;by_cases hlt:k<n
    ·have gT:(k:Int)<(n:Int):=by omega
     obtain⟨hw1,hw2⟩:=mf k n hlt qQ.out.1;obtain⟨x,hx⟩:∃ x,N.S.came[k]?=some x:=⟨_,Qb (by rw[<-gZ.out];exact hlt)⟩
     obtain⟨g,e,hcell,hcap⟩:∃ g,pv=some ⟨g,0,none⟩/\wr.cell? ⟨g,k,none⟩=some (I Z x)/\n<=cv:=by
      rcases hr.form with ⟨_,h0⟩|⟨g,cap,e,hcap,_⟩
      ·omega
      ·injection e with e1 _ e3
       subst e1 e3;exact⟨g,rfl,hr.cells k _ (by rw[Qj,hx];rfl),hcap⟩
     subst e;have hcI:(n:Int)<=(cv:Int):=by omega
     have qV:=Qa (mG.out wr oo _ hM 5 x);have iH:=Qa (show ji N.past 5 (N.S.came.take (k+1))=wb (ji N.past 5 (N.S.came.take k)) ⟨-1,0,0,⟨5,0,x⟩⟩ from by rw[yi hx];exact pe _ _ _ _)
     have HR:=Qa (Ad hr hs);have HLt:=Qa hlt;clear hM hr hs hx hcap;go_wp2_with (first|(go_at_call 91;refine qV.out.mono ?_;rintro e w7 ⟨rfl,o7,hM7,hs7⟩)|fail)
     go_roundw
     case rel=>exact⟨k+1,o7,by simp,hlt,by rw[iH.out];exact hM7,HR.out.1.Ao hs7 (by intro e;rcases e with e|e<;>simp at e),HR.out.2.trans (hs7.mono (by rintro _ (rfl|rfl)<;>exact .inr rfl))⟩
     case measure=>clear hw1 hw2;simp[intOf];omega
    ·obtain rfl:k=n:=by omega
     rw[gZ.out,Ai]at hM;have cb7:wr.cell? ⟨m.mb,0,none⟩=some (ptr m.y.sb):=HC.out wr oo _ hM;have HL7:=Qa (wP.out wr oo _ hM);have HS7:=Qa hs;clear hM hr hs hlt hkn;go_wp2_with (first|(go_at_call 92;refine HL7.out.mono ?_;rintro e w8 ⟨v8,rfl,mY,hM8,hs8⟩;rw[show (⟨{ N.S with came:=[] },N.ps,N.hs,ji N.past 5 N.S.came⟩:Mc).S.lost=N.S.lost from rfl,<-kW.out]at mY;obtain⟨pv2,yY,rfl⟩:=mY.AS)|fail)
     have HI8:=Qa (Ad hM8 (Ad mY (HS7.out.trans (hs8.mono fun _ h=>m8 h))));clear hM8 mY hs8 cb7 HL7;go_loopw [57] (fun ix wr=>∃ (k:Nat)(oo:Own),ix=I Z k/\k<=n2/\BN wr oo m (⟨{ N.S with came:=[],lost:=[] },N.ps,N.hs,ji (ji N.past 5 N.S.came) 4 (N.S.lost.take k)⟩:Mc)/\Row wr oo (m.y.l.id,14) 3 1 (.slice pv2 n2 yY) n2 (N.S.lost.map nv)/\Stp (yo m) o oo w wr) (fun ix _=>n2-(intOf ix).toNat)
     case atStart=>exact⟨0,oo,rfl,aa _,HI8.out⟩
     case round =>
      clear HI8;obtain⟨q,o9,rfl,hqn,hM,hr,hs⟩:=hrel;by_cases hlt:q<n2
      ·have gT:(q:Int)<(n2:Int):=by omega
       obtain⟨hw1,hw2⟩:=mf q n2 hlt qQ.out.2;obtain⟨x,hx⟩:∃ x,N.S.lost[q]?=some x:=⟨_,Qb (by rw[<-kW.out];exact hlt)⟩
       obtain⟨g,e,hcell,hcap⟩:∃ g,pv2=some ⟨g,0,none⟩/\wr.cell? ⟨g,q,none⟩=some (I Z x)/\n2<=yY:=by
        rcases hr.form with ⟨_,h0⟩|⟨g,cap,e,hcap,_⟩
        ·omega
        ·injection e with e1 _ e3
         subst e1 e3;exact⟨g,rfl,hr.cells q _ (by rw[Qj,hx];rfl),hcap⟩
       subst e;have hcI:(n2:Int)<=(yY:Int):=by omega
       have qV:=Qa (mG.out wr o9 _ hM 4 x);have iH:=Qa (show ji (ji N.past 5 N.S.came) 4 (N.S.lost.take (q+1))=wb (ji (ji N.past 5 N.S.came) 4 (N.S.lost.take q)) ⟨-1,0,0,⟨4,0,x⟩⟩ from by rw[yi hx];exact pe _ _ _ _)
       have HR:=Qa (Ad hr hs);clear hM hr hs hx hcap;go_wp2_with (first|(go_at_call 91;refine qV.out.mono ?_;rintro e w9 ⟨rfl,o10,wY,fP⟩)|fail)
       go_roundw
       case rel=>exact⟨q+1,o10,by simp,hlt,by rw[iH.out];exact wY,HR.out.1.Ao fP (by intro e;rcases e with e|e<;>simp at e),HR.out.2.trans (fP.mono (by rintro _ (rfl|rfl)<;>exact .inr rfl))⟩
       case measure=>clear hw1 hw2;simp[intOf];omega
      ·obtain rfl:q=n2:=by omega
       rw[kW.out,Ai]at hM;have HFin:=Qa (show C9 m N.told o w wr from ⟨o9,hM,hs⟩);clear hM hr hs;go_wp2_with fail;go_ret;rw[HRN.out];exact⟨rfl,HFin.out⟩
