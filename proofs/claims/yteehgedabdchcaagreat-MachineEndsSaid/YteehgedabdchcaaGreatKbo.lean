import Derived.Test.YteehgedabdchcaaGreatKbf
import Derived.Test.YteehgedabdchcaaGreatKbi
set_option linter.all false
set_option maxRecDepth 1000000
set_option maxHeartbeats 16000000
open Go renaming World->Aa,Calls->Ab
open Go.RowKit renaming Below->Ae
open Go.Value renaming int->I,slice->Ah,tuple->Aj,agg->Ak
open Go.IntKind renaming i64->Z
open Go.Ending renaming returned->O
namespace Go.Proofs.YteehgedabdchcaaGreat
open Go.RowKit Hp
attribute [local go_sem ↓] Go.wp_at_zero Go.wp_at_succ
theorem yo:∀ (l:List AD)(ms:List Nat),(kg l ms).length=l.length
 | [],_=>rfl
 | _::l,ms=>congrArg (·+1) (yo l (ms.drop 12))
theorem Uk:∀ (l:List AD)(h:AD)(ms:List Nat),kg (l++[h]) ms=kg l ms++[h.place (ms.drop (l.length*12))]
 | [],h,ms=>rfl
 | z::l,h,ms=>by
  show z.place ms::kg (l++[h]) (ms.drop 12)=z.place ms::(kg l (ms.drop 12)++[h.place (ms.drop ((l.length+1)*12))]);rw[Uk l h (ms.drop 12),List.drop_drop,show 12+l.length*12=(l.length+1)*12 from by omega]
def FQ (hs:List AD)(ms:List Nat)(k:Nat):List AD:=kg (hs.take k) ms++hs.drop k
theorem F8 (hs:List AD)(ms:List Nat)(k:Nat):(FQ hs ms k).length=hs.length:=by
 unfold FQ;rw[Qd,yo,Qp,List.length_drop];omega
theorem JO (hs:List AD)(ms:List Nat):FQ hs ms hs.length=kg hs ms:=by
 unfold FQ;rw[List.take_length,List.drop_length,List.append_nil]
theorem To {hs:List AD}(ms:List Nat){k:Nat}{z:AD}(h:hs[k]?=some z):(FQ hs ms k)[k]?=some z:=by
 have hk:=(Qc.1 h).1;have e:(kg (hs.take k) ms).length=k:=by rw[yo,Qp];omega
 unfold FQ;rw[Ql (by omega),e,Nat.sub_self,List.getElem?_drop,Nat.add_zero,h]
theorem X8 {hs:List AD}(ms:List Nat){k:Nat}{z:AD}(h:hs[k]?=some z):FQ hs ms (k+1)=(FQ hs ms k).set k (z.place (ms.drop (k*12))):=by
 have hk:=(Qc.1 h).1;have e0:(hs.take k).length=k:=by rw[Qp];omega
 have e:(kg (hs.take k) ms).length=k:=by rw[yo,e0]
 have e2:hs.drop k=z::hs.drop (k+1):=by
  rw[List.drop_eq_getElem_cons hk];congr 1;rw[Qb hk]at h;injection h
 unfold FQ;rw[List.take_add_one,h,Option.toList_some,Uk,e0,List.set_append_right _ _ (by omega),e,Nat.sub_self,e2,List.set_cons_zero,List.append_assoc]
 rfl
theorem DJ.NM {w:Aa}{g off c:Nat}{l:List Nat}(h:DJ w g off l c)(hl:12<=l.length)(r s:R6)(hr:r=R6.of l)(hs:s=R6.of (l.drop 6)):∀ j,j<12->w.cell? ⟨g,off+j,none⟩ =
  #[Value.int .i64 r.a0,I Z r.a1,I Z r.a2,I Z r.a3,I Z r.a4,I Z r.a5,I Z s.a0,I Z s.a1,I Z s.a2,I Z s.a3,I Z s.a4,I Z s.a5][j]?:=by
 subst hr hs;have g:=h.at';match l,hl,g with
 | x0::x1::x2::x3::x4::x5::x6::x7::x8::x9::x10::x11::l,_,g =>
  intro j hj;obtain rfl|rfl|rfl|rfl|rfl|rfl|rfl|rfl|rfl|rfl|rfl|rfl:j=0\/j=1\/j=2\/j=3\/j=4\/j=5\/j=6\/j=7\/j=8\/j=9\/j=10\/j=11:=by omega
  all_goals exact g _ _ rfl
section
variable {w w' : Aa} {o o' : Own} {m : BZ} {M : Mc}
theorem qgw (h:Bp w o m M)(hn8:M.hs.length<=8){g c:Nat}{ms:List Nat}(hv:DJ w g 0 ms c)(hg:(o g).1=m.y.l.id+1)(hn:ms.length=M.roots.length) :
  Ab Tryz.prog 89 #[ptr m.mb,Ah (some ⟨g,0,none⟩) ms.length c] w fun e w'=>e=O (Aj #[])/\Bp w' o m { M with hs:=kg M.hs ms }/\Stp (fun t=>t=(m.y.l.id+2,2)) o o w w':=by
 obtain⟨ve,jb,hrp⟩:=h.AU;have hml:ms.length=M.hs.length*12:=by rw[hn];exact sa _
 have hhs:=h.hs;have HF:=Qa (fun (w':Aa)(hr:Row w' o (m.y.l.id+2,2) 58 15 m.vh M.hs.length (za (kg M.hs ms)))(hs:Stp (fun t=>t=(m.y.l.id+2,2)) o o w w') =>
  show Bp w' o m { M with hs:=kg M.hs ms } from
   ⟨⟨ve,jb.Ao hs (by rw[h.om];simp),hrp.Ao hs (by simp)⟩,h.st.Ao hs (by simp),h.ps.Ao hs (by simp) (by simp),by show Row w' o _ _ 15 m.vh (kg M.hs ms).length _;rw[yo];exact hr,(hs.tags _ jb.lt).trans h.om⟩)
 have HJ:=Qa (fun (w':Aa)(hs:Stp (fun t=>t=(m.y.l.id+2,2)) o o w w')=>show Am w' m.mb #[ptr m.y.sb,m.vp,m.vh,.int .i32 0,.int .u32 0,ve] 148 from jb.Ao hs (by rw[h.om];simp))
 have HG:=Qa (show ¬(fun t=>t=(m.y.l.id+2,2)) (o g) from fun e=>by have e:o g=(m.y.l.id+2,2):=e;rw[e]at hg;simp at hg)
 obtain⟨hs,hhe⟩:∃ hs,hs=M.hs:=⟨_,rfl⟩;obtain⟨nh,hnh⟩:∃ nh,nh=hs.length:=⟨_,rfl⟩;obtain⟨ph,ch,hvh⟩:=hhs.AY;rw[<-hhe,<-hnh]at hvh;rw[hvh]at HF HJ jb hhs;rw[<-hhe]at HF hhs hn8 hml ⊢;rw[<-hnh]at HF hhs hn8 hml;have HV:=Qa hv;have HR:=Qa hhs;have HN:=Qa hnh;have HML:=Qa hml;obtain⟨L,hL⟩:∃ L,L=ms.length:=⟨_,rfl⟩;rw[<-hL]at HML ⊢;have HL:=Qa hL;have cb:=jb.cell;clear h hv hg hn hrp hhs hml hhe hnh hvh hL jb;go_enter Tryz.func89,Tryz.ntmps89;go_wp2_with fail;clear cb;go_loopw [1,12] (fun vv ix wr=>∃ (k off C:Nat),ix=I Z k/\vv=Ah (some ⟨g,off,none⟩) ((nh-k)*12) C/\k<=nh/\DJ wr g off (ms.drop (k*12)) C/\Row wr o (m.y.l.id+2,2) 58 15 (.slice ph nh ch) nh (za (FQ hs ms k))/\Stp (fun t=>t=(m.y.l.id+2,2)) o o w wr) (fun _ ix _=>nh-(intOf ix).toNat)
 case atStart=>exact⟨0,0,c,rfl,by rw[HML.out];rfl,Nat.zero_le _,HV.out,HR.out,Stp.refl _ _ _⟩
 case round =>
  obtain⟨k,off,C,rfl,rfl,hkn,hP,hR,hS⟩:=hrel;by_cases hlt:k<nh
  ·have hkI:(k:Int)<(nh:Int):=by omega
   obtain⟨z,hz⟩:∃ z,hs[k]?=some z:=⟨_,Qb (by rw[<-HN.out];exact hlt)⟩
   obtain⟨gq,rfl,hcap,q⟩:=hR.E9 (To ms hz);obtain⟨hw1,hw2⟩:=qw k (by omega)
   have hdl:(ms.drop (k*12)).length=(nh-k)*12:=by
    rw[List.length_drop];have h1:=HML.out;have h2:=HL.out;omega
   obtain⟨Q,hQ⟩:∃ Q,Q=(nh-k)*12:=⟨_,rfl⟩;have hQ2:(nh-(k+1))*12=Q-12:=by omega
   rw[<-hQ]at hdl ⊢;have hQ12:12<=Q:=by omega
   have hQC:Q<=C:=by rw[<-hdl];exact hP.cap
   have i1:(12:Int)<=(Q:Int):=by omega
   have i2:(12:Int)<=(C:Int):=by omega
   have i3:(Q:Int)<=(C:Int):=by omega
   obtain⟨off2,hoff,hP2⟩:=hP.drop (n:=12) (by rw[hdl];exact hQ12)
   rw[List.drop_drop,show k*12+12=(k+1)*12 from by omega]at hP2
   obtain⟨r,hr⟩:∃ r,r=R6.of (ms.drop (k*12)):=⟨_,rfl⟩;obtain⟨s,hsr⟩:∃ s,s=R6.of ((ms.drop (k*12)).drop 6):=⟨_,rfl⟩;have hpl:z.place (ms.drop (k*12))=⟨z.b,z.n,r,s,z.l⟩:=by rw[hr,hsr];rfl
   have HTW:=Qa (hP.NM (by rw[hdl];exact hQ12) r s hr hsr)
   have htk:=X8 ms hz;rw[hpl]at htk;have HTK:=Qa htk;have jb:=HJ.out wr hS;have cb:=jb.cell;have hks:k<(FQ hs ms k).length:=by rw[F8,<-HN.out];exact hlt
   clear hr hsr hpl htk hQ;obtain⟨b0,b1,b2,b3,b4,b5⟩:=r;obtain⟨d0,d1,d2,d3,d4,d5⟩:=s;obtain⟨zb,zn,⟨a0,a1,a2,a3,a4,a5⟩,⟨s0,s1,s2,s3,s4,s5⟩,zl⟩:=z;obtain⟨q0,q1,q2,q3,q4,q5,q6,q7,q8,q9,q10,q11,q12,q13,q14⟩:=q;simp only at q0 q1 q2 q3 q4 q5 q6 q7 q8 q9 q10 q11 q12 q13 q14;have HRo:=Qa (fun W=>show Ab Tryz.prog 150 #[Ak #[I Z zb,I Z zn,I Z a0,I Z a1,I Z a2,I Z a3,I Z a4,I Z a5,I Z s0,I Z s1,I Z s2,I Z s3,I Z s4,I Z s5,.bool zl]] W fun e w'=>∃ b,e=O (Ah (some ⟨b,0,none⟩) 12 12)/\Ae W.heap.size W w' from
    (Tk ⟨zb,zn,⟨a0,a1,a2,a3,a4,a5⟩,⟨s0,s1,s2,s3,s4,s5⟩,zl⟩ W).mono fun e w' ⟨h1,_,h3⟩=>⟨_,h1,h3⟩)
   have HRe:=Qa (fun (W:Aa)(hb:Ae wr.heap.size wr W)=>show Ab Tryz.prog 151 #[Ak #[I Z zb,I Z zn,I Z a0,I Z a1,I Z a2,I Z a3,I Z a4,I Z a5,I Z s0,I Z s1,I Z s2,I Z s3,I Z s4,I Z s5,.bool zl],Ah (some ⟨g,off,none⟩) 12 C] W fun e w'=>e=O (Aj #[Ak #[I Z zb,I Z zn,I Z b0,I Z b1,I Z b2,I Z b3,I Z b4,I Z b5,I Z d0,I Z d1,I Z d2,I Z d3,I Z d4,I Z d5,.bool zl],.bool true])/\Ae W.heap.size W w' from
    qg6 ⟨zb,zn,⟨a0,a1,a2,a3,a4,a5⟩,⟨s0,s1,s2,s3,s4,s5⟩,zl⟩ g off C ⟨b0,b1,b2,b3,b4,b5⟩ ⟨d0,d1,d2,d3,d4,d5⟩ W (by omega) (Qn hP.lt hb.size) (fun j hj=>(hb.cell (p:=⟨g,off+j,none⟩) hP.lt).trans (HTW.out j hj)))
   have HX:=Qa (fun (W:Aa)(hb:Ae wr.heap.size wr W)=>show Row (Kb W gq (k*15) ⟨zb,zn,⟨b0,b1,b2,b3,b4,b5⟩,⟨d0,d1,d2,d3,d4,d5⟩,zl⟩) o (m.y.l.id+2,2) 58 15 (Ah (some ⟨gq,0,none⟩) nh ch) nh (za (FQ hs ms (k+1)))/\DJ (Kb W gq (k*15) ⟨zb,zn,⟨b0,b1,b2,b3,b4,b5⟩,⟨d0,d1,d2,d3,d4,d5⟩,zl⟩) g off2 (ms.drop ((k+1)*12)) (C-12)/\Stp (fun t=>t=(m.y.l.id+2,2)) o o w (Kb W gq (k*15) ⟨zb,zn,⟨b0,b1,b2,b3,b4,b5⟩,⟨d0,d1,d2,d3,d4,d5⟩,zl⟩) from by
    have rb:=hR.below hb;have k1:Stp (fun t=>t=(m.y.l.id+2,2)) o o W (Kb W gq (k*15) ⟨zb,zn,⟨b0,b1,b2,b3,b4,b5⟩,⟨d0,d1,d2,d3,d4,d5⟩,zl⟩):=Rb (Stp.refl _ o W) rb.El _
    exact⟨by rw[HTK.out];exact U1 rb hks _,(hP2.below hb).Ao k1 HG.out,(hS.trans (Stp.of_below hb)).trans k1⟩)
   have HRr:=Qa hR;have HQ2:=Qa hQ2;have HZ:=Qa hz;clear hz hdl hQ12 hQC hP hP2 hS hks hR hQ2;go_wp2_with (first
    | (go_at_call 150;refine (HRo.out _).mono ?_;rintro e w3 ⟨b3',rfl,hb3⟩)
    | fail)
   have jx:=(Am.new wr #[I Z zb,I Z zn,I Z a0,I Z a1,I Z a2,I Z a3,I Z a4,I Z a5,I Z s0,I Z s1,I Z s2,I Z s3,I Z s4,I Z s5,.bool zl] 58).below hb3 (Am.new wr #[I Z zb,I Z zn,I Z a0,I Z a1,I Z a2,I Z a3,I Z a4,I Z a5,I Z s0,I Z s1,I Z s2,I Z s3,I Z s4,I Z s5,.bool zl] 58).lt;have hb3':=qd (qa (qc wr) _) hb3;have j3:=jb.below hb3' jb.lt;clear cb q0 q1 q2 q3 q4 q5 q6 q7 q8 q9 q10 q11 q12 q13 q14 hb3;have c3:=j3.cell;have cx:=jx.cell;go_region_with (first
    | (go_at_call 151;refine (HRe.out _ (by first|exact qe hb3'|exact hb3')).mono ?_;rintro e w8 ⟨rfl,hb8⟩;have hb8':Ae wr.heap.size wr w8:=(by first|exact qd (qe hb3') hb8|exact qd hb3' hb8);have j8:=jb.below hb8' jb.lt;have c8:=j8.cell;have r8:=HRr.out.below hb8';have z8:=r8.free;have l8:=r8.blt;obtain⟨_,e8,_,q8⟩:=r8.E9 (To ms HZ.out);injection e8 with e8;injection e8 with e8;subst e8;obtain⟨q0,q1,q2,q3,q4,q5,q6,q7,q8,q9,q10,q11,q12,q13,q14⟩:=q8;simp only at q0 q1 q2 q3 q4 q5 q6 q7 q8 q9 q10 q11 q12 q13 q14)
    | fail)
   all_goals
    go_wp2_with fail;have hx:=HX.out w8 hb8';go_roundw
    case rel=>exact⟨k+1,off2,C-12,by simp,by simp[HQ2.out],hlt,hx.2.1,hx.1,hx.2.2⟩
    case measure=>clear hw1 hw2;simp[intOf];omega
  ·obtain rfl:k=nh:=by omega
   rw[HN.out,JO,<-HN.out]at hR;go_wp2_with fail;go_end0;exact⟨rfl,HF.out _ hR hS,hS⟩
end
end Go.Proofs.YteehgedabdchcaaGreat
