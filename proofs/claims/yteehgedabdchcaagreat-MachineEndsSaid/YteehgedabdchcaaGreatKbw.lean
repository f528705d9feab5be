import Derived.Test.YteehgedabdchcaaGreatKbu
import Derived.Test.YteehgedabdchcaaGreatKbv
import Derived.Deep.Grids
set_option linter.all false
set_option maxRecDepth 1000000
set_option maxHeartbeats 16000000
open Go renaming World->Aa,Calls->Ab,Value->Ac
open Go.RowKit renaming Below->Ae
open Go.Value renaming int->I,tuple->Aj,agg->Ak
open Go.IntKind renaming i64->Z
open Go.Ending renaming returned->O
namespace Go.Proofs.YteehgedabdchcaaGreat
section
open Go.RowKit Hp
attribute [local go_sem ↓] Go.wp_at_zero Go.wp_at_succ
def Jz (w:Aa)(v:Ac)(l:List Bool):Prop:=
 ∃ a c,v=.slice a l.length c/\l.length<=c/\l.length<=maxLen/\(l=[]\/∃ b off,a=some ⟨b,off,none⟩/\∀ (j:Nat)(z:Bool),l[j]?=some z->w.cell? ⟨b,off+j,none⟩=some (.bool z))
theorem YH (v:Ac)(raw:List (List (List Pg.D)))(vl:Ac)(cl:List Bool)(w:Aa)(h:Bd w v raw)(hI:TI raw)(hl:Jz w vl cl) :
  Ab Tryz.prog 5 #[v,vl] w fun e w'=>e=O (.bool true)/\Ae w.heap.size w w':=by
 have HAw:=Qa Y4;have HPr:=Qa (fun (w':Aa)(hb:Ae w.heap.size w w')=>qgo v raw w' (h.below hb) hI)
 obtain⟨pl,cc,rfl,hlc,hlm,qg⟩:=hl;have HCells:=Qa (fun (W:Aa)(hb:Ae w.heap.size w W)(j:Nat)(z:Bool)(hj:cl[j]?=some z)=>show ∃ b off,pl=some ⟨b,off,none⟩/\W.cell? ⟨b,off+j,none⟩=some (.bool z) from by
  rcases qg with h0|⟨b,off,hpl,hc⟩
  ·rw[h0]at hj;simp at hj
  ·exact⟨b,off,hpl,(hb.cell (p:=⟨b,off+j,none⟩) (L5 (hc j z hj))).trans (hc j z hj)⟩)
 obtain⟨n,hn⟩:∃ n,n=cl.length:=⟨_,rfl⟩;rw[<-hn]at hlc hlm ⊢;have HN:=Qa hn;have HLM:=Qa (And.intro hlc hlm);obtain⟨p1,p4⟩:=lj raw;obtain⟨np,hnp⟩:∃ np,np=(zt raw).length:=⟨_,rfl⟩;rw[<-hnp]at p1 p4;have HNP:=Qa hnp;clear h hI qg hn hlc hlm hnp;go_enter Tryz.func5,Tryz.ntmps5;go_wp2_with (first
  | (go_at_call 26;refine (HAw.out _).mono ?_;rintro e w1 ⟨rfl,hb1⟩)
  | (go_at_call 28;refine (HPr.out _ hb1).mono ?_;rintro e w2 ⟨v2,oP,rfl,hF,hK⟩;obtain⟨q0,us,q1,q2,q3⟩:=hF;obtain⟨pv,cv,rfl⟩:=q2.AY;have HF:=Qa (show FT (1,0) w2 oP (.slice pv (zt raw).length cv) (zt raw) from ⟨q0,us,q1,q2,q3⟩);have hb2:=qd hb1 hK.b;rw[<-HNP.out]at HF ⊢;clear q0 q1 q2 q3 hK hb1)
  | (go_at_call 29;refine (LI 3000 100 100 999 (by omega) (by omega) (by omega) (by omega) HF.out).mono ?_;rintro e w3 ⟨m,o3,rfl,hR⟩;obtain⟨M0,hM0⟩:∃ M,M=Mc.fresh (Al.fresh 3000 (uo raw).length 100 100 (EB 999).toNat) (uo raw):=⟨_,rfl⟩;have hE0:Eo raw M0 0:=(by rw[hM0];exact Eo.fresh raw);rw[<-hM0]at hR;have HR0:=Qa (And.intro hR hE0);clear hM0 hE0 hR)
  | fail)
 have HB2:=Qa hb2;clear hb2 HAw HPr;have HBk:=Qa (fun (W:Aa)(hb:Ae w2.heap.size w2 W)(t:Nat)(ht:t<np)=>show ∃ g off a c bs,pv=some ⟨g,off,none⟩/\W.cell? ⟨g,off+t,none⟩=some (.slice a bs c)/\bs<=3/\bs=((zt raw).getD t []).length from by
  obtain⟨bs,hbs⟩:∃ bs,(zt raw)[t]?=some bs:=⟨_,Qb (by rw[<-HNP.out];exact ht)⟩
  obtain⟨g,off,cp,a,c,e,h1,_⟩:=(HF.out.at.below hb).blocks hbs;injection e with e _ _;exact⟨g,off,a,c,_,e,h1,(uz (Qe hbs)).1,by rw[Qi,hbs];rfl⟩)
 clear HF;go_loopw [9] (fun tv wr=>∃ (t:Nat)(M:Mc)(o:Own),tv=.int .i64 t/\t<=np/\DT w2 m wr o M/\Eo raw M t) (fun tv _=>np-(intOf tv).toNat)
 case atStart=>exact⟨0,M0,o3,rfl,Nat.zero_le _,HR0.out.1,HR0.out.2⟩
 case round =>
  clear HR0;obtain⟨t,M,o,rfl,htn,hR,hE⟩:=hrel;by_cases hlt:t<np
  ·have tI:(t:Int)<(np:Int):=by omega
   have HT:=Qa (qw t (by omega))
   have HR:=Qa hR;have HE:=Qa (hE.turn (by rw[hE.c.len,<-HNP.out];exact hlt))
   clear hR hE;go_wp2_with fail;go_loopw [10] (fun iv wi=>∃ (i:Nat)(M:Mc)(o:Own),iv=.int .i64 i/\i<=40/\DT w2 m wi o M/\Ei raw M t i) (fun iv _=>40-(intOf iv).toNat)
   case atStart=>exact⟨0,M,o,rfl,Nat.zero_le _,HR.out,HE.out⟩
   case round =>
    clear HR HE;obtain⟨i,M,o,rfl,hi40,hR,hE⟩:=hrel;by_cases hlt2:i<40
    ·have iI:(i:Int)<40:=by omega
     have HW:=Qa (qw i (by omega))
     have HSt:=Qa (hR.step (t:Int));obtain⟨hbad,hE2⟩:=hE.step (by have:=HT.out;omega)
     obtain⟨M',hM'⟩:∃ M',M'=(M.step (t:Int)).1:=⟨_,rfl⟩;obtain⟨a,ha⟩:∃ a,a=(M.step (t:Int)).2:=⟨_,rfl⟩;rw[<-hM']at hE2 HSt;rw[<-ha]at hbad HSt;have HE2:=Qa hE2;have hbw:=qd HB2.out hR.old;have hsz:=wr.heap.size;clear hM' ha hE hR hE2;obtain⟨ak,ae,av⟩:=a;simp only at HSt hbad;obtain⟨b1,b2,b3,b4⟩:(ae==141)=false/\(ae==130)=false/\(ae==100)=false/\(ae==120)=false:=by
      unfold bf ry at hbad;simp only[Bool.or_eq_false_iff]at hbad;exact⟨hbad.1.1.1,hbad.1.1.2,hbad.1.2,hbad.2⟩
     have hlc:=HLM.out.1;by_cases hin:i<n
     ·have hin2:(i:Int)<(n:Int):=by omega
      obtain⟨z,hz⟩:∃ z,cl[i]?=some z:=⟨_,Qb (by rw[<-HN.out];exact hin)⟩
      have HC:=Qa (fun (W:Aa)(hb:Ae w.heap.size w W)=>HCells.out W hb i z hz)
      clear hz hbad;go_upto_region 13 with (first
       | (go_at_call 32;refine HSt.out.mono ?_;rintro e w5 ⟨rfl,o5,hR5,_⟩)
       | fail)
      obtain⟨W6,hW6⟩:∃ W6:Aa,W6=w5.alloc (.cells #[.int .i64 ak,.int .i64 ae,.int .i64 av] 54):=⟨_,rfl⟩;have hR6:DT w2 m W6 o5 M':=by rw[hW6];exact hR5.below (qa (qc w5) _)
      have jA:Am W6 w5.heap.size #[.int .i64 ak,.int .i64 ae,.int .i64 av] 54:=by rw[hW6];exact Am.new w5 _ _
      rw[<-hW6];clear hW6;have cA:=jA.cell;have lA:=jA.lt;have HR6:=Qa hR6;obtain⟨b,off,rfl,hc⟩:=HC.out W6 (qd HB2.out hR6.old);have HCo:=Qa (hR6.collect);obtain⟨cb,hcb⟩:∃ cb,cb=M'.collect.2:=⟨_,rfl⟩;rw[<-hcb]at HCo;have HE3:=Qa (HE2.out.collect (by have:=HT.out;omega))
      obtain⟨hw1,hw2⟩:=HW.out;clear jA hR5 hR6 hcb HC
      cases z with
      | true =>
       go_wp2_with (first
        | (go_at_call 31;refine HCo.out.mono ?_;rintro e w7 ⟨rfl,o7,hR7,_⟩;have HR7:=Qa hR7;clear hR7)
        | fail)
       go_roundw
       case rel=>exact⟨i+1,_,o7,by simp,hlt2,HR7.out,HE3.out⟩
       case measure=>clear hw1 hw2;simp[intOf];omega
      | false =>
       go_wp2_with fail;go_roundw
       case rel=>exact⟨i+1,M',o5,by simp,hlt2,HR6.out,HE2.out⟩
       case measure=>clear hw1 hw2;simp[intOf];omega
     ·have hin2:¬((i:Int)<(n:Int)):=by omega
      clear hbad;go_upto_region 13 with (first
       | (go_at_call 32;refine HSt.out.mono ?_;rintro e w5 ⟨rfl,o5,hR5,_⟩)
       | fail)
      obtain⟨W6,hW6⟩:∃ W6:Aa,W6=w5.alloc (.cells #[.int .i64 ak,.int .i64 ae,.int .i64 av] 54):=⟨_,rfl⟩;have hR6:DT w2 m W6 o5 M':=by rw[hW6];exact hR5.below (qa (qc w5) _)
      have jA:Am W6 w5.heap.size #[.int .i64 ak,.int .i64 ae,.int .i64 av] 54:=by rw[hW6];exact Am.new w5 _ _
      rw[<-hW6];clear hW6;have cA:=jA.cell;have lA:=jA.lt;have HR6:=Qa hR6;obtain⟨hw1,hw2⟩:=HW.out;clear jA hR5 hR6;go_wp2_with fail;go_roundw
      case rel=>exact⟨i+1,M',o5,by simp,hlt2,HR6.out,HE2.out⟩
      case measure=>clear hw1 hw2;simp[intOf];omega
    ·obtain rfl:i=40:=by omega
     have htl:t<M.hs.length:=by rw[hE.c.len,<-HNP.out];exact hlt
     have hTh:=hR.BO (t:Int);obtain⟨g2,gb,_⟩:=Mc.CF (M:=M) htl;have gl:(M.BO (t:Int)).1.l=(M.h t).l:=by
      unfold Mc.BO;rw[if_neg (by omega),Int.toNat_natCast];rfl
     obtain⟨l1,l2⟩:=hE.last;rw[g2]at hTh;rw[l1]at gb;rw[l2]at gl;have hpl:(M.p t).length=((zt raw).getD t []).length:=by
      unfold Mc.p;rw[hE.c.ps];unfold uo;rw[Qi,Qi,Qj]
      cases (zt raw)[t]? with
      | none=>rfl
      | some q=>show (vs q).length=_;unfold vs;rw[Qg];rfl
     obtain⟨G,hG⟩:∃ G,G=(M.BO (t:Int)).1:=⟨_,rfl⟩;rw[<-hG]at hTh gb gl;obtain⟨gb',gn,⟨r0,r1,r2,r3,r4,r5⟩,⟨q0,q1,q2,q3,q4,q5⟩,gl'⟩:=G;simp only at gb gl;subst gb gl;rw[hpl]at hTh;have HE:=Qa hE.next;have HR:=Qa hR;have HTh:=Qa (show Ab Tryz.prog 33 #[ptr m.mb,.int .i64 t] wr fun e w'=>e=O (Aj #[Ak #[.int .i64 ((zt raw).getD t []).length,.int .i64 gn,.int .i64 r0,.int .i64 r1,.int .i64 r2,.int .i64 r3,.int .i64 r4,.int .i64 r5,.int .i64 q0,.int .i64 q1,.int .i64 q2,.int .i64 q3,.int .i64 q4,.int .i64 q5,.bool false],.bool true])/\Ae wr.heap.size wr w' from hTh)
     obtain⟨bl,hbl⟩:∃ bl,bl=((zt raw).getD t []).length:=⟨_,rfl⟩;rw[<-hbl]at HTh;have HBl:=Qa hbl;clear hG hpl l1 l2 g2 htl hTh hE hR hbl;go_upto_region 18 with (first
      | (go_at_call 33;refine HTh.out.mono ?_;rintro e w5 ⟨rfl,hb5⟩)
      | fail)
     obtain⟨W6,hW6⟩:∃ W6:Aa,W6=w5.alloc (.cells #[.int .i64 bl,.int .i64 gn,.int .i64 r0,.int .i64 r1,.int .i64 r2,.int .i64 r3,.int .i64 r4,.int .i64 r5,.int .i64 q0,.int .i64 q1,.int .i64 q2,.int .i64 q3,.int .i64 q4,.int .i64 q5,.bool false] 58):=⟨_,rfl⟩;have hR6:DT w2 m W6 o M:=by rw[hW6];exact (HR.out.below hb5).below (qa (qc w5) _)
     have jA:Am W6 w5.heap.size #[.int .i64 bl,.int .i64 gn,.int .i64 r0,.int .i64 r1,.int .i64 r2,.int .i64 r3,.int .i64 r4,.int .i64 r5,.int .i64 q0,.int .i64 q1,.int .i64 q2,.int .i64 q3,.int .i64 q4,.int .i64 q5,.bool false] 58:=by rw[hW6];exact Am.new w5 _ _
     rw[<-hW6];clear hW6;have cA:=jA.cell;have lA:=jA.lt;have HR6:=Qa hR6;obtain⟨g,off,a,c,bs,rfl,hc,hb3,hbe⟩:=HBk.out W6 hR6.old t hlt;rw[<-HBl.out]at hbe;subst hbe;have hl0:=vi hc;have hne:((bs:Int) != (bs:Int))=false:=by simp
     clear jA hR6 hb5;go_quiet (fail);have HR7:=Qa (HR6.out.below (zh (qc W6) nq));obtain⟨hw1,hw2⟩:=HT.out;clear cA lA hc hl0;go_wp2_with fail;go_roundw
     case rel=>exact⟨t+1,M,o,by simp,hlt,HR7.out,HE.out⟩
     case measure=>clear hw1 hw2;simp[intOf];omega
  ·obtain rfl:t=np:=by omega
   obtain⟨d1,d2,d3⟩:=(show Eo raw M (zt raw).length from by rw[<-HNP.out];exact hE).done
   have HD:=Qa (And.intro d1 d2);have HHi:=Qa hR.L3;have HS3:=Qa (SX (l:=zt raw) fun p hp=>(uz hp).1)
   obtain⟨nh,hnh⟩:∃ nh,nh=M.past.length:=⟨_,rfl⟩;rw[<-hnh]at HHi d3;have HNh:=Qa hnh;clear hR hE d1 d2 hnh;go_wp2_with (first
    | (go_at_call 36;refine HHi.out.mono ?_;rintro e w5 ⟨vh,rfl,hrow,hR5,_⟩;obtain⟨ph,ch,rfl⟩:=hrow.AY;have HRow:=Qa hrow;have HR5:=Qa hR5;clear hrow hR5)
    | fail)
   go_loopw [14,17] (fun bv jv wr=>∃ j:Nat,bv=.int .i64 (yj (M.past.take j):Nat)/\jv=.int .i64 j/\j<=nh/\w5=wr) (fun _ jv _=>nh-(intOf jv).toNat)
   case atStart=>exact⟨0,by simp[yj],rfl,Nat.zero_le _,rfl⟩
   case round =>
    obtain⟨j,rfl,rfl,hjn,rfl⟩:=hrel;by_cases hj:j<nh
    ·have jI:(j:Int)<(nh:Int):=by omega
     obtain⟨hw1,hw2⟩:=qw j (by omega)
     obtain⟨x,hx⟩:∃ x,M.past[j]?=some x:=⟨_,Qb (by rw[<-HNh.out];exact hj)⟩
     obtain⟨g,rfl,hcp,e6⟩:=Row.Xb (by have:=HRow.out;exact this) hx
     have c3:=e6.c3;have hcn:yj (M.past.take (j+1))=yj (M.past.take j)+if x.a.k=1 then 1 else 0:=by
      rw[List.take_add_one,hx];exact Sc _ _
     have hcl:yj (M.past.take j)<=j:=by
      have h0:∀ l:List CS,yj l<=l.length:=by
       intro l;induction l with
       | nil=>exact Qk _
       | cons y l ih=>unfold yj;simp only[Qv];split<;>omega
      have h1:=h0 (M.past.take j);rw[Qp]at h1;omega
     obtain⟨cj,hcj⟩:∃ cj,cj=yj (M.past.take j):=⟨_,rfl⟩;rw[<-hcj]at hcn hcl ⊢;obtain⟨hw3,hw4⟩:=qw cj (by omega)
     obtain⟨kx,hkx⟩:∃ kx,kx=x.a.k:=⟨_,rfl⟩;rw[<-hkx]at c3 hcn;have HCn:=Qa hcn;clear e6 hx hkx hcj hcn;rcases (show (kx==1)=true\/(kx==1)=false from by cases (kx==1)<;>simp) with hk|hk
     ·have HK:=Qa (show kx=1 from by simpa using hk)
      go_wp2_with fail;go_roundw
      case rel=>exact⟨j+1,by rw[HCn.out,if_pos HK.out];simp,by simp,hj,trivial⟩
      case measure=>clear hw1 hw2 hw3 hw4;simp[intOf];omega
     ·have HK:=Qa (show ¬kx=1 from by simpa using hk)
      go_wp2_with fail;go_roundw
      case rel=>exact⟨j+1,by rw[HCn.out,if_neg HK.out];simp,by simp,hj,trivial⟩
      case measure=>clear hw1 hw2 hw3 hw4;simp[intOf];omega
    ·obtain rfl:j=nh:=by omega
     have HCnt:=Qa (show yj (M.past.take j)=ll (zt raw) t from by
      rw[HNh.out,List.take_length,HD.out.2,HNP.out])
     rw[HCnt.out];go_wp2_with fail;go_loopw [15,18] (fun av uv wr=>∃ u:Nat,av=.int .i64 (ll (zt raw) u:Nat)/\uv=.int .i64 u/\u<=t/\w5=wr) (fun _ uv _=>t-(intOf uv).toNat)
     case atStart=>exact⟨0,rfl,rfl,Nat.zero_le _,rfl⟩
     case round =>
      obtain⟨u,rfl,rfl,hun,rfl⟩:=hrel;by_cases hu:u<t
      ·have uI:(u:Int)<(t:Int):=by omega
       obtain⟨hw1,hw2⟩:=qw u (by omega)
       obtain⟨g,off,a,c,bs,rfl,hc,hb3,hbe⟩:=HBk.out w5 HR5.out.old u hu;have hs3:=HS3.out u;have HSu:=Qa (show ll (zt raw) (u+1)=ll (zt raw) u+bs from by rw[hbe];rfl)
       obtain⟨su,hsu⟩:∃ su,su=ll (zt raw) u:=⟨_,rfl⟩;rw[<-hsu]at HSu hs3 ⊢;have hw3:wrap64 ((su:Int)+(bs:Int))=(su:Int)+(bs:Int):=IntWalk.wrap64_in _ (by omega)
       have hw4:IntKind.i64.wrap ((su:Int)+(bs:Int))=(su:Int)+(bs:Int):=IntWalk.i64_in _ (by omega)
       clear hbe hsu;go_wp2_with fail;go_roundw
       case rel=>exact⟨u+1,by rw[HSu.out];simp,by simp,hu,trivial⟩
       case measure=>clear hw1 hw2 hw3 hw4;simp[intOf];omega
      ·obtain rfl:u=t:=by omega
       have HDo:=Qa (Vu HR5.out.mi HR5.out.ok);have HB5:=Qa (qd HB2.out HR5.out.old);rw[HD.out.1]at HDo;go_wp2_with (first
        | (go_at_call 37;refine HDo.out.mono ?_;rintro e w8 ⟨rfl,hb8⟩)
        | fail)
       go_ret;exact⟨rfl,qd HB5.out hb8⟩
end
section
open Go.RowKit Hp Go.ChangeShapes Go.WideShapes Go.Deep Go.ChangeAt
theorem qka {H:Type}{enc:TypeId×Ac->H}{w:Aa}{base:Nat}{held:Bool}{v:Ac}{d:DataW H}{p:List MemPlace}(h:DataW.Trod enc Tryz.prog w base (fun _=>true) held 66 v d p)
  {r:Reach}{b0:Nat}(hv:Value.okWide Tryz.prog w r b0 66 v):∃ l,Jz w v l:=by
 obtain⟨fuel,h⟩:=h;obtain⟨a,n,c,rfl⟩:=okWide_slice Tryz.underlying66 hv;have h':DataW.trod enc Tryz.prog w base (fun _=>true) held fuel 66 [.slice a n c]=some (d,p):=h
 rcases open_bools Tryz.underlying66 Tryz.underlying4 (by kernel_rfl) h' with⟨hcs,_⟩|⟨a,len,cap,B,hcs,_,hle,hcm,_,hz⟩
 ·simp only[List.cons.injEq,and_true]at hcs
  exact⟨[],none,0,hcs,Qk _,by simp,.inl rfl⟩
 ·simp only[List.cons.injEq,and_true]at hcs
  have htl:((List.range len).map B).length=len:=by simp
  refine⟨(List.range len).map B,some a,cap,by rw[htl];exact hcs,by omega,by omega,?_⟩
  by_cases h0:len=0
  ·left;subst h0;simp
  ·right
   have hc0:=hz 0 (by omega)
   have ha0:a.add 0=a:=by unfold Addr.add;simp
   rw[ha0]at hc0;have hp:=fq hc0;refine⟨a.block,a.off,by rw[<-hp],fun j z hj=>?_⟩
   have hjl:j<len:=by have:=(Qc.1 hj).1;omega
   have hc:=hz j (by omega)
   rw[hp,nu]at hc;rw[Qj,List.getElem?_range hjl]at hj;injection hj with hj;rw[<-hj];exact hc
end
end Go.Proofs.YteehgedabdchcaaGreat
