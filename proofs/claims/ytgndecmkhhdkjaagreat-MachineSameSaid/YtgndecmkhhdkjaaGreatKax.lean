import Derived.Test.YtgndecmkhhdkjaaGreatKav
import Derived.Test.YtgndecmkhhdkjaaGreatKay
set_option linter.all false
set_option maxRecDepth 1000000
set_option maxHeartbeats 0
open Go renaming World->Aa,Calls->Ab,Value->Ac
open Go.RowKit renaming Below->Ae
open Go.Value renaming int->I,slice->Ai,tuple->Ak,agg->Al
open Go.IntKind renaming i64->Z
open Go.Ending renaming returned->O
open List renaming replicate->Ad,take_add_one->ag,take_length->ai,set_cons_zero->aj,all_eq_true->ay,length_drop->aA,mem_range->aB,drop_drop->aC
open Nat renaming zero_le->Aj,sub_self->aD
open And renaming intro->aa
open Int renaming toNat_natCast->af
open Go.Proofs.Tryz
open Go.Proofs.Tryz renaming prog->ANa
open Go.Obj renaming cells->ANb
namespace Go.Proofs.YtgndecmkhhdkjaaGreat
open Go.RowKit Hp
attribute [local go_sem ↓] Go.wp_at_zero Go.wp_at_succ
section
variable {w w' : Aa} {o o' : Own} {m : Cd} {M : Mc}
def KB.A6 {v:Ac}{tg:Tag}{bs:List (List AD)}(h:KB w o tg v bs):∃ a c,v=.slice a bs.length c:=by
 obtain⟨_,vs,_,hr,_⟩:=h;obtain⟨a,c,e⟩:=hr.A6;exact⟨a,c,e⟩
def KT.at {v:Ac}{tg tr:Tag}{AZ:List (List (List AD))}(h:KT w o tg tr v AZ){t:Nat}{bs:List (List AD)}(ht:AZ[t]?=some bs) :
  ∃ g cp a c,v=Ai (some ⟨g,0,none⟩) AZ.length cp/\w.cell? ⟨g,t,none⟩=some (.slice a bs.length c)/\KB w o tg (.slice a bs.length c) bs:=by
 obtain⟨h8,vs,hl,hr,hd⟩:=h;obtain⟨u,hu,hb⟩:=hd t bs ht;have hlt:=(Qc.1 ht).1;obtain⟨a,c,rfl⟩:=hb.A6;rcases hr.form with ⟨_,h0⟩|⟨g,cap,e,_⟩
 ·omega
 ·subst e
  exact⟨g,cap,a,c,rfl,hr.cells t _ hu,hb⟩
def qpx (h:∀ t,t<M.hs.length->((M.p t).length:Int)<=(M.h t).b):M.done=true:=by
 unfold Mc.done;rw[ay];intro t ht;exact decide_eq_true (h t (aB.1 ht))
def ql4 {t:Nat}(ht:t<M.hs.length)(h:¬((M.p t).length:Int)<=(M.h t).b):M.done=false:=by
 unfold Mc.done
 cases hd:(List.range M.hs.length).all fun t=>decide (((M.p t).length:Int)<=(M.h t).b) with
 | false=>rfl
 | true=>exact absurd (of_decide_eq_true (ay.1 hd t (aB.2 ht))) h
def TX (h:BK w o m M) (hk:M.ok) :
  Ab ANa 14 #[ptr m.mb] w fun e w'=>e=O (.bool M.done)/\Ae w w w':=by
 obtain⟨ve,jb,_⟩:=h.A3;have nX:M.hs.length<=8:=by rw[hk.len];exact hk.n8
 have hlen:=hk.len;have dI:=h.hs;have hps:=h.ps;obtain⟨ph,ch,fV⟩:=dI.A6;obtain⟨pp,cp,hvp⟩:∃ pp cp,m.vp=.slice pp M.hs.length cp:=by
  obtain⟨_,vs,_,hr,_⟩:=hps;obtain⟨a,c,e⟩:=hr.A6;exact⟨a,c,by rw[e,hlen]⟩
 rw[fV]at dI jb;rw[hvp]at hps jb;have HB:=Qa (fun (t:Nat) (ht:t<M.hs.length)=>(hk.nb ht).2.1)
 have HZ:=Qa (fun (t:Nat) (ht:t<M.hs.length)=>Mc.Fp (M:=M) ht)
 have HP:=Qa (fun (t:Nat) (ht:t<M.hs.length)=>hps.at (Mc.Fu (M:=M) (t:=t) (by rw[<-hlen];exact ht)))
 have HR:=Qa dI;have HJ:=Qa jb;have HT:=Qa (qpx (M:=M));have HFa:=Qa (fun (t:Nat) (ht:t<M.hs.length) (h:¬((M.p t).length:Int)<=(M.h t).b)=>ql4 ht h)
 obtain⟨nh,fD⟩:=Ja0 M.hs.length;rw[<-fD]at HB HZ HP HR HJ HT HFa nX jb;rw[<-hlen]at HP;rw[<-fD]at HP;have cb:=jb.cell;clear h hk dI hps fV hvp hlen fD jb;go_in;go_wp2_with fail;clear cb;go_loopw [10] (fun ix wr=>∃ k:Nat,ix=I Z k/\k<=nh/\Ae w w wr/\∀ t,t<k->((M.p t).length:Int)<=(M.h t).b) (fun ix _=>nh-(intOf ix).toNat)
 case atStart=>exact⟨0,rfl,Aj _,qd w,fun t ht=>absurd ht (Nat.not_lt_zero t)⟩
 case round =>
  obtain⟨k,rfl,hkn,hb,hd⟩:=hrel;have HD:=Qa hd;have oz:=Qa hb;have HKN:=Qa hkn;clear hd;by_cases hlt:k<nh
  ·have eG:(k:Int)<(nh:Int):=by omega
   obtain⟨gq,e1,hcap,q⟩:=(HR.o.below hb).FX (HZ.o k hlt);obtain⟨gp,cp',a,c,e2,hcell,_⟩:=HP.o k hlt;injection e2 with e2 _ e3;subst e1 e2 e3;have hb0:=HB.o k hlt;have HF:=Qa (HFa.o k hlt);obtain⟨hw1,hw2⟩:=zc k (by omega)
   obtain⟨q0,q1,q2,q3,q4,q5,q6,q7,q8,q9,gB,gD,gP,gQ,gT⟩:=q;have yO:=Qa (fun (W:Aa)=>show Ab ANa 33 #[.slice a (M.p k).length c,(M.h k).v] W fun e w'=>e=O (.bool (decide (((M.p k).length:Int)<=(M.h k).b)))/\Ae W W w' from by
    have:=mn (M.h k) a (M.p k).length c W;rwa [decide_eq_false (show ¬(M.h k).b<0 by omega),Bool.false_or]at this)
   have ig:=Qa (show ((M.p k).length:Int)<=(M.h k).b↔((M.p k).length:Int)<=(M.h k).b from Iff.rfl);obtain⟨P,hP⟩:=Ja0 ((M.p k).length);obtain⟨z,hz⟩:=Ja0 (M.h k);rw[<-hz]at q0 q1 q2 q3 q4 q5 q6 q7 q8 q9 gB gD gP gQ gT yO HF ig;rw[<-hP]at yO HF ig hcell;have hcell2:wr.cell? ⟨gp,k,none⟩=some (.slice a P c):=cell_below hcell hb;have HPZ:=Qa (aa hP hz);have cb:=(HJ.o.below hb HJ.o.lt).cell;obtain⟨D,hD⟩:=Ja0 (decide ((P:Int)<=z.b));rw[<-hD]at yO;have HDD:=Qa hD;clear hP hz hcell hb0 hb hD;obtain⟨zb,zn,⟨a0,a1,a2,a3,a4,a5⟩,⟨s0,s1,s2,s3,s4,s5⟩,zl⟩:=z;simp only at q0 q1 q2 q3 q4 q5 q6 q7 q8 q9 gB gD gP gQ gT;unfold AE.v AE.cells at yO;simp only at yO;have jbr:=HJ.o.below oz.o HJ.o.lt;go_upto_region 4 with fail;obtain⟨W,hW⟩:=Ja0 (wr.alloc (ANb #[zb,zn,a0,a1,a2,a3,a4,a5,s0,s1,s2,s3,s4,s5,zl] 49));rw[<-hW];have jx:An W wr #[zb,zn,a0,a1,a2,a3,a4,a5,s0,s1,s2,s3,s4,s5,zl] 49:=by rw[hW];exact An.new wr _ _
   have jm:An W m.mb #[ptr m.y.sb,Ai (some ⟨gp,0,none⟩) nh cp,Ai (some ⟨gq,0,none⟩) nh ch,.int .i32 0,.int .u32 0,ve] 72:=by rw[hW];exact jbr.alloc _
   have hc3:W.cell? ⟨gp,k,none⟩=some (.slice a P c):=by rw[hW];exact cell_below hcell2 (qc (qd wr) _)
   have HBW:=Qa (show Ae w w W from by rw[hW];exact qc oz.o _)
   clear hW cb hcell2 q0 q1 q2 q3 q4 q5 q6 q7 q8 q9 gB gD gP gQ gT jbr;have l1:=fun (e:Later W) (i:Nat)=>Later.cell jm e i;have l2:=fun (e:Later W) (i:Nat)=>Later.cell jx e i;have l3:=fun (e:Later W)=>(e.2.cell (p:=⟨gp,k,none⟩) (SN hc3)).trans hc3;refine qy (by kernel_rfl) (by kernel_rfl) ?_
   repeat (go_big_quiet_step ((go_at_call 33;exact kv (yO.o _))))
   refine wpQuiet_nil ?_;rintro _ ⟨⟨wt,hbt⟩,rfl⟩;have vI:=Qa (qe HBW.o hbt);clear l1 l2 l3 hbt
   cases D with
   | true =>
    have hle:((M.p k).length:Int)<=(M.h k).b:=by
     have h1:=of_decide_eq_true HDD.o.symm;rw[HPZ.o.1]at h1;rw[<-HPZ.o.2];exact h1
    have yJ:=Qa hle;clear hle;go_wp2_with fail;go_roundw
    case rel=>exact⟨k+1,by simp,hlt,vI.o,fun t ht=>(Nat.lt_succ_iff_lt_or_eq.1 ht).elim (fun h=>HD.o t h) (fun h=>by rw[h];exact yJ.o)⟩
    case measure=>clear hw1 hw2;simp[intOf];omega
   | false =>
    have hle:M.done=false:=HF.o (Int.not_le.1 (of_decide_eq_false HDD.o.symm));have yJ:=Qa hle;clear hle;go_wp2_with fail;go_ret;exact⟨by rw[yJ.o];rfl,vI.o⟩
  ·obtain rfl:k=nh:=by omega
   go_wp2_with fail;go_ret;exact⟨by rw[HT.o HD.o];rfl,oz.o⟩
def QA (S:Am)(h:AE)(k:Nat):AE:={ h with r:=h.r.set (S.Bc (h.r.get k).toNat) k,s:=h.s.set (S.Bc (h.s.get k).toNat) k }
def GN (S:Am)(h:AE):Nat->AE
 | 0=>h
 | k+1=>QA S (GN S h k) k
def Kx (S:Am)(h:AE):GN S h 6=h.Fy S:=rfl
def Kv (S:Am)(h:AE){k:Nat}(hk:k<6):(GN S h k).r.get k=h.r.get k/\(GN S h k).s.get k=h.s.get k:=by
 rcases six hk with rfl|rfl|rfl|rfl|rfl|rfl<;>exact⟨rfl,rfl⟩
def Kh {w:Aa}{b:Nat}{t:TypeId}{h:AE}(j:An w b h.cells t){A:Nat}(hA:A<6)(v:Int):An (w.setCell ⟨b,8+A,none⟩ v) b ({ h with s:=h.s.set v A }:AE).cells t:=by
 have e1:∀ x,x=({ h with s:=h.s.set v A }:AE).cells->An (w.setCell ⟨b,8+A,none⟩ v) b x t->An (w.setCell ⟨b,8+A,none⟩ v) b ({ h with s:=h.s.set v A }:AE).cells t:=fun x e k=>by rw[<-e];exact k
 refine e1 _ ?_ (j.set (8+A) (I Z v));rcases six hA with rfl|rfl|rfl|rfl|rfl|rfl
 all_goals simp only[AE.cells,R6.set,List.setIfInBounds_toArray,aj,List.set_cons_succ,Nat.reduceAdd]
def T6 {w:Aa}{b:Nat}{t:TypeId}{h:AE}(j:An w b h.cells t){A:Nat}(hA:A<6):w.cell? ⟨b,8+A,none⟩=some (I Z (h.s.get A)):=by
 rw[j.cell];rcases six hA with rfl|rfl|rfl|rfl|rfl|rfl<;>rfl
def Kw (S:Am)(z:AE)(k:Nat):QA S (GN S z k) k={ (GN S z k).put k (S.Bc ((GN S z k).r.get k).toNat) with s:=(GN S z k).s.set (S.Bc ((GN S z k).s.get k).toNat) k }:=rfl
def qj3 (h:BK w o m M) (hk:M.ok) (t:Int) :
  Ab ANa 17 #[ptr m.mb,t] w fun e w'=>e=O (Ak #[(M.C9 t).1.v,.bool (M.C9 t).2])/\Ae w w w':=by
 obtain⟨ve,jb,_⟩:=h.A3;have dI:=h.hs;obtain⟨ph,ch,fV⟩:=dI.A6;rw[fV]at dI jb;unfold Mc.C9;by_cases h0:t<0
 ·rw[if_pos (.inl h0)]
  clear h hk dI fV jb;go_in;go_wp2_with fail;refine bodyPost_ret (pg (h:=Dt) (b6:=w.1.size) _ _ 4 5 rfl rfl rfl (An.new w _ _)) rfl ⟨rfl,qc (qd w) _⟩
 ·by_cases h1:(M.hs.length:Int)<=t
  ·rw[if_pos (.inr h1)]
   obtain⟨nh,fD⟩:=Ja0 M.hs.length;rw[<-fD]at h1 jb;have cb:=jb.cell;have lb:=jb.lt;clear h hk dI fV fD jb;go_in;go_wp2_with fail;refine bodyPost_ret (pg (h:=Dt) (b6:=w.1.size) _ _ 4 5 rfl rfl rfl (An.new w _ _)) rfl ⟨rfl,qc (qd w) _⟩
  ·rw[if_neg (fun e=>e.elim h0 h1)]
   obtain⟨T,rfl⟩:∃ T:Nat,t=T:=⟨t.toNat,by omega⟩
   rw[af];have hT:T<M.hs.length:=by omega
   have hz:=Mc.Fp (M:=M) hT;have mE:=Qa (fun (W:Aa) (hb:Ae w w W) (p:Nat)=>qkl (b:=m.mb) (h.st.below hb) hk.inv (by exact (jb.below hb jb.lt).cell 0) p)
   have HG:=Qa (hk.rg hz);obtain⟨gq,rfl,hcap,q⟩:=dI.FX hz;obtain⟨q0,q1,q2,q3,q4,q5,q6,q7,q8,q9,gB,gD,gP,gQ,gT⟩:=q;obtain⟨z,xQ⟩:=Ja0 (M.h T);rw[<-xQ]at q0 q1 q2 q3 q4 q5 q6 q7 q8 q9 gB gD gP gQ gT HG ⊢;obtain⟨nh,fD⟩:=Ja0 M.hs.length;rw[<-fD]at h1 hT jb;have cb:=jb.cell;have lb:=jb.lt;have lq:=dI.blt;have HSK:=Qa (Kx M.S z);obtain⟨S,hS⟩:=Ja0 M.S;rw[<-hS]at mE HSK ⊢;obtain⟨X,hX⟩:=Ja0 (z.Fy S);rw[<-hX]at HSK ⊢;have jZ:=An.new (w.alloc (.cells Li 49)) z.cells 49;have jA:=(An.new w Li 49).alloc (.cells z.cells 49);have hb0:Ae w w ((w.alloc (.cells Li 49)).alloc (.cells z.cells 49)):=qc (qc (qd w) _) _;obtain⟨A,hA⟩:=Ja0 w.1.size;have hA1:(w.alloc (.cells Li 49)).1.size=A+1:=by rw[hA];simp
   rw[hA1]at jZ;rw[<-hA]at jA;have HI:=Qa (aa jZ (aa jA hb0));have HZZ:=Qa (show Li=#[I Z 0,(),(),(),(),(),(),(),(),(),(),(),(),(),false] from rfl);clear h hk dI fV jb jZ jA hb0 hz xQ hS hA1 hX;go_in;go_wp2_with fail;have HAe:=Qa hA;rw[<-hA];clear hA cb q0 q1 q2 q3 q4 q5 q6 q7 q8 q9 gB gD gP gQ gT;go_loopw [27] (fun ix wr=>∃ k:Nat,ix=I Z k/\k<=6/\An wr (A+1) (GN S z k).cells 49/\An wr A Li 49/\Ae w w wr) (fun ix _=>6-(intOf ix).toNat)
   case atStart=>exact⟨0,rfl,by omega,HI.o⟩
   case round =>
    obtain⟨k,rfl,hk6,jB,jA,hb⟩:=hrel;clear HI;by_cases hlt:k<6
    ·have eG:(k:Int)<6:=by omega
     obtain⟨hw1,hw2⟩:=zc k (by omega)
     obtain⟨p,hp⟩:=HG.o.1 k hlt;obtain⟨p2,hp2⟩:=HG.o.2 k hlt;obtain⟨hg1,hg2⟩:=Kv S z hlt;have q2:=jy jB hlt;have q8:=T6 jB hlt;rw[hg1,hp]at q2;rw[hg2,hp2]at q8;have hs:=Kw S z k;rw[hg1,hg2,hp,hp2,af,af]at hs;have HS:=Qa hs;have yN:=Qa (mE.o wr hb p);have cb:wr.cell? ⟨m.mb,0,none⟩=wr.cell? ⟨m.mb,0,none⟩:=rfl;clear hs hg1 hg2 hp hp2 cb;go_wp2_with fail;refine yN.o.mono ?_;rintro e w3 ⟨rfl,hb3⟩;have xR:=jA.below hb3 jA.lt;have mZ:=jB.below hb3 jB.lt;have hbw:=qe hb hb3;have z3:=mZ.free;have l3:=mZ.lt;have j4:=SZ mZ hlt (S.Bc p);have xS:=xR.Ao (a:=⟨A+1,2+k,none⟩) (by show A≠A+1;omega) (I Z (S.Bc p))
     have hb4:Ae w w (w3.setCell ⟨A+1,2+k,none⟩ (I Z (S.Bc p))):=qo hbw (by show w.1.size<=A+1;have:=HAe.o;omega) _
     have z4:=j4.free;have l4:=j4.lt;have q3:w3.cell? ⟨A+1,2+k,none⟩=some (I Z p):=(hb3.cell (p:=⟨A+1,2+k,none⟩) jB.lt).trans q2;have q9:(w3.setCell ⟨A+1,2+k,none⟩ (I Z (S.Bc p))).cell? ⟨A+1,8+k,none⟩=some (I Z p2):=by
      have e:=T6 j4 hlt;rw[e];have e2:=T6 jB hlt;rw[q8]at e2;exact e2.symm
     have vU:=Qa (mE.o _ hb4 p2);have J4:=Qa j4;have JA4:=Qa xS;have HB4:=Qa hb4;clear jA jB xR mZ hb hb3 hbw j4 xS hb4 q2 q8;go_wp2_with fail;refine vU.o.mono ?_;rintro e w5 ⟨rfl,hb5⟩;have j5:=J4.o.below hb5 J4.o.lt;have z5:=j5.free;have l5:=j5.lt;have q5:w5.cell? ⟨A+1,8+k,none⟩=some (I Z p2):=(hb5.cell (p:=⟨A+1,8+k,none⟩) J4.o.lt).trans q9;have J6:=Qa (Kh j5 hlt (S.Bc p2));have JA6:=Qa ((JA4.o.below hb5 JA4.o.lt).Ao (a:=⟨A+1,8+k,none⟩) (by show A≠A+1;omega) (I Z (S.Bc p2)))
     have HB6:=Qa (qo (qe HB4.o hb5) (show w.1.size<=A+1 by have:=HAe.o;omega) (a:=⟨A+1,8+k,none⟩) (I Z (S.Bc p2)))
     clear j5 hb5 q3 q9 z3 l3 z4 l4;go_wp2_with fail;go_roundw
     case rel=>exact⟨k+1,by simp,by omega,by rw[show GN S z (k+1)=QA S (GN S z k) k from rfl,HS.o];exact J6.o,JA6.o,HB6.o⟩
     case measure=>simp[intOf];omega
    ·obtain rfl:k=6:=by omega
     rw[HSK.o]at jB;clear HSK mE HG;obtain⟨xb,xn,⟨b0,b1,b2,b3,b4,b5⟩,⟨d0,d1,d2,d3,d4,d5⟩,xl⟩:=X;have cB:=jB.cell;unfold AE.cells at cB;simp only at cB;have cA:=jA.cell;rw[HZZ.o]at cA;have zA:=jA.free;have lA:=jA.lt;have hres:=Qa (dc (g:=Dt) jA ⟨xb,xn,⟨b0,b1,b2,b3,b4,b5⟩,⟨d0,d1,d2,d3,d4,d5⟩,xl⟩);have hrb:=Qa (nc hb (show w.1.size<=A by have:=HAe.o;omega) ⟨xb,xn,⟨b0,b1,b2,b3,b4,b5⟩,⟨d0,d1,d2,d3,d4,d5⟩,xl⟩)
     clear jA jB hb;go_wp2_with fail;change bodyPost _ _ _ _ _ (Ds wr A ⟨xb,xn,⟨b0,b1,b2,b3,b4,b5⟩,⟨d0,d1,d2,d3,d4,d5⟩,xl⟩);generalize Ds wr A ⟨xb,xn,⟨b0,b1,b2,b3,b4,b5⟩,⟨d0,d1,d2,d3,d4,d5⟩,xl⟩=Y at *;exact bodyPost_ret (pg _ _ 4 5 rfl rfl rfl hres.o) rfl ⟨rfl,hrb.o⟩
end
section
variable {w w' : Aa} {o o' : Own}
def RB.A6 {v:Ac}{bs:List (List AD)}(h:RB w v bs):∃ a c,v=.slice a bs.length c:=by
 obtain⟨_,vs,_,_,_,hr,_⟩:=h;exact hr.A6
def RT.at' {v:Ac}{AZ:List (List (List AD))}(h:RT w v AZ){t:Nat}{bs:List (List AD)}(ht:AZ[t]?=some bs) :
  ∃ g cp a c,v=Ai (some ⟨g,0,none⟩) AZ.length cp/\w.cell? ⟨g,t,none⟩=some (.slice a bs.length c)/\RB w (.slice a bs.length c) bs:=by
 obtain⟨h8,vs,o,tg,hl,hr,hd⟩:=h;obtain⟨u,hu,hb⟩:=hd t bs ht;have hlt:=(Qc.1 ht).1;obtain⟨a,c,rfl⟩:=hb.A6;rcases hr.form with ⟨_,h0⟩|⟨g,cap,e,_⟩
 ·omega
 ·subst e
  exact⟨g,cap,a,c,rfl,hr.cells t _ hu,hb⟩
def RB.at' {v:Ac}{bs:List (List AD)}(h:RB w v bs){t:Nat}{l:List AD}(ht:bs[t]?=some l) :
  ∃ g cp a c o tg,v=Ai (some ⟨g,0,none⟩) bs.length cp/\w.cell? ⟨g,t,none⟩=some (.slice a l.length c)/\l.length<=12/\Row w o tg 44 5 (.slice a l.length c) l.length (kl (l.map AD.D)):=by
 obtain⟨h8,vs,o,tg,hl,hr,hd⟩:=h;obtain⟨u,hu,h12,o2,t2,hb⟩:=hd t l ht;have hlt:=(Qc.1 ht).1;obtain⟨a,c,rfl⟩:=hb.A6;rcases hr.form with ⟨_,h0⟩|⟨g,cap,e,_⟩
 ·omega
 ·subst e
  exact⟨g,cap,a,c,o2,t2,rfl,hr.cells t _ hu,h12,hb⟩
def qqw (l:List Pg.D):∀ u ∈ kl l,u.oneCell'=true:=by
 induction l with
 | nil=>intro u hu;simp[kl]at hu
 | cons d l ih =>
  intro u hu;have e:kl (d::l)=[I Z d.k,I Z d.a,I Z d.b,I Z d.i,I Z d.n]++kl l:=rfl;rw[e,Qs]at hu;rcases hu with hu|hu
  ·exact Wg u hu
  ·exact ih u hu
def qii {W:Aa}{b n:Nat}{l:List AE}{t:Tag}(h:An W b (ze l).toArray 49)(hn:l.length=n)(ht:o b=t)(h8:n<=8):Row W o t 49 15 (Ai (some ⟨b,0,none⟩) n n) n (ze l):=by
 have e:=VM l;rw[hn]at e;refine⟨⟨e,.inr ⟨b,n,(ze l).toArray,rfl,Aj _,h,Qk _,by simp only[maxLen];omega,by simp[e],by simp[e,List.take_of_length_le]⟩⟩,fun k hk=>?_⟩
 have:b=k:=by simpa [Value.ownBlock] using hk
 subst this;exact ht
def Um (n r u:Nat)(b:Int)(h1:16<=n)(h2:n<=16384)(hr:r<=200)(hu:u<=200){v:Ac}{AZ:List (List (List AD))}(ht:Er AZ)(o:Own)(id:Nat)(w:Aa)(hv:RT w v AZ)(hfree:∀ b,b<w.1.size->(o b).1≠id/\(o b).1≠id+2) :
  Ab ANa 7 #[n,r,u,b,v] w fun e w'=>∃ m o',e=O (Ak #[ptr m.mb,()])/\m.y.l.id=id /\
   BK w' o' m (Mc.fresh (Am.fresh n AZ.length r u (EV b).toNat) AZ)/\Stp (fun _=>False) o o' w w':=by
 obtain⟨iD,hi5,hs5,hy5,hz5⟩:=WV;obtain⟨iS,hi1,hs1,hy1,hz1⟩:=WR;obtain⟨iB,hi2,hs2,hy2,hz2⟩:=VZ;have huD:=underlying45;have huS:=underlying46;have huB:=underlying22;have hck:=XD v (dD AZ) w hv.at;unfold uc at hck;rw[ht.check]at hck;have HCk:=Qa (show Ab ANa 19 #[v] w fun e w'=>e=O (Ak #[(),Al #[(),(),()]])/\Ae w w w' from hck)
 obtain⟨k,hk⟩:=Ja0 AZ.length;have k1:1<=k:=by rw[hk];exact ht.n1
 have k8:k<=8:=by rw[hk];exact ht.n8
 have hmk:=@MQ k k1 k8;have HN:=Qa (fun (W:Aa)(hb:Ae w w W)=>Pz n k r u b h1 h2 k1 k8 hr hu (ext o w (id+1,0)) id W (fun c hc=>by
  by_cases hlt:c<w.1.size
  ·rw[qk hlt];exact (hfree c hlt).1
  ·rw[qq (by omega)];simp))
 have vK:=Qa hfree;have HV:=Qa hv;have gU:=Qa ht;obtain⟨pv,cv,rfl⟩:∃ pv cv,v=.slice pv k cv:=by
  obtain⟨_,vs,_,_,_,hr',_⟩:=hv;rw[hk];exact hr'.A6
 rw[<-hk];have HK:=Qa hk;have kI1:(1:Int)<=(k:Int):=by omega
 have kI8:(k:Int)<=8:=by omega
 generalize (EV b).toNat=B at *;clear hck hfree hv ht hk h1 h2 hr hu;go_in;go_wp2_with (first
  | (go_at_call 19;refine HCk.o.mono ?_;rintro e w1 ⟨rfl,hb1⟩)
  | (go_at_call 20;refine (HN.o _ (qc hb1 _)).mono ?_;rintro e w2 ⟨y,o1,rfl,hid,hS,hs⟩)
  | fail)
 obtain⟨W0,hW0⟩:=Ja0 ((w2.alloc (.cells (ze (Ad k Dt)).toArray 49)).alloc (ANb #[ptr y.sb,Ai none 0 0,Ai (some ⟨w2,0,none⟩) k k,.int .i32 0,.int .u32 0,Ai none 0 0] 72));rw[<-hW0];obtain⟨o2,ho2⟩:∃ o2:Own,o2=fun b=>if b=w2.1.size then (id+2,2) else if b=w2.1.size+1 then (id+2,0) else o1 b:=⟨_,rfl⟩
 have hbW:Ae w2 w2 W0:=by rw[hW0];exact qc (qc (qd w2) _) _
 have o2l:∀ b,b<w2.1.size->o2 b=o1 b:=fun b hb=>by rw[ho2];show (if _ then _ else _)=_;rw[if_neg (by omega),if_neg (by omega)]
 have o2g:o2 w2=(id+2,2):=by rw[ho2];exact if_pos rfl
 have o2m:o2 (w2.1.size+1)=(id+2,0):=by rw[ho2];show (if _ then _ else _)=_;rw[if_neg (by omega),if_pos rfl]
 have sA:Stp (fun _=>False) o (ext o w (id+1,0)) w (w1.alloc (ANb #[(),(),()] 55)):=(Stp.of_below (qc hb1 _)).ext _ _ (Qk _)
 have sC:Stp (fun _=>False) o1 o2 w2 W0:=⟨hbW.os,hbW.tape,hbW.output,hbW.size,o2l,fun b hb _=>hbW.block b hb⟩
 have s2:=(sA.trans hs).trans sC;have S0:=hS.Ar sC fun _ h=>h
 have R0:Row W0 o2 (id+2,2) 49 15 (Ai (some ⟨w2,0,none⟩) k k) k (ze (Ad k Dt)):=qii (by rw[hW0];exact (An.new w2 _ _).alloc _) Qx o2g k8
 have B0:An W0 (w2.1.size+1) #[ptr y.sb,Ai none 0 0,Ai (some ⟨w2,0,none⟩) k k,.int .i32 0,.int .u32 0,Ai none 0 0] 72:=by rw[hW0];exact An.Ax _ _ _ _ _ (by simp) rfl
 obtain⟨mb,hmb⟩:=Ja0 (w2.1.size+1);obtain⟨g0,hg0⟩:=Ja0 w2.1.size;rw[<-hmb]at B0 o2m ⊢;rw[<-hg0]at B0 R0 ⊢;have HS2:=Qa s2;have iX:=Qa (aa S0 (aa R0 hid));have HB0:=Qa B0;have HOm:=Qa o2m;have Aak:=Qa (show mb<W0.1.size from B0.lt);clear hW0 ho2 hbW o2l o2g o2m sA sC s2 S0 R0 B0 hs hS hid hmb hg0 hb1 hmk HN HCk;go_loopw [49] (fun ix wr=>∃ (q:Nat)(vp:Ac)(oo:Own),ix=I Z q/\q<=k/\An wr mb #[ptr y.sb,vp,Ai (some ⟨g0,0,none⟩) k k,.int .i32 0,.int .u32 0,Ai none 0 0] 72/\KT wr oo (id+2,1) (id+2,4) vp (AZ.take q)/\Stp (fun t=>t=(id+2,0)\/t=(id+2,4)) o2 oo W0 wr) (fun ix _=>k-(intOf ix).toNat)
 case atStart=>exact⟨0,_,o2,rfl,Aj _,HB0.o,KT.nil _ _ _ _,Stp.refl _ _ _⟩
 case round =>
  clear HB0;obtain⟨q,vp,oo,rfl,hqk,hB,hKT,hs⟩:=hrel;obtain⟨wo,rfl⟩:=Ja0 wr;have hbw:Ae w w wo:=((HS2.o.mono fun _ h=>h.elim).trans hs).below fun b hb e=>by
   have:=(vK.o b hb).2;rcases e with e|e<;>rw[e]at this<;>simp at this
  by_cases hlt:q<k
  ·have qI:(q:Int)<(k:Int):=by omega
   have HW:=Qa (zc q (by omega))
   obtain⟨p,hp⟩:∃ p,AZ[q]?=some p:=⟨_,Qb (by rw[<-HK.o];exact hlt)⟩
   obtain⟨g,cp,a,c,ev,hcell,hRB⟩:=(HV.o.below hbw).at' hp;injection ev with ev1 ev2 ev3;clear ev2;subst ev1 ev3;obtain⟨h6p,hdp⟩:=gU.o.dk p (Qe hp);obtain⟨_,vs,hvl,hrow,hvs⟩:=hKT;have htk:(AZ.take q).length=q:=by rw[Qp];have:=HK.o;omega
   rw[htk]at hrow hvl;obtain⟨pp,cpp,rfl⟩:=hrow.A6;have cb:=hB.cell;have lb:=hB.lt;have HB:=Qa hB;have HRB:=Qa hRB;have qY:=Qa hrow;have HVs:=Qa hvs;have HVl:=Qa hvl;have HS:=Qa hs;have fI:=Qa (show AZ.take (q+1)=AZ.take q++[p] from by rw[ag,hp];rfl)
   have HLen:=Qa htk;have H6:=Qa h6p;obtain⟨np,pE⟩:=Ja0 p.length;rw[<-pE]at hcell h6p;have qB:=Qa pE;have pY:=Qa (show wo.cell? ⟨g,q,none⟩=wo.cell? ⟨g,q,none⟩ from rfl);clear hB hs hp hRB hdp hrow hvs hvl htk pE pY;go_wp2_with fail;clear cb hcell;go_loopw [19,55] (fun vo jx wi=>∃ (j:Nat)(oi:Own),jx=I Z j/\j<=np/\Lc wi oi (1,0) (3,0) vo (p.take j)/\Ae wo wo wi/\(∀ b,b<wo.1.size->oi b=(0,0))) (fun _ jx _=>np-(intOf jx).toNat)
   case atStart=>exact⟨0,fun _=>(0,0),rfl,Aj _,Lc.nil _ _ _ _,qd wo,fun _ _=>rfl⟩
   case round =>
    obtain⟨j,oi,rfl,hjn,wQ,hbi,hOi⟩:=hrel;obtain⟨wi,rfl⟩:=Ja0 wr;by_cases hlt2:j<np
    ·have qG:(j:Int)<(np:Int):=by omega
     obtain⟨l,hl⟩:∃ l,p[j]?=some l:=⟨_,Qb (by rw[<-qB.o];exact hlt2)⟩
     obtain⟨g2,cp2,a2,c2,o3,t3,ev,hcell2,hl12,pI⟩:=(HRB.o.below hbi).at' hl;injection ev with ev1 ev2 ev3;try clear ev2
     subst ev1 ev3;have HW3:=Qa (zc j (by have:=H6.o;have:=qB.o;omega))
     obtain⟨_,us,zQ,hur,lC⟩:=wQ;have htj:(p.take j).length=j:=by rw[Qp];have:=qB.o;omega
     rw[htj]at hur zQ;obtain⟨pu,cu,rfl⟩:=hur.A6;have hk1:0+l.length<=maxLen:=by simp only[maxLen];omega
     have hk2:(0+l.length)*40<=140737488355328:=by omega
     have dE:j+1<=maxLen:=by simp only[maxLen];omega
     have Adl:(j+1)*24<=140737488355328:=by omega
     obtain⟨nl,hnl⟩:=Ja0 l.length;rw[<-hnl]at hcell2 pI hk1 hk2;have Ajk:=Qa pI;have HX7:=Qa (fun (w7:Aa)(p1:Option Addr)(c1:Nat)(hr1:Row w7 (fo wi) (1,0) 44 5 (.slice p1 nl c1) nl (kl (l.map AD.D)))(xA:Ae wi wi w7) =>
      show Stp (fun _=>False) oi (ext oi wi (1,0)) wi (w7.alloc (ANb #[.slice p1 nl c1] 45))/\KD (w7.alloc (ANb #[.slice p1 nl c1] 45)) (ext oi wi (1,0)) (1,0) (.slice p1 nl c1) l /\
       Row (w7.alloc (ANb #[.slice p1 nl c1] 45)) (ext oi wi (1,0)) (3,0) 45 1 (.slice pu j cu) j us from by
       have sX:Stp (fun _=>False) oi (ext oi wi (1,0)) wi (w7.alloc (ANb #[.slice p1 nl c1] 45)):=(Stp.of_below (qc xA _)).ext _ _ (Qk _);exact⟨sX,⟨hl12,by rw[<-hnl];exact (hr1.out oi (1,0)).below (qc (qd w7) _)⟩,hur.Ar sX fun h=>h⟩)
     have nO:=Qa (fun (w7 w8:Aa)(p1:Option Addr)(c1:Nat)(v2:Ac)(o9:Own)(sX:Stp (fun _=>False) oi (ext oi wi (1,0)) wi (w7.alloc (ANb #[.slice p1 nl c1] 45)))(hd:KD (w7.alloc (ANb #[.slice p1 nl c1] 45)) (ext oi wi (1,0)) (1,0) (.slice p1 nl c1) l)
       (iJ:Stp (fun t=>t=(3,0)) (ext oi wi (1,0)) o9 (w7.alloc (ANb #[.slice p1 nl c1] 45)) w8)(hown2:Row w8 o9 (3,0) 45 1 v2 (j+1) (us++[.slice p1 nl c1])) =>
      show Lc w8 o9 (1,0) (3,0) v2 (p.take (j+1))/\Ae wo wo w8/\(∀ b,b<wo.1.size->o9 b=(0,0)) from by
       have e:p.take (j+1)=p.take j++[l]:=by rw[ag,hl];rfl
       have st:Stp (fun t=>t=(3,0)) oi o9 wo w8:=((Stp.of_below hbi).trans (sX.mono fun _ h=>h.elim)).trans iJ;refine⟨?_,st.below fun b hb e=>?_,fun b hb=>(st.tags b hb).trans (hOi b hb)⟩
       ·rw[e]
        have h6:=H6.o;have hn6:=qB.o;exact Lc.snoc (by rw[htj];omega) (by rw[htj];exact zQ) lC hd sX iJ (hown2.ite (by rw[htj]) rfl)
       ·rw[hOi b hb]at e;simp at e)
     obtain⟨hw3,hw4⟩:=HW3.o;clear hl pI hl12 zQ hur lC htj hbi hOi hnl;go_wp2_with (first
      | (at_builtin;refine zu _ rfl _ _ _ rfl 44 iD _ 5 40 huD hi5 hz5 hs5 hy5 rfl (by decide) (fo wi) (1,0) _ 0 [] rfl (Row.nil _ _ _ _ _) o3 t3 _ nl (kl (l.map AD.D)) rfl Ajk.o (qqw _) hk1 hk2 ?_;intro v1 w7 hown1 sM;have hr1:=yy (qd wi) hown1;have xA:=xz (qd wi) sM;simp only[Nat.zero_add,List.nil_append]at hr1;obtain⟨p1,c1,rfl⟩:=hr1.A6;obtain⟨sX,hd7,rn⟩:=HX7.o w7 p1 c1 hr1 xA;have jn:=An.new w7 #[.slice p1 nl c1] 45;clear hr1 xA hown1 sM)
      | (at_builtin;refine qg _ rfl _ _ _ rfl 45 iS _ 1 24 huS hi1 hz1 hs1 hy1 rfl (by decide) (ext oi wi (1,0)) (3,0) _ _ _ rfl rn ⟨w7,0,none⟩ 1 1 [.slice p1 nl c1] rfl rfl (qx jn) ue dE Adl ?_;intro v2 w8 hown2 iJ)
      | fail)
     have hSn:=nO.o w7 w8 p1 c1 v2 _ sX hd7 iJ hown2;clear sX hd7 iJ hown2 rn jn;go_roundw
     case rel=>exact⟨j+1,_,by simp,hlt2,hSn⟩
     case measure=>clear hw3 hw4 hk1 hk2 dE Adl;simp[intOf];omega
    ·obtain rfl:j=np:=by omega
     rw[qB.o,ai]at wQ;have rT:=wQ.whole (n:=wo.1.size) hOi oo (id+2,1);obtain⟨av,cv',rfl⟩:=rT.A6;rw[<-qB.o]at rT;rw[<-qB.o];have jB:=HB.o.below hbi HB.o.lt;have sY:Stp (fun _=>False) oo (ext oo wo (id+2,1)) wo (wi.alloc (ANb #[.slice av j cv'] 46)):=(Stp.of_below (qc hbi _)).ext _ _ (Qk _);have rn2:=qY.o.Ar sY fun h=>h;have jT:q+1<=maxLen:=by simp only[maxLen];omega
     have oZ:(q+1)*24<=140737488355328:=by omega
     have HFx:=Qa (fun (w4:Aa)(o4:Own)(p4:Option Addr)(c4:Nat)(iG:Row w4 o4 (id+2,4) 46 1 (.slice p4 (q+1) c4) (q+1) (vs++[.slice av j cv']))(gL:Stp (fun t=>t=(id+2,4)) (ext oo wo (id+2,1)) o4 (wi.alloc (ANb #[.slice av j cv'] 46)) w4) =>
      show An w4 mb #[ptr y.sb,.slice pp q cpp,Ai (some ⟨g0,0,none⟩) k k,.int .i32 0,.int .u32 0,Ai none 0 0] 72/\An (w4.setCell ⟨mb,1,none⟩ (.slice p4 (q+1) c4)) mb #[ptr y.sb,.slice p4 (q+1) c4,Ai (some ⟨g0,0,none⟩) k k,.int .i32 0,.int .u32 0,Ai none 0 0] 72 /\
       KT (w4.setCell ⟨mb,1,none⟩ (.slice p4 (q+1) c4)) o4 (id+2,1) (id+2,4) (.slice p4 (q+1) c4) (AZ.take (q+1))/\Stp (fun t=>t=(id+2,0)\/t=(id+2,4)) o2 o4 W0 (w4.setCell ⟨mb,1,none⟩ (.slice p4 (q+1) c4)) from by
       have eo:oo mb=(id+2,0):=(HS.o.tags _ Aak.o).trans HOm.o;have e6:ext oo wo (id+2,1) mb=(id+2,0):=(qk HB.o.lt).trans eo;have jb4:=(jB.alloc (ANb #[.slice av j cv'] 46)).Ar gL (by rw[e6];simp)
       have e4:o4 mb=(id+2,0):=(gL.tags _ (jB.alloc _).lt).trans e6;have k5:Stp (fun t=>t=(id+2,0)) o4 o4 w4 (w4.setCell ⟨mb,1,none⟩ (.slice p4 (q+1) c4)):=(Stp.refl _ o4 w4).setCell (by show o4 mb=_;exact e4) _
       have kt:KT w4 o4 (id+2,1) (id+2,4) (.slice p4 (q+1) c4) (AZ.take q++[p]):=KT.snoc (by simp) (by rw[HLen.o];omega) (by rw[HLen.o];exact HVl.o) HVs.o (rT.Ar (Stp.of_below (T:=fun _=>False) (qc (qd wi) _)) fun h=>h) sY gL (iG.ite (by rw[HLen.o]) rfl)
       refine⟨jb4,jb4.set 1 _,?_,?_⟩
       ·rw[fI.o];exact kt.Ar k5 (by simp) (by simp)
       ·exact (HS.o.trans ((sY.mono fun _ h=>h.elim).trans (gL.mono fun _ h=>.inr h))).trans (k5.mono fun _ h=>.inl h))
     have cb:=jB.cell;have lb:=jB.lt;have HRn:=Qa rn2;obtain⟨hw1,hw2⟩:=HW.o;clear wQ rT jB sY rn2 hbi hOi hlt2 hjn;go_wp2_with (first
      | (at_builtin;refine qg _ rfl _ _ _ rfl 46 iB _ 1 24 huB hi2 hz2 hs2 hy2 rfl (by decide) (ext oo wo (id+2,1)) (id+2,4) _ _ _ rfl HRn.o ⟨wi,0,none⟩ 1 1 [.slice av j cv'] rfl rfl (qx (An.new wi _ _)) ue jT oZ ?_;intro v4 w4 iG gL;obtain⟨p4,c4,rfl⟩:=iG.A6;obtain⟨j4,hfx⟩:=HFx.o _ _ _ _ iG gL;have c4':=j4.cell;have z4:=j4.free;have l4:=j4.lt)
      | fail)
     clear iG gL j4;go_roundw
     case rel=>exact⟨q+1,_,_,by simp,hlt,hfx⟩
     case measure=>clear hw1 hw2 jT oZ;simp[intOf];omega
  ·obtain rfl:q=k:=by omega
   rw[HK.o,ai]at hKT;have hM:BK wo oo ⟨mb,y,vp,Ai (some ⟨g0,0,none⟩) q q⟩ (Mc.fresh (Am.fresh n q r u B) AZ):=by
    obtain⟨hS0,hR0,hid⟩:=iX.o;refine⟨⟨Ai none 0 0,hB,Row.nil _ _ _ _ _⟩,hS0.Ar hs fun j e=>by rw[hid]at e;simp at e,?_,?_,?_⟩
    ·show KT wo oo (y.l.id+2,1) (y.l.id+2,4) vp AZ
     rw[hid];exact hKT
    ·show Row wo oo (y.l.id+2,2) _ 15 _ (Ad AZ.length Dt).length (ze (Ad AZ.length Dt))
     rw[Qx,<-HK.o,hid];exact hR0.Ar hs (by simp)
    ·show oo mb=(y.l.id+2,0)
     rw[hid];exact (hs.tags _ Aak.o).trans HOm.o
   have HFin:=Qa (aa hM (((HS2.o.mono fun _ h=>h.elim).trans hs).strict fun b hb e=>by
    have:=(vK.o b hb).2;rcases e with e|e<;>rw[e]at this<;>simp at this))
   clear hM hB hKT hs hbw hlt hqk;go_wp2_with fail;go_ret2;exact⟨_,oo,rfl,iX.o.2.2,HFin.o.1,HFin.o.2⟩
end
def uj:∀ (l:List AE)(ms:List Nat),(kn l ms).length=l.length
 | [],_=>rfl
 | _::l,ms=>congrArg (·+1) (uj l (ms.drop 12))
def VR:∀ (l:List AE)(h:AE)(ms:List Nat),kn (l++[h]) ms=kn l ms++[h.place (ms.drop (l.length*12))]
 | [],h,ms=>rfl
 | z::l,h,ms=>by
  show z.place ms::kn (l++[h]) (ms.drop 12)=z.place ms::(kn l (ms.drop 12)++[h.place (ms.drop ((l.length+1)*12))]);rw[VR l h (ms.drop 12),aC,show 12+l.length*12=(l.length+1)*12 from by omega]
def GM (hs:List AE)(ms:List Nat)(k:Nat):List AE:=kn (hs.take k) ms++hs.drop k
def Jv (hs:List AE)(ms:List Nat)(k:Nat):(GM hs ms k).length=hs.length:=by
 unfold GM;rw[Qd,uj,Qp,aA];omega
def Ju (hs:List AE)(ms:List Nat):GM hs ms hs.length=kn hs ms:=by
 unfold GM;rw[ai,List.drop_length,List.append_nil]
def X6 {hs:List AE}(ms:List Nat){k:Nat}{z:AE}(h:hs[k]?=some z):(GM hs ms k)[k]?=some z:=by
 have hk:=(Qc.1 h).1;have e:(kn (hs.take k) ms).length=k:=by rw[uj,Qp];omega
 unfold GM;rw[Ql (by omega),e,aD,List.getElem?_drop,Nat.add_zero,h]
def qqq {hs:List AE}(ms:List Nat){k:Nat}{z:AE}(h:hs[k]?=some z):GM hs ms (k+1)=(GM hs ms k).set k (z.place (ms.drop (k*12))):=by
 have hk:=(Qc.1 h).1;have e0:(hs.take k).length=k:=by rw[Qp];omega
 have e:(kn (hs.take k) ms).length=k:=by rw[uj,e0]
 have e2:hs.drop k=z::hs.drop (k+1):=by
  rw[List.drop_eq_getElem_cons hk];congr 1;rw[Qb hk]at h;injection h
 unfold GM;rw[ag,h,Option.toList_some,VR,e0,List.set_append_right _ _ (by omega),e,aD,e2,aj,List.append_assoc]
 rfl
def Ee.QG {w:Aa}{g off c:Nat}{l:List Nat}(h:Ee w g off l c)(hl:12<=l.length)(r s:R6)(hr:r=R6.of l)(hs:s=R6.of (l.drop 6)):∀ j,j<12->w.cell? ⟨g,off+j,none⟩ =
  #[Value.int .i64 r.a0,r.a1,r.a2,r.a3,r.a4,r.a5,s.a0,s.a1,s.a2,s.a3,s.a4,s.a5][j]?:=by
 subst hr hs;have g:=h.at';match l,hl,g with
 | x0::x1::x2::x3::x4::x5::x6::x7::x8::x9::tH::tJ::l,_,g =>
  intro j hj;obtain rfl|rfl|rfl|rfl|rfl|rfl|rfl|rfl|rfl|rfl|rfl|rfl:j=0\/j=1\/j=2\/j=3\/j=4\/j=5\/j=6\/j=7\/j=8\/j=9\/j=10\/j=11:=by omega
  all_goals exact g _ _ rfl
section
variable {w w' : Aa} {o o' : Own} {m : Cd} {M : Mc}
def qh0 (h:BK w o m M)(nX:M.hs.length<=8){g c:Nat}{ms:List Nat}(hv:Ee w g 0 ms c)(hg:(o g).1=m.y.l.id+1)(hn:ms.length=M.roots.length) :
  Ab ANa 24 #[ptr m.mb,Ai (some ⟨g,0,none⟩) ms.length c] w fun e w'=>e=O (Ak #[])/\BK w' o m { M with hs:=kn M.hs ms }/\Stp (fun t=>t=(m.y.l.id+2,2)) o o w w':=by
 obtain⟨ve,jb,hrp⟩:=h.A3;have dE:ms.length=M.hs.length*12:=by rw[hn];exact cf _
 have dI:=h.hs;have HF:=Qa (fun (w':Aa)(hr:Row w' o (m.y.l.id+2,2) 49 15 m.vh M.hs.length (ze (kn M.hs ms)))(hs:Stp (fun t=>t=(m.y.l.id+2,2)) o o w w') =>
  show BK w' o m { M with hs:=kn M.hs ms } from
   ⟨⟨ve,jb.Ar hs (by rw[h.om];simp),hrp.Ar hs (by simp)⟩,h.st.Ar hs (by simp),h.ps.Ar hs (by simp) (by simp),by show Row w' o _ _ 15 m.vh (kn M.hs ms).length _;rw[uj];exact hr,(hs.tags _ jb.lt).trans h.om⟩)
 have HJ:=Qa (fun (w':Aa)(hs:Stp (fun t=>t=(m.y.l.id+2,2)) o o w w')=>show An w' m.mb #[ptr m.y.sb,m.vp,m.vh,.int .i32 0,.int .u32 0,ve] 72 from jb.Ar hs (by rw[h.om];simp))
 have HG:=Qa (show ¬(fun t=>t=(m.y.l.id+2,2)) (o g) from fun e=>by have e:o g=(m.y.l.id+2,2):=e;rw[e]at hg;simp at hg)
 obtain⟨hs,zL⟩:=Ja0 M.hs;obtain⟨nh,fD⟩:=Ja0 hs.length;obtain⟨ph,ch,fV⟩:=dI.A6;rw[<-zL,<-fD]at fV;rw[fV]at HF HJ jb dI;rw[<-zL]at HF dI nX dE ⊢;rw[<-fD]at HF dI nX dE;have HV:=Qa hv;have HR:=Qa dI;have HN:=Qa fD;have HML:=Qa dE;obtain⟨L,hL⟩:=Ja0 ms.length;rw[<-hL]at HML ⊢;have HL:=Qa hL;have cb:=jb.cell;clear h hv hg hn hrp dI dE zL fD fV hL jb;go_in;go_wp2_with fail;clear cb;go_loopw [1,12] (fun vv ix wr=>∃ (k off C:Nat),ix=I Z k/\vv=Ai (some ⟨g,off,none⟩) ((nh-k)*12) C/\k<=nh/\Ee wr g off (ms.drop (k*12)) C/\Row wr o (m.y.l.id+2,2) 49 15 (.slice ph nh ch) nh (ze (GM hs ms k))/\Stp (fun t=>t=(m.y.l.id+2,2)) o o w wr) (fun _ ix _=>nh-(intOf ix).toNat)
 case atStart=>exact⟨0,0,c,rfl,by rw[HML.o];rfl,Aj _,HV.o,HR.o,Stp.refl _ _ _⟩
 case round =>
  obtain⟨k,off,C,rfl,rfl,hkn,hP,hR,hS⟩:=hrel;by_cases hlt:k<nh
  ·have eG:(k:Int)<(nh:Int):=by omega
   obtain⟨z,hz⟩:∃ z,hs[k]?=some z:=⟨_,Qb (by rw[<-HN.o];exact hlt)⟩
   obtain⟨gq,rfl,hcap,q⟩:=hR.FX (X6 ms hz);obtain⟨hw1,hw2⟩:=zc k (by omega)
   have hdl:(ms.drop (k*12)).length=(nh-k)*12:=by
    rw[aA];have h1:=HML.o;have h2:=HL.o;omega
   obtain⟨Q,hQ⟩:=Ja0 ((nh-k)*12);have hQ2:(nh-(k+1))*12=Q-12:=by omega
   rw[<-hQ]at hdl ⊢;have wR:12<=Q:=by omega
   have hQC:Q<=C:=by rw[<-hdl];exact hP.cap
   have i1:(12:Int)<=(Q:Int):=by omega
   have i2:(12:Int)<=(C:Int):=by omega
   have i3:(Q:Int)<=(C:Int):=by omega
   obtain⟨dW,hoff,hP2⟩:=hP.drop (n:=12) (by rw[hdl];exact wR)
   rw[aC,show k*12+12=(k+1)*12 from by omega]at hP2
   obtain⟨r,hr⟩:=Ja0 (R6.of (ms.drop (k*12)));obtain⟨s,dU⟩:=Ja0 (R6.of ((ms.drop (k*12)).drop 6));have hpl:z.place (ms.drop (k*12))=⟨z.b,z.n,r,s,z.l⟩:=by rw[hr,dU];rfl
   have HTW:=Qa (hP.QG (by rw[hdl];exact wR) r s hr dU)
   have htk:=qqq ms hz;rw[hpl]at htk;have nQ:=Qa htk;have jb:=HJ.o wr hS;have cb:=jb.cell;have hks:k<(GM hs ms k).length:=by rw[Jv,<-HN.o];exact hlt
   clear hr dU hpl htk hQ;obtain⟨b0,b1,b2,b3,b4,b5⟩:=r;obtain⟨d0,d1,d2,d3,d4,d5⟩:=s;obtain⟨zb,zn,⟨a0,a1,a2,a3,a4,a5⟩,⟨s0,s1,s2,s3,s4,s5⟩,zl⟩:=z;obtain⟨q0,q1,q2,q3,q4,q5,q6,q7,q8,q9,gB,gD,gP,gQ,gT⟩:=q;simp only at q0 q1 q2 q3 q4 q5 q6 q7 q8 q9 gB gD gP gQ gT;have lZ:=Qa (fun W=>show Ab ANa 53 #[Al #[zb,zn,a0,a1,a2,a3,a4,a5,s0,s1,s2,s3,s4,s5,zl]] W fun e w'=>∃ b,e=O (Ai (some ⟨b,0,none⟩) 12 12)/\Ae W W w' from
    (Xf ⟨zb,zn,⟨a0,a1,a2,a3,a4,a5⟩,⟨s0,s1,s2,s3,s4,s5⟩,zl⟩ W).mono fun e w' ⟨h1,_,h3⟩=>⟨_,h1,h3⟩)
   have HRe:=Qa (fun (W:Aa)(hb:Ae wr wr W)=>show Ab ANa 54 #[Al #[zb,zn,a0,a1,a2,a3,a4,a5,s0,s1,s2,s3,s4,s5,zl],Ai (some ⟨g,off,none⟩) 12 C] W fun e w'=>e=O (Ak #[Al #[zb,zn,b0,b1,b2,b3,b4,b5,d0,d1,d2,d3,d4,d5,zl],true])/\Ae W W w' from
    qks ⟨zb,zn,⟨a0,a1,a2,a3,a4,a5⟩,⟨s0,s1,s2,s3,s4,s5⟩,zl⟩ g off C ⟨b0,b1,b2,b3,b4,b5⟩ ⟨d0,d1,d2,d3,d4,d5⟩ W (by omega) (Qn hP.lt hb.size) (fun j hj=>(hb.cell (p:=⟨g,off+j,none⟩) hP.lt).trans (HTW.o j hj)))
   have HX:=Qa (fun (W:Aa)(hb:Ae wr wr W)=>show Row (Kl W gq (k*15) ⟨zb,zn,⟨b0,b1,b2,b3,b4,b5⟩,⟨d0,d1,d2,d3,d4,d5⟩,zl⟩) o (m.y.l.id+2,2) 49 15 (Ai (some ⟨gq,0,none⟩) nh ch) nh (ze (GM hs ms (k+1)))/\Ee (Kl W gq (k*15) ⟨zb,zn,⟨b0,b1,b2,b3,b4,b5⟩,⟨d0,d1,d2,d3,d4,d5⟩,zl⟩) g dW (ms.drop ((k+1)*12)) (C-12)/\Stp (fun t=>t=(m.y.l.id+2,2)) o o w (Kl W gq (k*15) ⟨zb,zn,⟨b0,b1,b2,b3,b4,b5⟩,⟨d0,d1,d2,d3,d4,d5⟩,zl⟩) from by
    have rb:=hR.below hb;have k1:Stp (fun t=>t=(m.y.l.id+2,2)) o o W (Kl W gq (k*15) ⟨zb,zn,⟨b0,b1,b2,b3,b4,b5⟩,⟨d0,d1,d2,d3,d4,d5⟩,zl⟩):=Uo (Stp.refl _ o W) rb.EB _;exact⟨by rw[nQ.o];exact X3 rb hks _,(hP2.below hb).Ar k1 HG.o,(hS.trans (Stp.of_below hb)).trans k1⟩)
   have HRr:=Qa hR;have oI:=Qa hQ2;have HZ:=Qa hz;clear hz hdl wR hQC hP hP2 hS hks hR hQ2;go_wp2_with (first
    | (go_at_call 53;refine (lZ.o _).mono ?_;rintro e w3 ⟨b3',rfl,hb3⟩)
    | fail)
   have jx:=(An.new wr #[zb,zn,a0,a1,a2,a3,a4,a5,s0,s1,s2,s3,s4,s5,zl] 49).below hb3 (An.new wr #[zb,zn,a0,a1,a2,a3,a4,a5,s0,s1,s2,s3,s4,s5,zl] 49).lt;have gH:=qe (qc (qd wr) _) hb3;have j3:=jb.below gH jb.lt;clear cb q0 q1 q2 q3 q4 q5 q6 q7 q8 q9 gB gD gP gQ gT hb3;have c3:=j3.cell;have cx:=jx.cell;go_region_with (first
    | (go_at_call 54;refine (HRe.o _ (by first|exact qf gH|exact gH)).mono ?_;rintro e w8 ⟨rfl,eB⟩;have xB:Ae wr wr w8:=(by first|exact qe (qf gH) eB|exact qe gH eB);have j8:=jb.below xB jb.lt;have c8:=j8.cell;have r8:=HRr.o.below xB;have z8:=r8.free;have l8:=r8.blt;obtain⟨_,e8,_,q8⟩:=r8.FX (X6 ms HZ.o);injection e8 with e8;injection e8 with e8;subst e8;obtain⟨q0,q1,q2,q3,q4,q5,q6,q7,q8,q9,gB,gD,gP,gQ,gT⟩:=q8;simp only at q0 q1 q2 q3 q4 q5 q6 q7 q8 q9 gB gD gP gQ gT)
    | fail)
   all_goals
    go_wp2_with fail;have hx:=HX.o w8 xB;go_roundw
    case rel=>exact⟨k+1,dW,C-12,by simp,by simp[oI.o],hlt,hx.2.1,hx.1,hx.2.2⟩
    case measure=>clear hw1 hw2;simp[intOf];omega
  ·obtain rfl:k=nh:=by omega
   rw[HN.o,Ju,<-HN.o]at hR;go_wp2_with fail;go_end0;exact⟨rfl,HF.o _ hR hS,hS⟩
