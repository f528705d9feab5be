import Derived.Test.YteehgedabdchcaaGreatKav
import Derived.Test.YteehgedabdchcaaGreatKbs
import Derived.Test.YteehgedabdchcaaGreatKca
set_option linter.all false
set_option maxRecDepth 1000000
set_option maxHeartbeats 0
open Go renaming World->Aa,Calls->Ab,Value->Ac
open Go.RowKit renaming Below->Ae
open Go.Value renaming int->I,slice->Ah
open Go.IntKind renaming i64->Z
open Go.Ending renaming returned->O
open List renaming setIfInBounds_toArray->Ad,getElem_cons_succ->Ai,getElem_cons_zero->aa,getElem_toArray->af,set_cons_zero->ag,set_cons_succ->ai,length_drop->ay,nil_append->aB,length_singleton->aC,getElem?_drop->aD
open Nat renaming zero_add->aj,min_eq_left->az,le_of_lt->aA,succ_le_succ->aF
open Go.Proofs.Tryz
open Go.Proofs.Tryz renaming prog->ARt
namespace Go.Proofs.YteehgedabdchcaaGreat
section
open Go.RowKit Hp
def wn:∀ l:List Bg,(qq l).length=l.length*6
 | []=>rfl
 | x::l=>by
  have ih:=wn l;have e:qq (x::l)=[Value.int .i64 x.t,I Z x.b,I Z x.n,I Z x.a.k,I Z x.a.e,I Z x.a.v]++qq l:=rfl;rw[e,Qd,ih,Qv];simp;omega
def Lw (g o j:Nat):(⟨g,o,none⟩:Addr).add j=⟨g,o+j,none⟩:=by unfold Addr.add;split<;>simp_all
def dl {w:Aa}{g off:Nat}{es:List Bg}(h:∀ (k:Nat)(x:Bg),es[k]?=some x->Ln w g (off+k*6) x)(a:Nat)(l:List Bg)(hl:∀ (j:Nat)(x:Bg),l[j]?=some x->es[a+j]?=some x) :
  ∀ j u,(qq l)[j]?=some u->w.cell? ((⟨g,off+a*6,none⟩:Addr).add j)=some u:=by
 intro j u hu;have hj:j<l.length*6:=by rw[<-wn];exact (Qc.1 hu).1
 have hq:j/6<l.length:=by omega
 have hx:l[j/6]?=some l[j/6]:=Qb hq;have h6:=h _ _ (hl _ _ hx);have e:j=j/6*6+j%6:=by omega
 have hr:j%6<6:=Nat.mod_lt _ (by omega)
 have hc:=Dc l (j/6) _ hx (j%6) hr;rw[<-e,hu]at hc;have ea:(⟨g,off+a*6,none⟩:Addr).add j=⟨g,off+(a+j/6)*6+j%6,none⟩:=by
  have e2:off+(a+j/6)*6+j%6=off+a*6+j:=by omega
  rw[e2];exact Lw _ _ _
 rw[ea];obtain⟨r,hre⟩:=Ja0 (j%6);rw[<-hre]at hr hc ⊢;obtain rfl|rfl|rfl|rfl|rfl|rfl:r=0\/r=1\/r=2\/r=3\/r=4\/r=5:=by omega
 all_goals simp only[List.getElem?_cons_zero,List.getElem?_cons_succ,Zd]at hc;subst hc
 ·exact h6.c0
 ·exact h6.c1
 ·exact h6.c2
 ·exact h6.c3
 ·exact h6.c4
 ·exact h6.c5
end
section
open Go.RowKit Hp
attribute [local go_sem ↓] Go.wp_at_zero Go.wp_at_succ
def qly {w w':Aa}{n:Nat}{o:Own}(hm:n<=w.1.size)(h:Stp (fun u=>u=(1,0)) (ext (fun _=>(0,0)) n (1,0)) o w w'):Ae n w w':=⟨h.os,h.tape,h.output,h.size,fun k hk=>h.block k (Qn hk hm) (by rw[qr hk];simp)⟩
def xj:∀ a b:List Bg,qq (a++b)=qq a++qq b
 | [],_=>rfl
 | x::a,b=>by
  simp only[List.cons_append,qq,xj a b]
def dy {W w w':Aa}{o:Own}{v:Ac}{n:Nat}{xs:List Ac}(hb:Ae W.1.size W w)(hz:∀ k,k<W.1.size->o k=(0,0))(hown:Row w' (ext o w.1.size (1,0)) (1,0) 69 6 v n xs)(hst:Stp (fun u=>u=(1,0)) o (ext o w.1.size (1,0)) w w') :
  ∃ o',Row w' o' (1,0) 69 6 v n xs/\(∀ k,k<W.1.size->o' k=(0,0))/\Ae W.1.size W w':=
 ⟨_,hown,fun k hk=>(hst.tags k (Qn hk hb.size)).trans (hz k hk),hb.trans ⟨hst.os,hst.tape,hst.output,hst.size,fun k hk=>hst.block k (Qn hk hb.size) (by rw[hz k hk];simp)⟩⟩
noncomputable def Ks (n:Nat):Code:=((Tryz.f12.body.bind (wq n)).getD .skip)
def LS (Q:Exit->Act->Aa->Prop) (W:Aa) (bK:List (List (List Pg.D))) (es:List Bg) (pv:Option Addr) (cv np gh oh nh ch f f1:Nat) {u0 u1 u2 u3 u4 u5 u6 u7 Ni Nj Nk Nl Nm Nn Np Nq Nr Ns Nt Nu Nv Nw Nx Ny Nz N0 N1 N2 N3 N4 N5 N6 N7 N8 N9 Ra Rb Rc Re Rf Rg Rh Ri Rj Rk Rl Rm Rn Ro Rp Rq Rr Rs Rt Ru Rv Rw Rx Ry Rz R0 R1 R2 R3 R4 R5 R6 R7 R8 R9 Va Vb Vc Vd Ve Vf Vg Vh Vi Vj Vk Vl Vm Vn Vo Vp Vq Vr Vs Vt Vu Vv Vw Vx Vy Vz V0 V1 V2 V3 V4 V5 V6 V7 V8 V9 Xa Xb Xc Xd Xe Xf Xg Xh Xi Xj Xk Xl Xm Xn Xo Xp Xq Xr Xs Xt Xu Xv Xw Xx Xy Xz:Ac} (hf1:f1=f+1) (hes:es.length=nh) (hf:f<nh) (hch:nh<=ch) (dJ:nh<=100000)
  (hent:∀ X,Ae W.1.size W X->∀ (k:Nat) (x:Bg),es[k]?=some x->Ln X gh (oh+k*6) x)
  (HT:∀ (X:Aa) (v:Ac) (l:List Bg),Ae W.1.size W X->Ci X v l->l.length<=1000000->Ab ARt 43 #[.slice pv np cv,v] X fun e w'=>Ec X w' e (za bK (some (Rd.new bK.length)) 0 l))
  (hc:za bK (some (Rd.new bK.length)) 0 (es.take f++es.drop f1)=none)
  (bV:∀ c d x a w,Q (.panic c) (a.put d x) w->Q (.panic c) a w)
  (bO:∀ (X:Aa) (X0 X1 X2 X3 X4 X5 X6 X7 X8 X9 Ya Yb Yc Yd:Ac),Ae W.1.size W X->Q .normal ⟨#[u0,u1,u2,u3,u4,u5,u6,u7,.slice pv np cv,Ah (some ⟨gh,oh,none⟩) nh ch,Ni,Nj,Nk,Nl,Nm,I Z f,Ah none 0 0,.bool false,Nq,Nr,Ns,Nt,Nu,Nv,Nw,Nx,Ny,Nz,N0,N1,N2,N3,N4,N5,N6,N7,N8,N9,Ra,Rb,Rc,Re,Rf,Rg,Rh,Ri,Rj,Rk,Rl,Rm,Rn,Ro,Rp,Rq,Rr,Rs,Rt,Ru,Rv,Rw,Rx,Ry,Rz,R0,R1,R2,R3,R4,R5,R6,R7,R8,R9,Va,Vb,Vc,Vd,Ve,Vf,Vg,Vh,Vi,Vj,Vk,Vl,Vm,X0,X1,X2,X3,X4,X5,X6,X7,X8,X9,Ya,Yb,Yc,Yd,V1,V2,V3,V4,V5,V6,V7,V8,V9,Xa,Xb,Xc,Xd,Xe,Xf,Xg,Xh,Xi,Xj,Xk,Xl,Xm,Xn,Xo,Xp,Xq,Xr,Xs,Xt,Xu,Xv,Xw,Xx,Xy,Xz],[]⟩ X) :
  Code.wp ARt (Ks 17) Q ⟨#[u0,u1,u2,u3,u4,u5,u6,u7,.slice pv np cv,Ah (some ⟨gh,oh,none⟩) nh ch,Ni,Nj,Nk,Nl,Nm,I Z f,Nn,Np,Nq,Nr,Ns,Nt,Nu,Nv,Nw,Nx,Ny,Nz,N0,N1,N2,N3,N4,N5,N6,N7,N8,N9,Ra,Rb,Rc,Re,Rf,Rg,Rh,Ri,Rj,Rk,Rl,Rm,Rn,Ro,Rp,Rq,Rr,Rs,Rt,Ru,Rv,Rw,Rx,Ry,Rz,R0,R1,R2,R3,R4,R5,R6,R7,R8,R9,Va,Vb,Vc,Vd,Ve,Vf,Vg,Vh,Vi,Vj,Vk,Vl,Vm,Vn,Vo,Vp,Vq,Vr,Vs,Vt,Vu,Vv,Vw,Vx,Vy,Vz,V0,V1,V2,V3,V4,V5,V6,V7,V8,V9,Xa,Xb,Xc,Xd,Xe,Xf,Xg,Xh,Xi,Xj,Xk,Xl,Xm,Xn,Xo,Xp,Xq,Xr,Xs,Xt,Xu,Xv,Xw,Xx,Xy,Xz],[]⟩ W:=by
 conv=>arg 2;whnf
 dsimp only;obtain⟨iE,vB,vN,vS,vU⟩:=gw;have vR:=underlying62;have AFe:wrap64 ((f:Int)+1)=(f1:Int):=(IntWalk.wrap64_in _ (by omega)).trans (by omega)
 have hfw2:IntKind.i64.wrap ((f:Int)+1)=(f1:Int):=(IntWalk.i64_in _ (by omega)).trans (by omega)
 have fJ:(f:Int)<=(ch:Int):=by omega
 have fN:(f:Int)<=(nh:Int):=by omega
 have fK:(f1:Int)<=(nh:Int):=by omega
 have fL:(f1:Int)<=(ch:Int):=by omega
 have fM:(nh:Int)<=(ch:Int):=by omega
 have fI:(f:Int)<(nh:Int):=by omega
 have hl1:(qq (es.take f)).length=f*6:=by rw[wn,Qp,hes,az (aA hf)]
 have tC:=Qa (dl (w:=W.drew) (g:=gh) (off:=oh) (hent W.drew (qf (qd W))) 0 (es.take f) (fun j x hx=>by
  rw[Za]at hx;split at hx
  ·rw[aj];exact hx
  ·cases hx))
 have uG:=Qa hl1;obtain⟨oa,hsl,hsr⟩:∃ oa,(if ch=f1 then some (⟨gh,oh,none⟩:Addr) else some ⟨gh,oh+f1*6,none⟩)=some ⟨gh,oa,none⟩/\∀ X,Ae W.1.size W X->∀ j u,(qq (es.drop f1))[j]?=some u->X.cell? ((⟨gh,oa,none⟩:Addr).add j)=some u:=by
  by_cases h:ch=f1
  ·refine⟨oh,if_pos h,fun X hb j u hu=>?_⟩
   have e0:es.drop f1=[]:=List.drop_eq_nil_of_le (by omega)
   rw[e0]at hu;simp[qq]at hu
  ·exact⟨oh+f1*6,if_neg h,fun X hb=>dl (hent X hb) f1 (es.drop f1) (fun j x hx=>by rw[aD]at hx;exact hx)⟩
 have HSr:=Qa hsr;have HL2:=Qa (show (qq (es.drop f1)).length=(nh-f1)*6 from by rw[wn,ay,hes])
 have eH:=Qa (show f+(nh-f1)<=maxLen/\(f+(nh-f1))*48<=140737488355328 from by simp only[maxLen];omega)
 have HLn:=Qa (show f+(nh-f1)=(es.take f++es.drop f1).length from by rw[Qd,Qp,ay,hes,az (aA hf)])
 have yK:=Qa (show (es.take f++es.drop f1).length<=1000000 from by rw[Qd,Qp,ay,hes];omega)
 clear hsr;have uH:=Qa (show 0+f<=maxLen/\(0+f)*48<=140737488355328 from by simp only[maxLen];omega)
 have HC:=Qa hc;have HX:=Qa bO;have HT:=Qa HT;have iF:=Qa hent;have HS:=Qa hes;have HF:=Qa (And.intro hf (And.intro hch dJ));have HF1:=Qa hf1;clear hc bO hent hl1 hes hf1;refine zo (fun _=>True) 16 (by kernel_rfl) ?_
 refine qp (by kernel_rfl) bV [0,1,2,3,5,6,7,8] (by kernel_rfl) (by decide) trivial ?_
 iterate 8 (refine De (v:=?_) rfl ?_ ?_;rotate_left;(· (first|(refine Or.inl ⟨by rfl,?_⟩;rintro w' -;go_simp;try with_reducible rfl)));simp only[af,Ai,aa,Act.put,Ad,ag,ai])
 refine Df ?_;refine qg (i:=4) (by kernel_rfl) rfl fun K hK=>?_
 refine qv _ (by rfl) _ _ _ (by rfl) 69 iE _ 6 48 vR vB vU vN vS (by rfl) (by decide) (fun _=>(0,0)) (1,0) _ 0 [] (by rfl) (Row.nil _ _ _ _ _) ⟨gh,oh,none⟩ f ch (qq (es.take f)) (by rfl) uG.out (by simpa using tC.out) (ko _) uH.out.1 uH.out.2 ?_
 intro v5 w5 hown hst;obtain⟨pv5,cv5,rfl⟩:=hown.AS;have HO5:=Qa hown;have gN:=Qa (qe (qf (qd W)) (uf hst));clear hown hst;refine hK.out _ _ (fun _=>trivial) ?_
 clear hK K
 try simp only[af,Ai,aa,Act.put,Ad,ag,ai]
 refine qg (i:=9) (by kernel_rfl) rfl fun K hK=>?_
 refine qv _ (by rfl) _ _ _ (by rfl) 69 iE _ 6 48 vR vB vU vN vS (by rfl) (by decide) (ext (fun _=>(0,0)) W.drew.1.size (1,0)) (1,0) _ f (qq (es.take f)) (by rfl) (HO5.out.ite (aj f) (aB _)) ⟨gh,oa,none⟩ (nh-f1) (ch-f1) (qq (es.drop f1)) (by rfl) HL2.out (HSr.out _ gN.out) (ko _) eH.out.1 eH.out.2 ?_
 intro v6 w6 hown hst;obtain⟨p6,c6,rfl⟩:=hown.AS;have yA:=Qa (gN.out.trans (qly gN.out.size hst));have HO6:=Qa hown;clear hown hst;refine hK.out _ _ (fun _=>trivial) ?_
 clear hK K
 try simp only[af,Ai,aa,Act.put,Ad,ag,ai]
 refine qg (i:=10) (by kernel_rfl) rfl fun K hK=>?_
 go_simp;refine (HT.out _ _ (es.take f++es.drop f1) yA.out (Row.Sk (HO6.out.ite HLn.out (xj _ _).symm) (Qo yK.out (by decide))) yK.out).mono ?_
 intro e w9 h9;rw[HC.out]at h9;obtain⟨rfl,eX⟩:=h9;have HB9:=Qa (qe yA.out eX);clear eX;refine hK.out _ _ (fun _=>trivial) ?_
 clear hK K
 try simp only[af,Ai,aa,Act.put,Ad,ag,ai]
 refine qp (by kernel_rfl) bV [11,12,13,14,15] (by kernel_rfl) (by decide) trivial ?_
 iterate 5 (refine De (v:=?_) rfl ?_ ?_;rotate_left;(· (first|(refine Or.inl ⟨by rfl,?_⟩;rintro w' -;go_simp;try with_reducible rfl)));simp only[af,Ai,aa,Act.put,Ad,ag,ai])
 refine Df ?_;refine zd (by kernel_rfl) ?_
 exact HX.out w9 _ _ _ _ _ _ _ _ _ _ _ _ _ _ HB9.out
abbrev Wj (gh oh f:Nat)(x:Bg)(w':Aa):Prop:=w'.cell? ⟨gh,oh+f*6,none⟩=some (I Z x.t)/\w'.cell? ⟨gh,oh+f*6+1,none⟩=some (I Z x.b)/\w'.cell? ⟨gh,oh+f*6+2,none⟩=some (I Z x.n)/\w'.cell? ⟨gh,oh+f*6+3,none⟩=some (I Z x.a.k)/\w'.cell? ⟨gh,oh+f*6+4,none⟩=some (I Z x.a.e)/\w'.cell? ⟨gh,oh+f*6+5,none⟩=some (I Z x.a.v)
def LU (Q:Exit->Act->Aa->Prop) (W:Aa) (bK:List (List (List Pg.D))) (es:List Bg) (pv:Option Addr) (cv np gh oh nh ch f:Nat) (x:Bg) {u0 u1 u2 u3 u4 u5 u6 u7 Ni Nj Nk Nl Nm Nn Np Nq Nr Ns Nt Nu Nv Nw Nx Ny Nz N0 N1 N2 N3 N4 N5 N6 N7 N8 N9 Ra Rb Rc Re Rf Rg Rh Ri Rj Rk Rl Rm Rn Ro Rp Rq Rr Rs Rt Ru Rv Rw Rx Ry Rz R0 R1 R2 R3 R4 R5 R6 R7 R8 R9 Va Vb Vc Vd Ve Vf Vg Vh Vi Vj Vk Vl Vm Vn Vo Vp Vq Vr Vs Vt Vu Vv Vw Vx Vy Vz V0 V1 V2 V3 V4 V5 V6 V7 V8 V9 Xa Xb Xc Xd Xe Xf Xg Xh Xi Xj Xk Xl Xm Xn Xo Xp Xq Xr Xs Xt Xu Xv Xw Xx Xy Xz:Ac} (hx:es[f]?=some x) (hes:es.length=nh) (hf:f<nh) (hch:nh<=ch) (dJ:nh<=100000)
  (hent:∀ X,Ae W.1.size W X->∀ (k:Nat) (x:Bg),es[k]?=some x->Ln X gh (oh+k*6) x)
  (HT:∀ (X:Aa) (v:Ac) (l:List Bg),Ae W.1.size W X->Ci X v l->l.length<=1000000->Ab ARt 43 #[.slice pv np cv,v] X fun e w'=>Ec X w' e (za bK (some (Rd.new bK.length)) 0 l))
  (hc:za bK (some (Rd.new bK.length)) 0 ((es.take f++[x])++es.drop f)=none)
  (bV:∀ c d x a w,Q (.panic c) (a.put d x) w->Q (.panic c) a w)
  (bO:∀ (X:Aa) (Ye Yf Yg Yh Yi Yj Yk Yl Ym Yn Yo Yp Yr Ys Yt Yu Yv Yw Yx:Ac),Ae W.1.size W X->Q .normal ⟨#[u0,u1,u2,u3,u4,u5,u6,u7,.slice pv np cv,Ah (some ⟨gh,oh,none⟩) nh ch,Ni,Nj,Nk,Nl,Nm,I Z f,Nn,Np,Ah none 0 0,.bool false,Ns,Nt,Nu,Nv,Nw,Nx,Ny,Nz,N0,N1,N2,N3,N4,N5,N6,N7,N8,N9,Ra,Rb,Rc,Re,Rf,Rg,Rh,Ri,Rj,Rk,Rl,Rm,Rn,Ro,Rp,Rq,Rr,Rs,Rt,Ru,Rv,Rw,Rx,Ry,Rz,R0,R1,R2,R3,R4,R5,R6,R7,R8,R9,Va,Vb,Vc,Vd,Ve,Vf,Vg,Vh,Vi,Vj,Vk,Vl,Vm,Vn,Vo,Vp,Vq,Vr,Vs,Vt,Vu,Vv,Vw,Vx,Vy,Vz,V0,Ye,Yf,Yg,Yh,Yi,Yj,Yk,Yl,Ym,Yn,Yo,Yp,Yr,Ys,Yt,Yu,Yv,Yw,Yx,Xk,Xl,Xm,Xn,Xo,Xp,Xq,Xr,Xs,Xt,Xu,Xv,Xw,Xx,Xy,Xz],[]⟩ X) :
  Code.wp ARt (Ks 18) Q ⟨#[u0,u1,u2,u3,u4,u5,u6,u7,.slice pv np cv,Ah (some ⟨gh,oh,none⟩) nh ch,Ni,Nj,Nk,Nl,Nm,I Z f,Nn,Np,Nq,Nr,Ns,Nt,Nu,Nv,Nw,Nx,Ny,Nz,N0,N1,N2,N3,N4,N5,N6,N7,N8,N9,Ra,Rb,Rc,Re,Rf,Rg,Rh,Ri,Rj,Rk,Rl,Rm,Rn,Ro,Rp,Rq,Rr,Rs,Rt,Ru,Rv,Rw,Rx,Ry,Rz,R0,R1,R2,R3,R4,R5,R6,R7,R8,R9,Va,Vb,Vc,Vd,Ve,Vf,Vg,Vh,Vi,Vj,Vk,Vl,Vm,Vn,Vo,Vp,Vq,Vr,Vs,Vt,Vu,Vv,Vw,Vx,Vy,Vz,V0,V1,V2,V3,V4,V5,V6,V7,V8,V9,Xa,Xb,Xc,Xd,Xe,Xf,Xg,Xh,Xi,Xj,Xk,Xl,Xm,Xn,Xo,Xp,Xq,Xr,Xs,Xt,Xu,Xv,Xw,Xx,Xy,Xz],[]⟩ W:=by
 conv=>arg 2;whnf
 dsimp only;obtain⟨iE,vB,vN,vS,vU⟩:=gw;have vR:=underlying62;have hne:¬ch=f:=by omega
 have fJ:(f:Int)<=(ch:Int):=by omega
 have fN:(f:Int)<=(nh:Int):=by omega
 have fM:(nh:Int)<=(ch:Int):=by omega
 have fI:(f:Int)<(nh:Int):=by omega
 have hl1:(qq (es.take f)).length=f*6:=by rw[wn,Qp,hes,az (aA hf)]
 have tC:=Qa (dl (w:=W.drew) (g:=gh) (off:=oh) (hent W.drew (qf (qd W))) 0 (es.take f) (fun j x hx=>by
  rw[Za]at hx;split at hx
  ·rw[aj];exact hx
  ·cases hx))
 have uG:=Qa hl1;have HSr:=Qa (fun (X:Aa) (hb:Ae W.1.size W X)=>dl (hent X hb) f (es.drop f) (fun j x hx=>by rw[aD]at hx;exact hx))
 have cO:=Qa (fun (w':Aa) (hb:Ae W.1.size W w')=>show Wj gh oh f x w' from ⟨(hent w' hb f x hx).c0,(hent w' hb f x hx).c1,(hent w' hb f x hx).c2,(hent w' hb f x hx).c3,(hent w' hb f x hx).c4,(hent w' hb f x hx).c5⟩)
 have HL3:=Qa (show (qq (es.drop f)).length=(nh-f)*6 from by rw[wn,ay,hes])
 have uH:=Qa (show 0+f<=maxLen/\(0+f)*48<=140737488355328 from by simp only[maxLen];omega)
 have eH:=Qa (show f+1<=maxLen/\(f+1)*48<=140737488355328 from by simp only[maxLen];omega)
 have HM3:=Qa (show f+1+(nh-f)<=maxLen/\(f+1+(nh-f))*48<=140737488355328 from by simp only[maxLen];omega)
 have HLn:=Qa (show f+1+(nh-f)=((es.take f++[x])++es.drop f).length from by rw[Qd,Qd,Qp,ay,aC,hes,az (aA hf)])
 have yK:=Qa (show ((es.take f++[x])++es.drop f).length<=1000000 from by rw[Qd,Qd,Qp,ay,aC,hes];omega)
 have HC:=Qa hc;have HX:=Qa bO;have HT:=Qa HT;have HEs:=Qa hes;have tC:=Qa (fun (X:Aa) (hb:Ae W.1.size W X)=>show ∀ j u,(qq (es.take f))[j]?=some u->X.cell? ((⟨gh,oh,none⟩:Addr).add j)=some u from by
  have h:=dl (w:=X) (g:=gh) (off:=oh) (hent X hb) 0 (es.take f) (fun j x hx=>by
   rw[Za]at hx;split at hx
   ·rw[aj];exact hx
   ·cases hx)
  rwa [Nat.zero_mul,Nat.add_zero]at h)
 clear hc bO hent hl1 hes hx;refine zo (Wj gh oh f x) 21 (by kernel_rfl) ?_
 have HS:=cO.out W.drew (qf (qd W));refine qp (by kernel_rfl) bV [0,1,2,3,5,6,7,8,11,12,13] (by kernel_rfl) (by decide) (HS) ?_
 iterate 11 (refine De (v:=?_) rfl ?_ ?_;rotate_left;(· (first|(refine Or.inl ⟨by rfl,?_⟩;rintro w' ⟨h0,h1,h2,h3,h4,h5⟩;go_simp;try with_reducible rfl)));simp only[af,Ai,aa,Act.put,Ad,ag,ai])
 refine Df ?_;refine kq (i:=4) (j:=9) (by kernel_rfl) rfl rfl (fun K hK=>?_) (fun K hK=>?_)
 ·refine qv _ (by rfl) _ _ _ (by rfl) 69 iE _ 6 48 vR vB vU vN vS (by rfl) (by decide) (fun _=>(0,0)) (1,0) _ 0 [] (by rfl) (Row.nil _ _ _ _ _) ⟨gh,oh,none⟩ f ch (qq (es.take f)) (by rfl) uG.out (tC.out _ (qf (qd W))) (ko _) uH.out.1 uH.out.2 ?_
  intro v5 w5 hown hst;obtain⟨pv5,cv5,rfl⟩:=hown.AS;rw[aj,aB]at hown;rw[aj];obtain⟨ov5,Aal,Aaw,oM⟩:=dy (qf (qd W)) (fun _ _=>rfl) hown hst
  clear hown hst;refine hK.out _ _ (fun _=>cO.out _ oM) ?_
  clear hK K
  try simp only[af,Ai,aa,Act.put,Ad,ag,ai]
  refine qg (i:=9) (by kernel_rfl) rfl fun K hK=>?_
  go_simp;refine hK.out _ _ (fun _=>cO.out _ (qc oM _)) ?_
  clear hK K
  try simp only[af,Ai,aa,Act.put,Ad,ag,ai]
  have jn:=Al.new w5 #[I Z x.t,I Z x.b,I Z x.n,I Z x.a.k,I Z x.a.e,I Z x.a.v] 69;refine qg (i:=10) (by kernel_rfl) rfl fun K hK=>?_
  refine qv _ (by rfl) _ _ _ (by rfl) 69 iE _ 6 48 vR vB vU vN vS (by rfl) (by decide) _ (1,0) _ f (qq (es.take f)) (by rfl) (Row.Ao (T:=fun _=>False) Aal (Stp.of_below (qc (qd w5) _)) id) ⟨w5.1.size,0,none⟩ 1 1 (qq [x]) (by rfl) rfl (by simpa [qq] using xw jn) (ko _) eH.out.1 eH.out.2 ?_
  intro v8 w8 hown hst;obtain⟨pv8,cv8,rfl⟩:=hown.AS;obtain⟨ov8,Aam,Aax,lI⟩:=dy (qc oM _) Aaw hown hst;clear hown hst;refine hK.out _ _ (fun _=>cO.out _ lI) ?_
  clear hK K
  try simp only[af,Ai,aa,Act.put,Ad,ag,ai]
  refine qg (i:=14) (by kernel_rfl) rfl fun K hK=>?_
  refine qv _ (by rfl) _ _ _ (by rfl) 69 iE _ 6 48 vR vB vU vN vS (by rfl) (by decide) _ (1,0) _ (f+1) (qq (es.take f)++qq [x]) (by rfl) Aam ⟨gh,oh+f*6,none⟩ (nh-f) (ch-f) (qq (es.drop f)) (by rfl) HL3.out (HSr.out _ lI) (ko _) HM3.out.1 HM3.out.2 ?_
  intro v9 w9 hown hst;obtain⟨pv9,cv9,rfl⟩:=hown.AS;obtain⟨ov9,Aan,Apj,lJ⟩:=dy lI Aax hown hst;clear hown hst;refine hK.out _ _ (fun _=>cO.out _ lJ) ?_
  clear hK K
  try simp only[af,Ai,aa,Act.put,Ad,ag,ai]
  refine qg (i:=15) (by kernel_rfl) rfl fun K hK=>?_
  go_simp;refine (HT.out _ _ ((es.take f++[x])++es.drop f) lJ (Row.Sk (Aan.ite HLn.out (by rw[xj,xj])) (Qo yK.out (by decide))) yK.out).mono ?_
  intro e nQ h9;rw[HC.out]at h9;obtain⟨rfl,ic⟩:=h9;have hbF:=qe lJ ic;refine hK.out _ _ (fun _=>cO.out _ hbF) ?_
  clear hK K
  try simp only[af,Ai,aa,Act.put,Ad,ag,ai]
  refine qp (by kernel_rfl) bV [16,17,18,19,20] (by kernel_rfl) (by decide) (cO.out _ hbF) ?_
  iterate 5 (refine De (v:=?_) rfl ?_ ?_;rotate_left;(· (first|(refine Or.inl ⟨by rfl,?_⟩;rintro w' ⟨h0,h1,h2,h3,h4,h5⟩;go_simp;try with_reducible rfl)));simp only[af,Ai,aa,Act.put,Ad,ag,ai])
  refine Df ?_;refine zd (by kernel_rfl) ?_
  exact HX.out nQ _ _ _ _ _ _ _ _ _ _ _ _ _ _ _ _ _ _ _ hbF
 ·go_simp
  refine hK.out _ _ (fun _=>cO.out _ (qc (qf (qd W)) _)) ?_
  clear hK K
  try simp only[af,Ai,aa,Act.put,Ad,ag,ai]
  refine qg (i:=4) (by kernel_rfl) rfl fun K hK=>?_
  refine qv _ (by rfl) _ _ _ (by rfl) 69 iE _ 6 48 vR vB vU vN vS (by rfl) (by decide) (fun _=>(0,0)) (1,0) _ 0 [] (by rfl) (Row.nil _ _ _ _ _) ⟨gh,oh,none⟩ f ch (qq (es.take f)) (by rfl) uG.out (tC.out _ (qc (qf (qd W)) _)) (ko _) uH.out.1 uH.out.2 ?_
  intro v5 w5 hown hst;obtain⟨pv5,cv5,rfl⟩:=hown.AS;rw[aj,aB]at hown;rw[aj];have oW:=fun (k:Nat) (hk:k<_)=>hst.block k hk (by simp)
  obtain⟨ov5,Aal,Aaw,oM⟩:=dy (qc (qf (qd W)) _) (fun _ _=>rfl) hown hst
  clear hown hst;refine hK.out _ _ (fun _=>cO.out _ oM) ?_
  clear hK K
  try simp only[af,Ai,aa,Act.put,Ad,ag,ai]
  have jn:Al w5 W.1.size #[I Z x.t,I Z x.b,I Z x.n,I Z x.a.k,I Z x.a.e,I Z x.a.v] 69:=(Al.new W.drew _ _).of_eq (oW _ (Al.new W.drew _ _).lt);refine qg (i:=10) (by kernel_rfl) rfl fun K hK=>?_
  refine qv _ (by rfl) _ _ _ (by rfl) 69 iE _ 6 48 vR vB vU vN vS (by rfl) (by decide) _ (1,0) _ f (qq (es.take f)) (by rfl) Aal ⟨W.1.size,0,none⟩ 1 1 (qq [x]) (by rfl) rfl (by simpa [qq] using xw jn) (ko _) eH.out.1 eH.out.2 ?_
  intro v8 w8 hown hst;obtain⟨pv8,cv8,rfl⟩:=hown.AS;obtain⟨ov8,Aam,Aax,lI⟩:=dy oM Aaw hown hst;clear hown hst;refine hK.out _ _ (fun _=>cO.out _ lI) ?_
  clear hK K
  try simp only[af,Ai,aa,Act.put,Ad,ag,ai]
  refine qg (i:=14) (by kernel_rfl) rfl fun K hK=>?_
  refine qv _ (by rfl) _ _ _ (by rfl) 69 iE _ 6 48 vR vB vU vN vS (by rfl) (by decide) _ (1,0) _ (f+1) (qq (es.take f)++qq [x]) (by rfl) Aam ⟨gh,oh+f*6,none⟩ (nh-f) (ch-f) (qq (es.drop f)) (by rfl) HL3.out (HSr.out _ lI) (ko _) HM3.out.1 HM3.out.2 ?_
  intro v9 w9 hown hst;obtain⟨pv9,cv9,rfl⟩:=hown.AS;obtain⟨ov9,Aan,Apj,lJ⟩:=dy lI Aax hown hst;clear hown hst;refine hK.out _ _ (fun _=>cO.out _ lJ) ?_
  clear hK K
  try simp only[af,Ai,aa,Act.put,Ad,ag,ai]
  refine qg (i:=15) (by kernel_rfl) rfl fun K hK=>?_
  go_simp;refine (HT.out _ _ ((es.take f++[x])++es.drop f) lJ (Row.Sk (Aan.ite HLn.out (by rw[xj,xj])) (Qo yK.out (by decide))) yK.out).mono ?_
  intro e nQ h9;rw[HC.out]at h9;obtain⟨rfl,ic⟩:=h9;have hbF:=qe lJ ic;refine hK.out _ _ (fun _=>cO.out _ hbF) ?_
  clear hK K
  try simp only[af,Ai,aa,Act.put,Ad,ag,ai]
  refine qp (by kernel_rfl) bV [16,17,18,19,20] (by kernel_rfl) (by decide) (cO.out _ hbF) ?_
  iterate 5 (refine De (v:=?_) rfl ?_ ?_;rotate_left;(· (first|(refine Or.inl ⟨by rfl,?_⟩;rintro w' ⟨h0,h1,h2,h3,h4,h5⟩;go_simp;try with_reducible rfl)));simp only[af,Ai,aa,Act.put,Ad,ag,ai])
  refine Df ?_;refine zd (by kernel_rfl) ?_
  exact HX.out nQ _ _ _ _ _ _ _ _ _ _ _ _ _ _ _ _ _ _ _ hbF
def Frs (R:Rd)(fs:List Nat):Prop:=∀ f ∈ fs,∃ (m:Nat)(x:AK),R.M[m]?=some x/\x.fr=(f:Int)/\(0<x.AX.length\/x.fr<x.te)
def qes (HA:∀ w,Ab ARt 41 #[] w fun e w'=>e=O (.bool true)/\Ae w.1.size w w') (v:Ac) (raw:List (List (List Pg.D))) (vl:Ac) (st:List Int) (cut:Int) (w:Aa) (h:AH w v raw) (hI:TI raw) (hl:CN w vl st) (hz:∀ z ∈ st,D4 z) (hcut:D4 cut) :
  Ab ARt 12 #[v,vl,I Z cut] w fun e w'=>e=O (.bool true)/\Ae w.1.size w w':=by
 have HAw:=Qa HA;have iQ:=Qa (fun (w':Aa) (hb:Ae w.1.size w w')=>UD v raw vl st w' (h.below hb) hI (hl.below hb) hz)
 obtain⟨pl,cl,rfl,_,_,_⟩:=hl;have HCu:=Qa hcut;obtain⟨np,fH⟩:=Ja0 ((jr raw).length);rw[<-fH]at iQ;have uJ:=Qa fH;obtain⟨iI,hiI,vO,vT,vV⟩:=jh;have hu64:=underlying25;clear h hI hz HA hcut fH;go_enter func12,ntmps12;go_upto_region 3 with (first
  | (go_at_call 41;refine (HAw.out _).mono ?_;rintro e w1 ⟨rfl,hb1⟩;have HB1:=Qa hb1;clear hb1)
  | (go_at_call 42;refine (iQ.out _ HB1.out).mono ?_;rintro e w3 ⟨w2,oP,pv,cv,vh,m,o,M,rfl,hb2,hF,hR,hE⟩)
  | fail)
 obtain⟨ph,ch,rfl⟩:∃ ph ch,vh=.slice ph M.past.length ch:=by obtain⟨_,a,c,e,_⟩:=hE;exact⟨a,c,e⟩
 obtain⟨R,dI⟩:=hR.rd;have hpl:=hR.run.ok.pl;obtain⟨nh,dJ⟩:=Ja0 M.past.length;have hch:nh<=ch:=by obtain⟨_,a,c,e,hc,_⟩:=hE;injection e with _ _ e3;rw[e3,dJ];exact hc
 rw[<-dJ]at hpl;have hr:=dI.rd;have wV:=uj dI.co hr;have HT:=Qa (fun (W:Aa) (hb:Ae w3.1.size w3 W) (vh:Ac) (es:List Bg) (hE:Ci W vh es) (hl:es.length<=1000000)=>mj uJ.out hF (qe hR.run.old hb) hE hl)
 have HT1:=Qa (fun (W:Aa) (hb:Ae w3.1.size w3 W)=>by
  have h:=mj uJ.out hF (qe hR.run.old hb) (hE.below hb) (by omega)
  rw[hr,<-dJ]at h;exact h)
 have Akm:=Qa (fun (m:Nat) (x:AK) (hx:R.M[m]?=some x) (ha:0<x.AX.length\/x.fr<x.te) (k:Nat) (hk:x.fr=(k:Int))=>GM dI.co hr hx ha hk)
 have sW:=Qa wV;have iF:=Qa hE;have HB3:=Qa (show Ae w.1.size w w3 from qe (qe HB1.out hb2) hR.run.old);have pW:=Qa (TS _ (T4 (jr raw)) hr);have hbl:=pW.out.m;rw[aj,<-dJ]at hbl;rw[<-dJ];have oz:=Qa (And.intro hpl hbl);have jT:=Qa dJ;clear hE hr wV hb2 hR dI hpl hbl hF dJ;go_upto_region 6 with (first
  | (go_at_call 43;refine (HT1.out _ (qd w3)).mono ?_;rintro e w4 h4;obtain⟨Ma,pa,ca,oa,rfl,hb4,wZ,xA⟩:=h4.yes;have sZ:=Qa wZ;have tQ:=Qa xA;have mE:=Qa hb4;clear h4 wZ xA hb4)
  | fail)
 obtain⟨na,hna⟩:=Ja0 Ma.length;have la:na=R.M.length:=by rw[hna,<-sZ.out,Qg]
 have tF:=Qa hna;have kV:=Qa (show na<=2000 from by have:=oz.out;omega)
 rw[<-hna]at tQ ⊢;clear la hna;go_wp2_with fail;go_loopw [13,14] (fun vf ix wr=>∃ (i:Nat) (fs:List Nat) (o:Own),ix=I Z i/\i<=na/\fs.length<=i/\Frs R fs/\Row wr o (9,9) 3 1 vf fs.length (fs.map nv)/\Stp (fun t=>t=(9,9)) (fun _=>(0,0)) o w4 wr) (fun _ ix _=>na-(intOf ix).toNat)
 case atStart=>exact⟨0,[],fun _=>(0,0),rfl,Nat.zero_le _,Qk _,fun f hf=>(by simp at hf),Row.nil _ _ _ _ _,Stp.refl _ _ _⟩
 case round =>
  obtain⟨i,fs,o,rfl,hin,hfl,hFr,hrow,hst⟩:=hrel;obtain⟨pf,cf,rfl⟩:=hrow.AS;have hbw:Ae w4.1.size w4 wr:=hst.below fun b _ h=>by simp at h
  have mF:=Qa hbw;have tO:=Qa hst;have qY:=Qa hrow;have yG:=Qa hFr;clear hst hrow hFr;by_cases hlt:i<na
  ·have iJ:(i:Int)<(na:Int):=by omega
   have HW:=Qa (jd i (by have:=kV.out;omega))
   obtain⟨ma,oO⟩:∃ ma,Ma[i]?=some ma:=⟨_,Qb (by rw[<-tF.out];exact hlt)⟩
   have hxa:R.M[i]?=some ma.x:=by rw[<-sZ.out,Qj,oO];rfl
   obtain⟨ga,ca',pA,cA,pT,cT,ev,hca,e1,e2,fa,qC⟩:=(tQ.out.below hbw).at oO;injection ev with ev en iY;clear en;subst ev iY;rw[<-tF.out]at hca;obtain⟨f,_,hf,_⟩:=sW.out.te i _ hxa;have yU:=Qa hxa;obtain⟨⟨xt,xb,kR,kQ,nU,gM,nT,uC,kM,mD⟩,xva,xvt⟩:=ma;simp only at e1 e2 hf;subst e1 e2 hf;have a4:wr.cell? ⟨ga,i*10+4,none⟩=some (I Z f):=fa 4 _ rfl;have a5:wr.cell? ⟨ga,i*10+5,none⟩=some (I Z gM):=fa 5 _ rfl;have a6:wr.cell? ⟨ga,i*10+6,none⟩=some (.slice pA nT.length cA):=fa 6 _ rfl;have lga:ga<wr.1.size:=qh a4;obtain⟨nx,hnx⟩:=Ja0 nT.length;obtain⟨nf,hnf⟩:=Ja0 fs.length;rw[<-hnx]at a6;rw[<-hnf]at hfl qY ⊢;have wR:=Qa hnf;have HNx:=Qa hnx;have gY:=Qa (show nf+1<=maxLen/\(nf+1)*8<=140737488355328 from by simp only[maxLen];have:=kV.out;omega)
   clear fa qC hxa oO hnx hnf hbw;have hsp:(0:Int)<(nx:Int)\/(¬(0:Int)<(nx:Int)/\(f:Int)<gM)\/(¬(0:Int)<(nx:Int)/\¬(f:Int)<gM):=by
    by_cases h1:(0:Int)<(nx:Int)
    ·exact .inl h1
    ·by_cases h2:(f:Int)<gM
     ·exact .inr (.inl ⟨h1,h2⟩)
     ·exact .inr (.inr ⟨h1,h2⟩)
   rcases hsp with hq|⟨hq,hq2⟩|⟨hq,hq2⟩
   ·have HQ:=Qa (show 0<nT.length from by have:=HNx.out;omega)
    have hq5:0<nx:=by omega
    have hq6:nx≠0:=by omega
    go_upto_region 12 with fail;go_quiet (fail);obtain⟨W,hW⟩:=Ja0 (wr.drewN nq);rw[<-hW];have hbW:Ae wr.1.size wr W:=by rw[hW];exact qx (qd wr) nq
    clear hW;have b4:W.cell? ⟨ga,i*10+4,none⟩=some (I Z f):=(hbW.cell (p:=⟨ga,i*10+4,none⟩) lga).trans a4;have iQ:=Qa ((qY.out.below hbW).below (qc (qd W) (.cells #[I Z f] 3)));have jn:=Al.new W #[I Z f] 3;have oF:=Qa (tO.out.trans (Stp.of_below (qe hbW (qc (qd W) (.cells #[I Z f] 3)))));obtain⟨hw1,hw2⟩:=HW.out;clear a4 a5 a6 hbW;go_wp2_with (first
     | (at_builtin;refine qi _ rfl _ _ _ rfl 3 iI _ 1 8 hu64 hiI vV vO vT rfl (by decide) o (9,9) _ _ _ rfl iQ.out ⟨W.1.size,0,none⟩ 1 1 [I Z f] rfl rfl (zj jn) ka gY.out.1 gY.out.2 ?_;intro v8 w8 hown hst)
     | fail)
    have HO:=Qa hown;have HS8:=Qa (oF.out.trans hst);clear hown hst jn;go_roundw
    case rel=>exact⟨i+1,fs++[f],_,by simp,hlt,by rw[Qd,<-wR.out];exact aF hfl,fun z hz=>by
     rcases Qs.1 hz with hz|hz
     ·exact yG.out z hz
     ·simp at hz;subst hz
      exact⟨i,_,yU.out,rfl,.inl HQ.out⟩,HO.out.ite (by rw[Qd,wR.out];rfl) (by rw[Qx];rfl),HS8.out⟩
    case measure=>clear hw1 hw2;simp[intOf];omega
   ·have HQ:=Qa hq2
    obtain rfl:nx=0:=by omega
    clear hq;go_upto_region 12 with fail;go_quiet (fail);obtain⟨W,hW⟩:=Ja0 (wr.drewN nq);rw[<-hW];have hbW:Ae wr.1.size wr W:=by rw[hW];exact qx (qd wr) nq
    clear hW;have b4:W.cell? ⟨ga,i*10+4,none⟩=some (I Z f):=(hbW.cell (p:=⟨ga,i*10+4,none⟩) lga).trans a4;have iQ:=Qa ((qY.out.below hbW).below (qc (qd W) (.cells #[I Z f] 3)));have jn:=Al.new W #[I Z f] 3;have oF:=Qa (tO.out.trans (Stp.of_below (qe hbW (qc (qd W) (.cells #[I Z f] 3)))));obtain⟨hw1,hw2⟩:=HW.out;clear a4 a5 a6 hbW;go_wp2_with (first
     | (at_builtin;refine qi _ rfl _ _ _ rfl 3 iI _ 1 8 hu64 hiI vV vO vT rfl (by decide) o (9,9) _ _ _ rfl iQ.out ⟨W.1.size,0,none⟩ 1 1 [I Z f] rfl rfl (zj jn) ka gY.out.1 gY.out.2 ?_;intro v8 w8 hown hst)
     | fail)
    have HO:=Qa hown;have HS8:=Qa (oF.out.trans hst);clear hown hst jn;go_roundw
    case rel=>exact⟨i+1,fs++[f],_,by simp,hlt,by rw[Qd,<-wR.out];exact aF hfl,fun z hz=>by
     rcases Qs.1 hz with hz|hz
     ·exact yG.out z hz
     ·simp at hz;subst hz
      exact⟨i,_,yU.out,rfl,.inr HQ.out⟩,HO.out.ite (by rw[Qd,wR.out];rfl) (by rw[Qx];rfl),HS8.out⟩
    case measure=>clear hw1 hw2;simp[intOf];omega
   ·obtain rfl:nx=0:=by omega
    clear hq;obtain⟨hw1,hw2⟩:=HW.out;go_upto_region 12 with fail;go_quiet (fail);obtain⟨W,hW⟩:=Ja0 (wr.drewN nq);rw[<-hW];have hbW:Ae wr.1.size wr W:=by rw[hW];exact qx (qd wr) nq
    have HSq:=Qa (tO.out.trans (Stp.of_below hbW));have HRq:=Qa (qY.out.below hbW);clear hW hbW a4 a5 a6;go_wp2_with fail;go_roundw
    case rel=>exact⟨i+1,fs,o,by simp,hlt,by rw[<-wR.out];exact Qu hfl,yG.out,by rw[<-wR.out];exact HRq.out,HSq.out⟩
    case measure=>clear hw1 hw2;simp[intOf];omega
  ·obtain rfl:i=na:=by omega
   have hB4:=qe HB3.out (qe mE.out hbw);obtain⟨nf,hnf⟩:=Ja0 fs.length;rw[<-hnf]at qY hfl ⊢;have wR:=Qa hnf;clear hnf;have HBe:=Qa hB4;clear hB4 hbw;by_cases h0:nf=0
   ·subst h0
    go_wp2_with fail;go_ret;exact⟨rfl,HBe.out⟩
   ·have hnz:((nf:Int)==0)=false:=by rw[Qh];omega
    obtain⟨p,hp⟩:=Ja0 (pk cut nf);have hpn:p<nf:=by rw[hp];exact Pm cut (by omega)
    have yN:=Qa (fun (W:Aa)=>show Ab ARt 44 #[I Z cut,I Z nf] W fun e w'=>e=O (I Z p)/\W=w' from by rw[hp];exact sa cut HCu.out nf (by omega) (by have:=kV.out;omega) W)
    obtain⟨f,hf⟩:∃ f,fs[p]?=some f:=⟨_,Qb (by rw[<-wR.out];exact hpn)⟩
    obtain⟨m0,x0,hx0,hxf,hxa⟩:=yG.out f (Qe hf);obtain⟨c1,c2⟩:=Akm.out m0 x0 hx0 hxa f hxf;have hfn:f<nh:=by
     obtain⟨f',_,g1,g2,_⟩:=sW.out.te m0 x0 hx0;have:=(Qc.1 g2).1;rw[jT.out];omega
    obtain⟨gf,cf',ev,hcf,Aei⟩:∃ gf cf',(Value.slice pf nf cf)=Ah (some ⟨gf,0,none⟩) nf cf'/\nf<=cf'/\wr.cell? ⟨gf,p,none⟩=some (I Z f):=by
     have hx:(fs.map nv)[p]?=some (nv f):=by rw[Qj,hf];rfl
     rcases qY.out.B7 with ⟨_,h0⟩|⟨g,c,e,hc⟩
     ·rw[h0]at hx;cases hx
     ·have:=qY.out.own.cells (g:=g) (by rw[e];rfl) p _ hx
      rw[addr_add]at this;exact⟨g,c,e,hc,this⟩
    injection ev with ev en iY;clear en;subst ev iY;have pI:(p:Int)<(nf:Int):=by omega
    have nW:=Qa c1;have fZ:=Qa c2;have HFn:=Qa hfn;have fI:(f:Int)<(nh:Int):=by omega
    clear c1 c2 hx0 hxf hxa hf hp;go_upto_region 17 with (first
     | (go_at_call 44;refine (yN.out _).mono ?_;rintro e w5 ⟨rfl,rfl⟩)
     | fail)
    obtain⟨gh,oh,rfl,hent⟩:∃ gh oh,ph=some ⟨gh,oh,none⟩/\∀ (W:Aa),Ae w3.1.size w3 W->∀ (k:Nat) (x:Bg),M.past[k]?=some x->Ln W gh (oh+k*6) x:=by
     obtain⟨_,a,c,ev,_,hent⟩:=iF.out;injection ev with ev _ _;rcases hent with h0|⟨g,off,e,hent⟩
     ·have hz:M.past.length=0:=by rw[h0];rfl
      have:=jT.out;have:=HFn.out;exfalso;omega
     ·exact⟨g,off,ev.trans e,fun W hb k x hx=>(hent k x hx).below hb⟩
    have HEt:=Qa hent;obtain⟨xf,hxf⟩:∃ xf,M.past[f]?=some xf:=⟨_,Qb (by rw[<-jT.out];exact HFn.out)⟩
    have HXf:=Qa hxf;have xZ:=Qa (qe mE.out mF.out);have yE:=fZ.out;rw[Qi,hxf,Option.getD_some]at yE;have Akh:=Qa yE;have HT5:=Qa (fun (X:Aa) (hb:Ae wr.1.size wr X) (v:Ac) (l:List Bg) (hE:Ci X v l) (hl:l.length<=1000000)=>HT.out X (qe xZ.out hb) v l hE hl);clear hent Aei hxf yE;refine LS _ wr (jr raw) M.past _ _ _ gh oh nh ch f (f+1) rfl jT.out.symm HFn.out hch (by have:=oz.out;omega) (fun X hb=>HEt.out X (qe xZ.out hb)) (fun X v l hb hE hl=>HT5.out X hb v l hE hl) nW.out (fun c d x a w h=>by cases d<;>exact h) ?_
    intro X17 z0 z1 z2 z3 z4 z5 z6 z7 z8 z9 z10 z11 z12 z13 Afb;have xY:=Qa Afb;clear Afb;go_upto_region 18 with fail;refine LU _ X17 (jr raw) M.past _ _ _ gh oh nh ch f xf HXf.out jT.out.symm HFn.out hch (by have:=oz.out;omega) (fun X hb=>HEt.out X (qe xZ.out (qe xY.out hb))) (fun X v l hb hE hl=>HT5.out X (qe xY.out hb) v l hE hl) Akh.out (fun c d x a w h=>by cases d<;>exact h) ?_
    intro X18 y0 y1 y2 y3 y4 y5 y6 y7 y8 y9 y10 y11 y12 y13 y14 y15 y16 y17 y18 Afc;have Akf:=Qa Afc;clear Afc;go_wp2_with fail;go_ret;exact⟨rfl,qe HBe.out (qe xY.out Akf.out)⟩
