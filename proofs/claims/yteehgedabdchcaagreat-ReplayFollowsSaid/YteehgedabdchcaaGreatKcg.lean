import Derived.Test.YteehgedabdchcaaGreatKbr
import Derived.Test.YteehgedabdchcaaGreatKca
set_option linter.all false
set_option maxRecDepth 1000000
set_option maxHeartbeats 0
open Go renaming World->Aa,Calls->Ab,Value->Ac
open Go.RowKit renaming Below->Ae
open Go.Value renaming pointer->Ag,slice->Ah
open Go.Ending renaming returned->O
open Go.WalkArith renaming wf_i64->Ad
open Go.World.ownsMap renaming update->Ai
open List renaming setIfInBounds_toArray->aa,getElem_cons_succ->ag,getElem_cons_zero->ai,getElem_toArray->ay,set_cons_zero->az,set_cons_succ->aA,getElem_mem->aB
open Go.IntWalk renaming wrap64_in->af,i64_in->aj
open Go.Proofs.Tryz
open Go.Proofs.Tryz renaming prog->ARt
namespace Go.Proofs.YteehgedabdchcaaGreat
section
open Go.RowKit Hp Go.Maps
def EP (M:List AK):Nat->DataW Unit
 | 0=>.map []
 | k+1=>(EP M k).put (.int .i64 (M.getD k Fq).t) (.lit (.int .i64 k))
def VK (M:List AK):∀ k,IsMap (EP M k)
 | 0=>isMap_empty
 | k+1=>(VK M k).put _ _
def qna (M:List AK)(t:Int):∀ k,Maps.has (EP M k) (.int .i64 t)=(ju M t k).isSome
 | 0=>rfl
 | k+1=>by
  unfold EP ju;by_cases e:(M.getD k Fq).t=t
  ·rw[e,if_pos rfl,Maps.has_put_same (VK M k) (show WideAt.IsKeyLit (Lit.int .i64 t) from trivial)];rfl
  ·rw[if_neg e,Maps.has_put_other (by simp;first|exact e|exact fun h=>e h.symm|omega),qna M t k]
def JO (M:List AK)(t:Int)(z:DataW Unit):∀ k,(EP M k).atKey (.int .i64 t) z=match ju M t k with|some i=>.lit (.int .i64 i)|none=>z
 | 0=>rfl
 | k+1=>by
  unfold EP ju;by_cases e:(M.getD k Fq).t=t
  ·rw[e,if_pos rfl,Maps.atKey_put_same (VK M k) (show WideAt.IsKeyLit (Lit.int .i64 t) from trivial)]
  ·rw[if_neg e,Maps.atKey_put_other (by simp;first|exact e|exact fun h=>e h.symm|omega),JO M t z k]
section
variable {bK : List (List (List Pg.D))} {R R' : Rd} {i : Nat} {e : Bg} {es : List Bg}
def Rd.tb (bK:List (List (List Pg.D)))(R:Rd):Prop:=∀ x ∈ R.M,∃ t b:Nat,x.t=t/\t<bK.length/\x.b=b/\b<(bK.getD t []).length
def TY {M:List AK}{k:Nat}{x:AK}(h:∀ x ∈ M,∃ t b:Nat,x.t=t/\t<bK.length/\x.b=b/\b<(bK.getD t []).length)(h1:x.t=(M.getD k Fq).t)(h2:x.b=(M.getD k Fq).b) :
  ∀ y ∈ M.set k x,∃ t b:Nat,y.t=t/\t<bK.length/\y.b=b/\b<(bK.getD t []).length:=by
 intro y hy;by_cases hk:k<M.length
 ·rcases List.mem_or_eq_of_mem_set hy with h3|rfl
  ·exact h y h3
  ·rw[h1,h2]
   refine h _ ?_;rw[Qi,Qb hk];exact aB hk
 ·rw[List.set_eq_of_length_le (by omega)]at hy
  exact h y hy
def NK (h:R.tb bK)(ht:R.take bK i e=some R'):R'.tb bK:=by
 cases AP ht with
 | came _ _=>exact h
 | lost _ _=>exact h
 | fail t s b bs ht hs htl hth hb hbl hsb hk hl he=>exact h
 | begun t s b bs ht hs htl hth hb hbl hsb hk hl he =>
  intro x hx;rcases Qs.1 hx with hx|hx
  ·exact h x hx
  ·rw[Zc]at hx
   subst hx;exact⟨t,b,rfl,htl,rfl,by rw[hth];exact hbl⟩
 | Bs t s b bs ht hs htl hth hb hbl hsb hk hl hn hd hf=>exact TY h rfl rfl
 | gG t s b bs ht hs htl hth hb hbl hsb hk hl hn hd hf=>exact TY h rfl rfl
 | dW t s b bs ht hs htl hth hb hbl hsb hk hl hn hd hf=>exact TY h rfl rfl
 | AL t s b bs ht hs htl hth hb hbl hsb hk hl hn hd hf=>exact TY h rfl rfl
def qm6:∀ (l:List Bg){R0:Rd}{i:Nat},R0.tb bK->za bK (some R0) i l=some R->R.tb bK
 | [],R0,i,h,hr=>by injection hr with hr;subst hr;exact h
 | e::l,R0,i,h,hr=>by
  have h2:za bK (R0.take bK i e) (i+1) l=some R:=hr
  cases ht:R0.take bK i e with
  | none=>rw[ht,zy]at h2;cases h2
  | some R1 =>
   rw[ht]at h2;exact qm6 l (NK h ht) h2
def qm3 (hI:R.inv bK es){x:AK}(hx:R.M[i]?=some x) :
  ∃ (f:Nat)(e:Bg),x.fr=f/\f<es.length/\es[f]?=some e/\e.a.k=1/\e.t=x.t/\x.AX.length=x.Cu.length/\((x.te=-1/\x.en=0)\/∃ g:Nat,x.te=g/\(x.en=1\/x.en=2)):=by
 obtain⟨f,e,h1,h2,⟨h3,_⟩,h4,h5,h6⟩:=hI.te i x hx;exact⟨f,e,h1,(Qc.1 h2).1,h2,h3,h4,h5,h6.imp id fun⟨g,a,_,_,b⟩=>⟨g,a,b⟩⟩
def Hr (hI:R.inv bK es){x:AK}(hx:R.M[i]?=some x)(h:ju R.M x.t i=none):x.b=0:=by
 have h1:=hI.pv i x hx;unfold NX at h1;rw[h]at h1;exact h1
def Hs (hI:R.inv bK es){j:Nat}{x:AK}(hx:R.M[i]?=some x)(h:ju R.M x.t i=some j) :
  j<i/\∃ (y:AK)(g:Nat)(e:Bg),R.M[j]?=some y/\y.te=g/\(g:Int)<x.fr/\g<es.length/\es[g]?=some e/\((x.b=y.b/\y.en=2/\e.a.e=141)\/x.b=y.b+1):=by
 have h1:=hI.pv i x hx;unfold NX at h1;rw[h]at h1;obtain⟨y,h2,h3,g,e,h4,h5,h6⟩:=h1;exact⟨(mp _ _ _ _ h).1,y,g,e,h2,h4,by omega,(Qc.1 h5).1,h5,h6⟩
end
end
section
open Go.RowKit Hp
attribute [local go_sem ↓] Go.wp_at_zero Go.wp_at_succ
noncomputable def Pq (n:Nat):Code:=((Tryz.f10.body.bind (wq n)).getD .skip)
abbrev Ti (bX bY ga gh oh q g bn bb f fq:Nat)(yn yc:Int)(w':Aa):Prop:=w'.cell? ⟨bX,1,none⟩=some (.int .i64 bn)/\w'.cell? ⟨bX,4,none⟩=some (.int .i64 f)/\w'.cell? ⟨bY,1,none⟩=some (.int .i64 bb)/\w'.cell? ⟨bY,5,none⟩=some (.int .i64 g)/\w'.cell? ⟨bY,8,none⟩=some (.int .i64 yn)/\w'.cell? ⟨ga,q*10+4,none⟩=some (.int .i64 fq)/\w'.cell? ⟨gh,oh+g*6+4,none⟩=some (.int .i64 yc)
def qpr (Q:Exit->Act->Aa->Prop)(W:Aa)(gh oh nh ch ga na ca i q f fq g bX bY bn bb:Nat)(qN ye:Int){u0 u1 u2 u3 u4 u5 u6 u8 Ni Nj Nk Nl Nm Nn Np Nq Nr Ns Nt Nu Nv Nw Nx Ny Nz N0 N1 N2 N3 N4 N5 N6 N7 N8 N9 Ra Rb Rc Rd Re Rf Rg Rh Ri Rj Rk Rl Rm Rn Ro Rp Rq Rr Rs Rt Ru Rv Rw Rx Ry Rz R0 R1 R2 R3 R4 R5 R6 R7 R8 R9 Va Vb Vc Vd Ve Vf Vg Vh Vi Vj Vk Vl Vm Vn Vo Vp Vq Vr Vs Vt Vu Vv Vw Vx Vy Vz V0 V1 V2 V3 V4 V5 V6 V7 V8 V9 Xa Xb Xc Xd Xe Xf Xg Xh Xi Xj Xk Xl Xm Xn Xo Xp Xq Xr Xs Xt Xu Xv Xw Xx Xy Xz X0 X1 X2 X3 X4 X5 X6 X7 X8 X9 Ya Yb Yc Yd Ye Yf Yg Yh Yi Yj Yk Yl Ym Yn Yo Yp Yr Ys Yt Yu Yv Yw Yx Yy Yz Y0 Y1 Y2 Y3 Y4:Ac}
  (x1:W.cell? ⟨bX,1,none⟩=some (.int .i64 bn))(x4:W.cell? ⟨bX,4,none⟩=some (.int .i64 f))(y1:W.cell? ⟨bY,1,none⟩=some (.int .i64 bb))(y5:W.cell? ⟨bY,5,none⟩=some (.int .i64 g))(y8:W.cell? ⟨bY,8,none⟩=some (.int .i64 qN))
  (q4:W.cell? ⟨ga,q*10+4,none⟩=some (.int .i64 fq))(e4:W.cell? ⟨gh,oh+g*6+4,none⟩=some (.int .i64 ye))(hg:g<nh)(hgf:g<f)(hq:q<na)(hqi:q+1=i)(hfq:fq<f)(hi:i<=100000)(Apg:qN=2)(hye:ye=141)
  (bV:∀ c d x a w,Q (.panic c) (a.put d x) w->Q (.panic c) a w)
  (bO:∀ (n:Nat)(Y5 Y6 Y7 Y8 Y9 Ga Gb Gc Gd Ge Gf Gg Gh Gi Gj Gk Gl Gm Gn Gp Gq Gr Gs Gt Gu Gv Gw Gx Gy Gz G0 G1 G2 G3 G4 G5 G6 G7 G8 G9 Ja Jb Jc Jd Je Jf Jg Jh Ji Jj Jk Jl Jm Jn:Ac),Q .normal ⟨#[u0,u1,u2,u3,u4,u5,u6,Ah (some ⟨gh,oh,none⟩) nh ch,u8,Ah (some ⟨ga,0,none⟩) na ca,Ni,Nj,.int .i64 i,Ag (some ⟨bX,0,none⟩),Nk,Nl,Ag (some ⟨bY,0,none⟩),.bool true,Nm,Nn,Np,Nq,Nr,Ns,Nt,Nu,Nv,Nw,Nx,Ny,Nz,N0,N1,N2,N3,N4,N5,N6,N7,N8,N9,Ra,Rb,Rc,Rd,Re,Rf,Rg,Rh,Ri,Rj,Rk,Rl,Rm,Rn,Ro,Rp,Rq,Rr,Rs,Rt,Ru,Rv,Rw,Rx,Ry,Rz,R0,R1,R2,R3,R4,R5,R6,R7,R8,R9,Va,Vb,Vc,Vd,Ve,Vf,Vg,Vh,Vi,Vj,Vk,Vl,Vm,Vn,Vo,Vp,Vq,Vr,Vs,Vt,Vu,Vv,Vw,Vx,Vy,Vz,V0,V1,V2,V3,V4,V5,V6,V7,V8,V9,Xa,Xb,Xc,Xd,Y5,Y6,Y7,Y8,Y9,Ga,Gb,Gc,Gd,Ge,Gf,Gg,Gh,Gi,Gj,Gk,Gl,Gm,Gn,Gp,Gq,Gr,Gs,Gt,Gu,Gv,Gw,Gx,Gy,Gz,G0,G1,G2,G3,G4,G5,G6,G7,G8,G9,Ja,Jb,Jc,Jd,Je,Jf,Jg,Jh,Ji,Jj,Jk,Jl,Jm,Jn,.bool false,Yy,Yz,Y0,Y1,Y2,Y3,Y4],[]⟩ (W.drewN n)) :
  Code.wp ARt (Pq 19) Q ⟨#[u0,u1,u2,u3,u4,u5,u6,Ah (some ⟨gh,oh,none⟩) nh ch,u8,Ah (some ⟨ga,0,none⟩) na ca,Ni,Nj,.int .i64 i,Ag (some ⟨bX,0,none⟩),Nk,Nl,Ag (some ⟨bY,0,none⟩),.bool true,Nm,Nn,Np,Nq,Nr,Ns,Nt,Nu,Nv,Nw,Nx,Ny,Nz,N0,N1,N2,N3,N4,N5,N6,N7,N8,N9,Ra,Rb,Rc,Rd,Re,Rf,Rg,Rh,Ri,Rj,Rk,Rl,Rm,Rn,Ro,Rp,Rq,Rr,Rs,Rt,Ru,Rv,Rw,Rx,Ry,Rz,R0,R1,R2,R3,R4,R5,R6,R7,R8,R9,Va,Vb,Vc,Vd,Ve,Vf,Vg,Vh,Vi,Vj,Vk,Vl,Vm,Vn,Vo,Vp,Vq,Vr,Vs,Vt,Vu,Vv,Vw,Vx,Vy,Vz,V0,V1,V2,V3,V4,V5,V6,V7,V8,V9,Xa,Xb,Xc,Xd,Xe,Xf,Xg,Xh,Xi,Xj,Xk,Xl,Xm,Xn,Xo,Xp,Xq,Xr,Xs,Xt,Xu,Xv,Xw,Xx,Xy,Xz,X0,X1,X2,X3,X4,X5,X6,X7,X8,X9,Ya,Yb,Yc,Yd,Ye,Yf,Yg,Yh,Yi,Yj,Yk,Yl,Ym,Yn,Yo,Yp,Yr,Ys,Yt,Yu,Yv,Yw,Yx,Yy,Yz,Y0,Y1,Y2,Y3,Y4],[]⟩ W:=by
 conv=>arg 2;whnf
 dsimp only;have HX:=Qa bO;have g0:¬((g:Int)<0):=by omega
 have g1:¬((f:Int)<=(g:Int)):=by omega
 have g2:(g:Int)<(nh:Int):=by omega
 have i0:(0:Int)<(i:Int):=by omega
 have i0n:0<i:=by omega
 have q1:(q:Int)<(na:Int):=by omega
 have q2:¬((f:Int)<=(fq:Int)):=by omega
 subst Apg hye;have HSs:=Qa (show wrap64 ((i:Int)-1)=(q:Int)/\IntKind.i64.wrap ((i:Int)-1)=(q:Int) from ⟨(af _ (by omega)).trans (by omega),(aj _ (by omega)).trans (by omega)⟩)
 obtain⟨hs1,hs2⟩:=HSs.out;clear bO hg hgf hq hqi hfq hi HSs;refine zo (Ti bX bY ga gh oh q g bn bb f fq 2 141) 55 (by kernel_rfl) ?_
 have HS:=(show (Ti bX bY ga gh oh q g bn bb f fq 2 141) W.drew from ⟨x1,x4,y1,y5,y8,q4,e4⟩);refine qp (by kernel_rfl) bV [0,1,2,3,4,5,6,7,8,9,10,11,12,13,14,15,16,17,18,19,20,21,22,23,24,25,26,27,28,29,30,31,32,33,34,35,36,37,38,39,40,41,42,43,44,45,46,47,48,49,50,51,52,53,54] (by kernel_rfl) (by decide) HS ?_
 iterate 55 (refine De (v:=?_) rfl ?_ ?_;rotate_left;(· (first|(refine Or.inl ⟨by rfl,?_⟩;rintro w' ⟨x1,x4,y1,y5,y8,q4,e4⟩;go_simp;try with_reducible rfl)|(refine Or.inr ⟨by rfl,?_⟩;with_reducible rfl)));simp only[ay,ag,ai,Act.put,aa,az,aA])
 refine Df ?_;refine zd (by kernel_rfl) ?_
 exact HX.out 1 _ _ _ _ _ _ _ _ _ _ _ _ _ _ _ _ _ _ _ _ _ _ _ _ _ _ _ _ _ _ _ _ _ _ _ _ _ _ _ _ _ _ _ _ _ _ _ _ _ _ _ _ _ _
def Hq (Q:Exit->Act->Aa->Prop)(W:Aa)(gh oh nh ch ga na ca i q f fq g bX bY bn bb:Nat)(qN ye:Int){u0 u1 u2 u3 u4 u5 u6 u8 Ni Nj Nk Nl Nm Nn Np Nq Nr Ns Nt Nu Nv Nw Nx Ny Nz N0 N1 N2 N3 N4 N5 N6 N7 N8 N9 Ra Rb Rc Rd Re Rf Rg Rh Ri Rj Rk Rl Rm Rn Ro Rp Rq Rr Rs Rt Ru Rv Rw Rx Ry Rz R0 R1 R2 R3 R4 R5 R6 R7 R8 R9 Va Vb Vc Vd Ve Vf Vg Vh Vi Vj Vk Vl Vm Vn Vo Vp Vq Vr Vs Vt Vu Vv Vw Vx Vy Vz V0 V1 V2 V3 V4 V5 V6 V7 V8 V9 Xa Xb Xc Xd Xe Xf Xg Xh Xi Xj Xk Xl Xm Xn Xo Xp Xq Xr Xs Xt Xu Xv Xw Xx Xy Xz X0 X1 X2 X3 X4 X5 X6 X7 X8 X9 Ya Yb Yc Yd Ye Yf Yg Yh Yi Yj Yk Yl Ym Yn Yo Yp Yr Ys Yt Yu Yv Yw Yx Yy Yz Y0 Y1 Y2 Y3 Y4:Ac}
  (x1:W.cell? ⟨bX,1,none⟩=some (.int .i64 bn))(x4:W.cell? ⟨bX,4,none⟩=some (.int .i64 f))(y1:W.cell? ⟨bY,1,none⟩=some (.int .i64 bb))(y5:W.cell? ⟨bY,5,none⟩=some (.int .i64 g))(y8:W.cell? ⟨bY,8,none⟩=some (.int .i64 qN))
  (q4:W.cell? ⟨ga,q*10+4,none⟩=some (.int .i64 fq))(e4:W.cell? ⟨gh,oh+g*6+4,none⟩=some (.int .i64 ye))(hg:g<nh)(hgf:g<f)(hq:q<na)(hqi:q+1=i)(hfq:fq<f)(hi:i<=100000)(hbn:bn=bb+1)(Afa:bb<=100)
  (bV:∀ c d x a w,Q (.panic c) (a.put d x) w->Q (.panic c) a w)
  (bO:∀ (n:Nat)(Y5 Y6 Y7 Y8 Y9 Ga Gb Gc Gd Ge Gf Gg Gh Gi Gj Gk Gl Gm Gn Gp Gq Gr Gs Gt Gu Gv Gw Gx Gy Gz G0 G1 G2 G3 G4 G5 G6 G7 G8 G9 Ja Jb Jc Jd Je Jf Jg Jh Ji Jj Jk Jl Jm Jn:Ac),Q .normal ⟨#[u0,u1,u2,u3,u4,u5,u6,Ah (some ⟨gh,oh,none⟩) nh ch,u8,Ah (some ⟨ga,0,none⟩) na ca,Ni,Nj,.int .i64 i,Ag (some ⟨bX,0,none⟩),Nk,Nl,Ag (some ⟨bY,0,none⟩),.bool false,Nm,Nn,Np,Nq,Nr,Ns,Nt,Nu,Nv,Nw,Nx,Ny,Nz,N0,N1,N2,N3,N4,N5,N6,N7,N8,N9,Ra,Rb,Rc,Rd,Re,Rf,Rg,Rh,Ri,Rj,Rk,Rl,Rm,Rn,Ro,Rp,Rq,Rr,Rs,Rt,Ru,Rv,Rw,Rx,Ry,Rz,R0,R1,R2,R3,R4,R5,R6,R7,R8,R9,Va,Vb,Vc,Vd,Ve,Vf,Vg,Vh,Vi,Vj,Vk,Vl,Vm,Vn,Vo,Vp,Vq,Vr,Vs,Vt,Vu,Vv,Vw,Vx,Vy,Vz,V0,V1,V2,V3,V4,V5,V6,V7,V8,V9,Xa,Xb,Xc,Xd,Y5,Y6,Y7,Y8,Y9,Ga,Gb,Gc,Gd,Ge,Gf,Gg,Gh,Gi,Gj,Gk,Gl,Gm,Gn,Gp,Gq,Gr,Gs,Gt,Gu,Gv,Gw,Gx,Gy,Gz,G0,G1,G2,G3,G4,G5,G6,G7,G8,G9,Ja,Jb,Jc,Jd,Je,Jf,Jg,Jh,Ji,Jj,Jk,Jl,Jm,Jn,.bool false,Yy,Yz,Y0,Y1,Y2,Y3,Y4],[]⟩ (W.drewN n)) :
  Code.wp ARt (Pq 19) Q ⟨#[u0,u1,u2,u3,u4,u5,u6,Ah (some ⟨gh,oh,none⟩) nh ch,u8,Ah (some ⟨ga,0,none⟩) na ca,Ni,Nj,.int .i64 i,Ag (some ⟨bX,0,none⟩),Nk,Nl,Ag (some ⟨bY,0,none⟩),.bool false,Nm,Nn,Np,Nq,Nr,Ns,Nt,Nu,Nv,Nw,Nx,Ny,Nz,N0,N1,N2,N3,N4,N5,N6,N7,N8,N9,Ra,Rb,Rc,Rd,Re,Rf,Rg,Rh,Ri,Rj,Rk,Rl,Rm,Rn,Ro,Rp,Rq,Rr,Rs,Rt,Ru,Rv,Rw,Rx,Ry,Rz,R0,R1,R2,R3,R4,R5,R6,R7,R8,R9,Va,Vb,Vc,Vd,Ve,Vf,Vg,Vh,Vi,Vj,Vk,Vl,Vm,Vn,Vo,Vp,Vq,Vr,Vs,Vt,Vu,Vv,Vw,Vx,Vy,Vz,V0,V1,V2,V3,V4,V5,V6,V7,V8,V9,Xa,Xb,Xc,Xd,Xe,Xf,Xg,Xh,Xi,Xj,Xk,Xl,Xm,Xn,Xo,Xp,Xq,Xr,Xs,Xt,Xu,Xv,Xw,Xx,Xy,Xz,X0,X1,X2,X3,X4,X5,X6,X7,X8,X9,Ya,Yb,Yc,Yd,Ye,Yf,Yg,Yh,Yi,Yj,Yk,Yl,Ym,Yn,Yo,Yp,Yr,Ys,Yt,Yu,Yv,Yw,Yx,Yy,Yz,Y0,Y1,Y2,Y3,Y4],[]⟩ W:=by
 conv=>arg 2;whnf
 dsimp only;have HX:=Qa bO;have g0:¬((g:Int)<0):=by omega
 have g1:¬((f:Int)<=(g:Int)):=by omega
 have g2:(g:Int)<(nh:Int):=by omega
 have i0:(0:Int)<(i:Int):=by omega
 have i0n:0<i:=by omega
 have q1:(q:Int)<(na:Int):=by omega
 have q2:¬((f:Int)<=(fq:Int)):=by omega
 have hne:((bn:Int)==(bb:Int))=false:=by rw[Qh];omega
 have HAd:=Qa (show wrap64 ((bb:Int)+1)=(bn:Int)/\IntKind.i64.wrap ((bb:Int)+1)=(bn:Int) from ⟨(af _ (by omega)).trans (by omega),(aj _ (by omega)).trans (by omega)⟩)
 obtain⟨Auq,Aur⟩:=HAd.out;clear hbn Afa;have HSs:=Qa (show wrap64 ((i:Int)-1)=(q:Int)/\IntKind.i64.wrap ((i:Int)-1)=(q:Int) from ⟨(af _ (by omega)).trans (by omega),(aj _ (by omega)).trans (by omega)⟩)
 obtain⟨hs1,hs2⟩:=HSs.out;clear bO hg hgf hq hqi hfq hi HSs;refine zo (Ti bX bY ga gh oh q g bn bb f fq qN ye) 55 (by kernel_rfl) ?_
 have HS:=(show (Ti bX bY ga gh oh q g bn bb f fq qN ye) W.drew from ⟨x1,x4,y1,y5,y8,q4,e4⟩);refine qp (by kernel_rfl) bV [0,1,2,3,4,5,6,7,8,9,10,11,12,13,14,15,16,17,18,19,20,21,22,23,24,25,26,27,28,29,30,31,32,33,34,35,36,37,38,39,40,41,42,43,44,45,46,47,48,49,50,51,52,53,54] (by kernel_rfl) (by decide) HS ?_
 iterate 55 (refine De (v:=?_) rfl ?_ ?_;rotate_left;(· (first|(refine Or.inl ⟨by rfl,?_⟩;rintro w' ⟨x1,x4,y1,y5,y8,q4,e4⟩;go_simp;try with_reducible rfl)|(refine Or.inr ⟨by rfl,?_⟩;with_reducible rfl)));simp only[ay,ag,ai,Act.put,aa,az,aA])
 refine Df ?_;refine zd (by kernel_rfl) ?_
 exact HX.out 1 _ _ _ _ _ _ _ _ _ _ _ _ _ _ _ _ _ _ _ _ _ _ _ _ _ _ _ _ _ _ _ _ _ _ _ _ _ _ _ _ _ _ _ _ _ _ _ _ _ _ _ _ _ _
end
section
open Go.RowKit Hp Go.Maps
attribute [local go_sem ↓] Go.wp_at_zero Go.wp_at_succ
def lc {w w':Aa}{D:DataW Unit}{b n:Nat}(h:w.ownsMap ARt 3 (plainElem ARt 3) b n D)(k:Ae w.1.size w w'):w'.ownsMap ARt 3 (plainElem ARt 3) b n D:=by
 have hlt:=h.lt;obtain⟨es,clock,hb,F,hs,hD⟩:=h;exact⟨es,clock,(k.block b hlt).trans hb,F,hs,hD⟩
def qbk (HA:∀ w,Ab ARt 41 #[] w fun e w'=>e=O (.bool true)/\Ae w.1.size w w') (v:Ac) (raw:List (List (List Pg.D))) (vl:Ac) (st:List Int) (w:Aa) (h:AH w v raw) (hI:TI raw) (hl:CN w vl st) (hz:∀ z ∈ st,D4 z) :
  Ab ARt 10 #[v,vl] w fun e w'=>e=O (.bool true)/\Ae w.1.size w w':=by
 have HAw:=Qa HA;have iQ:=Qa (fun (w':Aa) (hb:Ae w.1.size w w')=>UD v raw vl st w' (h.below hb) hI (hl.below hb) hz)
 obtain⟨pl,cl,rfl,_,_,_⟩:=hl;obtain⟨np,fH⟩:=Ja0 ((jr raw).length);rw[<-fH]at iQ;have uJ:=Qa fH;clear h hI hz HA fH;go_enter func10,ntmps10;go_upto_region 3 with (first
  | (go_at_call 41;refine (HAw.out _).mono ?_;rintro e w1 ⟨rfl,hb1⟩;have HB1:=Qa hb1;clear hb1)
  | (go_at_call 42;refine (iQ.out _ HB1.out).mono ?_;rintro e w3 ⟨w2,oP,pv,cv,vh,m,o,M,rfl,hb2,hF,hR,hE⟩)
  | fail)
 obtain⟨ph,ch,rfl⟩:∃ ph ch,vh=.slice ph M.past.length ch:=by obtain⟨_,a,c,e,_⟩:=hE;exact⟨a,c,e⟩
 obtain⟨R,dI⟩:=hR.rd;have hpl:=hR.run.ok.pl;obtain⟨nh,dJ⟩:=Ja0 M.past.length;have hch:nh<=ch:=by obtain⟨_,a,c,e,hc,_⟩:=hE;injection e with _ _ e3;rw[e3,dJ];exact hc
 rw[<-dJ]at hpl;have hr:=dI.rd;have wV:=uj dI.co hr;have htb:R.tb (jr raw):=qm6 _ (fun x hx=>by simp[Rd.new]at hx) hr
 have HTb:=Qa (fun (x:AK) (hx:x ∈ R.M)=>show ∃ t b:Nat,x.t=t/\t<=100/\x.b=b/\b<=100 from by
  obtain⟨t,b,h1,h2,h3,h4⟩:=htb x hx;obtain⟨g1,g4⟩:=nc raw;rw[Qi,Qb h2]at h4;have:=(mh (aB h2)).1;simp only[Option.getD_some]at h4;exact⟨t,b,h1,by omega,h3,by omega⟩)
 have HT1:=Qa (fun (W:Aa) (hb:Ae w3.1.size w3 W)=>by
  have h:=mj uJ.out hF (qe hR.run.old hb) (hE.below hb) (by omega)
  rw[hr,<-dJ]at h;exact h)
 have sW:=Qa wV;have iF:=Qa hE;have HB3:=Qa (show Ae w.1.size w w3 from qe (qe HB1.out hb2) hR.run.old);have pW:=Qa (TS _ (T4 (jr raw)) hr);have hbl:=pW.out.m;rw[Nat.zero_add,<-dJ]at hbl;rw[<-dJ];have oz:=Qa (And.intro hpl hbl);have jT:=Qa dJ;clear hE hr wV hb2 hR dI hpl hbl hF dJ htb;go_upto_region 6 with (first
  | (go_at_call 43;refine (HT1.out _ (qd w3)).mono ?_;rintro e w4 h4;obtain⟨Ma,pa,ca,oa,rfl,hb4,wZ,xA⟩:=h4.yes;have sZ:=Qa wZ;have tQ:=Qa xA;have mE:=Qa hb4;clear h4 wZ xA hb4)
  | fail)
 obtain⟨na,hna⟩:=Ja0 Ma.length;have la:na=R.M.length:=by rw[hna,<-sZ.out,Qg]
 have tF:=Qa hna;have kV:=Qa (show na<=2000 from by have:=oz.out;omega)
 rw[<-hna]at tQ ⊢;clear la hna;have hmm:=@run_makeMap ARt;go_wp2_with fail;obtain⟨W0,hW0⟩:=Ja0 (w4.alloc (.map #[] 0));obtain⟨mb,hmb⟩:=Ja0 w4.1.size;have hM0:W0.ownsMap ARt 3 (plainElem ARt 3) mb 0 (EP R.M 0):=by rw[hW0,hmb];exact World.ownsMap_made w4 _ _ _
 have hB0:Ae w4.1.size w4 W0:=by rw[hW0];exact qc (qd w4) _
 rw[<-hW0,<-hmb];have HM0:=Qa hM0;have HB0:=Qa hB0;have HMb:=Qa (show w4.1.size<=mb from by rw[hmb];exact Qk _)
 clear hmm hW0 hmb hM0 hB0;go_loopw [12] (fun ix wr=>∃ i:Nat,ix=.int .i64 i/\i<=na/\Ae w4.1.size w4 wr/\wr.ownsMap ARt 3 (plainElem ARt 3) mb i (EP R.M i)) (fun ix _=>na-(intOf ix).toNat)
 case atStart=>exact⟨0,rfl,Nat.zero_le _,HB0.out,HM0.out⟩
 case round =>
  obtain⟨i,rfl,hin,hbw,hmap⟩:=hrel;have mF:=Qa hbw;have HMp:=Qa hmap;clear hmap HM0 HB0;by_cases hlt:i<na
  ·have iJ:(i:Int)<(na:Int):=by omega
   have HW:=Qa (jd i (by have:=kV.out;omega))
   obtain⟨ma,oO⟩:∃ ma,Ma[i]?=some ma:=⟨_,Qb (by rw[<-tF.out];exact hlt)⟩
   have hxa:R.M[i]?=some ma.x:=by rw[<-sZ.out,Qj,oO];rfl
   obtain⟨ga,ca',pA,cA,pT,cT,ev,hca,e1,e2,fa,qC⟩:=(tQ.out.below hbw).at oO;injection ev with ev en iY;clear en;subst ev iY;rw[<-tF.out]at hca;obtain⟨f,e,hf,hfl,he,hek,het,hal,hend⟩:=qm3 sW.out hxa;obtain⟨tn,bn,ht,htl,hb,hbl⟩:=HTb.out _ (Qe hxa);have yU:=Qa hxa;obtain⟨⟨xt,xb,kR,kQ,nU,gM,nT,uC,kM,mD⟩,xva,xvt⟩:=ma;simp only at e1 e2 hf het hal hend ht hb;subst e1 e2 hf ht hb;have a0:wr.cell? ⟨ga,i*10,none⟩=some (.int .i64 tn):=fa 0 _ rfl;have a1:wr.cell? ⟨ga,i*10+1,none⟩=some (.int .i64 bn):=fa 1 _ rfl;have a2:wr.cell? ⟨ga,i*10+2,none⟩=some (.int .i64 kR):=fa 2 _ rfl;have a3:wr.cell? ⟨ga,i*10+3,none⟩=some (.int .i64 kQ):=fa 3 _ rfl;have a4:wr.cell? ⟨ga,i*10+4,none⟩=some (.int .i64 f):=fa 4 _ rfl;have a5:wr.cell? ⟨ga,i*10+5,none⟩=some (.int .i64 gM):=fa 5 _ rfl;have a6:wr.cell? ⟨ga,i*10+6,none⟩=some (.slice pA nT.length cA):=fa 6 _ rfl;have a7:wr.cell? ⟨ga,i*10+7,none⟩=some (.slice pT uC.length cT):=fa 7 _ rfl;have a8:wr.cell? ⟨ga,i*10+8,none⟩=some (.int .i64 kM):=fa 8 _ rfl;have a9:wr.cell? ⟨ga,i*10+9,none⟩=some (.int .i64 mD):=fa 9 _ rfl;rw[<-hal]at a7;obtain⟨nx,hnx⟩:=Ja0 nT.length;rw[<-hnx]at a6 a7;obtain⟨gh,oh,qE,hent⟩:∃ gh oh,ph=some ⟨gh,oh,none⟩/\∀ (W:Aa),Ae w3.1.size w3 W->∀ (k:Nat) (x:Bg),M.past[k]?=some x->Ln W gh (oh+k*6) x:=by
    obtain⟨_,a,c,ev,_,hent⟩:=iF.out;injection ev with ev _ _;rcases hent with h0|⟨g,off,e,hent⟩
    ·rw[h0]at hfl;exact absurd hfl (Nat.not_lt_zero _)
    ·exact⟨g,off,ev.trans e,fun W hb k x hx=>(hent k x hx).below hb⟩
   subst qE;have hbr:Ae w3.1.size w3 wr:=qe mE.out hbw;have E6:=hent wr hbr f e he;have h0:wr.cell? ⟨gh,oh+f*6,none⟩=some (.int .i64 tn):=by rw[E6.c0,het]
   have h3:wr.cell? ⟨gh,oh+f*6+3,none⟩=some (.int .i64 1):=by rw[E6.c3,hek]
   have HEt:=Qa hent;have lga:ga<wr.1.size:=qh a0;have lgh:gh<wr.1.size:=qh h0;have fI:(f:Int)<(nh:Int):=by rw[jT.out];omega
   have fJ:¬((nh:Int)<=(f:Int)):=by omega
   have hf0:¬((f:Int)<0):=by omega
   have hq:(decide (gM<0)==(kM==0))=true:=by
    rcases hend with ⟨rfl,rfl⟩|⟨g,rfl,rfl|rfl⟩
    ·rfl
    ·have:¬((g:Int)<0):=by omega
     simp[this]
    ·have:¬((g:Int)<0):=by omega
     simp[this]
   have yD:=Qa hbr;clear fa qC hxa oO hnx hal hend hek het he E6 hent hbr hbw hfl;go_upto_region 13 with fail;go_quiet (fail);obtain⟨W,hW⟩:=Ja0 ((wr.alloc (.cells #[.int .i64 tn,.int .i64 bn,.int .i64 kR,.int .i64 kQ,.int .i64 f,.int .i64 gM,.slice pA nx cA,.slice pT nx cT,.int .i64 kM,.int .i64 mD] 86)).drewN nq);rw[<-hW];have hbW:Ae wr.1.size wr W:=by rw[hW];exact qx (qc (qd wr) _) _
   have kU:=Qa (show Al W wr.1.size #[.int .i64 tn,.int .i64 bn,.int .i64 kR,.int .i64 kQ,.int .i64 f,.int .i64 gM,.slice pA nx cA,.slice pT nx cT,.int .i64 kM,.int .i64 mD] 86 from by rw[hW];exact (Al.new wr _ _).drewN _)
   have HMW:=Qa (lc HMp.out hbW);have sK:=Qa (mF.out.trans (hbW.mono mF.out.size));have H3W:=Qa (qe yD.out hbW);have nY:Hid (keyOf ARt 3 (.int .i64 tn)=some (.int .i64 tn)):=keyOf_int_mk underlying3 (Ad (by omega))
   have hh:=qna R.M (tn:Int) i;have ha:=JO R.M (tn:Int) (.lit (.int .i64 0)) i;have HDi:Hid (EP R.M (i+1)=(EP R.M i).put (.int .i64 tn) (.lit (.int .i64 i))):=by
    show (EP R.M i).put (.int .i64 (R.M.getD i Fq).t) _=_;rw[Qi,yU.out];rfl
   clear hW a0 a1 a2 a3 a4 a5 a6 a7 a8 a9 h0 h3 hq hf0 hbW lgh
   cases hla:ju R.M (tn:Int) i with
   | none =>
    rw[hla]at hh;have hhas:Maps.has (EP R.M i) (.int .i64 tn)=false:=hh;have hb0:bn=0:=by have:=Hr sW.out yU.out hla;simp only at this;omega
    subst hb0;obtain⟨wu,hrun,hm1,hg1⟩:=Ai (w:=W) (t:=83) (e:=3) HMW.out bk underlying83 (by simp only[maxLen];have:=kV.out;omega) (key:=.int .i64 tn) (val:=.int .i64 i) nY.out (plainElem_int underlying3 (Ad (n:=(i:Int)) (by have:=kV.out;omega)))
    have cX:=kU.out.cell;have sX:=kU.out.lt;clear hh ha hla;obtain⟨hw1,hw2⟩:=HW.out;go_wp2_with (first
     | (at_lookup;refine wpList_lookup_own_ok_int _ rfl _ _ 83 rfl 3 3 .i64 bk underlying83 underlying3 (U0 _) mb i (EP R.M i) rfl HMW.out _ _ rfl nY.out ?_;intro cv hat hwc)
     | fail)
    go_roundw
    case rel=>exact⟨i+1,by simp,hlt,(sK.out.grown hg1 sK.out.size (fun k hk=>by injection hk with hk;rw[<-hk];exact HMb.out)),by rw[HDi.out];exact hm1⟩
    case measure=>clear hw1 hw2;simp[intOf];omega
   | some k =>
    rw[hla]at hh ha;have hhas:Maps.has (EP R.M i) (.int .i64 tn)=true:=hh;have HA:=Qa ha;obtain⟨hki,y,g,eg,hy,hyt,hgf,hgl,heg,hyb⟩:=Hs sW.out yU.out hla;obtain⟨mk,hmk⟩:∃ mk,Ma[k]?=some mk:=⟨_,Qb (by rw[<-tF.out];omega)⟩
    have hyk:R.M[k]?=some mk.x:=by rw[<-sZ.out,Qj,hmk];rfl
    rw[hy]at hyk;injection hyk with hyk;subst hyk;obtain⟨q,hqi⟩:∃ q,q+1=i:=⟨i-1,by omega⟩
    obtain⟨mq,mV⟩:∃ mq,Ma[q]?=some mq:=⟨_,Qb (by rw[<-tF.out];omega)⟩
    have hxq:R.M[q]?=some mq.x:=by rw[<-sZ.out,Qj,mV];rfl
    obtain⟨fq,_,hfq,_⟩:=qm3 sW.out hxq;have Aag:=sW.out.inc q _ _ hxq (by rw[hqi];exact yU.out)
    simp only at Aag hgf;obtain⟨gc,cc',_,_,_,_,ev,_,_,_,fc,_⟩:=(tQ.out.below sK.out).at mV;injection ev with ev en ec;clear en ec;injection ev with ev;injection ev with ev en ec;clear en ec;subst ev;have p4:W.cell? ⟨ga,q*10+4,none⟩=some (.int .i64 fq):=by rw[<-hfq];exact fc 4 _ rfl
    rw[hfq]at Aag;obtain⟨gb,cb',pB,cB,pU,cU,ev,hcb,e1,e2,fb,_⟩:=(tQ.out.below sK.out).at hmk;injection ev with ev en ec;clear en ec;injection ev with ev;injection ev with ev en ec;clear en ec;subst ev;obtain⟨_,bb,_,_,hbb,AEz⟩:=HTb.out _ (Qe hy);have E6:=HEt.out W H3W.out g eg heg;have h4:W.cell? ⟨gh,oh+g*6+4,none⟩=some (.int .i64 eg.a.e):=E6.c4;obtain⟨⟨yt,yb,yst,yse,yfr,yte,yac,yat,qN,yve⟩,yva,yvt⟩:=mk;simp only at e1 e2 hyt hyb hbb;subst e1 e2 hyt hbb;have b0:W.cell? ⟨ga,k*10,none⟩=some (.int .i64 yt):=fb 0 _ rfl;have b1:W.cell? ⟨ga,k*10+1,none⟩=some (.int .i64 bb):=fb 1 _ rfl;have b2:W.cell? ⟨ga,k*10+2,none⟩=some (.int .i64 yst):=fb 2 _ rfl;have b3:W.cell? ⟨ga,k*10+3,none⟩=some (.int .i64 yse):=fb 3 _ rfl;have b4:W.cell? ⟨ga,k*10+4,none⟩=some (.int .i64 yfr):=fb 4 _ rfl;have b5:W.cell? ⟨ga,k*10+5,none⟩=some (.int .i64 g):=fb 5 _ rfl;have b6:W.cell? ⟨ga,k*10+6,none⟩=some (.slice pB yac.length cB):=fb 6 _ rfl;have b7:W.cell? ⟨ga,k*10+7,none⟩=some (.slice pU yat.length cU):=fb 7 _ rfl;have b8:W.cell? ⟨ga,k*10+8,none⟩=some (.int .i64 qN):=fb 8 _ rfl;have b9:W.cell? ⟨ga,k*10+9,none⟩=some (.int .i64 yve):=fb 9 _ rfl;obtain⟨ny,hny⟩:=Ja0 yac.length;obtain⟨nu,hnu⟩:=Ja0 yat.length;rw[<-hny]at b6;rw[<-hnu]at b7;have wE:ga<W.1.size:=qh b0;have wG:gh<W.1.size:=qh h4;have pX:=Qa (show g<nh/\g<f/\q<na/\q+1=i/\fq<f/\i<=100000 from ⟨by rw[jT.out];exact hgl,by omega,by omega,hqi,by omega,by have:=kV.out;omega⟩)
    have kJ:(k:Int)<(na:Int):=by omega
    have cX:=kU.out.cell;have sX:=kU.out.lt;clear hh ha hla fb fc hmk mV hxq hfq hy heg E6 hny hnu hqi hgl Aag hgf hki hcb;rcases hyb with ⟨hyb,hen,he4⟩|hyb
    ·have Apf:bn=bb:=by omega
     subst Apf;subst hen;rw[he4]at h4;clear hyb he4;skip;go_upto_region 19 with (first
      | (at_lookup;refine wpList_lookup_own_ok_int _ rfl _ _ 83 rfl 3 3 .i64 bk underlying83 underlying3 (U0 _) mb i (EP R.M i) rfl HMW.out _ _ rfl nY.out ?_;intro cv hat hwc;obtain rfl:cv=(k:Int):=(by have e:=hat.symm.trans HA.out;injection e with e;injection e))
      | fail)
     clear b0 b1 b2 b3 b4 b5 b6 b7 b8 b9 hhas;obtain⟨W7,qD⟩:=Ja0 (W.alloc (.cells #[.int .i64 yt,.int .i64 bn,.int .i64 yst,.int .i64 yse,.int .i64 yfr,.int .i64 g,.slice pB ny cB,.slice pU nu cU,.int .i64 2,.int .i64 yve] 86));rw[<-qD];have kG:Ae W.1.size W W7:=by rw[qD];exact qc (qd W) _
     have jY:Al W7 W.1.size #[.int .i64 yt,.int .i64 bn,.int .i64 yst,.int .i64 yse,.int .i64 yfr,.int .i64 g,.slice pB ny cB,.slice pU nu cU,.int .i64 2,.int .i64 yve] 86:=by rw[qD];exact Al.new W _ _
     have HY:=Qa (And.intro kG jY);have wC:=kU.out.below kG kU.out.lt;have cX:=wC.cell;have cY:=jY.cell;have q4:=(kG.cell (p:=⟨ga,q*10+4,none⟩) wE).trans p4;have e4:=(kG.cell (p:=⟨gh,oh+g*6+4,none⟩) wG).trans h4;clear qD kG jY p4 h4 wE wG sX;clear wC;refine qpr _ W7 gh oh nh _ ga na _ i q f fq g wr.1.size W.1.size bn bn _ _ (cX 1) (cX 4) (cY 1) (cY 5) (cY 8) q4 e4 pX.out.1 pX.out.2.1 pX.out.2.2.1 pX.out.2.2.2.1 pX.out.2.2.2.2.1 pX.out.2.2.2.2.2 rfl rfl (fun c d x a w h=>by cases d<;>exact h) ?_
     intro nq z117 z118 z119 z120 z121 z122 z123 z124 z125 z126 z127 z128 z129 z130 z131 z132 z133 z134 z135 z136 z137 z138 z139 z140 z141 z142 z143 z144 z145 z146 z147 z148 z149 z150 z151 z152 z153 z154 z155 z156 z157 z158 z159 z160 z161 z162 z163 z164 z165 z166 z167 z168 z169 z170;obtain⟨W2,hW2⟩:=Ja0 (W7.drewN nq);rw[<-hW2];have hbW2:Ae W.1.size W W2:=by rw[hW2];exact qx HY.out.1 nq
     clear cX cY q4 e4;have wB:=kU.out.below hbW2 kU.out.lt;have cX:=wB.cell;have sX:=wB.lt;have HB2:=Qa hbW2;obtain⟨wu,hrun,hm1,hg1⟩:=Ai (w:=W2) (t:=83) (e:=3) (lc HMW.out hbW2) bk underlying83 (by simp only[maxLen];have:=kV.out;omega) (key:=.int .i64 tn) (val:=.int .i64 i) nY.out (plainElem_int underlying3 (Ad (n:=(i:Int)) (by have:=kV.out;omega)))
     clear hW2 hbW2 wB;obtain⟨hw1,hw2⟩:=HW.out;go_wp2_with fail;go_roundw
     case rel=>exact⟨i+1,by simp,hlt,((sK.out.trans (HB2.out.mono sK.out.size)).grown hg1 (Qo sK.out.size HB2.out.size) (fun k hk=>by injection hk with hk;rw[<-hk];exact HMb.out)),by rw[HDi.out];exact hm1⟩
     case measure=>clear hw1 hw2;simp[intOf];omega
    ·have hbn:bn=bb+1:=by omega
     have qQ:=Qa hbn;have hne:((bn:Int)==(bb:Int))=false:=by rw[Qh];omega
     clear hyb hbn;skip;go_upto_region 19 with (first
      | (at_lookup;refine wpList_lookup_own_ok_int _ rfl _ _ 83 rfl 3 3 .i64 bk underlying83 underlying3 (U0 _) mb i (EP R.M i) rfl HMW.out _ _ rfl nY.out ?_;intro cv hat hwc;obtain rfl:cv=(k:Int):=(by have e:=hat.symm.trans HA.out;injection e with e;injection e))
      | fail)
     clear b0 b1 b2 b3 b4 b5 b6 b7 b8 b9 hhas;obtain⟨W7,qD⟩:=Ja0 (W.alloc (.cells #[.int .i64 yt,.int .i64 bb,.int .i64 yst,.int .i64 yse,.int .i64 yfr,.int .i64 g,.slice pB ny cB,.slice pU nu cU,.int .i64 qN,.int .i64 yve] 86));rw[<-qD];have kG:Ae W.1.size W W7:=by rw[qD];exact qc (qd W) _
     have jY:Al W7 W.1.size #[.int .i64 yt,.int .i64 bb,.int .i64 yst,.int .i64 yse,.int .i64 yfr,.int .i64 g,.slice pB ny cB,.slice pU nu cU,.int .i64 qN,.int .i64 yve] 86:=by rw[qD];exact Al.new W _ _
     have HY:=Qa (And.intro kG jY);have wC:=kU.out.below kG kU.out.lt;have cX:=wC.cell;have cY:=jY.cell;have q4:=(kG.cell (p:=⟨ga,q*10+4,none⟩) wE).trans p4;have e4:=(kG.cell (p:=⟨gh,oh+g*6+4,none⟩) wG).trans h4;clear qD kG jY p4 h4 wE wG sX;clear wC;refine Hq _ W7 gh oh nh _ ga na _ i q f fq g wr.1.size W.1.size bn bb _ _ (cX 1) (cX 4) (cY 1) (cY 5) (cY 8) q4 e4 pX.out.1 pX.out.2.1 pX.out.2.2.1 pX.out.2.2.2.1 pX.out.2.2.2.2.1 pX.out.2.2.2.2.2 qQ.out (by omega) (fun c d x a w h=>by cases d<;>exact h) ?_
     intro nq z117 z118 z119 z120 z121 z122 z123 z124 z125 z126 z127 z128 z129 z130 z131 z132 z133 z134 z135 z136 z137 z138 z139 z140 z141 z142 z143 z144 z145 z146 z147 z148 z149 z150 z151 z152 z153 z154 z155 z156 z157 z158 z159 z160 z161 z162 z163 z164 z165 z166 z167 z168 z169 z170;obtain⟨W2,hW2⟩:=Ja0 (W7.drewN nq);rw[<-hW2];have hbW2:Ae W.1.size W W2:=by rw[hW2];exact qx HY.out.1 nq
     clear cX cY q4 e4;have wB:=kU.out.below hbW2 kU.out.lt;have cX:=wB.cell;have sX:=wB.lt;have HB2:=Qa hbW2;obtain⟨wu,hrun,hm1,hg1⟩:=Ai (w:=W2) (t:=83) (e:=3) (lc HMW.out hbW2) bk underlying83 (by simp only[maxLen];have:=kV.out;omega) (key:=.int .i64 tn) (val:=.int .i64 i) nY.out (plainElem_int underlying3 (Ad (n:=(i:Int)) (by have:=kV.out;omega)))
     clear hW2 hbW2 wB;obtain⟨hw1,hw2⟩:=HW.out;go_wp2_with fail;go_roundw
     case rel=>exact⟨i+1,by simp,hlt,((sK.out.trans (HB2.out.mono sK.out.size)).grown hg1 (Qo sK.out.size HB2.out.size) (fun k hk=>by injection hk with hk;rw[<-hk];exact HMb.out)),by rw[HDi.out];exact hm1⟩
     case measure=>clear hw1 hw2;simp[intOf];omega
  ·obtain rfl:i=na:=by omega
   go_wp2_with fail;go_ret;exact⟨rfl,qe HB3.out (qe mE.out mF.out)⟩
