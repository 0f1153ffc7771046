/- Laws. -/
import Derived.Test.YticcgnnefilhcaaGreatDoorT23
set_option linter.all false
set_option maxHeartbeats 8000000
set_option maxRecDepth 99999
namespace Go.Proofs.YticcgnnefilhcaaGreatDoor
open Sos Lib
variable{K a b n:Nat}{q x y:Rat}
def WN(m n:Nat):nl (m+n)<=max (nl m) (nl n)+1:=by
 have a:=cY m;have b:=cY n;refine cJ ?_;have c:BN^nl m<=BN^max (nl m) (nl n):=cO (by decide) (Nat.le_max_left _ _);have d:BN^nl n<=BN^max (nl m) (nl n):=cO (by decide) (Nat.le_max_right _ _);rw[dH];have e:2*BN^max (nl m) (nl n)<=BN^max (nl m) (nl n)*BN:=by rw[dN];exact eV _ (by decide)
 omega
def pM{n d:Int}(hn:nl n.natAbs<=K)(b:nl d.natAbs<=K)(a:1<=K):RL K ((n:Rat)/d):=CA n d K hn b a
def xR(h:RL K q):1<=K:=by
 have b:=h.2;rcases iB K with a|a
 ·subst a;have:=cY q.den;rw[show nl q.den=0 by omega] at this;have:=q.den_pos;simp at *;omega
 ·exact a
def o6(c:RL a x)(d:RL b y):RL (a+b) (x*y):=by
 rw[<-yV];refine pM ?_ ?_ (by have:=xR c;omega)
 ·rw[fL];exact aH (fI _ _) (bqJ c.1 d.1)
 ·rw[fL];exact aH (fI _ _) (bqJ c.2 d.2)
def CI(c:RL a x)(d:RL b y):RL (a+b+1) (x+y):=by
 rw[<-EB];refine pM ?_ ?_ (by omega)
 ·refine aH (cK (byV _ _)) (aH (WN _ _) ?_);have g:=fI x.num.natAbs y.den;have h:=fI y.num.natAbs x.den;have e:(x.num*y.den).natAbs=x.num.natAbs*y.den:=by rw[fL,dD]
  have f:(y.num*x.den).natAbs=y.num.natAbs*x.den:=by rw[fL,dD]
  rw[e,f];have:=c.1;have:=c.2;have:=d.1;have:=d.2;omega
 ·rw[fL];exact aH (fI _ _) (by have:=c.2;have:=d.2;simp only[dD];omega)
def JM(c:RL a x)(d:RL b y):RL (a+b+1) (x-y):=by
 rw[Rat.sub_eq_add_neg];exact CI c (C7 d)
def xS(c:RL a x)(e:RL b y):RL (a+b) (x/y):=by
 by_cases d:y=0
 ·rw[d,bxV,Rat.inv_zero,gX];exact iG (by have:=xR c;omega)
 ·rw[<-ED x y d];refine pM ?_ ?_ (by have:=xR c;omega)
  ·rw[fL];exact aH (fI _ _) (bqJ c.1 e.2)
  ·rw[fL];exact aH (fI _ _) (bqJ c.2 e.1)
def az3(h:n<18446744073709551616):RL 1 ((n:Nat):Rat):=⟨cJ (by unfold BN;simpa using h),by show nl 1<=1;exact cJ (by decide)⟩
def lV{l:List Rat}(h:∀q∈l,RL K q)(b:RL K 0)(i:Nat):RL K (cf l i):=by
 by_cases a:i<l.length
 ·rw[fZ a];exact h _ (az6 a)
 ·rw[bV (by omega)];exact b
end Go.Proofs.YticcgnnefilhcaaGreatDoor
namespace Go.Proofs.YticcgnnefilhcaaGreatDoor
open Go.RowKit Sos Tryz
variable{K X:Nat}
def byE{q:Rat}(h:RL K q)(m:Nat):RL (m*K+1) (q^m):=by
 have a:=Y2 q.num.natAbs m;have b:=Y2 q.den m;have c:=eV m h.1;have d:=eV m h.2;exact⟨by rw[Rat.num_pow,Int.natAbs_pow];omega,by rw[Rat.den_pow];omega⟩
def cxR{n:Int}(h:nl n.natAbs<=X)(a:1<=X):RL X (n:Rat):=⟨h,by show nl 1<=X;exact aH (cJ (m:=1) (by unfold BN;decide)) a⟩
def dx4(x y:List Int)(D E:Int)(va vb vd ve:Value)(w:World)(Q:Glob w)(ha:WholeAt w va x)(ak:WholeAt w vb y)(C:IntAt w vd D)(F:IntAt w ve E)(tx:aN x)(ty:aN y)(bz:0<D)(b0:0<E)(K:Nat)(kx:∀n∈x,nl n.natAbs<=K)(ky:∀n∈y,nl n.natAbs<=K)(kD:nl D.natAbs<=K)(kE:nl E.natAbs<=K)(hK:1<=K)(bn:K<=1048576)(hN:x.length+y.length<=128):
  Calls prog 20 #[va,vb,vd,ve] w (iF w (azW x y D E)):=by
 obtain⟨A,c,rfl,hc⟩:=ha.form;obtain⟨A',c',rfl,bo⟩:=ak.form;obtain⟨sd,Ad,kd,cd,rfl⟩:=C.form;obtain⟨se,Ae,ke,ce,rfl⟩:=F.form;by_cases x0:x=[]
 ·have q1:((x.length:Int)==0)=true:=by rw[x0];rfl
  have HQ:Hid (azW x y D E=0):=if_pos (.inl x0);clear kx ky tx ty hN x0;obtain⟨W,eW,g,i,j,R⟩:=gE w [.bool sd,.slice Ad kd cd] 43 [.bool se,.slice Ae ke ce] 43 [.bool false,.slice none 0 0,.bool false,.slice none 0 0] 47;have H:=aa i.g2 (aa j.g2 R.g4);go_enter func20,ntmps20;go_wp2_with fail;(try rw[eW]);clear eW;obtain⟨W6,V,R,g,f,O⟩:=R.put4 g (by omega) (.bool false) (.slice none 0 0) (.bool false) (.slice none 0 0) rfl rfl;replace i:=O i (by omega);replace j:=O j (by omega);rw[V];clear V;replace H:=aa i.k2 (aa j.k2 R.k4);exact aM (v:= .agg #[.bool false,.slice none 0 0,.bool false,.slice none 0 0]) (by simp[results,results20,go_sem,R.k4]) rfl ⟨_,rfl,by rw[HQ.out];exact RatAt.int (n:=0) (IntAt.zero _) (IntAt.zero _),g⟩
 ·by_cases y0:y=[]
  ·have q1:((x.length:Int)==0)=false:=by rw[beq_eq_false_iff_ne];have:=List.length_pos_iff.2 x0;omega
   have q2:((y.length:Int)==0)=true:=by rw[y0];rfl
   have HQ:Hid (azW x y D E=0):=if_pos (.inr y0);clear kx ky tx ty hN x0 y0;obtain⟨W,eW,g,i,j,R⟩:=gE w [.bool sd,.slice Ad kd cd] 43 [.bool se,.slice Ae ke ce] 43 [.bool false,.slice none 0 0,.bool false,.slice none 0 0] 47;have H:=aa i.g2 (aa j.g2 R.g4);go_enter func20,ntmps20;go_wp2_with fail;(try rw[eW]);clear eW;obtain⟨W6,V,R,g,f,O⟩:=R.put4 g (by omega) (.bool false) (.slice none 0 0) (.bool false) (.slice none 0 0) rfl rfl;replace i:=O i (by omega);replace j:=O j (by omega);rw[V];clear V;replace H:=aa i.k2 (aa j.k2 R.k4);exact aM (v:= .agg #[.bool false,.slice none 0 0,.bool false,.slice none 0 0]) (by simp[results,results20,go_sem,R.k4]) rfl ⟨_,rfl,by rw[HQ.out];exact RatAt.int (n:=0) (IntAt.zero _) (IntAt.zero _),g⟩
  ·have lx:=List.length_pos_iff.2 x0;have ly:=List.length_pos_iff.2 y0;have q1:((x.length:Int)==0)=false:=by rw[beq_eq_false_iff_ne];omega
   have q2:((y.length:Int)==0)=false:=by rw[beq_eq_false_iff_ne];omega
   have HQ:Hid (azW x y D E=(((bC x:Int):Rat)/D)^(y.length-1)*(((bC y:Int):Rat)/E)^(x.length-1)*kC (aS x) (aS y)):=if_neg (fun h=>h.elim x0 y0);have a4:=nI tx x0;have a5:=nI ty y0;have al:nl ((bC x:Int)).natAbs<=K:=by rw[dD];exact az4 kx
   have am:nl ((bC y:Int)).natAbs<=K:=by rw[dD];exact az4 ky
   have a8:=fun W m o=>WX x (.slice A x.length c) W m o K kx (by unfold aJ;omega) (by omega);have a9:=fun W m o=>WX y (.slice A' y.length c') W m o K ky (by unfold aJ;omega) (by omega);have ap:=fun W u m o=>X4 x (bC x) (.slice A x.length c) u W m o (fun _=>a4) K kx al (by unfold aJ;omega) (by omega);have aq:=fun W u m o=>X4 y (bC y) (.slice A' y.length c') u W m o (fun _=>a5) K ky am (by unfold aJ;omega) (by omega);have ar:=fun W v u Q m o=>I3 (bC x) D v u W Q m o K al kD (by unfold aJ;omega);have au:=fun W v u Q m o=>I3 (bC y) E v u W Q m o K am kE (by unfold aJ;omega);have k1:RL K (((bC x:Int):Rat)/D):=CA _ _ K al kD hK;have k2:RL K (((bC y:Int):Rat)/E):=CA _ _ K am kE hK;have b1:(y.length-1)*K<=128*K:=dK _ (by omega);have b2:(x.length-1)*K<=128*K:=dK _ (by omega);have k3:=bU (byE k1 (y.length-1)) (show(y.length-1)*K+1<=128*K+1 by omega);have k4:=bU (byE k2 (x.length-1)) (show(x.length-1)*K+1<=128*K+1 by omega);have aw:=fun W v h=>cy9 (((bC x:Int):Rat)/D) (y.length-1) v W h (by unfold BN;omega) K k1 (by unfold aJ;omega);have ax:=fun W v h=>cy9 (((bC y:Int):Rat)/E) (x.length-1) v W h (by unfold BN;omega) K k2 (by unfold aJ;omega);have p0:∀{r:List Int},r≠[]->aS r≠[]:=fun hr e=>hr (bX (by rw[<-dF,e];rfl));obtain⟨z,hz,kz⟩:=cxS (dzP kx) (dzP ky) (N:=128) (by rw[dF,dF];exact hN)
   have ay:=fun W v u m o=>(dx6 (aS x) (aS y) v u W m o (p0 x0) (p0 y0) (gV tx) (gV ty) K 128 (dzP kx) (dzP ky) hK (by rw[dF,dF];exact hN) (by omega) bn).mono (R':=dW W z) (fun e I h=>by
    obtain⟨z',m, -,o⟩:=h;rw[hz] at m;rw[<-Rat.intCast_inj.1 m];exact o)
   have b7:IntKind.u64.wrap ((y.length:Int)-1)=((y.length-1:Nat):Int):=by rw[IntKind.wrap_u64];omega
   have b8:IntKind.u64.wrap ((x.length:Int)-1)=((x.length-1:Nat):Int):=by rw[IntKind.wrap_u64];omega
   have ba:=fun (B:Option Addr) (d:Nat) (W:World)=>(JO y.length d B W (by omega)).mono (R':=fun e I=>e= .returned (.int .i64 ((y.length:Int)-1))∧W=I) (fun e I h=>⟨h.1,h.2.symm⟩);have bb:=fun (B:Option Addr) (d:Nat) (W:World)=>(JO x.length d B W (by omega)).mono (R':=fun e I=>e= .returned (.int .i64 ((x.length:Int)-1))∧Below W.1.size W I) (fun e I h=>⟨h.1,by rw[h.2];exact aG _ _⟩);have av:=fun W v u Q m o=>bq6 _ _ v u W Q m o (128*K+1) k3 k4 (by unfold aJ;omega);have k5:=bU (o6 k3 k4) (show(128*K+1)+(128*K+1)<=300*K+40000 by omega);have bc:=fun W v u Q m o=>bq6 (_*_) (z:Rat) v u W Q m o (300*K+40000) k5 (cxR (by omega) (by omega)) (by unfold aJ;omega);rw[HQ.out,hz];clear HQ hz x0 y0 a4 a5 al am kx ky kD kE tx ty p0 k1 k2 k3 k4 k5 b1 b2 hc bo kz;unfold iF at ar au aw ax av bc;unfold dW at a8 a9;unfold dW at ay;generalize ((bC x:Int):Rat)/D=F1 at *;generalize ((bC y:Int):Rat)/E=F2 at *;generalize F1^(y.length-1)=P1 at *;generalize F2^(x.length-1)=P2 at *;generalize y.length-1=dy at *;generalize x.length-1=dx at *;change∀W u,_->_->Calls prog 68 #[.slice A x.length c,u] W (fun e I=>∃v',e= .returned v'∧WholeAt I v' (aS x)∧Below W.1.size W I) at ap;change∀W u,_->_->Calls prog 68 #[.slice A' y.length c',u] W (fun e I=>∃v',e= .returned v'∧WholeAt I v' (aS y)∧Below W.1.size W I) at aq;generalize aS x=X at *;generalize aS y=Y at *;generalize (bC x:Int)=gx at *;generalize (bC y:Int)=gy at *;obtain⟨W,eW,g,i,j,R⟩:=gE w [.bool sd,.slice Ad kd cd] 43 [.bool se,.slice Ae ke ce] 43 [.bool false,.slice none 0 0,.bool false,.slice none 0 0] 47;have H:=aa i.g2 (aa j.g2 R.g4);go_enter func20,ntmps20;go_wp2_with fail;(try rw[eW]);clear eW;replace C:=C.be g;replace F:=F.be g;refine(a8 _ (Q.be g) (ha.be g)).mono ?_;rintro e1 w1 ⟨v1,rfl,m,af⟩;obtain⟨s1,A1,k1,c1,rfl⟩:=m.form;replace i:=i.be af;replace j:=j.be af;replace R:=R.be af;replace H:=aa i.k2 (aa j.k2 R.g4);replace f:=Keep.be af;replace C:=C.ke f;replace F:=F.ke f;replace g:=aC g af;go_wp2_with fail;refine(a9 _ (Q.be g) (ak.be g)).mono ?_;rintro e2 w2 ⟨v2,rfl,o,ag⟩;obtain⟨s2,A2,k2,c2,rfl⟩:=o.form;replace i:=i.be ag;replace j:=j.be ag;replace R:=R.be ag;replace H:=aa i.k2 (aa j.k2 R.g4);replace f:=Keep.be ag;replace C:=C.ke f;replace F:=F.ke f;replace m:=m.ke f;replace g:=aC g ag;have bf:∀L M:Obj,((w2.alloc L).alloc M).cell? ⟨w.1.size,0,none⟩=some (.bool sd):=fun L M=>((i.alloc L).alloc M).cell 0 rfl;have bh:∀L M:Obj,((w2.alloc L).alloc M).frozen? ⟨w.1.size,0,none⟩=false:=fun L M=>((i.alloc L).alloc M).free 0;have bg:∀L M:Obj,((w2.alloc L).alloc M).cell? ⟨w.1.size,1,none⟩=some (.slice Ad kd cd):=fun L M=>((i.alloc L).alloc M).cell 1 rfl;have bi:∀L M:Obj,((w2.alloc L).alloc M).frozen? ⟨w.1.size,1,none⟩=false:=fun L M=>((i.alloc L).alloc M).free 1;go_wp2_with fail;have a0:=i.lt;have a1:=j.lt;have aj:=R.lt;have az:=g.size;obtain⟨w3,a2,U,C1,q⟩:=D8 w2 [.bool s1,.slice A1 k1 c1] 43 [.bool s2,.slice A2 k2 c2] 43;replace i:=i.be U;replace j:=j.be U;replace R:=R.be U;replace f:=Keep.be U;replace g:=aC g U;replace C:=C.ke f;replace F:=F.ke f;replace m:=m.ke f;replace o:=o.ke f;rw[a2];clear a2;replace H:=aa i.k2 (aa j.k2 (aa R.g4 (aa C1.k2 q.k2)));clear bf bg bh bi;refine(ar _ _ _ (Q.be g) m C).mono ?_;rintro e4 w4 ⟨v4,rfl,h4,ac⟩;replace i:=i.be ac;replace j:=j.be ac;replace R:=R.be ac;replace C1:=C1.be ac;replace q:=q.be ac;replace H:=aa i.k2 (aa j.k2 (aa R.g4 (aa C1.k2 q.k2)));replace f:=Keep.be ac;replace C:=C.ke f;replace F:=F.ke f;replace m:=m.ke f;replace o:=o.ke f;replace g:=aC g ac;go_wp2_with (go_at_call 25;refine(ba _ _ _).mono ?_;rintro eD wD ⟨rfl,rfl⟩);refine(aw _ _ h4).mono ?_;rintro e5 w5 ⟨v5,rfl,J,ae⟩;replace i:=i.be ae;replace j:=j.be ae;replace R:=R.be ae;replace C1:=C1.be ae;replace q:=q.be ae;replace H:=aa i.k2 (aa j.k2 (aa R.g4 (aa C1.k2 q.k2)));replace f:=Keep.be ae;replace C:=C.ke f;replace F:=F.ke f;replace m:=m.ke f;replace o:=o.ke f;replace g:=aC g ae;obtain⟨s5,A5,k5,c5,t5,E5,l5,d5,rfl⟩:=J.form;go_upto_region 5 with fail;have a0:=i.lt;have a1:=j.lt;have aj:=R.lt;have bj:=C1.lt;have bk:=q.lt;have az:=g.size;obtain⟨w6,a3,U,p⟩:=bI w5 [.bool s5,.slice A5 k5 c5,.bool t5,.slice E5 l5 d5] 47;replace i:=i.be U;replace j:=j.be U;replace R:=R.be U;replace C1:=C1.be U;replace q:=q.be U;replace f:=Keep.be U;replace g:=aC g U;replace C:=C.ke f;replace F:=F.ke f;replace m:=m.ke f;replace o:=o.ke f;replace J:=J.ke f;rw[a3];clear a3;replace H:=aa i.k2 (aa j.k2 (aa R.g4 (aa C1.k2 (aa q.k2 p.g4))))
   go_cut [] (fun wx=>∃s A k c t E' l d,Bx wx w5.1.size [.bool s,.slice A k c,.bool t,.slice E' l d] 47∧RatAt wx (.agg #[.bool s,.slice A k c,.bool t,.slice E' l d]) (P1*P2)∧Bx wx w2.1.size [.bool s1,.slice A1 k1 c1] 43∧Bx wx (w2.1.size+1) [.bool s2,.slice A2 k2 c2] 43∧
    Bx wx (w.1.size+1+1) [.bool false,.slice none 0 0,.bool false,.slice none 0 0] 47∧IntAt wx (.agg #[.bool s1,.slice A1 k1 c1]) gx∧IntAt wx (.agg #[.bool s2,.slice A2 k2 c2]) gy∧Below w.1.size w wx)
   case first=>
    replace C:=C.drew;replace F:=F.drew;replace m:=m.drew;replace o:=o.drew;replace J:=J.drew;replace i:=i.drew;replace j:=j.drew;replace R:=R.drew;replace C1:=C1.drew;replace q:=q.drew;replace p:=p.drew;replace g:=g.drew;have cb:w5.1.size≠w2.1.size+1:=by omega
    have ca:w5.1.size≠w.1.size+1:=by omega
    go_region_with (first
      |(go_at_call 28;refine(au _ _ _ (Q.be g) o F).mono ?_;rintro e7 w7 ⟨v7,rfl,h7,Z⟩;replace i:=i.be Z;replace j:=j.be Z;replace R:=R.be Z;replace C1:=C1.be Z;replace q:=q.be Z;replace p:=p.be Z;replace H:=aa i.k2 (aa j.k2 (aa R.g4 (aa C1.k2 (aa q.k2 p.g4))));replace f:=Keep.be Z;replace C:=C.ke f;replace F:=F.ke f;replace m:=m.ke f;replace o:=o.ke f;replace J:=J.ke f;(try replace h8:=h8.ke f);(try replace P:=P.ke f);(try replace G:=G.ke f);replace g:=aC g Z)
      |(go_at_call 25;refine(bb _ _ _).mono ?_;rintro e8 w8 ⟨rfl,ab⟩;replace i:=i.be ab;replace j:=j.be ab;replace R:=R.be ab;replace C1:=C1.be ab;replace q:=q.be ab;replace p:=p.be ab;replace H:=aa i.k2 (aa j.k2 (aa R.g4 (aa C1.k2 (aa q.k2 p.g4))));replace f:=Keep.be ab;replace C:=C.ke f;replace F:=F.ke f;replace m:=m.ke f;replace o:=o.ke f;replace J:=J.ke f;(try replace h7:=h7.ke f);(try replace P:=P.ke f);(try replace G:=G.ke f);replace g:=aC g ab)
      |(go_at_call 66;refine(ax _ _ h7).mono ?_;rintro e9 w9 ⟨v9,rfl,P,S⟩;replace i:=i.be S;replace j:=j.be S;replace R:=R.be S;replace C1:=C1.be S;replace q:=q.be S;replace p:=p.be S;replace H:=aa i.k2 (aa j.k2 (aa R.g4 (aa C1.k2 (aa q.k2 p.g4))));replace f:=Keep.be S;replace C:=C.ke f;replace F:=F.ke f;replace m:=m.ke f;replace o:=o.ke f;replace J:=J.ke f;(try replace h7:=h7.ke f);(try replace h8:=h8.ke f);(try replace G:=G.ke f);replace g:=aC g S)
      |(go_at_call 46;refine(av _ _ _ (Q.be g) J P).mono ?_;rintro e0 w0 ⟨v0,rfl,G,ad⟩;obtain⟨s0,A0,k0,c0,t0,E0,l0,d0,rfl⟩:=G.form;replace i:=i.be ad;replace j:=j.be ad;replace R:=R.be ad;replace C1:=C1.be ad;replace q:=q.be ad;replace p:=p.be ad;replace H:=aa i.k2 (aa j.k2 (aa R.g4 (aa C1.k2 (aa q.k2 p.g4))));replace f:=Keep.be ad;replace C:=C.ke f;replace F:=F.ke f;replace m:=m.ke f;replace o:=o.ke f;replace J:=J.ke f;(try replace h7:=h7.ke f);(try replace h8:=h8.ke f);(try replace P:=P.ke f);replace g:=aC g ad))
    all_goals (
     go_wp2_with fail;have a0:=i.lt;have a1:=j.lt;have aj:=R.lt;have bj:=C1.lt;have bk:=q.lt;have bm:=p.lt;have az:=g.size;obtain⟨W6,V,p,g,f,O⟩:=p.put4 g (by omega) (.bool s0) (.slice A0 k0 c0) (.bool t0) (.slice E0 l0 d0) rfl rfl;replace i:=O i (by omega);replace j:=O j (by omega);replace R:=O R (by omega);replace C1:=O C1 (by omega);replace q:=O q (by omega);replace m:=m.ke f;replace o:=o.ke f;replace G:=G.ke f;rw[V];clear V;replace H:=aa i.k2 (aa j.k2 (aa R.k4 (aa C1.k2 (aa q.k2 p.k4))));go_meet;exact⟨s0,A0,k0,c0,t0,E0,l0,d0,p,G,C1,q,R,m,o,g⟩)
   case rest=>
    clear C F m o J i j R C1 q p g f ar au aw ax av ba bb;obtain⟨s0,A0,k0,c0,t0,E0,l0,d0,p,G,C1,q,R,m,o,g⟩:=hcut;have a6:=ha.be g;have a7:=ak.be g;clear ha ak;go_upto_region 6 with fail;have bt:=C1.lt;have bu:=q.lt;go_cut [12] (fun bs wx=>∃ao,bs= .pointer (some ⟨ao,0,none⟩)∧wc.1.size<=ao∧IntBx wx ao (z)∧Below wc.1.size wc wx)
    case first=>
     go_region_held3 (fun I=>C2 I w2.1.size (.bool s1) (.slice A1 k1 c1)∧C2 I (w2.1.size+1) (.bool s2) (.slice A2 k2 c2))
      (with_reducible exact⟨C1.up.k2,q.up.k2⟩)
      (first
       |(go_at_call 68;(with_reducible refine(ap _ _ a6.up m.up).mono ?_);rintro e4 w4 ⟨v4,rfl,h4,ac⟩;have l4:=ac.size;(try simp at l4);have:=St.mk ac;skip)
       |(go_at_call 68;(with_reducible refine(aq _ _ a7.up o.up).mono ?_);rintro e7 w7 ⟨v7,rfl,h7,Z⟩;have l7:=Z.size;(try simp at l7);have:=St.mk Z;skip)
       |(go_at_call 67;refine(ay _ _ _ h4.up h7.up).mono ?_;rintro e8 w8 ⟨v8,rfl,h8,ab⟩;have l8:=ab.size;(try simp at l8);have:=St.mk ab;have an:=Up.out (a:=wc) (b:=w8);have b9:=an.size;have bw:=h4.up (b:=w8);have bx:=h7.up (b:=w8);(try have⟨_,_,_,_,_⟩:=nG wc w8);(try have⟨_,_,_,_,_⟩:=nG w4 w8);(try have⟨_,_,_,_,_⟩:=nG w7 w8);obtain⟨s8,A8,k8,c8,rfl⟩:=h8.form))
     all_goals (
      go_wp2;go_meet;refine⟨_,rfl,by omega,?_⟩
      first|(with_reducible exact V4 h8 an)|(with_reducible exact dq7 (zb ‹_›) h8 an (by omega)))
    case rest=>
     obtain⟨gd,rfl,b6,⟨sT,AT,kT,cT,T,hT⟩,ai⟩:=hcut;have b3:=p.lt;have b5:=R.lt;replace p:=p.be ai;replace R:=R.be ai;replace G:=G.be ai;replace g:=aC g ai;have bp:=fun W v h=>BZ z v W h;clear ai a6 a7 m o C1 q ap aq ay;have b4:w.1.size+1+1<w5.1.size:=aj;go_upto_region 7 with fail;replace hT:=hT.drew;replace G:=G.drew;replace p:=p.drew;replace T:=T.drew;replace R:=R.drew;replace g:=g.drew;replace H:=aa p.k4 (aa T.k2 R.g4);have bq:w.1.size+1+1≠w5.1.size:=by omega
     have br:w.1.size+1+1≠gd:=by omega
     go_region_held3 (fun I=>C4 I w5.1.size (.bool s0) (.slice A0 k0 c0) (.bool t0) (.slice E0 l0 d0)∧C2 I gd (.bool sT) (.slice AT kT cT))
      (first|(with_reducible exact⟨p.k4,T.k2⟩)|(refine⟨?_,?_⟩<;>(repeat (first|with_reducible exact p.k4|with_reducible exact T.k2|with_reducible refine kK bq ?_|with_reducible refine fQ br ?_))))
      (first
       |(go_at_call 47;refine(bp _ _ hT).mono ?_;rintro e6 w6 ⟨v6,rfl,h6,ah⟩;replace p:=p.be ah;replace T:=T.be ah;replace R:=R.be ah;replace H:=aa p.k4 (aa T.k2 R.g4);replace f:=Keep.be ah;replace hT:=hT.ke f;replace G:=G.ke f;(try replace P:=P.ke f);replace g:=aC g ah)
       |(go_at_call 46;refine(bc _ _ _ (Q.be g) G h6).mono ?_;rintro e9 w9 ⟨v9,rfl,P,S⟩;obtain⟨s9,A9,k9,c9,t9,E9,l9,d9,rfl⟩:=P.form;replace p:=p.be S;replace T:=T.be S;replace R:=R.be S;replace H:=aa p.k4 (aa T.k2 R.g4);replace f:=Keep.be S;replace hT:=hT.ke f;replace G:=G.ke f;(try replace h6:=h6.ke f);replace g:=aC g S))
     all_goals (
      go_wp2_with fail;have bm:=p.lt;have bv:=T.lt;have aj:=R.lt;have az:=g.size;obtain⟨W6,V,R,g,f,O⟩:=R.put4 g (by omega) (.bool s9) (.slice A9 k9 c9) (.bool t9) (.slice E9 l9 d9) rfl rfl;replace p:=O p (by omega);replace T:=O T (by omega);replace P:=P.ke f;rw[V];clear V;replace H:=aa p.k4 (aa T.k2 R.k4);exact aM (v:= .agg #[.bool s9,.slice A9 k9 c9,.bool t9,.slice E9 l9 d9]) (by simp[results,results20,go_sem,R.k4]) rfl ⟨_,rfl,P,g⟩;)
def VR{a:List (List UInt8)}(h:¬a.length<=65):vl a=false:=by unfold vl;rw[jA];exact fun h'=>h h'.1
def VS(a:List (List UInt8)):(aU a).length=a.length:=cH _
def KF(a b:List (List UInt8)):List UInt8:=if vl a=true∧vl b=true then cW (Y5 (aU a) (aU b)) else []
def L8(a b:List (List UInt8)):Int:=if vl a=true∧vl b=true then 0 else 1
def bx0(w:World)(T:List UInt8)(E:Int)(e:Ending)(w':World):Prop:=e= .returned (.tuple #[.string ⟨T.toArray⟩,.int .i64 E])∧Below w.1.size w w'
def cxQ{A B:List Rat}{D E:Int}(f:0<D)(g:0<E)(d:∀q∈A,(q.den:Int)∣D)(e:∀q∈B,(q.den:Int)∣E)(b:∀n∈cC A D,nl n.natAbs<=K)(c:∀n∈cC B E,nl n.natAbs<=K)(k:nl D.natAbs<=K)(l:nl E.natAbs<=K)(a:1<=K)(r:A.length+B.length<=128):RL (500*K+60000) (Y5 A B):=by
 rw[<-cy8 f g d e];unfold azW;split
 ·exact iG (by omega)
 ·have s:=oN A D;have t:=oN B E;obtain⟨z,h,m⟩:=cxS (dzP b) (dzP c) (N:=128) (by rw[dF,dF];omega);rw[h];have i:=byE (CA (bC (cC A D)) D K (by rw[dD];exact az4 b) k a) ((cC B E).length-1);have j:=byE (CA (bC (cC B E)) E K (by rw[dD];exact az4 c) l a) ((cC A D).length-1);have o:((cC B E).length-1)*K<=128*K:=dK _ (by omega);have p:((cC A D).length-1)*K<=128*K:=dK _ (by omega);exact bU (o6 (o6 i j) (cxR (n:=z) (X:=1+128*(K+128)) m (by omega))) (by omega)
def byD(a b:List (List UInt8))(T U:Value)(w:World)(j:Glob w)(J:StrsAt w T a)(L:StrsAt w U b)(K:Nat)(ad:a.length<=63)(ae:b.length<=63)(N:∀l∈a,l.length<=1073741824)(O:∀l∈b,l.length<=1073741824)(C:∀q∈aU a,RL K q)(F:∀q∈aU b,RL K q)(ag:1<=K)(hK:K<=10000):
  Calls prog 7 #[T,U] w (bx0 w (KF a b) (L8 a b)):=by
 obtain⟨A,c,rfl,hc⟩:=J.form;obtain⟨A',c',rfl,ah⟩:=L.form;go_enter func7,ntmps7;go_wp2_with fail;refine(azT a _ _ j J (by omega) (fun _=>N) K (1+65*K) (fun _=>C) aE (by unfold aJ;omega)).mono ?_;rintro e1 w1 ⟨v1,ak,xs,D,rfl,k,i,s,M⟩;obtain⟨A1,c1,rfl,ai⟩:=k.form;obtain⟨s1,V,k1,d1,rfl⟩:=i.form;obtain⟨w2,I,B,X⟩:=bI w1 [.bool s1,.slice V k1 d1] 43;replace k:=k.be B;replace i:=i.be B;have d:=aC M B;have H:=X.k2;go_wp2_with fail;(try rw[I]);clear I;refine(azT b _ _ (j.be d) (L.be d) (by omega) (fun _=>O) K (1+65*K) (fun _=>F) aE (by unfold aJ;omega)).mono ?_;rintro e3 w3 ⟨v3,al,ys,E,rfl,x,o,t,r⟩;obtain⟨A3,c3,rfl,aj⟩:=x.form;obtain⟨s3,Z,k3,d3,rfl⟩:=o.form;replace X:=X.be r;replace k:=k.be r;replace i:=i.be r;replace d:=aC d r;obtain⟨w4,m,n,Y⟩:=bI w3 [.bool s3,.slice Z k3 d3] 43;replace X:=X.be n;replace k:=k.be n;replace x:=x.be n;replace i:=i.be n;replace o:=o.be n;replace d:=aC d n;clear H;have H:=aa X.k2 Y.k2;cases hva:vl a with
 |false=>
  have g:Hid (KF a b=[]∧L8 a b=1):=by unfold Hid KF L8;rw[if_neg (by rw[hva];simp),if_neg (by rw[hva];simp)];exact⟨rfl,rfl⟩
  clear s t hva;go_wp2_with fail;(try rw[m]);(try clear m);go_ret2;unfold bx0;rw[g.out.1,g.out.2];exact⟨rfl,d⟩
 |true=>
  cases hvb:vl b with
  |false=>
   have g:Hid (KF a b=[]∧L8 a b=1):=by unfold Hid KF L8;rw[if_neg (by rw[hvb];simp),if_neg (by rw[hvb];simp)];exact⟨rfl,rfl⟩
   clear s t hva hvb;go_wp2_with fail;(try rw[m]);(try clear m);go_ret2;unfold bx0;rw[g.out.1,g.out.2];exact⟨rfl,d⟩
  |true=>
   obtain⟨rfl,e⟩:=s hva;obtain⟨rfl,f⟩:=t hvb;have g:Hid (KF a b=cW (Y5 (aU a) (aU b))∧L8 a b=0):=⟨if_pos ⟨hva,hvb⟩,if_pos ⟨hva,hvb⟩⟩;have R:=oO e.pos e.dvd (pJ hva).2.2;have S:=oO f.pos f.dvd (pJ hvb).2.2;have z:=sA _ D K _ C e.nl_;have y:=sA _ E K _ F f.nl_;have lx:(cC (aU a) D).length<=63:=by rw[oN,VS];exact ad
   have ly:(cC (aU b) E).length<=63:=by rw[oN,VS];exact ae
   have G:=fun W u v p q j h1 h2 h3 h4=>dx4 (cC (aU a) D) (cC (aU b) E) D E u v p q W j h1 h2 h3 h4 R S e.pos f.pos (K+(1+65*K)) z y (aH e.nl_ (by omega)) (aH f.nl_ (by omega)) (by omega) (by omega) (by omega);have P:=cxQ e.pos f.pos e.dvd f.dvd z y (aH e.nl_ (by omega)) (aH f.nl_ (by omega)) (by omega) (by rw[VS,VS];omega);rw[cy8 e.pos f.pos e.dvd f.dvd] at G;have af:=fun W v j h=>I4 (Y5 (aU a) (aU b)) v W j h (500*(K+(1+65*K))+60000) P (by omega);unfold iF at G;clear s t hva hvb e f R S z y lx ly C F N O P;generalize cC (aU a) D=NA at *;generalize cC (aU b) E=NB at *;generalize Y5 (aU a) (aU b)=Q at *;go_wp2_with fail;(try rw[m]);(try clear m);refine(G _ _ _ _ _ (j.be d) k x i o).mono ?_;rintro e5 w5 ⟨v5,rfl,h5,ab⟩;replace d:=aC d ab;go_wp2_with fail;refine(af _ _ (j.be d) h5).mono ?_;rintro e6 w6 ⟨rfl,ac⟩;go_wp2;go_ret2;unfold bx0;rw[g.out.1,g.out.2];exact⟨rfl,aC d ac⟩
def VW(w:World)(l:List UInt8)(e:Ending)(w':World):Prop:=∃v z,e= .returned (.tuple #[v,.bool (decide (l≠[]∧l.all bO=true))])∧NI w' v z∧(l.all bO=true->z=(aO l:Int))∧Below w.1.size w w'
def Mg.one{w:World}{b f:Nat}(h:Bx w b [.int .u32 (f:Int)] 168)(e:f≠0)(i:f<4294967296):Mg w (.slice (some ⟨b,0,none⟩) 1 1) f:=
 ⟨[f],Ds.own (es:=[]) h (fun d g=>by rw[List.mem_singleton.1 g];exact i) 1 aE,fun a c=>by simp at c;rw[<-c];exact e,by simp[nv]⟩
def JI(l:List UInt8)(w:World)(hl:l.length<=1073741824):Calls prog 188 #[.string ⟨l.toArray⟩] w (VW w l):=by
 have az:(⟨l.toArray⟩:ByteArray).size=l.length:=by simp[ByteArray.size]
 obtain⟨W,Y,a,R⟩:=bI w [.bool false,.slice none 0 0] 56;have r:=R.g2;go_enter func188,ntmps188;go_wp2_with fail;(try rw[Y]);clear Y;go_loopg [4,5] l.length (fun g s4 O wr=>∃(m i:Nat),Hid (i+g=l.length)∧O= .int .i64 (i:Int)∧Mg wr s4 m∧Hid (m=aO (l.take i))∧Hid ((l.take i).all bO=true)∧Bx wr w.1.size [.bool false,.slice none 0 0] 56∧Below w.1.size w wr)
 case atStart=>exact⟨0,0,by unfold Hid;omega,rfl,Mg.zero _ _ _,rfl,rfl,R,a⟩
 case round=>
  clear R a r;obtain⟨m,i,J,rfl,F,q,s,R,a⟩:=hrel;generalize wr=wx at *;have a3:(0:Int)<=(i:Int):=by omega
  have r:=R.g2;cases gk with
  |zero=>
   have hi:i=l.length:=J.out;subst hi;have av:¬(l.length:Int)<(l.length:Int):=by omega
   rw[F9] at q s;obtain⟨A,k,c,rfl⟩:=F.form;have al:nl m<=1099511627776:=by rw[q.out];exact aH (oJ (xP s.out)) (by omega)
   go_wp2_with fail;refine(r9 false _ m (m:Int) _ F al rfl).mono ?_;rintro e3 w3 ⟨v3,rfl,n,u⟩;obtain⟨H,y,G,C,rfl⟩:=n.form;replace R:=R.be u;replace r:=R.g2;replace a:=aC a u;have hq:decide (l≠[]∧l.all bO=true)=decide (l≠[]):=by simp[s.out]
   have B:=aB hq;clear hq;by_cases p:l=[]
   ·have q0:(l != [])=false:=by simp[p]
    have t:Hid (decide (l≠[]∧l.all bO=true)=false):=by unfold Hid;rw[B.out];simp[p]
    have I:=aB p;clear p B;go_wp2_with fail;obtain⟨X,o,R,a,E,Z⟩:=R.mut2 a (by omega) (.bool H) (.slice y G C) rfl rfl;replace n:=n.ke E;rw[o];clear o;replace r:=R.k2;exact aM (v:= .tuple #[.agg #[.bool H,.slice y G C],.bool false]) (by simp[results,results188,go_sem,R.k2];exact I.out) rfl ⟨_,_,by rw[t.out],n,fun _=>by rw[q.out],a⟩
   ·have q0:(l != [])=true:=by simp[p]
    have t:Hid (decide (l≠[]∧l.all bO=true)=true):=by unfold Hid;rw[B.out];simp[p]
    have I:=aB p;clear p B;go_wp2_with fail;obtain⟨X,o,R,a,E,Z⟩:=R.mut2 a (by omega) (.bool H) (.slice y G C) rfl rfl;replace n:=n.ke E;rw[o];clear o;replace r:=R.k2;exact aM (v:= .tuple #[.agg #[.bool H,.slice y G C],.bool true]) (by simp[results,results188,go_sem,R.k2];exact I.out) rfl ⟨_,_,by rw[t.out],n,fun _=>by rw[q.out],a⟩
  |succ g=>
   have av:i<l.length:=by have:=J.out;omega
   go_wp2_with fail;go_loopg [5,6,7,8] 9 (fun b O s6 s7 s8 wy=>∃(v j:Nat),Hid (j+b=9)∧O= .int .i64 ((i+j:Nat):Int)∧i+j<=l.length∧s6= .int .u32 (v:Int)∧s7= .int .u32 ((10^j:Nat):Int)∧s8= .int .i64 (j:Int)∧Hid (v=aO ((l.drop i).take j))∧Hid (((l.drop i).take j).all bO=true)∧v<10^j∧wx=wy)
   case atStart=>exact⟨0,0,by unfold Hid;omega,rfl,by omega,rfl,rfl,rfl,rfl,rfl,by decide,rfl⟩
   case round=>
    obtain⟨v,j,z,rfl,a4,rfl,rfl,rfl,U,P,hv,rfl⟩:=hrel;have a5:(0:Int)<=(j:Int):=by omega
    by_cases aj:j<9∧i+j<l.length
    ·obtain⟨a7,ai⟩:=aj;have r1:(j:Int)<9:=by omega
     have r2:((i+j:Nat):Int)<(l.length:Int):=by omega
     obtain⟨e,a1,L⟩:∃e,({ data:=l.toArray }:ByteArray)[i+j]'(by rw[az];exact ai)=e∧l[i+j]? =some e:=⟨_,rfl,by rw[aR ai];rfl⟩;have ag:(l.drop i)[j]? =some e:=by rw[T8];exact L
     have ao:(l.drop i).take (j+1)=(l.drop i).take j++[e]:=by rw[kR,ag];rfl
     have aq:=aB L;have S:=aB ao;clear L ag ao;have c0:e.toNat<256:=e.toNat_lt;by_cases x:48<=e.toNat∧e.toNat<=57
     ·obtain⟨d1,d2⟩:=x;have s1:decide ((e.toNat:Int)<48)=false:=by rw[jA];omega
      have s2:decide ((57:Int)<(e.toNat:Int))=false:=by rw[jA];omega
      have ah:10^j<=10^8:=cO (by decide) (by omega);replace ah:10^j<=100000000:=ah;have a2:0<10^j:=dyU (by decide);have an:10^(j+1)=10^j*10:=dH _ _;have Q:=aB an;have hw:v*10+(e.toNat-48)=aO ((l.drop i).take (j+1)):=by rw[S.out,oK,<-U.out,dN]
      have ab:((l.drop i).take (j+1)).all bO=true:=by rw[S.out,aqJ,P.out];simp[bO];omega
      have V:=aB (And.intro hw ab);obtain⟨b,rfl⟩:∃b,gk=b+1:=⟨gk-1,by have:=z.out;omega⟩;clear hw ab an;generalize 10^j=f at *;go_wp2;go_roundg b
      case rel=>exact⟨v*10+(e.toNat-48),j+1,by have:=z.out;unfold Hid;omega,by go_num,by omega,pW (by omega),pW (by rw[Q.out];omega),by go_num,V.out.1,V.out.2,by rw[Q.out];omega,rfl⟩
      case measure=>omega
     ·have M:¬(l.all bO=true):=fun h=>x (by
       have:=List.all_eq_true.1 h e (dG aq.out);simpa [bO] using this)
      have ar:=aB M;have t:Hid (decide (l≠[]∧l.all bO=true)=false):=by unfold Hid;rw[jA];exact fun h=>M h.2
      have N:decide ((e.toNat:Int)<48)=true∨decide ((e.toNat:Int)<48)=false∧decide ((57:Int)<(e.toNat:Int))=true:=by
       rcases dE e.toNat 48 with h|h
       ·exact .inl (by rw[iQ];omega)
       ·exact .inr ⟨by rw[jA];omega,by rw[iQ];omega⟩
      clear M x;rcases N with s1|⟨s1,s2⟩
      all_goals (
       go_wp2_with fail;obtain⟨X,o,R,a,E,Z⟩:=R.mut2 a (by omega) (.bool false) (.slice none 0 0) rfl rfl;rw[o];clear o;replace r:=R.k2;exact aM (v:= .tuple #[.agg #[.bool false,.slice none 0 0],.bool false]) (by simp[results,results188,go_sem,R.k2]) rfl ⟨_,0,by rw[t.out],NI.zero _,fun h=>absurd h ar.out,a⟩)
    ·have N:j=9∨j<9∧i+j=l.length:=by have:=z.out;omega
     have am:10^j<=10^9:=cO (by decide) (by have:=z.out;omega);have bb:0<10^j:=dyU (by decide);have a6:1<=j:=by omega
     clear aj;obtain⟨A,k,c,rfl⟩:=F.form;have al:nl m<=1073741824:=by rw[q.out];exact aH (oJ (xP s.out)) (by rw[bK];omega)
     have ap:aO (l.take (i+j))=m*10^j+v:=by
      rw[List.take_add,pF,<-q.out,<-U.out,bK,eX,gF (by omega)]
     have ac:(l.take (i+j)).all bO=true:=by rw[List.take_add,aqJ,s.out,P.out];rfl
     have T:=aB (And.intro ap ac);clear ap ac;have a0:10^j<=1000000000:=am;clear am;generalize 10^j=f at *;obtain⟨wa,ea,D,FB⟩:=bI wx [.int .u32 (f:Int)] 168;have ax:=Mg.one FB (by omega) (by omega);have aw:=F.be D;have bc:f<=4294967295:=by omega
     have bf:v<=4294967295:=by omega
     have ay:¬(j:Int)<9∨(j:Int)<9∧¬((i+j:Nat):Int)<(l.length:Int):=by omega
     have a9:nl f<=1:=cJ (by unfold BN;omega);have a8:=fI m f;have ak:Hid (l.length-(i+j)<g+1∧i+j+(l.length-(i+j))=l.length):=by have:=J.out;unfold Hid;omega
     clear N;rcases ay with r1|⟨r1,r2⟩
     all_goals (
      go_wp2_with fail;refine(ER m f _ _ _ aw ax (by omega) (by omega)).mono ?_;rintro e1 w1 ⟨v1,rfl,h1,ad⟩;obtain⟨A1,k1,c1,rfl⟩:=h1.form;obtain⟨wb,eb,K,FV⟩:=bI w1 [.int .u32 (v:Int)] 168;have ht:=oW [v] w1.1.size v 1 wb FV (fun d x=>by rw[List.mem_singleton.1 x];unfold aD;omega) (by simp[nv]) aE (by simp);simp only[iJ] at ht;have au:=h1.be K;have ba:nl v<=1:=cJ (by unfold BN;omega);have ae:=(((aC a D).trans (ad.mono (aC a D).size)));have af:=aC ae K;go_wp2_with fail;refine ht.mono ?_;rintro e2 w2 ⟨v2,rfl,h2,rfl⟩;go_wp2_with fail;refine(EU _ _ _ _ _ au h2 (by omega) (by omega)).mono ?_;rintro e3 w3 ⟨v3,rfl,n,u⟩;go_wp2;go_roundg (l.length-(i+j))
      case rel=>exact⟨m*f+v,i+j,ak.out.2,by first|rfl|go_num,n,T.out.1.symm,T.out.2,(((R.be D).be ad).be K).be u,aC af u⟩
      case measure=>exact ak.out.1)
end Go.Proofs.YticcgnnefilhcaaGreatDoor
namespace Go.Proofs.YticcgnnefilhcaaGreatDoor
open Sos Lib
variable{j v:Nat}
def dz(v:Nat):List UInt8:=if v=0 then [] else decDigits v
def WC{e:Nat}(b:e<10):dz (10*v+e)=if v=0∧e=0 then [] else dz v++[UInt8.ofNat (48+e)]:=by
 unfold dz;by_cases hv:v=0
 ·subst hv;by_cases a:e=0
  ·subst a;simp
  ·rw[if_neg (by omega),if_neg (by omega),if_pos rfl,decDigits,dif_pos (by omega)];simp
 ·rw[if_neg (by omega),if_neg (by omega),if_neg hv,decDigits,dif_neg (by omega),show(10*v+e)/10=v by omega,show(10*v+e)%10=e by omega]
def iV:List Nat->Nat
 |[]=>0
 |d :: l=>d+1000000000*iV l
def WD(l:List Nat)(d:Nat):iV (l++[d])=iV l+1000000000^l.length*d:=by
 induction l with
 |nil=>simp[iV]
 |cons a l b=>rw[byW,iV,b,iV,eG,dH,iL];grind
def WE{l:List Nat}{i d:Nat}(h:l[i]? =some d):iV (l.drop i)=d+1000000000*iV (l.drop (i+1)):=by
 have a:=(List.getElem?_eq_some_iff.1 h).1;rw[j5 a,iV];rw[aR a] at h;injection h with h;rw[h]
def WF(l:List Nat)(i:Nat):iV (l.drop i)<=iV l:=by
 induction l generalizing i with
 |nil=>simp
 |cons a l b=>
  cases i with
  |zero=>exact aE
  |succ i=>
   rw[bxF,iV];have:=b i;omega
def tn(j:Nat):Nat:=if j<=8 then 10^(8-j) else 0
def WG(h:j<=8):tn j/10=tn (j+1)∧0<tn j∧tn j<=100000000:=by
 unfold tn;rcases(show j=0∨j=1∨j=2∨j=3∨j=4∨j=5∨j=6∨j=7∨j=8 by omega) with rfl|rfl|rfl|rfl|rfl|rfl|rfl|rfl|rfl<;>decide
def WH{p:Nat}(h:j<=8):v*10^(j+1)+p/10^(9-(j+1))=10*(v*10^j+p/10^(9-j))+p/tn j%10:=by
 have e:p/10^(9-j)=p/tn j/10:=by
  unfold tn;rw[if_pos h,G6,<-dH];congr 2;omega
 rw[e,show 9-(j+1)=8-j by omega,dH];have a:p/10^(8-j)=p/tn j:=by unfold tn;rw[if_pos h]
 rw[a];generalize p/tn j=q;have:=iD q 10;have b:v*(10^j*10)=10*(v*10^j):=by rw[<-iW,dN]
 rw[b];omega
end Go.Proofs.YticcgnnefilhcaaGreatDoor
namespace Go.Proofs.YticcgnnefilhcaaGreatDoor
open Go.RowKit Sos Tryz
variable{a b:List Nat}{B R c d g i l m n o r:Nat}{w w':World}{e v:Value}{A f p:Option Addr}{q:Rat}{qs:List Rat}
def WB{a k:Nat}(h:1000000000^k*m<=a)(d:0<m):k<=3*nl a:=by
 have e:=cY a;have f:1000000000^k*1<=1000000000^k*m:=eV _ d;have b:(2^29)^k<=1000000000^k:=azQ (by decide) k;have g:BN^nl a=2^(64*nl a):=by rw[dzX];rfl
 rw[<-dzX] at b;have c:2^(29*k)<2^(64*nl a):=by omega
 have:=(Nat.pow_lt_pow_iff_right (a:=2) (by decide)).1 c;omega
def Mg.grown{k:Option Nat}(h:Mg w v n)(f:w.grownBy w' k)(t:∀g,k=some g->v.ownBlock≠some g):Mg w' v n:=by
 obtain⟨l,⟨A,c,rfl,q,r,h⟩,m,o⟩:=h;refine⟨l,⟨A,c,rfl,q,r,?_⟩,m,o⟩;rcases h with h|⟨b,rfl,j,p⟩
 ·exact .inl h
 ·refine .inr ⟨b,rfl,aZ j f.size,fun i d s=> ?_⟩;exact(World.cell?_of_block (w:=w) (w':=w') (a:=⟨b,i,none⟩) (f.block b j (fun e=>t b e.symm (by simp[Value.ownBlock])))).trans (p i d s)
def PtAt(w:World)(B:Nat)(v:Value)(a:List Nat):Prop:=w.ownsRow B 168 1 v a.length (U a)
def PtAt.lt(h:PtAt w B v a):∀g,v.ownBlock=some g->B<=g∧g<w.1.size:=World.ownsRow.lt h
def PtAt.be(h:PtAt w B v a)(b:Below w.1.size w w'):PtAt w' B v a:=by
 refine World.ownsRow.kept h (rL b none) ?_;cases v.ownBlock with
 |none=>exact .inl rfl
 |some g=>exact .inr (by simp)
def PtAt.more{c:Value}{o:Obj}(k:w'.ownsRow B 168 1 c (b.length+1) (U b++[.int .u32 (r:Int)]))(a:(w.alloc o).grownBy w' v.ownBlock)(d:c.ownBlock=v.ownBlock∨c.ownBlock=some (w.alloc o).1.size):
  PtAt w' B c (b++[r])∧TxtTo w v w' c:=by
 refine⟨by unfold PtAt;rw[bG,show U (b++[r])=U b++[.int .u32 (r:Int)] by unfold U;rw[azM];rfl];exact k,⟨a.os,a.tape,a.output,aH (by simp) a.size,fun i f j=>(a.block i (by simp;omega) j).trans (Below.heap_alloc w o i f)⟩,fun g e=> ?_⟩;rcases d with h|h
 ·left;rw[<-h];exact e
 ·right;rw[h] at e;simp at e;omega
def CG(w:World)(l:List UInt8)(e:Ending)(w':World):Prop:=e= .returned (.string ⟨l.toArray⟩)∧Below w.1.size w w'
def JL(x:Int)(vx:Value)(w:World)(J:NI w vx x)(lx:nl x.natAbs<=1099511627776):
  Calls prog 73 #[vx] w (CG w (Lib.decDigits x.natAbs)):=by
 obtain⟨s,A,k,c,rfl⟩:=J.form;have z:=J.words.len.1;obtain⟨W,eW,t,XB⟩:=bI w [.bool s,.slice A k c] 56;have cM:=XB.k2;clear XB;have G:=(J.be t).words;have ho:∀g,(Value.slice A k c).ownBlock=some g->k≠0->g<w.1.size:=fun g F o=>by
  obtain⟨ds,⟨A',c',e,hc,hd,h⟩,O,h3⟩:=J.words;simp only[Value.slice.injEq] at e;obtain⟨rfl,rfl,rfl⟩:=e;rcases h with h|⟨b,rfl,hl,hB⟩
  ·rw[h] at o;exact absurd rfl o
  ·simp[Value.ownBlock] at F;omega
 generalize x.natAbs=a at *;by_cases o:a=0
 ·have ag:k=0:=z.2 o;subst o;subst ag;rw[show Lib.decDigits 0=[48] from BM];clear z G J ho;go_enter func73,ntmps73;go_wp2;go_ret;exact⟨rfl,t⟩
 ·have ah:k≠0:=fun e=>o (z.1 e);have q0:((k:Int)==0)=false:=by simpa using ah
  have H:=fun g F=>ho g F ah;have H0:=aB o;clear z ho o ah J;go_enter func73,ntmps73;go_wp2_with fail;(try rw[eW]);clear eW;go_loopg [3,4] a (fun g s3 s4 wr=>∃(d:List Nat) (A:Option Addr) (k c m:Nat),Hid (m<=g)∧s4= .slice A k c∧PtAt wr w.1.size s3 d∧Mg wr s4 m∧Hid (iV d+1000000000^d.length*m=a)∧(∀p∈d,p<1000000000)∧Hid (∀g,s3.ownBlock=some g->(Value.slice A k c).ownBlock≠some g)∧Hid (∀g,(Value.slice A k c).ownBlock=some g->g<wr.1.size)∧nl m<=1099511627776∧d.length<=3298534883329∧Below w.1.size w wr)
  case atStart=>exact⟨[],A,k,c,a,aE,rfl,World.ownsRow_nil _ _ _ _,G,by unfold Hid;simp[iV],(fun p f=>by cases f),(fun g F=>by simp[Value.ownBlock] at F),(fun g F=>aZ (H g F) t.size),lx,by simp,t⟩
  case round=>
   clear G t H;obtain⟨d,A,k,c,m,HG,rfl,X,G,S,ai,HA,HO,lm,bu,t⟩:=hrel;generalize wr=n at *;have z:=G.len.1;by_cases o:m=0
   ·have ag:k=0:=z.2 o;subst ag;have hv:iV d=a:=by have:=S.out;rw[o,dzM,gQ] at this;exact this
    have hD:=Ds.row X rfl (fun p f=>aq7 (ai p f) (by decide));obtain⟨AP,cP,rfl,bm⟩:=hD.form;have ak:=aB hv;clear z hv X G S HA HO HG o;go_wp2_with fail;go_loopg [7,8] d.length (fun k s7 s8 wr=>∃i:Int,Hid (i+1=k)∧s8= .int .i64 i∧ -1<=i∧i<d.length∧TxtAt wr n.1.size s7 (dz (iV (d.drop k)))∧Below n.1.size n wr)
    case atStart=>exact⟨(d.length:Int)-1,by unfold Hid;omega,rfl,by omega,by omega,by rw[az5];exact World.ownsRow_nil _ _ _ _,aG _ _⟩
    case round=>
     obtain⟨i,HI,rfl,bn,bo,u,y⟩:=hrel;generalize wr=wy at *;cases gk with
     |zero=>
      have hi:¬0<=i:=by have:=HI.out;omega
      have Y:=u.str;have E:dz (iV (d.drop 0))=Lib.decDigits a:=by rw[RW,ak.out];unfold dz;rw[if_neg H0.out]
      rw[E] at Y;have M:=aB E;clear E;go_wp2;go_ret;exact⟨rfl,aC t y⟩
     |succ k=>
      have a8:i=(k:Int):=by have:=HI.out;omega
      subst a8;obtain⟨p,f⟩:∃p,d[k]? =some p:=⟨_,aR (by omega)⟩;have bg:=ai p (dG f);obtain⟨gp,rfl,a7,al⟩:=hD.at_ f;have a5:=fun (W:World) (t:Below n.1.size n W)=>(t.cell (p:=⟨gp,k,none⟩) a7).trans al;have ab:=WE f;have au:=WF d k;rw[ab,ak.out] at au;have a0:=aB ab;clear ab f al;generalize iV (d.drop (k+1))=V at *;go_wp2_with fail;go_loopg [7,9] 9 (fun m s7 s9 wr=>∃j,Hid (j+m=9)∧s9= .int .u32 (tn j:Int)∧TxtAt wr n.1.size s7 (dz (V*10^j+p/10^(9-j)))∧Below n.1.size n wr)
      case atStart=>exact⟨0,by unfold Hid;omega,rfl,by rw[dzT,o9,BA (show p<10^(9-0) by simpa using bg),gQ];exact u,y⟩
      case round=>
       clear u y;obtain⟨j,R,rfl,u,y⟩:=hrel;generalize wr=wz at *;cases gk with
       |zero=>
        have hj:j=9:=R.out;subst hj;rw[show V*10^9+p/10^(9-9)=iV (d.drop k) by rw[a0.out,dzC,dzT,Nat.div_one,dN,G5]] at u;have t9:((tn 9:Nat):Int)=0:=rfl;go_wp2;go_roundg k
        case rel=>exact⟨(k:Int)-1,by unfold Hid;omega,by go_num,by omega,by omega,u,y⟩
        case measure=>omega
       |succ m=>
        have ar:j<=8:=by have:=R.out;omega
        obtain⟨t1,t2,t3⟩:=WG ar;have Y:=WH (v:=V) (p:=p) ar;have he:p/tn j%10<10:=dI _ (by decide);have E:=WC (v:=V*10^j+p/10^(9-j)) he;rw[<-Y] at E;have bi:=a5 wz y;have M:=aB E;have T1:=aB t1;clear Y E t1;have aw:V*10^j+p/10^(9-j)<=a:=by
         have T:V*10^j<=V*10^9:=eV _ (cO (by decide) (by omega));have O:=pQ p (10^(9-j));omega
        generalize V*10^j+p/10^(9-j)=v at *;have hL:(dz v).length<=21990232555541:=by
         unfold dz;split
         ·simp
         ·have:=wR v _ (cK aw);omega
        have an:(dz v).length=0↔v=0:=by
         unfold dz;split
         ·simp[*]
         ·have T:=Lib.decDigits_length v;have O:=Lib.nDigits_pos v;omega
        have bt:p/tn j<=p:=pQ _ _;have x1:(p:Int)/((tn j:Nat):Int)=((p/tn j:Nat):Int):=(dzK _ _).symm;have x2:((p/tn j:Nat):Int)%10=((p/tn j%10:Nat):Int):=(Z9 _ _).symm;have hc:((UInt8.ofNat (48+p/tn j%10)).toNat:Int)=48+((p/tn j%10:Nat):Int):=by rw[tJ he];rfl
        obtain⟨Ao,co,rfl⟩:=u.slice;have bb:=u.lt;generalize p/tn j%10=e at *;generalize p/tn j=pd at *;have x3:decide (0<tn j)=true:=by simpa using t2
        generalize tn j=D at *;generalize am:dz v=L at *;have HC:=aB hc;clear hc;have aj:=aB an;have bh:=aB am;clear an am au aw;by_cases P:v=0∧e=0
        ·have C:=M.out;rw[if_pos P] at C;have Z:=aB C;have a9:L=[]:=bX (aj.out.2 P.1);obtain⟨-,rfl⟩:=P;subst a9;clear C M HC;go_wp2;go_roundg m
         case rel=>exact⟨j+1,by have:=R.out;unfold Hid;omega,by rw[<-T1.out];rfl,by rw[Z.out];exact u,y⟩
         case measure=>omega
        ·have C:=M.out;rw[if_neg P] at C;have Z:=aB C;have bf:decide (0<L.length)=true∨decide (0<L.length)=false∧((48:Int)+(e:Int) != 48)=true:=by
          by_cases h:L.length=0
          ·exact .inr ⟨by rw[jA];omega,by rw[bne_iff_ne];have:=aj.out.1 h;omega⟩
          ·exact .inl (by rw[iQ];omega)
         have a3:wz.ownsRow n.1.size 5 1 (.slice Ao L.length co) L.length (Lib.byteCells L):=u;have bv:=y.size;clear C M P;rcases bf with r1|⟨r1,r2⟩
         all_goals (
          go_wp2_with (at_builtin;refine gM rfl rfl 5 _ 1 1 underlying114 nF rfl (by decide) n.1.size (.slice Ao L.length co) L.length _ rfl (a3.alloc _) [.int .u8 (48+(e:Int))] rfl (by simp) (lM _ _ _) (by simp[Value.oneCell']) (by omega) (by omega) (by simp;omega) ?_;intro q1 w6 H af ac);rw[<-HC.out] at H;obtain⟨I,a4⟩:=TxtAt.more (bs:=L) (l:=[UInt8.ofNat (48+e)]) H af ac;have ae:=a4.belowB (B:=n.1.size) y.size (fun g h=>(bb g h).1);go_wp2;go_roundg m
          case rel=>exact⟨j+1,by have:=R.out;unfold Hid;omega,by rw[<-T1.out];rfl,by rw[Z.out];exact I,y.trans ae⟩
          case measure=>omega)
   ·have hd:decide (0<k)=true:=by have:=fun e=>o (z.1 e);simp;omega
    have ba:=WB (a:=a) (by have:=S.out;omega:1000000000^d.length*m<=a) (by omega);clear z;go_wp2_with fail;have av:Calls prog 138 #[.slice A k c,.int .u32 1000000000] n (EO n m 1000000000):=EP m 1000000000 _ n G lm (by decide) (by decide);refine av.mono ?_;rintro e1 w1 ⟨v1,rfl,T,hf,ad⟩;obtain⟨K,Q,N,rfl⟩:=T.form;have ao:=X.be ad;have a1:w1.ownsRow w.1.size 168 1 u3 d.length (U d):=ao;have aq:=aC t ad;have hr:m%1000000000<1000000000:=dI _ (by decide);have br:m/1000000000<m:=aq4 (by omega) (by decide);have a6:=azO m 1000000000;have bq:nl (m/1000000000)<=nl m:=cK (by omega);have bp:=ba;clear av hd;generalize m%1000000000=r at *;generalize m/1000000000=q at *;have bk:=ad.size;have bj:=t.size;go_wp2_with (at_builtin;refine gM rfl rfl 168 _ 1 4 underlying54 oX rfl (by decide) w.1.size u3 d.length _ rfl (a1.alloc _) [.int .u32 (r:Int)] rfl (by simp) (lM _ _ _) (by simp[Value.oneCell']) (by omega) (by omega) (by simp;omega) ?_;intro q1 w6 H af ac);obtain⟨a2,I⟩:=PtAt.more H af ac;have hu:=ao.lt;have ap:∀g,u3.ownBlock=some g->(Value.slice K Q N).ownBlock≠some g:=fun g h e=>by
     have:=(hf g e).1;have:=(X.lt g h).2;omega
    have bc:Mg w6 (.slice K Q N) q:=T.grown I.1 ap;have ae:=I.belowB (B:=w.1.size) aq.size (fun g h=>(hu g h).1);have ax:Hid (∀g,q1.ownBlock=some g->(Value.slice K Q N).ownBlock≠some g):=fun g h e=>by
     rcases I.2 g h with O|O
     ·exact ap g O e
     ·have:=(hf g e).2;omega
    have ay:Hid (∀g,(Value.slice K Q N).ownBlock=some g->g<w6.1.size):=fun g h=>aZ (hf g h).2 I.1.size;have az:Hid (iV (d++[r])+1000000000^(d++[r]).length*q=a):=by
     unfold Hid;rw[WD,bG,iJ,dH,<-S.out,<-a6,iL];grind
    obtain⟨g,rfl⟩:∃g,gk=g+1:=⟨gk-1,by have:=HG.out;omega⟩;go_wp2;go_roundg g
    case rel=>exact⟨d++[r],K,Q,N,q,by have:=HG.out;unfold Hid;omega,rfl,a2,bc,az,(fun p f=>by
     rcases List.mem_append.1 f with f|f
     ·exact ai p f
     ·rw[List.mem_singleton.1 f];exact hr),ax,ay,by omega,by rw[bG,iJ];omega,aq.trans ae⟩
    case measure=>omega
def CF(q:Rat)(v:Value)(w:World)(hv:NQ w v q)(K:Nat)(i:RL K q)(O:K<=549755813888):Calls prog 23 #[v] w (CG w (cW q)):=by
 obtain⟨s,A,k,c,C,p,j,x,rfl⟩:=hv.form;have o:=hv.num.neg;have z:=hv.len;have F:=fun W h=>JL q.num (.agg #[.bool s,.slice A k c]) W h (aH i.1 (by omega));have G:=fun W h=>JL (bS q) (.agg #[.bool C,.slice p j x]) W h (aH (mY q) (aH i.2 (by omega)));have P:=wR q.num.natAbs K i.1;have Q:=wR (bS q).natAbs K (aH (mY q) i.2);have t:Hid (cW q=(if s=true then [45] else [])++Lib.decDigits q.num.natAbs++(if q.den=1 then [] else 47 :: Lib.decDigits (bS q).natAbs)):=by
  unfold Hid cW;rw[o];by_cases h:q.den=1
  ·simp[h]
  ·rw[mI h];simp[h]
 generalize Lib.decDigits q.num.natAbs=g at *;generalize Lib.decDigits (bS q).natAbs=l at *;have T:(⟨g.toArray⟩:ByteArray).size=g.length:=by simp[ByteArray.size]
 have U:(⟨l.toArray⟩:ByteArray).size=l.length:=by simp[ByteArray.size]
 have L:=aB o;have J:=aB z;clear o z;obtain⟨W,y,d,B⟩:=bI w [.bool s,.slice A k c,.bool C,.slice p j x] 58;have D:=B.g4;go_enter func23,ntmps23;go_wp2_with fail;(try rw[y]);clear y;replace hv:=hv.be d;refine(F _ hv.num).mono ?_;rintro M R ⟨rfl,n⟩;replace B:=B.be n;replace D:=B.k4;replace H:=KM.be n;replace hv:=hv.ke H;replace d:=aC d n;have f:=hv.den.words.len.1;rw[Int.natAbs_eq_zero,fV] at f;have u:∀a b:List UInt8,(⟨a.toArray⟩:ByteArray)++⟨b.toArray⟩=⟨(a++b).toArray⟩:=fun a b=>by
  rw[ByteArray.ext_iff];simp
 have r:=aB u;clear u;by_cases e:q.den=1
 ·have I:decide (0<j)=false:=by rw[f.2 e];rfl
  have m:Hid (cW q=(if s=true then [45] else [])++g):=by unfold Hid;rw[t.out,if_pos e,fH]
  clear f e;cases s
  all_goals (
   go_wp2;go_ret;exact⟨by rw[m.out];simp[r.out]<;>rfl,d⟩)
 ·have I:decide (0<j)=true:=by rw[iQ];exact aqQ fun h=>e (f.1 h)
  have m:Hid (cW q=(if s=true then [45] else [])++g++47 :: l):=by unfold Hid;rw[t.out,if_neg e]
  clear f e;cases s
  all_goals (
   go_wp2_with fail;refine(G _ hv.den).mono ?_;rintro N S ⟨rfl,E⟩;go_wp2;go_ret;exact⟨by rw[m.out];simp[r.out]<;>rfl,aC d E⟩)
abbrev R4(w:World)(b o:Nat)(c d e f:Value):Prop:=w.cell? ⟨b,o,none⟩=some c∧w.cell? ⟨b,o+1,none⟩=some d∧w.cell? ⟨b,o+2,none⟩=some e∧w.cell? ⟨b,o+3,none⟩=some f
def QRow(w:World)(rows:List (List Value))(qs:List Rat):Prop:=∀(i:Nat) (q:Rat),qs[i]? =some q->∃s A l c s' d e c',rows[i]? =some [Value.bool s,Value.slice A l c,Value.bool s',Value.slice d e c']∧NQ w (.agg #[.bool s,.slice A l c,.bool s',.slice d e c']) q
def QsAt(w:World)(v:Value)(qs:List Rat):Prop:=∃A c,v= .slice A qs.length c∧qs.length<=c∧(A=none∧qs=[]∨∃b rows,A=some ⟨b,0,none⟩∧Rw w b 4 rows 58∧qs.length<=rows.length∧QRow w rows qs)
def OwnQ(w:World)(b:Nat)(qs:List Rat):Prop:=∃rows,Rw w b 4 rows 58∧qs.length<=rows.length∧QRow w rows qs
def r6(g:Nat)(w W:World):Prop:=KM w W∧nD g w W
def KM.put{p:Addr}{c:Value}(f:w.cell? p=some c)(e:NoInt c)(v:Value):KM w (w.setCell p v):=
 ⟨by simp,fun q k x d=>by
  rw[World.cell?_setCell_other _ _ _ _ ?_,d];rintro rfl;rw[f] at d;injection d with d;exact absurd d (e _ _)⟩
def sJ:(Tryz.prog.info? 58).map (fun i=>(i.zero,i.size,i.bytes))=some (some (.agg #[.bool false,.slice none 0 0,.bool false,.slice none 0 0]),4,64):=by kernel_rfl
section
variable {w w':World}{b:Nat}{qs:List Rat}{v:Value}{rows:List (List Value)}
def QRow.ke(h:QRow w rows qs)(g:KM w w'):QRow w' rows qs:=fun i q hi=>by
 obtain⟨s,A,l,c,s',d,j,c',e,f⟩:=h i q hi;exact⟨s,A,l,c,s',d,j,c',e,f.ke g⟩
def QRow.take(h:QRow w rows qs)(m:Nat):QRow w rows (qs.take m):=fun i q hi=>by
 rw[fC] at hi;split at hi
 ·exact h i q hi
 ·cases hi
def QsAt.be(h:QsAt w v qs)(d:Below w.1.size w w'):QsAt w' v qs:=by
 obtain⟨A,c,hv,f,h⟩:=h;refine⟨A,c,hv,f,?_⟩;rcases h with h|⟨b,rows,e,j,i,g⟩
 ·exact .inl h
 ·exact .inr ⟨b,rows,e,j.be d,i,g.ke (KM.be d)⟩
def QsAt.drew(h:QsAt w v qs):QsAt w.drew v qs:=h.be (aG _ _).drew
def QsAt.step(h:QsAt w (.slice A l c) qs)(f:r6 g w w')(p:∀b,A=some ⟨b,0,none⟩->b≠g):QsAt w' (.slice A l c) qs:=by
 obtain⟨i,j,e,k,h⟩:=h;refine⟨i,j,e,k,?_⟩;simp only[Value.slice.injEq] at e;obtain⟨rfl,rfl,rfl⟩:=e;rcases h with h|⟨b,rows,e,d,n,m⟩
 ·exact .inl h
 ·exact .inr ⟨b,rows,e,⟨(f.2.2.1 b (p b e)).trans d.1,d.2⟩,n,m.ke f.1⟩
def QsAt.nil(w:World):QsAt w (.slice none 0 0) []:=⟨none,0,rfl,aE,.inl ⟨rfl,rfl⟩⟩
def QsAt.form(h:QsAt w v qs):∃A c,v= .slice A qs.length c∧qs.length<=c:=by
 obtain⟨A,c,hv,d,_⟩:=h;exact⟨A,c,hv,d⟩
def QsAt.cut(h:QsAt w (.slice A l c) qs)(m:Nat)(g:m<=qs.length):QsAt w (.slice A m c) (qs.take m):=by
 obtain⟨j,k,e,n,h⟩:=h;simp only[Value.slice.injEq] at e;obtain⟨rfl,rfl,rfl⟩:=e;refine⟨A,c,by rw[bK,gF g],by rw[bK];omega,?_⟩;rcases h with ⟨h,d⟩|⟨b,rows,e,i,p,f⟩
 ·exact .inl ⟨h,by rw[d];simp⟩
 ·exact .inr ⟨b,rows,e,i,by rw[bK];omega,f.take m⟩
def OwnQ.lt(h:OwnQ w b qs):b<w.1.size:=by
 obtain⟨rows,c,_⟩:=h;exact c.lt
def OwnQ.be(h:OwnQ w b qs)(c:Below w.1.size w w'):OwnQ w' b qs:=by
 obtain⟨rows,f,e,d⟩:=h;exact⟨rows,f.be c,e,d.ke (KM.be c)⟩
def OwnQ.drew(h:OwnQ w b qs):OwnQ w.drew b qs:=h.be (aG _ _).drew
def OwnQ.step(h:OwnQ w b qs)(d:r6 g w w')(i:b≠g):OwnQ w' b qs:=by
 obtain⟨rows,c,f,e⟩:=h;exact⟨rows,⟨(d.2.2.1 b i).trans c.1,c.2⟩,f,e.ke d.1⟩
def OwnQ.nums(h:OwnQ w b qs)(c:Nat)(d:qs.length<=c):QsAt w (.slice (some ⟨b,0,none⟩) qs.length c) qs:=by
 obtain⟨rows,g,f,e⟩:=h;exact⟨_,c,rfl,d,.inr ⟨b,rows,rfl,g,f,e⟩⟩
def OwnQ.free(h:OwnQ w b qs)(j:Nat):w.frozen? ⟨b,j,none⟩=false:=by
 obtain⟨rows,c,_⟩:=h;exact c.free j
def OwnQ.at_(h:OwnQ w b qs)(hi:qs[i]? =some q):
  ∃s B m d s' c j e,R4 w b (i*4) (.bool s) (.slice B m d) (.bool s') (.slice c j e)∧NQ w (.agg #[.bool s,.slice B m d,.bool s',.slice c j e]) q:=by
 obtain⟨rows,g,n,l⟩:=h;obtain⟨s,B,m,d,s',c,j,e,f,k⟩:=l i q hi;exact⟨s,B,m,d,s',c,j,e,⟨g.cell 0 f rfl,g.cell 1 f rfl,g.cell 2 f rfl,g.cell 3 f rfl⟩,k⟩
def QsAt.at_(h:QsAt w (.slice A l c) qs)(hi:qs[i]? =some q):
  ∃b s B m d s' g n j,A=some ⟨b,0,none⟩∧b<w.1.size∧R4 w b (i*4) (.bool s) (.slice B m d) (.bool s') (.slice g n j)∧NQ w (.agg #[.bool s,.slice B m d,.bool s',.slice g n j]) q:=by
 obtain⟨t,x,e,y,h⟩:=h;simp only[Value.slice.injEq] at e;obtain⟨rfl,rfl,rfl⟩:=e;rcases h with ⟨-,h⟩|⟨b,rows,e,f, -,r⟩
 ·rw[h] at hi;simp at hi
 ·obtain⟨s,B,m,d,s',g,n,j,k,p⟩:=r i q hi;exact⟨b,s,B,m,d,s',g,n,j,e,f.lt,⟨f.cell 0 k rfl,f.cell 1 k rfl,f.cell 2 k rfl,f.cell 3 k rfl⟩,p⟩
def OwnQ.stored(h:OwnQ w b qs)(hi:i<qs.length){s s':Bool}{c':Nat}(hn:NQ w (.agg #[.bool s,.slice A l c,.bool s',.slice p r c']) q):
  let W:=(((w.setCell ⟨b,i*4,none⟩ (.bool s)).setCell ⟨b,i*4+1,none⟩ (.slice A l c)).setCell ⟨b,i*4+2,none⟩ (.bool s')).setCell ⟨b,i*4+3,none⟩ (.slice p r c')
  OwnQ W b (qs.set i q)∧r6 b w W:=by
 obtain⟨rows,P,Z,O⟩:=h;obtain⟨s1,D,G,E,t,d,n,f,N,h2⟩:=O i qs[i] (aR hi);have C:i<rows.length:=by omega
 have R:=P.set 0 N (by omega) (.bool s);have K:(rows.set i ([Value.bool s1,.slice D G E,.bool t,.slice d n f].set 0 (.bool s)))[i]? =some [.bool s,.slice D G E,.bool t,.slice d n f]:=by rw[gP C];rfl
 have H:=R.set 1 K (by omega) (.slice A l c);rw[azN] at H;have L:(rows.set i ([Value.bool s,.slice D G E,.bool t,.slice d n f].set 1 (.slice A l c)))[i]? =some [.bool s,.slice A l c,.bool t,.slice d n f]:=by rw[gP C];rfl
 have I:=H.set 2 L (by omega) (.bool s');rw[azN] at I;have M:(rows.set i ([Value.bool s,.slice A l c,.bool t,.slice d n f].set 2 (.bool s')))[i]? =some [.bool s,.slice A l c,.bool s',.slice d n f]:=by rw[gP C];rfl
 have S:=I.set 3 M (by omega) (.slice p r c');rw[azN] at S;have J:=P.cell 0 N rfl;have x:=R.cell 1 K rfl;have y:=H.cell 2 L rfl;have z:=I.cell 3 M rfl;have F:=(((KM.put J (NoInt.bool _) (.bool s)).trans (KM.put x (NoInt.slice _ _ _) (.slice A l c))).trans (KM.put y (NoInt.bool _) (.bool s'))).trans (KM.put z (NoInt.slice _ _ _) (.slice p r c'));refine⟨⟨_,S,by simpa using Z,fun j m k=> ?_⟩,F,(((Keep.put J (NoInt.bool _) _).trans (Keep.put x (NoInt.slice _ _ _) _)).trans (Keep.put y (NoInt.bool _) _)).trans (Keep.put z (NoInt.slice _ _ _) _),fun g B=> ?_,by simp,rfl,rfl,rfl⟩
 ·by_cases e:i=j
  ·subst e;rw[gP hi] at k;injection k with k;subst k;exact⟨s,A,l,c,s',p,r,c',by rw[gP C];rfl,hn.ke F⟩
  ·rw[lI e] at k;obtain⟨x,y,z,T,U,V,X,Y,k1,k2⟩:=O j m k;exact⟨x,y,z,T,U,V,X,Y,by rw[lI e];exact k1,k2.ke F⟩
 ·rw[Below.heap_setCell _ ⟨b,i*4+3,none⟩ _ g B,Below.heap_setCell _ ⟨b,i*4+2,none⟩ _ g B,Below.heap_setCell _ ⟨b,i*4+1,none⟩ _ g B,Below.heap_setCell _ ⟨b,i*4,none⟩ _ g B]
def OwnQ.made(h:Rw w b 4 (List.replicate n [.bool false,.slice none 0 0,.bool false,.slice none 0 0]) 58):OwnQ w b (List.replicate n 0):=
 ⟨_,h,by simp,fun i m c=>⟨false,none,0,0,false,none,0,0,by
  have:=(List.getElem?_eq_some_iff.1 c).1;rw[dB] at this;rw[j6,if_pos this],by
  have:=j6 (n:=n) (a:=(0:Rat)) (i:=i);rw[c] at this;split at this
  ·injection this with this;subst this;exact NQ.zero w
  ·cases this⟩⟩
def Rw.src{k:Nat}{t:TypeId}(i:Rw w b k rows t)(d:0<k)(hn:n<=rows.length):Src w (some ⟨b,0,none⟩) (rows.take n).flatten:=by
 have g:∀r∈rows.take n,r.length=k:=fun r h=>i.2 r (lH h);refine .inr ⟨b,0,rfl,fun j u l=> ?_⟩;have p:j<n*k:=by
  have:=(List.getElem?_eq_some_iff.1 l).1;rw[mX g,bK,gF hn] at this;exact this
 have m:j/k<n:=by rw[Nat.div_lt_iff_lt_mul d];exact p
 obtain⟨r,c⟩:∃r,(rows.take n)[j/k]? =some r:=⟨_,aR (by rw[bK];omega)⟩;have f:=mW g c (dI j d);have e:j/k*k+j%k=j:=by rw[dN];exact iD j k
 rw[e,l] at f;rw[fC,if_pos m] at c;have:=i.cell (j%k) c f.symm;rw[e] at this;rw[bA];exact this
def QsAt.srcs(h:QsAt w (.slice A l c) qs):
  ∃rows:List (List Value),rows.length=qs.length∧l=qs.length∧(∀r∈rows,r.length=4)∧Src w A rows.flatten∧QRow w rows qs∧∀u∈rows.flatten,u.oneCell'=true:=by
 obtain⟨f,g,e,F,h⟩:=h;simp only[Value.slice.injEq] at e;obtain⟨rfl,rfl,rfl⟩:=e;rcases h with ⟨rfl,rfl⟩|⟨b,rows,rfl,n,C,B⟩
 ·exact⟨[],rfl,rfl,(fun _ h=>by cases h),.inl rfl,(fun i q h=>by simp at h),(fun _ h=>by cases h)⟩
 ·have j:QRow w (rows.take qs.length) qs:=fun i q m=>by
   obtain⟨s,A,l,c,x,f,t,g,d,y⟩:=B i q m;exact⟨s,A,l,c,x,f,t,g,by rw[fC,if_pos (List.getElem?_eq_some_iff.1 m).1];exact d,y⟩
  refine⟨rows.take qs.length,by rw[bK];omega,rfl,fun r h=>n.2 r (lH h),n.src (by decide) C,j,fun u E=> ?_⟩;obtain⟨r,D,p⟩:=List.mem_flatten.1 E;obtain⟨i,k⟩:=List.mem_iff_getElem?.1 D;have z:=(List.getElem?_eq_some_iff.1 k).1;rw[bK] at z;obtain⟨s,A,l,c,x,f,t,g,d,_⟩:=j i _ (aR (by omega));rw[k] at d;injection d with d;subst d;simp at p;rcases p with rfl|rfl|rfl|rfl<;>rfl
def EA{p:Nat}(h:w.ownsRow p 58 4 v n rows.flatten)(J:∀r∈rows,r.length=4)(hn:rows.length=n)(z:qs.length=n)(hi:QRow w rows qs):
  QsAt w v qs∧(v= .slice none 0 0∨∃g d,v= .slice (some ⟨g,0,none⟩) n d∧p<=g∧OwnQ w g qs):=by
 rcases h.2 with ⟨rfl,O⟩|⟨g,d,E,rfl,H,I,R,U,K,L⟩
 ·obtain rfl:qs=[]:=bX (by omega);exact⟨QsAt.nil w,.inl rfl⟩
 ·obtain⟨B,P,q,e⟩:=BO 4 d E.toList (by simpa using K);have t:OwnQ w g qs:=by
   refine⟨B,⟨by unfold Bx;rw[I,q],e⟩,by omega,fun i m y=> ?_⟩;obtain⟨s,A,l,c,N,C,M,D,F,G⟩:=hi i m y;refine⟨s,A,l,c,N,C,M,D,?_,G⟩;have S:i<n:=by rw[<-z];exact(List.getElem?_eq_some_iff.1 y).1
   obtain⟨k,f⟩:∃k,B[i]? =some k:=⟨_,aR (by omega)⟩;rw[f];congr 1;have T:=e k (dG f);refine SP (fun j=> ?_);by_cases x:j<4
   ·rw[<-mW e f x,<-mW J F x,q,<-L,fC,if_pos (by omega)]
   ·rw[fU (by omega),fU (by simp;omega)]
  have:=t.nums d (by omega);rw[z] at this;exact⟨this,.inr ⟨g,d,rfl,H,t⟩⟩
def MM(w:World):(w.alloc (.cells #[] 58)).ownsRow w.1.size 58 4 (.slice (some ⟨w.1.size,0,none⟩) 0 0) 0 []:=
 ⟨by simp,.inr ⟨w.1.size,0,#[],rfl,aE,heap_alloc_new w _,aE,by decide,rfl,rfl⟩⟩
end
section
variable {w:World}{ops:Array Oper}{rest:List Oper}{o:Oper}{a:Act}{Q:Exit->Act->World->Prop}
def yT(y:o.guard=none){s x:Operand}(C:o.op= .call { callee:= .builtin .append,args:= #[s,x],argTypes:= #[50,50] })
  (F:a.eval s= .slice (some ⟨w.1.size,0,none⟩) 0 0)(H:a.eval x= .slice A l c)(E:QsAt w (.slice A l c) qs)(I:qs.length<=1073741824)
  (h:∀d w',QsAt w' d qs->(d= .slice none 0 0∨∃g p,d= .slice (some ⟨g,0,none⟩) qs.length p∧w.1.size<=g∧OwnQ w' g qs)->Below w.1.size w w'->wpList prog ops Q rest (a.put o.dst d) w'):
  wpList prog ops Q (o :: rest) a (w.alloc (.cells #[] 58)):=by
 have t:Below w.1.size w (w.alloc (.cells #[] 58)):=(aG _ _).alloc aE _;obtain⟨rows,n,rfl,m,G,z,D⟩:=E.srcs;refine gM y C 58 _ 4 64 underlying50 sJ rfl (by decide) w.1.size (.slice (some ⟨w.1.size,0,none⟩) 0 0) 0 [] F (MM w) rows.flatten H (by rw[mX m,n]) (G.be t) D (by omega) (by omega) (by simp) ?_;intro d w' j f _;have i:Below w.1.size w w':=⟨f.os,f.tape,f.output,aH (by simp) f.size,fun k B=>(f.block k (by simp;omega) (fun e=>by simp[Value.ownBlock] at e;omega)).trans (Below.heap_alloc w _ k B)⟩;rw[bA,iM] at j;obtain⟨q,r⟩:=EA j m n rfl (z.ke (KM.be i));exact h d w' q r i
end
section
variable {a b:World}[u:Up a b]
def QsAt.up(h:QsAt a v qs):QsAt b v qs:=h.be u.out
def OwnQ.up(h:OwnQ a g qs):OwnQ b g qs:=h.be u.out
def R4.up{d f i:Value}(h:R4 a g o d e f i)(c:g<a.1.size):R4 b g o d e f i:=
 ⟨(u.out.cell (p:=⟨g,o,none⟩) c).trans h.1,(u.out.cell (p:=⟨g,o+1,none⟩) c).trans h.2.1,(u.out.cell (p:=⟨g,o+2,none⟩) c).trans h.2.2.1,(u.out.cell (p:=⟨g,o+3,none⟩) c).trans h.2.2.2⟩
end
def R4.old{f i j:Value}(h:R4 w g o e f i j)(c:Below B w w')(d:g<B):R4 w' g o e f i j:=
 ⟨(c.cell (p:=⟨g,o,none⟩) d).trans h.1,(c.cell (p:=⟨g,o+1,none⟩) d).trans h.2.1,(c.cell (p:=⟨g,o+2,none⟩) d).trans h.2.2.1,(c.cell (p:=⟨g,o+3,none⟩) d).trans h.2.2.2⟩
def yU(w:World)(v:Value):Prop:=∀g,v.ownBlock=some g->∀cur t f,w.heap[g]? =some (.cells cur t f)->∀y∈cur.toList,NoInt y
def GrowQ(w:World)(c:Nat)(v:Value)(qs:List Rat):Prop:=(∃rows,w.ownsRow c 58 4 v qs.length rows.flatten∧rows.length=qs.length∧(∀r∈rows,r.length=4)∧QRow w rows qs)∧yU w v
def GrowQ.nil(w:World):GrowQ w c (.slice none 0 0) []:=⟨⟨[],World.ownsRow_nil _ _ _ _,rfl,(fun _ h=>by cases h),(fun i q h=>by simp at h)⟩,fun g h=>by simp[Value.ownBlock] at h⟩
def GrowQ.nums(h:GrowQ w c v qs):QsAt w v qs:=by
 obtain⟨⟨rows,d,e,f,g⟩, -⟩:=h;exact(EA d f e rfl g).1
def GrowQ.be(h:GrowQ w l v qs)(k:Below w.1.size w w'):GrowQ w' l v qs:=by
 obtain⟨⟨rows,j,n,p,q⟩,s⟩:=h;have x:∀g,v.ownBlock=some g->g<w.1.size:=fun g e=>by
  rcases j.2 with ⟨rfl,_⟩|⟨i,m,d,rfl,_,c,_⟩
  ·simp[Value.ownBlock] at e
  ·simp[Value.ownBlock] at e;subst e;exact(Array.getElem?_eq_some_iff.1 c).1
 refine⟨⟨rows,⟨j.1,?_⟩,n,p,q.ke (KM.be k)⟩,fun g e d t f c=>s g e d t f ((k.block g (x g e)).symm.trans c)⟩;rcases j.2 with h|⟨i,m,d,rfl,r,c,h⟩
 ·exact .inl h
 ·exact .inr ⟨i,m,d,rfl,r,(k.block i (Array.getElem?_eq_some_iff.1 c).1).trans c,h⟩
def GrowQ.drew(h:GrowQ w c v qs):GrowQ w.drew c v qs:=h.be (aG _ _).drew
def GrowQ.up{a b:World}[u:Up a b](h:GrowQ a c v qs):GrowQ b c v qs:=h.be u.out
def MN(n:Nat):∀y∈Builtin.zeroCells #[Value.bool false,.slice none 0 0,.bool false,.slice none 0 0] n,NoInt y:=fun y c=>by
 unfold Builtin.zeroCells at c;obtain⟨j,_,rfl⟩:=Array.mem_map.1 c;have d:(#[Value.bool false,.slice none 0 0,.bool false,.slice none 0 0]:Array Value).size=4:=rfl;rw[d];rcases(show j%4=0∨j%4=1∨j%4=2∨j%4=3 by omega) with h|h|h|h<;>rw[h]
 ·exact NoInt.bool _
 ·exact NoInt.slice _ _ _
 ·exact NoInt.bool _
 ·exact NoInt.slice _ _ _
def MO(w:World)(U:TypeId)(hG:GrowQ w R v qs)
  {E F:Bool}{l n:Option Addr}{C D s z:Nat}(hB:Bx w g [.bool E,.slice l C s,.bool F,.slice n D z] 58)(hq:NQ w (.agg #[.bool E,.slice l C s,.bool F,.slice n D z]) q)(hl:qs.length<=1073741824)(hb:R<=w.1.size):
  ∃V w',(Builtin.append_ #[50,50] U #[v,.slice (some ⟨g,0,none⟩) 1 c]).run prog w= .ok V w'∧GrowQ w' R V (qs++[q])∧Below R w w':=by
 obtain⟨⟨rows,M,h2,h3,h4⟩,hN⟩:=hG;obtain⟨i,X,ad,S,ae⟩:=info_parts sJ;have Y:∀j u,[Value.bool E,.slice l C s,.bool F,.slice n D z][j]? =some u->w.cell? ((⟨g,0,none⟩:Addr).add j)=some u:=fun j u J=>by
  have:=hB.cell j J;unfold Addr.add;split
  ·rename_i W;subst W;exact this
  ·simpa using this
 have Z:∀u∈[Value.bool E,.slice l C s,.bool F,.slice n D z],NoInt u∧u.oneCell'=true:=fun u J=>by
  simp at J;rcases J with rfl|rfl|rfl|rfl
  ·exact⟨NoInt.bool _,rfl⟩
  ·exact⟨NoInt.slice _ _ _,rfl⟩
  ·exact⟨NoInt.bool _,rfl⟩
  ·exact⟨NoInt.slice _ _ _,rfl⟩
 obtain⟨V,w',H,ho,N,_,au⟩:=run_append_own_at (P:=prog) w R 50 U 58 i _ 4 64 underlying50 X ad S ae rfl (by decide) v qs.length _ M ⟨g,0,none⟩ 1 c [.bool E,.slice l C s,.bool F,.slice n D z] rfl Y (fun u J=>(Z u J).2) (by unfold maxLen;omega) (by omega) hb
 have ah:KM w w':=⟨N.size,fun p k x T=>by
  obtain⟨b,o,sp⟩:=p;obtain rfl:sp=none:=World.cell?_spot T;by_cases e:v.ownBlock=some b
  ·rcases M.2 with ⟨rfl,_⟩|⟨B,K,A,rfl,_,O,_⟩
   ·simp[Value.ownBlock] at e
   ·have L:B=b:=by simpa [Value.ownBlock] using e
    subst L;rw[cell_of_row w B o A _ (0,0) O,<-Array.getElem?_toList] at T;exact absurd rfl (hN B e A _ _ O _ (dG T) k x)
  ·exact(World.cell?_of_block (N.block b (block_lt_of_cell (a:=⟨b,o,none⟩) T) (fun e'=>e e'.symm))).trans T⟩
 have ai:Below R w w':=⟨N.os,N.tape,N.output,N.size,fun k hk=>N.block k (by omega) (fun e=>by
  rcases M.2 with ⟨rfl,_⟩|⟨B,_,_,rfl,av,_⟩
  ·simp[Value.ownBlock] at e
  ·simp[Value.ownBlock] at e;omega)⟩
 have aj:yU w' V:=by
  have af:∀(ab:List Value) (K m:Nat),(∀y∈ab,NoInt y)->yU (w.drew.alloc (.cells (ab.toArray++[Value.bool E,.slice l C s,.bool F,.slice n D z].toArray++Builtin.zeroCells #[Value.bool false,.slice none 0 0,.bool false,.slice none 0 0] m) 58)) (.slice (some ⟨w.1.size,0,none⟩) (qs.length+1) K):=fun ab K m hv B e A t f hc=>by
   simp[Value.ownBlock] at e;subst e;have:=heap_alloc_new w.drew (.cells (ab.toArray++[Value.bool E,.slice l C s,.bool F,.slice n D z].toArray++Builtin.zeroCells #[Value.bool false,.slice none 0 0,.bool false,.slice none 0 0] m) 58);have h5:=this.symm.trans hc;simp only[Option.some.injEq,Obj.cells.injEq] at h5;rw[<-h5.1];intro y d;rw[bxA,bxA] at d;rcases List.mem_append.1 d with d|d
   ·rcases List.mem_append.1 d with d|d
    ·exact hv y d
    ·exact(Z y d).1
   ·exact MN m y (Array.mem_toList_iff.1 d)
  rcases M.2 with ⟨rfl,W⟩|⟨B,K,A,rfl,ar,O,ax,aw,hs,ht⟩
  ·have I:=run_append_nil (P:=prog) w 50 U 58 i _ underlying50 X ad ⟨g,0,none⟩ 1 c [.bool E,.slice l C s,.bool F,.slice n D z] (by rw[S];rfl) Y (by decide) (by decide) (by rw[ae];decide);rw[H] at I;injection I with e1 L;subst e1 L;have am:qs.length=0:=by omega
   have:=af [] (grownCap w 1 0 58) (grownCap w 1 0 58-1) (fun _ h=>by cases h);rw[am] at this;exact this
  ·have ac:∀y∈A.toList,NoInt y:=hN B rfl A _ _ O;by_cases an:qs.length+1<=K
   ·have I:=run_append_room (P:=prog) w 50 U 58 i underlying50 X B qs.length K A O ⟨g,0,none⟩ 1 c [.bool E,.slice l C s,.bool F,.slice n D z] (by rw[S];rfl) Y (fun u J=>(Z u J).2) an (by rw[S,hs];simp;omega);rw[H] at I;injection I with e1 L;subst e1 L;intro g3 e aq t f hc;simp[Value.ownBlock] at e;subst e;have h7:=(setRow_heap w B A _ 58 _ O).symm.trans hc;simp only[Option.some.injEq,Obj.cells.injEq] at h7;rw[<-h7.1];intro y d;have ap:y∈A.toList.take (qs.length*i.size)++[Value.bool E,.slice l C s,.bool F,.slice n D z]++A.toList.drop (qs.length*i.size+4):=d;rcases List.mem_append.1 ap with d|d
    ·rcases List.mem_append.1 d with d|d
     ·exact ac y (lH d)
     ·exact(Z y d).1
    ·exact ac y (bxK d)
   ·have al:∀j y,(A.toList.take (qs.length*4))[j]? =some y->w.cell? ((⟨B,0,none⟩:Addr).add j)=some y:=fun j y G=>by
     have M:w.cell? ⟨B,j,none⟩=some y:=by
      rw[cell_of_row w B j A _ (0,0) O,<-Array.getElem?_toList];rw[fC] at G;split at G
      ·exact G
      ·cases G
     unfold Addr.add;split
     ·rename_i W;subst W;exact M
     ·simpa using M
    have I:=run_append_grow (P:=prog) w 50 U 58 i _ underlying50 X ad ⟨B,0,none⟩ qs.length K (A.toList.take (qs.length*4)) (by rw[S,bK];simp;omega) al ⟨g,0,none⟩ 1 c [.bool E,.slice l C s,.bool F,.slice n D z] (by rw[S];rfl) Y (by omega) (by omega) (growslice_fits (by omega) (by rw[ae];omega));rw[H] at I;injection I with e1 L;subst e1 L;exact af _ _ _ (fun y d=>ac y (lH d))
 refine⟨V,w',H,⟨⟨rows++[[.bool E,.slice l C s,.bool F,.slice n D z]],?_,by simp[h2],fun r H=> ?_,fun j x G=> ?_⟩,aj⟩,ai⟩
 ·rw[bG,exJ];simpa using ho
 ·rcases List.mem_append.1 H with H|H
  ·exact h3 r H
  ·rw[List.mem_singleton.1 H];rfl
 ·rcases dE j qs.length with ag|ag
  ·rw[gA ag] at G;obtain⟨a1,a2,a3,a4,a5,a6,a7,a8,x1,x2⟩:=h4 j x G;exact⟨a1,a2,a3,a4,a5,a6,a7,a8,by rw[gA (by omega)];exact x1,x2.ke ah⟩
  ·have ak:=(List.getElem?_eq_some_iff.1 G).1;rw[bG,iJ] at ak;obtain rfl:j=qs.length:=by omega
   rw[fK aE,dzC] at G;have ao:x=q:=by simpa using G.symm
   subst ao;exact⟨E,l,C,s,F,n,D,z,by rw[fK (by omega),h2,dzC];rfl,hq.ke ah⟩
def MP{ops:Array Oper}{o:Oper}{a:Act}{K:Act->World->Prop}{Q:Exit->Act->World->Prop}{E:Prop}(B:o.guard=none){s x:Operand}
  (D:o.op= .call { callee:= .builtin .append,args:= #[s,x],argTypes:= #[50,50] })(H:a.eval s=v)(z:GrowQ w d v qs)(J:a.eval x= .slice (some ⟨g,0,none⟩) 1 c)
  {n p:Bool}{i:Option Addr}{j k:Nat}(y:Bx w g [.bool n,.slice f l j,.bool p,.slice i m k] 58)(F:NQ w (.agg #[.bool n,.slice f l j,.bool p,.slice i m k]) q)(C:qs.length<=1073741824)(A:d<=w.1.size)
  (h:∀e w',GrowQ w' d e (qs++[q])->Below d w w'->K (a.put o.dst e) w'):if Region.wanted o (yielded ops a.tmps)=true then Oper.wp prog o a w K Q else E:=by
 have I:Region.wanted o (yielded ops a.tmps)=true:=by simp[Region.wanted,B]
 rw[if_pos I];obtain⟨e,w',G,r,t⟩:=MO w o.type z y F C A (c:=c);unfold Oper.wp execOp;simp only[D,resolve,invoke,builtin,Sem.run_bind,Sem.run_pure,Result.andThen_ok,bxJ,fM,bxI,H,J,G];exact h e w' r t
