/- Laws. -/
import Derived.Test.YtpgmdhonnpakeaaGreatDoorS23
set_option linter.all false
set_option maxHeartbeats 8000000
set_option maxRecDepth 99999
namespace Go.Proofs.YtpgmdhonnpakeaaGreatDoor
open Sos Lib
variable{K a b:Nat}{q x y:Rat}
def WN(m n:Nat):nl (m+n)<=max (nl m) (nl n)+1:=by
 have a:=cY m;have b:=cY n;refine cJ ?_;have c:BN^nl m<=BN^max (nl m) (nl n):=cO (by decide) (Nat.le_max_left _ _);have d:BN^nl n<=BN^max (nl m) (nl n):=cO (by decide) (Nat.le_max_right _ _);rw[dH];have e:2*BN^max (nl m) (nl n)<=BN^max (nl m) (nl n)*BN:=by rw[dN];exact eV _ (by decide)
 omega
def pM{n d:Int}(hn:nl n.natAbs<=K)(b:nl d.natAbs<=K)(a:1<=K):RL K ((n:Rat)/d):=CA n d K hn b a
def xR(h:RL K q):1<=K:=by
 have b:=h.2;rcases iB K with a|a
 ·subst a;have:=cY q.den;rw[show nl q.den=0 by omega] at this;have:=q.den_pos;simp at *;omega
 ·exact a
def o6(c:RL a x)(d:RL b y):RL (a+b) (x*y):=by
 rw[<-yV];refine pM ?_ ?_ (by have:=xR c;omega)
 ·rw[fL];exact aH (fI _ _) (bqJ c.1 d.1)
 ·rw[fL];exact aH (fI _ _) (bqJ c.2 d.2)
def CI(c:RL a x)(d:RL b y):RL (a+b+1) (x+y):=by
 rw[<-EB];refine pM ?_ ?_ (by omega)
 ·refine aH (cK (byV _ _)) (aH (WN _ _) ?_);have g:=fI x.num.natAbs y.den;have h:=fI y.num.natAbs x.den;have e:(x.num*y.den).natAbs=x.num.natAbs*y.den:=by rw[fL,dD]
  have f:(y.num*x.den).natAbs=y.num.natAbs*x.den:=by rw[fL,dD]
  rw[e,f];have:=c.1;have:=c.2;have:=d.1;have:=d.2;omega
 ·rw[fL];exact aH (fI _ _) (by have:=c.2;have:=d.2;simp only[dD];omega)
def lV{l:List Rat}(h:∀q∈l,RL K q)(b:RL K 0)(i:Nat):RL K (cf l i):=by
 by_cases a:i<l.length
 ·rw[fZ a];exact h _ (az6 a)
 ·rw[bV (by omega)];exact b
def dxL{f:Nat->Rat}(h:∀k,RL (2*K) (f k))(n:Nat):RL (1+n*(2*K+1)) (bW f n):=by
 induction n with
 |zero=>exact iG (by omega)
 |succ n a=>exact bU (CI a (h n)) (by rw[y9 n];omega)
def dxM{x y:List Rat}(c:∀q∈x,RL K q)(d:∀q∈y,RL K q)(b:1<=K):∀q∈hO x y,RL (1+(x.length+y.length)*(2*K+1)) q:=fun q a=>by
 unfold hO at a;split at a
 ·cases a
 ·obtain⟨i,hi,rfl⟩:=List.mem_map.1 a;have e:=List.mem_range.1 hi;refine bU (dxL (K:=K) (fun k=>bU (o6 (lV c (iG b) _) (lV d (iG b) _)) (by omega)) (i+1)) ?_;have:=dK (2*K+1) (show i+1<=x.length+y.length by omega);omega
end Go.Proofs.YtpgmdhonnpakeaaGreatDoor
namespace Go.Proofs.YtpgmdhonnpakeaaGreatDoor
open Go.RowKit Sos Tryz
variable{K X:Nat}{a b:List (List UInt8)}{t:List UInt8}
def byE{q:Rat}(h:RL K q)(m:Nat):RL (m*K+1) (q^m):=by
 have a:=Y2 q.num.natAbs m;have b:=Y2 q.den m;have c:=eV m h.1;have d:=eV m h.2;exact⟨by rw[Rat.num_pow,Int.natAbs_pow];omega,by rw[Rat.den_pow];omega⟩
def cxR{n:Int}(h:nl n.natAbs<=X)(a:1<=X):RL X (n:Rat):=⟨h,by show nl 1<=X;exact aH (cJ (m:=1) (by unfold BN;decide)) a⟩
def dx4(x y:List Int)(D E:Int)(va vb vd ve:Value)(w:World)(Q:Glob w)(ha:WholeAt w va x)(ak:WholeAt w vb y)(C:IntAt w vd D)(F:IntAt w ve E)(tx:aN x)(ty:aN y)(bz:0<D)(b0:0<E)(K:Nat)(kx:∀n∈x,nl n.natAbs<=K)(ky:∀n∈y,nl n.natAbs<=K)(kD:nl D.natAbs<=K)(kE:nl E.natAbs<=K)(hK:1<=K)(bn:K<=1048576)(hN:x.length+y.length<=128):
  Calls prog 23 #[va,vb,vd,ve] w (iF w (azW x y D E)):=by
 obtain⟨A,c,rfl,hc⟩:=ha.form;obtain⟨A',c',rfl,bo⟩:=ak.form;obtain⟨sd,Ad,kd,cd,rfl⟩:=C.form;obtain⟨se,Ae,ke,ce,rfl⟩:=F.form;by_cases x0:x=[]
 ·have q1:((x.length:Int)==0)=true:=by rw[x0];rfl
  have HQ:Hid (azW x y D E=0):=if_pos (.inl x0);clear kx ky tx ty hN x0;obtain⟨W,eW,g,i,j,R⟩:=gE w [.bool sd,.slice Ad kd cd] 53 [.bool se,.slice Ae ke ce] 53 [.bool false,.slice none 0 0,.bool false,.slice none 0 0] 57;have H:=aa i.g2 (aa j.g2 R.g4);go_enter func23,ntmps23;go_wp2_with fail;(try rw[eW]);clear eW;obtain⟨W6,V,R,g,f,O⟩:=R.put4 g (by omega) (.bool false) (.slice none 0 0) (.bool false) (.slice none 0 0) rfl rfl;replace i:=O i (by omega);replace j:=O j (by omega);rw[V];clear V;replace H:=aa i.k2 (aa j.k2 R.k4);exact aM (v:= .agg #[.bool false,.slice none 0 0,.bool false,.slice none 0 0]) (by simp[results,results23,go_sem,R.k4]) rfl ⟨_,rfl,by rw[HQ.out];exact RatAt.int (n:=0) (IntAt.zero _) (IntAt.zero _),g⟩
 ·by_cases y0:y=[]
  ·have q1:((x.length:Int)==0)=false:=by rw[beq_eq_false_iff_ne];have:=List.length_pos_iff.2 x0;omega
   have q2:((y.length:Int)==0)=true:=by rw[y0];rfl
   have HQ:Hid (azW x y D E=0):=if_pos (.inr y0);clear kx ky tx ty hN x0 y0;obtain⟨W,eW,g,i,j,R⟩:=gE w [.bool sd,.slice Ad kd cd] 53 [.bool se,.slice Ae ke ce] 53 [.bool false,.slice none 0 0,.bool false,.slice none 0 0] 57;have H:=aa i.g2 (aa j.g2 R.g4);go_enter func23,ntmps23;go_wp2_with fail;(try rw[eW]);clear eW;obtain⟨W6,V,R,g,f,O⟩:=R.put4 g (by omega) (.bool false) (.slice none 0 0) (.bool false) (.slice none 0 0) rfl rfl;replace i:=O i (by omega);replace j:=O j (by omega);rw[V];clear V;replace H:=aa i.k2 (aa j.k2 R.k4);exact aM (v:= .agg #[.bool false,.slice none 0 0,.bool false,.slice none 0 0]) (by simp[results,results23,go_sem,R.k4]) rfl ⟨_,rfl,by rw[HQ.out];exact RatAt.int (n:=0) (IntAt.zero _) (IntAt.zero _),g⟩
  ·have lx:=List.length_pos_iff.2 x0;have ly:=List.length_pos_iff.2 y0;have q1:((x.length:Int)==0)=false:=by rw[beq_eq_false_iff_ne];omega
   have q2:((y.length:Int)==0)=false:=by rw[beq_eq_false_iff_ne];omega
   have HQ:Hid (azW x y D E=(((bC x:Int):Rat)/D)^(y.length-1)*(((bC y:Int):Rat)/E)^(x.length-1)*kC (aS x) (aS y)):=if_neg (fun h=>h.elim x0 y0);have a4:=nI tx x0;have a5:=nI ty y0;have al:nl ((bC x:Int)).natAbs<=K:=by rw[dD];exact az4 kx
   have am:nl ((bC y:Int)).natAbs<=K:=by rw[dD];exact az4 ky
   have a8:=fun W m o=>WX x (.slice A x.length c) W m o K kx (by unfold aJ;omega) (by omega);have a9:=fun W m o=>WX y (.slice A' y.length c') W m o K ky (by unfold aJ;omega) (by omega);have ap:=fun W u m o=>X4 x (bC x) (.slice A x.length c) u W m o (fun _=>a4) K kx al (by unfold aJ;omega) (by omega);have aq:=fun W u m o=>X4 y (bC y) (.slice A' y.length c') u W m o (fun _=>a5) K ky am (by unfold aJ;omega) (by omega);have ar:=fun W v u Q m o=>I3 (bC x) D v u W Q m o K al kD (by unfold aJ;omega);have au:=fun W v u Q m o=>I3 (bC y) E v u W Q m o K am kE (by unfold aJ;omega);have k1:RL K (((bC x:Int):Rat)/D):=CA _ _ K al kD hK;have k2:RL K (((bC y:Int):Rat)/E):=CA _ _ K am kE hK;have b1:(y.length-1)*K<=128*K:=dK _ (by omega);have b2:(x.length-1)*K<=128*K:=dK _ (by omega);have k3:=bU (byE k1 (y.length-1)) (show(y.length-1)*K+1<=128*K+1 by omega);have k4:=bU (byE k2 (x.length-1)) (show(x.length-1)*K+1<=128*K+1 by omega);have aw:=fun W v h=>cy9 (((bC x:Int):Rat)/D) (y.length-1) v W h (by unfold BN;omega) K k1 (by unfold aJ;omega);have ax:=fun W v h=>cy9 (((bC y:Int):Rat)/E) (x.length-1) v W h (by unfold BN;omega) K k2 (by unfold aJ;omega);have p0:∀{r:List Int},r≠[]->aS r≠[]:=fun hr e=>hr (bX (by rw[<-dF,e];rfl));obtain⟨z,hz,kz⟩:=cxS (gU kx) (gU ky) (N:=128) (by rw[dF,dF];exact hN)
   have ay:=fun W v u m o=>(dx6 (aS x) (aS y) v u W m o (p0 x0) (p0 y0) (gV tx) (gV ty) K 128 (gU kx) (gU ky) hK (by rw[dF,dF];exact hN) (by omega) bn).mono (R':=dW W z) (fun e I h=>by
    obtain⟨z',m, -,o⟩:=h;rw[hz] at m;rw[<-Rat.intCast_inj.1 m];exact o)
   have b7:IntKind.u64.wrap ((y.length:Int)-1)=((y.length-1:Nat):Int):=by rw[IntKind.wrap_u64];omega
   have b8:IntKind.u64.wrap ((x.length:Int)-1)=((x.length-1:Nat):Int):=by rw[IntKind.wrap_u64];omega
   have ba:=fun (B:Option Addr) (d:Nat) (W:World)=>(JO y.length d B W (by omega)).mono (R':=fun e I=>e= .returned (.int .i64 ((y.length:Int)-1))∧W=I) (fun e I h=>⟨h.1,h.2.symm⟩);have bb:=fun (B:Option Addr) (d:Nat) (W:World)=>(JO x.length d B W (by omega)).mono (R':=fun e I=>e= .returned (.int .i64 ((x.length:Int)-1))∧Below W.1.size W I) (fun e I h=>⟨h.1,by rw[h.2];exact aG _ _⟩);have av:=fun W v u Q m o=>bq6 _ _ v u W Q m o (128*K+1) k3 k4 (by unfold aJ;omega);have k5:=bU (o6 k3 k4) (show(128*K+1)+(128*K+1)<=300*K+40000 by omega);have bc:=fun W v u Q m o=>bq6 (_*_) (z:Rat) v u W Q m o (300*K+40000) k5 (cxR (by omega) (by omega)) (by unfold aJ;omega);rw[HQ.out,hz];clear HQ hz x0 y0 a4 a5 al am kx ky kD kE tx ty p0 k1 k2 k3 k4 k5 b1 b2 hc bo kz;unfold iF at ar au aw ax av bc;unfold dW at a8 a9;unfold dW at ay;generalize ((bC x:Int):Rat)/D=F1 at *;generalize ((bC y:Int):Rat)/E=F2 at *;generalize F1^(y.length-1)=P1 at *;generalize F2^(x.length-1)=P2 at *;generalize y.length-1=dy at *;generalize x.length-1=dx at *;change∀W u,_->_->Calls prog 63 #[.slice A x.length c,u] W (fun e I=>∃v',e= .returned v'∧WholeAt I v' (aS x)∧Below W.1.size W I) at ap;change∀W u,_->_->Calls prog 63 #[.slice A' y.length c',u] W (fun e I=>∃v',e= .returned v'∧WholeAt I v' (aS y)∧Below W.1.size W I) at aq;generalize aS x=X at *;generalize aS y=Y at *;generalize (bC x:Int)=gx at *;generalize (bC y:Int)=gy at *;obtain⟨W,eW,g,i,j,R⟩:=gE w [.bool sd,.slice Ad kd cd] 53 [.bool se,.slice Ae ke ce] 53 [.bool false,.slice none 0 0,.bool false,.slice none 0 0] 57;have H:=aa i.g2 (aa j.g2 R.g4);go_enter func23,ntmps23;go_wp2_with fail;(try rw[eW]);clear eW;replace C:=C.be g;replace F:=F.be g;refine(a8 _ (Q.be g) (ha.be g)).mono ?_;rintro e1 w1 ⟨v1,rfl,m,af⟩;obtain⟨s1,A1,k1,c1,rfl⟩:=m.form;replace i:=i.be af;replace j:=j.be af;replace R:=R.be af;replace H:=aa i.k2 (aa j.k2 R.g4);replace f:=Keep.be af;replace C:=C.ke f;replace F:=F.ke f;replace g:=aC g af;go_wp2_with fail;refine(a9 _ (Q.be g) (ak.be g)).mono ?_;rintro e2 w2 ⟨v2,rfl,o,ag⟩;obtain⟨s2,A2,k2,c2,rfl⟩:=o.form;replace i:=i.be ag;replace j:=j.be ag;replace R:=R.be ag;replace H:=aa i.k2 (aa j.k2 R.g4);replace f:=Keep.be ag;replace C:=C.ke f;replace F:=F.ke f;replace m:=m.ke f;replace g:=aC g ag;have bf:∀L M:Obj,((w2.alloc L).alloc M).cell? ⟨w.1.size,0,none⟩=some (.bool sd):=fun L M=>((i.alloc L).alloc M).cell 0 rfl;have bh:∀L M:Obj,((w2.alloc L).alloc M).frozen? ⟨w.1.size,0,none⟩=false:=fun L M=>((i.alloc L).alloc M).free 0;have bg:∀L M:Obj,((w2.alloc L).alloc M).cell? ⟨w.1.size,1,none⟩=some (.slice Ad kd cd):=fun L M=>((i.alloc L).alloc M).cell 1 rfl;have bi:∀L M:Obj,((w2.alloc L).alloc M).frozen? ⟨w.1.size,1,none⟩=false:=fun L M=>((i.alloc L).alloc M).free 1;go_wp2_with fail;have a0:=i.lt;have a1:=j.lt;have aj:=R.lt;have az:=g.size;obtain⟨w3,a2,U,C1,q⟩:=D8 w2 [.bool s1,.slice A1 k1 c1] 53 [.bool s2,.slice A2 k2 c2] 53;replace i:=i.be U;replace j:=j.be U;replace R:=R.be U;replace f:=Keep.be U;replace g:=aC g U;replace C:=C.ke f;replace F:=F.ke f;replace m:=m.ke f;replace o:=o.ke f;rw[a2];clear a2;replace H:=aa i.k2 (aa j.k2 (aa R.g4 (aa C1.k2 q.k2)));clear bf bg bh bi;refine(ar _ _ _ (Q.be g) m C).mono ?_;rintro e4 w4 ⟨v4,rfl,h4,ac⟩;replace i:=i.be ac;replace j:=j.be ac;replace R:=R.be ac;replace C1:=C1.be ac;replace q:=q.be ac;replace H:=aa i.k2 (aa j.k2 (aa R.g4 (aa C1.k2 q.k2)));replace f:=Keep.be ac;replace C:=C.ke f;replace F:=F.ke f;replace m:=m.ke f;replace o:=o.ke f;replace g:=aC g ac;go_wp2_with (go_at_call 27;refine(ba _ _ _).mono ?_;rintro eD wD ⟨rfl,rfl⟩);refine(aw _ _ h4).mono ?_;rintro e5 w5 ⟨v5,rfl,J,ae⟩;replace i:=i.be ae;replace j:=j.be ae;replace R:=R.be ae;replace C1:=C1.be ae;replace q:=q.be ae;replace H:=aa i.k2 (aa j.k2 (aa R.g4 (aa C1.k2 q.k2)));replace f:=Keep.be ae;replace C:=C.ke f;replace F:=F.ke f;replace m:=m.ke f;replace o:=o.ke f;replace g:=aC g ae;obtain⟨s5,A5,k5,c5,t5,E5,l5,d5,rfl⟩:=J.form;go_upto_region 5 with fail;have a0:=i.lt;have a1:=j.lt;have aj:=R.lt;have bj:=C1.lt;have bk:=q.lt;have az:=g.size;obtain⟨w6,a3,U,p⟩:=bI w5 [.bool s5,.slice A5 k5 c5,.bool t5,.slice E5 l5 d5] 57;replace i:=i.be U;replace j:=j.be U;replace R:=R.be U;replace C1:=C1.be U;replace q:=q.be U;replace f:=Keep.be U;replace g:=aC g U;replace C:=C.ke f;replace F:=F.ke f;replace m:=m.ke f;replace o:=o.ke f;replace J:=J.ke f;rw[a3];clear a3;replace H:=aa i.k2 (aa j.k2 (aa R.g4 (aa C1.k2 (aa q.k2 p.g4))))
   go_cut [] (fun wx=>∃s A k c t E' l d,Bx wx w5.1.size [.bool s,.slice A k c,.bool t,.slice E' l d] 57∧RatAt wx (.agg #[.bool s,.slice A k c,.bool t,.slice E' l d]) (P1*P2)∧Bx wx w2.1.size [.bool s1,.slice A1 k1 c1] 53∧Bx wx (w2.1.size+1) [.bool s2,.slice A2 k2 c2] 53∧
    Bx wx (w.1.size+1+1) [.bool false,.slice none 0 0,.bool false,.slice none 0 0] 57∧IntAt wx (.agg #[.bool s1,.slice A1 k1 c1]) gx∧IntAt wx (.agg #[.bool s2,.slice A2 k2 c2]) gy∧Below w.1.size w wx)
   case first=>
    replace C:=C.drew;replace F:=F.drew;replace m:=m.drew;replace o:=o.drew;replace J:=J.drew;replace i:=i.drew;replace j:=j.drew;replace R:=R.drew;replace C1:=C1.drew;replace q:=q.drew;replace p:=p.drew;replace g:=g.drew;have cb:w5.1.size≠w2.1.size+1:=by omega
    have ca:w5.1.size≠w.1.size+1:=by omega
    go_region_with (first
      |(go_at_call 30;refine(au _ _ _ (Q.be g) o F).mono ?_;rintro e7 w7 ⟨v7,rfl,h7,Z⟩;replace i:=i.be Z;replace j:=j.be Z;replace R:=R.be Z;replace C1:=C1.be Z;replace q:=q.be Z;replace p:=p.be Z;replace H:=aa i.k2 (aa j.k2 (aa R.g4 (aa C1.k2 (aa q.k2 p.g4))));replace f:=Keep.be Z;replace C:=C.ke f;replace F:=F.ke f;replace m:=m.ke f;replace o:=o.ke f;replace J:=J.ke f;(try replace h8:=h8.ke f);(try replace P:=P.ke f);(try replace G:=G.ke f);replace g:=aC g Z)
      |(go_at_call 27;refine(bb _ _ _).mono ?_;rintro e8 w8 ⟨rfl,ab⟩;replace i:=i.be ab;replace j:=j.be ab;replace R:=R.be ab;replace C1:=C1.be ab;replace q:=q.be ab;replace p:=p.be ab;replace H:=aa i.k2 (aa j.k2 (aa R.g4 (aa C1.k2 (aa q.k2 p.g4))));replace f:=Keep.be ab;replace C:=C.ke f;replace F:=F.ke f;replace m:=m.ke f;replace o:=o.ke f;replace J:=J.ke f;(try replace h7:=h7.ke f);(try replace P:=P.ke f);(try replace G:=G.ke f);replace g:=aC g ab)
      |(go_at_call 61;refine(ax _ _ h7).mono ?_;rintro e9 w9 ⟨v9,rfl,P,S⟩;replace i:=i.be S;replace j:=j.be S;replace R:=R.be S;replace C1:=C1.be S;replace q:=q.be S;replace p:=p.be S;replace H:=aa i.k2 (aa j.k2 (aa R.g4 (aa C1.k2 (aa q.k2 p.g4))));replace f:=Keep.be S;replace C:=C.ke f;replace F:=F.ke f;replace m:=m.ke f;replace o:=o.ke f;replace J:=J.ke f;(try replace h7:=h7.ke f);(try replace h8:=h8.ke f);(try replace G:=G.ke f);replace g:=aC g S)
      |(go_at_call 47;refine(av _ _ _ (Q.be g) J P).mono ?_;rintro e0 w0 ⟨v0,rfl,G,ad⟩;obtain⟨s0,A0,k0,c0,t0,E0,l0,d0,rfl⟩:=G.form;replace i:=i.be ad;replace j:=j.be ad;replace R:=R.be ad;replace C1:=C1.be ad;replace q:=q.be ad;replace p:=p.be ad;replace H:=aa i.k2 (aa j.k2 (aa R.g4 (aa C1.k2 (aa q.k2 p.g4))));replace f:=Keep.be ad;replace C:=C.ke f;replace F:=F.ke f;replace m:=m.ke f;replace o:=o.ke f;replace J:=J.ke f;(try replace h7:=h7.ke f);(try replace h8:=h8.ke f);(try replace P:=P.ke f);replace g:=aC g ad))
    all_goals (
     go_wp2_with fail;have a0:=i.lt;have a1:=j.lt;have aj:=R.lt;have bj:=C1.lt;have bk:=q.lt;have bm:=p.lt;have az:=g.size;obtain⟨W6,V,p,g,f,O⟩:=p.put4 g (by omega) (.bool s0) (.slice A0 k0 c0) (.bool t0) (.slice E0 l0 d0) rfl rfl;replace i:=O i (by omega);replace j:=O j (by omega);replace R:=O R (by omega);replace C1:=O C1 (by omega);replace q:=O q (by omega);replace m:=m.ke f;replace o:=o.ke f;replace G:=G.ke f;rw[V];clear V;replace H:=aa i.k2 (aa j.k2 (aa R.k4 (aa C1.k2 (aa q.k2 p.k4))));go_meet;exact⟨s0,A0,k0,c0,t0,E0,l0,d0,p,G,C1,q,R,m,o,g⟩)
   case rest=>
    clear C F m o J i j R C1 q p g f ar au aw ax av ba bb;obtain⟨s0,A0,k0,c0,t0,E0,l0,d0,p,G,C1,q,R,m,o,g⟩:=hcut;have a6:=ha.be g;have a7:=ak.be g;clear ha ak;go_upto_region 6 with fail;have bt:=C1.lt;have bu:=q.lt;go_cut [12] (fun bs wx=>∃ao,bs= .pointer (some ⟨ao,0,none⟩)∧wc.1.size<=ao∧IntBx wx ao (z)∧Below wc.1.size wc wx)
    case first=>
     go_region_held3 (fun I=>C2 I w2.1.size (.bool s1) (.slice A1 k1 c1)∧C2 I (w2.1.size+1) (.bool s2) (.slice A2 k2 c2))
      (with_reducible exact⟨C1.up.k2,q.up.k2⟩)
      (first
       |(go_at_call 63;(with_reducible refine(ap _ _ a6.up m.up).mono ?_);rintro e4 w4 ⟨v4,rfl,h4,ac⟩;have l4:=ac.size;(try simp at l4);have:=St.mk ac;skip)
       |(go_at_call 63;(with_reducible refine(aq _ _ a7.up o.up).mono ?_);rintro e7 w7 ⟨v7,rfl,h7,Z⟩;have l7:=Z.size;(try simp at l7);have:=St.mk Z;skip)
       |(go_at_call 62;refine(ay _ _ _ h4.up h7.up).mono ?_;rintro e8 w8 ⟨v8,rfl,h8,ab⟩;have l8:=ab.size;(try simp at l8);have:=St.mk ab;have an:=Up.out (a:=wc) (b:=w8);have b9:=an.size;have bw:=h4.up (b:=w8);have bx:=h7.up (b:=w8);(try have⟨_,_,_,_,_⟩:=nG wc w8);(try have⟨_,_,_,_,_⟩:=nG w4 w8);(try have⟨_,_,_,_,_⟩:=nG w7 w8);obtain⟨s8,A8,k8,c8,rfl⟩:=h8.form))
     all_goals (
      go_wp2;go_meet;refine⟨_,rfl,by omega,?_⟩
      first|(with_reducible exact V4 h8 an)|(with_reducible exact V6 (zb ‹_›) h8 an (by omega)))
    case rest=>
     obtain⟨gd,rfl,b6,⟨sT,AT,kT,cT,T,hT⟩,ai⟩:=hcut;have b3:=p.lt;have b5:=R.lt;replace p:=p.be ai;replace R:=R.be ai;replace G:=G.be ai;replace g:=aC g ai;have bp:=fun W v h=>BZ z v W h;clear ai a6 a7 m o C1 q ap aq ay;have b4:w.1.size+1+1<w5.1.size:=aj;go_upto_region 7 with fail;replace hT:=hT.drew;replace G:=G.drew;replace p:=p.drew;replace T:=T.drew;replace R:=R.drew;replace g:=g.drew;replace H:=aa p.k4 (aa T.k2 R.g4);have bq:w.1.size+1+1≠w5.1.size:=by omega
     have br:w.1.size+1+1≠gd:=by omega
     go_region_held3 (fun I=>C4 I w5.1.size (.bool s0) (.slice A0 k0 c0) (.bool t0) (.slice E0 l0 d0)∧C2 I gd (.bool sT) (.slice AT kT cT))
      (first|(with_reducible exact⟨p.k4,T.k2⟩)|(refine⟨?_,?_⟩<;>(repeat (first|with_reducible exact p.k4|with_reducible exact T.k2|with_reducible refine kK bq ?_|with_reducible refine fQ br ?_))))
      (first
       |(go_at_call 64;refine(bp _ _ hT).mono ?_;rintro e6 w6 ⟨v6,rfl,h6,ah⟩;replace p:=p.be ah;replace T:=T.be ah;replace R:=R.be ah;replace H:=aa p.k4 (aa T.k2 R.g4);replace f:=Keep.be ah;replace hT:=hT.ke f;replace G:=G.ke f;(try replace P:=P.ke f);replace g:=aC g ah)
       |(go_at_call 47;refine(bc _ _ _ (Q.be g) G h6).mono ?_;rintro e9 w9 ⟨v9,rfl,P,S⟩;obtain⟨s9,A9,k9,c9,t9,E9,l9,d9,rfl⟩:=P.form;replace p:=p.be S;replace T:=T.be S;replace R:=R.be S;replace H:=aa p.k4 (aa T.k2 R.g4);replace f:=Keep.be S;replace hT:=hT.ke f;replace G:=G.ke f;(try replace h6:=h6.ke f);replace g:=aC g S))
     all_goals (
      go_wp2_with fail;have bm:=p.lt;have bv:=T.lt;have aj:=R.lt;have az:=g.size;obtain⟨W6,V,R,g,f,O⟩:=R.put4 g (by omega) (.bool s9) (.slice A9 k9 c9) (.bool t9) (.slice E9 l9 d9) rfl rfl;replace p:=O p (by omega);replace T:=O T (by omega);replace P:=P.ke f;rw[V];clear V;replace H:=aa p.k4 (aa T.k2 R.k4);exact aM (v:= .agg #[.bool s9,.slice A9 k9 c9,.bool t9,.slice E9 l9 d9]) (by simp[results,results23,go_sem,R.k4]) rfl ⟨_,rfl,P,g⟩;)
def cyA:cF [48]=some 0:=by decide
def dxR:cW 0=[48]:=tL cyA
def cyB(h:a.getLast?=some t):(aU a).getLast?=some ((cF t).getD 0):=by
 unfold aU;rw[List.getLast?_map,h];rfl
def VR(h:¬a.length<=65):vl a=false:=by unfold vl;rw[jA];exact fun h'=>h h'.1
def dxS(h:a.getLast?=some [48]):vl a=false:=by
 unfold vl;rw[jA,cyB h,cyA];exact fun b=>b.2.2 rfl
def dxT(d:b.length<=65)(h:b.getLast?=some t)(g:t≠[48]):vl b=b.all rd:=by
 unfold vl;rw[aqF,iQ,cyB h];refine⟨fun a=>a.2.1,fun a=>⟨d,a,fun e=>g ?_⟩⟩;injection e with e;have f:rd t=true:=List.all_eq_true.1 a t (List.mem_of_getLast? h);obtain⟨q,c⟩:=Option.isSome_iff_exists.1 f;rw[c] at e;have e:q=0:=e;rw[<-tL c,e,dxR]
def dxU:vl []=true:=by decide
def VS(a:List (List UInt8)):(aU a).length=a.length:=cH _
def bx5(w:World)(a:List (List UInt8))(e:Ending)(w':World):Prop:=
 ∃b,e= .returned (.tuple #[b,.bool (vl a)])∧(vl a=true->∃g,b= .slice (some ⟨g,0,none⟩) a.length a.length∧w.1.size<=g∧OwnR w' g (aU a))∧Below w.1.size w w'
def dxV(a:List (List UInt8))(v:Value)(w:World)(x:Glob w)(hv:StrsAt w v a)(r:a.length<=1073741824)(y:a.length<=65->∀l∈a,l.length<=1073741824):
  Calls prog 37 #[v] w (bx5 w a):=by
 obtain⟨A,c,rfl,H⟩:=hv.form;go_enter func37,ntmps37;go_wp2_with fail;refine(VA a.length c A _ r).mono ?_;rintro E B ⟨rfl,rfl⟩;by_cases e:a.length<=65
 ·have f:decide (a.length<=65)=true:=decide_eq_true e;rw[f];clear f;have q:=SZ a (.slice A a.length c) B x hv r (y e);by_cases i:a.length=0
  ·have hn:a=[]:=bX i;have d:Hid (vl a=a.all rd):=by unfold Hid;rw[hn,dxU];rfl
   have u:¬0<a.length:=by omega
   clear hn i;go_wp2_with fail;refine q.mono ?_;rintro s C ⟨z,rfl,n,o⟩;go_wp2;go_ret2;unfold bx5;rw[d.out];exact⟨_,rfl,n,o⟩
  ·obtain⟨m,p⟩:∃m,a.length=m+1:=⟨a.length-1,by omega⟩;have u:0<a.length:=by omega
   have D:(a.length:Int)-1=(m:Int):=by omega
   have J:(0:Int)<=(m:Int):=by omega
   have K:(m:Int)<(a.length:Int):=by omega
   obtain⟨t,k⟩:∃t,a[m]? =some t:=⟨_,aR (by omega)⟩;obtain⟨b,L,rfl,G,F⟩:=hv.at_ k;have j:a.getLast?=some t:=by rw[aqN,p];exact k
   by_cases g:t=[48]
   ·have d:Hid (vl a=false):=dxS (by rw[j,g]);subst g;clear q j k p i;go_wp2;go_ret2;unfold bx5;rw[d.out];exact⟨_,rfl,(fun h=>by cases h),aG _ _⟩
   ·have d:Hid (vl a=a.all rd):=dxT e j g;have I:(t==[48])=false:=beq_eq_false_iff_ne.2 g;clear j k p i g;go_wp2_with fail;refine q.mono ?_;rintro s C ⟨z,rfl,n,o⟩;go_wp2;go_ret2;unfold bx5;rw[d.out];exact⟨_,rfl,n,o⟩
 ·have f:decide (a.length<=65)=false:=decide_eq_false e;have d:Hid (vl a=false):=VR e;rw[f];clear f;go_wp2;go_ret2;unfold bx5;rw[d.out];exact⟨_,rfl,(fun h=>by cases h),aG _ _⟩
def bq7(a:List (List UInt8))(v:Value)(w:World)(b:Glob w)(hv:StrsAt w v a)(f:a.length<=1073741824)(g:a.length<=65->∀l∈a,l.length<=1073741824):
  Calls prog 11 #[v] w fun e w'=>e= .returned (.bool (vl a))∧Below w.1.size w w':=by
 obtain⟨A,c,rfl,i⟩:=hv.form;go_enter func11,ntmps11;go_wp2_with fail;refine(dxV a _ _ b hv f g).mono ?_;rintro h k ⟨j,rfl, -,d⟩;go_wp2;go_ret;exact⟨rfl,d⟩
def KF(a b:List (List UInt8)):List UInt8:=if vl a=true∧vl b=true then cW (Y5 (aU a) (aU b)) else []
def L8(a b:List (List UInt8)):Int:=if vl a=true∧vl b=true then 0 else 1
def bx0(w:World)(T:List UInt8)(E:Int)(e:Ending)(w':World):Prop:=e= .returned (.tuple #[.string ⟨T.toArray⟩,.int .i64 E])∧Below w.1.size w w'
def cxQ{A B:List Rat}{D E:Int}(f:0<D)(g:0<E)(d:∀q∈A,(q.den:Int)∣D)(e:∀q∈B,(q.den:Int)∣E)(b:∀n∈cC A D,nl n.natAbs<=K)(c:∀n∈cC B E,nl n.natAbs<=K)(k:nl D.natAbs<=K)(l:nl E.natAbs<=K)(a:1<=K)(r:A.length+B.length<=128):RL (500*K+60000) (Y5 A B):=by
 rw[<-cy8 f g d e];unfold azW;split
 ·exact iG (by omega)
 ·have s:=oN A D;have t:=oN B E;obtain⟨z,h,m⟩:=cxS (gU b) (gU c) (N:=128) (by rw[dF,dF];omega);rw[h];have i:=byE (CA (bC (cC A D)) D K (by rw[dD];exact az4 b) k a) ((cC B E).length-1);have j:=byE (CA (bC (cC B E)) E K (by rw[dD];exact az4 c) l a) ((cC A D).length-1);have o:((cC B E).length-1)*K<=128*K:=dK _ (by omega);have p:((cC A D).length-1)*K<=128*K:=dK _ (by omega);exact bU (o6 (o6 i j) (cxR (n:=z) (X:=1+128*(K+128)) m (by omega))) (by omega)
def byD(a b:List (List UInt8))(T U:Value)(w:World)(j:Glob w)(J:StrsAt w T a)(L:StrsAt w U b)(K:Nat)(ad:a.length<=63)(ae:b.length<=63)(N:∀l∈a,l.length<=1073741824)(O:∀l∈b,l.length<=1073741824)(C:∀q∈aU a,RL K q)(F:∀q∈aU b,RL K q)(ag:1<=K)(hK:K<=10000):
  Calls prog 7 #[T,U] w (bx0 w (KF a b) (L8 a b)):=by
 obtain⟨A,c,rfl,hc⟩:=J.form;obtain⟨A',c',rfl,ah⟩:=L.form;go_enter func7,ntmps7;go_wp2_with fail;refine(azT a _ _ j J (by omega) (fun _=>N) K (1+65*K) (fun _=>C) aE (by unfold aJ;omega)).mono ?_;rintro e1 w1 ⟨v1,ak,xs,D,rfl,k,i,s,M⟩;obtain⟨A1,c1,rfl,ai⟩:=k.form;obtain⟨s1,V,k1,d1,rfl⟩:=i.form;obtain⟨w2,I,B,X⟩:=bI w1 [.bool s1,.slice V k1 d1] 53;replace k:=k.be B;replace i:=i.be B;have d:=aC M B;have H:=X.k2;go_wp2_with fail;(try rw[I]);clear I;refine(azT b _ _ (j.be d) (L.be d) (by omega) (fun _=>O) K (1+65*K) (fun _=>F) aE (by unfold aJ;omega)).mono ?_;rintro e3 w3 ⟨v3,al,ys,E,rfl,x,o,t,r⟩;obtain⟨A3,c3,rfl,aj⟩:=x.form;obtain⟨s3,Z,k3,d3,rfl⟩:=o.form;replace X:=X.be r;replace k:=k.be r;replace i:=i.be r;replace d:=aC d r;obtain⟨w4,m,n,Y⟩:=bI w3 [.bool s3,.slice Z k3 d3] 53;replace X:=X.be n;replace k:=k.be n;replace x:=x.be n;replace i:=i.be n;replace o:=o.be n;replace d:=aC d n;clear H;have H:=aa X.k2 Y.k2;cases hva:vl a with
 |false=>
  have g:Hid (KF a b=[]∧L8 a b=1):=by unfold Hid KF L8;rw[if_neg (by rw[hva];simp),if_neg (by rw[hva];simp)];exact⟨rfl,rfl⟩
  clear s t hva;go_wp2_with fail;(try rw[m]);(try clear m);go_ret2;unfold bx0;rw[g.out.1,g.out.2];exact⟨rfl,d⟩
 |true=>
  cases hvb:vl b with
  |false=>
   have g:Hid (KF a b=[]∧L8 a b=1):=by unfold Hid KF L8;rw[if_neg (by rw[hvb];simp),if_neg (by rw[hvb];simp)];exact⟨rfl,rfl⟩
   clear s t hva hvb;go_wp2_with fail;(try rw[m]);(try clear m);go_ret2;unfold bx0;rw[g.out.1,g.out.2];exact⟨rfl,d⟩
  |true=>
   obtain⟨rfl,e⟩:=s hva;obtain⟨rfl,f⟩:=t hvb;have g:Hid (KF a b=cW (Y5 (aU a) (aU b))∧L8 a b=0):=⟨if_pos ⟨hva,hvb⟩,if_pos ⟨hva,hvb⟩⟩;have R:=oO e.pos e.dvd (pJ hva).2.2;have S:=oO f.pos f.dvd (pJ hvb).2.2;have z:=sA _ D K _ C e.nl_;have y:=sA _ E K _ F f.nl_;have lx:(cC (aU a) D).length<=63:=by rw[oN,VS];exact ad
   have ly:(cC (aU b) E).length<=63:=by rw[oN,VS];exact ae
   have G:=fun W u v p q j h1 h2 h3 h4=>dx4 (cC (aU a) D) (cC (aU b) E) D E u v p q W j h1 h2 h3 h4 R S e.pos f.pos (K+(1+65*K)) z y (aH e.nl_ (by omega)) (aH f.nl_ (by omega)) (by omega) (by omega) (by omega);have P:=cxQ e.pos f.pos e.dvd f.dvd z y (aH e.nl_ (by omega)) (aH f.nl_ (by omega)) (by omega) (by rw[VS,VS];omega);rw[cy8 e.pos f.pos e.dvd f.dvd] at G;have af:=fun W v j h=>I4 (Y5 (aU a) (aU b)) v W j h (500*(K+(1+65*K))+60000) P (by omega);unfold iF at G;clear s t hva hvb e f R S z y lx ly C F N O P;generalize cC (aU a) D=NA at *;generalize cC (aU b) E=NB at *;generalize Y5 (aU a) (aU b)=Q at *;go_wp2_with fail;(try rw[m]);(try clear m);refine(G _ _ _ _ _ (j.be d) k x i o).mono ?_;rintro e5 w5 ⟨v5,rfl,h5,ab⟩;replace d:=aC d ab;go_wp2_with fail;refine(af _ _ (j.be d) h5).mono ?_;rintro e6 w6 ⟨rfl,ac⟩;go_wp2;go_ret2;unfold bx0;rw[g.out.1,g.out.2];exact⟨rfl,aC d ac⟩
end Go.Proofs.YtpgmdhonnpakeaaGreatDoor
namespace Go.Proofs.YtpgmdhonnpakeaaGreatDoor
def dy6{n:Nat}{u:Vc}{R:List Vc}(h:∀v∈R,v 0=0):zF (n+1) (u :: R)=u 0*zF n (R.map bN):=cy1 n u R h
def cyI{n:Nat}:∀(c:Nat) (L:List Vc),c<=L.length->(∀i (h:i<L.length) j,j<c->L[i] j=if i=j then 1 else 0)->zF (n+c) L=zF n ((L.drop c).map fun v i=>v (i+c))
 |0,L,_,_=>by simp
 |c+1,[],h,_=>by simp at h
 |c+1,u :: R,hl,h=>by
  have a:=h 0 (by simp) 0 (by omega)
  have b:=dy6 (n:=n+c) (u:=u) (R:=R) (fun v hv=>by
   obtain⟨i,hi,rfl⟩:=List.getElem_of_mem hv;exact h (i+1) (by simpa using hi) 0 (by omega))
  simp only[List.getElem_cons_zero,if_pos] at a
  rw[<-Nat.add_assoc,b,a,cyI c (R.map bN) (by simpa using hl) (fun i hi j e=>by
   have d:=h (i+1) (by simpa using hi) (j+1) (by omega);simpa [bN] using d),Rat.one_mul,List.drop_succ_cons,List.map_drop,List.map_drop,List.map_map]
  rfl
def cyJ(c:Nat)(L:List Vc)(b:c=L.length)(h:∀i (h:i<L.length) j,j<c->L[i] j=if i=j then 1 else 0):zF c L=1:=by
 have a:=cyI (n:=0) c L (by omega) h;rw[Nat.zero_add] at a;rw[a];rfl
def Alt.elim{n:Nat}{G:List Vc->Rat}(h:Alt n G)(f:Vc->Rat)(p:Vc):∀(R A:List Vc),p∈A->A.length+R.length=n->G (A++R)=G (A++R.map fun v i=>v i+f v*p i)
 |[],_,_,_=>rfl
 |v :: R,A,hp,a=>by
  have b:=h.addto (A:=A) (B:=R) (Or.inl hp) v (f v) (by simp at a;omega);have c:=h.elim f p R (A++[fun i=>v i+f v*p i]) (by simp[hp]) (by simp at a⊢;omega);rw[<-b,List.map_cons];simpa using c
end Go.Proofs.YtpgmdhonnpakeaaGreatDoor
namespace Go.Proofs.YtpgmdhonnpakeaaGreatDoor
open Go.RowKit Sos
section
variable {P:Program}{ops:Array Oper}{rest:List Oper}{o:Oper}{a:Act}{Q:Exit->Act->World->Prop}{w:World}
end
def uG(xs ys:List Int)(y:Int):List Int:=(List.range (max xs.length ys.length)).map (fun i=>cf xs i+cf ys i*y)
end Go.Proofs.YtpgmdhonnpakeaaGreatDoor
namespace Go.Proofs.YtpgmdhonnpakeaaGreatDoor
open Sos
end Go.Proofs.YtpgmdhonnpakeaaGreatDoor
namespace Go.Proofs.YtpgmdhonnpakeaaGreatDoor
open Go.RowKit Sos
def K1(a b q:List Int)(m:Int):List Int:=aW aV (uG (aW aV (a.map (·*m))) (sF q b) (-1))
inductive Ext(B:Nat):List Int->List Int->List Int->List Int->List Int->List Int->Prop
 |done (a s0 s1:List Int):Ext B a [] s0 s1 a s0
 |step {a b s0 s1 q r g s:List Int} {m c:Int} (hb:b≠[]) (h:PQRes a b B m q r) (hc:c≠0) (hr:∀n∈r,c∣n) (hn:∀n∈K1 s0 s1 q m,c∣n) (t:Ext B b (jX r c) s1 (jX (K1 s0 s1 q m) c) g s):Ext B a b s0 s1 g s
end Go.Proofs.YtpgmdhonnpakeaaGreatDoor
namespace Go.Proofs.YtpgmdhonnpakeaaGreatDoor
open Sos
section
variable {R:Type}[Add R][Mul R][Sub R][OfNat R 0][CR R]
def XW(p q:Nat->R){n i:Nat}(h:i<=n):conv p q i=bW (fun k=>p k*(if k<=i then q (i-k) else 0)) (n+1):=by
 obtain⟨d,rfl⟩:∃d,n=i+d:=⟨n-i,by omega⟩;rw[show i+d+1=i+1+d by omega,AA,qC (n:=d) (fun k _=>by rw[if_neg (by omega),CR.mul_zero]),CR.add_zero];exact mH (fun k a=>by rw[if_pos (by omega)])
def dy7(p q r:Nat->R)(i:Nat):conv (conv p q) r i=conv p (conv q r) i:=by
 have b:conv (conv p q) r i=bW (fun k=>bW (fun j=>p j*((if j<=k then q (k-j) else 0)*r (i-k))) (i+1)) (i+1):=by
  refine mH (fun k a=> ?_);rw[XW p q (show k<=i by omega),CR.mul_comm,<-zZ];refine mH (fun j _=> ?_);rw[CR.mul_comm (r (i-k)),CR.mul_assoc]
 rw[b,O5];refine mH (fun j l=> ?_);rw[zZ];congr 1;obtain⟨d,h⟩:∃d,i+1=j+d:=⟨i+1-j,by omega⟩;rw[h,AA,qC (n:=j) (fun k a=>by rw[if_neg (by omega),rE]),zY];have c:d=i-j+1:=by omega
 rw[c];refine mH (fun k a=> ?_);rw[if_pos (by omega),show j+k-j=k by omega,show i-(j+k)=i-j-k by omega]
end
def Dv(f:Nat->Int)(d:List Int):Prop:=∃(k:Int) (u:List Int),k≠0∧∀i,k*f i=conv (cf u) (cf d) i
section
variable {f g:Nat->Int}{d e:List Int}
def Dv.congr(h:Dv f d)(a:∀i,g i=f i):Dv g d:=by
 obtain⟨k,u,b,c⟩:=h;exact⟨k,u,b,fun i=>by rw[a,c]⟩
def Dv.zero(d:List Int):Dv (fun _=>0) d:=⟨1,[],by decide,fun i=>by rw[lK (fun k=>eR k)];simp⟩
def Dv.cancel{c:Int}(a:c≠0)(h:Dv (fun i=>c*f i) d):Dv f d:=by
 obtain⟨k,u,b,j⟩:=h;exact⟨k*c,u,byU b a,fun i=>by rw[Int.mul_assoc];exact j i⟩
def Dv.none{r y:List Int}(h:Dv (cf r) y)(j:r.length<y.length)(o:aN y):∀i,cf r i=0:=by
 obtain⟨k,u,m,l⟩:=h;have p:y≠[]:=fun e=>by rw[e] at j;simp at j
 have n:=YJ (d:=cf u) (L:=u.length) p o (fun i c=>bV c) (fun i c=>by rw[<-l,bV (by omega)];simp);intro i;have b:=l i;rw[lK n] at b;rcases Int.mul_eq_zero.1 b with a|a
 ·exact absurd a m
 ·exact a
end
structure ExtI(x y:List Int)(D:Int)(a b s0 s1:List Int):Prop where
 c0:Dv (fun i=>D*cf a i+ -1*conv (cf s0) (cf x) i) y
 c1:Dv (fun i=>D*cf b i+ -1*conv (cf s1) (cf x) i) y
 dv:∀d,Dv (cf a) d->Dv (cf b) d->Dv (cf x) d∧Dv (cf y) d
 ne:a≠[]∨b≠[]
 ta:aN a
 tb:aN b
 t0:aN s0
 t1:aN s1
 len:(s1=[]∧a=x∧b=y∧s0.length<=1)∨(s1.length+a.length<=y.length+1∧s0.length+a.length<=y.length∧b.length<a.length)
structure ExtR(x y:List Int)(D:Int)(g s:List Int):Prop where
 c:Dv (fun i=>D*cf g i+ -1*conv (cf s) (cf x) i) y
 dx:Dv (cf x) g
 dy:Dv (cf y) g
 ne:g≠[]
 tg:aN g
 ts:aN s
 len:s.length+g.length<=y.length
end Go.Proofs.YtpgmdhonnpakeaaGreatDoor
namespace Go.Proofs.YtpgmdhonnpakeaaGreatDoor
variable{k m n t:Nat}
def Alt.dep{n:Nat}{G:List Vc->Rat}(h:Alt n G):∀(k o:Nat) (P L:List Vc),k<L.length->P.length+L.length=n->(∀v∈L,∀i,v i≠0->o<=i∧i<o+k)->G (P++L)=0
 |_,_,_,[],hk,_,_=>by simp at hk
 |0,o,P,u :: L,_,hl,g=>by
  have f:=h.mul P 0 u L (by simp at hl;omega)
  rw[show(fun i=>0*u i)=u from funext fun i=>by
   by_cases e:u i=0
   ·rw[e];grind
   ·have:=g u (by simp) i e;omega] at f
  rw[f];grind
 |k+1,o,P,u :: L,hk,hl,g=>by
  by_cases hv:∃v∈u :: L,v o≠0
  ·obtain⟨p,t,C⟩:=hv;obtain⟨A,B,e⟩:=List.append_of_mem t;have E:(u :: L).length=A.length+B.length+1:=by rw[e];simp;omega
   have f:=h.front p A B P (by omega);have s:=h.elim (fun v=> -(v o/p o)) p (A++B) (P++[p]) (by simp) (by simp;omega)
   have y:=h.dep k (o+1) (P++[p]) ((A++B).map fun v i=>v i+ -(v o/p o)*p i) (by simp;omega) (by simp;omega) (fun v hv i hi=>by
    obtain⟨w,j,rfl⟩:=List.mem_map.1 hv;have D:w∈u :: L:=by rw[e];rcases List.mem_append.1 j with j|j<;>simp[j]
    have l:w i+ -(w o/p o)*p i≠0:=hi;by_cases z:i=o
    ·subst z;exact absurd (by rw[Rat.div_def];have:=Rat.mul_inv_cancel _ C;grind) l
    ·by_cases q:w i=0
     ·by_cases r:p i=0
      ·rw[q,r] at l;exact absurd (by grind) l
      ·have:=g p t i r;omega
     ·have:=g w D i q;omega)
   rw[y] at s;rw[e,f,show P++p :: (A++B)=P++[p]++(A++B) by simp,s,Rat.mul_zero]
  ·have f:=h.dep k (o+1) (P++[u]) L (by simp at hk;omega) (by simp at hl⊢;omega) (fun v x i hi=>by
    have:=g v (by simp[x]) i hi;have:i≠o:=fun e=>hv ⟨v,by simp[x],e ▸ hi⟩;omega)
   simpa using f
def pD(i:Nat):Vc:=fun j=>if i=j then 1 else 0
def t6:Nat->Nat->List Vc
 |0,_=>[]
 |k+1,o=>pD o :: t6 k (o+1)
def byK:∀k o,(t6 k o).length=k
 |0,_=>rfl
 |k+1,o=>by rw[t6,List.length_cons,byK k]
def cyC:∀(k o i:Nat) (h:i<(t6 k o).length),(t6 k o)[i]=pD (o+i)
 |0,_,_,h=>by simp[t6] at h
 |k+1,o,0,_=>rfl
 |k+1,o,i+1,h=>by
  have:=cyC k (o+1) i (by simpa [t6] using h);simp only[t6,List.getElem_cons_succ,this];congr 1;omega
def Sp.of_uns:∀(k o:Nat) (v:Vc),(∀i,v i≠0->o<=i∧i<o+k)->Sp (t6 k o) v
 |0,o,v,h=>by
  rw[show v=fun _=>0 from funext fun i=>by
   by_cases e:v i=0
   ·exact e
   ·have:=h i e;omega]
  exact .zero
 |k+1,o,v,h=>by
  have f:=(Sp.of_uns k (o+1) (fun i=>if i=o then 0 else v i) (fun i hi=>by
   by_cases e:i=o
   ·simp[e] at hi
   ·simp only[if_neg e] at hi;have:=h i hi;omega)).mono (M:=t6 (k+1) o) (fun w j=>List.mem_cons_of_mem _ j)
  have g:=Sp.add (v o) (pD o) _ (show pD o∈t6 (k+1) o from List.mem_cons_self) f
  rw[show v=fun i=>(if i=o then 0 else v i)+v o*pD o i from funext fun i=>by
   simp only[pD];by_cases e:i=o
   ·subst e;simp;grind
   ·rw[if_neg e,if_neg (fun x=>e x.symm)];grind]
  exact g
def Alt.kap:∀(k o:Nat) (L:List Vc),L.length=k->(∀v∈L,∀i,v i≠0->o<=i∧i<o+k)->∃κ:Rat,∀(n:Nat) (G:List Vc->Rat) (P:List Vc),Alt n G->P.length+k=n->G (P++L)=κ*G (P++t6 k o)
 |0,o,L,hl,_=>⟨1,fun n G P _ _=>by rw[List.length_eq_zero_iff.1 hl,t6,Rat.one_mul]⟩
 |k+1,o,L,hl,g=>by
  by_cases hv:∃v∈L,v o≠0
  ·obtain⟨p,l,H⟩:=hv;obtain⟨A,B,rfl⟩:=List.append_of_mem l;have J:A.length+B.length=k:=by simp at hl;omega
   obtain⟨κ,u⟩:=Alt.kap k (o+1) ((A++B).map fun v i=>v i+ -(v o/p o)*p i) (by simp;omega) (fun v hv i hi=>by
    obtain⟨w,f,rfl⟩:=List.mem_map.1 hv;have I:w∈A++p :: B:=by rcases List.mem_append.1 f with f|f<;>simp[f]
    have j:w i+ -(w o/p o)*p i≠0:=hi;by_cases F:i=o
    ·subst F;exact absurd (by rw[Rat.div_def];have:=Rat.mul_inv_cancel _ H;grind) j
    ·by_cases q:w i=0
     ·by_cases r:p i=0
      ·rw[q,r] at j;exact absurd (by grind) j
      ·have:=g p l i r;omega
     ·have:=g w I i q;omega)
   refine⟨(-1)^A.length*(κ*p o),fun n G P h hn=> ?_⟩;have y:=h.front p A B P (by omega);have z:=h.elim (fun v=> -(v o/p o)) p (A++B) (P++[p]) (by simp) (by simp;omega);have C:=u n G (P++[p]) h (by simp;omega)
   have D:=Sp.of_uns k (o+1) (fun i=>if i=o then 0 else p i) (fun i hi=>by
    by_cases e:i=o
    ·simp[e] at hi
    ·simp only[if_neg e] at hi;have:=g p l i hi;omega)
   have s:=h.comb (A:=P) (B:=t6 k (o+1)) (by rw[byK];omega) (D.mono (fun w f=>by simp[f])) (fun i=>p o*pD o i);have E:=h.mul P (p o) (pD o) (t6 k (o+1)) (by rw[byK];omega)
   rw[show(fun i=>p o*pD o i+(if i=o then 0 else p i))=p from funext fun i=>by
    simp only[pD];by_cases e:i=o
    ·subst e;simp;grind
    ·rw[if_neg e,if_neg (fun x=>e x.symm)];grind] at s
   rw[y,show P++p :: (A++B)=P++[p]++(A++B) by simp,z,C,show P++[p]++t6 k (o+1)=P++p :: t6 k (o+1) by simp,s,E];show _=_*G (P++pD o :: t6 k (o+1))
   grind
  ·refine⟨0,fun n G P h hn=> ?_⟩
   rw[h.dep k (o+1) P L (by omega) (by omega) (fun v t i hi=>by
    have:=g v t i hi;have:i≠o:=fun e=>hv ⟨v,t,e ▸ hi⟩;omega),Rat.zero_mul]
def Alt.law{G:List Vc->Rat}(h:Alt n G){L:List Vc}(o:L.length=n)(p:∀v∈L,∀i,v i≠0->i<n):G L=zF n L*G (t6 n 0):=by
 obtain⟨κ,e⟩:=Alt.kap n 0 L o (fun v hv i l=>⟨Nat.zero_le _,by have:=p v hv i l;omega⟩);have f:=e n G [] h (by simp);have g:=e n (zF n) [] (bq4 n) (by simp);rw[List.nil_append,List.nil_append] at f g;rw[f,g,cyJ n (t6 n 0) (byK n 0).symm (fun i l j q=>by rw[cyC];simp[pD]),Rat.mul_one]
def dxW{a b:Vc}(hn:1<=n)(ha:∀d,n<d->a d=0)(r w:Nat->Vc)(f:∀i,i<n->(∀d,n<=d->r i d=0)∧Sp ((dn m).map (b6 · a)) (w i)∧∀d,b6 i b d=r i d+w i d):eZ m n 0 k a b=a n^m*Dt n (n-1) k ((dn n).map r):=by
 have l:=bx4 (n+m) (n+m+0-1) k;have g:=l.rows 1 ((dn m).map (b6 · a)) r (fun i=>b6 i b) (dn n) [] (by simp) (fun i e=>⟨w i,(f i (tH.1 e)).2.1,funext fun d=>by rw[Rat.one_mul];exact(f i (tH.1 e)).2.2 d⟩);have h:=l.block ((dn n).map r) [] ((dn m).map (b6 · a)) [] (by simp)
 have j:=byG (b:=a) (m:=n) (y:=0) (N:=n) (M:=n-1) (k:=k) hn ha (by omega) ((dn n).map r) (fun v hv d q=>by
  obtain⟨i,e,rfl⟩:=List.mem_map.1 hv;exact(f i (tH.1 e)).1 d (by omega)) m
 have o:∀i:Nat,(1:Rat)^i=1:=fun i=>by induction i with|zero=>simp|succ i p=>rw[Rat.pow_succ,p];exact Rat.mul_one 1
 simp only[List.nil_append,List.append_nil,dn_length,List.length_map,o,Rat.one_mul,Nat.zero_add] at g h j;rw[azF,eZ,g,h,show n+m+0-1=n-1+m by omega,j,show(dn 0).map (b6 · a)=[] from rfl,List.nil_append,Nat.mul_comm m n,<-Rat.mul_assoc,azG,Rat.one_mul]
def Alt.two{G F:List Vc->Rat}(e:Alt n G)(hF:Alt n F){L U:List Vc}(f:L.length=n)(g:∀v∈L,∀i,v i≠0->i<n)(j:U.length=n)(h:∀v∈U,∀i,v i≠0->i<n):G L*F U=F L*G U:=by
 rw[e.law f g,hF.law f g,e.law j h,hF.law j h];grind
def cyD:∀(k i:Nat) (h:i<(dn k).length),(dn k)[i]=k-1-i
 |0,_,h=>by simp[dn] at h
 |k+1,0,_=>rfl
 |k+1,i+1,h=>by
  have:=cyD k i (by simpa [dn] using h);simp only[dn,List.getElem_cons_succ,this];omega
def dxX(n k:Nat)(f:k=0):Dt n (n-1) k ((dn n).map pD)=1:=by
 subst f;refine cyJ n _ (by simp) fun i e j h=> ?_;have g:i<n:=by simpa using e
 rw[List.getElem_map,List.getElem_map,cyD];show(if n-1-i=(if j+1<n then n-1-j else 0) then (1:Rat) else 0)=if i=j then 1 else 0
 have:(n-1-i=if j+1<n then n-1-j else 0)↔i=j:=by split<;>omega
 simp only[this]
def dxY(f:Vc->Vc)(l:∀u v,f (fun i=>u i+v i)=fun i=>f u i+f v i)(o:∀(c:Rat) u,f (fun i=>c*u i)=fun i=>c*f u i){L:List Vc}(r:L.length=n)(s:∀v∈L,∀i,v i≠0->i<n):Dt n (n-1) 0 (L.map f)=Dt n (n-1) 0 L*Dt n (n-1) 0 ((dn n).map fun i=>f (pD i)):=by
 have g:=bx4 n (n-1) 0
 have p:Alt n (fun L=>Dt n (n-1) 0 (L.map f)):=
  ⟨fun A u v B h=>by simpa [l] using g.add (A.map f) (f u) (f v) (B.map f) (by simpa using h),
   fun A c u B h=>by simpa [o] using g.mul (A.map f) c (f u) (B.map f) (by simpa using h),
   fun A u B h=>by simpa using g.eq_ (A.map f) (f u) (B.map f) (by simpa using h)⟩
 have j:=p.two g r s (U:=(dn n).map pD) (by simp) (fun v hv i q=>by
  obtain⟨t,w,rfl⟩:=List.mem_map.1 hv;have:=tH.1 w;by_cases e:t=i
  ·omega
  ·exact absurd (if_neg e) q)
 rw[dxX n 0 rfl,Rat.mul_one] at j;simp only[j,List.map_map];rfl
def o7(a:Vc)(n:Nat):Nat->Vc->Vc
 |0,p=>p
 |t+1,p=>o7 a n t (fun d=>p d-p (n+t)/a n*b6 t a d)
def byL{a:Vc}{n:Nat}:∀(t:Nat) (u v:Vc),o7 a n t (fun i=>u i+v i)=fun i=>o7 a n t u i+o7 a n t v i
 |0,_,_=>rfl
 |t+1,u,v=>by
  show o7 a n t _=fun i=>o7 a n t _ i+o7 a n t _ i
  rw[<-byL t];congr 1;funext d;rw[Rat.div_def,Rat.div_def,Rat.div_def];grind
def byM{a:Vc}{n:Nat}:∀(t:Nat) (c:Rat) (u:Vc),o7 a n t (fun i=>c*u i)=fun i=>c*o7 a n t u i
 |0,_,_=>rfl
 |t+1,c,u=>by
  show o7 a n t _=fun i=>c*o7 a n t _ i
  rw[<-byM t];congr 1;funext d;rw[Rat.div_def,Rat.div_def];grind
def byN{a:Vc}{n:Nat}:∀(t:Nat) (p:Vc),∃w,Sp ((dn t).map (b6 · a)) w∧∀d,p d=o7 a n t p d+w d
 |0,p=>⟨_,.zero,fun d=>(Rat.add_zero _).symm⟩
 |t+1,p=>by
  obtain⟨w,f,e⟩:=byN (a:=a) (n:=n) t (fun d=>p d-p (n+t)/a n*b6 t a d);refine⟨_,.add (p (n+t)/a n) (b6 t a) w (by simp[dn]) (f.mono fun v hv=>by simp only[dn,List.map_cons,List.mem_cons];exact Or.inr hv),fun d=> ?_⟩;have:=e d;show p d=o7 a n t _ d+_
  grind
def byO{a:Vc}{n:Nat}(ha:∀d,n<d->a d=0)(h0:a n≠0):∀(t:Nat) (p:Vc),(∀d,n+t<=d->p d=0)->∀d,n<=d->o7 a n t p d=0
 |0,p,h,d,f=>h d f
 |t+1,p,h,d,f=>byO ha h0 t _ (fun e i=>by
  show p e-p (n+t)/a n*b6 t a e=0
  simp only[b6];rw[if_pos (by omega)];by_cases g:e=n+t
  ·subst g;rw[show n+t-t=n by omega,Rat.div_mul_cancel h0];grind
  ·rw[h e (by omega),ha (e-t) (by omega)];grind) d f
def cyE{a:Vc}(t:Nat):o7 a n t (fun _=>0)=fun _=>0:=by
 have:=byM (a:=a) (n:=n) t 0 (fun _=>0);simpa using this
def cyF{a:Vc}{n:Nat}(ha:∀d,n<d->a d=0)(h0:a n≠0):∀(t s:Nat),s<t->o7 a n t (b6 s a)=fun _=>0
 |0,_,h=>by omega
 |t+1,s,h=>by
  show o7 a n t _=_
  by_cases e:s=t
  ·subst e
   rw[show(fun d=>b6 s a d-b6 s a (n+s)/a n*b6 s a d)=fun _=>0 from funext fun d=>by
    have:b6 s a (n+s)/a n=1:=by
     simp only[b6];rw[if_pos (by omega),show n+s-s=n by omega,Rat.div_def,Rat.mul_inv_cancel _ h0]
    rw[this];grind]
   exact cyE s
  ·rw[show(fun d=>b6 s a d-b6 s a (n+t)/a n*b6 t a d)=b6 s a from funext fun d=>by
    have:b6 s a (n+t)=0:=by
     simp only[b6];rw[if_pos (by omega)];exact ha _ (by omega)
    rw[this,Rat.div_def];grind]
   exact cyF ha h0 t s (by omega)
def dxZ{a w:Vc}(ha:∀d,n<d->a d=0)(h0:a n≠0)(h:Sp ((dn t).map (b6 · a)) w):o7 a n t w=fun _=>0:=by
 induction h with
 |zero=>exact cyE t
 |add c w u f _ g=>
  obtain⟨s,e,rfl⟩:=List.mem_map.1 f;rw[byL,g,byM,cyF ha h0 t s (tH.1 e)];funext d;grind
def Sp.plus{L:List Vc}{u v:Vc}(e:Sp L u)(hv:Sp L v):Sp L (fun i=>u i+v i):=by
 induction hv with
 |zero=>rw[show(fun i=>u i+0)=u from funext fun i=>Rat.add_zero _];exact e
 |add c w v f _ g=>
  rw[show(fun i=>u i+(v i+c*w i))=fun i=>(u i+v i)+c*w i from funext fun i=>by grind];exact .add c w _ f g
def Sp.times{L:List Vc}{u:Vc}(x:Rat)(e:Sp L u):Sp L (fun i=>x*u i):=by
 induction e with
 |zero=>simpa using Sp.zero
 |add c w v f _ g=>
  rw[show(fun i=>x*(v i+c*w i))=fun i=>x*v i+(x*c)*w i from funext fun i=>by grind];exact .add _ w _ f g
def dy0(Q:Vc)(i:Nat):conv Q (pD i)=b6 i Q:=funext fun d=>by
 rw[sO,gL (p':=fun k=>if k=i then (1:Rat) else 0) (fun k=>by simp only[pD,eq_comm]) (fun _=>rfl),qE,b6];split<;>grind
def bq8(Q u v:Vc):conv Q (fun i=>u i+v i)=fun i=>conv Q u i+conv Q v i:=funext fun i=>czK _ _ _ i
def cyG(Q:Vc)(c:Rat)(u:Vc):conv Q (fun i=>c*u i)=fun i=>c*conv Q u i:=funext fun i=>rF _ _ _ i
def dy1{a w Q:Vc}(e:∀k,m<k->Q k=0)(h:Sp ((dn t).map (b6 · a)) w):Sp ((dn (t+m)).map (b6 · a)) (conv Q w):=by
 induction h with
 |zero=>rw[show conv Q (fun _=>(0:Rat))=fun _=>0 from funext fun i=>by rw[sO];exact lK (fun _=>rfl) i];exact .zero
 |add c v u hv _ j=>
  obtain⟨s,g,rfl⟩:=List.mem_map.1 hv;have o:=tH.1 g;rw[bq8,cyG];refine Sp.plus j (Sp.times c ((bq1 Q (b6 s a) (m+1) (fun k l=>e k (by omega))).mono fun v hv=> ?_));obtain⟨i,f,rfl⟩:=List.mem_map.1 hv;have:=tH.1 f;exact List.mem_map.2 ⟨s+i,tH.2 (by omega),(cy2 i s a).symm⟩
def cyH{a:Vc}{n:Nat}(t:Nat)(p:Vc)(h:∀d,n+t<=d->p d=0):∀s,o7 a n (t+s) p=o7 a n t p
 |0=>rfl
 |s+1=>by
  show o7 a n (t+s) (fun d=>p d-p (n+(t+s))/a n*b6 (t+s) a d)=_
  rw[show(fun d=>p d-p (n+(t+s))/a n*b6 (t+s) a d)=p from funext fun d=>by rw[h (n+(t+s)) (by omega),Rat.div_def];grind];exact cyH t p h s
def zQ(a b:Vc)(n m:Nat)(v:Vc):Vc:=o7 a n m (conv b v)
def bq9{b v:Vc}(hb:∀d,m<d->b d=0)(hv:∀d,n<=d->v d=0):∀d,n+m<=d->conv b v d=0:=fun d e=>rG (m:=m+1) (n:=n) (fun i hi=>hb i (by omega)) hv (by omega)
def dy2(a b:Vc)(n m:Nat)(u v:Vc):zQ a b n m (fun i=>u i+v i)=fun i=>zQ a b n m u i+zQ a b n m v i:=by
 unfold zQ;rw[bq8,byL]
def dy3(a b:Vc)(n m:Nat)(c:Rat)(u:Vc):zQ a b n m (fun i=>c*u i)=fun i=>c*zQ a b n m u i:=by
 unfold zQ;rw[cyG,byM]
section
variable {a b c:Vc}{n m k:Nat}(ha:∀d,n<d->a d=0)(h0:a n≠0)(hb:∀d,m<d->b d=0)(hc:∀d,k<d->c d=0)
include ha h0 hb hc
def dy4(v:Vc)(hv:∀d,n<=d->v d=0):zQ a (conv b c) n (m+k) v=zQ a b n m (zQ a c n k v):=by
 unfold zQ;obtain⟨w,h,e⟩:=byN (a:=a) (n:=n) k (conv c v);have g:=byO ha h0 k (conv c v) (bq9 hc hv);have f:conv (conv b c) v=fun i=>conv b (o7 a n k (conv c v)) i+conv b w i:=by
  rw[<-bq8];rw[show(fun i=>o7 a n k (conv c v) i+w i)=conv c v from(funext e).symm];exact funext fun i=>dy7 b c v i
 rw[f,byL,dxZ ha h0 ((dy1 hb h).mono fun v hv=>by rwa [Nat.add_comm k m] at hv),cyH m (conv b (o7 a n k (conv c v))) (bq9 hb g) k];exact funext fun i=>Rat.add_zero _
end
def bx6(a b:Vc)(n m:Nat):Rat:=Dt n (n-1) 0 ((dn n).map fun i=>zQ a b n m (pD i))
def bqA{a b:Vc}(hn:1<=n)(ha:∀d,n<d->a d=0)(h0:a n≠0)(hb:∀d,m<d->b d=0):eZ m n 0 0 a b=a n^m*bx6 a b n m:=by
 refine dxW hn ha (fun i=>zQ a b n m (pD i)) (fun i=>Classical.choose (byN (a:=a) (n:=n) m (b6 i b))) fun i g=> ?_;have e:=Classical.choose_spec (byN (a:=a) (n:=n) m (b6 i b));unfold zQ;rw[dy0];refine⟨byO ha h0 m _ fun d f=> ?_,e.1,e.2⟩;rw[b6];split
 ·exact hb _ (by omega)
 ·rfl
def dy5{a b c:Vc}(ha:∀d,n<d->a d=0)(h0:a n≠0)(hb:∀d,m<d->b d=0)(hc:∀d,k<d->c d=0):eZ (m+k) n 0 0 a (conv b c)=eZ m n 0 0 a b*eZ k n 0 0 a c:=by
 by_cases hn:n=0
 ·subst hn;have f:∀(x:Nat) (p:Vc),eZ x 0 0 0 a p=a 0^x:=fun x p=>by
   by_cases s:x=0
   ·subst s;rw[Rat.pow_zero];rfl
   ·rw[azF,aqC (fun d g=>ha d g) (by omega),<-Rat.pow_succ,show x-1+1=x by omega,Nat.mul_zero,Rat.pow_zero,Rat.one_mul]
  rw[f,f,f,azV]
 ·have q:∀d,m+k<d->conv b c d=0:=fun d g=>rG (m:=m+1) (n:=k+1) (fun i e=>hb i (by omega)) (fun i e=>hc i (by omega)) (by omega)
  have h:∀i,i<n->∀d,n<=d->pD i d=0:=fun i e d g=>if_neg (by omega)
  have l:=dxY (n:=n) (zQ a b n m) (dy2 a b n m) (dy3 a b n m) (L:=(dn n).map fun i=>zQ a c n k (pD i)) (by simp) (fun v hv i e=>by
   obtain⟨j,r,rfl⟩:=List.mem_map.1 hv;exact Decidable.byContradiction fun t=>e (byO ha h0 k _ (bq9 hc (h j (tH.1 r))) i (by omega)))
  rw[bqA (by omega) ha h0 q,bqA (by omega) ha h0 hb,bqA (by omega) ha h0 hc,azV];have o:bx6 a (conv b c) n (m+k)=bx6 a c n k*bx6 a b n m:=by
   unfold bx6;rw[<-l,List.map_map];congr 1;refine List.map_congr_left fun i e=> ?_;exact dy4 ha h0 hb hc _ (h i (tH.1 e))
  rw[o];grind
end Go.Proofs.YtpgmdhonnpakeaaGreatDoor
namespace Go.Proofs.YtpgmdhonnpakeaaGreatDoor
open Go.RowKit Sos Tryz
def VW(w:World)(l:List UInt8)(e:Ending)(w':World):Prop:=∃v z,e= .returned (.tuple #[v,.bool (decide (l≠[]∧l.all bO=true))])∧NI w' v z∧(l.all bO=true->z=(aO l:Int))∧Below w.1.size w w'
def Mg.one{w:World}{b f:Nat}(h:Bx w b [.int .u32 (f:Int)] 143)(e:f≠0)(i:f<4294967296):Mg w (.slice (some ⟨b,0,none⟩) 1 1) f:=
 ⟨[f],Ds.own (es:=[]) h (fun d g=>by rw[List.mem_singleton.1 g];exact i) 1 aE,fun a c=>by simp at c;rw[<-c];exact e,by simp[nv]⟩
def JI(l:List UInt8)(w:World)(hl:l.length<=1073741824):Calls prog 104 #[.string ⟨l.toArray⟩] w (VW w l):=by
 have az:(⟨l.toArray⟩:ByteArray).size=l.length:=by simp[ByteArray.size]
 obtain⟨W,Y,a,R⟩:=bI w [.bool false,.slice none 0 0] 38;have r:=R.g2;go_enter func104,ntmps104;go_wp2_with fail;(try rw[Y]);clear Y;go_loopg [4,5] l.length (fun g s4 O wr=>∃(m i:Nat),Hid (i+g=l.length)∧O= .int .i64 (i:Int)∧Mg wr s4 m∧Hid (m=aO (l.take i))∧Hid ((l.take i).all bO=true)∧Bx wr w.1.size [.bool false,.slice none 0 0] 38∧Below w.1.size w wr)
 case atStart=>exact⟨0,0,by unfold Hid;omega,rfl,Mg.zero _ _ _,rfl,rfl,R,a⟩
 case round=>
  clear R a r;obtain⟨m,i,J,rfl,F,q,s,R,a⟩:=hrel;generalize wr=wx at *;have a3:(0:Int)<=(i:Int):=by omega
  have r:=R.g2;cases gk with
  |zero=>
   have hi:i=l.length:=J.out;subst hi;have av:¬(l.length:Int)<(l.length:Int):=by omega
   rw[F9] at q s;obtain⟨A,k,c,rfl⟩:=F.form;have al:nl m<=1099511627776:=by rw[q.out];exact aH (oJ (xP s.out)) (by omega)
   go_wp2_with fail;refine(r9 false _ m (m:Int) _ F al rfl).mono ?_;rintro e3 w3 ⟨v3,rfl,n,u⟩;obtain⟨H,y,G,C,rfl⟩:=n.form;replace R:=R.be u;replace r:=R.g2;replace a:=aC a u;have hq:decide (l≠[]∧l.all bO=true)=decide (l≠[]):=by simp[s.out]
   have B:=aB hq;clear hq;by_cases p:l=[]
   ·have q0:(l != [])=false:=by simp[p]
    have t:Hid (decide (l≠[]∧l.all bO=true)=false):=by unfold Hid;rw[B.out];simp[p]
    have I:=aB p;clear p B;go_wp2_with fail;obtain⟨X,o,R,a,E,Z⟩:=R.mut2 a (by omega) (.bool H) (.slice y G C) rfl rfl;replace n:=n.ke E;rw[o];clear o;replace r:=R.k2;exact aM (v:= .tuple #[.agg #[.bool H,.slice y G C],.bool false]) (by simp[results,results104,go_sem,R.k2];exact I.out) rfl ⟨_,_,by rw[t.out],n,fun _=>by rw[q.out],a⟩
   ·have q0:(l != [])=true:=by simp[p]
    have t:Hid (decide (l≠[]∧l.all bO=true)=true):=by unfold Hid;rw[B.out];simp[p]
    have I:=aB p;clear p B;go_wp2_with fail;obtain⟨X,o,R,a,E,Z⟩:=R.mut2 a (by omega) (.bool H) (.slice y G C) rfl rfl;replace n:=n.ke E;rw[o];clear o;replace r:=R.k2;exact aM (v:= .tuple #[.agg #[.bool H,.slice y G C],.bool true]) (by simp[results,results104,go_sem,R.k2];exact I.out) rfl ⟨_,_,by rw[t.out],n,fun _=>by rw[q.out],a⟩
  |succ g=>
   have av:i<l.length:=by have:=J.out;omega
   go_wp2_with fail;go_loopg [5,6,7,8] 9 (fun b O s6 s7 s8 wy=>∃(v j:Nat),Hid (j+b=9)∧O= .int .i64 ((i+j:Nat):Int)∧i+j<=l.length∧s6= .int .u32 (v:Int)∧s7= .int .u32 ((10^j:Nat):Int)∧s8= .int .i64 (j:Int)∧Hid (v=aO ((l.drop i).take j))∧Hid (((l.drop i).take j).all bO=true)∧v<10^j∧wx=wy)
   case atStart=>exact⟨0,0,by unfold Hid;omega,rfl,by omega,rfl,rfl,rfl,rfl,rfl,by decide,rfl⟩
   case round=>
    obtain⟨v,j,z,rfl,a4,rfl,rfl,rfl,U,P,hv,rfl⟩:=hrel;have a5:(0:Int)<=(j:Int):=by omega
    by_cases aj:j<9∧i+j<l.length
    ·obtain⟨a7,ai⟩:=aj;have r1:(j:Int)<9:=by omega
     have r2:((i+j:Nat):Int)<(l.length:Int):=by omega
     obtain⟨e,a1,L⟩:∃e,({ data:=l.toArray }:ByteArray)[i+j]'(by rw[az];exact ai)=e∧l[i+j]? =some e:=⟨_,rfl,by rw[aR ai];rfl⟩;have ag:(l.drop i)[j]? =some e:=by rw[T8];exact L
     have ao:(l.drop i).take (j+1)=(l.drop i).take j++[e]:=by rw[kR,ag];rfl
     have aq:=aB L;have S:=aB ao;clear L ag ao;have c0:e.toNat<256:=e.toNat_lt;by_cases x:48<=e.toNat∧e.toNat<=57
     ·obtain⟨d1,d2⟩:=x;have s1:decide ((e.toNat:Int)<48)=false:=by rw[jA];omega
      have s2:decide ((57:Int)<(e.toNat:Int))=false:=by rw[jA];omega
      have ah:10^j<=10^8:=cO (by decide) (by omega);replace ah:10^j<=100000000:=ah;have a2:0<10^j:=cG (by decide);have an:10^(j+1)=10^j*10:=dH _ _;have Q:=aB an;have hw:v*10+(e.toNat-48)=aO ((l.drop i).take (j+1)):=by rw[S.out,oK,<-U.out,dN]
      have ab:((l.drop i).take (j+1)).all bO=true:=by rw[S.out,aqJ,P.out];simp[bO];omega
      have V:=aB (And.intro hw ab);obtain⟨b,rfl⟩:∃b,gk=b+1:=⟨gk-1,by have:=z.out;omega⟩;clear hw ab an;generalize 10^j=f at *;go_wp2;go_roundg b
      case rel=>exact⟨v*10+(e.toNat-48),j+1,by have:=z.out;unfold Hid;omega,by go_num,by omega,pW (by omega),pW (by rw[Q.out];omega),by go_num,V.out.1,V.out.2,by rw[Q.out];omega,rfl⟩
      case measure=>omega
     ·have M:¬(l.all bO=true):=fun h=>x (by
       have:=List.all_eq_true.1 h e (dG aq.out);simpa [bO] using this)
      have ar:=aB M;have t:Hid (decide (l≠[]∧l.all bO=true)=false):=by unfold Hid;rw[jA];exact fun h=>M h.2
      have N:decide ((e.toNat:Int)<48)=true∨decide ((e.toNat:Int)<48)=false∧decide ((57:Int)<(e.toNat:Int))=true:=by
       rcases dE e.toNat 48 with h|h
       ·exact .inl (by rw[iQ];omega)
       ·exact .inr ⟨by rw[jA];omega,by rw[iQ];omega⟩
      clear M x;rcases N with s1|⟨s1,s2⟩
      all_goals (
       go_wp2_with fail;obtain⟨X,o,R,a,E,Z⟩:=R.mut2 a (by omega) (.bool false) (.slice none 0 0) rfl rfl;rw[o];clear o;replace r:=R.k2;exact aM (v:= .tuple #[.agg #[.bool false,.slice none 0 0],.bool false]) (by simp[results,results104,go_sem,R.k2]) rfl ⟨_,0,by rw[t.out],NI.zero _,fun h=>absurd h ar.out,a⟩)
    ·have N:j=9∨j<9∧i+j=l.length:=by have:=z.out;omega
     have am:10^j<=10^9:=cO (by decide) (by have:=z.out;omega);have bb:0<10^j:=cG (by decide);have a6:1<=j:=by omega
     clear aj;obtain⟨A,k,c,rfl⟩:=F.form;have al:nl m<=1073741824:=by rw[q.out];exact aH (oJ (xP s.out)) (by rw[bK];omega)
     have ap:aO (l.take (i+j))=m*10^j+v:=by
      rw[List.take_add,pF,<-q.out,<-U.out,bK,eX,gF (by omega)]
     have ac:(l.take (i+j)).all bO=true:=by rw[List.take_add,aqJ,s.out,P.out];rfl
     have T:=aB (And.intro ap ac);clear ap ac;have a0:10^j<=1000000000:=am;clear am;generalize 10^j=f at *;obtain⟨wa,ea,D,FB⟩:=bI wx [.int .u32 (f:Int)] 143;have ax:=Mg.one FB (by omega) (by omega);have aw:=F.be D;have bc:f<=4294967295:=by omega
     have bf:v<=4294967295:=by omega
     have ay:¬(j:Int)<9∨(j:Int)<9∧¬((i+j:Nat):Int)<(l.length:Int):=by omega
     have a9:nl f<=1:=cJ (by unfold BN;omega);have a8:=fI m f;have ak:Hid (l.length-(i+j)<g+1∧i+j+(l.length-(i+j))=l.length):=by have:=J.out;unfold Hid;omega
     clear N;rcases ay with r1|⟨r1,r2⟩
     all_goals (
      go_wp2_with fail;refine(ER m f _ _ _ aw ax (by omega) (by omega)).mono ?_;rintro e1 w1 ⟨v1,rfl,h1,ad⟩;obtain⟨A1,k1,c1,rfl⟩:=h1.form;obtain⟨wb,eb,K,FV⟩:=bI w1 [.int .u32 (v:Int)] 143;have ht:=oW [v] w1.1.size v 1 wb FV (fun d x=>by rw[List.mem_singleton.1 x];unfold aD;omega) (by simp[nv]) aE (by simp);simp only[iJ] at ht;have au:=h1.be K;have ba:nl v<=1:=cJ (by unfold BN;omega);have ae:=(((aC a D).trans (ad.mono (aC a D).size)));have af:=aC ae K;go_wp2_with fail;refine ht.mono ?_;rintro e2 w2 ⟨v2,rfl,h2,rfl⟩;go_wp2_with fail;refine(EU _ _ _ _ _ au h2 (by omega) (by omega)).mono ?_;rintro e3 w3 ⟨v3,rfl,n,u⟩;go_wp2;go_roundg (l.length-(i+j))
      case rel=>exact⟨m*f+v,i+j,ak.out.2,by first|rfl|go_num,n,T.out.1.symm,T.out.2,(((R.be D).be ad).be K).be u,aC af u⟩
      case measure=>exact ak.out.1)
end Go.Proofs.YtpgmdhonnpakeaaGreatDoor
namespace Go.Proofs.YtpgmdhonnpakeaaGreatDoor
open Sos Lib
variable{j v:Nat}
def dz(v:Nat):List UInt8:=if v=0 then [] else decDigits v
def WC{e:Nat}(b:e<10):dz (10*v+e)=if v=0∧e=0 then [] else dz v++[UInt8.ofNat (48+e)]:=by
 unfold dz;by_cases hv:v=0
 ·subst hv;by_cases a:e=0
  ·subst a;simp
  ·rw[if_neg (by omega),if_neg (by omega),if_pos rfl,decDigits,dif_pos (by omega)];simp
 ·rw[if_neg (by omega),if_neg (by omega),if_neg hv,decDigits,dif_neg (by omega),show(10*v+e)/10=v by omega,show(10*v+e)%10=e by omega]
def iV:List Nat->Nat
 |[]=>0
 |d :: l=>d+1000000000*iV l
def WD(l:List Nat)(d:Nat):iV (l++[d])=iV l+1000000000^l.length*d:=by
 induction l with
 |nil=>simp[iV]
 |cons a l b=>rw[byW,iV,b,iV,eG,dH,iL];grind
def WE{l:List Nat}{i d:Nat}(h:l[i]? =some d):iV (l.drop i)=d+1000000000*iV (l.drop (i+1)):=by
 have a:=(List.getElem?_eq_some_iff.1 h).1;rw[j5 a,iV];rw[aR a] at h;injection h with h;rw[h]
def WF(l:List Nat)(i:Nat):iV (l.drop i)<=iV l:=by
 induction l generalizing i with
 |nil=>simp
 |cons a l b=>
  cases i with
  |zero=>exact aE
  |succ i=>
   rw[bxF,iV];have:=b i;omega
def tn(j:Nat):Nat:=if j<=8 then 10^(8-j) else 0
def WG(h:j<=8):tn j/10=tn (j+1)∧0<tn j∧tn j<=100000000:=by
 unfold tn;rcases(show j=0∨j=1∨j=2∨j=3∨j=4∨j=5∨j=6∨j=7∨j=8 by omega) with rfl|rfl|rfl|rfl|rfl|rfl|rfl|rfl|rfl<;>decide
def WH{p:Nat}(h:j<=8):v*10^(j+1)+p/10^(9-(j+1))=10*(v*10^j+p/10^(9-j))+p/tn j%10:=by
 have e:p/10^(9-j)=p/tn j/10:=by
  unfold tn;rw[if_pos h,G6,<-dH];congr 2;omega
 rw[e,show 9-(j+1)=8-j by omega,dH];have a:p/10^(8-j)=p/tn j:=by unfold tn;rw[if_pos h]
 rw[a];generalize p/tn j=q;have:=iD q 10;have b:v*(10^j*10)=10*(v*10^j):=by rw[<-iW,dN]
 rw[b];omega
end Go.Proofs.YtpgmdhonnpakeaaGreatDoor
namespace Go.Proofs.YtpgmdhonnpakeaaGreatDoor
open Go.RowKit Sos Tryz
variable{a b:List Nat}{w w':World}{v:Value}{B c g i l n r:Nat}{A p:Option Addr}{q:Rat}{qs:List Rat}
def WB{a m k:Nat}(h:1000000000^k*m<=a)(d:0<m):k<=3*nl a:=by
 have e:=cY a;have f:1000000000^k*1<=1000000000^k*m:=eV _ d;have b:(2^29)^k<=1000000000^k:=azQ (by decide) k;have g:BN^nl a=2^(64*nl a):=by rw[X5];rfl
 rw[<-X5] at b;have c:2^(29*k)<2^(64*nl a):=by omega
 have:=(Nat.pow_lt_pow_iff_right (a:=2) (by decide)).1 c;omega
def Mg.grown{k:Option Nat}(h:Mg w v n)(f:w.grownBy w' k)(t:∀g,k=some g->v.ownBlock≠some g):Mg w' v n:=by
 obtain⟨l,⟨A,c,rfl,q,r,h⟩,m,o⟩:=h;refine⟨l,⟨A,c,rfl,q,r,?_⟩,m,o⟩;rcases h with h|⟨b,rfl,j,p⟩
 ·exact .inl h
 ·refine .inr ⟨b,rfl,aZ j f.size,fun i d s=> ?_⟩;exact(World.cell?_of_block (w:=w) (w':=w') (a:=⟨b,i,none⟩) (f.block b j (fun e=>t b e.symm (by simp[Value.ownBlock])))).trans (p i d s)
def PtAt(w:World)(B:Nat)(v:Value)(a:List Nat):Prop:=w.ownsRow B 143 1 v a.length (U a)
def PtAt.lt(h:PtAt w B v a):∀g,v.ownBlock=some g->B<=g∧g<w.1.size:=World.ownsRow.lt h
def PtAt.be(h:PtAt w B v a)(b:Below w.1.size w w'):PtAt w' B v a:=by
 refine World.ownsRow.kept h (rL b none) ?_;cases v.ownBlock with
 |none=>exact .inl rfl
 |some g=>exact .inr (by simp)
def PtAt.more{c:Value}{o:Obj}(k:w'.ownsRow B 143 1 c (b.length+1) (U b++[.int .u32 (r:Int)]))(a:(w.alloc o).grownBy w' v.ownBlock)(d:c.ownBlock=v.ownBlock∨c.ownBlock=some (w.alloc o).1.size):
  PtAt w' B c (b++[r])∧TxtTo w v w' c:=by
 refine⟨by unfold PtAt;rw[bG,show U (b++[r])=U b++[.int .u32 (r:Int)] by unfold U;rw[azM];rfl];exact k,⟨a.os,a.tape,a.output,aH (by simp) a.size,fun i f j=>(a.block i (by simp;omega) j).trans (Below.heap_alloc w o i f)⟩,fun g e=> ?_⟩;rcases d with h|h
 ·left;rw[<-h];exact e
 ·right;rw[h] at e;simp at e;omega
def CG(w:World)(l:List UInt8)(e:Ending)(w':World):Prop:=e= .returned (.string ⟨l.toArray⟩)∧Below w.1.size w w'
def JL(x:Int)(vx:Value)(w:World)(J:NI w vx x)(lx:nl x.natAbs<=1099511627776):
  Calls prog 49 #[vx] w (CG w (Lib.decDigits x.natAbs)):=by
 obtain⟨s,A,k,c,rfl⟩:=J.form;have z:=J.words.len.1;obtain⟨W,eW,t,XB⟩:=bI w [.bool s,.slice A k c] 38;have cM:=XB.k2;clear XB;have G:=(J.be t).words;have ho:∀g,(Value.slice A k c).ownBlock=some g->k≠0->g<w.1.size:=fun g F o=>by
  obtain⟨ds,⟨A',c',e,hc,hd,h⟩,O,h3⟩:=J.words;simp only[Value.slice.injEq] at e;obtain⟨rfl,rfl,rfl⟩:=e;rcases h with h|⟨b,rfl,hl,hB⟩
  ·rw[h] at o;exact absurd rfl o
  ·simp[Value.ownBlock] at F;omega
 generalize x.natAbs=a at *;by_cases o:a=0
 ·have ag:k=0:=z.2 o;subst o;subst ag;rw[show Lib.decDigits 0=[48] from BM];clear z G J ho;go_enter func49,ntmps49;go_wp2;go_ret;exact⟨rfl,t⟩
 ·have ah:k≠0:=fun e=>o (z.1 e);have q0:((k:Int)==0)=false:=by simpa using ah
  have H:=fun g F=>ho g F ah;have H0:=aB o;clear z ho o ah J;go_enter func49,ntmps49;go_wp2_with fail;(try rw[eW]);clear eW;go_loopg [3,4] a (fun g s3 s4 wr=>∃(d:List Nat) (A:Option Addr) (k c m:Nat),Hid (m<=g)∧s4= .slice A k c∧PtAt wr w.1.size s3 d∧Mg wr s4 m∧Hid (iV d+1000000000^d.length*m=a)∧(∀p∈d,p<1000000000)∧Hid (∀g,s3.ownBlock=some g->(Value.slice A k c).ownBlock≠some g)∧Hid (∀g,(Value.slice A k c).ownBlock=some g->g<wr.1.size)∧nl m<=1099511627776∧d.length<=3298534883329∧Below w.1.size w wr)
  case atStart=>exact⟨[],A,k,c,a,aE,rfl,World.ownsRow_nil _ _ _ _,G,by unfold Hid;simp[iV],(fun p f=>by cases f),(fun g F=>by simp[Value.ownBlock] at F),(fun g F=>aZ (H g F) t.size),lx,by simp,t⟩
  case round=>
   clear G t H;obtain⟨d,A,k,c,m,HG,rfl,X,G,S,ai,HA,HO,lm,bu,t⟩:=hrel;generalize wr=n at *;have z:=G.len.1;by_cases o:m=0
   ·have ag:k=0:=z.2 o;subst ag;have hv:iV d=a:=by have:=S.out;rw[o,G7,gQ] at this;exact this
    have hD:=Ds.row X rfl (fun p f=>aq7 (ai p f) (by decide));obtain⟨AP,cP,rfl,bm⟩:=hD.form;have ak:=aB hv;clear z hv X G S HA HO HG o;go_wp2_with fail;go_loopg [7,8] d.length (fun k s7 s8 wr=>∃i:Int,Hid (i+1=k)∧s8= .int .i64 i∧ -1<=i∧i<d.length∧TxtAt wr n.1.size s7 (dz (iV (d.drop k)))∧Below n.1.size n wr)
    case atStart=>exact⟨(d.length:Int)-1,by unfold Hid;omega,rfl,by omega,by omega,by rw[az5];exact World.ownsRow_nil _ _ _ _,aG _ _⟩
    case round=>
     obtain⟨i,HI,rfl,bn,bo,u,y⟩:=hrel;generalize wr=wy at *;cases gk with
     |zero=>
      have hi:¬0<=i:=by have:=HI.out;omega
      have Y:=u.str;have E:dz (iV (d.drop 0))=Lib.decDigits a:=by rw[RW,ak.out];unfold dz;rw[if_neg H0.out]
      rw[E] at Y;have M:=aB E;clear E;go_wp2;go_ret;exact⟨rfl,aC t y⟩
     |succ k=>
      have a8:i=(k:Int):=by have:=HI.out;omega
      subst a8;obtain⟨p,f⟩:∃p,d[k]? =some p:=⟨_,aR (by omega)⟩;have bg:=ai p (dG f);obtain⟨gp,rfl,a7,al⟩:=hD.at_ f;have a5:=fun (W:World) (t:Below n.1.size n W)=>(t.cell (p:=⟨gp,k,none⟩) a7).trans al;have ab:=WE f;have au:=WF d k;rw[ab,ak.out] at au;have a0:=aB ab;clear ab f al;generalize iV (d.drop (k+1))=V at *;go_wp2_with fail;go_loopg [7,9] 9 (fun m s7 s9 wr=>∃j,Hid (j+m=9)∧s9= .int .u32 (tn j:Int)∧TxtAt wr n.1.size s7 (dz (V*10^j+p/10^(9-j)))∧Below n.1.size n wr)
      case atStart=>exact⟨0,by unfold Hid;omega,rfl,by rw[P9,o9,BA (show p<10^(9-0) by simpa using bg),gQ];exact u,y⟩
      case round=>
       clear u y;obtain⟨j,R,rfl,u,y⟩:=hrel;generalize wr=wz at *;cases gk with
       |zero=>
        have hj:j=9:=R.out;subst hj;rw[show V*10^9+p/10^(9-9)=iV (d.drop k) by rw[a0.out,X6,P9,Nat.div_one,dN,G5]] at u;have t9:((tn 9:Nat):Int)=0:=rfl;go_wp2;go_roundg k
        case rel=>exact⟨(k:Int)-1,by unfold Hid;omega,by go_num,by omega,by omega,u,y⟩
        case measure=>omega
       |succ m=>
        have ar:j<=8:=by have:=R.out;omega
        obtain⟨t1,t2,t3⟩:=WG ar;have Y:=WH (v:=V) (p:=p) ar;have he:p/tn j%10<10:=dI _ (by decide);have E:=WC (v:=V*10^j+p/10^(9-j)) he;rw[<-Y] at E;have bi:=a5 wz y;have M:=aB E;have T1:=aB t1;clear Y E t1;have aw:V*10^j+p/10^(9-j)<=a:=by
         have T:V*10^j<=V*10^9:=eV _ (cO (by decide) (by omega));have O:=pQ p (10^(9-j));omega
        generalize V*10^j+p/10^(9-j)=v at *;have hL:(dz v).length<=21990232555541:=by
         unfold dz;split
         ·simp
         ·have:=wR v _ (cK aw);omega
        have an:(dz v).length=0↔v=0:=by
         unfold dz;split
         ·simp[*]
         ·have T:=Lib.decDigits_length v;have O:=Lib.nDigits_pos v;omega
        have bt:p/tn j<=p:=pQ _ _;have x1:(p:Int)/((tn j:Nat):Int)=((p/tn j:Nat):Int):=(D7 _ _).symm;have x2:((p/tn j:Nat):Int)%10=((p/tn j%10:Nat):Int):=(Z9 _ _).symm;have hc:((UInt8.ofNat (48+p/tn j%10)).toNat:Int)=48+((p/tn j%10:Nat):Int):=by rw[tJ he];rfl
        obtain⟨Ao,co,rfl⟩:=u.slice;have bb:=u.lt;generalize p/tn j%10=e at *;generalize p/tn j=pd at *;have x3:decide (0<tn j)=true:=by simpa using t2
        generalize tn j=D at *;generalize am:dz v=L at *;have HC:=aB hc;clear hc;have aj:=aB an;have bh:=aB am;clear an am au aw;by_cases P:v=0∧e=0
        ·have C:=M.out;rw[if_pos P] at C;have Z:=aB C;have a9:L=[]:=bX (aj.out.2 P.1);obtain⟨-,rfl⟩:=P;subst a9;clear C M HC;go_wp2;go_roundg m
         case rel=>exact⟨j+1,by have:=R.out;unfold Hid;omega,by rw[<-T1.out];rfl,by rw[Z.out];exact u,y⟩
         case measure=>omega
        ·have C:=M.out;rw[if_neg P] at C;have Z:=aB C;have bf:decide (0<L.length)=true∨decide (0<L.length)=false∧((48:Int)+(e:Int) != 48)=true:=by
          by_cases h:L.length=0
          ·exact .inr ⟨by rw[jA];omega,by rw[bne_iff_ne];have:=aj.out.1 h;omega⟩
          ·exact .inl (by rw[iQ];omega)
         have a3:wz.ownsRow n.1.size 5 1 (.slice Ao L.length co) L.length (Lib.byteCells L):=u;have bv:=y.size;clear C M P;rcases bf with r1|⟨r1,r2⟩
         all_goals (
          go_wp2_with (at_builtin;refine gM rfl rfl 5 _ 1 1 underlying109 nF rfl (by decide) n.1.size (.slice Ao L.length co) L.length _ rfl (a3.alloc _) [.int .u8 (48+(e:Int))] rfl (by simp) (lM _ _ _) (by simp[Value.oneCell']) (by omega) (by omega) (by simp;omega) ?_;intro q1 w6 H af ac);rw[<-HC.out] at H;obtain⟨I,a4⟩:=TxtAt.more (bs:=L) (l:=[UInt8.ofNat (48+e)]) H af ac;have ae:=a4.belowB (B:=n.1.size) y.size (fun g h=>(bb g h).1);go_wp2;go_roundg m
          case rel=>exact⟨j+1,by have:=R.out;unfold Hid;omega,by rw[<-T1.out];rfl,by rw[Z.out];exact I,y.trans ae⟩
          case measure=>omega)
   ·have hd:decide (0<k)=true:=by have:=fun e=>o (z.1 e);simp;omega
    have ba:=WB (a:=a) (by have:=S.out;omega:1000000000^d.length*m<=a) (by omega);clear z;go_wp2_with fail;have av:Calls prog 103 #[.slice A k c,.int .u32 1000000000] n (EO n m 1000000000):=EP m 1000000000 _ n G lm (by decide) (by decide);refine av.mono ?_;rintro e1 w1 ⟨v1,rfl,T,hf,ad⟩;obtain⟨K,Q,N,rfl⟩:=T.form;have ao:=X.be ad;have a1:w1.ownsRow w.1.size 143 1 u3 d.length (U d):=ao;have aq:=aC t ad;have hr:m%1000000000<1000000000:=dI _ (by decide);have br:m/1000000000<m:=aq4 (by omega) (by decide);have a6:=azO m 1000000000;have bq:nl (m/1000000000)<=nl m:=cK (by omega);have bp:=ba;clear av hd;generalize m%1000000000=r at *;generalize m/1000000000=q at *;have bk:=ad.size;have bj:=t.size;go_wp2_with (at_builtin;refine gM rfl rfl 143 _ 1 4 underlying36 oX rfl (by decide) w.1.size u3 d.length _ rfl (a1.alloc _) [.int .u32 (r:Int)] rfl (by simp) (lM _ _ _) (by simp[Value.oneCell']) (by omega) (by omega) (by simp;omega) ?_;intro q1 w6 H af ac);obtain⟨a2,I⟩:=PtAt.more H af ac;have hu:=ao.lt;have ap:∀g,u3.ownBlock=some g->(Value.slice K Q N).ownBlock≠some g:=fun g h e=>by
     have:=(hf g e).1;have:=(X.lt g h).2;omega
    have bc:Mg w6 (.slice K Q N) q:=T.grown I.1 ap;have ae:=I.belowB (B:=w.1.size) aq.size (fun g h=>(hu g h).1);have ax:Hid (∀g,q1.ownBlock=some g->(Value.slice K Q N).ownBlock≠some g):=fun g h e=>by
     rcases I.2 g h with O|O
     ·exact ap g O e
     ·have:=(hf g e).2;omega
    have ay:Hid (∀g,(Value.slice K Q N).ownBlock=some g->g<w6.1.size):=fun g h=>aZ (hf g h).2 I.1.size;have az:Hid (iV (d++[r])+1000000000^(d++[r]).length*q=a):=by
     unfold Hid;rw[WD,bG,iJ,dH,<-S.out,<-a6,iL];grind
    obtain⟨g,rfl⟩:∃g,gk=g+1:=⟨gk-1,by have:=HG.out;omega⟩;go_wp2;go_roundg g
    case rel=>exact⟨d++[r],K,Q,N,q,by have:=HG.out;unfold Hid;omega,rfl,a2,bc,az,(fun p f=>by
     rcases List.mem_append.1 f with f|f
     ·exact ai p f
     ·rw[List.mem_singleton.1 f];exact hr),ax,ay,by omega,by rw[bG,iJ];omega,aq.trans ae⟩
    case measure=>omega
def CF(q:Rat)(v:Value)(w:World)(hv:NQ w v q)(K:Nat)(i:RL K q)(O:K<=549755813888):Calls prog 16 #[v] w (CG w (cW q)):=by
 obtain⟨s,A,k,c,C,p,j,x,rfl⟩:=hv.form;have o:=hv.num.neg;have z:=hv.len;have F:=fun W h=>JL q.num (.agg #[.bool s,.slice A k c]) W h (aH i.1 (by omega));have G:=fun W h=>JL (bS q) (.agg #[.bool C,.slice p j x]) W h (aH (mY q) (aH i.2 (by omega)));have P:=wR q.num.natAbs K i.1;have Q:=wR (bS q).natAbs K (aH (mY q) i.2);have t:Hid (cW q=(if s=true then [45] else [])++Lib.decDigits q.num.natAbs++(if q.den=1 then [] else 47 :: Lib.decDigits (bS q).natAbs)):=by
  unfold Hid cW;rw[o];by_cases h:q.den=1
  ·simp[h]
  ·rw[mI h];simp[h]
 generalize Lib.decDigits q.num.natAbs=g at *;generalize Lib.decDigits (bS q).natAbs=l at *;have T:(⟨g.toArray⟩:ByteArray).size=g.length:=by simp[ByteArray.size]
 have U:(⟨l.toArray⟩:ByteArray).size=l.length:=by simp[ByteArray.size]
 have L:=aB o;have J:=aB z;clear o z;obtain⟨W,y,d,B⟩:=bI w [.bool s,.slice A k c,.bool C,.slice p j x] 40;have D:=B.g4;go_enter func16,ntmps16;go_wp2_with fail;(try rw[y]);clear y;replace hv:=hv.be d;refine(F _ hv.num).mono ?_;rintro M R ⟨rfl,n⟩;replace B:=B.be n;replace D:=B.k4;replace H:=KM.be n;replace hv:=hv.ke H;replace d:=aC d n;have f:=hv.den.words.len.1;rw[Int.natAbs_eq_zero,fV] at f;have u:∀a b:List UInt8,(⟨a.toArray⟩:ByteArray)++⟨b.toArray⟩=⟨(a++b).toArray⟩:=fun a b=>by
  rw[ByteArray.ext_iff];simp
 have r:=aB u;clear u;by_cases e:q.den=1
 ·have I:decide (0<j)=false:=by rw[f.2 e];rfl
  have m:Hid (cW q=(if s=true then [45] else [])++g):=by unfold Hid;rw[t.out,if_pos e,fH]
  clear f e;cases s
  all_goals (
   go_wp2;go_ret;exact⟨by rw[m.out];simp[r.out]<;>rfl,d⟩)
 ·have I:decide (0<j)=true:=by rw[iQ];exact aqQ fun h=>e (f.1 h)
  have m:Hid (cW q=(if s=true then [45] else [])++g++47 :: l):=by unfold Hid;rw[t.out,if_neg e]
  clear f e;cases s
  all_goals (
   go_wp2_with fail;refine(G _ hv.den).mono ?_;rintro N S ⟨rfl,E⟩;go_wp2;go_ret;exact⟨by rw[m.out];simp[r.out]<;>rfl,aC d E⟩)
abbrev R4(w:World)(b o:Nat)(c d e f:Value):Prop:=w.cell? ⟨b,o,none⟩=some c∧w.cell? ⟨b,o+1,none⟩=some d∧w.cell? ⟨b,o+2,none⟩=some e∧w.cell? ⟨b,o+3,none⟩=some f
def QRow(w:World)(rows:List (List Value))(qs:List Rat):Prop:=∀(i:Nat) (q:Rat),qs[i]? =some q->∃s A l c s' d e c',rows[i]? =some [Value.bool s,Value.slice A l c,Value.bool s',Value.slice d e c']∧NQ w (.agg #[.bool s,.slice A l c,.bool s',.slice d e c']) q
def QsAt(w:World)(v:Value)(qs:List Rat):Prop:=∃A c,v= .slice A qs.length c∧qs.length<=c∧(A=none∧qs=[]∨∃b rows,A=some ⟨b,0,none⟩∧Rw w b 4 rows 40∧qs.length<=rows.length∧QRow w rows qs)
def OwnQ(w:World)(b:Nat)(qs:List Rat):Prop:=∃rows,Rw w b 4 rows 40∧qs.length<=rows.length∧QRow w rows qs
def r6(g:Nat)(w W:World):Prop:=KM w W∧nD g w W
def KM.put{p:Addr}{c:Value}(f:w.cell? p=some c)(e:NoInt c)(v:Value):KM w (w.setCell p v):=
 ⟨by simp,fun q k x d=>by
  rw[World.cell?_setCell_other _ _ _ _ ?_,d];rintro rfl;rw[f] at d;injection d with d;exact absurd d (e _ _)⟩
section
variable {w w':World}{b:Nat}{qs:List Rat}{v:Value}{rows:List (List Value)}
def QRow.ke(h:QRow w rows qs)(g:KM w w'):QRow w' rows qs:=fun i q hi=>by
 obtain⟨s,A,l,c,s',d,j,c',e,f⟩:=h i q hi;exact⟨s,A,l,c,s',d,j,c',e,f.ke g⟩
def QRow.take(h:QRow w rows qs)(m:Nat):QRow w rows (qs.take m):=fun i q hi=>by
 rw[fC] at hi;split at hi
 ·exact h i q hi
 ·cases hi
def QsAt.be(h:QsAt w v qs)(d:Below w.1.size w w'):QsAt w' v qs:=by
 obtain⟨A,c,hv,f,h⟩:=h;refine⟨A,c,hv,f,?_⟩;rcases h with h|⟨b,rows,e,j,i,g⟩
 ·exact .inl h
 ·exact .inr ⟨b,rows,e,j.be d,i,g.ke (KM.be d)⟩
def QsAt.drew(h:QsAt w v qs):QsAt w.drew v qs:=h.be (aG _ _).drew
def QsAt.step(h:QsAt w (.slice A l c) qs)(f:r6 g w w')(p:∀b,A=some ⟨b,0,none⟩->b≠g):QsAt w' (.slice A l c) qs:=by
 obtain⟨i,j,e,k,h⟩:=h;refine⟨i,j,e,k,?_⟩;simp only[Value.slice.injEq] at e;obtain⟨rfl,rfl,rfl⟩:=e;rcases h with h|⟨b,rows,e,d,n,m⟩
 ·exact .inl h
 ·exact .inr ⟨b,rows,e,⟨(f.2.2.1 b (p b e)).trans d.1,d.2⟩,n,m.ke f.1⟩
def QsAt.nil(w:World):QsAt w (.slice none 0 0) []:=⟨none,0,rfl,aE,.inl ⟨rfl,rfl⟩⟩
def QsAt.form(h:QsAt w v qs):∃A c,v= .slice A qs.length c∧qs.length<=c:=by
 obtain⟨A,c,hv,d,_⟩:=h;exact⟨A,c,hv,d⟩
def QsAt.cut(h:QsAt w (.slice A l c) qs)(m:Nat)(g:m<=qs.length):QsAt w (.slice A m c) (qs.take m):=by
 obtain⟨j,k,e,n,h⟩:=h;simp only[Value.slice.injEq] at e;obtain⟨rfl,rfl,rfl⟩:=e;refine⟨A,c,by rw[bK,gF g],by rw[bK];omega,?_⟩;rcases h with ⟨h,d⟩|⟨b,rows,e,i,p,f⟩
 ·exact .inl ⟨h,by rw[d];simp⟩
 ·exact .inr ⟨b,rows,e,i,by rw[bK];omega,f.take m⟩
def OwnQ.lt(h:OwnQ w b qs):b<w.1.size:=by
 obtain⟨rows,c,_⟩:=h;exact c.lt
def OwnQ.be(h:OwnQ w b qs)(c:Below w.1.size w w'):OwnQ w' b qs:=by
 obtain⟨rows,f,e,d⟩:=h;exact⟨rows,f.be c,e,d.ke (KM.be c)⟩
def OwnQ.drew(h:OwnQ w b qs):OwnQ w.drew b qs:=h.be (aG _ _).drew
def OwnQ.step(h:OwnQ w b qs)(d:r6 g w w')(i:b≠g):OwnQ w' b qs:=by
 obtain⟨rows,c,f,e⟩:=h;exact⟨rows,⟨(d.2.2.1 b i).trans c.1,c.2⟩,f,e.ke d.1⟩
def OwnQ.free(h:OwnQ w b qs)(j:Nat):w.frozen? ⟨b,j,none⟩=false:=by
 obtain⟨rows,c,_⟩:=h;exact c.free j
def OwnQ.at_(h:OwnQ w b qs)(hi:qs[i]? =some q):
  ∃s B m d s' c j e,R4 w b (i*4) (.bool s) (.slice B m d) (.bool s') (.slice c j e)∧NQ w (.agg #[.bool s,.slice B m d,.bool s',.slice c j e]) q:=by
 obtain⟨rows,g,n,l⟩:=h;obtain⟨s,B,m,d,s',c,j,e,f,k⟩:=l i q hi;exact⟨s,B,m,d,s',c,j,e,⟨g.cell 0 f rfl,g.cell 1 f rfl,g.cell 2 f rfl,g.cell 3 f rfl⟩,k⟩
def QsAt.at_(h:QsAt w (.slice A l c) qs)(hi:qs[i]? =some q):
  ∃b s B m d s' g n j,A=some ⟨b,0,none⟩∧b<w.1.size∧R4 w b (i*4) (.bool s) (.slice B m d) (.bool s') (.slice g n j)∧NQ w (.agg #[.bool s,.slice B m d,.bool s',.slice g n j]) q:=by
 obtain⟨t,x,e,y,h⟩:=h;simp only[Value.slice.injEq] at e;obtain⟨rfl,rfl,rfl⟩:=e;rcases h with ⟨-,h⟩|⟨b,rows,e,f, -,r⟩
 ·rw[h] at hi;simp at hi
 ·obtain⟨s,B,m,d,s',g,n,j,k,p⟩:=r i q hi;exact⟨b,s,B,m,d,s',g,n,j,e,f.lt,⟨f.cell 0 k rfl,f.cell 1 k rfl,f.cell 2 k rfl,f.cell 3 k rfl⟩,p⟩
def OwnQ.stored(h:OwnQ w b qs)(hi:i<qs.length){s s':Bool}{c':Nat}(hn:NQ w (.agg #[.bool s,.slice A l c,.bool s',.slice p r c']) q):
  let W:=(((w.setCell ⟨b,i*4,none⟩ (.bool s)).setCell ⟨b,i*4+1,none⟩ (.slice A l c)).setCell ⟨b,i*4+2,none⟩ (.bool s')).setCell ⟨b,i*4+3,none⟩ (.slice p r c')
  OwnQ W b (qs.set i q)∧r6 b w W:=by
 obtain⟨rows,P,Z,O⟩:=h;obtain⟨s1,D,G,E,t,d,n,f,N,h2⟩:=O i qs[i] (aR hi);have C:i<rows.length:=by omega
 have R:=P.set 0 N (by omega) (.bool s);have K:(rows.set i ([Value.bool s1,.slice D G E,.bool t,.slice d n f].set 0 (.bool s)))[i]? =some [.bool s,.slice D G E,.bool t,.slice d n f]:=by rw[gP C];rfl
 have H:=R.set 1 K (by omega) (.slice A l c);rw[azN] at H;have L:(rows.set i ([Value.bool s,.slice D G E,.bool t,.slice d n f].set 1 (.slice A l c)))[i]? =some [.bool s,.slice A l c,.bool t,.slice d n f]:=by rw[gP C];rfl
 have I:=H.set 2 L (by omega) (.bool s');rw[azN] at I;have M:(rows.set i ([Value.bool s,.slice A l c,.bool t,.slice d n f].set 2 (.bool s')))[i]? =some [.bool s,.slice A l c,.bool s',.slice d n f]:=by rw[gP C];rfl
 have S:=I.set 3 M (by omega) (.slice p r c');rw[azN] at S;have J:=P.cell 0 N rfl;have x:=R.cell 1 K rfl;have y:=H.cell 2 L rfl;have z:=I.cell 3 M rfl;have F:=(((KM.put J (NoInt.bool _) (.bool s)).trans (KM.put x (NoInt.slice _ _ _) (.slice A l c))).trans (KM.put y (NoInt.bool _) (.bool s'))).trans (KM.put z (NoInt.slice _ _ _) (.slice p r c'));refine⟨⟨_,S,by simpa using Z,fun j m k=> ?_⟩,F,(((Keep.put J (NoInt.bool _) _).trans (Keep.put x (NoInt.slice _ _ _) _)).trans (Keep.put y (NoInt.bool _) _)).trans (Keep.put z (NoInt.slice _ _ _) _),fun g B=> ?_,by simp,rfl,rfl,rfl⟩
 ·by_cases e:i=j
  ·subst e;rw[gP hi] at k;injection k with k;subst k;exact⟨s,A,l,c,s',p,r,c',by rw[gP C];rfl,hn.ke F⟩
  ·rw[lI e] at k;obtain⟨x,y,z,T,U,V,X,Y,k1,k2⟩:=O j m k;exact⟨x,y,z,T,U,V,X,Y,by rw[lI e];exact k1,k2.ke F⟩
 ·rw[Below.heap_setCell _ ⟨b,i*4+3,none⟩ _ g B,Below.heap_setCell _ ⟨b,i*4+2,none⟩ _ g B,Below.heap_setCell _ ⟨b,i*4+1,none⟩ _ g B,Below.heap_setCell _ ⟨b,i*4,none⟩ _ g B]
def OwnQ.made(h:Rw w b 4 (List.replicate n [.bool false,.slice none 0 0,.bool false,.slice none 0 0]) 40):OwnQ w b (List.replicate n 0):=
 ⟨_,h,by simp,fun i m c=>⟨false,none,0,0,false,none,0,0,by
  have:=(List.getElem?_eq_some_iff.1 c).1;rw[dB] at this;rw[j6,if_pos this],by
  have:=j6 (n:=n) (a:=(0:Rat)) (i:=i);rw[c] at this;split at this
  ·injection this with this;subst this;exact NQ.zero w
  ·cases this⟩⟩
def Rw.src{k:Nat}{t:TypeId}(i:Rw w b k rows t)(d:0<k)(hn:n<=rows.length):Src w (some ⟨b,0,none⟩) (rows.take n).flatten:=by
 have g:∀r∈rows.take n,r.length=k:=fun r h=>i.2 r (lH h);refine .inr ⟨b,0,rfl,fun j u l=> ?_⟩;have p:j<n*k:=by
  have:=(List.getElem?_eq_some_iff.1 l).1;rw[mX g,bK,gF hn] at this;exact this
 have m:j/k<n:=by rw[Nat.div_lt_iff_lt_mul d];exact p
 obtain⟨r,c⟩:∃r,(rows.take n)[j/k]? =some r:=⟨_,aR (by rw[bK];omega)⟩;have f:=mW g c (dI j d);have e:j/k*k+j%k=j:=by rw[dN];exact iD j k
 rw[e,l] at f;rw[fC,if_pos m] at c;have:=i.cell (j%k) c f.symm;rw[e] at this;rw[bA];exact this
end
section
variable {w:World}{ops:Array Oper}{rest:List Oper}{o:Oper}{a:Act}{Q:Exit->Act->World->Prop}
end
section
variable {a b:World}[u:Up a b]
def QsAt.up(h:QsAt a v qs):QsAt b v qs:=h.be u.out
def OwnQ.up(h:OwnQ a g qs):OwnQ b g qs:=h.be u.out
def R4.up{o:Nat}{d e f i:Value}(h:R4 a g o d e f i)(c:g<a.1.size):R4 b g o d e f i:=
 ⟨(u.out.cell (p:=⟨g,o,none⟩) c).trans h.1,(u.out.cell (p:=⟨g,o+1,none⟩) c).trans h.2.1,(u.out.cell (p:=⟨g,o+2,none⟩) c).trans h.2.2.1,(u.out.cell (p:=⟨g,o+3,none⟩) c).trans h.2.2.2⟩
end
def yU(w:World)(v:Value):Prop:=∀g,v.ownBlock=some g->∀cur t f,w.heap[g]? =some (.cells cur t f)->∀y∈cur.toList,NoInt y
def GrowQ(w:World)(c:Nat)(v:Value)(qs:List Rat):Prop:=(∃rows,w.ownsRow c 40 4 v qs.length rows.flatten∧rows.length=qs.length∧(∀r∈rows,r.length=4)∧QRow w rows qs)∧yU w v
def GrowQ.nil(w:World):GrowQ w c (.slice none 0 0) []:=⟨⟨[],World.ownsRow_nil _ _ _ _,rfl,(fun _ h=>by cases h),(fun i q h=>by simp at h)⟩,fun g h=>by simp[Value.ownBlock] at h⟩
def GrowQ.be(h:GrowQ w l v qs)(k:Below w.1.size w w'):GrowQ w' l v qs:=by
 obtain⟨⟨rows,j,n,p,q⟩,s⟩:=h;have x:∀g,v.ownBlock=some g->g<w.1.size:=fun g e=>by
  rcases j.2 with ⟨rfl,_⟩|⟨i,m,d,rfl,_,c,_⟩
  ·simp[Value.ownBlock] at e
  ·simp[Value.ownBlock] at e;subst e;exact(Array.getElem?_eq_some_iff.1 c).1
 refine⟨⟨rows,⟨j.1,?_⟩,n,p,q.ke (KM.be k)⟩,fun g e d t f c=>s g e d t f ((k.block g (x g e)).symm.trans c)⟩;rcases j.2 with h|⟨i,m,d,rfl,r,c,h⟩
 ·exact .inl h
 ·exact .inr ⟨i,m,d,rfl,r,(k.block i (Array.getElem?_eq_some_iff.1 c).1).trans c,h⟩
def GrowQ.drew(h:GrowQ w c v qs):GrowQ w.drew c v qs:=h.be (aG _ _).drew
def GrowQ.up{a b:World}[u:Up a b](h:GrowQ a c v qs):GrowQ b c v qs:=h.be u.out
