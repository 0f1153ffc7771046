/-
  Contracts, laws: GcR, NumV, RcoE, RcoF, RcoG, RcoH, RcoI.
-/
import Derived.Test.YthfnenohhindpaaGreatDoorD41
import Derived.Test.YthfnenohhindpaaGreatDoorD42
set_option linter.all false
set_option maxHeartbeats 8000000
set_option maxRecDepth 100000
namespace Go.Proofs.YthfnenohhindpaaGreatDoor
open Go.RowKit Sos
theorem yZ (p:List Rat) (v:Value) (w:World) (hv:QsAt w v p) (K:Nat) (t:∀q∈p,RL K q) (i:1<=K) (L:p≠[]->cf p (p.length-1)≠0) (S:p.length<=1024) (ab:K<=60000000000):
  Calls Tryz.prog 164 #[v] w (jV w (mG p)):=by
 obtain⟨A,c,rfl,hc⟩:=hv.form;go_enter Tryz.func164,Tryz.ntmps164;by_cases d:p.length=0
 ·have f:Hid (mG p=[]):=by
   have:p=[]:=bM d;rw[this];rfl
  have Y:((p.length:Int)==0)=true:=by rw[d];rfl
  clear d;go_wp2_with fail;go_ret;exact⟨_,rfl,by rw[f.out];exact QsAt.nil _,aH _ _⟩
 ·have Y:((p.length:Int)==0)=false:=by simpa using d
  obtain⟨l,k⟩:∃l,p.length-1=l:=⟨_,rfl⟩;have ae:(p.length:Int)-1=(l:Int):=by omega
  have T:l<p.length:=by omega
  have ac:(0:Int)<=(l:Int):=by omega
  have ad:(l:Int)<(p.length:Int):=by omega
  have af:IntKind.i64.wrap (l:Int)=(l:Int):=IntWalk.i64_in _ ⟨by omega,by omega⟩;have m:=L (fun e=>d (by rw[e];rfl));obtain⟨F,Z,D,V,G,s4,E,X,H,rfl,Q,I,R⟩:=hv.cell T;have f:Hid (aX aW (lO [] (1/cf p l) p)=mG p):=by unfold Hid mG;rw[k]
  rw[k] at m;have o:RL K (cf p l):=jE t (fU i) l;have j:RL K 1:=bU (yC (n:=1) (by decide)) i;have C:∀W,Calls Tryz.prog 93 #[.int .i64 1] W (fC W 1):=fun W=>uT 1 W (by decide);have z:=fun W u v h g=>uV 1 (cf p l) u v W h g K j o (by omega) m;have B:=fun W u v x h g J=>GL [] (1/cf p l) p u v x W h g J K (K+K) (fun q U=>by cases U) t (uA j o) i (by simp) S (by omega);rw[f.out] at B;unfold fC at C z;clear m o d k j;generalize cf p l=x at *;generalize 1/x=y at *;go_wp2_with fail
  go_region_held3 (fun w'=>R4 w' F (l*4) (.bool Z) (.slice D V G) (.bool s4) (.slice E X H))
   (with_reducible exact I.up Q)
   (first
    |(go_at_call 93;(with_reducible refine(C _).mono ?_);rintro e5 w5 ⟨v5,rfl,r,N⟩;obtain⟨s5,A5,k5,c5,s6,A6,k6,c6,rfl⟩:=r.form;have:=St.mk N)
    |(go_at_call 135;(with_reducible refine(z _ _ _ r.up R.up).mono ?_);rintro e7 w7 ⟨v7,rfl,s,O⟩;obtain⟨s7,A7,k7,c7,s8,A8,k8,c8,rfl⟩:=s.form;have:=St.mk O)
    |(go_at_call 125;(with_reducible refine(B _ _ _ _ (QsAt.nil _) s.up hv.up).mono ?_);rintro e9 w9 ⟨v9,rfl,M,P⟩;have:=St.mk P))
  all_goals (
   go_wp2_with fail;go_ret;exact⟨_,rfl,M,Up.out (a:=w) (b:=w9)⟩)
theorem US (m:List Int->List Int->List Int->Prop) (z:Nat) (ai:∀{a g:List Int},m a [] g->aO a->cO a=cO g) (al:∀{A c Q R:List Rat} {a b g:List Int},Prp A a->Prp c b->b≠[]->m a b g->DivQ A c Q R->∃d,Prp R d∧m b d g∧(∀n∈d,nl n.natAbs<=z)∧d.length<b.length) (A c:List Rat) (a b g:List Int) (va vb:Value) (w:World) (l:QsAt w va A) (i:QsAt w vb c) (Y:Prp A a) (Z:Prp c b) (T:m a b g) (K:Nat) (G:∀q∈A,RL K q) (H:∀q∈c,RL K q) (ac:z<=K) (am:1<=z) (x:A.length<=8) (y:c.length<=8) (hK:K<=10000000):
  Calls Tryz.prog 163 #[va,vb] w (jV w (cO g)):=by
 go_enter Tryz.func163,Tryz.ntmps163;go_wp2_with fail;go_loopg [0,1] c.length (fun k v0 v1 wr=>∃(A c:List Rat) (a b:List Int),Hid (c.length=k)∧QsAt wr v0 A∧QsAt wr v1 c∧Hid (Prp A a∧Prp c b∧m a b g)∧Hid ((∀q∈A,RL K q)∧∀q∈c,RL K q)∧A.length<=8∧c.length<=8∧Below w.heap.size w wr)
 case atStart=>exact⟨A,c,a,b,rfl,l,i,⟨Y,Z,T⟩,⟨G,H⟩,x,y,aH _ _⟩
 case round=>
  clear l i Y Z T G H x y;clear A c a b;obtain⟨A,c,a,b,s,l,i,f,p,x,y,j⟩:=hrel;generalize wr=wx at *;obtain⟨A1,c1,rfl,ap⟩:=l.form;obtain⟨A2,c2,rfl,aq⟩:=i.form;cases gk with
  |zero=>
   have q0:¬(0:Int)<(c.length:Int):=by have:=s.out;omega
   have B:Hid (mG A=cO g):=by
    have ag:b=[]:=bM (by rw[<-f.out.2.1.1];exact s.out);have t:=f.out.2.2;rw[ag] at t;exact(oC f.out.1).trans (ai t f.out.1.2.1)
   have r:=fun W h=>yZ A (.slice A1 A.length c1) W h K p.out.1 (by omega) (fun e=>f.out.1.ne (fun C=>e (bM (by rw[f.out.1.1,C];rfl)))) (by omega) (by omega);rw[B.out] at r;go_wp2_with fail;refine(r _ l).mono ?_;rintro e3 w3 ⟨v3,rfl,t,af⟩;go_wp2_with fail;go_ret;exact⟨_,rfl,t,aC j af⟩
  |succ k=>
   have q0:(0:Int)<(c.length:Int):=by have:=s.out;omega
   have ad:1<=c.length:=by omega
   have M:b≠[]:=fun e=>by
    have h:=f.out.2.1.1;rw[e] at h;have D:c.length=0:=h;omega
   have ah:=FN K A.length;have V:2^A.length<=2^8:=cE (by decide) x;have ak:=Nat.mul_le_mul V (show 3*K+1<=30000001 by omega);have P:=fun W u v h D=>GR A c u v W h D K p.out.1 p.out.2 (by omega) (by omega) ad (f.out.2.1.ne M) 16000000000 (by omega) (by decide);have r:=fun (R:List Rat) W v h hR hl h0=>yZ R v W h 16000000000 hR (by decide) h0 hl (by decide);clear ah V ak;go_wp2_with fail;refine(P _ _ _ l i).mono ?_;rintro e4 w4 ⟨v4,u4,Q,R,rfl,h4,X,F,ae,J,an,ao,N⟩;obtain⟨d,o,L,U,S⟩:=al f.out.1 f.out.2.1 M f.out.2.2 F;have I:R≠[]->cf R (R.length-1)≠0:=fun e=>o.ne (fun C=>e (bM (by rw[o.1,C];rfl)));replace i:=i.below N;replace j:=aC j N;have B:=aB (oC o);have HN:Hid (Prp c b∧Prp (cO d) d∧m b d g):=⟨f.out.2.1,qY o.2.1,L⟩;have aj:(cO d).length=d.length:=(qY o.2.1).1;have ar:d.length<c.length:=by rw[f.out.2.1.1];exact S
   have ab:Hid ((∀q∈c,RL K q)∧∀q∈cO d,RL K q):=⟨p.out.2,yP (fun n hn=>aG (U n hn) ac) (by omega)⟩;clear P F ae l o L U S f p h4;go_wp2_with fail;refine(r R _ _ X J (by omega) I).mono ?_;rintro e5 w5 ⟨v5,rfl,E,O⟩;rw[B.out] at E;replace i:=i.below O;replace j:=aC j O;clear r X J I;go_wp2_with fail;go_roundg d.length
   case rel=>exact⟨c,cO d,b,d,by unfold Hid;exact aj,i,E,HN,ab,y,by omega,j⟩
   case measure=>have:=s.out;omega
theorem UT (c:Nat) (A d:List Rat) (a b g:List Int) (i j:Value) (w:World) (e:QsAt w i A) (f:QsAt w j d) (v:Prp A a) (x:Prp d b) (T:Trc c a b g) (K:Nat) (o:∀q∈A,RL K q) (p:∀q∈d,RL K q) (k:c<=K) (l:1<=c) (s:A.length<=8) (u:d.length<=8) (n:K<=10000000):
  Calls Tryz.prog 163 #[i,j] w (jV w (cO g)):=
 US (Trc c) c (fun h t=>h.done t) (fun e f r h m=>SX e f r h m) A d a b g i j w e f v x T K o p k l s u n
theorem UY (w:World):Calls Tryz.prog 145 #[.int .i64 (-1)] w (kV w (-1)):=by
 have z:IntKind.u64.wrap (-1)=18446744073709551615:=by decide
 have A:IntKind.u64.wrap (-18446744073709551615)=1:=by decide
 have b:(1:Int)%4294967296=1:=by decide
 have C:(1:Int)/4294967296=0:=by decide
 obtain⟨W,h,a,R⟩:=bB w [.bool false,.slice none 0 0] 79;have c:=R.g2;go_enter Tryz.func145,Tryz.ntmps145;go_wp2_with fail;(try rw[h]);clear h;obtain⟨s,g,j,B⟩:=bB W [.int .u32 1,.int .u32 0] 211;rw[g];clear g;have l:=mI [1,0] W.heap.size 1 2 s B (fun d p=>by simp at p;unfold aD;omega) (by simp[nv]) aE (by simp);simp only[List.length_cons,List.length_nil] at l;refine l.mono ?_;rintro u E ⟨v,rfl,r,rfl⟩;replace R:=R.below j;replace c:=R.g2;replace a:=aC a j;go_wp2_with fail;refine(n0 true v 1 (-1) _ r (aG (bW (m:=1) (by unfold BN;omega)) (by decide)) rfl (by simp)).mono ?_;rintro x F ⟨D,rfl,b,k⟩;obtain⟨o,e,n,f,rfl⟩:=b.form;replace R:=R.below k;replace c:=R.g2;replace a:=aC a k;go_wp2_with fail;obtain⟨t,i,R,a,q,y⟩:=R.mut2 a (by omega) (.bool o) (.slice e n f) rfl rfl;replace b:=b.keep q;rw[i];clear i;replace c:=R.k2;exact aK (v:= .agg #[.bool o,.slice e n f]) (by simp[results,Tryz.results145,go_sem,R.k2]) rfl ⟨_,rfl,b,a⟩
theorem UZ (w:World):Calls Tryz.prog 93 #[.int .i64 (-1)] w (fC w (-1)):=by
 have d:Hid ((-1:Rat).num= -1∧bI (-1:Rat)=0):=⟨rfl,eK.2 rfl⟩;obtain⟨W,g,a,R⟩:=bB w [.bool false,.slice none 0 0,.bool false,.slice none 0 0] 81;have f:=R.g4;go_enter Tryz.func93,Tryz.ntmps93;go_wp2_with fail;(try rw[g]);clear g;refine(UY _).mono ?_;rintro n q ⟨p,rfl,b,i⟩;obtain⟨k,c,j,e,rfl⟩:=b.form;replace R:=R.below i;replace f:=R.g4;replace a:=aC a i;go_wp2_with fail;obtain⟨m,h,R,a,l,o⟩:=R.mut4 a (by omega) (.bool k) (.slice c j e) (.bool false) (.slice none 0 0) rfl rfl;replace b:=b.keep l;rw[h];clear h;replace f:=R.k4;exact aK (v:= .agg #[.bool k,.slice c j e,.bool false,.slice none 0 0]) (by simp[results,Tryz.results93,go_sem,R.k4]) rfl ⟨_,rfl,NQ.of b (NI.zero _) d.out.1 d.out.2,a⟩
theorem ChT.last {B:Nat} {a:List Int} {b c:Rat} {C:List (List Rat)} (h:ChT B a b [] c C):C=[]:=by
 cases h with
 |done=>rfl
 |step d=>exact absurd rfl d
theorem ChT.split {B:Nat} {a b:List Int} {g c:Rat} {C:List (List Rat)} (h:ChT B a g b c C) (d:b≠[]):∃r' f C2,C=aV c b :: C2∧ChT B b c r' f C2∧r'.length<b.length∧(∀Q R,DivQ (aV g a) (aV c b) Q R->aX aW (lO [] (-1) R)=aV f r')∧cf (aV c b) (b.length-1)≠0:=by
 cases h with
 |done=>exact absurd rfl d
 |step d h e m l k j n hn t=>
  refine⟨_,_,_,rfl,t,by rw[l];exact h.r_lt,fun Q R i=>yL d h e m k j i,?_⟩;rw[eH];exact mW e.2.1 (eV ((fV d).1 e.2.2))
theorem ChT.trim {B:Nat} {a b:List Int} {e c:Rat} {C:List (List Rat)} (h:ChT B a e b c C):aO (aV c b):=by
 cases h with
 |done=>exact fun x f=>by simp[aV] at f
 |step i h d m l k j g hn t=>exact yK (.inl d.2.1) d.2.2
theorem ChT.nums {B K:Nat} {a b:List Int} {d c:Rat} {C:List (List Rat)} (h:ChT B a d b c C) (e:∀X∈C,∀q∈X,RL K q):∀q∈aV c b,RL K q:=by
 cases h with
 |done=>exact fun q f=>by simp[aV] at f
 |step j h g n m l k i hn t=>exact e _ List.mem_cons_self
theorem IB {K:Nat} {R S:List Rat} (b:1<=K) (h:aX aW (lO [] (-1) R)=S) (c:∀q∈S,RL K q):∀q∈R,RL K q:=fun q d=>by
 obtain⟨i,hi⟩:=List.mem_iff_getElem?.1 d;have e:cf S i= -q:=by
  rw[<-h,iY,uE,fM];have:cf R i=q:=by unfold cf;rw[dF,hi];rfl
  rw[this];grind
 have a:=jE c (fU b) i;rw[e] at a;exact⟨by have:=a.1;rwa [Rat.neg_num,Int.natAbs_neg] at this,a.2⟩
theorem IC:RL 1 (-1:Rat):=⟨by rw[Rat.neg_num,Int.natAbs_neg];exact p9.1,p9.2⟩
def rJ (w:World) (L:List (List Rat)) (e:Ending) (w':World):Prop:=∃a,e= .returned a∧QQs w' w.heap.size 71 a L∧Below w.heap.size w w'
theorem QQs.one {w:World} {B:Nat} {A:Option Addr} {k c:Nat} {l:List Rat} (h:QsAt w (.slice A k c) l) (d:B<=w.heap.size):QQs (w.alloc (.cells #[.slice A k c] 71)) B 71 (.slice (some ⟨w.heap.size,0,none⟩) 1 1) [l]:=by
 refine⟨[.slice A k c],.inr ⟨w.heap.size,1,#[.slice A k c],rfl,d,heap_alloc_new w _,aE,by decide,rfl,rfl,fun u a=> ?_⟩,rfl,fun i u e a b=> ?_⟩
 ·exact⟨A,k,c,by simpa using a⟩
 ·cases i with
  |zero=>
   injection a with a;injection b with b;subst a b;exact h.below ((aH _ _).alloc aE _)
  |succ i=>simp at a
theorem zU (A:List Rat) {B:Nat} {a b:List Int} {j c:Rat} {C:List (List Rat)} (D:ChT B a j b c C) (ea:aV j a=A) (eb:aV c b=eR A) (v:Value) (w:World) (hv:QsAt w v A) (K:Nat) (hK:∀X∈A :: C,∀q∈X,RL K q) (N:1<=K) (V:A.length<=7) (bx:K<=250000000):
  Calls Tryz.prog 58 #[v] w (rJ w (A :: C)):=by
 obtain⟨A0,c0,rfl,bo⟩:=hv.form;have S:=fun W h=>F1 A (.slice A0 A.length c0) W h K (hK A List.mem_cons_self) (by omega) N (by omega);have a5:aX aW (eR A)=aV c b:=by rw[<-eb];exact nB D.trim
 rw[a5] at S;have bt:b.length<=7:=by
  have:=congrArg List.length eb;rw[eE,lK] at this;omega
 have ab:Hid (A=aV j a∧ChT B a j b c C∧([]++[A])++C=A :: C):=⟨ea.symm,D,rfl⟩;have HK:=aB hK;have l:Below w.heap.size w (w.alloc (.cells #[.slice A0 A.length c0] 71)):=(aH _ _).alloc aE _;have d:=QQs.one hv aE;replace hv:=hv.below l;unfold jV at S;unfold rJ;clear a5 eb ea D hK;go_enter Tryz.func58,Tryz.ntmps58;go_wp2_with fail;refine(S _ hv).mono ?_;rintro e1 w1 ⟨v1,rfl,ad,a3⟩;replace d:=QQs.below d a3;have f:=aC l a3;have bc:Hid (b.length=b.length):=rfl;have L:Hid ((aV c b).length=b.length):=eE c b;generalize a2:aV c b=Y at *;have av:=aB a2;obtain⟨A1,c1,rfl,bp⟩:=ad.form;clear S l a2;go_wp2_with fail;go_loopg [3,4] b.length (fun k vo vn wr=>∃(X Y:List Rat) (a b:List Int) (j c:Rat) (C' g:List (List Rat)),Hid (b.length=k)∧QQs wr w.heap.size 71 vo (g++[X])∧QsAt wr vn Y∧Hid (X=aV j a∧Y=aV c b∧ChT B a j b c C'∧(g++[X])++C'=A :: C)∧Hid (Y.length=b.length)∧X.length<=7∧g.length+b.length<=7∧Below w.heap.size w wr)
 case atStart=>exact⟨A,Y,a,b,j,c,C,[],rfl,d,ad,⟨ab.out.1,av.out.symm,ab.out.2⟩,L,V,by simp;omega,f⟩
 case round=>
  clear d ad f hv L ab av V bt bo bp bc;obtain⟨X,Y,a,b,j,c,C',g,HL,d,E,HT,L,b1,bv,f⟩:=hrel;have al:=L.out;generalize wr=F at *;obtain⟨r,ag⟩:∃r,g++[X]=r:=⟨_,rfl⟩;have t:=aB ag;rw[ag] at d;clear ag;obtain⟨Af,bw,rfl,bz⟩:=d.form;obtain⟨Ay,cy,rfl,b0⟩:=E.form;by_cases h0:b.length=0
  ·have q0:¬(0:Int)<(Y.length:Int):=by omega
   have z:r=A :: C:=by
    rw[<-t.out];have O:b=[]:=bM h0;obtain⟨-, -,h3,I⟩:=HT.out;rw[O] at h3;rw[h3.last,List.append_nil] at I;exact I
   have HE:=aB z;clear z h0 al;go_wp2_with fail;go_ret;refine⟨_,rfl,?_,f⟩;rw[<-HE.out];exact d
  ·have q0:(0:Int)<(Y.length:Int):=by omega
   have O:b≠[]:=fun e=>h0 (by rw[e];rfl);obtain⟨eX,y,D,z⟩:=HT.out;obtain⟨i,n,C2,rfl,ah,b6,T,ai⟩:=D.split O;rw[<-eX,<-y] at T;rw[<-y,<-al] at ai;have kC:∀Z∈(g++[X])++aV c b :: C2,∀q∈Z,RL K q:=by rw[z];exact HK.out
   have kX:∀q∈X,RL K q:=kC X (by simp);have kY:∀q∈Y,RL K q:=kC Y (by rw[y];simp);have kN:=ah.nums (fun Z hZ=>kC Z (by simp[hZ]));have br:=FN K (X.length-Y.length+1);have o:2^(X.length-Y.length+1)<=2^7:=cE (by decide) (by omega);have bu:=Nat.mul_le_mul o (show 3*K+1<=750000001 by omega);have a6:=fun W u v h H=>GQ X Y u v W h H K kX kY N (by omega) (by omega) ai 200000000000 (by omega) (fun _=>by omega) (by decide);have a8:=fun R W u v x h H ac (hR:∀q∈R,RL K q) V=>GL [] (-1) R u v x W h H ac K 1 (fun q hq=>by cases hq) hR IC N (by simp) V (by omega);have ar:Hid (∀Q R,DivQ X Y Q R->aX aW (lO [] (-1) R)=aV n i∧(∀q∈R,RL K q)):=fun Q R hD=>⟨T Q R hD,IB N (T Q R hD) kN⟩;have G:Hid (Y=aV c b∧ChT B b c i n C2∧((g++[X])++[Y])++C2=A :: C):=⟨y,ah,by rw[<-z,y];simp⟩;have bk:Y.length<=7:=by omega
   clear al br o bu eX y D z ah T ai kC kX kY kN HT O;have l:Below F.heap.size F (F.alloc (.cells #[.slice Ay Y.length cy] 71)):=(aH _ _).alloc aE _;have X1:=Bx.new F [.slice Ay Y.length cy] 71;replace E:=E.below l;replace d:=QQs.below d l;have b7:w.heap.size<=F.heap.size:=f.size;replace f:=aC f l;have aw:=X1.cell 0 rfl;obtain⟨bb,o,ao,ba⟩:=id d;have ap:bb.length=g.length+1:=by rw[ao,<-t.out,aY];rfl
   go_wp2_with (at_builtin;refine r8 rfl rfl 71 24 Tryz.underlying110 IE w.heap.size _ bb rfl o F.heap.size (.slice Ay Y.length cy) rfl aw ⟨_,_,_,rfl⟩ (by rw[ap];omega) (by rw[ap];unfold maxLen;omega) f.size ?_;intro v8 w8 a7 bs U);have p:=QQs.push o ao ba E a7 U;have J:=E.grown o (by decide) U;have s:=rA f U o aE;obtain⟨A8,c8,rfl,bq⟩:=p.form;have ay:(r++[Y])[g.length]? =some X:=by rw[<-t.out];simp
   have ae:(r++[Y]).length=g.length+2:=by rw[<-t.out];simp
   obtain⟨b8,u8,rfl,bn,a4,an⟩:=p.at_ ay;clear ay d E l X1 aw a7 bs U o ao ba ap f;rw[t.out] at G;obtain⟨M,af⟩:∃M,r++[Y]=M:=⟨_,rfl⟩;have aq:=aB af;rw[af] at p ae G bq⊢;clear af;obtain⟨m,hm⟩:∃m,g.length=m:=⟨_,rfl⟩;have HM:=aB hm;rw[hm] at ae a4 bv;clear hm;have b2:(M.length:Int)-2=(m:Int):=by omega
   have b3:(0:Int)<=(m:Int):=by omega
   have b4:(m:Int)<(M.length:Int):=by omega
   have b5:IntKind.i64.wrap (m:Int)=(m:Int):=IntWalk.i64_in _ ⟨by omega,by omega⟩;obtain⟨Au,cu,rfl, -⟩:=an.form;clear ae;go_wp2_with fail;rw[run_len_slice (P:=Tryz.prog) _ 110 3 _ _ _ (by simp[go_sem])];go_wp2_with fail;refine(a6 _ _ _ an J).mono ?_;rintro e4 w4 ⟨v4,u4,Q,R,rfl,I,i4,ax,bg,bi,bh,bj,aj⟩;obtain⟨az,a0⟩:=ar.out Q R ax;have am:=fun W u v x h H ac=>a8 R W u v x h H ac a0 (by omega);rw[az] at am;have a9:=fun W=>UZ W;unfold jV at am;unfold fC at a9;replace p:=QQs.below p aj;replace J:=J.below aj;replace s:=aC s aj;have bf:Hid ((aV n i).length=i.length):=eE n i;obtain⟨A4,c4,rfl, -⟩:=I.form;obtain⟨A5,c5,rfl, -⟩:=i4.form;clear a6 a8 ar az a0 ax bg bi bh bj I an a4 bn;have au:Hid (aV n i=aV n i):=rfl;generalize a1:aV n i=Y2 at *;replace au:=aB a1.symm;clear a1;go_wp2_with fail;refine(a9 _).mono ?_;rintro e5 w5 ⟨v5,rfl,h5,ak⟩;obtain⟨s5,B5,k5,d5,s6,B6,k6,d6,rfl⟩:=h5.form;go_wp2_with fail;refine(am _ _ _ _ (QsAt.nil _) h5 (i4.below ak)).mono ?_;rintro e6 w6 ⟨v6,rfl,h6,bm⟩;have hB:=aC ak bm;replace p:=QQs.below p hB;replace J:=J.below hB;replace s:=aC s hB;go_wp2_with fail;go_roundg i.length
   case rel=>exact⟨Y,Y2,b,i,c,n,C2,r,rfl,by rw[aq.out];exact p,h6,⟨G.out.1,au.out,G.out.2.1,by rw[aq.out];exact G.out.2.2⟩,bf,bk,by have:=HM.out;have:=congrArg List.length t.out;simp at this;omega,s⟩
   case measure=>have:=HL.out;omega
theorem Bx.put5n {w W:World} {B b:Nat} {t:TypeId} {j k l m n:Value} (h:Bx W b [j,k,l,m,n] t) (A:Below B w W) (a:B<=b) (d e f g i:Value) (hn:(dN (some j)&&(dN (some k)&&(dN (some l)&&(dN (some m)&&dN (some n)))))=true):
  ∃c,((((W.setCell ⟨b,0,none⟩ d).setCell ⟨b,1,none⟩ e).setCell ⟨b,2,none⟩ f).setCell ⟨b,3,none⟩ g).setCell ⟨b,4,none⟩ i=c∧Bx c b [d,e,f,g,i] t∧Below B w c∧KM W c:=by
 simp only[Bool.and_eq_true] at hn;obtain⟨H,rfl,u,o,C,M⟩:=h.mut1 A a 0 d hn.1;obtain⟨I,rfl,v,p,D,N⟩:=u.mut1 o a 1 e hn.2.1;obtain⟨J,rfl,x,q,E,O⟩:=v.mut1 p a 2 f hn.2.2.1;obtain⟨K,rfl,y,r,F,P⟩:=x.mut1 q a 3 g hn.2.2.2.1;obtain⟨L,rfl,z,s,G,Q⟩:=y.mut1 r a 4 i hn.2.2.2.2;exact⟨_,rfl,z,s,(((C.trans D).trans E).trans F).trans G⟩
def REnd (w:World) (v:Value) (f:Bool) (x:Rat):Prop:=∃h a e c i b g d,v= .agg #[.bool f,.bool h,.slice a e c,.bool i,.slice b g d]∧NQ w (.agg #[.bool h,.slice a e c,.bool i,.slice b g d]) x
theorem REnd.below {w w':World} {v:Value} {f:Bool} {x:Rat} (h:REnd w v f x) (g:Below w.heap.size w w'):REnd w' v f x:=by
 obtain⟨k,a,i,c,l,b,j,d,e,h⟩:=h;exact⟨k,a,i,c,l,b,j,d,e,h.below g⟩
theorem REnd.up {a b:World} [u:Up a b] {v:Value} {f:Bool} {x:Rat} (h:REnd a v f x):REnd b v f x:=h.below u.out
theorem I4 (x:Rat) (v:Value) (w:World) (hv:NQ w v x):Calls Tryz.prog 100 #[v] w (fun e w'=>∃l,e= .returned l∧REnd w' l false x∧Below w.heap.size w w'):=by
 obtain⟨h,a,f,c,i,b,g,d,rfl⟩:=hv.form;obtain⟨W,j,k,X,R⟩:=dI w [.bool h,.slice a f c,.bool i,.slice b g d] 81 [.bool false,.bool false,.slice none 0 0,.bool false,.slice none 0 0] 93;have r:=aa X.g4 R.g5;go_enter Tryz.func100,Tryz.ntmps100;go_wp2_with fail;(try rw[j]);clear j;obtain⟨q,n,m,o,p⟩:=R.put5n k (Nat.le_succ _) (.bool false) (.bool h) (.slice a f c) (.bool i) (.slice b g d) rfl;rw[n];exact aK (v:= .agg #[.bool false,.bool h,.slice a f c,.bool i,.slice b g d]) (by simp[results,Tryz.results100,go_sem,m.k5]) rfl ⟨_,rfl,⟨_,_,_,_,_,_,_,_,rfl,(hv.below k).keep p⟩,o⟩
def zM (w:World) (l:List UInt8) (e:Ending) (w':World):Prop:=∃v x,e= .returned (.tuple #[v,.bool (gC l)])∧REnd w' v (decide (l=[])) x∧(gC l=true->x=fL l)∧Below w.heap.size w w'
theorem zN (l:List UInt8) (w:World) (V:l.length<=1073741824):Calls Tryz.prog 51 #[.string ⟨l.toArray⟩] w (zM w l):=by
 by_cases e:l=[]
 ·have c:Hid (fL l=0∧gC l=true∧decide (l=[])=true):=by unfold Hid fL gC;simp[e]
  subst e;obtain⟨W,d,b,R⟩:=bB w [.bool false,.bool false,.slice none 0 0,.bool false,.slice none 0 0] 93;have i:=R.g5;go_enter Tryz.func51,Tryz.ntmps51;go_wp2_with fail;(try rw[d]);clear d;obtain⟨S,j,g,m,D⟩:=R.put5n b aE (.bool true) (.bool false) (.slice none 0 0) (.bool false) (.slice none 0 0) rfl;rw[j];refine aK (v:= .tuple #[.agg #[.bool true,.bool false,.slice none 0 0,.bool false,.slice none 0 0],.bool true]) (by simp[results,Tryz.results51,go_sem,g.k5]) rfl ⟨_,0,by rw[c.out.2.1],by rw[show decide (([]:List UInt8)=[])=true by simp];exact⟨_,_,_,_,_,_,_,_,rfl,NQ.zero _⟩,fun _=>c.out.1.symm,m⟩
 ·have c:Hid (decide (l=[])=false∧fL l=(d7 l).getD 0∧gC l=rd l):=by unfold Hid fL gC;simp[e]
  have hE:l.isEmpty=false:=by cases l with
   |nil=>exact absurd rfl e
   |cons a t=>rfl
  have G:=fun W=>F3 l W V;clear e;obtain⟨W,d,b,R⟩:=bB w [.bool false,.bool false,.slice none 0 0,.bool false,.slice none 0 0] 93;have i:=R.g5;go_enter Tryz.func51,Tryz.ntmps51;go_wp2_with fail;(try rw[d]);clear d;refine(G _).mono ?_;rintro Y X ⟨v1,q,rfl,f,E,B⟩;obtain⟨L,n,H,u,M,o,I,x,rfl⟩:=f.form;replace R:=R.below B;have hR:=R.lt;replace b:=aC b B;obtain⟨w2,A,k,P⟩:=bB X [.bool L,.slice n H u,.bool M,.slice o I x] 81;replace R:=R.below k;replace f:=f.below k;replace b:=aC b k;have Q:=aB E;have U:=fun W h=>I4 q (.agg #[.bool L,.slice n H u,.bool M,.slice o I x]) W h;have i:=aa R.g5 P.k4;clear E G;go_wp2_with fail;(try rw[A]);clear A;refine(U _ f).mono ?_;rintro Z w3 ⟨v3,rfl,⟨N,p,J,y,O,s,K,z,rfl,T⟩,C⟩;replace R:=R.below C;replace b:=aC b C;replace i:=R.g5;go_wp2_with fail;obtain⟨S,j,g,m,D⟩:=R.put5n b aE (.bool false) (.bool N) (.slice p J y) (.bool O) (.slice s K z) rfl;rw[j];refine aK (v:= .tuple #[.agg #[.bool false,.bool N,.slice p J y,.bool O,.slice s K z],.bool (rd l)]) (by simp[results,Tryz.results51,go_sem,g.k5]) rfl ⟨_,q,by rw[c.out.2.2],by rw[c.out.1];exact⟨_,_,_,_,_,_,_,_,rfl,T.keep D⟩,fun h=> ?_,m⟩;rw[c.out.2.2] at h;rw[c.out.2.1];obtain⟨r,F⟩:=Option.isSome_iff_exists.1 h;rw[F];exact Q.out r F
theorem zO (x y:Rat) (l m:Value) (w:World) (g:NQ w l x) (i:NQ w m y) (K:Nat) (j:RL K x) (k:RL K y) (C:2*K+1<=549755813888):Calls Tryz.prog 61 #[l,m] w (dK w (x-y).num.sign):=by
 obtain⟨I,n,E,r,J,o,F,s,rfl⟩:=g.form;obtain⟨L,p,G,t,M,q,H,z,rfl⟩:=i.form;have e:=fun W u v h A=>zY x y u v W h A K j k C;have Q:=(FA j k).1;have f:=fun W v h=>mZ (x-y) v W h (by omega);unfold fC at e;unfold dK at f;unfold dK;generalize x-y=d at *;obtain⟨W,b,a,X,Y⟩:=dI w [.bool I,.slice n E r,.bool J,.slice o F s] 81 [.bool L,.slice p G t,.bool M,.slice q H z] 81;have N:=aa X.g4 Y.g4;go_enter Tryz.func61,Tryz.ntmps61;go_wp2_with fail;(try rw[b]);clear b;refine(e _ _ _ (g.below a) (i.below a)).mono ?_;rintro O S ⟨R,rfl,B,c⟩;go_wp2_with fail;refine(f _ _ B).mono ?_;rintro P T ⟨rfl,D⟩;go_wp2_with fail;go_ret;exact⟨rfl,a.trans ((aC c D).mono a.size)⟩
theorem I9 {A:List Rat} {w:List Int} (h:Prp A w):Prp (eR A) (aQ (bA w))∧aX aW (eR A)=eR A:=by
 obtain⟨c,a,rfl⟩:=h.eq_smul
 have e:eR (aV c w)=aV c (bA w):=kU (by rw[lK,eE,eE,jF]) (fun i=>by
  rw[y5,eH,eH,pG,Rat.intCast_mul,Rat.mul_assoc];congr 2)
 have p:=iB a (jW h.2.1);rw[e];exact⟨lM p,nB p.trim⟩
theorem IA (A:List Rat) (k s:List Int) (v:Value) (w:World) (hv:QsAt w v A) (b:Prp A k) (i:Sqp 24057 k s) (m:∀q∈A,RL 1 q) (y:A.length<=7) (E:∀n∈k,nl n.natAbs<=9):
  Calls Tryz.prog 96 #[v] w (jV w (cO s)):=by
 obtain⟨o,p,rfl,ak⟩:=hv.form;obtain⟨F,J⟩:=I9 b;obtain⟨g,t,j,H,pg,ah,P⟩:=i.out;have V:=fG (o6 (K:=9) E (by have:=b.1;omega));obtain⟨-,Y,lg⟩:=uI t (by decide) b.2.1 F.2.1 (fun n hn=>aG (E n hn) (by decide)) (fun n hn=>aG (V n hn) (by decide));have x:=fun W h=>F1 A (.slice o A.length p) W h 1 m (by omega) (by decide) (by decide);rw[J] at x;have U:∀q∈eR A,RL 24057 q:=fun q B=>bU (F0 m (by omega) (by decide) q B) (by decide);have lD:=lK A;have C:∀q∈A,RL 24057 q:=fun q B=>bU (m q B) (by decide);have O:=fun W u h r=>UT 24057 A (eR A) k (aQ (bA k)) g (.slice o A.length p) u W h r b F (.inl t) 24057 C U aE (by decide) (by omega) (by omega) (by decide);have l:=qY H;have ag:(cO g).length=g.length:=l.1;have af:=List.length_pos_iff.2 j;have X:2*iJ 24057 7<=20000000:=by decide
 have ae:=fun W u h r=>GR A (cO g) (.slice o A.length p) u W h r 24057 C (yP Y (by decide)) (by decide) (by omega) (by omega) (l.ne j) 20000000 (aG (dL 2 (r5 24057 y)) X) (by decide);have HQ:Hid (∀Q R,DivQ A (cO g) Q R->mG Q=cO s∧(Q≠[]->cf Q (Q.length-1)≠0)):=fun Q R hD=>by
  obtain⟨c,hc,e⟩:=b.eq_smul;obtain⟨f,hf,I⟩:=yJ hc i.ts H j P;rw[<-e] at I;obtain⟨rfl, -⟩:=hD.unique I (l.ne j) (by omega);have Z:=iB hf i.ts;exact⟨oC Z,fun h=>Z.ne i.ne⟩
 have z:=fun (Q:List Rat) W u h d y h0=>yZ Q u W h 20000000 d (by decide) h0 y (by decide);unfold jV at x O z;unfold jV;clear U C l ag af X V lg F J t j H pg ah P Y lD m E i b;generalize eR A=D at *;generalize cO g=G at *;generalize cO s=S at *;go_enter Tryz.func96,Tryz.ntmps96;go_wp2_with fail;refine(x _ hv).mono ?_;rintro e1 w1 ⟨v1,rfl,h1,a⟩;replace hv:=hv.below a;go_wp2_with fail;refine(O _ _ hv h1).mono ?_;rintro e2 w2 ⟨v2,rfl,h2,N⟩;replace hv:=hv.below N;replace a:=aC a N;go_wp2_with fail;refine(ae _ _ hv h2).mono ?_;rintro e3 w3 ⟨v3,u3,Q,R,rfl,h3,i3,L,M,ab,ai,aj,ac⟩;replace a:=aC a ac;have d:=HQ.out Q R L;have T:=fun W u h=>z Q W u h M (by omega) d.2;rw[d.1] at T;clear d z M ab L;go_wp2_with fail;refine(T _ _ h3).mono ?_;rintro e4 w4 ⟨v4,rfl,h4,ad⟩;go_wp2_with fail;go_ret;exact⟨_,rfl,h4,aC a ad⟩
def eI (f b:Bool):Int:=if f=true then (if b=true then -1 else 1) else 0
theorem I2 (A:List Rat) (i:Int) (x:Rat): -1<=eL A i x∧eL A i x<=1:=by
 unfold eL;split
 ·exact oD _
 ·split
  ·have:=oD (cf A (A.length-1)).num;omega
  ·exact oD _
theorem I3 (ls:List (List Rat)) (B:Nat) (f bl:Bool) (x:Rat) (v u:Value) (w:World) (hv:QQs w B 71 v ls) (hx:REnd w u f x) (a8:ls.length<=1024) (K:Nat) (E:∀A∈ls,A≠[]∧A.length<=8∧∀q∈A,RL K q) (kx:RL K x) (h1:1<=K) (ax:K<=1100000000):
  Calls Tryz.prog 129 #[v,u,.bool bl] w (dK w (cC 0 (ls.map (fun A=>eL A (eI f bl) x)):Nat)):=by
 obtain⟨s1,M,k1,P,s2,N,k2,Q,rfl,hx⟩:=hx;obtain⟨A0,c0,rfl,a1⟩:=hv.form;unfold dK;obtain⟨V,U⟩:∃V,cC 0 (ls.map (fun A=>eL A (eI f bl) x))=V:=⟨_,rfl⟩;rw[U];have HV:Hid (0+cC 0 ((ls.drop 0).map (fun A=>eL A (eI f bl) x))=V):=by unfold Hid;rw[List.drop_zero,aS];exact U
 clear U
 have ad:=fun p W u h R (F:p∈ls)=>QV p x u (.agg #[.bool s1,.slice M k1 P,.bool s2,.slice N k2 Q]) W h R K (E p F).2.2 kx (by have:=(E p F).2.1;omega) (by
  have:=cZ (2*K+1) (E p F).2.1;omega)
 have an:=fun p (F:p∈ls)=>FC (E p F).2.2 kx;unfold fC at ad;obtain⟨W,eW,d,X⟩:=bB w [.bool f,.bool s1,.slice M k1 P,.bool s2,.slice N k2 Q] 93;have cM:=X.g5;go_enter Tryz.func129,Tryz.ntmps129;go_wp2_with fail;(try rw[eW]);clear eW;go_loopg [7,8,9] ls.length (fun k vb vc vi wr=>∃(j C:Nat) (b:Int),Hid (j+k=ls.length)∧vc= .int .i64 C∧vb= .int .i64 b∧vi= .int .i64 j∧C<=j∧ -1<=b∧b<=1∧Hid (C+cC b ((ls.drop j).map (fun A=>eL A (eI f bl) x))=V)∧Bx wr w.heap.size [.bool f,.bool s1,.slice M k1 P,.bool s2,.slice N k2 Q] 93∧Below w.heap.size w wr)
 case atStart=>exact⟨0,0,0,by unfold Hid;omega,rfl,rfl,rfl,aE,by decide,by decide,HV,X,d⟩
 case round=>
  clear HV X d;obtain⟨j,C,b,m,rfl,rfl,rfl,hC,ak,al,O,X,d⟩:=hrel;generalize wr=J at *;have a3:(0:Int)<=(j:Int):=by omega
  cases gk with
  |zero=>
   have hj:j=ls.length:=m.out;have HC:Hid (C=V):=by
    have:=O.out;rw[hj,List.drop_length] at this;exact this
   subst hj;go_wp2_with fail;go_ret;exact⟨by rw[HC.out];rfl,d⟩
  |succ k=>
   have ao:j<ls.length:=by have:=m.out;omega
   have a4:(j:Int)<(ls.length:Int):=by omega
   obtain⟨a,s⟩:∃a,ls[j]? =some a:=⟨_,aL ao⟩;have r:=cH s;obtain⟨bb,u,rfl,af,hu,D⟩:=(QQs.below hv d).at_ s;obtain⟨Au,cu,rfl,a2⟩:=D.form;have ah:cC b ((ls.drop j).map (fun A=>eL A (eI f bl) x))=if eL a (eI f bl) x=0 then cC b ((ls.drop (j+1)).map (fun A=>eL A (eI f bl) x)) else (if b≠0∧eL a (eI f bl) x≠b then 1 else 0)+cC (eL a (eI f bl) x) ((ls.drop (j+1)).map (fun A=>eL A (eI f bl) x)):=G0 (fun A=>eL A (eI f bl) x) s b;have i:=I2 a (eI f bl) x;have c:=O.out;rw[ah] at c;obtain⟨Y,ai,Z⟩:=E a r;have cX:=X.k5;have az:=d.size;clear ah O;obtain⟨S,T⟩:∃S,eL a (eI f bl) x=S:=⟨_,rfl⟩;rw[T] at c i;have t:=aB T;replace c:=aB c;clear T;go_upto_if 18 with fail;go_cut [10] (fun aw wx=>aw= .int .i64 S∧Below J.heap.size J wx)
   case first=>
    have ag:=List.length_pos_iff.2 Y;obtain⟨l,ac⟩:∃l,a.length-1=l:=⟨_,rfl⟩;have a7:(a.length:Int)-1=(l:Int):=by omega
    have ar:l<a.length:=by omega
    have a5:(0:Int)<=(l:Int):=by omega
    have a6:(l:Int)<(a.length:Int):=by omega
    have bc:IntKind.i64.wrap (l:Int)=(l:Int):=IntWalk.i64_in _ ⟨by omega,by omega⟩;cases f with
    |true=>
     obtain⟨b2,s3,A3,k3,c3,s4,A4,k4,c4,rfl,a0,g0,hi⟩:=D.cell ar;have au:=(jE Z (fU h1) l).1;have G:=fun W v h=>mZ (cf a l) v W h (by omega);have g:Hid ((if eI true bl<0∧a.length%2=0 then -(cf a l).num.sign else (cf a l).num.sign)=S):=by
      unfold Hid;rw[<-t.out];unfold eL;have he:eI true bl≠0:=by cases bl<;>decide
      rw[if_neg he,ac]
     have ay:=oD (cf a l).num;unfold dK at G;clear ac ag au t D Y Z r s;generalize (cf a l).num.sign=L at *;have ba:IntKind.i64.wrap (-L)= -L:=IntWalk.i64_in _ ⟨by omega,by omega⟩;go_wp2_with fail
     go_region_with (first
      |(go_at_call 81;(with_reducible refine(G _ _ hi.up).mono ?_);rintro e5 w5 ⟨rfl,ab⟩;have:=St.mk ab))
     all_goals (
      have n:=Up.out (a:=J) (b:=w5);have a9:=(n.cell (p:=⟨bb,j,none⟩) af).trans hu;cases bl with
      |false=>
       rw[show eI true false=1 from rfl,if_neg (fun h=>absurd h.1 (by decide))] at g;go_wp2_with fail;go_meet;exact⟨by rw[g.out],n⟩
      |true=>
       by_cases I:a.length%2=0
       ·have r0:(a.length:Int).tmod 2=0:=by rw[Int.tmod_eq_emod_of_nonneg (by omega)];omega
        rw[show eI true true= -1 from rfl,if_pos ⟨by decide,I⟩] at g;clear I;go_wp2_with fail;go_meet;exact⟨by rw[g.out],n⟩
       ·have r0:(a.length:Int).tmod 2=1:=by rw[Int.tmod_eq_emod_of_nonneg (by omega)];omega
        rw[if_neg (fun h=>I h.2)] at g;clear I;go_wp2_with fail;go_meet;exact⟨by rw[g.out],n⟩)
    |false=>
     have ap:=(an a r).1;have aj:=fun W u h R=>ad a W u h R r;have aq:=cZ (2*K+1) ai;have G:=fun W v h=>mZ (fQ a x) v W h (by omega);have g:Hid ((fQ a x).num.sign=S):=by
      unfold Hid;rw[<-t.out];rfl
     unfold dK at G;have av:=hx.below d;clear aq ap ac ag t Y Z r s;generalize fQ a x=y at *;go_wp2_with fail
     go_region_with (first
      |(go_at_call 99;(with_reducible refine(aj _ _ D.up av.up).mono ?_);rintro e4 w4 ⟨v4,rfl,h4,am⟩;have:=St.mk am)
      |(go_at_call 81;(with_reducible refine(G _ _ h4.up).mono ?_);rintro e5 w5 ⟨rfl,ab⟩;have:=St.mk ab))
     all_goals (
      have n:=Up.out (a:=J) (b:=w5);go_wp2_with fail;go_meet;exact⟨by rw[g.out],n⟩)
   case rest=>
    obtain⟨rfl,ae⟩:=hcut;generalize wc=wz at *;replace X:=X.below ae;replace d:=aC d ae;clear cX hu D af r s t;have e:=c.out;clear c;by_cases o:S=0
    ·subst o;rw[if_pos rfl] at e;have c:=aB e;clear e;go_wp2_with fail;go_roundg k
     case rel=>exact⟨j+1,C,b,by have:=m.out;unfold Hid;omega,rfl,rfl,by go_num,by omega,ak,al,c.out,X,d⟩
     case measure=>omega
    ·rw[if_neg o] at e;have q0:(S != 0)=true:=by simpa using o
     by_cases z:b=0
     ·subst z;rw[if_neg (fun h=>h.1 rfl),aS] at e;have c:=aB e;clear e o;go_wp2_with fail;go_roundg k
      case rel=>exact⟨j+1,C,S,by have:=m.out;unfold Hid;omega,rfl,rfl,by go_num,by omega,i.1,i.2,c.out,X,d⟩
      case measure=>omega
     ·have q1:(b != 0)=true:=by simpa using z
      by_cases H:S=b
      ·subst H;rw[if_neg (fun h=>h.2 rfl),aS] at e;have c:=aB e;clear e o z;go_wp2_with fail;go_roundg k
       case rel=>exact⟨j+1,C,S,by have:=m.out;unfold Hid;omega,rfl,rfl,by go_num,by omega,i.1,i.2,c.out,X,d⟩
       case measure=>omega
      ·rw[if_pos ⟨z,H⟩] at e;have c:=aB e;have q2:(S != b)=true:=by simpa using H
       clear e o z H;go_wp2_with fail;go_roundg k
       case rel=>exact⟨j+1,C+1,S,by have:=m.out;unfold Hid;omega,by go_num,rfl,by go_num,by omega,i.1,i.2,by have:=c.out;unfold Hid;omega,X,d⟩
       case measure=>omega
theorem H9 {n:Int} {K:Nat} (h:nl n.natAbs<=K) (a:1<=K):RL K (n:Rat):=⟨by rw[Rat.num_intCast];exact h,by rw[Rat.den_intCast];exact aG (bW (m:=1) (by unfold BN;decide)) a⟩
theorem I0 {w s:List Int} {c:List (List Int)} (h:uB w s c):∃(a b:List Int) (l o:Rat) (C:List (List Rat)),ChT 35080695 a l b o C∧aV l a=cO s∧aV o b=eR (cO s)∧(∀X∈cO s :: C,X≠[]∧X.length<=7∧∀q∈X,RL 250000000 q)∧C.length<=7∧∀i x j y,uC (cO s :: C) i x j y=jG s c i x j y:=by
 obtain⟨D,E,p, -, -⟩:=h;obtain⟨C,t,v⟩:=D.rat (by decide);have k:=p.nums;have M:=p.1;have r:=o6 k (by omega);have H:=fG r;have u:RL 144363 (1/((cf s (s.length-1):Int):Rat)):=by
  have:=jC (n:=1) (d:=cf s (s.length-1)) (K:=144363) (aG (bW (m:=1) (by unfold BN;decide)) (by decide)) (gF k _) (by decide);rwa [Rat.intCast_one] at this
 have G:RL 144364 ((aR (bA s):Int):Rat):=H9 (by rw[cI];exact lL r) (by decide);have I:(aQ (bA s)).length<=6:=by rw[cS,jF];omega
 have F:=t.sizes (by decide) 300000 (bU u (by decide)) (bU (jD u G) (by decide)) (fun n hn=>aG (H n hn) (by decide));have J:(cO s).length=s.length:=bK _;have N:=cZ 35080695 I;refine⟨_,_,_,_,C,t,(oA s).symm,by rw[oA,yH],fun X f=> ?_,by have:=t.len;omega,fun i x j y=>Cn.count (B:=0) (w:=w) v i x j y⟩;rcases List.mem_cons.1 f with rfl|f
 ·exact⟨fun e=>E.ne (bM (by rw[<-J,e];rfl)),by omega,fun q g=>bU (yP k (by decide) q g) (by decide)⟩
 ·obtain⟨L,z,A⟩:=F X f;exact⟨z,by omega,fun q g=>bU (A q g) (by omega)⟩
theorem I1 (A:List Rat) (E s:List Int) (c:List (List Int)) (f g:Bool) (x y:Rat) (v u1 u2:Value) (w:World) (hv:QsAt w v A) (pA:Prp A E) (j:uB E s c) (kA:∀q∈A,RL 1 q) (hl:A.length<=7) (t:REnd w u1 f x) (D:REnd w u2 g y) (kx:RL 250000000 x) (ky:RL 250000000 y):
  Calls Tryz.prog 62 #[v,u1,u2] w (dK w (jG s c (eI f true) x (eI g false) y)):=by
 obtain⟨A0,c0,rfl,ai⟩:=hv.form;have n:=fun W h=>IA A E s (.slice A0 A.length c0) W h pA j.2.1 kA hl j.2.2.2.2;obtain⟨a,b,fa,fb,C,Z,T,U,e,aj,ab⟩:=I0 j;have o:=fun W v h=>zU (cO s) Z T U v W h 250000000 (fun X i=>(e X i).2.2) (by decide) (e _ List.mem_cons_self).2.1 aE;have ac:=ab (eI f true) x (eI g false) y;have r:=fun (p bl:Bool) (z:Rat) (kz:RL 250000000 z) B W v u h h'=>I3 (cO s :: C) B p bl z v u W h h' (by rw[List.length_cons];omega) 250000000 (fun X i=>⟨(e X i).1,by have:=(e X i).2.1;omega,(e X i).2.2⟩) kz (by decide) (by decide);have v1:=r f true x kx;have v2:=r g false y ky;have b1:=qX ((cO s :: C).map (fun A=>eL A (eI f true) x)) 0;have b2:=qX ((cO s :: C).map (fun A=>eL A (eI g false) y)) 0;rw[bK,List.length_cons] at b1 b2;rw[<-ac];unfold uC;unfold dK at v1 v2;unfold jV at n;unfold rJ at o;unfold dK;obtain⟨s1,G,k1,N,s2,H,k2,O,rfl,t⟩:=t;obtain⟨s3,I,k3,P,s4,J,k4,Q,rfl,D⟩:=D;clear r ac ab e Z T U pA j kA kx ky;generalize cC 0 ((cO s :: C).map (fun A=>eL A (eI f true) x))=K at *;generalize cC 0 ((cO s :: C).map (fun A=>eL A (eI g false) y))=M at *;generalize cO s :: C=L at *;generalize cO s=S at *;have hw:IntKind.i64.wrap ((K:Int)-(M:Int))=(K:Int)-(M:Int):=IntWalk.i64_in _ ⟨by omega,by omega⟩;obtain⟨W,R,d,X,Y⟩:=dI w [.bool f,.bool s1,.slice G k1 N,.bool s2,.slice H k2 O] 93 [.bool g,.bool s3,.slice I k3 P,.bool s4,.slice J k4 Q] 93;have cM:=aa X.g5 Y.g5;go_enter Tryz.func62,Tryz.ntmps62;go_wp2_with fail;(try rw[R]);clear R;refine(n _ (hv.below d)).mono ?_;rintro e1 w1 ⟨ak,rfl,V,l⟩;replace X:=X.below l;replace Y:=Y.below l;replace d:=aC d l;have cX:=X.k5;have cY:=Y.k5;go_wp2_with fail;refine(o _ _ V).mono ?_;rintro e2 w2 ⟨al,rfl,k,m⟩;replace X:=X.below m;replace Y:=Y.below m;replace d:=aC d m;obtain⟨AL,cL,rfl, -⟩:=k.form;replace cX:=X.k5;replace cY:=Y.k5;have ae:REnd w2 (.agg #[.bool f,.bool s1,.slice G k1 N,.bool s2,.slice H k2 O]) f x:=⟨_,_,_,_,_,_,_,_,rfl,t.below d⟩;have af:REnd w2 (.agg #[.bool g,.bool s3,.slice I k3 P,.bool s4,.slice J k4 Q]) g y:=⟨_,_,_,_,_,_,_,_,rfl,D.below d⟩;clear n o V;go_wp2_with fail
 go_region_with (first
  |(go_at_call 129;(first|(with_reducible refine(v1 _ _ _ _ (QQs.up k) ae.up).mono ?_)|(with_reducible refine(v2 _ _ _ _ (QQs.up k) af.up).mono ?_));rintro e5 F ⟨rfl,ad⟩;have:=St.mk ad;have ag:=(X.up (b:=F)).k5;have ah:=(Y.up (b:=F)).k5))
 all_goals (
  go_wp2_with fail;go_ret;exact⟨rfl,eG (b:=F) d⟩)
def rD (w:World) (ls:List (List UInt8)) (e:Ending) (w':World):Prop:=∃v,e= .returned (.tuple #[v,.int .i64 (d8 ls)])∧QsAt w' v (mE ls)∧Below w.heap.size w w'
theorem uO (ls:List (List UInt8)):d8 ls=0∧vl ls=true∧(mE ls).length≠0∧mE ls=aN ls∨d8 ls=1∧vl ls=false∧mE ls=[]∨d8 ls=5∧vl ls=true∧mE ls=[]:=by
 have d:(aN ls).length=ls.length:=bK _;rcases pK ls with ⟨b,a,c⟩|⟨b,a⟩|⟨b,a,c⟩
 ·exact .inl ⟨b,a,by rw[qV a,d];exact fun e=>c (bM e),qV a⟩
 ·exact .inr (.inl ⟨b,a,tW a⟩)
 ·exact .inr (.inr ⟨b,a,by rw[qV a,c];rfl⟩)
theorem zA (ls:List (List UInt8)) (v:Value) (w:World) (hv:StrsAt w v ls) (d:ls.length<=7) (f:∀l∈ls,l.length<=6):Calls Tryz.prog 40 #[v] w (rD w ls):=by
 obtain⟨A,c,rfl,s⟩:=hv.form;have k:∀q∈aN ls,RL 1 q:=mC (fun l d=>aG (f l d) (by decide));have e:=fun W h=>QY ls (.slice A ls.length c) W h (by omega) (fun l d=>aG (f l d) (by decide)) (fun q r=>bU (k q r) (by decide));have p:=uO ls;unfold o8 at e;unfold rD;clear k f;generalize d8 ls=E at *;generalize mE ls=Q at *;generalize vl ls=V at *;rcases p with ⟨rfl,rfl,o, -⟩|⟨rfl,rfl,rfl⟩|⟨rfl,rfl,rfl⟩
 ·have t:((Q.length:Int)==0)=false:=by rw[beq_eq_false_iff_ne];omega
  clear o;go_enter Tryz.func40,Tryz.ntmps40;go_wp2_with fail;refine(e _ hv).mono ?_;rintro j n ⟨m,rfl,a,b⟩;obtain⟨g,i,rfl, -⟩:=a.form;go_wp2_with fail;go_ret2;exact⟨_,rfl,a,b⟩
 ·skip;go_enter Tryz.func40,Tryz.ntmps40;go_wp2_with fail;refine(e _ hv).mono ?_;rintro j n ⟨m,rfl,a,b⟩;obtain⟨g,i,rfl, -⟩:=a.form;go_wp2_with fail;go_ret2;exact⟨_,rfl,QsAt.nil _,b⟩
 ·skip;go_enter Tryz.func40,Tryz.ntmps40;go_wp2_with fail;refine(e _ hv).mono ?_;rintro j n ⟨m,rfl,a,b⟩;obtain⟨g,i,rfl, -⟩:=a.form;go_wp2_with fail;go_ret2;exact⟨_,rfl,QsAt.nil _,b⟩
def zB (w:World) (ls:List (List UInt8)) (rows:List (List (List UInt8))) (e:Ending) (w':World):Prop:=∃v,e= .returned (.tuple #[v,.int .i64 (d8 ls)])∧TsAt w' w.heap.size 22 v rows∧Below w.heap.size w w'
theorem V6 {L:List (List Rat)} {j:Nat} {a:List Rat} (h:L[j]? =some a):gG (L.take (j+1))=gG (L.take j)++[a.map bD]:=by
 rw[List.take_add_one,h,Option.toList_some];unfold gG;rw[List.map_append];rfl
theorem V7 (ls:List (List UInt8)) (rows:List (List (List UInt8))) (n:p8 ls (d8 ls) rows) (v:Value) (w:World) (hv:StrsAt w v ls) (V:ls.length<=7) (hs:∀l∈ls,l.length<=6):Calls Tryz.prog 21 #[v] w (zB w ls rows):=by
 obtain⟨A,c,rfl,hc⟩:=hv.form;have i:=fun W h=>zA ls (.slice A ls.length c) W h V hs;have J:∀q∈aN ls,RL 1 q:=mC (fun l V=>aG (hs l V) (by decide));have ap:(aN ls).length=ls.length:=bK _;have ag:=uO ls;obtain⟨C1,C2⟩:=n;unfold rD at i;unfold zB;obtain⟨E,hE⟩:∃E,d8 ls=E:=⟨_,rfl⟩;rw[hE] at ag i C1 C2⊢;clear hE;rcases ag with ⟨rfl, -, -,hQ⟩|⟨rfl, -, -⟩|⟨rfl, -, -⟩
 ·obtain⟨a0,fa,b0,fb,C,M,ea,G,ai,n⟩:=C2 rfl;rw[hQ] at i
  have Z:=fun W v h=>zU (aN ls) M ea G v W h 60000 (fun X b=>by
   rcases List.mem_cons.1 b with rfl|b
   ·exact fun q Y=>bU (J q Y) (by decide)
   ·exact(n X b).2.2) (by decide) (by omega) (by decide)
  have I:∀X∈aN ls :: C,X.length<=7∧∀q∈X,RL 60000 q:=fun X b=>by
   rcases List.mem_cons.1 b with rfl|b
   ·exact⟨by omega,fun q Y=>bU (J q Y) (by decide)⟩
   ·exact⟨(n X b).1,(n X b).2.2⟩
  have a2:(aN ls :: C).length<=8:=by
   have e:=M.len;have r:=congrArg List.length G;rw[eE,lK] at r;rw[List.length_cons];omega
  unfold rJ at Z;generalize aN ls :: C=L at *;generalize aN ls=Q at *;have aq:=fun X W v h (b:X∈L)=>RE X v W h 60000 (I X b).2 (by decide) (by have:=(I X b).1;omega);have al:=aB ai;clear C1 C2 M ea G n ai J hQ ap I;go_enter Tryz.func21,Tryz.ntmps21;go_wp2_with fail;refine(i _ hv).mono ?_;rintro e1 w1 ⟨v1,rfl,e,f⟩;obtain⟨A1,c1,rfl, -⟩:=e.form;clear i;go_wp2_with fail;refine(Z _ _ e).mono ?_;rintro e2 o ⟨v2,rfl,r,ae⟩;obtain⟨A2,c2,rfl,aw⟩:=r.form;have O:=aC f ae;have d:=aH o.heap.size o;clear Z f ae e;go_wp2_with fail;go_loopg [6,8] L.length (fun k vo vi wr=>∃j:Nat,Hid (j+k=L.length)∧vi= .int .i64 j∧TsAt wr o.heap.size 22 vo (gG (L.take j))∧Below o.heap.size o wr)
  case atStart=>exact⟨0,by unfold Hid;omega,rfl,RowsAt.nil _ _ _ _,d⟩
  case round=>
   clear d;obtain⟨j,z,rfl,g,d⟩:=hrel;generalize wr=wy at *;have az:(0:Int)<=(j:Int):=by omega
   obtain⟨Af,av,rfl,ax⟩:=g.form;cases gk with
   |zero=>
    have hj:j=L.length:=z.out;subst hj;have HF:Hid (gG (L.take L.length)=rows):=by unfold Hid;rw[List.take_length];exact al.out.symm
    rw[HF.out] at g⊢;clear HF;go_wp2_with fail;go_ret2;exact⟨_,rfl,g.mono' O.size,aC O d⟩
   |succ k=>
    have an:j<L.length:=by have:=z.out;omega
    have a1:(j:Int)<(L.length:Int):=by omega
    obtain⟨a,s⟩:∃a,L[j]? =some a:=⟨_,aL an⟩;have ad:=cH s;obtain⟨bb,u,e2,am,hu,S⟩:=(QQs.below r d).at_ s;subst e2;obtain⟨Au,cu,rfl,ay⟩:=S.form;have B:=aB (V6 s);have ab:Hid ((gG (L.take j)).length=j):=by unfold Hid gG;rw[bK,aZ];omega
    have ar:=fun W v h=>aq a W v h ad;obtain⟨R1,K⟩:∃R,gG (L.take (j+1))=R:=⟨_,rfl⟩;rw[K] at B;have ak:=aB K;clear K;generalize gG (L.take j)=R0 at *;clear s ad;go_wp2_with fail;refine(ar _ _ S).mono ?_;rintro e3 p ⟨v3,rfl,m,af⟩;obtain⟨y,F,rfl, -⟩:=m.form;obtain⟨D,N⟩:∃T,a.map bD=T:=⟨_,rfl⟩;rw[N] at m⊢;rw[N] at B;clear N;have P:Below p.heap.size p (p.alloc (.cells #[.slice y D.length F] 22)):=(aH _ _).alloc aE _;have X:=Bx.new p [.slice y D.length F] 22;have ac:=X.cell 0 rfl;have H:=aC af P;replace m:=m.below P;replace g:=g.below H;replace d:=aC d H;obtain⟨au,t,x,aj⟩:=id g;go_wp2_with (at_builtin;refine r8 rfl rfl 22 24 Tryz.underlying38 yU o.heap.size _ au rfl t p.heap.size (.slice y D.length F) rfl ac ⟨_,_,_,rfl⟩ (by rw[x,ab.out];omega) (by rw[x,ab.out];unfold maxLen;omega) d.size ?_;intro v8 w8 ah ao U);have zf:=TsAt.push t x aj m ah U;have zz:=rA d U t aE;rw[<-B.out] at zf;obtain⟨A8,c8,rfl, -⟩:=zf.form;clear ah ao U t x aj g X ac P H m d S hu am;go_wp2_with fail;go_roundg k
    case rel=>exact⟨j+1,by have:=z.out;unfold Hid;omega,by go_num,by rw[ak.out];exact zf,zz⟩
    case measure=>omega
 ·skip;obtain rfl:rows=[]:=C1 (by decide);clear C1 C2;go_enter Tryz.func21,Tryz.ntmps21;go_wp2_with fail;refine(i _ hv).mono ?_;rintro e1 w1 ⟨v1,rfl,e,f⟩;obtain⟨A1,c1,rfl, -⟩:=e.form;go_wp2_with fail;go_ret2;exact⟨_,rfl,RowsAt.nil _ _ _ _,f⟩
 ·skip;obtain rfl:rows=[]:=C1 (by decide);clear C1 C2;go_enter Tryz.func21,Tryz.ntmps21;go_wp2_with fail;refine(i _ hv).mono ?_;rintro e1 w1 ⟨v1,rfl,e,f⟩;obtain⟨A1,c1,rfl, -⟩:=e.form;go_wp2_with fail;go_ret2;exact⟨_,rfl,RowsAt.nil _ _ _ _,f⟩
