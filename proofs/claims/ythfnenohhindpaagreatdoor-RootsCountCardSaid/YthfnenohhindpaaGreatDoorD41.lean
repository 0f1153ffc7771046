/-
  Contracts, laws: RefC.
-/
import Derived.Test.YthfnenohhindpaaGreatDoorD40
set_option linter.all false
set_option maxHeartbeats 8000000
set_option maxRecDepth 100000
namespace Go.Proofs.YthfnenohhindpaaGreatDoor
open Go.RowKit Sos
theorem GL (a:List Rat) (c:Rat) (b:List Rat) (va vc vb:Value) (w:World) (ha:QsAt w va a) (hc:NQ w vc c) (ag:QsAt w vb b) (K L:Nat) (N:∀q∈a,RL K q) (ab:∀q∈b,RL K q) (Q:RL L c) (t:1<=K) (ba:a.length<=1024) (bc:b.length<=1024) (hK:2*(2*K+L+1)+1<=549755813888):
  Calls Tryz.prog 125 #[va,vc,vb] w (jV w (aX aW (lO a c b))):=by
 obtain⟨A,ca,rfl,a4⟩:=ha.form;obtain⟨A',cb,rfl,a5⟩:=ag.form;obtain⟨E,m,C,p,F,n,D,r,rfl⟩:=hc.form;obtain⟨M,hM⟩:∃M,max a.length b.length=M:=⟨_,rfl⟩;have a2:max (a.length:Int) (b.length:Int)=(M:Int):=by omega
 have aq:a.length<=M:=by omega
 have a0:b.length<=M:=by omega
 have a1:M<=1024:=by omega
 have y:=T3 a c b;rw[hM] at y;obtain⟨g,z⟩:∃g:Nat->Rat,g=fun j=>cf a j+c*cf b j:=⟨_,rfl⟩;have HG:Hid (∀j,g j=cf a j+c*cf b j):=fun j=>by rw[z]
 rw[<-z] at y;have o:Hid ((a++List.replicate (M-a.length) (0:Rat)).length=M):=by unfold Hid;rw[aY,cN];omega
 have ao:Hid (∀j,cf (a++List.replicate (M-a.length) (0:Rat)) j=cf a j):=yT a _;have ai:∀j,RL (2*K+L+1) (g j):=fun j=>by rw[z];exact T4 N ab Q t j
 have ac:∀q∈a++List.replicate (M-a.length) 0,RL (2*K+L+1) q:=yR (T0 N t _) (by omega);have ap:Hid (∀k,∀q∈fH (a++List.replicate (M-a.length) 0) g 0 k,RL (2*K+L+1) q):=fun k=>FL ac ai (by omega);have am:Hid (∀j,RL K (cf a j)):=fun j=>jE N (fU t) j;have an:Hid (∀j,RL K (cf b j)):=fun j=>jE ab (fU t) j;have al:=aB y;obtain⟨W,eW,e,X⟩:=bB w [.bool E,.slice m C p,.bool F,.slice n D r] 81;have ae:=ha.below e;have a6:=X.lt;have ad:=e.size;clear y ai ac hM z;generalize hP:a++List.replicate (M-a.length) (0:Rat)=P at *;have HP:=aB hP;clear hP;go_enter Tryz.func125,Tryz.ntmps125
 go_wp2_with (first
  |(at_make;refine gJ rfl rfl 81 _ 4 64 Tryz.underlying71 pN rfl (by decide) M rfl rfl (by first|rfl|omega) (by first|rfl|omega) (by omega) (by omega) ?_;intro w1 az B x;replace B:Rw w1 W.heap.size 4 (List.replicate M zR) 81:=B)
  |(with_reducible refine UW rfl (d:= .tmp 15) (s:= .tmp 16) rfl rfl B rfl (ae.below x) aq ?_;intro w2 I f))
 rw[HP.out,<-FK (l:=P) (g:=g) (i:=0)] at I;have V:Bx w2 w.heap.size [.bool E,.slice m C p,.bool F,.slice n D r] 81:=(f.2.2.1 w.heap.size (by omega)).trans (X.below x);have ah:=fS (aC e x) f.2 ad;generalize W.heap.size=og at *;clear eW e X ae B az x f;go_loopg [8] b.length (fun k i wr=>∃j,Hid (j+k=b.length)∧i= .int .i64 j∧OwnQ wr og (fH P g 0 j)∧Bx wr w.heap.size [.bool E,.slice m C p,.bool F,.slice n D r] 81∧Below w.heap.size w wr)
 case atStart=>exact⟨0,by unfold Hid;omega,rfl,I,V,ah⟩
 case round=>
  clear I V ah;obtain⟨j,H,rfl,R,X,e⟩:=hrel;generalize wr=wx at *;have a7:(0:Int)<=(j:Int):=by omega
  cases gk with
  |zero=>
   have hj:j=b.length:=H.out;subst hj;have hQ:=R.nums M (by rw[lN,o.out];exact aE);rw[lN,o.out] at hQ;have ak:=qW (fH P g 0 b.length) _ wx hQ (fun q hq=>aG (ap.out _ q hq).1 (by omega)) (by rw[lN,o.out];omega);rw[al.out] at ak;clear R;go_wp2_with fail;refine ak.mono ?_;rintro e3 w3 ⟨v3,rfl,h3,ar⟩;go_wp2_with fail;go_ret;exact⟨_,rfl,h3,aC e ar⟩
  |succ k=>
   have ax:j<b.length:=by have:=H.out;omega
   have a8:(j:Int)<(b.length:Int):=by omega
   have a9:(j:Int)<(M:Int):=by omega
   obtain⟨bb,s3,A3,k3,c3,s4,A4,k4,c4,rfl,a3,g0,hi⟩:=(ag.below e).cell ax;obtain⟨S,r2,T⟩:=GM (l:=P) (g:=g) (aS j) (by rw[o.out];omega);rw[ao.out] at S;obtain⟨s5,A5,k5,c5,s6,A6,k6,c6,o0,ho⟩:=R.at_ S;have ka:=am.out j;have O:=an.out j;have aj:=fun W u v h J=>rL c (cf b j) u v W h J (K+L) (bU Q (by omega)) (bU O (by omega)) (by omega);have af:=fun W u v h J=>rK (cf a j) (c*cf b j) u v W h J (L+K) (bU ka (by omega)) (jD Q O) (by omega);rw[HG.out j] at T;have R3:=aB T;unfold fC at aj af;have ay:=hc.below e;have ol:=R.lt;have bf:=R.free;have cX:=X.k4;clear S T ka O;generalize cf a j+c*cf b j=nv at *;generalize c*cf b j=mv at *;generalize cf a j=av at *;generalize cf b j=bv at *;generalize fH P g 0 j=RW at *;go_wp2_with fail
   go_region_with (first
    |(go_at_call 94;(with_reducible refine(aj _ _ _ ay.up hi.up).mono ?_);rintro e7 w7 ⟨v7,rfl,Y,au⟩;obtain⟨s7,A7,k7,c7,s8,A8,k8,c8,rfl⟩:=Y.form;have:=St.mk au;have o7:=o0.up (b:=w7) ol)
    |(go_at_call 136;(with_reducible refine(af _ _ _ ho.up Y.up).mono ?_);rintro e9 G ⟨v9,rfl,Z,aw⟩;obtain⟨s9,A9,k9,c9,s0,A0,k0,c0,rfl⟩:=Z.form;have:=St.mk aw;have o9:=o0.up (b:=G) ol;have U:=R.up (b:=G);have f9:=U.free))
   all_goals (
    go_wp2_with fail;obtain⟨zR,f⟩:=U.stored r2 Z;rw[R3.out] at zR;have zX:Bx _ w.heap.size [.bool E,.slice m C p,.bool F,.slice n D r] 81:=(f.2.2.1 w.heap.size (by omega)).trans (X.up (b:=G));have zb:=fS (eG (b:=G) e) f.2 ad;go_roundg k
    case rel=>exact⟨j+1,by have:=H.out;unfold Hid;omega,by go_num,zR,zX,zb⟩
    case measure=>omega)
