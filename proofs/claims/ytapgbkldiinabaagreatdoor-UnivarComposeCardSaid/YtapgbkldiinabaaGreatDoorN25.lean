/- Laws. -/
import Derived.Test.YtapgbkldiinabaaGreatDoorN24
set_option linter.all false
set_option maxHeartbeats 8000000
set_option maxRecDepth 99999
namespace Go.Proofs.YtapgbkldiinabaaGreatDoor
open Go.RowKit Sos Tryz
def KX(a:List Rat)(c:Rat)(b:List Rat)(va vc vb:Value)(w:World)(ha:QsAt w va a)(hc:NQ w vc c)(ah:QsAt w vb b)(K L:Nat)(N:∀q∈a,RL K q)(ac:∀q∈b,RL K q)(Q:RL L c)(t:1<=K)(bc:a.length<=1024)(bf:b.length<=1024)(hK:2*(2*K+L+1)+1<=549755813888):
  Calls prog 55 #[va,vc,vb] w (C8 w (aW aV (oA a c b))):=by
 obtain⟨A,ca,rfl,a5⟩:=ha.form;obtain⟨A',cb,rfl,a6⟩:=ah.form;obtain⟨E,m,C,p,F,n,D,r,rfl⟩:=hc.form;obtain⟨M,hM⟩:∃M,max a.length b.length=M:=⟨_,rfl⟩;have a3:max (a.length:Int) (b.length:Int)=(M:Int):=by omega
 have ar:a.length<=M:=by omega
 have a1:b.length<=M:=by omega
 have a2:M<=1024:=by omega
 have y:=XR a c b;rw[hM] at y;obtain⟨g,z⟩:∃g:Nat->Rat,g=fun j=>cf a j+c*cf b j:=⟨_,rfl⟩;have HG:Hid (∀j,g j=cf a j+c*cf b j):=fun j=>by rw[z]
 rw[<-z] at y;have o:Hid ((a++List.replicate (M-a.length) (0:Rat)).length=M):=by unfold Hid;rw[cY,dB];omega
 have ap:Hid (∀j,cf (a++List.replicate (M-a.length) (0:Rat)) j=cf a j):=CY a _;have aj:∀j,RL (2*K+L+1) (g j):=fun j=>by rw[z];exact XS N ac Q t j
 have ad:∀q∈a++List.replicate (M-a.length) 0,RL (2*K+L+1) q:=CW (XQ N t _) (by omega);have aq:Hid (∀k,∀q∈gN (a++List.replicate (M-a.length) 0) g 0 k,RL (2*K+L+1) q):=fun k=>JW ad aj (by omega);have an:Hid (∀j,RL K (cf a j)):=fun j=>lV N (iG t) j;have ao:Hid (∀j,RL K (cf b j)):=fun j=>lV ac (iG t) j;have am:=aB y;obtain⟨W,eW,e,X⟩:=bI w [.bool E,.slice m C p,.bool F,.slice n D r] 95;have af:=ha.be e;have a7:=X.lt;have ae:=e.size;clear y aj ad hM z;generalize hP:a++List.replicate (M-a.length) (0:Rat)=P at *;have HP:=aB hP;clear hP;go_enter func55,ntmps55
 go_wp2_with (first
  |(at_make;refine jT rfl rfl 95 _ 4 64 underlying54 sJ rfl (by decide) M rfl rfl (by first|rfl|omega) (by first|rfl|omega) (by omega) (by omega) ?_;intro w1 a0 B x;replace B:Rw w1 W.heap.size 4 (List.replicate M zR) 95:=B)
  |(with_reducible refine ZM rfl (d:= .tmp 15) (s:= .tmp 16) rfl rfl B rfl (af.be x) ar ?_;intro w2 I f))
 rw[HP.out,<-JV (l:=P) (g:=g) (i:=0)] at I;have V:Bx w2 w.heap.size [.bool E,.slice m C p,.bool F,.slice n D r] 95:=(f.2.2.1 w.heap.size (by omega)).trans (X.be x);have ai:=jD (aC e x) f.2 ae;generalize W.heap.size=og at *;clear eW e X af B a0 x f;go_loopg [8] b.length (fun k i wr=>∃j,Hid (j+k=b.length)∧i= .int .i64 j∧OwnQ wr og (gN P g 0 j)∧Bx wr w.heap.size [.bool E,.slice m C p,.bool F,.slice n D r] 95∧Below w.heap.size w wr)
 case atStart=>exact⟨0,by unfold Hid;omega,rfl,I,V,ai⟩
 case round=>
  clear I V ai;obtain⟨j,H,rfl,R,X,e⟩:=hrel;generalize wr=wx at *;have a8:(0:Int)<=(j:Int):=by omega
  cases gk with
  |zero=>
   have hj:j=b.length:=H.out;subst hj;have hQ:=R.nums M (by rw[o8,o.out];exact aE);rw[o8,o.out] at hQ;have al:=tZ (gN P g 0 b.length) _ wx hQ (fun q hq=>aH (aq.out _ q hq).1 (by omega)) (by rw[o8,o.out];omega);rw[am.out] at al;clear R;go_wp2_with fail;refine al.mono ?_;rintro e3 w3 ⟨v3,rfl,h3,au⟩;go_wp2;go_ret;exact⟨_,rfl,h3,aC e au⟩
  |succ k=>
   have ay:j<b.length:=by have:=H.out;omega
   have a9:(j:Int)<(b.length:Int):=by omega
   have ba:(j:Int)<(M:Int):=by omega
   obtain⟨bb,s3,A3,k3,c3,s4,A4,k4,c4,rfl,a4,g0,hi⟩:=(ah.be e).cell ay;obtain⟨S,r2,T⟩:=KY (l:=P) (g:=g) (bA j) (by rw[o.out];omega);rw[ap.out] at S;obtain⟨s5,A5,k5,c5,s6,A6,k6,c6,o0,ho⟩:=R.at_ S;have ka:=an.out j;have O:=ao.out j;have ak:=fun W u v h J=>cxY c (cf b j) u v W h J (K+L) (bU Q (by omega)) (bU O (by omega)) (by omega);have ag:=fun W u v h J=>sK (cf a j) (c*cf b j) u v W h J (L+K) (bU ka (by omega)) (o6 Q O) (by omega);rw[HG.out j] at T;have R3:=aB T;unfold eS at ak ag;have az:=hc.be e;have ol:=R.lt;have bg:=R.free;have cX:=X.k4;clear S T ka O;generalize cf a j+c*cf b j=nv at *;generalize c*cf b j=mv at *;generalize cf a j=av at *;generalize cf b j=bv at *;generalize gN P g 0 j=RW at *;go_wp2_with fail
   go_region_with (first
    |(go_at_call 94;refine(ak _ _ _ az.up hi.up).mono ?_;rintro e7 w7 ⟨v7,rfl,Y,aw⟩;obtain⟨s7,A7,k7,c7,s8,A8,k8,c8,rfl⟩:=Y.form;have:=St.mk aw;have o7:=o0.up (b:=w7) ol)
    |(go_at_call 93;refine(ag _ _ _ ho.up Y.up).mono ?_;rintro e9 G ⟨v9,rfl,Z,ax⟩;obtain⟨s9,A9,k9,c9,s0,A0,k0,c0,rfl⟩:=Z.form;have:=St.mk ax;have o9:=o0.up (b:=G) ol;have U:=R.up (b:=G);have f9:=U.free))
   all_goals (
    go_wp2_with fail;obtain⟨zR,f⟩:=U.stored r2 Z;rw[R3.out] at zR;have zX:Bx _ w.heap.size [.bool E,.slice m C p,.bool F,.slice n D r] 95:=(f.2.2.1 w.heap.size (by omega)).trans (X.up (b:=G));have zb:=jD (bJ (b:=G) e) f.2 ae;go_roundg k
    case rel=>exact⟨j+1,by have:=H.out;unfold Hid;omega,by go_num,zR,zX,zb⟩
    case measure=>omega)
def bx7{a b:List Rat}(h:a.length=0∨b.length=0):aW aV (eF a b)=[]:=by
 unfold eF;rw[if_pos (h.imp cG cG)];rfl
def bqB(a b:List Rat)(va vb:Value)(w:World)(Y:QsAt w va a)(ac:QsAt w vb b)(K:Nat)(am:∀q∈a,RL K q)(an:∀q∈b,RL K q)(S:1<=K)(bc:a.length<=1024)(bf:b.length<=1024)(hK:2*(1+a.length*(2*K+1)+2*K)+1<=549755813888):
  Calls prog 56 #[va,vb] w (C8 w (aW aV (eF a b))):=by
 obtain⟨A,ca,rfl,a6⟩:=Y.form;obtain⟨A',cb,rfl,a7⟩:=ac.form;go_enter func56,ntmps56;by_cases d:a.length=0
 ·have C:=aB (bx7 (a:=a) (b:=b) (.inl d));have I:((a.length:Int)==0)=true:=by rw[d];rfl
  clear d;go_wp2;go_ret;exact⟨_,rfl,by rw[C.out];exact QsAt.nil _,aG _ _⟩
 ·by_cases f:b.length=0
  ·have C:=aB (bx7 (a:=a) (b:=b) (.inr f));have I:((a.length:Int)==0)=false:=by simpa using d
   have p:((b.length:Int)==0)=true:=by rw[f];rfl
   clear d f;go_wp2;go_ret;exact⟨_,rfl,by rw[C.out];exact QsAt.nil _,aG _ _⟩
  ·have I:((a.length:Int)==0)=false:=by simpa using d
   have p:((b.length:Int)==0)=false:=by simpa using f
   obtain⟨M,hM⟩:∃M,M=a.length+b.length-1:=⟨_,rfl⟩;have a3:(a.length:Int)+(b.length:Int)-1=(M:Int):=by omega
   have a1:a.length+b.length=M+1:=by omega
   have a2:M<=2048:=by omega
   have x:Hid (∀j,RL K (cf a j)):=fun j=>lV am (iG S) j;have y:Hid (∀j,RL K (cf b j)):=fun j=>lV an (iG S) j;clear hM d f;go_wp2_with (at_make;refine jT rfl rfl 95 _ 4 64 underlying54 sJ rfl (by decide) M rfl rfl (by first|rfl|omega) (by first|rfl|omega) (by omega) (by omega) ?_;intro w1 ay ag ad);have P:=OwnQ.made ag;clear ag ay;clear I p;go_loopg [6] a.length (fun k i wr=>∃n O,Hid (n+k=a.length)∧i= .int .i64 n∧Hid (O.length=M)∧Hid (∀j,cf O j=conv (fun k=>if k<n then cf a k else 0) (cf b) j)∧Hid (∀q∈O,RL (1+n*(2*K+1)) q)∧OwnQ wr w.heap.size O∧Below w.heap.size w wr)
   case atStart=>exact⟨0,List.replicate M 0,by unfold Hid;omega,rfl,dB ..,(fun j=>by
    have:=CY [] M j;rw[iM,eR] at this;rw[this,lK (fun k=>if_neg (Nat.not_lt_zero k))]),(fun q H=>bU (JX M q H) (by omega)),P,ad⟩
   case round=>
    clear P ad;obtain⟨n,O,z,rfl,e,B,r,R,c⟩:=hrel;generalize wr=wy at *;have bj:(0:Int)<=(n:Int):=by omega
    cases gk with
    |zero=>
     have hn:n=a.length:=z.out;subst hn;have V:=R.nums M (by rw[e.out];exact aE);rw[e.out] at V;have ai:=tZ O _ wy V (fun q H=>aH (r.out q H).1 (by omega)) (by rw[e.out];omega);rw[bqJ B.out] at ai;clear R;go_wp2_with fail;refine ai.mono ?_;rintro e3 w3 ⟨v3,rfl,h3,ao⟩;go_wp2;go_ret;exact⟨_,rfl,h3,aC c ao⟩
    |succ k=>
     have af:n<a.length:=by have:=z.out;omega
     have bk:(n:Int)<(a.length:Int):=by omega
     obtain⟨g,s⟩:∃g:Nat->Rat,g=fun j=>cf O j+cf a n*cf b (j-n):=⟨_,rfl⟩;have HG:Hid (∀j,g (n+j)=cf O (n+j)+cf a n*cf b j):=fun j=>by rw[s];simp only[Nat.add_sub_cancel_left]
     have o:=bqI (O:=O) (a:=a) (b:=b) (i:=n) B.out (by rw[e.out];omega);have ah:1+n*(2*K+1)+(K+K)+1=1+(n+1)*(2*K+1):=by rw[Nat.succ_mul n];omega
     have E:∀j,RL (1+n*(2*K+1)) (cf O j):=fun j=>lV r.out (iG (by omega)) j
     have X:=JW (l:=O) (g:=g) (i:=n) (k:=b.length) (K:=1+(n+1)*(2*K+1)) (CW r.out (by omega)) (fun j=>by
      have:=CI (E j) (o6 (x.out n) (y.out (j-n)));rw[ah] at this;rw[s];exact this) (by omega)
     rw[<-s] at o;have ak:=aB o;have al:=aB X;have au:=dK (2*K+1) (iE af);have aj:Hid (∀j,RL (1+a.length*(2*K+1)) (cf O j)):=fun j=>bU (E j) (by omega);have N:OwnQ wy w.heap.size (gN O g n 0):=by rw[JV];exact R
     clear s o ah E X au B r R;go_wp2_with fail;go_loopg [7] b.length (fun k i wr=>∃j,Hid (j+k=b.length)∧i= .int .i64 j∧OwnQ wr w.heap.size (gN O g n j)∧Below w.heap.size w wr)
     case atStart=>exact⟨0,by unfold Hid;omega,rfl,N,c⟩
     case round=>
      clear N c;obtain⟨j,t,rfl,R,c⟩:=hrel;generalize wr=wx at *;have a8:(0:Int)<=(j:Int):=by omega
      cases gk with
      |zero=>
       have hj:j=b.length:=t.out;subst hj;go_wp2;go_roundg k
       case rel=>exact⟨n+1,gN O g n b.length,by have:=z.out;unfold Hid;omega,by go_num,by unfold Hid;rw[o8];exact e.out,ak,al,R,c⟩
       case measure=>omega
      |succ k'=>
       have ar:j<b.length:=by have:=t.out;omega
       have a9:(j:Int)<(b.length:Int):=by omega
       obtain⟨m,G⟩:∃m,n+j=m:=⟨_,rfl⟩;have bi:(n:Int)+(j:Int)=(m:Int):=by omega
       have aw:m<M:=by omega
       have bg:(0:Int)<=(m:Int):=by omega
       have bh:(m:Int)<(M:Int):=by omega
       have bm:IntKind.i64.wrap (m:Int)=(m:Int):=IntWalk.i64_in _ ⟨by omega,by omega⟩;obtain⟨ba,sa,Aa,ka,az,sb,Ab,kb,a0,rfl,a4,p0,ax⟩:=(Y.be c).cell af;obtain⟨bb,s3,A3,k3,c3,s4,A4,k4,c4,rfl,a5,g0,hi⟩:=(ac.be c).cell ar;obtain⟨p,r2,J⟩:=KY (l:=O) (g:=g) G (by rw[e.out];exact aw);obtain⟨s5,A5,k5,c5,s6,A6,k6,c6,o0,ho⟩:=R.at_ p;have F:=HG.out j;rw[G] at F;rw[F] at J;have R3:=aB J;have ae:=fun W u v h D=>cxY (cf a n) (cf b j) u v W h D K (x.out n) (y.out j) (by omega);have Z:=fun W u v h D=>sK (cf O m) (cf a n*cf b j) u v W h D (1+a.length*(2*K+1)+2*K) (bU (aj.out m) (by omega)) (bU (o6 (x.out n) (y.out j)) (by omega)) (by omega);unfold eS at ae Z;have ol:=R.lt;have bn:=R.free;clear p J F G;generalize cf O m+cf a n*cf b j=nv at *;generalize cf a n*cf b j=mv at *;generalize cf O m=av at *;generalize cf b j=bv at *;generalize cf a n=xv at *;generalize gN O g n j=RW at *;go_wp2_with fail
       go_region_with (first
        |(go_at_call 94;refine(ae _ _ _ ax.up hi.up).mono ?_;rintro e7 w7 ⟨v7,rfl,T,ap⟩;obtain⟨s7,A7,k7,c7,s8,A8,k8,c8,rfl⟩:=T.form;have:=St.mk ap;have o7:=o0.up (b:=w7) ol)
        |(go_at_call 93;refine(Z _ _ _ ho.up T.up).mono ?_;rintro e9 L ⟨v9,rfl,U,aq⟩;obtain⟨s9,A9,k9,c9,s0,A0,k0,c0,rfl⟩:=U.form;have:=St.mk aq;have o9:=o0.up (b:=L) ol;have Q:=R.up (b:=L);have f9:=Q.free))
       all_goals (
        go_wp2_with fail;obtain⟨zR,o⟩:=Q.stored r2 U;rw[R3.out] at zR;have zb:=jD (bJ (b:=L) c) o.2 aE;go_roundg k'
        case rel=>exact⟨j+1,by have:=t.out;unfold Hid;omega,by go_num,zR,zb⟩
        case measure=>omega)
