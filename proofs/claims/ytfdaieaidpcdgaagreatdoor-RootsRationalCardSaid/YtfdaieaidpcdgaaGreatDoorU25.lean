/- Laws. -/
import Derived.Test.YtfdaieaidpcdgaaGreatDoorU24
set_option linter.all false
set_option maxHeartbeats 8000000
set_option maxRecDepth 99999
namespace Go.Proofs.YtfdaieaidpcdgaaGreatDoor
open Go.RowKit Sos
def KX(a:List Rat)(c:Rat)(b:List Rat)(va vc vb:Value)(w:World)(ha:QsAt w va a)(hc:NQ w vc c)(ah:QsAt w vb b)(K L:Nat)(N:∀q∈a,RL K q)(ac:∀q∈b,RL K q)(Q:RL L c)(t:1<=K)(bc:a.length<=1024)(bf:b.length<=1024)(hK:2*(2*K+L+1)+1<=549755813888):
  Calls Tryz.prog 163 #[va,vc,vb] w (lT w (aW aV (oA a c b))):=by
 obtain⟨A,ca,rfl,a5⟩:=ha.form;obtain⟨A',cb,rfl,a6⟩:=ah.form;obtain⟨E,m,C,p,F,n,D,r,rfl⟩:=hc.form;obtain⟨M,hM⟩:∃M,max a.length b.length=M:=⟨_,rfl⟩;have a3:max (a.length:Int) (b.length:Int)=(M:Int):=by omega
 have ar:a.length<=M:=by omega
 have a1:b.length<=M:=by omega
 have a2:M<=1024:=by omega
 have y:=XR a c b;rw[hM] at y;obtain⟨g,z⟩:∃g:Nat->Rat,g=fun j=>cf a j+c*cf b j:=⟨_,rfl⟩;have HG:Hid (∀j,g j=cf a j+c*cf b j):=fun j=>by rw[z]
 rw[<-z] at y;have o:Hid ((a++List.replicate (M-a.length) (0:Rat)).length=M):=by unfold Hid;rw[bE,dB];omega
 have ap:Hid (∀j,cf (a++List.replicate (M-a.length) (0:Rat)) j=cf a j):=CY a _;have aj:∀j,RL (2*K+L+1) (g j):=fun j=>by rw[z];exact XS N ac Q t j
 have ad:∀q∈a++List.replicate (M-a.length) 0,RL (2*K+L+1) q:=CW (XQ N t _) (by omega);have aq:Hid (∀k,∀q∈gN (a++List.replicate (M-a.length) 0) g 0 k,RL (2*K+L+1) q):=fun k=>JW ad aj (by omega);have an:Hid (∀j,RL K (cf a j)):=fun j=>lV N (iG t) j;have ao:Hid (∀j,RL K (cf b j)):=fun j=>lV ac (iG t) j;have am:=aB y;obtain⟨W,eW,e,X⟩:=bI w [.bool E,.slice m C p,.bool F,.slice n D r] 108;have af:=ha.be e;have a7:=X.lt;have ae:=e.size;clear y aj ad hM z;generalize hP:a++List.replicate (M-a.length) (0:Rat)=P at *;have HP:=aB hP;clear hP;go_enter Tryz.func163,Tryz.ntmps163
 go_wp2_with (first
  |(at_make;refine jT rfl rfl 108 _ 4 64 Tryz.underlying64 sJ rfl (by decide) M rfl rfl (by first|rfl|omega) (by first|rfl|omega) (by omega) (by omega) ?_;intro w1 a0 B x;replace B:Rw w1 W.1.size 4 (List.replicate M zR) 108:=B)
  |(with_reducible refine ZM rfl (d:= .tmp 15) (s:= .tmp 16) rfl rfl B rfl (af.be x) ar ?_;intro w2 I f))
 rw[HP.out,<-JV (l:=P) (g:=g) (i:=0)] at I;have V:Bx w2 w.1.size [.bool E,.slice m C p,.bool F,.slice n D r] 108:=(f.2.2.1 w.1.size (by omega)).trans (X.be x);have ai:=jD (aC e x) f.2 ae;generalize W.1.size=og at *;clear eW e X af B a0 x f;go_loopg [8] b.length (fun k i wr=>∃j,Hid (j+k=b.length)∧i= .int .i64 j∧OwnQ wr og (gN P g 0 j)∧Bx wr w.1.size [.bool E,.slice m C p,.bool F,.slice n D r] 108∧Below w.1.size w wr)
 case atStart=>exact⟨0,by unfold Hid;omega,rfl,I,V,ai⟩
 case round=>
  clear I V ai;obtain⟨j,H,rfl,R,X,e⟩:=hrel;generalize wr=wx at *;have a8:(0:Int)<=(j:Int):=by omega
  cases gk with
  |zero=>
   have hj:j=b.length:=H.out;subst hj;have hQ:=R.nums M (by rw[o8,o.out];exact aE);rw[o8,o.out] at hQ;have al:=tZ (gN P g 0 b.length) _ wx hQ (fun q hq=>aH (aq.out _ q hq).1 (by omega)) (by rw[o8,o.out];omega);rw[am.out] at al;clear R;go_wp2_with fail;refine al.mono ?_;rintro e3 w3 ⟨v3,rfl,h3,au⟩;go_wp2;go_ret;exact⟨_,rfl,h3,aC e au⟩
  |succ k=>
   have ay:j<b.length:=by have:=H.out;omega
   have a9:(j:Int)<(b.length:Int):=by omega
   have ba:(j:Int)<(M:Int):=by omega
   obtain⟨bb,s3,A3,k3,c3,s4,A4,k4,c4,rfl,a4,g0,hi⟩:=(ah.be e).cell ay;obtain⟨S,r2,T⟩:=KY (l:=P) (g:=g) (bA j) (by rw[o.out];omega);rw[ap.out] at S;obtain⟨s5,A5,k5,c5,s6,A6,k6,c6,o0,ho⟩:=R.at_ S;have ka:=an.out j;have O:=ao.out j;have ak:=fun W u v h J=>sL c (cf b j) u v W h J (K+L) (bU Q (by omega)) (bU O (by omega)) (by omega);have ag:=fun W u v h J=>sK (cf a j) (c*cf b j) u v W h J (L+K) (bU ka (by omega)) (o6 Q O) (by omega);rw[HG.out j] at T;have R3:=aB T;unfold eS at ak ag;have az:=hc.be e;have ol:=R.lt;have bg:=R.free;have cX:=X.k4;clear S T ka O;generalize cf a j+c*cf b j=nv at *;generalize c*cf b j=mv at *;generalize cf a j=av at *;generalize cf b j=bv at *;generalize gN P g 0 j=RW at *;go_wp2_with fail
   go_region_with (first
    |(go_at_call 83;refine(ak _ _ _ az.up hi.up).mono ?_;rintro e7 w7 ⟨v7,rfl,Y,aw⟩;obtain⟨s7,A7,k7,c7,s8,A8,k8,c8,rfl⟩:=Y.form;have:=St.mk aw;have o7:=o0.up (b:=w7) ol)
    |(go_at_call 135;refine(ag _ _ _ ho.up Y.up).mono ?_;rintro e9 G ⟨v9,rfl,Z,ax⟩;obtain⟨s9,A9,k9,c9,s0,A0,k0,c0,rfl⟩:=Z.form;have:=St.mk ax;have o9:=o0.up (b:=G) ol;have U:=R.up (b:=G);have f9:=U.free))
   all_goals (
    go_wp2_with fail;obtain⟨zR,f⟩:=U.stored r2 Z;rw[R3.out] at zR;have zX:Bx _ w.1.size [.bool E,.slice m C p,.bool F,.slice n D r] 108:=(f.2.2.1 w.1.size (by omega)).trans (X.up (b:=G));have zb:=jD (bJ (b:=G) e) f.2 ae;go_roundg k
    case rel=>exact⟨j+1,by have:=H.out;unfold Hid;omega,by go_num,zR,zX,zb⟩
    case measure=>omega)
