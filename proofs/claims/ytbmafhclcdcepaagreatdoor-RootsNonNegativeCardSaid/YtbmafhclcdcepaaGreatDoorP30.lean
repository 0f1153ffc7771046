/- Laws. -/
import Derived.Test.YtbmafhclcdcepaaGreatDoorP29
set_option linter.all false
set_option maxHeartbeats 8000000
set_option maxRecDepth 99999
namespace Go.Proofs.YtbmafhclcdcepaaGreatDoor
open Go.RowKit Sos Tryz
def eI(f b:Bool):Int:=if f=true then (if b=true then -1 else 1) else 0
def MH(A:List Rat)(i:Int)(x:Rat): -1<=eT A i x∧eT A i x<=1:=by
 unfold eT;split
 ·exact qU _
 ·split
  ·have:=qU (cf A (A.length-1)).num;omega
  ·exact qU _
def E7(c:List (List Rat))(B:Nat)(f bl:Bool)(x:Rat)(v u:Value)(w:World)(hv:QQs w B 39 v c)(hx:REnd w u f x)(ba:c.length<=1024)(K:Nat)(F:∀A∈c,A≠[]∧A.length<=8∧∀q∈A,RL K q)(kx:RL K x)(h1:1<=K)(az:K<=1100000000):
  Calls prog 69 #[v,u,.bool bl] w (eO w (aY 0 (c.map (fun A=>eT A (eI f bl) x)):Nat)):=by
 obtain⟨s1,N,k1,Q,s2,O,k2,R,rfl,hx⟩:=hx;obtain⟨A0,c0,rfl,a3⟩:=hv.form;unfold eO;obtain⟨V,Y⟩:∃V,aY 0 (c.map (fun A=>eT A (eI f bl) x))=V:=⟨_,rfl⟩;rw[Y];have HV:Hid (0+aY 0 ((c.drop 0).map (fun A=>eT A (eI f bl) x))=V):=by unfold Hid;rw[List.drop_zero,bA];exact Y
 clear Y
 have af:=fun p W u h T (G:p∈c)=>CD p x u (.agg #[.bool s1,.slice N k1 Q,.bool s2,.slice O k2 R]) W h T K (F p G).2.2 kx (by have:=(F p G).2.1;omega) (by
  have:=dK (2*K+1) (F p G).2.1;omega)
 have ap:=fun p (G:p∈c)=>CJ (F p G).2.2 kx;unfold eS at af;obtain⟨W,eW,e,X⟩:=bI w [.bool f,.bool s1,.slice N k1 Q,.bool s2,.slice O k2 R] 49;have cM:=X.g5;go_enter func69,ntmps69;go_wp2_with fail;(try rw[eW]);clear eW;go_loopg [7,8,9] c.length (fun k vb vc vi wr=>∃(j C:Nat) (b:Int),Hid (j+k=c.length)∧vc= .int .i64 C∧vb= .int .i64 b∧vi= .int .i64 j∧C<=j∧ -1<=b∧b<=1∧Hid (C+aY b ((c.drop j).map (fun A=>eT A (eI f bl) x))=V)∧Bx wr w.heap.size [.bool f,.bool s1,.slice N k1 Q,.bool s2,.slice O k2 R] 49∧Below w.heap.size w wr)
 case atStart=>exact⟨0,0,0,by unfold Hid;omega,rfl,rfl,rfl,aE,by decide,by decide,HV,X,e⟩
 case round=>
  clear HV X e;obtain⟨j,C,b,n,rfl,rfl,rfl,hC,am,an,P,X,e⟩:=hrel;generalize wr=M at *;have a5:(0:Int)<=(j:Int):=by omega
  cases gk with
  |zero=>
   have hj:j=c.length:=n.out;have HC:Hid (C=V):=by
    have:=P.out;rw[hj,List.drop_length] at this;exact this
   subst hj;go_wp2;go_ret;exact⟨by rw[HC.out];rfl,e⟩
  |succ k=>
   have aq:j<c.length:=by have:=n.out;omega
   have a6:(j:Int)<(c.length:Int):=by omega
   obtain⟨a,t⟩:∃a,c[j]? =some a:=⟨_,aR aq⟩;have s:=dG t;obtain⟨bb,u,rfl,ah,hu,E⟩:=(QQs.be hv e).at_ t;obtain⟨Au,cu,rfl,a4⟩:=E.form;have aj:aY b ((c.drop j).map (fun A=>eT A (eI f bl) x))=if eT a (eI f bl) x=0 then aY b ((c.drop (j+1)).map (fun A=>eT A (eI f bl) x)) else (if b≠0∧eT a (eI f bl) x≠b then 1 else 0)+aY (eT a (eI f bl) x) ((c.drop (j+1)).map (fun A=>eT A (eI f bl) x)):=KD (fun A=>eT A (eI f bl) x) t b;have m:=MH a (eI f bl) x;have d:=P.out;rw[aj] at d;obtain⟨Z,ak,ac⟩:=F a s;have cX:=X.k5;have a1:=e.size;clear aj P;obtain⟨S,U⟩:∃S,eT a (eI f bl) x=S:=⟨_,rfl⟩;rw[U] at d m;have z:=aB U;replace d:=aB d;clear U;go_upto_if 18 with fail;go_cut [10] (fun ay wx=>ay= .int .i64 S∧Below M.heap.size M wx)
   case first=>
    have ai:=List.length_pos_iff.2 Z;obtain⟨l,ae⟩:∃l,a.length-1=l:=⟨_,rfl⟩;have a9:(a.length:Int)-1=(l:Int):=by omega
    have av:l<a.length:=by omega
    have a7:(0:Int)<=(l:Int):=by omega
    have a8:(l:Int)<(a.length:Int):=by omega
    have bg:IntKind.i64.wrap (l:Int)=(l:Int):=IntWalk.i64_in _ ⟨by omega,by omega⟩;cases f with
    |true=>
     obtain⟨b2,s3,A3,k3,c3,s4,A4,k4,c4,rfl,a2,g0,hi⟩:=E.cell av;have aw:=(lV ac (iG h1) l).1;have H:=fun W v h=>oC (cf a l) v W h (by omega);have i:Hid ((if eI true bl<0∧a.length%2=0 then -(cf a l).num.sign else (cf a l).num.sign)=S):=by
      unfold Hid;rw[<-z.out];unfold eT;have he:eI true bl≠0:=by cases bl<;>decide
      rw[if_neg he,ae]
     have a0:=qU (cf a l).num;unfold eO at H;clear ae ai aw z E Z ac s t;generalize (cf a l).num.sign=L at *;have bf:IntKind.i64.wrap (-L)= -L:=IntWalk.i64_in _ ⟨by omega,by omega⟩;go_wp2_with fail
     go_region_with (first
      |(go_at_call 27;refine(H _ _ hi.up).mono ?_;rintro e5 w5 ⟨rfl,ad⟩;have:=St.mk ad))
     all_goals (
      have o:=Up.out (a:=M) (b:=w5);have bc:=(o.cell (p:=⟨bb,j,none⟩) ah).trans hu;cases bl with
      |false=>
       rw[show eI true false=1 from rfl,if_neg (fun h=>absurd h.1 (by decide))] at i;go_wp2;go_meet;exact⟨by rw[i.out],o⟩
      |true=>
       by_cases J:a.length%2=0
       ·have r0:(a.length:Int).tmod 2=0:=by rw[Int.tmod_eq_emod_of_nonneg (by omega)];omega
        rw[show eI true true= -1 from rfl,if_pos ⟨by decide,J⟩] at i;clear J;go_wp2;go_meet;exact⟨by rw[i.out],o⟩
       ·have r0:(a.length:Int).tmod 2=1:=by rw[Int.tmod_eq_emod_of_nonneg (by omega)];omega
        rw[if_neg (fun h=>J h.2)] at i;clear J;go_wp2;go_meet;exact⟨by rw[i.out],o⟩)
    |false=>
     have ar:=(ap a s).1;have al:=fun W u h T=>af a W u h T s;have au:=dK (2*K+1) ak;have H:=fun W v h=>oC (aI a x) v W h (by omega);have i:Hid ((aI a x).num.sign=S):=by
      unfold Hid;rw[<-z.out];rfl
     unfold eO at H;have ax:=hx.be e;clear au ar ae ai z Z ac s t;generalize aI a x=y at *;go_wp2_with fail
     go_region_with (first
      |(go_at_call 111;refine(al _ _ E.up ax.up).mono ?_;rintro e4 w4 ⟨v4,rfl,h4,ao⟩;have:=St.mk ao)
      |(go_at_call 27;refine(H _ _ h4.up).mono ?_;rintro e5 w5 ⟨rfl,ad⟩;have:=St.mk ad))
     all_goals (
      have o:=Up.out (a:=M) (b:=w5);go_wp2;go_meet;exact⟨by rw[i.out],o⟩)
   case rest=>
    obtain⟨rfl,ag⟩:=hcut;generalize wc=wz at *;replace X:=X.be ag;replace e:=aC e ag;clear cX hu E ah s t z;have g:=d.out;clear d;by_cases r:S=0
    ·subst r;rw[if_pos rfl] at g;have d:=aB g;clear g;go_wp2;go_roundg k
     case rel=>exact⟨j+1,C,b,by have:=n.out;unfold Hid;omega,rfl,rfl,by go_num,by omega,am,an,d.out,X,e⟩
     case measure=>omega
    ·rw[if_neg r] at g;have q0:(S != 0)=true:=by simpa using r
     by_cases D:b=0
     ·subst D;rw[if_neg (fun h=>h.1 rfl),bA] at g;have d:=aB g;clear g r;go_wp2;go_roundg k
      case rel=>exact⟨j+1,C,S,by have:=n.out;unfold Hid;omega,rfl,rfl,by go_num,by omega,m.1,m.2,d.out,X,e⟩
      case measure=>omega
     ·have q1:(b != 0)=true:=by simpa using D
      by_cases I:S=b
      ·subst I;rw[if_neg (fun h=>h.2 rfl),bA] at g;have d:=aB g;clear g r D;go_wp2;go_roundg k
       case rel=>exact⟨j+1,C,S,by have:=n.out;unfold Hid;omega,rfl,rfl,by go_num,by omega,m.1,m.2,d.out,X,e⟩
       case measure=>omega
      ·rw[if_pos ⟨D,I⟩] at g;have d:=aB g;have q2:(S != b)=true:=by simpa using I
       clear g r D I;go_wp2;go_roundg k
       case rel=>exact⟨j+1,C+1,S,by have:=n.out;unfold Hid;omega,by go_num,rfl,by go_num,by omega,m.1,m.2,by have:=d.out;unfold Hid;omega,X,e⟩
       case measure=>omega
def E5{n:Int}{K:Nat}(h:nl n.natAbs<=K)(a:1<=K):RL K (n:Rat):=⟨by rw[Rat.num_intCast];exact h,by rw[Rat.den_intCast];exact aH (cJ (m:=1) (by unfold BN;decide)) a⟩
def bz2{w s:List Int}{c:List (List Int)}(o:Cn 110079 w s c)(p:Sz s):∃(a b:List Int) (k l:Rat) (C:List (List Rat)),ChT 110079 a k b l C∧aT k a=cE s∧aT l b=fW (cE s)∧(∀X∈cE s :: C,X≠[]∧X.length<=7∧∀q∈X,RL 250000000 q)∧C.length<=7∧∀i x j y,xT (cE s :: C) i x j y=fF s c i x j y:=by
 obtain⟨C,t,v⟩:=o.rat (by decide);have h:=p.nums;have J:=p.1;have r:=pL h (by omega);have F:=gU r;have u:RL 150 (1/((cf s (s.length-1):Int):Rat)):=by
  have:=pM (n:=1) (d:=cf s (s.length-1)) (K:=150) (aH (cJ (m:=1) (by unfold BN;decide)) (by decide)) (iU h _) (by decide);rwa [Rat.intCast_one] at this
 have E:RL 151 ((bC (bB s):Int):Rat):=E5 (by rw[dD];exact az4 r) (by decide);have G:(aS (bB s)).length<=6:=by rw[dF,lZ];omega
 have D:=t.sizes (by decide) 300000 (bU u (by decide)) (bU (o6 u E) (by decide)) (fun n hn=>aH (F n hn) (by decide));have H:(cE s).length=s.length:=cH _;have L:=dK 110079 G;refine⟨_,_,_,_,C,t,(pN s).symm,by rw[pN,CN],fun X f=> ?_,by have:=t.len;omega,fun i x j y=>Cn.count (B:=0) (w:=w) v i x j y⟩;rcases List.mem_cons.1 f with rfl|f
 ·exact⟨fun e=>o.sq.ne (bX (by rw[<-H,e];rfl)),by omega,fun q g=>bU (CU h (by decide) q g) (by decide)⟩
 ·obtain⟨I,z,A⟩:=D X f;exact⟨z,by omega,fun q g=>bU (A q g) (by omega)⟩
def bz3(A:List Rat)(w0 s:List Int)(c:List (List Int))(f g:Bool)(x y:Rat)(v u1 u2:Value)(w:World)(hv:QsAt w v A)(T:Cn 110079 w0 s c)(hz:Sz s)(ac:∀W,QsAt W v A->Calls prog 68 #[v] W (lT W (cE s)))(q:REnd w u1 f x)(r:REnd w u2 g y)(kx:RL 250000000 x)(ky:RL 250000000 y):
  Calls prog 29 #[v,u1,u2] w (eO w (fF s c (eI f true) x (eI g false) y)):=by
 obtain⟨A0,c0,rfl,ai⟩:=hv.form;have m:=fun W h=>ac W h;obtain⟨a,b,fa,fb,C,U,P,Q,e,aj,V⟩:=bz2 T hz;have n:=fun W v h=>E9 (cE s) U P Q v W h 250000000 (fun X i=>(e X i).2.2) (by decide) (e _ iC).2.1 aE;have Z:=V (eI f true) x (eI g false) y;have o:=fun (p bl:Bool) (z:Rat) (kz:RL 250000000 z) B W v u h h'=>E7 (cE s :: C) B p bl z v u W h h' (by rw[eG];omega) 250000000 (fun X i=>⟨(e X i).1,by have:=(e X i).2.1;omega,(e X i).2.2⟩) kz (by decide) (by decide);have v1:=o f true x kx;have v2:=o g false y ky;have b1:=qR ((cE s :: C).map (fun A=>eT A (eI f true) x)) 0;have b2:=qR ((cE s :: C).map (fun A=>eT A (eI g false) y)) 0;rw[cH,eG] at b1 b2;rw[<-Z];unfold xT;unfold eO at v1 v2;unfold lT at m;unfold vC at n;unfold eO;obtain⟨s1,D,k1,J,s2,E,k2,K,rfl,q⟩:=q;obtain⟨s3,F,k3,M,s4,G,k4,N,rfl,r⟩:=r;clear o Z V e U P Q T hz ac kx ky;generalize aY 0 ((cE s :: C).map (fun A=>eT A (eI f true) x))=H at *;generalize aY 0 ((cE s :: C).map (fun A=>eT A (eI g false) y))=I at *;generalize cE s :: C=L at *;generalize cE s=S at *;have hw:IntKind.i64.wrap ((H:Int)-(I:Int))=(H:Int)-(I:Int):=IntWalk.i64_in _ ⟨by omega,by omega⟩;obtain⟨W,O,d,X,Y⟩:=eL w [.bool f,.bool s1,.slice D k1 J,.bool s2,.slice E k2 K] 49 [.bool g,.bool s3,.slice F k3 M,.bool s4,.slice G k4 N] 49;have cM:=aa X.g5 Y.g5;go_enter func29,ntmps29;go_wp2_with fail;(try rw[O]);clear O;refine(m _ (hv.be d)).mono ?_;rintro e1 w1 ⟨ak,rfl,R,k⟩;replace X:=X.be k;replace Y:=Y.be k;replace d:=aC d k;have cX:=X.k5;have cY:=Y.k5;go_wp2_with fail;refine(n _ _ R).mono ?_;rintro e2 w2 ⟨al,rfl,j,l⟩;replace X:=X.be l;replace Y:=Y.be l;replace d:=aC d l;obtain⟨AL,cL,rfl, -⟩:=j.form;replace cX:=X.k5;replace cY:=Y.k5;have ae:REnd w2 (.agg #[.bool f,.bool s1,.slice D k1 J,.bool s2,.slice E k2 K]) f x:=⟨_,_,_,_,_,_,_,_,rfl,q.be d⟩;have af:REnd w2 (.agg #[.bool g,.bool s3,.slice F k3 M,.bool s4,.slice G k4 N]) g y:=⟨_,_,_,_,_,_,_,_,rfl,r.be d⟩;clear m n R;go_wp2_with fail
 go_region_with (first
  |(go_at_call 69;(first|(with_reducible refine(v1 _ _ _ _ (QQs.up j) ae.up).mono ?_)|(with_reducible refine(v2 _ _ _ _ (QQs.up j) af.up).mono ?_));rintro e5 t ⟨rfl,ad⟩;have:=St.mk ad;have ag:=(X.up (b:=t)).k5;have ah:=(Y.up (b:=t)).k5))
 all_goals (
  go_wp2;go_ret;exact⟨rfl,bJ (b:=t) d⟩)
def bxH{f:List Int}(b:Pp f)(o:Sqp 110000 f f)(c:∀n∈f,nl n.natAbs<=135)(J:f.length<=7)(v:Value)(w:World)(hv:QsAt w v (cE f)):Calls prog 68 #[v] w (lT w (cE f)):=by
 obtain⟨g,i,q,y,x,L,r⟩:=o.out;have t:Pp g:=⟨q,y,x⟩;have I:g.length=1:=by omega
 have d:=uD b.tr;have s:∀n∈g,nl n.natAbs<=110000:=fun n hn=>by
  have R:aS (bB f)=[]∨aS (bB f)≠[]:=Classical.em _;have M:=gU (pL c (by omega));exact(y5 i (by decide) b.tr (gV (lE b.tr)) (fun n hn=>aH (c n hn) (by decide)) (fun n hn=>aH (M n hn) (by decide))).2.1 n hn
 have k:=fun v W h=>aq3 b c (by decide) (by omega) (by decide) v W h;have l:=fun v u W h e=>aq4 b i (fun n hn=>by have:=c n hn;omega) (by decide) (by omega) (by decide) v u W h e;have m:=fun v u W h e=>ZB b b t r (K:=110000) (fun n hn=>aH (c n hn) (by decide)) s (by decide) (by omega) (by decide) v u W h e;have j:=fun v W h=>DB (cE f) v W h 135 (CU c (by decide)) (by decide) (fun _=>d.ne b.ne) (by rw[d.1];omega) (by decide);rw[qT d] at j;unfold lT at k l j;unfold azE at m;unfold lT;clear i q y x L r t I d s o c J b;generalize fW (cE f)=D at *;generalize cE g=G at *;generalize cE f=F at *;go_enter func68,ntmps68;go_wp2_with fail;refine(k _ _ hv).mono ?_;rintro N X ⟨S,rfl,z,a⟩;replace hv:=hv.be a;go_wp2_with fail;refine(l _ _ _ hv z).mono ?_;rintro O Y ⟨T,rfl,A,p⟩;replace hv:=hv.be p;replace a:=aC a p;go_wp2_with fail;refine(m _ _ _ hv A).mono ?_;rintro P Z ⟨U,u3,rfl,B, -,E⟩;replace a:=aC a E;go_wp2_with fail;refine(j _ _ B).mono ?_;rintro Q w4 ⟨V,rfl,C,H⟩;go_wp2;go_ret;exact⟨_,rfl,C,aC a H⟩
def bxI{W:World}(m:Glob W){a f:List Int}{c:List (List Int)}(i:Pp a)(b:∀n∈a,nl n.natAbs<=8)(e:a.length<=7)(d:DvW a f)(l:Cop (aT 1 f) (fW (aT 1 f)))(k:1<f.length)(o:StT 110079 f (aS (bB f)) c)(p g:Bool)(x y:Rat)(v u1 u2:Value)(w:World)(hv:QsAt w v (cE f))(r:REnd w u1 p x)(s:REnd w u2 g y)(u:RL 250000000 x)(z:RL 250000000 y):
  Calls prog 29 #[v,u1,u2] w (eO w (fF f c (eI p true) x (eI g false) y)):=by
 obtain⟨hn,q⟩:=azH m i b e d l k o;obtain⟨j,t⟩:=azG (Y6 i b e d);exact bz3 (cE f) f f c p g x y v u1 u2 w hv hn j (fun W h=>bxH d.pp q t j.1 v W h) r s u z
def bxG(A:List Rat)(ns:List Int)(es:List (List Int))(N:Nat->Int)(f:Bool)(x:Rat)(v u:Value)(w:World)(hv:QsAt w v A)(hx:REnd w u f x)(hs:A≠[]->(cf A (A.length-1)).num.sign=aP ns 1 0)(c:A.length=ns.length)(an:A.length<=7)(kA:∀q∈A,RL 1 q)
  (hF:A≠[]->∀v W,QsAt W v A->Calls prog 28 #[v] W (vC W (es.map cE)))(a4:es.length<=8)
  (hN:∀(j:Nat) (e:List Int),es[j]? =some e->1<e.length->∀W v u1 u2,QsAt W v (cE e)->REnd W u1 f x->REnd W u2 true 0->Calls prog 29 #[v,u1,u2] W (eO W (N j))):
  Calls prog 15 #[v,u] w (RetNg w (Y5 ns es N (if f=true then -1 else 0))):=by
 obtain⟨A0,c0,rfl,hc⟩:=hv.form;obtain⟨R,E,P,H,S,F,Q,I,rfl,hx⟩:=hx;unfold RetNg;obtain⟨g,y⟩:∃g:Prop,g=Y5 ns es N (if f=true then -1 else 0):=⟨_,rfl⟩;rw[<-y];by_cases n:A=[]
 ·have q0:((A.length:Int)==0)=true:=by rw[n];rfl
  have r:Hid g:=by rw[y];exact .inl (bX (by rw[<-c,n];rfl))
  clear n hF hN hs y c an;obtain⟨W,s,a,X⟩:=bI w [.bool f,.bool R,.slice E P H,.bool S,.slice F Q I] 49;have J:=X.g5;go_enter func15,ntmps15;go_wp2_with fail;(try rw[s]);clear s;go_ret;exact⟨true,rfl,⟨fun _=>r.out,fun _=>rfl⟩,a⟩
 ·have l0:=List.length_pos_iff.2 n;have q0:((A.length:Int)==0)=false:=by rw[beq_eq_false_iff_ne];omega
  have af:=hs n;have B:=hF n;obtain⟨m,hm⟩:∃m,A.length=m+1:=⟨A.length-1,by omega⟩;have e1:(A.length:Int)-1=(m:Int):=by omega
  have i0:(0:Int)<=(m:Int):=by omega
  have i1:(m:Int)<(A.length:Int):=by omega
  have a6:IntKind.i64.wrap (m:Int)=(m:Int):=IntWalk.i64_in _ ⟨by omega,by omega⟩;have a7:wrap64 (m:Int)=(m:Int):=by unfold wrap64;omega
  have o:Hid (g↔0<=aP ns 1 0∧¬(f=true∧A.length%2=0)∧∀j e,es[j]? =some e->j%2=0->1<e.length->N j<=0):=by
   have K:(if f=true then (-1:Int) else 0)= -1↔f=true:=by cases f<;>decide
   rw[y];unfold Hid Y5;rw[K,c];exact⟨fun h=>h.resolve_left (fun e=>by rw[e] at c;simp at c;exact n c),.inr⟩
  have O:=fun W u h=>oC (cf A m) u W h (aH (lV kA (iG (by decide)) m).1 (by decide));rw[show A.length-1=m by omega] at af;rw[af] at O;unfold eO at O;unfold vC at B;have Y:=aB hN;have az:Hid (A.length=m+1):=hm;have ai:∀e,(cE e).length=e.length:=fun e=>cH _;have U:=aB ai;obtain⟨W,s,a,X⟩:=bI w [.bool f,.bool R,.slice E P H,.bool S,.slice F Q I] 49;obtain⟨bb,s3,A3,k3,c3,s4,A4,k4,c4,rfl,au,g0,K⟩:=(hv.be a).cell (i:=m) (by omega);have J:=X.k5;clear hs hF hN n l0 af hm kA ai c an y;generalize aP ns 1 0=S1 at *;go_enter func15,ntmps15;go_wp2_with fail;(try rw[s]);(try clear s);refine(O _ _ K).mono ?_;rintro e1 w1 ⟨rfl,aj⟩;replace X:=X.be aj;replace a:=aC a aj;replace J:=X.k5;clear O K g0;by_cases z1:S1<0
  ·have p:Hid (¬g):=fun h=>by have:=(o.out.1 h).1;omega
   clear o Y B;cases f
   all_goals (
    go_wp2;go_ret;exact⟨false,rfl,⟨fun h=>(by cases h),fun h=>absurd h p.out⟩,a⟩)
  ·by_cases D:f=true∧A.length%2=0
   ·have p:Hid (¬g):=fun h=>(o.out.1 h).2.1 D;obtain⟨rfl,ay⟩:=D;have r0:(A.length:Int).tmod 2=0:=by rw[Int.tmod_eq_emod_of_nonneg (by omega)];omega
    clear o Y B ay;go_wp2;go_ret;exact⟨false,rfl,⟨fun h=>(by cases h),fun h=>absurd h p.out⟩,a⟩
   ·have ag:Hid (g↔∀j e,es[j]? =some e->j%2=0->1<e.length->N j<=0):=⟨fun h=>(o.out.1 h).2.2,fun h=>o.out.2 ⟨by omega,D,h⟩⟩;have hr:f=false∨f=true∧(A.length:Int).tmod 2=1:=by
     cases f
     ·exact .inl rfl
     ·exact .inr ⟨rfl,by rw[Int.tmod_eq_emod_of_nonneg (by omega)];have:¬A.length%2=0:=fun h=>D ⟨rfl,h⟩;omega⟩
    clear o D;have lL:(es.map cE).length=es.length:=cH _;have aq:=aB lL;clear lL;rcases hr with rfl|⟨rfl,r0⟩
    all_goals (
     go_wp2_with fail;refine(B _ _ (hv.be a)).mono ?_;rintro e2 w2 ⟨v2,rfl,l,ak⟩;obtain⟨A5,c5,rfl, -⟩:=l.form;rw[aq.out] at l⊢;replace X:=X.be ak;replace a:=aC a ak;replace J:=X.k5;clear B;go_wp2_with fail;go_loopg [6] ((es.length+1)/2) (fun k vi wr=>∃t:Nat,Hid (t+k=(es.length+1)/2)∧vi= .int .i64 ((2*t:Nat):Int)∧QQs wr w1.heap.size 39 (.slice A5 es.length c5) (es.map cE)∧Bx wr w.heap.size [.bool _,.bool R,.slice E P H,.bool S,.slice F Q I] 49∧Hid (∀q e,q<2*t->es[q]? =some e->q%2=0->1<e.length->N q<=0)∧Below w.heap.size w wr)
     case atStart=>exact⟨0,by unfold Hid;omega,rfl,l,X,fun q e M=>by omega,a⟩
     case round=>
      clear l X a;obtain⟨t,G,rfl,l,X,r,a⟩:=hrel;generalize wr=wy at *;obtain⟨j,L⟩:∃j,j=2*t:=⟨_,rfl⟩;rw[<-L] at r⊢;have HJ:=aB L;have a1:(0:Int)<=(j:Int):=by omega
      have J:=X.k5;cases gk with
      |zero=>
       have a3:¬(j:Int)<(es.length:Int):=by have:=G.out;omega
       clear L;go_wp2;go_ret;have ah:g:=ag.out.2 (fun q e d M c=>r.out q e (by have:=(List.getElem?_eq_some_iff.1 d).1;omega) d M c)
       first
        |exact⟨true,rfl,⟨fun _=>ah,fun _=>rfl⟩,a⟩
        |exact .inr ⟨rfl,ah,a⟩
      |succ k=>
       have aw:j<es.length:=by have:=G.out;omega
       have a2:(j:Int)<(es.length:Int):=by omega
       have al:(j:Int)+2=((2*(t+1):Nat):Int):=by omega
       have hp:j%2=0:=by omega
       obtain⟨e,ad⟩:∃e,es[j]? =some e:=⟨_,aR aw⟩;have ap:(es.map cE)[j]? =some (cE e):=by rw[iK,ad];rfl
       obtain⟨bq,uq,rfl,au,hu,ac⟩:=l.at_ ap;obtain⟨Au,cu,rfl,a0⟩:=ac.form;have T:=aB ad;clear L ap ad;by_cases h1:1<e.length
       ·have am:(1:Int)<((cE e).length:Int):=by rw[U.out];omega
        have ax:∀q,REnd wy (.agg #[.bool q,.bool R,.slice E P H,.bool S,.slice F Q I]) q x:=fun q=>⟨_,_,_,_,_,_,_,_,rfl,hx.be a⟩;have av:REnd wy (.agg #[.bool true,.bool false,.slice none 0 0,.bool false,.slice none 0 0]) true 0:=⟨_,_,_,_,_,_,_,_,rfl,NQ.zero _⟩;have ao:=Y.out j e T.out h1;unfold eO at ao;go_wp2_with fail
        go_region_with (first
         |(go_at_call 29;refine(ao _ _ _ _ ac.up (ax _).up av.up).mono ?_;rintro e5 w5 ⟨rfl,ar⟩;have:=St.mk ar;have X5:=X.up (b:=w5);have z2:=QQs.up (b:=w5) l;have zb:=bJ (b:=w5) a))
        all_goals (
         by_cases a5:0<N j
         ·have p:Hid (¬g):=fun h=>by
           have:=ag.out.1 h j e T.out hp h1;omega
          go_wp2;go_ret
          first
           |exact⟨false,rfl,⟨fun h=>(by cases h),fun h=>absurd h p.out⟩,zb⟩
           |exact .inl ⟨rfl,p.out,zb⟩
         ·have V:Hid (∀q e,q<2*(t+1)->es[q]? =some e->q%2=0->1<e.length->N q<=0):=fun q Z M d ae c=>by
           rcases dE q j with z|z
           ·exact r.out q Z z d ae c
           ·obtain rfl:q=j:=by have:=HJ.out;omega
            omega
          go_wp2;go_roundg k
          case rel=>exact⟨t+1,by have:=G.out;unfold Hid;omega,by rw[<-al];go_num,z2,X5,V,zb⟩
          case measure=>omega)
       ·have am:¬(1:Int)<((cE e).length:Int):=by rw[U.out];omega
        have V:Hid (∀q e,q<2*(t+1)->es[q]? =some e->q%2=0->1<e.length->N q<=0):=fun q Z M d ae c=>by
         rcases dE q j with z|z
         ·exact r.out q Z z d ae c
         ·obtain rfl:q=j:=by have:=HJ.out;omega
          rw[T.out] at d;injection d with d;subst d;exact absurd c h1
        have C:(cE e).length=0∨(cE e).length=1:=by rw[U.out];omega
        clear am;rcases C with C|C
        all_goals (
         rw[C] at hu;(try rw[C] at ac);go_wp2_with fail
         first|go_quiet (fail)|go_region_with (fail)
         go_wp2;go_roundg k
         case rel=>exact⟨t+1,by have:=G.out;unfold Hid;omega,by rw[<-al];go_num,l,X,V,⟨a.os,a.tape,a.output,a.size,a.block⟩⟩
         case measure=>omega))
def bxD{W:World}(d:Glob W){f:List Int}(i:Sz f)(j:aN f)(b:f≠[]):∃c,StT 110079 f (aS (bB f)) c:=by
 obtain⟨a,v,g,hv⟩:=aq2 W f;obtain⟨e,l,k,c, -, -,h, -⟩:=aqW (KE f v a (d.be g) hv j b i);exact⟨c,h⟩
structure NnD(ls:List (List UInt8))(i:Int)(x:Rat)(B:Bool):Prop where
 dat:∃D es N,ComDen (aU ls) D 8∧(ls≠[]->Pp (aS (cC (aU ls) D))∧(∀n∈aS (cC (aU ls) D),nl n.natAbs<=8)∧NnA (aS (cC (aU ls) D)) es i x N)
  ∧(B=true↔t6 (cC (aU ls) D) es.length N i x)∧(B=true↔Y5 (cC (aU ls) D) es N i)∧es.length<=8
  ∧(ls≠[]->∀v W,QsAt W v (aU ls)->Calls prog 28 #[v] W (vC W (es.map cE)))
  ∧(∀(j:Nat) (e:List Int),es[j]? =some e->1<e.length->∀(f:Bool),(if f=true then (-1:Int) else 0)=i->∀W v u1 u2,QsAt W v (cE e)->REnd W u1 f x->REnd W u2 true 0->Calls prog 29 #[v,u1,u2] W (eO W (N j)))
def bxE{W:World}(t:Glob W)(a:List (List UInt8))(hv:vl a=true)(I:a.length<=7)(T:∀l∈a,l.length<=6)(i:Int)(x:Rat)(hi:i=0∨i= -1)(kx:RL 1 x):∃B,NnD a i x B:=by
 have y:∀q∈aU a,RL 1 q:=pI (fun l I=>aH (T l I) (by decide));have M:=(pJ hv).2.2;have A:=VS a;obtain⟨D,o⟩:=bx0 y;have F:ComDen (aU a) D 8:=⟨o.pos,o.dvd,aH o.nl_ (by omega)⟩;by_cases C:a=[]
 ·subst C;have e:cC (aU []) D=[]:=rfl;exact⟨true,D,[],fun _=>0,F,fun h=>absurd rfl h,⟨fun _=> .inl e,fun _=>rfl⟩,⟨fun _=> .inl e,fun _=>rfl⟩,by decide,fun h=>absurd rfl h,fun j e u=>by simp at u⟩
 ·have nA:aU a≠[]:=fun e=>C (bX (by rw[<-A,e];rfl));obtain⟨b,lw,pA⟩:=bz1 o M nA;have Z:=sA _ D 1 7 y (aH o.nl_ (by omega));have s:=gU Z;obtain⟨r,N,hF,m⟩:=bxK t b s (by omega) i x;have Y:=fun e h=>Y6 b s (show(aS (cC (aU a) D)).length<=7 by omega) (m.fac.pp e h).1;have H:∀e∈r,∃c,StT 110079 e (aS (bB e)) c:=fun e h=>bxD t (azG (Y e h)).1 (m.fac.pp e h).1.tr (m.fac.pp e h).1.ne;have tn:=oO o.pos o.dvd M;have ln:(cC (aU a) D).length=a.length:=by rw[oN,A]
  have U:=bxL t tn hi (fun _=>⟨b,s,by omega,m⟩) H;have L:r.length<=8:=by have:=m.cnt;omega
  obtain⟨B,E⟩:∃B:Bool,B=true↔t6 (cC (aU a) D) r.length N i x:=by
   rcases Classical.em (t6 (cC (aU a) D) r.length N i x) with h|h
   ·exact⟨true,fun _=>h,fun _=>rfl⟩
   ·exact⟨false,fun k=>(by cases k),fun k=>absurd k h⟩
  refine⟨B,D,r,N,F,fun _=>⟨b,s,m⟩,E,E.trans U,L,fun _ v W z=> ?_,fun j e u w f R W v u1 u2 z V X=> ?_⟩
  ·have Q:azD 300000 (aS (cC (aU a) D)) (cE (aS (cC (aU a) D))) r:=by
    rcases hF with ⟨w,rfl⟩|⟨O,g,h⟩
    ·exact .inl ⟨aq7 b w,rfl⟩
    ·exact .inr ⟨_,O,g,h,DvW.refl b,rfl⟩
   exact byT Q L (DvW.refl b) (fun p K=>⟨fun n hn=>by have:=(azG (Y6 b s (by omega) K)).2 n hn;omega,by have:=K.len;omega⟩) (by decide) (by decide) (aU a) pA (fun q S=>bU (y q S) (by decide)) v W z
  ·have J:=dG u;obtain⟨d,k⟩:=m.fac.pp e J;obtain⟨c,G⟩:=H e J;have hn:=bxI t b s (by omega) d k w G f true x 0 v u1 u2 W z V X (bU kx (by decide)) (iG (by decide));have P:eI f true=i:=by rw[<-R];cases f<;>rfl
   rw[P,show eI true false=1 from rfl,m.num j e e c u d k rfl G] at hn;exact hn
def bxF{A:List Rat}{D a:Int}{K g:Nat}(h:ComDen A D K)(c:ComDen A a g)(t:aN A){n:Nat}{N:Nat->Int}{i:Int}{x:Rat}:t6 (cC A D) n N i x↔t6 (cC A a) n N i x:=by
 by_cases b:A=[]
 ·subst b;exact Iff.rfl
 ·have d:cC A D≠[]:=fun e=>b ((az9 _ D).1 e);have f:cC A a≠[]:=fun e=>b ((az9 _ a).1 e);have e:∀i x,aP (cC A D) i x=aP (cC A a) i x:=fun i x=>by
   rw[<-azS (oO h.pos h.dvd t) d,<-azS (oO c.pos c.dvd t) f,bx3 h c t b]
  unfold t6;rw[e,e];exact⟨fun h=> .inr (h.resolve_left d),fun h=> .inr (h.resolve_left f)⟩
def y8(w:World)(B:Bool)(E:Int)(e:Ending)(w':World):Prop:=e= .returned (.tuple #[.bool B,.int .i64 E])∧Below w.heap.size w w'
def Q5(w:World)(B:Bool)(e:Ending)(w':World):Prop:=e= .returned (.bool B)∧Below w.heap.size w w'
def RetNg.bo{w:World}{P:Prop}{B:Bool}(a:B=true↔P){e:Ending}{w':World}(h:RetNg w P e w'):Q5 w B e w':=by
 obtain⟨b,rfl,c,h⟩:=h;have e:b=B:=Bool.eq_iff_iff.2 (c.trans a.symm);exact⟨by rw[e],h⟩
def NnD.prg{a:List (List UInt8)}{i:Int}{x:Rat}{B:Bool}(h:NnD a i x B)(hv:vl a=true)(c:a.length<=7)(s:∀l∈a,l.length<=6)(hi:i=0∨i= -1)(y:RL 1 x)(D:Int)(b:ComDen (aU a) D 8)(W:World)(v u:Value)(o:Glob W)(t:WholeAt W v (cC (aU a) D))(w:EndAt W u i x):
  Calls prog 18 #[v,u] W (Q5 W B):=by
 obtain⟨z,k,N,f,m,n, -⟩:=h.dat;have p:∀q∈aU a,RL 1 q:=pI (fun l c=>aH (s l c) (by decide));have d:=(pJ hv).2.2;have j:=VS a;refine(bxJ (cC (aU a) D) i x k N v u W o t w (oO b.pos b.dvd d) (by rw[oN,j];exact c) (sA _ D 1 8 p b.nl_) hi y (fun hn=> ?_)).mono (fun e A r=>r.bo (n.trans (bxF f b d)));have g:aU a≠[]:=fun e=>hn (by rw[e];rfl);rw[bx3 b f d g];exact m (fun e=>g (by rw[e];rfl))
def NnD.ref{a:List (List UInt8)}{i:Int}{x:Rat}{B:Bool}(h:NnD a i x B)(hv:vl a=true)(d:a.length<=7)(w:∀l∈a,l.length<=6)(f:Bool)(s:(if f=true then (-1:Int) else 0)=i)(W:World)(v u:Value)(y:QsAt W v (aU a))(z:REnd W u f x):
  Calls prog 15 #[v,u] W (Q5 W B):=by
 obtain⟨D,g,N,c,E, -,m,A,hF,p⟩:=h.dat;have o:∀q∈aU a,RL 1 q:=pI (fun l d=>aH (w l d) (by decide));have C:=VS a;have n:=c.pos;subst s;refine(bxG (aU a) (cC (aU a) D) g N f x v u W y z (fun hn=> ?_) (oN _ D).symm (by omega) o (fun hn=>hF (fun e=>hn (by rw[e];rfl))) A (fun j e r k=>p j e r k f rfl)).mono (fun e F t=>t.bo m);rw[Q8 1 (by decide),oN];have e:=JC (aU a) D c.dvd ((aU a).length-1);have b:((cf (cC (aU a) D) ((aU a).length-1):Int):Rat).num.sign=(cf (aU a) ((aU a).length-1)).num.sign:=by
  rw[e,Rat.mul_comm];exact tU (by exact_mod_cast n) _
 rw[xJ] at b;exact b.symm
def az5(b:List (List UInt8))(a:List UInt8)(B:Bool)(E:Int):Prop:=(vl b=true∧nJ a=true∧E=0∧NnD b (lC a (-1)) (m5 a) B)∨(¬(vl b=true∧nJ a=true)∧E=1∧B=false)
def aqA{W:World}(d:Glob W)(b:List (List UInt8))(a:List UInt8)(f:b.length<=7)(g:∀l∈b,l.length<=6)(e:a.length<=18):∃B E,az5 b a B E:=by
 by_cases h:vl b=true∧nJ a=true
 ·obtain⟨B,c⟩:=bxE d b h.1 f g (lC a (-1)) (m5 a) (by unfold lC;split<;>omega) (KR e);exact⟨B,0,.inl ⟨h.1,h.2,rfl,c⟩⟩
 ·exact⟨false,1,.inr ⟨h,rfl,rfl⟩⟩
def aqB(b:List (List UInt8))(a:List UInt8)(B:Bool)(E:Int)(s:az5 b a B E)(v:Value)(w:World)(f:Glob w)(hv:StrsAt w v b)(i:b.length<=7)(p:∀l∈b,l.length<=6)(Z:a.length<=18):
  Calls prog 8 #[v,.string ⟨a.toArray⟩] w (y8 w B E):=by
 obtain⟨A,c,rfl,hc⟩:=hv.form;have C:∀q∈aU b,RL 1 q:=pI (fun l i=>aH (p l i) (by decide));have x:=fun W f h=>VD b (.slice A b.length c) W f h (by omega) (fun _ l i=>aH (p l i) (by decide)) 1 8 7 (fun _=>C) (fun _=>i) (by decide) (by decide) (by unfold aJ;decide);have t:=fun W f=>J2 a (-1) W f (by omega);have m:Hid (vl b=true->nJ a=true->E=0∧∀D,ComDen (aU b) D 8->∀W v u,Glob W->WholeAt W v (cC (aU b) D)->EndAt W u (lC a (-1)) (m5 a)->Calls prog 18 #[v,u] W (Q5 W B)):=fun o r=>by
  rcases s with ⟨-, -,e,U⟩|⟨e, -⟩
  ·exact⟨e,U.prg o i p (by unfold lC;split<;>omega) (KR Z)⟩
  ·exact absurd ⟨o,r⟩ e
 have k:Hid (¬(vl b=true∧nJ a=true)->E=1∧B=false):=fun h=>by
  rcases s with ⟨o,r, -⟩|⟨-,e⟩
  ·exact absurd ⟨o,r⟩ h
  ·exact e
 unfold VB at x;unfold J1 at t;unfold y8;clear s C p;generalize vl b=V at *;generalize nJ a=oa at *;generalize lC a (-1)=I at *;generalize m5 a=xa at *;go_enter func8,ntmps8;go_wp2_with fail;refine(x _ f hv).mono ?_;rintro e1 w1 ⟨v1,ad,xs,D,rfl,j,Y,N,d⟩;obtain⟨A1,c1,rfl, -⟩:=j.form;obtain⟨s2,O,k2,R,rfl⟩:=Y.form;obtain⟨w2,y,G,F⟩:=bI w1 [.bool s2,.slice O k2 R] 54;replace j:=j.be G;replace d:=aC d G;have n:=aB N;clear N x;have cF:=F.k2;go_wp2_with fail;(try rw[y]);(try clear y);refine(t _ (f.be d)).mono ?_;rintro e3 w3 ⟨v3,rfl,e,H⟩;obtain⟨s4,P,k4,S,s5,Q,k5,T,rfl⟩:=e.form;obtain⟨w4,g,J,X⟩:=bI w3 [.bool s4,.slice P k4 S,.bool s5,.slice Q k5 T,.int .i64 I] 60;replace e:=e.be J;have z:=aC H J;replace j:=j.be z;replace d:=aC d z;have cX:=X.k5;clear t;cases V with
 |false=>
  obtain⟨rfl,rfl⟩:=k.out (by simp);clear k m n;go_wp2_with fail;(try rw[g]);(try clear g);go_ret2;exact⟨rfl,d⟩
 |true=>
  cases oa with
  |false=>
   obtain⟨rfl,rfl⟩:=k.out (by simp);clear k m n;go_wp2_with fail;(try rw[g]);(try clear g);go_ret2;exact⟨rfl,d⟩
  |true=>
   obtain⟨rfl,K⟩:=n.out rfl;obtain⟨rfl,M⟩:=m.out rfl rfl;have L:=M D K;unfold Q5 at L;clear k m n M K;generalize cC (aU b) D=ns at *;go_wp2_with fail;(try rw[g]);(try clear g);refine(L _ _ _ (f.be d) j e).mono ?_;rintro e5 w5 ⟨rfl,ac⟩;go_wp2;go_ret2;exact⟨rfl,aC d ac⟩
def bx8(a:List (List UInt8))(B:Bool)(E:Int)(b:az5 a [] B E)(v:Value)(w:World)(f:Glob w)(hv:StrsAt w v a)(h:a.length<=7)(e:∀l∈a,l.length<=6):
  Calls prog 6 #[v] w (y8 w B E):=by
 obtain⟨A,c,rfl,j⟩:=hv.form;have d:=aqB a [] B E b (.slice A a.length c) w f hv h e (by decide);unfold y8 at d;unfold y8;clear b e;go_enter func6,ntmps6;go_wp2_with fail;refine d.mono ?_;rintro i k ⟨rfl,g⟩;go_wp2;go_ret2;exact⟨rfl,g⟩
def bx9(b:List (List UInt8))(a:List UInt8)(B:Bool)(E:Int)(s:az5 b a B E)(v:Value)(w:World)(hv:StrsAt w v b)(k:b.length<=7)(p:∀l∈b,l.length<=6)(ha:a.length<=18):
  Calls prog 9 #[v,.string ⟨a.toArray⟩] w (y8 w B E):=by
 obtain⟨A,c,rfl,hc⟩:=hv.form;have G:∀q∈aU b,RL 1 q:=pI (fun l k=>aH (p l k) (by decide));have x:=fun W h=>VQ b (.slice A b.length c) W h (by omega) (fun l k=>aH (p l k) (by decide)) (fun q T=>bU (G q T) (by decide));have t:=fun W=>bz4 a W (by omega);have n:Hid (vl b=true->oP b=aU b):=tW;have m:Hid (vl b=true->nJ a=true->E=0∧∀W v u,QsAt W v (aU b)->REnd W u (decide (a=[])) (m5 a)->Calls prog 15 #[v,u] W (Q5 W B)):=fun d r=>by
  rcases s with ⟨-, -,e,R⟩|⟨e, -⟩
  ·exact⟨e,R.ref d k p (decide (a=[])) (by unfold lC;by_cases h:a=[]<;>simp[h])⟩
  ·exact absurd ⟨d,r⟩ e
 have j:Hid (¬(vl b=true∧nJ a=true)->E=1∧B=false):=fun h=>by
  rcases s with ⟨d,r, -⟩|⟨-,e⟩
  ·exact absurd ⟨d,r⟩ h
  ·exact e
 unfold qP at x;unfold bx6 at t;unfold y8;clear s G p;generalize vl b=V at *;generalize oP b=Q at *;generalize aU b=P at *;generalize nJ a=Y at *;generalize decide (a=[])=f at *;generalize m5 a=xa at *;go_enter func9,ntmps9;go_wp2_with fail;refine(x _ hv).mono ?_;rintro e1 w1 ⟨v1,rfl,d,g⟩;obtain⟨A1,c1,rfl, -⟩:=d.form;clear x;go_wp2_with fail;refine(t _).mono ?_;rintro e3 Z ⟨v3,x3,rfl,⟨N,y,L,C,O,z,M,D,rfl,e⟩,K,H⟩;obtain⟨w4,i,I,X⟩:=bI Z [.bool f,.bool N,.slice y L C,.bool O,.slice z M D] 49;replace e:=e.be I;have F:=aC H I;replace d:=d.be F;replace g:=aC g F;have cX:=X.k5;have o:=aB K;clear t K;cases V with
 |false=>
  obtain⟨rfl,rfl⟩:=j.out (by simp);clear j m n o;go_wp2_with fail;(try rw[i]);(try clear i);go_ret2;exact⟨rfl,g⟩
 |true=>
  cases Y with
  |false=>
   obtain⟨rfl,rfl⟩:=j.out (by simp);clear j m n o;go_wp2_with fail;(try rw[i]);(try clear i);go_ret2;exact⟨rfl,g⟩
  |true=>
   obtain rfl:=n.out rfl;obtain rfl:=o.out rfl;obtain⟨rfl,J⟩:=m.out rfl rfl;unfold Q5 at J;clear j m n o;have U:REnd w4 (.agg #[.bool f,.bool N,.slice y L C,.bool O,.slice z M D]) f x3:=⟨_,_,_,_,_,_,_,_,rfl,e⟩;go_wp2_with fail;(try rw[i]);(try clear i);refine(J _ _ _ d U).mono ?_;rintro e5 w5 ⟨rfl,S⟩;go_wp2;go_ret2;exact⟨rfl,aC g S⟩
def bxA(a:List (List UInt8))(B:Bool)(E:Int)(k:az5 a [] B E)(v:Value)(w:World)(hv:StrsAt w v a)(e:a.length<=7)(f:∀l∈a,l.length<=6):
  Calls prog 7 #[v] w (y8 w B E):=by
 obtain⟨A,c,rfl,I⟩:=hv.form;have o:∀q∈aU a,RL 1 q:=pI (fun l e=>aH (f l e) (by decide));have n:=fun W h=>VQ a (.slice A a.length c) W h (by omega) (fun l e=>aH (f l e) (by decide)) (fun q y=>bU (o q y) (by decide));have j:Hid (vl a=true->oP a=aU a):=tW;have g:Hid (vl a=true->E=0∧∀W v u,QsAt W v (aU a)->REnd W u true 0->Calls prog 15 #[v,u] W (Q5 W B)):=fun b=>by
  rcases k with ⟨-, -,d,s⟩|⟨d, -⟩
  ·exact⟨d,fun W v u h r=>s.ref b e f true rfl W v u h r⟩
  ·exact absurd ⟨b,rfl⟩ d
 have i:Hid (¬vl a=true->E=1∧B=false):=fun h=>by
  rcases k with ⟨b,H, -⟩|⟨-,d⟩
  ·exact absurd b h
  ·exact d
 unfold qP at n;unfold y8;clear k o f;generalize vl a=V at *;generalize oP a=Q at *;generalize aU a=P at *;go_enter func7,ntmps7;go_wp2_with fail;refine(n _ hv).mono ?_;rintro F z ⟨J,rfl,b,m⟩;obtain⟨C,D,rfl, -⟩:=b.form;clear n;cases V with
 |false=>
  obtain⟨rfl,rfl⟩:=i.out (by simp);clear i g j;go_wp2;go_ret2;exact⟨rfl,m⟩
 |true=>
  obtain rfl:=j.out rfl;obtain⟨rfl,p⟩:=g.out rfl;unfold Q5 at p;clear i g j;have x:REnd z (.agg #[.bool true,.bool false,.slice none 0 0,.bool false,.slice none 0 0]) true 0:=⟨_,_,_,_,_,_,_,_,rfl,NQ.zero _⟩;go_wp2_with fail;refine(p _ _ _ b x).mono ?_;rintro G K ⟨rfl,t⟩;go_wp2;go_ret2;exact⟨rfl,aC m t⟩
def bxB{W:World}(c:Glob W)(b:List (List UInt8))(a:List UInt8)(e:b.length<=7)(f:∀l∈b,l.length<=6)(d:a.length<=18):∃B E,(∀w v,Glob w->StrsAt w v b->Calls prog 8 #[v,.string ⟨a.toArray⟩] w (y8 w B E))∧∀w v,StrsAt w v b->Calls prog 9 #[v,.string ⟨a.toArray⟩] w (y8 w B E):=by
 obtain⟨B,E,g⟩:=aqA c b a e f d;exact⟨B,E,fun w v c h=>aqB b a B E g v w c h e f d,fun w v h=>bx9 b a B E g v w h e f d⟩
def bxC{W:World}(b:Glob W)(a:List (List UInt8))(c:a.length<=7)(d:∀l∈a,l.length<=6):∃B E,(∀w v,Glob w->StrsAt w v a->Calls prog 6 #[v] w (y8 w B E))∧∀w v,StrsAt w v a->Calls prog 7 #[v] w (y8 w B E):=by
 obtain⟨B,E,e⟩:=aqA b a [] c d (by decide);exact⟨B,E,fun w v b h=>bx8 a B E e v w b h c d,fun w v h=>bxA a B E e v w h c d⟩
def DD(w:World)(v:Value):Prop:=∀g,v.ownBlock=some g->∀cur t f,w.heap[g]? =some (.cells cur t f)->∀y∈cur.toList,NoInt y
def GrowD(w:World)(base:Nat)(e:TypeId)(k:Nat)(v:Value)(rows:List (List Value)):Prop:=w.ownsRow base e k v rows.length rows.flatten∧(∀r∈rows,r.length=k)∧DD w v
section
variable {w w':World}{base:Nat}{e:TypeId}{k:Nat}{v:Value}{rows:List (List Value)}
def GrowD.nil:GrowD w base e k (.slice none 0 0) []:=⟨World.ownsRow_nil _ _ _ _,(fun _ h=>by cases h),fun g h=>by simp[Value.ownBlock] at h⟩
def GrowD.lt(h:GrowD w base e k v rows):∀g,v.ownBlock=some g->base<=g∧g<w.heap.size:=fun g b=>by
 rcases h.1.2 with ⟨rfl,_⟩|⟨i,f,cur,rfl,c,d,_⟩
 ·simp[Value.ownBlock] at b
 ·simp[Value.ownBlock] at b;subst b;exact⟨c,(Array.getElem?_eq_some_iff.1 d).1⟩
def GrowD.kept(h:GrowD w base e k v rows)(l:∀g,v.ownBlock=some g->w'.heap[g]? =w.heap[g]?):GrowD w' base e k v rows:=by
 obtain⟨j,n,q⟩:=h;refine⟨⟨j.1,?_⟩,n,fun g d b t f c=>q g d b t f ((l g d).symm.trans c)⟩;rcases j.2 with h|⟨i,m,b,rfl,p,c,h⟩
 ·exact .inl h
 ·exact .inr ⟨i,m,b,rfl,p,(l i (by simp[Value.ownBlock])).trans c,h⟩
def GrowD.be(h:GrowD w base e k v rows)(c:Below w.heap.size w w'):GrowD w' base e k v rows:=h.kept (fun g b=>c.block g (h.lt g b).2)
def GrowD.up{a b:World}[u:Up a b](h:GrowD a base e k v rows):GrowD b base e k v rows:=h.be u.out
def GrowD.form(h:GrowD w base e k v rows):∃A c,v= .slice A rows.length c∧rows.length<=c:=by
 rcases h.1.2 with ⟨rfl,b⟩|⟨i,d,g,rfl,j,l,f,_⟩
 ·exact⟨none,0,by rw[b],by rw[b];exact aE⟩
 ·exact⟨_,d,rfl,f⟩
def GrowD.at_{A:Option Addr}{l c:Nat}(h:GrowD w base e k (.slice A l c) rows){i:Nat}{r:List Value}(hi:rows[i]? =some r):∃b,A=some ⟨b,0,none⟩∧base<=b∧b<w.heap.size∧∀(j:Nat) (u:Value),r[j]? =some u->w.cell? ⟨b,i*k+j,none⟩=some u:=by
 obtain⟨q,g,B⟩:=h;have C:=(List.getElem?_eq_some_iff.1 hi).1;rcases q.2 with ⟨_,z⟩|⟨f,y,p,hv,s,m,D,E,F,x⟩
 ·omega
 ·simp only[Value.slice.injEq] at hv;refine⟨f,hv.1,s,(Array.getElem?_eq_some_iff.1 m).1,fun j u n=> ?_⟩;have t:j<k:=by rw[<-g r (dG hi)];exact(List.getElem?_eq_some_iff.1 n).1
  rw[cell_of_row w f _ p e (0,0) m,<-Array.getElem?_toList];have d:=mW g hi t;rw[n,<-x,fC] at d;split at d
  ·exact d
  ·cases d
end
def LA(w:World)(t N e:TypeId)(k O:Nat)(z:Value)(W:Tryz.prog.underlying t=some (.slice e))(hi:(Tryz.prog.info? e).map (fun i=>(i.zero,i.size,i.bytes))=some (some z,k,O))(aw:z.cells.size=k)(hz:∀n,∀y∈Builtin.zeroCells z.cells n,NoInt y)(hk:0<k)(aj:O<=1024)
  {base:Nat}{v:Value}{rows:List (List Value)}(hG:GrowD w base e k v rows){g c:Nat}{t':TypeId}{r:List Value}(hB:Bx w g r t')(H:r.length=k)(U:∀u∈r,NoInt u∧u.oneCell'=true)(hl:rows.length<=1073741824)(hb:base<=w.heap.size):
  ∃E w',(Builtin.append_ #[t,t] N #[v,.slice (some ⟨g,0,none⟩) 1 c]).run prog w= .ok E w'∧GrowD w' base e k E (rows++[r])∧Keep w w'∧w.grownBy w' v.ownBlock∧(E.ownBlock=v.ownBlock∨E.ownBlock=some w.heap.size):=by
 obtain⟨F,h3,hN⟩:=hG;obtain⟨i,hi,ac,I,ad⟩:=info_parts hi;have af:(rows.length+1)*O<=140737488355328:=aH (Nat.mul_le_mul (show rows.length+1<=1073741825 by omega) aj) (by decide);have T:∀j u,r[j]? =some u->w.cell? ((⟨g,0,none⟩:Addr).add j)=some u:=fun j u M=>by
  have:=hB.cell j M;unfold Addr.add;split
  ·rename_i K;subst K;exact this
  ·simpa using this
 obtain⟨E,w',V,ho,S,_,ai⟩:=run_append_own_at (P:=prog) w base t N e i z k O W hi ac I ad aw hk v rows.length _ F ⟨g,0,none⟩ 1 c r (by rw[H,Nat.one_mul]) T (fun u M=>(U u M).2) (by unfold maxLen;omega) af hb;have an:Keep w w':=fun x n D=>by
  obtain⟨A,c',hv,L,au,aq⟩:=D;refine⟨A,c',hv,L,?_,aq.mono S.size⟩;rcases au with h|⟨b,ax,rfl,ag,al⟩
  ·exact .inl h
  ·refine .inr ⟨b,ax,rfl,aZ ag S.size,fun j G=> ?_⟩;have Z:=al j G;by_cases R:v.ownBlock=some b
   ·rcases F.2 with ⟨rfl,_⟩|⟨p,q,l,rfl,_,C,_⟩
    ·simp[Value.ownBlock] at R
    ·have B:p=b:=by simpa [Value.ownBlock] using R
     subst B;rw[cell_of_row w p _ l _ (0,0) C,<-Array.getElem?_toList] at Z;exact absurd rfl (hN p R l _ _ C _ (dG Z) _ _)
   ·exact(World.cell?_of_block (S.block b ag (fun e'=>R e'.symm))).trans Z
 have am:DD w' E:=by
  have ae:∀(X:List Value) (q m:Nat),(∀y∈X,NoInt y)->DD (w.drew.alloc (.cells (X.toArray++r.toArray++Builtin.zeroCells z.cells m) e)) (.slice (some ⟨w.heap.size,0,none⟩) (rows.length+1) q):=fun X q m hv p J l t f L=>by
   simp[Value.ownBlock] at J;subst J;have:=heap_alloc_new w.drew (.cells (X.toArray++r.toArray++Builtin.zeroCells z.cells m) e);have h5:=this.symm.trans L;simp only[Option.some.injEq,Obj.cells.injEq] at h5;rw[<-h5.1];intro y d;rw[Array.toList_append,Array.toList_append] at d;rcases List.mem_append.1 d with d|d
   ·rcases List.mem_append.1 d with d|d
    ·exact hv y d
    ·exact(U y d).1
   ·exact hz m y (Array.mem_toList_iff.1 d)
  rcases F.2 with ⟨rfl,K⟩|⟨p,q,l,rfl,az,C,ap,a0,hs,a1⟩
  ·have s:=run_append_nil (P:=prog) w t N e i z W hi ac ⟨g,0,none⟩ 1 c r (by rw[I,H,Nat.one_mul]) T (by decide) (by decide) (by rw[ad];omega);rw[V] at s;injection s with e1 B;subst e1 B;have:=ae [] (grownCap w 1 0 e) (grownCap w 1 0 e-1) (fun _ h=>by cases h);rw[K] at this;simpa using this
  ·have Y:∀y∈l.toList,NoInt y:=hN p rfl l _ _ C;by_cases ah:rows.length+1<=q
   ·have s:=run_append_room (P:=prog) w t N e i W hi p rows.length q l C ⟨g,0,none⟩ 1 c r (by rw[I,H,Nat.one_mul]) T (fun u M=>(U u M).2) ah (by
     rw[I,hs,H];have:=dK k ah;rw[Nat.add_mul,Nat.one_mul] at this;exact this)
    rw[V] at s;injection s with e1 B;subst e1 B;intro g3 J ay t f L;simp[Value.ownBlock] at J;subst J;have h7:=(setRow_heap w p l _ e _ C).symm.trans L;simp only[Option.some.injEq,Obj.cells.injEq] at h7;rw[<-h7.1];intro y d;have av:y∈l.toList.take (rows.length*i.size)++r++l.toList.drop (rows.length*i.size+r.length):=d;rcases List.mem_append.1 av with d|d
    ·rcases List.mem_append.1 d with d|d
     ·exact Y y (lH d)
     ·exact(U y d).1
    ·exact Y y (List.mem_of_mem_drop d)
   ·have ar:∀j y,(l.toList.take (rows.length*k))[j]? =some y->w.cell? ((⟨p,0,none⟩:Addr).add j)=some y:=fun j y G=>by
     have F:w.cell? ⟨p,j,none⟩=some y:=by
      rw[cell_of_row w p j l _ (0,0) C,<-Array.getElem?_toList];rw[fC] at G;split at G
      ·exact G
      ·cases G
     unfold Addr.add;split
     ·rename_i K;subst K;exact F
     ·simpa using F
    have ao:(l.toList.take (rows.length*k)).length=rows.length*i.size:=by
     have ak:l.toList.length=q*k:=hs;rw[I,bK,ak];exact gF (dK _ ap)
    have s:=run_append_grow (P:=prog) w t N e i z W hi ac ⟨p,0,none⟩ rows.length q (l.toList.take (rows.length*k)) ao ar ⟨g,0,none⟩ 1 c r (by rw[I,H,Nat.one_mul]) T (by omega) (by omega) (growslice_fits (by omega) (by rw[ad];exact af));rw[V] at s;injection s with e1 B;subst e1 B;have:=ae (l.toList.take (rows.length*k)) (grownCap w (rows.length+1) q e) (grownCap w (rows.length+1) q e-(rows.length+1)) (fun y d=>Y y (lH d));simpa using this
 refine⟨E,w',V,⟨?_,fun x D=> ?_,am⟩,an,S,ai⟩
 ·rw[bE,List.flatten_append];simpa using ho
 ·rcases List.mem_append.1 D with D|D
  ·exact h3 x D
  ·rw[List.mem_singleton.1 D];exact H
section
variable {ops:Array Oper}{rest:List Oper}{o:Oper}{a:Act}{Q:Exit->Act->World->Prop}{w:World}
def yE(D:o.guard=none){s x:Operand}{t:TypeId}(H:o.op= .call { callee:= .builtin .append,args:= #[s,x],argTypes:= #[t,t] })(e:TypeId)(k d:Nat)(z:Value)(M:Tryz.prog.underlying t=some (.slice e))(hi:(Tryz.prog.info? e).map (fun i=>(i.zero,i.size,i.bytes))=some (some z,k,d))(P:z.cells.size=k)(O:∀n,∀y∈Builtin.zeroCells z.cells n,NoInt y)(E:0<k)(C:d<=1024)
  {base:Nat}{v:Value}{rows:List (List Value)}(L:a.eval s=v)(q:GrowD w base e k v rows){g c:Nat}{R:TypeId}{r:List Value}(N:a.eval x= .slice (some ⟨g,0,none⟩) 1 c)(p:Bx w g r R)(I:r.length=k)(G:∀u∈r,NoInt u∧u.oneCell'=true)(F:rows.length<=1073741824)(B:base<=w.heap.size)
  (h:∀b w',GrowD w' base e k b (rows++[r])->Keep w w'->w.grownBy w' v.ownBlock->(b.ownBlock=v.ownBlock∨b.ownBlock=some w.heap.size)->wpList prog ops Q rest (a.put o.dst b) w'):
  wpList prog ops Q (o :: rest) a w:=by
 obtain⟨b,w',J,f,j,l,m⟩:=LA w t o.type e k d z M hi P O E C q p I G F B (c:=c);refine wpList_plain D fun K A=> ?_;unfold Oper.wp execOp;simp only[H,resolve,invoke,builtin,Sem.run_bind,Sem.run_pure,Result.andThen_ok,List.map_toArray,fM,List.map_nil,L,N,J];exact A _ _ (h b w' f j l m)
def LB{K:Act->World->Prop}{E:Prop}(C:o.guard=none){s x:Operand}{t:TypeId}(H:o.op= .call { callee:= .builtin .append,args:= #[s,x],argTypes:= #[t,t] })(e:TypeId)(k d:Nat)(z:Value)(M:Tryz.prog.underlying t=some (.slice e))(hi:(Tryz.prog.info? e).map (fun i=>(i.zero,i.size,i.bytes))=some (some z,k,d))(R:z.cells.size=k)(P:∀n,∀y∈Builtin.zeroCells z.cells n,NoInt y)(D:0<k)(B:d<=1024)
  {base:Nat}{v:Value}{rows:List (List Value)}(L:a.eval s=v)(q:GrowD w base e k v rows){g c:Nat}{S:TypeId}{r:List Value}(O:a.eval x= .slice (some ⟨g,0,none⟩) 1 c)(p:Bx w g r S)(I:r.length=k)(G:∀u∈r,NoInt u∧u.oneCell'=true)(F:rows.length<=1073741824)(A:base<=w.heap.size)
  (h:∀b w',GrowD w' base e k b (rows++[r])->Keep w w'->w.grownBy w' v.ownBlock->(b.ownBlock=v.ownBlock∨b.ownBlock=some w.heap.size)->K (a.put o.dst b) w'):if Region.wanted o (yielded ops a.tmps)=true then Oper.wp prog o a w K Q else E:=by
 have N:Region.wanted o (yielded ops a.tmps)=true:=by simp[Region.wanted,C]
 rw[if_pos N];obtain⟨b,w',J,f,j,l,m⟩:=LA w t o.type e k d z M hi R P D B q p I G F A (c:=c);unfold Oper.wp execOp;simp only[H,resolve,invoke,builtin,Sem.run_bind,Sem.run_pure,Result.andThen_ok,List.map_toArray,fM,List.map_nil,L,O,J];exact h b w' f j l m
end
def GrowD.left{w w':World}{base:Nat}{e:TypeId}{k:Nat}{v:Value}{rows:List (List Value)}(h:GrowD w base e k v rows)(b:w.grownBy w' v.ownBlock)(c:base<=w.heap.size):Below base w w':=⟨b.os,b.tape,b.output,b.size,fun k d=>b.block k (by omega) (fun e=>by have:=(h.lt k e.symm).1;omega)⟩
def ZS(x y:Rat):(x+y)*(((1:Int):Rat)/((2:Int):Rat))=(x+y)/2:=by
 have a:((1:Int):Rat)=1:=rfl;have c:((2:Int):Rat)=2:=rfl;rw[a,c];grind
def ZT:(((1:Int):Rat)/((2:Int):Rat)).den≠1:=by rw[<-Rat.divInt_eq_div];decide
def ZU:(((1:Int):Rat)/((2:Int):Rat)).num≠0:=by rw[<-Rat.divInt_eq_div];decide
def SpanAt(w:World)(v:Value)(x y:Rat):Prop:=∃s1 a k f o c l h p d m i q e n j,v= .agg #[.bool s1,.slice a k f,.bool o,.slice c l h,.bool p,.slice d m i,.bool q,.slice e n j]∧RatAt w (.agg #[.bool s1,.slice a k f,.bool o,.slice c l h]) x∧RatAt w (.agg #[.bool p,.slice d m i,.bool q,.slice e n j]) y
def uN(K:Nat)(D:Rat->Rat->Prop):Prop:=∀x y,D x y->RL K x->RL K y->∀W u v,Glob W->RatAt W u x->RatAt W v y->Calls prog 58 #[u,v] W (iF W (x+y))
def ZV{K:Nat}(d:10*K+40<=aJ):uN K y7:=fun x y e f i W u v c h a=>IZ x y u v W c h a e.2 K f i d
def ZW(D:Rat->Rat->Prop)(x y:Rat)(v:Value)(w:World)(a:Glob w)(hv:SpanAt w v x y)(K:Nat)(r:RL K x)(q:RL K y)(h1:1<=K)(ag:K<=1073741824)(I:uN K D)(J:D x y):
  Calls prog 93 #[v] w (iF w ((x+y)/2)):=by
 obtain⟨Y,j,N,s,Z,k,O,t,s3,l,P,A,s4,n,Q,B,rfl,hx,hy⟩:=hv;have L:=fun W a h d=>I x y J r q W (.agg #[.bool Y,.slice j N s,.bool Z,.slice k O t]) (.agg #[.bool s3,.slice l P A,.bool s4,.slice n Q B]) a h d;clear I J;have U:nl (1:Int).natAbs<=1:=cJ (by decide);have V:nl (2:Int).natAbs<=1:=cJ (by decide);have M:=fun W u v a h d=>I3 1 2 u v W a h d 1 U V (by unfold aJ;decide);have i:=fun W u v a h d=>UT (x+y) (((1:Int):Rat)/((2:Int):Rat)) u v W a h d (fun e=>absurd e.2 ZT) ZU (2*K+2) (bU (wW r q) (by omega)) (bU (pM U V (mC 1)) (by omega)) (by unfold aJ;omega);rw[ZS] at i;unfold iF at L M i;unfold iF;generalize (x+y)/2=m at *;generalize x+y=z at *;generalize ((1:Int):Rat)/((2:Int):Rat)=ah at *;obtain⟨W,G,c,X,R⟩:=eL w [.bool Y,.slice j N s,.bool Z,.slice k O t,.bool s3,.slice l P A,.bool s4,.slice n Q B] 73 [.bool false,.slice none 0 0,.bool false,.slice none 0 0] 58;have cM:=aa X.g8 R.g4;go_enter func93,ntmps93;go_wp2_with fail;(try rw[G]);clear G;refine(L _ (a.be c) (hx.be c) (hy.be c)).mono ?_;rintro e5 w5 ⟨v5,rfl,h5,ac⟩;have:=St.mk ac;go_wp2_with fail;refine(GA 1 _ (by decide) (by decide)).mono ?_;rintro F w6 ⟨v6,rfl,h6,f⟩;have:=St.mk f;go_wp2_with fail;refine(GA 2 _ (by decide) (by decide)).mono ?_;rintro e7 w7 ⟨v7,rfl,h7,ad⟩;have:=St.mk ad;go_wp2_with fail;refine(M _ _ _ (a.be c).up h6.up h7).mono ?_;rintro e8 w8 ⟨v8,rfl,h8,ae⟩;have:=St.mk ae;go_wp2_with fail;refine(i _ _ _ (a.be c).up h5.up h8).mono ?_;rintro e9 w9 ⟨v9,rfl,H,af⟩;obtain⟨s5,o,S,C,s6,p,T,E,rfl⟩:=H.form;have:=St.mk af;replace R:=R.up (b:=w9);have cR:=R.g4;go_wp2_with fail;obtain⟨W6,F,R6,f,hk,ff⟩:=R.put4 (bJ (b:=w9) c) (by omega) (.bool s5) (.slice o S C) (.bool s6) (.slice p T E) rfl rfl;rw[F];exact aM (v:= .agg #[.bool s5,.slice o S C,.bool s6,.slice p T E]) (by simp[results,results93,go_sem,R6.k4]) rfl ⟨_,rfl,H.ke hk,f⟩
def ZX(x y:Rat)(v:Value)(w:World)(a:Glob w)(hv:SpanAt w v x y)(K:Nat)(S:RL K x)(Q:RL K y)(L:K<=1073741824):
  Calls prog 24 #[v] w fun e w'=>e= .returned (.agg #[.string ⟨(cW x).toArray⟩,.string ⟨(cW y).toArray⟩])∧Below w.heap.size w w':=by
 obtain⟨A,i,s,m,B,j,t,n,C,k,u,o,D,l,z,p,rfl,q,r⟩:=hv;have U:=fun W a h=>I4 x (.agg #[.bool A,.slice i s m,.bool B,.slice j t n]) W a h K S L;have V:=fun W a h=>I4 y (.agg #[.bool C,.slice k u o,.bool D,.slice l z p]) W a h K Q L;generalize (cW x).toArray=N at *;generalize (cW y).toArray=O at *;obtain⟨W,I,c,X,R⟩:=eL w [.bool A,.slice i s m,.bool B,.slice j t n,.bool C,.slice k u o,.bool D,.slice l z p] 73 [.string ⟨#[]⟩,.string ⟨#[]⟩] 38;have cM:=aa X.g8 R.g2;go_enter func24,ntmps24;go_wp2_with fail;(try rw[I]);clear I;replace q:=q.be c;replace r:=r.be c;have M:w.heap.size+1≠w.heap.size:=by omega
 go_region_held3 (fun w'=>C8 w' w.heap.size (.bool A) (.slice i s m) (.bool B) (.slice j t n) (.bool C) (.slice k u o) (.bool D) (.slice l z p)) (first|(with_reducible exact X.up.k8)|(with_reducible exact((G.far 0 _ M).far 1 _ M).k8))
  (first
   |(go_at_call 60;first|(with_reducible refine(U _ (a.be c).up q.up).mono ?_;rintro e5 E ⟨rfl,Y⟩;have:=St.mk Y;have d:=R.up (b:=E);have G:=X.up (b:=E);have T:=d.g2;have J:=bJ (b:=E) c)|(with_reducible refine(V _ (a.be c).up r.up).mono ?_;rintro H F ⟨rfl,f⟩;have:=St.mk f;have d:=R.up (b:=F);have G:=X.up (b:=F);have T:=d.g2;have J:=bJ (b:=F) c)))
 all_goals (
  go_wp2_with fail;obtain⟨Z,H,P,f,hk,ff⟩:=d.put2 J (by omega) (.string ⟨N⟩) (.string ⟨O⟩) rfl rfl;rw[H];exact aM (v:= .agg #[.string ⟨N⟩,.string ⟨O⟩]) (by simp[results,results24,go_sem,P.k2]) rfl ⟨rfl,by first|exact f|exact f.drew⟩)
def PoAt(w:World)(v:Value)(x:Rat)(n:Int)(z:Bool):Prop:=∃s1 a f d i c h e,v= .agg #[.bool s1,.slice a f d,.bool i,.slice c h e,.int .i64 n,.bool z]∧RatAt w (.agg #[.bool s1,.slice a f d,.bool i,.slice c h e]) x
def Bx.put6{w W:World}{b B:Nat}{cs:List Value}{t:TypeId}(h:Bx W b cs t)(H:Below B w W)(a:B<=b)(v0 v1 v2 v3 v4 v5:Value){e f i j l:Value}{k:Int}(I:cs=[e,f,i,j,.int .i64 k,l])(hn:(cS (some e)&&(cS (some f)&&(cS (some i)&&(cS (some j)&&cS (some l)))))=true):
  ∃d,(((((W.setCell ⟨b,0,none⟩ v0).setCell ⟨b,1,none⟩ v1).setCell ⟨b,2,none⟩ v2).setCell ⟨b,3,none⟩ v3).setCell ⟨b,4,none⟩ v4).setCell ⟨b,5,none⟩ v5=d∧Bx d b [v0,v1,v2,v3,v4,v5] t∧Below B w d∧Keep W d∧∀{g:Nat} {cs:List Value} {t:TypeId},Bx W g cs t->b≠g->Bx d g cs t:=by
 subst I;simp only[Bool.and_eq_true] at hn;obtain⟨P,rfl,C,n,J,v⟩:=h.put1 H a 0 v0 hn.1;obtain⟨Q,rfl,D,o,K,x⟩:=C.put1 n a 1 v1 hn.2.1;obtain⟨R,rfl,E,q,L,y⟩:=D.put1 o a 2 v2 hn.2.2.1;obtain⟨S,rfl,m,r,M,z⟩:=E.put1 q a 3 v3 hn.2.2.2.1;have s:=r.setCell (p:=⟨b,4,none⟩) a v4;have N:=Keep.puti (m.cell 4 rfl) v4;have F:=m.set 4 v4;obtain⟨T,rfl,G,u,O,A⟩:=F.put1 s a 5 v5 hn.2.2.2.2;exact⟨_,rfl,G,u,((((J.trans K).trans L).trans M).trans N).trans O,fun k c=>A ((z (y (x (v k c) c) c) c).far 4 v4 c) c⟩
section
variable {w:World}{b g:Nat}{v0 v1 v2 v3 v4 v5:Value}
def qV(a:b≠g){o:Nat}{u:Value}(h:w.cell? ⟨g,o,none⟩=some u):((((((w.setCell ⟨b,0,none⟩ v0).setCell ⟨b,1,none⟩ v1).setCell ⟨b,2,none⟩ v2).setCell ⟨b,3,none⟩ v3).setCell ⟨b,4,none⟩ v4).setCell ⟨b,5,none⟩ v5).cell? ⟨g,o,none⟩=some u:=by
 exact(aL _ _ _ _ _ _ a).trans ((aL _ _ _ _ _ _ a).trans ((aL _ _ _ _ _ _ a).trans ((aL _ _ _ _ _ _ a).trans ((aL _ _ _ _ _ _ a).trans ((aL _ _ _ _ _ _ a).trans h)))))
def ZY(a:b≠g){u0 u1 u2 u3:Value}(h:C4 w g u0 u1 u2 u3):C4 ((((((w.setCell ⟨b,0,none⟩ v0).setCell ⟨b,1,none⟩ v1).setCell ⟨b,2,none⟩ v2).setCell ⟨b,3,none⟩ v3).setCell ⟨b,4,none⟩ v4).setCell ⟨b,5,none⟩ v5) g u0 u1 u2 u3:=⟨qV a h.1,qV a h.2.1,qV a h.2.2.1,qV a h.2.2.2⟩
def ZZ(a:b≠g){u0 u1:Value}(h:C2 w g u0 u1):C2 ((((((w.setCell ⟨b,0,none⟩ v0).setCell ⟨b,1,none⟩ v1).setCell ⟨b,2,none⟩ v2).setCell ⟨b,3,none⟩ v3).setCell ⟨b,4,none⟩ v4).setCell ⟨b,5,none⟩ v5) g u0 u1:=⟨qV a h.1,qV a h.2⟩
end
def ax0(s:List Int)(x:Rat):decide (fE s x.num x.den=0)=decide (aP s 0 x=0):=by
 unfold aP;rw[if_pos rfl];exact decide_eq_decide.2 (by rw[Int.sign_eq_zero_iff_zero])
def ax1(s:List Int)(c:List (List Int))(B E:Nat)(x:Rat)(vc vr vx:Value)(w:World)(H:Bx w E [vc,vr] 103)(hv:WsAt w B 51 vc (s :: c))(y:RatAt w vx x)(an:(s :: c).length<=1024)(K:Nat)(J:∀a∈s :: c,a≠[]∧a.length<=65∧∀n∈a,nl n.natAbs<=K)(C:RL K x)(ac:140*K+10<=17592186044416):
  Calls prog 48 #[.pointer (some ⟨E,0,none⟩),vx] w fun e w'=>∃v',e= .returned v'∧PoAt w' v' x (aY 0 ((s :: c).map (fun a=>aP a 0 x)):Nat) (decide (aP s 0 x=0))∧Below w.heap.size w w':=by
 obtain⟨r,d,o,k,t,f,q,m,rfl⟩:=y.form;obtain⟨A,Q,rfl,hc⟩:=hv.form;obtain⟨j,u0,rfl,ae,hu,ah⟩:=hv.at_ (i:=0) (l:=s) rfl;obtain⟨N,P,rfl,ap⟩:=ah.form;have aq:(0:Int)<((s :: c).length:Int):=by rw[eG];omega
 have z:=J s (iC ..);have af:=fun W h G=>BV (s :: c) B 0 x (.slice (some ⟨j,0,none⟩) (s :: c).length Q) (.agg #[.bool r,.slice d o k,.bool t,.slice f q m,.int .i64 0]) W h G (by decide) an K J C ac;have ad:=fun W h G=>CB s x (.slice N s.length P) (.agg #[.bool r,.slice d o k,.bool t,.slice f q m]) W h G K z.2.2 C z.2.1 ac;have O:=xK (ns:=s) (a:=x.num) (b:=x.den) (T:=BN^K) (fun n h=>mS (z.2.2 n h)) (mS C.1) (mS C.2);have aj:nl (fE s x.num x.den).natAbs<=K*65+1:=by
  refine cJ (jI O.1 (aZ (xL (by omega)).1 (cO (by decide) ?_)));have:=eV K z.2.1;omega
 have ag:=fun W u h=>g9 (fE s x.num x.den) u W h (by omega);rw[ax0] at ag;have ao:=H.lt;unfold eO at af;unfold dW at ad;generalize (aY 0 ((s :: c).map (fun a=>aP a 0 x)):Nat)=V at *;generalize decide (aP s 0 x=0)=Z at *;generalize fE s x.num x.den=au at *;clear J z O aj C;have ar:0<(s :: c).length:=by rw[eG];omega
 generalize (s :: c).length=n at *;obtain⟨W,U,I,X,R⟩:=eL w [.bool r,.slice d o k,.bool t,.slice f q m] 58 [.bool false,.slice none 0 0,.bool false,.slice none 0 0,.int .i64 0,.bool false] 106;have cM:=aa X.g4 R.g6;go_enter func48,ntmps48;go_wp2_with fail;(try rw[U]);clear U;have:=St.mk I;have n1:w.heap.size+1≠w.heap.size:=by omega
 have n2:w.heap.size+1≠E:=by omega
 have n3:w.heap.size+1≠j:=by omega
 go_region_held3 (fun w'=>C4 w' w.heap.size (.bool r) (.slice d o k) (.bool t) (.slice f q m)∧C2 w' E (.slice (some ⟨j,0,none⟩) n Q) vr∧w'.cell? ⟨j,0,none⟩=some (.slice N s.length P))
  (first
   |(with_reducible exact⟨X.up.k4,H.up.k2,((Up.out (a:=w)).cell (p:=⟨j,0,none⟩) ae).trans hu⟩)
   |(with_reducible exact⟨ZY n1 X.up.k4,ZZ n2 H.up.k2,qV n3 (((Up.out (a:=w)).cell (p:=⟨j,0,none⟩) ae).trans hu)⟩))
  (first
   |(go_at_call 81;refine(af _ hv.up (EndAt.of y.up)).mono ?_;rintro e5 L ⟨rfl,al⟩;have:=St.mk al;have D:=R.up (b:=L);have ak:=D.g6;have Y:=bJ (b:=L) I;have ai:=y.up (b:=L))
   |(go_at_call 79;refine(ad _ ah.up y.up).mono ?_;rintro S w6 ⟨v6,rfl,h6,F⟩;have:=St.mk F)
   |(go_at_call 71;refine(ag _ _ h6.up).mono ?_;rintro e7 M ⟨rfl,am⟩;have:=St.mk am;have D:=R.up (b:=M);have ak:=D.g6;have Y:=bJ (b:=M) I;have ai:=y.up (b:=M)))
 all_goals (
  go_wp2_with fail;obtain⟨W6,S,R6,F,hk,ff⟩:=D.put6 Y (by omega) (.bool r) (.slice d o k) (.bool t) (.slice f q m) (.int .i64 (V:Int)) (.bool Z) rfl rfl;rw[S];exact aM (v:= .agg #[.bool r,.slice d o k,.bool t,.slice f q m,.int .i64 (V:Int),.bool Z]) (by simp[results,results48,go_sem,R6.k6]) rfl ⟨_,rfl,⟨_,_,_,_,_,_,_,_,rfl,ai.ke hk⟩,by first|exact F|exact F.drew⟩)
structure Fr(gb:Nat)(v:Value)(w w':World):Prop where
 be:Below gb w w'
 ke:Keep w w'
 block:∀k,gb<k->k<w.heap.size->v.ownBlock≠some k->w'.heap[k]? =w.heap[k]?
def OwnTo(w:World)(v v':Value):Prop:=∀g,v'.ownBlock=some g->v.ownBlock=some g∨w.heap.size<=g
def Fr.of{a:Nat}{v:Value}{w w':World}(h:Below w.heap.size w w')(b:a<=w.heap.size):Fr a v w w':=⟨h.mono b,Keep.be h,fun k _ c _=>h.block k c⟩
def Fr.trans{a:Nat}{v i:Value}{w w1 j:World}(h:Fr a v w w1)(b:Fr a i w1 j)(l:OwnTo w v i):Fr a v w j:=
 ⟨h.be.trans b.be,h.ke.trans b.ke,fun k c d f=>(b.block k c (aZ d h.be.size) (fun e=>by
  rcases l k e with g|g
  ·exact f g
  ·omega)).trans (h.block k c d f)⟩
def OwnTo.trans{w w1:World}{v b c:Value}(h:OwnTo w v b)(d:OwnTo w1 b c)(f:w.heap.size<=w1.heap.size):OwnTo w v c:=fun g e=>by
 rcases d g e with a|a
 ·exact h g a
 ·exact .inr (aH f a)
def Bx.fr{a g:Nat}{v:Value}{w w':World}{cs:List Value}{t:TypeId}(h:Bx w g cs t)(b:Fr a v w w')(c:a<g)(hv:v.ownBlock≠some g):Bx w' g cs t:=(b.block g c h.lt hv).trans h
def SpRow(w:World)(rows:List (List Value))(l:List (Rat×Rat)):Prop:=rows.length=l.length∧∀(i:Nat) (p:Rat×Rat),l[i]? =some p->∃s1 a k f q b m g r c n h s d o j,rows[i]? =some [Value.bool s1,.slice a k f,.bool q,.slice b m g,.bool r,.slice c n h,.bool s,.slice d o j]∧RatAt w (.agg #[.bool s1,.slice a k f,.bool q,.slice b m g]) p.1∧RatAt w (.agg #[.bool r,.slice c n h,.bool s,.slice d o j]) p.2
def SpRow.ke{w w':World}{rows:List (List Value)}{l:List (Rat×Rat)}(h:SpRow w rows l)(a:Keep w w'):SpRow w' rows l:=⟨h.1,fun i p q=>by
 obtain⟨s1,b,r,g,v,c,s,j,y,d,t,k,z,f,u,m,e,n,o⟩:=h.2 i p q;exact⟨s1,b,r,g,v,c,s,j,y,d,t,k,z,f,u,m,e,n.ke a,o.ke a⟩⟩
def RowSp(w:World)(a:Nat)(v:Value)(l:List (Rat×Rat)):Prop:=∃rows,GrowD w a 73 8 v rows∧SpRow w rows l
def RowSp.be{w w':World}{a:Nat}{v:Value}{l:List (Rat×Rat)}(h:RowSp w a v l)(b:Below w.heap.size w w'):RowSp w' a v l:=by
 obtain⟨f,c,d⟩:=h;exact⟨f,c.be b,d.ke (Keep.be b)⟩
def RowSp.lt{w:World}{a:Nat}{v:Value}{l:List (Rat×Rat)}(h:RowSp w a v l):∀g,v.ownBlock=some g->a<=g∧g<w.heap.size:=by
 obtain⟨d,b,c⟩:=h;exact b.lt
def RowSp.nil(w:World)(a:Nat):RowSp w a (.slice none 0 0) []:=⟨[],GrowD.nil,rfl,fun i p h=>by simp at h⟩
def RowSp.form{w:World}{a:Nat}{v:Value}{l:List (Rat×Rat)}(h:RowSp w a v l):∃A c,v= .slice A l.length c∧l.length<=c:=by
 obtain⟨f,b,d⟩:=h;rw[<-d.1];exact b.form
def L6:(Tryz.prog.info? 73).map (fun i=>(i.zero,i.size,i.bytes))=some (some (.agg #[.bool false,.slice none 0 0,.bool false,.slice none 0 0,.bool false,.slice none 0 0,.bool false,.slice none 0 0]),8,128):=by kernel_rfl
def yB(n:Nat):∀y∈Builtin.zeroCells (Value.agg #[.bool false,.slice none 0 0,.bool false,.slice none 0 0,.bool false,.slice none 0 0,.bool false,.slice none 0 0]).cells n,NoInt y:=fun y b=>by
 unfold Builtin.zeroCells at b;obtain⟨j,_,rfl⟩:=Array.mem_map.1 b;have a:(Value.agg #[.bool false,.slice none 0 0,.bool false,.slice none 0 0,.bool false,.slice none 0 0,.bool false,.slice none 0 0]).cells= #[Value.bool false,.slice none 0 0,.bool false,.slice none 0 0,.bool false,.slice none 0 0,.bool false,.slice none 0 0]:=rfl;rw[a];have a:(#[Value.bool false,.slice none 0 0,.bool false,.slice none 0 0,.bool false,.slice none 0 0,.bool false,.slice none 0 0]:Array Value).size=8:=rfl;rw[a];rcases(show j%8=0∨j%8=1∨j%8=2∨j%8=3∨j%8=4∨j%8=5∨j%8=6∨j%8=7 by omega) with h|h|h|h|h|h|h|h<;>rw[h]
 ·exact NoInt.bool _
 ·exact NoInt.slice _ _ _
 ·exact NoInt.bool _
 ·exact NoInt.slice _ _ _
 ·exact NoInt.bool _
 ·exact NoInt.slice _ _ _
 ·exact NoInt.bool _
 ·exact NoInt.slice _ _ _
def Bx.grown{w w':World}{g:Nat}{a:Option Nat}{cs:List Value}{t:TypeId}(h:Bx w g cs t)(b:w.grownBy w' a)(c:a≠some g):Bx w' g cs t:=(b.block g h.lt (fun e=>c e.symm)).trans h
def L7{a:Nat}{w W d:World}{vc vr b:Value}{rows:List (List Value)}{q:List (Rat×Rat)}{x y:Rat}{s1 Q R S:Bool}{s t u v:Option Addr}{L M N O B C E F:Nat}
  (l:Below w.heap.size w W)(ai:a<w.heap.size)(P:Bx W a [vc,vr] 103)(ah:∃A k c,vr= .slice A k c)(hG:GrowD W (a+1) 73 8 vr rows)(hS:SpRow W rows q)(hx:RatAt W (.agg #[.bool s1,.slice s L B,.bool Q,.slice t M C]) x)(hy:RatAt W (.agg #[.bool R,.slice u N E,.bool S,.slice v O F]) y)
  (H:GrowD d (a+1) 73 8 b (rows++[[.bool s1,.slice s L B,.bool Q,.slice t M C,.bool R,.slice u N E,.bool S,.slice v O F]]))(j:Keep W d)(f:W.grownBy d vr.ownBlock)(ho:b.ownBlock=vr.ownBlock∨b.ownBlock=some W.heap.size):
  Bx (d.setCell ⟨a,1,none⟩ b) a [vc,b] 103∧RowSp (d.setCell ⟨a,1,none⟩ b) (a+1) b (q++[(x,y)])∧Fr a vr w (d.setCell ⟨a,1,none⟩ b)∧OwnTo w vr b:=by
 have af:vr.ownBlock≠some a:=fun e=>by have:=(hG.lt a e).1;omega
 have z:=P.grown f af;obtain⟨A,k,c,rfl⟩:=ah;have o:Keep d (d.setCell ⟨a,1,none⟩ b):=Keep.put (z.cell 1 rfl) (NoInt.slice _ _ _) b;have J:∀k,k≠a->(d.setCell ⟨a,1,none⟩ b).heap[k]? =d.heap[k]? :=fun k j=>Below.heap_setCell d ⟨a,1,none⟩ b k j;have aj:(d.setCell ⟨a,1,none⟩ b).heap.size=d.heap.size:=by simp[World.setCell]
 refine⟨z.set 1 b,⟨_,H.kept (fun g e=>J g (by have:=(H.lt g e).1;omega)),?_⟩,⟨?_,((Keep.be l).trans j).trans o,fun k G r h3=> ?_⟩,fun g e=> ?_⟩
 ·have m:=hS.ke (j.trans o);refine⟨by rw[bE,bE,m.1];rfl,fun i p n=> ?_⟩;rcases dE i q.length with I|I
  ·rw[gA I] at n;obtain⟨t1,T,l1,Z,t2,U,l2,d2,t3,X,l3,d3,t4,Y,l4,d4,e,G,r⟩:=m.2 i p n;exact⟨t1,T,l1,Z,t2,U,l2,d2,t3,X,l3,d3,t4,Y,l4,d4,by rw[gA (by have:=m.1;omega)];exact e,G,r⟩
  ·have ae:=(List.getElem?_eq_some_iff.1 n).1;rw[bE,iJ] at ae;obtain rfl:i=q.length:=by omega
   rw[fK aE,Nat.sub_self] at n;have ag:(x,y)=p:=by simpa using n
   subst ag;exact⟨_,_,_,_,_,_,_,_,_,_,_,_,_,_,_,_,by rw[fK (by have:=m.1;omega),m.1,Nat.sub_self];rfl,hx.ke (j.trans o),hy.ke (j.trans o)⟩
 ·have ac:Below a w W:=l.mono (by omega);have ad:Below a W d:=⟨f.os,f.tape,f.output,f.size,fun k j=>f.block k (by have:=l.size;omega) (fun e=>by have:=(hG.lt k e.symm).1;omega)⟩;exact(ac.trans ad).setCell (p:=⟨a,1,none⟩) aE b
 ·rw[J k (by omega),f.block k (by have:=l.size;omega) (fun e=>h3 e.symm)];exact l.block k r
 ·rcases ho with h|h
  ·exact .inl (by rw[<-h];exact e)
  ·rw[h] at e;injection e with e;exact .inr (by have:=l.size;omega)
def yC(wb w:World)(vc vr:Value)(a:List (Rat×Rat))(e:Ending)(w':World):Prop:=∃v',e= .returned (.tuple #[])∧Bx w' wb.heap.size [vc,v'] 103∧RowSp w' (wb.heap.size+1) v' a∧Fr wb.heap.size vr w w'∧OwnTo w vr v'
def PoAt.of{w:World}{x:Rat}{n:Int}{z s1 i:Bool}{a b:Option Addr}{f c g d:Nat}(h:RatAt w (.agg #[.bool s1,.slice a f c,.bool i,.slice b g d]) x):PoAt w (.agg #[.bool s1,.slice a f c,.bool i,.slice b g d,.int .i64 n,.bool z]) x n z:=⟨_,_,_,_,_,_,_,_,rfl,h⟩
def SpanAt.of{w:World}{x y:Rat}{s1 o p q:Bool}{a b c d:Option Addr}{k f l g m i n j:Nat}(h:RatAt w (.agg #[.bool s1,.slice a k f,.bool o,.slice b l g]) x)(r:RatAt w (.agg #[.bool p,.slice c m i,.bool q,.slice d n j]) y):SpanAt w (.agg #[.bool s1,.slice a k f,.bool o,.slice b l g,.bool p,.slice c m i,.bool q,.slice d n j]) x y:=⟨_,_,_,_,_,_,_,_,_,_,_,_,_,_,_,_,rfl,h,r⟩
def PoAt.ke{w w':World}{v:Value}{x:Rat}{n:Int}{z:Bool}(h:PoAt w v x n z)(a:Keep w w'):PoAt w' v x n z:=by
 obtain⟨j,b,g,d,k,c,i,f,rfl,h⟩:=h;exact⟨_,_,_,_,_,_,_,_,rfl,h.ke a⟩
def GrowD.form3{w:World}{a:Nat}{e:TypeId}{k:Nat}{v:Value}{rows:List (List Value)}(h:GrowD w a e k v rows):∃A n c,v= .slice A n c:=by
 obtain⟨A,c,e, -⟩:=h.form;exact⟨A,_,c,e⟩
def yD(s1 o p q:Bool)(b c d f:Option Addr)(k g l h m i n j:Nat):∀u∈[Value.bool s1,.slice b k g,.bool o,.slice c l h,.bool p,.slice d m i,.bool q,.slice f n j],NoInt u∧u.oneCell'=true:=fun u a=>by
 simp at a;rcases a with rfl|rfl|rfl|rfl|rfl|rfl|rfl|rfl
 ·exact⟨NoInt.bool _,rfl⟩
 ·exact⟨NoInt.slice _ _ _,rfl⟩
 ·exact⟨NoInt.bool _,rfl⟩
 ·exact⟨NoInt.slice _ _ _,rfl⟩
 ·exact⟨NoInt.bool _,rfl⟩
 ·exact⟨NoInt.slice _ _ _,rfl⟩
 ·exact⟨NoInt.bool _,rfl⟩
 ·exact⟨NoInt.slice _ _ _,rfl⟩
section
variable {V:Rat->Nat}{sg:Rat->Int}{K:Nat}{D:Rat->Rat->Prop}{wb:World}{vc:Value}(hG:Glob wb)(hA:uN K D)(hV:∀x,V x<=1024)(hK1:1<=K)(hK2:K<=1073741824)
 (hat:∀(x:Rat) (W:World) (vr vx:Value),Bx W wb.heap.size [vc,vr] 103->Below wb.heap.size wb W->RatAt W vx x->RL K x->Calls prog 48 #[.pointer (some ⟨wb.heap.size,0,none⟩),vx] W fun e w'=>∃v',e= .returned v'∧PoAt w' v' x (V x) (decide (sg x=0))∧Below W.heap.size W w')
include hG hA hV hK1 hK2 hat
def ZR{a b:Rat}{l:List (Rat×Rat)}(h:ExK K D V sg a b l):RL K a->RL K b->∀(T:List (Rat×Rat)) (vr va vb:Value) (w:World),Bx w wb.heap.size [vc,vr] 103->Below wb.heap.size wb w->RowSp w (wb.heap.size+1) vr T->PoAt w va a (V a) (decide (sg a=0))->PoAt w vb b (V b) (decide (sg b=0))->T.length+l.length<=1048576->
  Calls prog 47 #[.pointer (some ⟨wb.heap.size,0,none⟩),va,vb] w (yC wb w vc vr (T++l)):=by
 induction h with
 | @none a b h=>
  intro ka kb T vr va vb w P al k i f hl;obtain⟨I,r,E,z,J,s,F,A,rfl,i⟩:=i;obtain⟨L,t,G,B,M,y,H,C,rfl,f⟩:=f;have bi:=hV a;have ap:=hV b;have Q:=P.lt;rw[fH];have hn:((V a:Nat):Int)-((V b:Nat):Int)<=0:=by omega
  generalize decide (sg a=0)=za at *;generalize decide (sg b=0)=zb at *;generalize V a=R at *;generalize V b=S at *;clear hat;obtain⟨W,n,c,X,Y⟩:=eL w [.bool I,.slice r E z,.bool J,.slice s F A,.int .i64 (R:Int),.bool za] 106 [.bool L,.slice t G B,.bool M,.slice y H C,.int .i64 (S:Int),.bool zb] 106;have cM:=aa X.g6 Y.g6;go_enter func47,ntmps47;go_wp2_with fail;(try rw[n]);clear n;exact aM (v:= .tuple #[]) (by simp[results,results47,go_sem]) rfl ⟨vr,rfl,P.be c,k.be c,Fr.of c (iE Q),fun g e=> .inl e⟩
 | @hit a b h ai=>
  intro ka kb T vr va vb w P al k i f hl;obtain⟨I,r,E,z,J,s,F,A,rfl,i⟩:=i;obtain⟨L,t,G,B,M,y,H,C,rfl,f⟩:=f;have ap:=hV b;have Q:=P.lt;have p:=k.lt;obtain⟨U,ac,ah⟩:=k;obtain⟨Ar,cr,rfl,bk⟩:=ac.form;have hN:((V a:Nat):Int)-((V b:Nat):Int)=1:=by omega
  clear h;have a0:=ah.1;have a1:U.length<=1073741824:=by omega
  clear a0;have am:decide (sg b=0)=true:=decide_eq_true ai;rw[am];clear am ai;generalize decide (sg a=0)=za at *;generalize V a=R at *;generalize V b=S at *;clear hat;obtain⟨W,n,c,X,Y⟩:=eL w [.bool I,.slice r E z,.bool J,.slice s F A,.int .i64 (R:Int),.bool za] 106 [.bool L,.slice t G B,.bool M,.slice y H C,.int .i64 (S:Int),.bool true] 106;have cM:=aa X.g6 Y.g6;go_enter func47,ntmps47;go_wp2_with fail;(try rw[n]);clear n;have:=St.mk c;have aq:(Value.slice Ar U.length cr).ownBlock≠some w.heap.size:=fun e=>by have:=(p _ e).2;omega
  have ad:(Value.slice Ar U.length cr).ownBlock≠some (w.heap.size+1):=fun e=>by have:=(p _ e).2;omega
  have ao:(Value.slice Ar U.length cr).ownBlock≠some wb.heap.size:=fun e=>by have:=(p _ e).1;omega
  have n1:wb.heap.size≠w.heap.size:=by omega
  have n2:wb.heap.size≠w.heap.size+1:=by omega
  have cP:=(P.up (b:=W.drew)).k2;have a9:=(P.up (b:=W)).cell 1 rfl;have dP:=fun o:Obj=>((P.up (b:=W.drew)).alloc o).cell 1 rfl;have l1:wb.heap.size<W.heap.size:=(P.up (b:=W)).lt;have l2:wb.heap.size≠W.heap.size:=Nat.ne_of_lt l1;have l3:W.heap.size≠wb.heap.size:=Nat.ne_of_gt l1;have cX:=X.k6;have cY:=Y.k6;have aw:=X.lt;have ax:=Y.lt;have bn:=Nat.ne_of_lt aw;have bo:=Nat.ne_of_lt ax
  go_region_law (first
    |(refine LB (by rfl) (by rfl) 73 8 128 _ underlying68 L6 rfl yB (by decide) (by decide) (by rfl) ac.up (by rfl) (Bx.new _ _ _) rfl (yD _ _ _ _ _ _ _ _ _ _ _ _ _ _ _ _) a1 (by have:=c.size;simp;omega) ?_;intro v9 w9 ag av O az;obtain⟨A9,L9,m9,rfl⟩:=ag.form3;have X9:=Bx.grown X.up O aq;have Y9:=Bx.grown Y.up O ad;have P9:=Bx.grown P.up O ao;have c9:=P9.g2;have bf:=X9.k6;have bg:=Y9.k6;have SP:=L7 (Up.out (a:=w)) Q P.up ⟨_,_,_,rfl⟩ ac.up (ah.ke (Keep.be (Up.out (a:=w)))) f.up f.up ag av O az))
  all_goals (
   go_wp2_with fail;obtain⟨z1,z2,z3,z4⟩:=SP;exact aM (v:= .tuple #[]) (by simp[results,results47,go_sem]) rfl ⟨_,rfl,z1,z2,z3,z4⟩)
 | @one a b h ai a2=>
  intro ka kb T vr va vb w P al k i f hl;obtain⟨I,r,E,z,J,s,F,A,rfl,i⟩:=i;obtain⟨L,t,G,B,M,y,H,C,rfl,f⟩:=f;have ap:=hV b;have Q:=P.lt;have p:=k.lt;obtain⟨U,ac,ah⟩:=k;obtain⟨Ar,cr,rfl,bk⟩:=ac.form;have hN:((V a:Nat):Int)-((V b:Nat):Int)=1:=by omega
  clear h;have a0:=ah.1;have a1:U.length<=1073741824:=by omega
  clear a0;have am:decide (sg b=0)=false:=decide_eq_false ai;have a5:decide (sg a=0)=false:=decide_eq_false a2;rw[am,a5];clear am ai a5 a2;generalize V a=R at *;generalize V b=S at *;clear hat;obtain⟨W,n,c,X,Y⟩:=eL w [.bool I,.slice r E z,.bool J,.slice s F A,.int .i64 (R:Int),.bool false] 106 [.bool L,.slice t G B,.bool M,.slice y H C,.int .i64 (S:Int),.bool false] 106;have cM:=aa X.g6 Y.g6;go_enter func47,ntmps47;go_wp2_with fail;(try rw[n]);clear n;have:=St.mk c;have aq:(Value.slice Ar U.length cr).ownBlock≠some w.heap.size:=fun e=>by have:=(p _ e).2;omega
  have ad:(Value.slice Ar U.length cr).ownBlock≠some (w.heap.size+1):=fun e=>by have:=(p _ e).2;omega
  have ao:(Value.slice Ar U.length cr).ownBlock≠some wb.heap.size:=fun e=>by have:=(p _ e).1;omega
  have n1:wb.heap.size≠w.heap.size:=by omega
  have n2:wb.heap.size≠w.heap.size+1:=by omega
  have cP:=(P.up (b:=W.drew)).k2;have a9:=(P.up (b:=W)).cell 1 rfl;have dP:=fun o:Obj=>((P.up (b:=W.drew)).alloc o).cell 1 rfl;have l1:wb.heap.size<W.heap.size:=(P.up (b:=W)).lt;have l2:wb.heap.size≠W.heap.size:=Nat.ne_of_lt l1;have l3:W.heap.size≠wb.heap.size:=Nat.ne_of_gt l1;have cX:=X.k6;have cY:=Y.k6;have aw:=X.lt;have ax:=Y.lt;have bn:=Nat.ne_of_lt aw;have bo:=Nat.ne_of_lt ax
  go_region_law (first
    |(refine LB (by rfl) (by rfl) 73 8 128 _ underlying68 L6 rfl yB (by decide) (by decide) (by rfl) ac.up (by rfl) (Bx.new _ _ _) rfl (yD _ _ _ _ _ _ _ _ _ _ _ _ _ _ _ _) a1 (by have:=c.size;simp;omega) ?_;intro v9 w9 ag av O az;obtain⟨A9,L9,m9,rfl⟩:=ag.form3;have X9:=Bx.grown X.up O aq;have Y9:=Bx.grown Y.up O ad;have P9:=Bx.grown P.up O ao;have c9:=P9.g2;have bf:=X9.k6;have bg:=Y9.k6;have SP:=L7 (Up.out (a:=w)) Q P.up ⟨_,_,_,rfl⟩ ac.up (ah.ke (Keep.be (Up.out (a:=w)))) i.up f.up ag av O az))
  all_goals (
   go_wp2_with fail;obtain⟨z1,z2,z3,z4⟩:=SP;exact aM (v:= .tuple #[]) (by simp[results,results47,go_sem]) rfl ⟨_,rfl,z1,z2,z3,z4⟩)
 | @split a b l m h h' hd hk bm hm a6 a7=>
  intro ka kb T vr va vb w P al k i f hl;obtain⟨I,r,E,z,J,s,F,A,rfl,i⟩:=i;obtain⟨L,t,G,B,M,y,H,C,rfl,f⟩:=f;have bi:=hV a;have ap:=hV b;have Q:=P.lt;have p:=k.lt;have ay:=fun W hG h=>ZW D a b (.agg #[.bool I,.slice r E z,.bool J,.slice s F A,.bool L,.slice t G B,.bool M,.slice y H C]) W hG h K ka kb hK1 hK2 hA hd;have a3:=fun W vx P c h=>hat ((a+b)/2) W vr vx P c h hk;have i1:=fun vm W P c k h1 h2=>a6 ka hk T vr (.agg #[.bool I,.slice r E z,.bool J,.slice s F A,.int .i64 (V a:Int),.bool (decide (sg a=0))]) vm W P c k h1 h2 (by rw[bE] at hl;omega);have i2:=fun v1 vm W P c k h1 h2=>a7 hk kb (T++l) v1 vm (.agg #[.bool L,.slice t G B,.bool M,.slice y H C,.int .i64 (V b:Int),.bool (decide (sg b=0))]) W P c k h1 h2 (by rw[bE] at hl⊢;omega);have bh:¬((V a:Nat):Int)-((V b:Nat):Int)<=0:=by omega
  have hZ:((V a:Nat):Int)-((V b:Nat):Int)=1->decide (sg a=0)=true∧decide (sg b=0)=false:=fun e=>⟨decide_eq_true (h' (by omega)).2,decide_eq_false (h' (by omega)).1⟩;have a4:Glob w:=hG.be al;have ae:=fun (W':World) (u:Below w.heap.size w W')=>al.trans (u.mono (iE Q));rw[<-eK];unfold iF at ay;unfold yC at i1 i2;unfold yC;clear a6 a7 hat hV h h' hl hk bm hm ka kb hG hA hd;generalize (a+b)/2=a8 at *;generalize decide (sg a=0)=za at *;generalize decide (sg b=0)=zb at *;generalize decide (sg a8=0)=zm at *;generalize V a=R at *;generalize V b=S at *;generalize V a8=nm at *;obtain⟨N,hN⟩:∃N:Int,(R:Int)-(S:Int)=N:=⟨_,rfl⟩;rw[hN] at hZ bh;have bq:IntKind.i64.wrap N=N:=IntWalk.i64_in _ ⟨by omega,by omega⟩;have bp: -1024<=N∧N<=1024:=by omega
  have ad:vr.ownBlock≠some (w.heap.size+1):=fun e=>by have:=(p _ e).2;omega
  by_cases an:N=1
  ·obtain⟨rfl,rfl⟩:=hZ an;subst an;clear hZ;obtain⟨W,n,c,X,Y⟩:=eL w [.bool I,.slice r E z,.bool J,.slice s F A,.int .i64 (R:Int),.bool true] 106 [.bool L,.slice t G B,.bool M,.slice y H C,.int .i64 (S:Int),.bool false] 106;have cM:=aa X.g6 Y.g6;go_enter func47,ntmps47;go_wp2_with fail;(try rw[n]);clear n;have bj:=c.size;have:=St.mk c;refine(ay _ (a4.be c) (SpanAt.of i.up f.up)).mono ?_;rintro e5 w5 ⟨v5,rfl,h5,aj⟩;have:=St.mk aj;obtain⟨s5,A5,k5,c5,s6,A6,k6,c6,rfl⟩:=h5.form;have ba:=aa (X.up (b:=w5)).k6 (Y.up (b:=w5)).k6;go_wp2_with fail;refine(a3 _ _ P.up (ae _ (Up.out (a:=w))) h5).mono ?_;rintro e6 w6 ⟨v6,rfl,h6,ak⟩;have:=St.mk ak;obtain⟨s7,A7,k7,c7,s8,A8,k8,c8,rfl,h7⟩:=h6;obtain⟨q,e7,au,Z⟩:=bI w6 [.bool s7,.slice A7 k7 c7,.bool s8,.slice A8 k8 c8,.int .i64 (nm:Int),.bool zm] 106;have:=St.mk au;have d:=Up.out (a:=w) (b:=q);have X7:=X.up (b:=q);have Y7:=Y.up (b:=q);have bb:=aa X7.k6 (aa Y7.k6 Z.k6);have s6:=ak.size;have s5:=aj.size;go_wp2_with fail;(try rw[e7]);(try clear e7);refine(i1 _ q (P.be d) (ae _ d) (k.be d) (PoAt.of (i.be d)) (PoAt.of h7.up)).mono ?_;rintro e8 w8 ⟨v8,rfl,P8,R8,j,O8⟩;have ar:vr.ownBlock≠some w6.heap.size:=fun e=>by have:=(p _ e).2;omega
   have Y8:=Y7.fr j (by omega) ad;have Z8:=Z.fr j (by omega) ar;have bc:=aa Y8.k6 Z8.k6;go_wp2_with fail;refine(i2 v8 _ w8 P8 ((ae _ d).trans j.be) R8 (PoAt.of ((h7.up (b:=q)).ke j.ke)) (PoAt.of ((f.be d).ke j.ke))).mono ?_;rintro e9 w9 ⟨v9,rfl,P9,R9,F9,O9⟩;have af:OwnTo w vr v8:=fun g e=>(O8 g e).imp id (fun h=>aH d.size h);go_wp2_with fail;exact bodyPost_end (v:= .tuple #[]) (by simp[results,results47,go_sem]) rfl ⟨v9,rfl,P9,R9,((Fr.of d (iE Q)).trans j (fun g e=> .inl e)).trans F9 af,af.trans O9 (aH d.size j.be.size)⟩
  ·have q1:(N==1)=false:=by simpa using an
   clear hZ an;obtain⟨W,n,c,X,Y⟩:=eL w [.bool I,.slice r E z,.bool J,.slice s F A,.int .i64 (R:Int),.bool za] 106 [.bool L,.slice t G B,.bool M,.slice y H C,.int .i64 (S:Int),.bool zb] 106;have cM:=aa X.g6 Y.g6;go_enter func47,ntmps47;go_wp2_with fail;(try rw[n]);clear n;have bj:=c.size;have:=St.mk c;refine(ay _ (a4.be c) (SpanAt.of i.up f.up)).mono ?_;rintro e5 w5 ⟨v5,rfl,h5,aj⟩;have:=St.mk aj;obtain⟨s5,A5,k5,c5,s6,A6,k6,c6,rfl⟩:=h5.form;have ba:=aa (X.up (b:=w5)).k6 (Y.up (b:=w5)).k6;go_wp2_with fail;refine(a3 _ _ P.up (ae _ (Up.out (a:=w))) h5).mono ?_;rintro e6 w6 ⟨v6,rfl,h6,ak⟩;have:=St.mk ak;obtain⟨s7,A7,k7,c7,s8,A8,k8,c8,rfl,h7⟩:=h6;obtain⟨q,e7,au,Z⟩:=bI w6 [.bool s7,.slice A7 k7 c7,.bool s8,.slice A8 k8 c8,.int .i64 (nm:Int),.bool zm] 106;have:=St.mk au;have d:=Up.out (a:=w) (b:=q);have X7:=X.up (b:=q);have Y7:=Y.up (b:=q);have bb:=aa X7.k6 (aa Y7.k6 Z.k6);have s6:=ak.size;have s5:=aj.size;go_wp2_with fail;(try rw[e7]);(try clear e7);refine(i1 _ q (P.be d) (ae _ d) (k.be d) (PoAt.of (i.be d)) (PoAt.of h7.up)).mono ?_;rintro e8 w8 ⟨v8,rfl,P8,R8,j,O8⟩;have ar:vr.ownBlock≠some w6.heap.size:=fun e=>by have:=(p _ e).2;omega
   have Y8:=Y7.fr j (by omega) ad;have Z8:=Z.fr j (by omega) ar;have bc:=aa Y8.k6 Z8.k6;go_wp2_with fail;refine(i2 v8 _ w8 P8 ((ae _ d).trans j.be) R8 (PoAt.of ((h7.up (b:=q)).ke j.ke)) (PoAt.of ((f.be d).ke j.ke))).mono ?_;rintro e9 w9 ⟨v9,rfl,P9,R9,F9,O9⟩;have af:OwnTo w vr v8:=fun g e=>(O8 g e).imp id (fun h=>aH d.size h);go_wp2_with fail;exact bodyPost_end (v:= .tuple #[]) (by simp[results,results47,go_sem]) rfl ⟨v9,rfl,P9,R9,((Fr.of d (iE Q)).trans j (fun g e=> .inl e)).trans F9 af,af.trans O9 (aH d.size j.be.size)⟩
end
def ay7(j:Nat):nl ((2:Int)^j).natAbs<=j/64+1:=by
 rw[Int.natAbs_pow]
 exact cJ (by
  have e:BN^(j/64+1)=2^(64*(j/64+1)):=by rw[Nat.pow_mul];rfl
  rw[e];exact Nat.pow_lt_pow_right (by decide) (by omega))
def uW{n:Int}{K:Nat}(h:nl n.natAbs<=K)(a:1<=K):RL K (n:Rat):=⟨by rw[Rat.num_intCast];exact h,by rw[Rat.den_intCast];exact aH (cJ (m:=1) (by unfold BN;decide)) a⟩
def LU(x y:Rat):(x-y).num.sign<0↔x<y:=by
 rcases iY (x-y) with h|h|h
 ·rw[(fS _).2 h];exact⟨fun _=>by grind,fun _=>by decide⟩
 ·rw[h];exact⟨fun k=>absurd k (by decide),fun k=>by grind⟩
 ·rw[(fS _).1 h];exact⟨fun k=>absurd k (by decide),fun k=>by grind⟩
def Bx.old{w w':World}{g B:Nat}{cs:List Value}{t:TypeId}(h:Bx w g cs t)(a:Below B w w')(b:g<B):Bx w' g cs t:=(a.block g b).trans h
def PoAt.upp{a b:World}[u:Up a b]{v:Value}{x:Rat}{n:Int}{z:Bool}(h:PoAt a v x n z):PoAt b v x n z:=h.ke (Keep.be u.out)
def DT(w:World)(P:List (Rat×Rat)->Prop)(e:Ending)(w':World):Prop:=∃a b l,e= .returned a∧P l∧RowSp w' b a l∧Below w.heap.size w w'
def ay8(s:List Int)(b:Rat)(n K:Nat)(P:List (Rat×Rat)->Prop)(v u:Value)(w:World)(Q:Glob w)(hv:WholeAt w v s)(hu:RatAt w u b)(ts:aN s)(h0:s≠[])(Y:Sz s)(am:Pw b n)(hn:n<=1000)(kb:RL 110079 b)(av:110079<=K)(aw:K<=1073741824)(D:Rat->Rat->Prop)(hA:uN K D)
  (al:∀c,StT 110079 s (aS (bB s)) c->∃l,ExK K D (fun x=>aY 0 ((s :: c).map (fun a=>aP a 0 x))) (fun x=>aP s 0 x) (((-((2:Int)^n):Int)):Rat) ((((2:Int)^n:Int)):Rat) l∧l.length<=1048576∧P l):
  Calls prog 21 #[v,u] w (DT w P):=by
 obtain⟨A,c,rfl,hc⟩:=hv.form;obtain⟨s1,H,Z,J,s2,I,k2,L,rfl⟩:=hu.form;have ad:=fun W Q h=>KE s (.slice A s.length c) W Q h ts h0 Y;have td:=gV (lE ts);have kd:∀n∈aS (bB s),nl n.natAbs<=110079:=fun n hn=>by
  obtain⟨K,hK,av,aw, -⟩:=Y.ex;exact aH (gU (pL hK (by have:=Y.1;omega)) n hn) (by omega)
 have ld:(aS (bB s)).length=s.length-1:=by rw[dF,lZ]
 have ak:∀c,StT 110079 s (aS (bB s)) c->(s :: c).length<=8∧∀a∈s :: c,a≠[]∧a.length<=65∧∀n∈a,nl n.natAbs<=110079:=fun c h=>by
  have B:=h.len;have h7:=Y.1;refine⟨by rw[eG];omega,fun a ha=> ?_⟩;rcases List.mem_cons.1 ha with rfl|ha
  ·exact⟨h0,by omega,fun n hn=>aH (Y.nums n hn) (by omega)⟩
  ·obtain⟨e1,M,e3,e4⟩:=h.mem td kd a ha;exact⟨e1,by omega,e4⟩
 unfold y6 at ad;unfold DT;clear td kd ld;obtain⟨W,eW,d,X⟩:=bI w [.bool s1,.slice H Z J,.bool s2,.slice I k2 L] 58;have cM:=X.g4;go_enter func21,ntmps21;go_wp2_with fail;(try rw[eW]);clear eW;refine(GA 1 _ (by decide) (by decide)).mono ?_;rintro e1 w1 ⟨v1,rfl,B,af⟩;obtain⟨m,f,i,g,rfl⟩:=B.form;obtain⟨w2,M,ax,G⟩:=bI w1 [.bool m,.slice f i g] 54;have p:=aC af ax;have bv:=X.lt;have bw:=af.size;have bx:w.heap.size<w1.heap.size:=by omega
 replace X:=X.be p;replace d:=aC d p;have au:IntBx w2 w1.heap.size ((2:Int)^0):=⟨_,_,_,_,G,B.be ax⟩;clear G B;go_wp2_with fail;(try rw[M]);(try clear M);generalize w1.heap.size=O at *;go_loopg [] n (fun k wr=>∃j,Hid (j+k=n)∧IntBx wr O ((2:Int)^j)∧Bx wr w.heap.size [.bool s1,.slice H Z J,.bool s2,.slice I k2 L] 58∧Below w.heap.size w wr)
 case atStart=>exact⟨0,by unfold Hid;omega,au,X,d⟩
 case round=>
  clear au X d;obtain⟨j,HJ,⟨m,f,i,g,G,V⟩,X,d⟩:=hrel;generalize wr=wy at *;have bz:j<=n:=by have:=HJ.out;omega
  have kp:nl ((2:Int)^j).natAbs<=20:=aH (ay7 j) (by omega);have U:=fun W v h h'=>BY (((2:Int)^j:Int):Rat) b v (.agg #[.bool s1,.slice H Z J,.bool s2,.slice I k2 L]) W h h' 110079 (uW (aH kp (by decide)) (by decide)) kb (by decide);have ae:=fun W h=>BZ ((2:Int)^j) (.agg #[.bool m,.slice f i g]) W h;obtain⟨S,hS⟩:∃S,((((2:Int)^j:Int):Rat)-b).num.sign=S:=⟨_,rfl⟩;have R:=LU (((2:Int)^j:Int):Rat) b;rw[hS] at R U;unfold eO at U;unfold iF at ae;have aj:=hu.be d;have bu:=Q.be d;have b3:=hv.be d;have:=d;cases gk with
  |succ k=>
   have b1:S<0:=R.2 (am.2 j (by have:=HJ.out;omega));clear R hS ad al ak;have an:∀W,IntAt W (.agg #[.bool m,.slice f i g]) ((2:Int)^j)->Calls prog 45 #[.agg #[.bool m,.slice f i g],.int .u64 1] W (dW W ((2:Int)^j*2^1)):=fun W h=>YZ ((2:Int)^j) 1 (.agg #[.bool m,.slice f i g]) W h (by decide) (by omega);have M:(2:Int)^j*2^1=2^(j+1):=by rw[gR];rfl
   rw[M] at an;unfold dW at an;go_wp2_with fail
   go_region_held3 (fun t=>C2 t O (.bool m) (.slice f i g)∧C4 t w.heap.size (.bool s1) (.slice H Z J) (.bool s2) (.slice I k2 L)) (with_reducible exact⟨G.up.k2,X.up.k4⟩)
    (first
     |(go_at_call 43;refine(ae _ V.up).mono ?_;rintro e4 w4 ⟨v4,rfl,h4,ag⟩;have:=St.mk ag)
     |(go_at_call 44;refine(U _ _ h4.up aj.up).mono ?_;rintro e5 o ⟨rfl,ah⟩;have:=St.mk ah))
   all_goals (
    have y:=G.up (b:=o);have X5:=X.up (b:=o);have a6:=aa y.g2 X5.k4;have q:=bJ (b:=o) d;go_wp2_with fail;refine(an _ (V.up (b:=o))).mono ?_;rintro e6 e ⟨v6,rfl,C,r⟩;obtain⟨s6,A6,k6,c6,rfl⟩:=C.form;have z:=y.be r;have X6:=X5.be r;have bp:=aa z.g2 X6.k4;have T:=aC q r;go_wp2_with fail;obtain⟨W7,N,G7,ai,hk,ff⟩:=z.put2 T (by omega) (.bool s6) (.slice A6 k6 c6) rfl rfl;rw[N];clear N;go_roundg k
    case rel=>exact⟨j+1,by have:=HJ.out;unfold Hid;omega,⟨_,_,_,_,G7,C.ke hk⟩,ff X6 (by omega),ai⟩
    case measure=>omega)
  |zero=>
   obtain rfl:j=n:=HJ.out;have b2:¬S<0:=fun h=>by have:=R.1 h;have:=am.1;grind
   clear R hS;go_wp2_with fail
   go_region_held3 (fun t=>C2 t O (.bool m) (.slice f i g)∧C4 t w.heap.size (.bool s1) (.slice H Z J) (.bool s2) (.slice I k2 L)) (with_reducible exact⟨G.up.k2,X.up.k4⟩)
    (first
     |(go_at_call 43;refine(ae _ V.up).mono ?_;rintro e4 w4 ⟨v4,rfl,h4,ag⟩;have:=St.mk ag)
     |(go_at_call 44;refine(U _ _ h4.up aj.up).mono ?_;rintro e5 o ⟨rfl,ah⟩;have:=St.mk ah))
   all_goals (
    have y:=G.up (b:=o);have q:=bJ (b:=o) d;have a6:=y.k2;have ay:=V.up (b:=o);clear ae U G X V aj;go_wp2_with fail;refine(ad _ (Q.be q) (hv.be q)).mono ?_;rintro e6 e ⟨v6,c,rfl,C,hT,r⟩;have z:=y.be r;have az:=ay.be r;have T:=aC q r;obtain⟨b0,E⟩:=ak c hT;obtain⟨l,a3,hl,hP⟩:=al c hT;have aq:=aB a3;have HP:=aB hP;replace E:=fun a h=>(⟨(E a h).1,(E a h).2.1,fun n hn=>aH ((E a h).2.2 n hn) av⟩:a≠[]∧a.length<=65∧∀n∈a,nl n.natAbs<=K);clear a3 hP;obtain⟨Ac,cc,rfl, -⟩:=C.form;clear ad al ak hT;have bj:O<e.heap.size:=z.lt;have a0:=fun W h=>sQ ((2:Int)^j) (.agg #[.bool m,.slice f i g]) W h (aH kp (by decide));have a1:=fun W v h=>BZ (-((2:Int)^j)) v W h;have a2:=fun W h=>BZ ((2:Int)^j) (.agg #[.bool m,.slice f i g]) W h;have kn:RL K ((-((2:Int)^j):Int):Rat):=uW (by rw[Int.natAbs_neg];exact aH kp (by omega)) (by omega);have kq:RL K (((2:Int)^j:Int):Rat):=uW (aH kp (by omega)) (by omega);have ac:=fun (x:Rat) (W:World) (vr F:Value) (P:Bx W e.heap.size [.slice Ac (s :: c).length cc,vr] 103) (d:Below e.heap.size e W) (h:RatAt W F x) (hk:RL K x)=>ax1 s c o.heap.size e.heap.size x (.slice Ac (s :: c).length cc) vr F W P (C.be d) h (by omega) K E hk (by omega);have hV:∀x:Rat,aY 0 ((s :: c).map (fun a=>aP a 0 x))<=1024:=fun x=>by have:=qR ((s :: c).map (fun a=>aP a 0 x)) 0;rw[cH] at this;omega
    have ao:=fun va vb W P p hR B h2=>ZR (wb:=e) (vc:= .slice Ac (s :: c).length cc) (Q.be T) hA hV (by omega) aw ac aq.out kn kq [] (.slice none 0 0) va vb W P p hR B h2 (by rw[List.length_nil];omega);have ba:=fun W F P p h=>ac ((-((2:Int)^j):Int):Rat) W (.slice none 0 0) F P p h kn;have bb:=fun W F P p h=>ac (((2:Int)^j:Int):Rat) W (.slice none 0 0) F P p h kq;rw[iM] at ao;unfold yC at ao;unfold dW at a0;unfold iF at a1 a2;clear ac aq hV E kb am kn kq C y ay;generalize (s :: c).length=nc at *;generalize aY 0 ((s :: c).map (fun a=>aP a 0 ((-((2:Int)^j):Int):Rat)))=Vn at *;generalize aY 0 ((s :: c).map (fun a=>aP a 0 (((2:Int)^j:Int):Rat)))=Vp at *;generalize decide (aP s 0 ((-((2:Int)^j):Int):Rat)=0)=Zn at *;generalize decide (aP s 0 (((2:Int)^j:Int):Rat)=0)=Zp at *;generalize ((-((2:Int)^j):Int):Rat)=xn at *;generalize (((2:Int)^j:Int):Rat)=xp at *;generalize (-((2:Int)^j))=pn at *;go_wp2_with fail;obtain⟨w7,N,ai,P⟩:=bI e [.slice Ac nc cc,.slice none 0 0] 103;rw[N];clear N;have:=St.mk ai;have cP:=P.g2
    go_region_held3 (fun t=>C2 t O (.bool m) (.slice f i g)) (first|(with_reducible exact z.up.k2)|(with_reducible exact G9.k2))
     (first
      |(go_at_call 49;refine(a0 _ az.up).mono ?_;rintro e8 w8 ⟨v8,rfl,h8,bh⟩;have:=St.mk bh)
      |(go_at_call 43;first|(with_reducible refine(a2 _ az.up).mono ?_;rintro e9 w9 ⟨v9,rfl,h9,bi⟩;have:=St.mk bi)|(with_reducible refine(a1 _ _ h8.up).mono ?_;rintro bq b8 ⟨b4,rfl,a7,bc⟩;have:=St.mk bc))
      |(go_at_call 48;first|(with_reducible refine(bb _ _ P.up (Up.out (a:=e)) h9.up).mono ?_;rintro br b9 ⟨b5,rfl,a8,bf⟩;have:=St.mk bf)|(with_reducible refine(ba _ _ P.up (Up.out (a:=e)) a7.up).mono ?_;rintro bs ca ⟨b6,rfl,a9,bg⟩;have:=St.mk bg))
      |(go_at_call 47;refine(ao _ _ _ P.up (Up.out (a:=e)) (RowSp.nil _ _) (a9.upp) (a8.upp)).mono ?_;rintro bt cb ⟨b7,rfl,a5,ar,ap,bm⟩;have G9:=Bx.old z.up ap.be bj;have a4:=(Up.out (a:=e)).trans ap.be;have bn:=a5.k2;obtain⟨bk,bo,rfl, -⟩:=ar.form))
    all_goals (
     go_wp2;go_ret;exact⟨_,_,l,rfl,HP.out,ar,aC T a4⟩))
def jG(p:List UInt8×List UInt8):List Value:=[.string ⟨p.1.toArray⟩,.string ⟨p.2.toArray⟩]
def IvsAt(w:World)(v:Value)(l:List (List UInt8×List UInt8)):Prop:=∃A c,v= .slice A l.length c∧l.length<=c∧(l=[]∨∃b,A=some ⟨b,0,none⟩∧b<w.heap.size∧∀(i:Nat) (p:List UInt8×List UInt8),l[i]? =some p->w.cell? ⟨b,i*2,none⟩=some (.string ⟨p.1.toArray⟩)∧w.cell? ⟨b,i*2+1,none⟩=some (.string ⟨p.2.toArray⟩))
def IvsAt.be{w w':World}{v:Value}{l:List (List UInt8×List UInt8)}(h:IvsAt w v l)(a:Below w.heap.size w w'):IvsAt w' v l:=by
 obtain⟨A,c,hv,g,h⟩:=h;refine⟨A,c,hv,g,?_⟩;rcases h with h|⟨b,e,d,f⟩
 ·exact .inl h
 ·exact .inr ⟨b,e,aZ d a.size,fun i p h=>⟨(a.cell (p:=⟨b,i*2,none⟩) d).trans (f i p h).1,(a.cell (p:=⟨b,i*2+1,none⟩) d).trans (f i p h).2⟩⟩
def IvsAt.form{w:World}{v:Value}{l:List (List UInt8×List UInt8)}(h:IvsAt w v l):∃A c,v= .slice A l.length c∧l.length<=c:=by
 obtain⟨A,c,hv,a,_⟩:=h;exact⟨A,c,hv,a⟩
def IvsAt.at_{w:World}{A:Option Addr}{n c:Nat}{l:List (List UInt8×List UInt8)}(h:IvsAt w (.slice A n c) l){i:Nat}{p:List UInt8×List UInt8}(hi:l[i]? =some p):∃b,A=some ⟨b,0,none⟩∧b<w.heap.size∧w.cell? ⟨b,i*2,none⟩=some (.string ⟨p.1.toArray⟩)∧w.cell? ⟨b,i*2+1,none⟩=some (.string ⟨p.2.toArray⟩):=by
 obtain⟨f,g,e,j,h⟩:=h;simp only[Value.slice.injEq] at e;obtain⟨rfl,rfl,rfl⟩:=e;rcases h with rfl|⟨b,e,d,a⟩
 ·simp at hi
 ·exact⟨b,e,d,(a i p hi).1,(a i p hi).2⟩
def GrowD.ivs{w:World}{g:Nat}{v:Value}{l:List (List UInt8×List UInt8)}(h:GrowD w g 38 2 v (l.map jG)):IvsAt w v l:=by
 obtain⟨A,c,rfl,d⟩:=h.form;rw[cH] at d;refine⟨A,c,by rw[cH],d,?_⟩;cases l with
 |nil=>exact .inl rfl
 |cons m l=>
  obtain⟨b,e, -,k, -⟩:=h.at_ (i:=0) (r:=jG m) rfl;refine .inr ⟨b,e,k,fun i p j=> ?_⟩;obtain⟨n,a, -, -,f⟩:=h.at_ (i:=i) (r:=jG p) (by rw[iK,j];rfl);rw[e] at a;simp only[Option.some.injEq,Addr.mk.injEq] at a;obtain⟨rfl,_⟩:=a;exact⟨f 0 _ rfl,f 1 _ rfl⟩
def IvsAt.built(w:World)(l:List (List UInt8×List UInt8))(t:TypeId):IvsAt (w.alloc (.cells (l.map jG).flatten.toArray t)) (.slice (some ⟨w.heap.size,0,none⟩) l.length l.length) l:=by
 refine⟨_,_,rfl,aE,.inr ⟨w.heap.size,rfl,by simp,fun i p e=> ?_⟩⟩;have B:=Bx.new w (l.map jG).flatten t;have b:∀r∈l.map jG,r.length=2:=fun r a=>by
  obtain⟨q, -,rfl⟩:=List.mem_map.1 a;rfl
 have a:(l.map jG)[i]? =some (jG p):=by rw[iK,e];rfl
 have c:=mW b a (j:=0) (by decide);have d:=mW b a (j:=1) (by decide);exact⟨B.cell (i*2) c,B.cell (i*2+1) d⟩
def LP(a:List (List UInt8×List UInt8))(l m:Value)(w:World)(g:IvsAt w l a)(h:IvsAt w m a)(F:a.length<=1073741824):
  Calls prog 13 #[l,m] w fun e w'=>e= .returned (.bool true)∧Below w.heap.size w w':=by
 obtain⟨A,c,rfl,B⟩:=g.form;obtain⟨r,u,rfl,C⟩:=h.form;go_enter func13,ntmps13;go_wp2_with fail;go_loopg [5] a.length (fun k i wr=>∃j,Hid (j+k=a.length)∧i= .int .i64 j∧Below w.heap.size w wr)
 case atStart=>exact⟨0,by unfold Hid;omega,rfl,aG _ _⟩
 case round=>
  obtain⟨j,d,rfl,b⟩:=hrel;generalize wr=K at *;have D:(0:Int)<=(j:Int):=by omega
  cases gk with
  |zero=>
   have o:j=a.length:=d.out;subst o;go_wp2;go_ret;exact⟨rfl,b⟩
  |succ k=>
   have q:j<a.length:=by have:=d.out;omega
   have E:(j:Int)<(a.length:Int):=by omega
   obtain⟨p,f⟩:∃p,a[j]? =some p:=⟨_,aR q⟩;obtain⟨s,rfl,G,v,x⟩:=(g.be b).at_ f;obtain⟨t,rfl,H,y,z⟩:=(h.be b).at_ f;have n:=b.drew;generalize (⟨p.1.toArray⟩:ByteArray)=I at *;generalize (⟨p.2.toArray⟩:ByteArray)=J at *;clear f;go_wp2_with fail;go_region
   all_goals (
    go_wp2;go_roundg k
    case rel=>exact⟨j+1,by have:=d.out;unfold Hid;omega,by go_num,n⟩
    case measure=>omega)
def LQ:(Tryz.prog.info? 38).map (fun i=>(i.zero,i.size,i.bytes))=some (some (.agg #[.string ⟨#[]⟩,.string ⟨#[]⟩]),2,32):=by kernel_rfl
def LR(n:Nat):∀y∈Builtin.zeroCells (Value.agg #[.string ⟨#[]⟩,.string ⟨#[]⟩]).cells n,NoInt y:=fun y b=>by
 unfold Builtin.zeroCells at b;obtain⟨j,_,rfl⟩:=Array.mem_map.1 b;have a:(Value.agg #[.string ⟨#[]⟩,.string ⟨#[]⟩]).cells= #[Value.string ⟨#[]⟩,.string ⟨#[]⟩]:=rfl;rw[a];have a:(#[Value.string ⟨#[]⟩,.string ⟨#[]⟩]:Array Value).size=2:=rfl;rw[a];rcases(show j%2=0∨j%2=1 by omega) with h|h<;>rw[h]
 ·exact NoInt.string _
 ·exact NoInt.string _
def RowSp.get{w:World}{z:Nat}{A:Option Addr}{n c:Nat}{l:List (Rat×Rat)}(h:RowSp w z (.slice A n c) l){i:Nat}{p:Rat×Rat}(hi:l[i]? =some p):∃b s1 d r k v f s m x g t o y j u q,A=some ⟨b,0,none⟩∧b<w.heap.size∧
  (w.cell? ⟨b,i*8,none⟩=some (.bool s1)∧w.cell? ⟨b,i*8+1,none⟩=some (.slice d r k)∧w.cell? ⟨b,i*8+2,none⟩=some (.bool v)∧w.cell? ⟨b,i*8+3,none⟩=some (.slice f s m)∧w.cell? ⟨b,i*8+4,none⟩=some (.bool x)∧w.cell? ⟨b,i*8+5,none⟩=some (.slice g t o)∧w.cell? ⟨b,i*8+6,none⟩=some (.bool y)∧w.cell? ⟨b,i*8+7,none⟩=some (.slice j u q))∧
  SpanAt w (.agg #[.bool s1,.slice d r k,.bool v,.slice f s m,.bool x,.slice g t o,.bool y,.slice j u q]) p.1 p.2:=by
 obtain⟨H,C,D⟩:=h;obtain⟨s1,d,r,k,v,f,s,m,x,g,t,o,y,j,u,q,e,F,G⟩:=D.2 i p hi;obtain⟨b,B, -,E,a⟩:=C.at_ e;exact⟨b,s1,d,r,k,v,f,s,m,x,g,t,o,y,j,u,q,B,E,⟨a 0 _ rfl,a 1 _ rfl,a 2 _ rfl,a 3 _ rfl,a 4 _ rfl,a 5 _ rfl,a 6 _ rfl,a 7 _ rfl⟩,SpanAt.of F G⟩
def SpanAt.be{w w':World}{v:Value}{x y:Rat}(h:SpanAt w v x y)(a:Below w.heap.size w w'):SpanAt w' v x y:=by
 obtain⟨q,d,m,i,r,e,n,j,s,f,o,k,t,g,p,l,rfl,b,c⟩:=h;exact SpanAt.of (b.be a) (c.be a)
def V9(p:Rat×Rat):List UInt8×List UInt8:=(cW p.1,cW p.2)
def LT(d:List (List UInt8))(n K:Nat)(P:List (Rat×Rat)->Prop)(v:Value)(w:World)(g:Glob w)(hv:StrsAt w v d)(hl:d.length<=7)(hs:∀l∈d,l.length<=6)(Z:vl d=true->d≠[]->Pw (jF (aU d)) n)(hn:n<=1000)(a7:110079<=K)(an:K<=1073741824)(DA:Rat->Rat->Prop)(hA:uN K DA)(H:∀l,P l->l.length<=1048576∧∀p∈l,RL K p.1∧RL K p.2)
  (T:∀w s c,Prp (aU d) w->kL w s c->∃l,ExK K DA (fun x=>aY 0 ((s :: c).map (fun a=>aP a 0 x))) (fun x=>aP s 0 x) (((-((2:Int)^n):Int)):Rat) ((((2:Int)^n:Int)):Rat) l∧P l):
  Calls prog 11 #[v] w fun e w'=>∃v' l,e= .returned (.tuple #[v',.int .i64 (dM d)])∧(dM d=0->P l)∧(dM d≠0->l=[])∧IvsAt w' v' (l.map V9)∧Below w.heap.size w w':=by
 obtain⟨A,c,rfl,hc⟩:=hv.form;have z:=fun W g h=>D5 d (.slice A d.length c) W g h hl hs;have ao:∀q∈aU d,RL 1 q:=pI (fun l hl=>aH (hs l hl) (by decide));have a0:(aU d).length=d.length:=cH _;have S:=uL d;unfold uK at z;obtain⟨E,hE⟩:∃E,dM d=E:=⟨_,rfl⟩;rw[hE] at z S⊢;clear hE;go_enter func11,ntmps11;go_wp2_with fail;refine(z _ g hv).mono ?_;rintro e1 w1 ⟨C,k1,G,bt,rfl,⟨s2,M,k2,N,rfl⟩,V,f⟩;obtain⟨w2,r,af,F⟩:=bI w1 [.bool s2,.slice M k2 N] 54;replace f:=aC f af;rcases S with ⟨rfl,ad,h0⟩|⟨rfl, -⟩|⟨rfl, -, -⟩;rotate_left
 ·skip;clear V z T H;go_wp2_with fail;(try rw[r]);(try clear r);go_ret2;exact⟨_,[],rfl,fun h=>absurd h (by decide),fun _=>rfl,⟨_,_,rfl,aE,.inl rfl⟩,f⟩
 ·skip;clear V z T H;go_wp2_with fail;(try rw[r]);(try clear r);go_ret2;exact⟨_,[],rfl,fun h=>absurd h (by decide),fun _=>rfl,⟨_,_,rfl,aE,.inl rfl⟩,f⟩
 replace Z:=Z ad h0;obtain⟨D, -, -,I,m, -⟩:=V rfl;replace m:=m.be af;have ay:(cC (aU d) D).length=d.length:=by rw[oN,a0]
 have U:cC (aU d) D≠[]:=fun e=>h0 (bX (by rw[<-ay,e];rfl));have ac:=oO I.pos I.dvd (pJ ad).2.2;have J:=sA _ D 1 _ ao I.nl_;have aj:=uE I (pJ ad).2.2;have az:=nM aj;have av:=KW aj ac U;have al:=(IY J (by decide)).1;have a3:=gU J;have a4:(aS (cC (aU d) D)).length<=7:=by rw[dF];omega
 obtain⟨A8,c8,e8, -⟩:=m.form;simp only[Value.slice.injEq] at e8;obtain⟨rfl,rfl,rfl⟩:=e8;have a1:=fun W g h=>CZ (cC (aU d) D) (.slice C (cC (aU d) D).length G) W g h ac U (by omega) J;have Q:=fun W g h=>UK (cC (aU d) D) (.slice C (cC (aU d) D).length G) W g h U ac 9 J (by omega) (by decide) (by decide);rw[av] at Q al
 have ah:=fun s u u' W g h h' (o:Sqp 24057 (aS (cC (aU d) D)) s) (L:Sz s)=>ay8 s (jF (aU d)) n K P u u' W g h h' o.ts o.ne L Z hn (bU al (by decide)) a7 an DA hA (fun c hc=>by
  obtain⟨l,h1,h2⟩:=T _ s c az ⟨⟨o.mono (by decide),hc⟩,o,L,a4,a3⟩;exact⟨l,h1,(H l h2).1,h2⟩)
 unfold iF at Q;unfold DT at ah;clear z V I ay U ac J aj az av al T Z ao a0 h0 ad F af a3 a4;generalize cC (aU d) D=ns at *;generalize jF (aU d)=bq at *;go_wp2_with fail;(try rw[r]);(try clear r);refine(a1 _ (g.be f) m).mono ?_;rintro e3 w3 ⟨v3,s,rfl,O,o,L,ap⟩;replace m:=m.be ap;replace f:=aC f ap;have ax:=fun u' W g h h'=>ah s v3 u' W g h h' o L;clear ah a1;go_wp2_with fail;refine(Q _ (g.be f) m).mono ?_;rintro e4 w4 ⟨v4,rfl,h4,aq⟩;replace O:=O.be aq;replace f:=aC f aq;go_wp2_with fail;refine(ax _ _ (g.be f) O h4).mono ?_;rintro e5 w5 ⟨v5,bi,l,rfl,ae,h5,a8⟩;obtain⟨br,bc⟩:=H l ae;have a5:=aB ae;clear ae H;replace f:=aC f a8;obtain⟨A5,c5,rfl,bm⟩:=h5.form;clear ax Q o L O h4 m;go_wp2_with fail;go_loopg [7,25] l.length (fun k vf i wr=>∃j,Hid (j+k=l.length)∧i= .int .i64 j∧GrowD wr w5.heap.size 38 2 vf (((l.take j).map V9).map jG)∧Below w5.heap.size w5 wr)
 case atStart=>exact⟨0,by unfold Hid;omega,rfl,GrowD.nil,aG _ _⟩
 case round=>
  obtain⟨j,HJ,rfl,y,B⟩:=hrel;generalize wr=wy at *;have bn:(0:Int)<=(j:Int):=by omega
  have au:=aC f B;obtain⟨Af,nf,bj,rfl⟩:=y.form3;cases gk with
  |zero=>
   have hj:j=l.length:=HJ.out;subst hj;rw[List.take_length] at y;have hI:=y.ivs;clear y;go_wp2;go_ret2;exact⟨_,rfl,l,a5.out,hI,au⟩
  |succ k=>
   have bb:j<l.length:=by have:=HJ.out;omega
   have bo:(j:Int)<(l.length:Int):=by omega
   obtain⟨p,Y⟩:∃p,l[j]? =some p:=⟨_,aR bb⟩;obtain⟨b,s1,C,k1,G,s2,M,k2,N,s3,A3,k3,c3,s4,A4,k4,c4,rfl,bk,S,bg⟩:=(h5.be B).get Y;have ai:=bc p (dG Y);have a2:=fun W g h=>ZX p.1 p.2 (.agg #[.bool s1,.slice C k1 G,.bool s2,.slice M k2 N,.bool s3,.slice A3 k3 c3,.bool s4,.slice A4 k4 c4]) W g h K ai.1 ai.2 an;have a6:Hid (((l.take (j+1)).map V9).map jG=((l.take j).map V9).map jG++[[.string ⟨(cW p.1).toArray⟩,.string ⟨(cW p.2).toArray⟩]]):=by
    unfold Hid;rw[BA,Y,Option.toList_some,List.map_append,List.map_append];rfl
   have a9:(((l.take j).map V9).map jG).length<=1073741824:=by rw[cH,cH,bK];omega
   generalize ((l.take j).map V9).map jG=R at *;generalize (⟨(cW p.1).toArray⟩:ByteArray)=tx at *;generalize (⟨(cW p.2).toArray⟩:ByteArray)=ty at *;clear Y ai;obtain⟨w6,e6,t,X⟩:=bI wy [.bool s1,.slice C k1 G,.bool s2,.slice M k2 N,.bool s3,.slice A3 k3 c3,.bool s4,.slice A4 k4 c4] 73;have cX:=X.k8;go_wp2_with fail;(try rw[e6]);(try clear e6);refine(a2 _ ((g.be au).be t) (bg.be t)).mono ?_;rintro e7 w7 ⟨rfl,ag⟩;have ar:Below w7.heap.size w7 (w7.alloc (.cells #[.string tx,.string ty] 38)):=(aG _ _).alloc aE _;have aw:=((y.be t).be ag).be ar;have ak:=((aC B t).trans (ag.mono (aH B.size t.size))).trans (ar.mono (aH B.size (aH t.size ag.size)));have XB:=Bx.new w7 [.string tx,.string ty] 38;have bf:∀u∈[Value.string tx,.string ty],NoInt u∧u.oneCell'=true:=fun u hu=>by
    simp at hu;rcases hu with rfl|rfl
    ·exact⟨NoInt.string _,rfl⟩
    ·exact⟨NoInt.string _,rfl⟩
   clear y a2 X cX S;go_wp2_with (at_builtin;refine yE rfl rfl 38 2 32 _ underlying31 LQ rfl LR (by decide) (by decide) rfl aw rfl XB rfl bf a9 ak.size ?_;intro v8 w8 am bp ba bs);have bh:=ak.trans (aw.left ba ak.size);rw[<-a6.out] at am;go_roundg k
   case rel=>exact⟨j+1,by have:=HJ.out;unfold Hid;omega,by go_num,am,bh⟩
   case measure=>omega
def LY:bD [48]=some 0:=by decide
def ayM:bD [49]=some 1:=by decide
def ayN:bD [45,50]=some (-2):=by decide
