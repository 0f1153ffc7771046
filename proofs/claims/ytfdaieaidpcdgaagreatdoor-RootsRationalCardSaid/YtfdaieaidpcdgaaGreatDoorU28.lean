/- Laws. -/
import Derived.Test.YtfdaieaidpcdgaaGreatDoorU27
set_option linter.all false
set_option maxHeartbeats 8000000
set_option maxRecDepth 99999
namespace Go.Proofs.YtfdaieaidpcdgaaGreatDoor
open Go.RowKit Sos Tryz
variable{B K b g i j k n:Nat}{W a w w' w1:World}{s:List Int}{c:List (List Int)}{q x y:Rat}{p:Rat×Rat}{A A1 d f:Option Addr}{u v:Value}{t:TypeId}{cs:List Value}{l:List (Rat×Rat)}
def dxE(x y:Int)(C D:Value)(w:World)(b:NI w C x)(c:NI w D y)(P:nl x.natAbs<=549755813888)(F:nl y.natAbs<=549755813888):
  Calls prog 133 #[C,D] w (nN w (x-y)):=by
 rw[Int.sub_eq_add_neg];have O:nl (-y).natAbs<=549755813888:=by rw[azJ];exact F
 obtain⟨z,j,s,m,rfl⟩:=b.form;obtain⟨A,k,t,n,rfl⟩:=c.form;obtain⟨W,p,a,X,Y,R⟩:=gE w [.bool z,.slice j s m] 106 [.bool A,.slice k t n] 106 [.bool false,.slice none 0 0] 106;have h:=aa X.g2 (aa Y.g2 R.g2);go_enter func133,ntmps133;go_wp2_with fail;(try rw[p]);clear p;replace b:=b.be a;replace c:=c.be a;replace b:=b.drew;replace c:=c.drew;replace X:=X.drew;replace Y:=Y.drew;replace R:=R.drew;replace a:=a.drew;replace h:=aa X.k2 (aa Y.k2 R.g2);have G:w.1.size+1+1≠w.1.size:=by omega
 have H:w.1.size+1+1≠w.1.size+1:=by omega
 go_region_held3 (fun E=>C2 E w.1.size (.bool z) (.slice j s m)∧C2 E (w.1.size+1) (.bool A) (.slice k t n))
  (first|(with_reducible exact⟨X.k2,Y.k2⟩)|(refine⟨?_,?_⟩<;>(repeat (first|with_reducible exact X.k2|with_reducible exact Y.k2|with_reducible refine fQ G ?_|with_reducible refine fQ H ?_))))
  (first
   |(go_at_call 131;refine(yY y _ _ c (by omega)).mono ?_;rintro L U ⟨S,rfl,i,f⟩;obtain⟨Q,I,N,K,rfl⟩:=i.form;replace X:=X.be f;replace Y:=Y.be f;replace R:=R.be f;replace h:=aa X.k2 (aa Y.k2 R.g2);replace d:=KM.be f;replace b:=b.ke d;replace c:=c.ke d;(try replace e:=e.ke d);replace a:=aC a f)
   |(go_at_call 167;refine(EL x (-y) _ _ _ b i (by omega) (by omega)).mono ?_;rintro M V ⟨T,rfl,e,g⟩;obtain⟨B,l,u,o,rfl⟩:=e.form;replace X:=X.be g;replace Y:=Y.be g;replace R:=R.be g;replace h:=aa X.k2 (aa Y.k2 R.g2);replace d:=KM.be g;replace b:=b.ke d;replace c:=c.ke d;(try replace i:=i.ke d);replace a:=aC a g))
 go_wp2_with fail;obtain⟨J,q,R,a,d,r⟩:=R.mut2 a (by omega) (.bool B) (.slice l u o) rfl rfl;replace X:=r X;replace Y:=r Y;replace e:=e.ke d;rw[q];clear q;replace h:=aa X.k2 (aa Y.k2 R.k2);exact aM (v:= .agg #[.bool B,.slice l u o]) (by simp[results,results133,go_sem,R.k2]) rfl ⟨_,rfl,e,a⟩
def dxF(q:Rat)(v:Value)(w:World)(hv:NQ w v q)(K:Nat)(f:RL K q)(hK:K<=500000000000):
  Calls prog 82 #[v] w (nN w q.floor):=by
 obtain⟨N,s,J,y,O,t,L,z,rfl⟩:=hv.form;have ad:(0:Int)<(q.den:Int):=by have:=q.den_pos;omega
 rw[Rat.floor_def,czP ad];have lq:nl (q.num.tdiv q.den).natAbs<=nl q.num.natAbs:=cK (by rw[Int.natAbs_tdiv];exact azK _ _);have E:=fun W h=>r8 q (.agg #[.bool N,.slice s J y,.bool O,.slice t L z]) W h (aH f.2 (by omega));have I:=fun W u v h B=>EG q.num q.den u v W h B (aH f.1 (by omega)) (aH f.2 (by omega)) (by omega);have p:=fun W u v h B=>dxE (q.num.tdiv q.den) 1 u v W h B (by have:=f.1;omega) (aH (cJ (m:=1) (by unfold BN;decide)) (by decide));have o:∀W,Calls prog 73 #[.int .i64 1] W (nN W 1):=fun W=>EJ 1 W (by decide);have hS:(q.num.tmod q.den).sign<0↔q.num.tmod q.den<0:=by
  rcases aqL (q.num.tmod q.den) 0 with k|k|k
  ·rw[aqT k];exact⟨fun _=>k,fun _=>by decide⟩
  ·rw[k];decide
  ·rw[aqI k];exact⟨fun h=>absurd h (by decide),fun h=>by omega⟩
 simp only[hS];unfold EF at I;unfold nN at E p o;generalize q.num.tmod q.den=M at *;generalize q.num.tdiv q.den=Q at *;obtain⟨P,C⟩:∃P,(if M<0 then Q-1 else Q)=P:=⟨_,rfl⟩;rw[C];have V:=aB C;clear C;clear hS ad lq f hK;obtain⟨W,eW,d,X,R⟩:=eL w [.bool N,.slice s J y,.bool O,.slice t L z] 108 [.bool false,.slice none 0 0] 106;have cM:=aa X.g4 R.g2;go_enter func82,ntmps82;go_wp2_with fail;(try rw[eW]);clear eW;replace hv:=hv.be d;have hn:=hv.num;go_cut [3,4] (fun s3 e wx=>cyZ W Q M s3 e wx)
 case first=>
  clear p o
  go_region_held3 (fun S=>C4 S w.1.size (.bool N) (.slice s J y) (.bool O) (.slice t L z)) (with_reducible exact X.up.k4)
   (first
    |(go_at_call 120;refine(E _ hv.up).mono ?_;rintro e3 w3 ⟨v3,rfl,h3,ae⟩;have:=St.mk ae)
    |(go_at_call 76;refine(I _ _ _ hn.up h3.up).mono ?_;rintro e4 w4 ⟨v4,u4,rfl,a,c,af⟩;obtain⟨e,i,r,j,rfl⟩:=a.form;obtain⟨s5,A5,k5,c5,rfl⟩:=c.form;have:=St.mk af;(try have D1:=czO (w:=w4));(try have D2:=cq9 (w:=w4))))
  all_goals (
   go_wp2;go_meet
   first|(with_reducible exact czN a c)|(with_reducible exact cq6 a c)|(with_reducible exact cq7 a c)|(with_reducible exact cq8 a c)|(with_reducible exact cq4 a c)|(with_reducible exact cq5 a c))
 case rest=>
  obtain⟨g,h,rfl,rfl,hg,⟨e,i,r,j,F,hF⟩,⟨s5,A5,k5,c5,G,hM⟩,ac⟩:=hcut;have rl:=R.lt;replace R:=R.be ac;replace d:=aC d ac;have l:=hM.neg;clear E I hv hn X cM;have cM:=aa R.g2 (aa F.k2 G.k2);have n1:w.1.size+1≠g:=by omega
  by_cases n:M<0
  ·obtain rfl:P=Q-1:=by rw[<-V.out,if_pos n]
   rw[decide_eq_true n] at l;subst l;go_wp2_with fail
   go_region_held3 (fun S=>C2 S g (.bool e) (.slice i r j)) (first|with_reducible exact F.up.k2|with_reducible exact((F9.far _ _ n1).far _ _ n1).k2)
    (first
     |(go_at_call 73;refine(o _).mono ?_;rintro e8 w8 ⟨v8,rfl,h8,ag⟩;have:=St.mk ag)
     |(go_at_call 133;refine(p _ _ _ hF.up h8.up).mono ?_;rintro e9 T ⟨v9,rfl,h9,ah⟩;obtain⟨s9,U,k9,Z,rfl⟩:=h9.form;have:=St.mk ah;have Y:=R.up (b:=T);have F9:=F.up (b:=T);have cR:=Y.g2))
   all_goals (
    go_wp2_with fail;obtain⟨W6,A,x,D,H,ff⟩:=Y.mut2 (bJ (b:=T) d) (by omega) (.bool s9) (.slice U k9 Z) rfl rfl;rw[A];exact aM (v:= .agg #[.bool s9,.slice U k9 Z]) (by simp[results,results82,go_sem,x.k2]) rfl ⟨_,rfl,h9.ke H,D⟩)
  ·obtain rfl:P=Q:=by rw[<-V.out,if_neg n]
   rw[decide_eq_false n] at l;subst l;clear p o;go_wp2_with fail;obtain⟨W6,A,x,D,H,ff⟩:=R.mut2 d (by omega) (.bool e) (.slice i r j) rfl rfl;rw[A];exact aM (v:= .agg #[.bool e,.slice i r j]) (by simp[results,results82,go_sem,x.k2]) rfl ⟨_,rfl,hF.ke H,D⟩
def E5{n:Int}(h:nl n.natAbs<=K)(a:1<=K):RL K (n:Rat):=⟨by rw[Rat.num_intCast];exact h,by rw[Rat.den_intCast];exact aH (cJ (m:=1) (by unfold BN;decide)) a⟩
def bqK{w:List Int}(o:Cn 110079 w s c)(p:Sz s):∃(a b:List Int) (k l:Rat) (C:List (List Rat)),ChT 110079 a k b l C∧aT k a=cE s∧aT l b=fW (cE s)∧(∀X∈cE s :: C,X≠[]∧X.length<=7∧∀q∈X,RL 250000000 q)∧C.length<=7∧∀i x j y,xT (cE s :: C) i x j y=fF s c i x j y:=by
 obtain⟨C,t,v⟩:=o.rat (by decide);have h:=p.nums;have J:=p.1;have r:=pL h (by omega);have F:=gU r;have u:RL 150 (1/((cf s (s.length-1):Int):Rat)):=by
  have:=pM (n:=1) (d:=cf s (s.length-1)) (K:=150) (aH (cJ (m:=1) (by unfold BN;decide)) (by decide)) (iU h _) (by decide);rwa [bxS] at this
 have E:RL 151 ((bC (bB s):Int):Rat):=E5 (by rw[dD];exact az4 r) (by decide);have G:(aS (bB s)).length<=6:=by rw[dF,lZ];omega
 have D:=t.sizes (by decide) 300000 (bU u (by decide)) (bU (o6 u E) (by decide)) (fun n hn=>aH (F n hn) (by decide));have H:(cE s).length=s.length:=cH _;have L:=dK 110079 G;refine⟨_,_,_,_,C,t,(pN s).symm,by rw[pN,CN],fun X f=> ?_,by have:=t.len;omega,fun i x j y=>Cn.count (B:=0) (w:=w) v i x j y⟩;rcases List.mem_cons.1 f with rfl|f
 ·exact⟨fun e=>o.sq.ne (bX (by rw[<-H,e];rfl)),by omega,fun q g=>bU (CU h (by decide) q g) (by decide)⟩
 ·obtain⟨I,z,A⟩:=D X f;exact⟨z,by omega,fun q g=>bU (A q g) (by omega)⟩
def cxF(A:List Rat)(w0 s:List Int)(c:List (List Int))(f g:Bool)(x y:Rat)(v u1 u2:Value)(w:World)(hv:QsAt w v A)(T:Cn 110079 w0 s c)(hz:Sz s)(ac:∀W,QsAt W v A->Calls prog 72 #[v] W (lT W (cE s)))(q:REnd w u1 f x)(r:REnd w u2 g y)(kx:RL 250000000 x)(ky:RL 250000000 y):
  Calls prog 129 #[v,u1,u2] w (eO w (fF s c (eI f true) x (eI g false) y)):=by
 obtain⟨A0,c0,rfl,ai⟩:=hv.form;have m:=fun W h=>ac W h;obtain⟨a,b,fa,fb,C,U,P,Q,e,aj,V⟩:=bqK T hz;have n:=fun W v h=>E9 (cE s) U P Q v W h 250000000 (fun X i=>(e X i).2.2) (by decide) (e _ iC).2.1 aE;have Z:=V (eI f true) x (eI g false) y;have o:=fun (p bl:Bool) (z:Rat) (kz:RL 250000000 z) B W v u h h'=>E7 (cE s :: C) B p bl z v u W h h' (by rw[eG];omega) 250000000 (fun X i=>⟨(e X i).1,by have:=(e X i).2.1;omega,(e X i).2.2⟩) kz (by decide) (by decide);have v1:=o f true x kx;have v2:=o g false y ky;have b1:=qR ((cE s :: C).map (fun A=>cyE A (eI f true) x)) 0;have b2:=qR ((cE s :: C).map (fun A=>cyE A (eI g false) y)) 0;rw[cH,eG] at b1 b2;rw[<-Z];unfold xT;unfold eO at v1 v2;unfold lT at m;unfold vC at n;unfold eO;obtain⟨s1,D,k1,J,s2,E,k2,K,rfl,q⟩:=q;obtain⟨s3,F,k3,M,s4,G,k4,N,rfl,r⟩:=r;clear o Z V e U P Q T hz ac kx ky;generalize aY 0 ((cE s :: C).map (fun A=>cyE A (eI f true) x))=H at *;generalize aY 0 ((cE s :: C).map (fun A=>cyE A (eI g false) y))=I at *;generalize cE s :: C=L at *;generalize cE s=S at *;have hw:IntKind.i64.wrap ((H:Int)-(I:Int))=(H:Int)-(I:Int):=IntWalk.i64_in _ ⟨by omega,by omega⟩;obtain⟨W,O,d,X,Y⟩:=eL w [.bool f,.bool s1,.slice D k1 J,.bool s2,.slice E k2 K] 165 [.bool g,.bool s3,.slice F k3 M,.bool s4,.slice G k4 N] 165;have cM:=aa X.g5 Y.g5;go_enter func129,ntmps129;go_wp2_with fail;(try rw[O]);clear O;refine(m _ (hv.be d)).mono ?_;rintro e1 w1 ⟨ak,rfl,R,k⟩;replace X:=X.be k;replace Y:=Y.be k;replace d:=aC d k;have cX:=X.k5;have cY:=Y.k5;go_wp2_with fail;refine(n _ _ R).mono ?_;rintro e2 w2 ⟨al,rfl,j,l⟩;replace X:=X.be l;replace Y:=Y.be l;replace d:=aC d l;obtain⟨AL,cL,rfl, -⟩:=j.form;replace cX:=X.k5;replace cY:=Y.k5;have ae:REnd w2 (.agg #[.bool f,.bool s1,.slice D k1 J,.bool s2,.slice E k2 K]) f x:=⟨_,_,_,_,_,_,_,_,rfl,q.be d⟩;have af:REnd w2 (.agg #[.bool g,.bool s3,.slice F k3 M,.bool s4,.slice G k4 N]) g y:=⟨_,_,_,_,_,_,_,_,rfl,r.be d⟩;clear m n R;go_wp2_with fail
 go_region_with (first
  |(go_at_call 166;(first|(with_reducible refine(v1 _ _ _ _ (QQs.up j) ae.up).mono ?_)|(with_reducible refine(v2 _ _ _ _ (QQs.up j) af.up).mono ?_));rintro e5 t ⟨rfl,ad⟩;have:=St.mk ad;have ag:=(X.up (b:=t)).k5;have ah:=(Y.up (b:=t)).k5))
 all_goals (
  go_wp2;go_ret;exact⟨rfl,bJ (b:=t) d⟩)
def MD(x y:Rat)(v u:Value)(w:World)(B:NQ w v x)(C:NQ w u y)(K:Nat)(a:RL K x)(f:RL K y)(hK:K<=1073741824):Calls prog 128 #[v,u] w (eS w ((x+y)/2)):=by
 obtain⟨s1,I,k1,O,s2,J,k2,P,rfl⟩:=B.form;obtain⟨s3,L,k3,Q,s4,M,k4,S,rfl⟩:=C.form;have h1:=xR a;have s:=fun W u v h c=>sK x y u v W h c K a f (by omega);have A:∀W,Calls prog 122 #[.int .i64 2] W (eS W 2):=fun W=>r7 2 W (by decide);have t:=fun W u v h c=>vD (x+y) 2 u v W h c (2*K+2) (bU (wW a f) (by omega)) (bU (show RL 1 (2:Rat) from az3 (n:=2) (by decide)) (by omega)) (by omega) (by decide);unfold eS at s A t;unfold eS;clear a f;generalize (x+y)/2=m at *;generalize x+y=z at *;obtain⟨W,q,d,X,Y,R⟩:=gE w [.bool s1,.slice I k1 O,.bool s2,.slice J k2 P] 108 [.bool s3,.slice L k3 Q,.bool s4,.slice M k4 S] 108 [.bool false,.slice none 0 0,.bool false,.slice none 0 0] 108;have cM:=aa X.g4 (aa Y.g4 R.g4);go_enter func128,ntmps128;go_wp2_with fail;(try rw[q]);clear q;refine(s _ _ _ (B.be d) (C.be d)).mono ?_;rintro e5 w5 ⟨v5,rfl,T,V⟩;have:=St.mk V;go_wp2_with fail;refine(A _).mono ?_;rintro p w6 ⟨v6,rfl,U,e⟩;have:=St.mk e;go_wp2_with fail;refine(t _ _ _ T.up U).mono ?_;rintro e7 H ⟨v7,rfl,r,Z⟩;obtain⟨F,g,D,k,G,i,E,o,rfl⟩:=r.form;have:=St.mk Z;have j:=R.up (b:=H);have cR:=j.g4;go_wp2_with fail;obtain⟨W6,p,N,e,hk,ff⟩:=j.mut4 (bJ (b:=H) d) (by omega) (.bool F) (.slice g D k) (.bool G) (.slice i E o) rfl rfl;rw[p];exact aM (v:= .agg #[.bool F,.slice g D k,.bool G,.slice i E o]) (by simp[results,results128,go_sem,N.k4]) rfl ⟨_,rfl,r.ke hk,e⟩
def IvN(w:World)(v:Value)(x y:Rat):Prop:=∃n a i e o b j f p c k g q d m h,v= .agg #[.bool n,.slice a i e,.bool o,.slice b j f,.bool p,.slice c k g,.bool q,.slice d m h]∧NQ w (.agg #[.bool n,.slice a i e,.bool o,.slice b j f]) x∧NQ w (.agg #[.bool p,.slice c k g,.bool q,.slice d m h]) y
def IvN.of{o p q r:Bool}{a b c:Option Addr}{e f m:Nat}(h:NQ w (.agg #[.bool o,.slice a j e,.bool p,.slice b k f]) x)(s:NQ w (.agg #[.bool q,.slice c m g,.bool r,.slice d n i]) y):IvN w (.agg #[.bool o,.slice a j e,.bool p,.slice b k f,.bool q,.slice c m g,.bool r,.slice d n i]) x y:=⟨_,_,_,_,_,_,_,_,_,_,_,_,_,_,_,_,rfl,h,s⟩
def IvN.ke(h:IvN w v x y)(a:KM w w'):IvN w' v x y:=by
 obtain⟨r,d,n,i,s,e,o,j,t,f,p,k,u,g,q,m,rfl,b,c⟩:=h;exact IvN.of (b.ke a) (c.ke a)
def IvN.be(h:IvN w v x y)(a:Below w.1.size w w'):IvN w' v x y:=h.ke (KM.be a)
def IvN.up{b:World}[u:Up a b](h:IvN a v x y):IvN b v x y:=h.be u.out
def Bx.mut8{n o p q r s x:Value}(h:Bx W b [n,o,p,q,r,s,u,x] t)(P:Below B w W)(a:B<=b)(d e f g i j k m:Value)(hn:(cS (some n)&&(cS (some o)&&(cS (some p)&&(cS (some q)&&(cS (some r)&&(cS (some s)&&(cS (some u)&&cS (some x))))))))=true):
  ∃c,(((((((W.setCell ⟨b,0,none⟩ d).setCell ⟨b,1,none⟩ e).setCell ⟨b,2,none⟩ f).setCell ⟨b,3,none⟩ g).setCell ⟨b,4,none⟩ i).setCell ⟨b,5,none⟩ j).setCell ⟨b,6,none⟩ k).setCell ⟨b,7,none⟩ m=c∧Bx c b [d,e,f,g,i,j,k,m] t∧Below B w c∧KM W c:=by
 simp only[az7] at hn;obtain⟨Z,rfl,H,y,Q,f1⟩:=h.mut1 P a 0 d hn.1;obtain⟨W2,rfl,I,z,R,f2⟩:=H.mut1 y a 1 e hn.2.1;obtain⟨W3,rfl,J,A,S,f3⟩:=I.mut1 z a 2 f hn.2.2.1;obtain⟨W4,rfl,K,C,T,f4⟩:=J.mut1 A a 3 g hn.2.2.2.1;obtain⟨W5,rfl,L,D,U,f5⟩:=K.mut1 C a 4 i hn.2.2.2.2.1;obtain⟨W6,rfl,M,E,V,f6⟩:=L.mut1 D a 5 j hn.2.2.2.2.2.1;obtain⟨W7,rfl,N,F,X,f7⟩:=M.mut1 E a 6 k hn.2.2.2.2.2.2.1;obtain⟨W8,rfl,O,G,Y,f8⟩:=N.mut1 F a 7 m hn.2.2.2.2.2.2.2;exact⟨_,rfl,O,G,((((((Q.trans R).trans S).trans T).trans U).trans V).trans X).trans Y⟩
def IvRw(w:World)(rows:List (List Value))(l:List (Rat×Rat)):Prop:=rows.length=l.length∧∀(i:Nat) (p:Rat×Rat),l[i]? =some p->∃cs,rows[i]? =some cs∧IvN w (.agg cs.toArray) p.1 p.2
def RowIv(w:World)(base:Nat)(v:Value)(l:List (Rat×Rat)):Prop:=∃rows,GrowD w base 117 8 v rows∧IvRw w rows l
section
variable {w w':World}{base:Nat}{v:Value}{l:List (Rat×Rat)}{rows:List (List Value)}
def IvRw.ke(h:IvRw w rows l)(b:KM w w'):IvRw w' rows l:=⟨h.1,fun i p c=>by
 obtain⟨cs,e,a⟩:=h.2 i p c;exact⟨cs,e,a.ke b⟩⟩
def RowIv.be(h:RowIv w base v l)(a:Below w.1.size w w'):RowIv w' base v l:=by
 obtain⟨rows,b,c⟩:=h;exact⟨rows,b.be a,c.ke (KM.be a)⟩
def RowIv.up{b:World}[u:Up a b](h:RowIv a base v l):RowIv b base v l:=h.be u.out
def RowIv.lt(h:RowIv w base v l):∀g,v.ownBlock=some g->base<=g∧g<w.1.size:=by
 obtain⟨rows,a,b⟩:=h;exact a.lt
def RowIv.nil(w:World)(base:Nat):RowIv w base (.slice none 0 0) []:=⟨[],GrowD.nil,rfl,fun i p h=>by simp at h⟩
def RowIv.form(h:RowIv w base v l):∃A c,v= .slice A l.length c∧l.length<=c:=by
 obtain⟨rows,a,b⟩:=h;rw[<-b.1];exact a.form
def RowIv.get{c:Nat}(h:RowIv w base (.slice A n c) l)(hi:l[i]? =some p):∃b x d r k y f s m z g t o B j u q,A=some ⟨b,0,none⟩∧b<w.1.size∧
  (w.cell? ⟨b,i*8,none⟩=some (.bool x)∧w.cell? ⟨b,i*8+1,none⟩=some (.slice d r k)∧w.cell? ⟨b,i*8+2,none⟩=some (.bool y)∧w.cell? ⟨b,i*8+3,none⟩=some (.slice f s m)∧w.cell? ⟨b,i*8+4,none⟩=some (.bool z)∧w.cell? ⟨b,i*8+5,none⟩=some (.slice g t o)∧w.cell? ⟨b,i*8+6,none⟩=some (.bool B)∧w.cell? ⟨b,i*8+7,none⟩=some (.slice j u q))∧
  IvN w (.agg #[.bool x,.slice d r k,.bool y,.slice f s m,.bool z,.slice g t o,.bool B,.slice j u q]) p.1 p.2:=by
 obtain⟨rows,F,G⟩:=h;obtain⟨K,e,x,d,r,k,y,f,s,m,z,g,t,o,B,j,u,q,C,I,J⟩:=G.2 i p hi;injection C with C;have D:=congrArg Array.toList C;rw[List.toList_toArray] at D;subst D;obtain⟨b,E, -,H,a⟩:=F.at_ e;exact⟨b,x,d,r,k,y,f,s,m,z,g,t,o,B,j,u,q,E,H,⟨a 0 _ rfl,a 1 _ rfl,a 2 _ rfl,a 3 _ rfl,a 4 _ rfl,a 5 _ rfl,a 6 _ rfl,a 7 _ rfl⟩,IvN.of I J⟩
def GrowD.km{e:TypeId}(h:GrowD w base e k v rows)(c:w.grownBy w' v.ownBlock):KM w w':=⟨c.size,fun p i x a=>by
 refine(World.cell?_of_block (c.block p.block (block_lt_of_cell a) (fun b=> ?_))).trans a;have hn:=h.2.2 p.block b.symm;rcases h.1.2 with ⟨rfl,_⟩|⟨g,f,cur,rfl,_,d,_⟩
 ·simp[Value.ownBlock] at b
 ·simp[Value.ownBlock] at b;unfold World.cell? at a;rw[b] at hn;rw[b,d] at a;simp only at a;split at a
  ·cases a
  ·rw[<-Array.getElem?_toList] at a;exact hn _ _ _ d _ (dG a) i x rfl⟩
def IvRw.push(h:IvRw w rows l)(c:KM w w')(hi:IvN w (.agg cs.toArray) x y):IvRw w' (rows++[cs]) (l++[(x,y)]):=by
 have f:=h.ke c;refine⟨by rw[bE,bE,h.1];rfl,fun i p a=> ?_⟩;rcases dE i l.length with b|b
 ·rw[gA b] at a;obtain⟨d,e,g⟩:=f.2 i p a;exact⟨d,by rw[gA (by have:=h.1;omega)];exact e,g⟩
 ·have j:=(List.getElem?_eq_some_iff.1 a).1;rw[bE,iJ] at j;obtain rfl:i=l.length:=by omega
  rw[fK aE,azV] at a;have k:(x,y)=p:=by simpa using a
  subst k;exact⟨cs,by rw[fK (by have:=h.1;omega),h.1,azV];rfl,hi.ke c⟩
end
def E3:(Tryz.prog.info? 117).map (fun i=>(i.zero,i.size,i.bytes))=some (some (.agg #[.bool false,.slice none 0 0,.bool false,.slice none 0 0,.bool false,.slice none 0 0,.bool false,.slice none 0 0]),8,128):=by kernel_rfl
def uY(wb w:World)(b:Value)(l:List (Rat×Rat))(e:Ending)(w':World):Prop:=∃a,e= .returned a∧RowIv w' wb.1.size a l∧w.grownBy w' b.ownBlock∧KM w w'∧OwnTo w b a
def pT{d:World}{r:Option Nat}(a:Below w.1.size w w1)(b:w1.grownBy d r):w.grownBy d r:=⟨b.os.trans a.os,b.tape.trans a.tape,b.output.trans a.output,aH a.size b.size,fun k c e=>(b.block k (aZ c a.size) e).trans (a.block k c)⟩
def DZ{g:World}{f:Value}(h:w.grownBy w1 v.ownBlock)(a:w1.grownBy g f.ownBlock)(i:OwnTo w v f):w.grownBy g v.ownBlock:=⟨a.os.trans h.os,a.tape.trans h.tape,a.output.trans h.output,aH h.size a.size,fun k c d=>(a.block k (aZ c h.size) (fun e=>by
 rcases i k e.symm with b|b
 ·exact d b.symm
 ·omega)).trans (h.block k c d)⟩
def OwnTo.less{a:Value}(h:OwnTo W v a)(b:w.1.size<=W.1.size):OwnTo w v a:=fun g e=>(h g e).imp id (fun h=>aH b h)
def r5{b:Value}(c:OwnTo W v b)(h:v.ownBlock≠some g)(d:g<W.1.size):b.ownBlock≠some g:=fun e=>by
 rcases c g e with a|a
 ·exact h a
 ·omega
def E0{a:Value}(b:Below w.1.size w W)(h:a.ownBlock=v.ownBlock∨a.ownBlock=some W.1.size):OwnTo w v a:=fun g e=>by
 rcases h with h|h
 ·exact .inl (by rw[<-h];exact e)
 ·rw[h] at e;injection e with e;exact .inr (by have:=b.size;omega)
def uZ(wb:World)(vp vl:Value)(a b:Rat)(l:List (Rat×Rat)):Prop:=∀(c:List (Rat×Rat)) (d e f:Value) (w:World),Below wb.1.size wb w->RowIv w wb.1.size d c->NQ w e a->NQ w f b->c.length+l.length<=1048576->
  Calls prog 124 #[vp,vl,e,f,d] w (uY wb w d (c++l))
section
variable {V:Rat->Nat}{sg:Rat->Int}{er:Rat->Rat}{K:Nat}{wb:World}{vp vl:Value}(hV:∀x,V x<=1024)(hK2:K<=1000000000)
 (hva:∀(x:Rat) (bl:Bool) (W:World) (u:Value),Below wb.1.size wb W->REnd W u false x->RL K x->Calls prog 166 #[vl,u,.bool bl] W (eO W (V x:Nat)))
 (hat:∀(x:Rat) (W:World) (u:Value),Below wb.1.size wb W->NQ W u x->RL K x->Calls prog 86 #[vp,u] W (eS W (er x)))
 (hsg:∀(x:Rat) (W:World) (u:Value),NQ W u (er x)->RL K x->Calls prog 85 #[u] W (eO W (sg x)))
include hV hK2 hva hat hsg
def vA{a b:Rat}(ka:RL K a)(kb:RL K b)(H:V a=V b∧l=[]∨V a=V b+1∧sg b=0∧l=[(b,b)]∨V a=V b+1∧sg b≠0∧sg a≠0∧l=[(a,b)]∨V b<V a∧(V a=V b+1->sg b≠0∧sg a=0)∧∃l1 l2,l=l1++l2∧uZ wb vp vl a ((a+b)/2) l1∧uZ wb vp vl ((a+b)/2) b l2):uZ wb vp vl a b l:=by
 intro bj vr va vb w ai C R E hl;obtain⟨s1,G,U,M,s2,I,k2,O,rfl⟩:=R.form;obtain⟨s,f,q,n,t,i,r,o,rfl⟩:=E.form;have cs:=hV a;have ct:=hV b;have v1:=fun W u h d=>hva a true W u h d ka;have v2:=fun W u h d=>hva b false W u h d kb;have t1:=fun W h=>vB a (.agg #[.bool s1,.slice G U M,.bool s2,.slice I k2 O]) W h;have t2:=fun W h=>vB b (.agg #[.bool s,.slice f q n,.bool t,.slice i r o]) W h;have ak:=fun W u h d=>hat b W u h d kb;have aj:=fun W u h=>hsg b W u h kb;have ad:=fun W u h d=>hat a W u h d ka;have ac:=fun W u h=>hsg a W u h ka;have ae:=fun W u v h d=>MD a b u v W h d K ka kb (by omega);have au:=C.lt;unfold eO at v1 v2 aj ac;unfold eS at ak ad ae;have S:=fun (W':World) (u:Below w.1.size w W')=>aC ai u;clear hva hat hsg hV ka kb;generalize sg a=Sa at *;generalize sg b=Sb at *;generalize er a=cp at *;generalize er b=cq at *;generalize V a=na at *;generalize V b=nb at *;obtain⟨N,hN⟩:∃N:Int,(na:Int)-(nb:Int)=N:=⟨_,rfl⟩;have cu:IntKind.i64.wrap N=N:=IntWalk.i64_in _ ⟨by omega,by omega⟩;have HH:=aB H;clear H;obtain⟨W,eW,D,X,Y⟩:=eL w [.bool s1,.slice G U M,.bool s2,.slice I k2 O] 108 [.bool s,.slice f q n,.bool t,.slice i r o] 108;have cM:=aa X.g4 Y.g4;go_enter func124,ntmps124;go_wp2_with fail;(try rw[eW]);clear eW;go_cut [11] (fun cg wx=>cg= .int .i64 N∧Bx wx w.1.size [.bool s1,.slice G U M,.bool s2,.slice I k2 O] 108∧Bx wx (w.1.size+1) [.bool s,.slice f q n,.bool t,.slice i r o] 108∧Below w.1.size w wx)
 case first=>
  have cd:=R.be D;have ce:=E.be D;have bi:=S _ D;clear ak aj ad ac ae S
  go_region_with (first
   |(go_at_call 130;first|((with_reducible refine(t1 _ cd.up).mono ?_);rintro e5 w5 ⟨v5,rfl,h5,b5⟩;have:=St.mk b5;have j:=X.up (b:=w5);have m:=Y.up (b:=w5);have ap:=j.k4;have az:=m.k4;have p:=bJ (b:=w5) D)|((with_reducible refine(t2 _ ce.up).mono ?_);rintro e6 w6 ⟨v6,rfl,h6,b6⟩;have:=St.mk b6;have j:=X.up (b:=w6);have m:=Y.up (b:=w6);have ap:=j.k4;have az:=m.k4;have p:=bJ (b:=w6) D))
   |(go_at_call 166;first|((with_reducible refine(v1 _ _ (bJ bi) h5.up).mono ?_);rintro e7 w7 ⟨rfl,b7⟩;have:=St.mk b7;have j:=X.up (b:=w7);have m:=Y.up (b:=w7);have ap:=j.k4;have az:=m.k4;have p:=bJ (b:=w7) D)|((with_reducible refine(v2 _ _ (bJ bi) h6.up).mono ?_);rintro e8 w8 ⟨rfl,b8⟩;have:=St.mk b8;have j:=X.up (b:=w8);have m:=Y.up (b:=w8);have ap:=j.k4;have az:=m.k4;have p:=bJ (b:=w8) D)))
  all_goals (
   go_wp2;go_meet;exact⟨rfl,j,m,p⟩)
 case rest=>
  clear X Y D cM v1 v2 t1 t2;obtain⟨rfl,j,m,p⟩:=hcut;generalize wc=w5 at *;have ap:=aa j.k4 m.k4;have H:=HH.out;clear HH;rcases H with ⟨hv,rfl⟩|H
  ·obtain rfl:N=0:=by omega
   clear ak aj ad ac ae;go_wp2;go_ret;exact⟨_,rfl,by rw[fH];exact C.be p,pT p (World.grownBy.refl _ _),KM.be p,fun g e=> .inl e⟩
  have bx:N≠0:=by rcases H with ⟨h, -⟩|⟨h, -⟩|⟨h, -⟩<;>omega
  have q2:(N==0)=false:=by simpa using bx
  have hH:=aB H;clear H;go_wp2_with fail;refine(ak _ _ (bJ (S _ p)) (NQ.up (NQ.be E p))).mono ?_;rintro e9 w9 ⟨v9,rfl,h9,b9⟩;have:=St.mk b9;have J:=j.up (b:=w9);have L:=m.up (b:=w9);have bu:=aa J.k4 L.k4;go_wp2_with fail;refine(aj _ _ h9).mono ?_;rintro cl av ⟨rfl,b2⟩;have:=St.mk b2;replace J:=J.up (b:=av);replace L:=L.up (b:=av);replace bu:=aa J.k4 L.k4;have A:=bJ (b:=av) p;clear ak aj;have H:=hH.out;clear hH;rcases H with ⟨hv,rfl,rfl⟩|⟨hv,bh,bg,rfl⟩|⟨hv,d,l1,l2,rfl,i1,i2⟩
  ·obtain rfl:N=1:=by omega
   clear ad ac ae hv;obtain⟨a7,ag,ah⟩:=C;obtain⟨Ar,cr,rfl,ca⟩:=ag.form;have a6:a7.length<=1073741824:=by have:=ah.1;omega
   have c:=A.alloc A.size (.cells #[.bool s,.slice f q n,.bool t,.slice i r o,.bool s,.slice f q n,.bool t,.slice i r o] 117);have XB:=Bx.new av [.bool s,.slice f q n,.bool t,.slice i r o,.bool s,.slice f q n,.bool t,.slice i r o] 117;have Q:=ag.be c;go_wp2_with (at_builtin;refine yE rfl rfl 117 8 128 _ underlying114 E3 rfl yB (by decide) (by decide) rfl Q rfl XB rfl (yD _ _ _ _ _ _ _ _ _ _ _ _ _ _ _ _) a6 (aH ai.size c.size) ?_;intro ci cj a2 cb T a5);go_ret;exact⟨_,rfl,⟨_,a2,(ah.ke (KM.be c)).push (Q.km T) (IvN.of (E.be c) (E.be c))⟩,pT c T,(KM.be c).trans (Q.km T),E0 c a5⟩
  ·obtain rfl:N=1:=by omega
   have q0:(Sb==0)=false:=by simpa using bh
   have q1:(Sa != 0)=true:=by simpa using bg
   clear ae hv bh bg;obtain⟨a7,ag,ah⟩:=C;obtain⟨Ar,cr,rfl,ca⟩:=ag.form;have a6:a7.length<=1073741824:=by have:=ah.1;omega
   go_wp2_with fail;refine(ad _ _ (bJ (S _ A)) (NQ.up (NQ.be R A))).mono ?_;rintro bv al ⟨ch,rfl,a0,a3⟩;have:=St.mk a3;have y:=J.up (b:=al);have z:=L.up (b:=al);have ay:=aa y.k4 z.k4;go_wp2_with fail;refine(ac _ _ a0).mono ?_;rintro bw F ⟨rfl,a4⟩;have:=St.mk a4;replace y:=y.up (b:=F);replace z:=z.up (b:=F);replace ay:=aa y.k4 z.k4;have aq:=bJ (b:=F) A;have c:=aq.alloc aq.size (.cells #[.bool s1,.slice G U M,.bool s2,.slice I k2 O,.bool s,.slice f q n,.bool t,.slice i r o] 117);have XB:=Bx.new F [.bool s1,.slice G U M,.bool s2,.slice I k2 O,.bool s,.slice f q n,.bool t,.slice i r o] 117;have Q:=ag.be c;go_wp2_with (at_builtin;refine yE rfl rfl 117 8 128 _ underlying114 E3 rfl yB (by decide) (by decide) rfl Q rfl XB rfl (yD _ _ _ _ _ _ _ _ _ _ _ _ _ _ _ _) a6 (aH ai.size c.size) ?_;intro ci cj a2 cb T a5);go_ret;exact⟨_,rfl,⟨_,a2,(ah.ke (KM.be c)).push (Q.km T) (IvN.of (R.be c) (E.be c))⟩,pT c T,(KM.be c).trans (Q.km T),E0 c a5⟩
  ·replace i1:=fun vm W B C h1 h2=>i1 bj vr (.agg #[.bool s1,.slice G U M,.bool s2,.slice I k2 O]) vm W B C h1 h2 (by rw[bE] at hl;omega);replace i2:=fun v1 vm W B C h1 h2=>i2 (bj++l1) v1 vm (.agg #[.bool s,.slice f q n,.bool t,.slice i r o]) W B C h1 h2 (by rw[bE] at hl⊢;omega);have bb:vr.ownBlock≠some w.1.size:=fun e=>by have:=(au _ e).2;omega
   have bc:vr.ownBlock≠some (w.1.size+1):=fun e=>by have:=(au _ e).2;omega
   have hZ:N=1->Sb≠0∧Sa=0:=fun e=>d (by omega);unfold uY at i1 i2;clear d hl hv;generalize (a+b)/2=cv at *;have cc:N=1∧(Sb==0)=false∧Sa=0∨(N==1)=false:=by
    by_cases ar:N=1
    ·exact .inl ⟨ar,by simpa using (hZ ar).1,(hZ ar).2⟩
    ·exact .inr (by simpa using ar)
   clear hZ;rcases cc with ⟨rfl,q0,rfl⟩|q1
   focus (
    go_wp2_with fail;refine(ad _ _ (bJ (S _ A)) (NQ.up (NQ.be R A))).mono ?_;rintro bv al ⟨ch,rfl,a0,a3⟩;have:=St.mk a3;have y:=J.up (b:=al);have z:=L.up (b:=al);have ay:=aa y.k4 z.k4;go_wp2_with fail;refine(ac _ _ a0).mono ?_;rintro bw F ⟨rfl,a4⟩;have:=St.mk a4;replace y:=y.up (b:=F);replace z:=z.up (b:=F);replace ay:=aa y.k4 z.k4;have aq:=bJ (b:=F) A;have af:=aq;have Xz:=y;have Yz:=z;go_wp2_with fail
   )
   rotate_left
   focus (
    have af:=A;have Xz:=J;have Yz:=L;clear ad ac;go_wp2_with fail
   )
   all_goals (
    refine(ae _ _ _ (NQ.up (NQ.be R af)) (NQ.up (NQ.be E af))).mono ?_;rintro cm aw ⟨cw,rfl,a1,b3⟩;have:=St.mk b3;obtain⟨s5,A5,k5,c5,s6,A6,k6,c6,rfl⟩:=a1.form;obtain⟨a8,ba,b4,Z⟩:=bI aw [.bool s5,.slice A5 k5 c5,.bool s6,.slice A6 k6 c6] 108;have:=St.mk b4;have X8:=Xz.up (b:=a8);have Y8:=Yz.up (b:=a8);have P:=bJ (b:=a8) af;have ck:=aa X8.k4 (aa Y8.k4 Z.k4);have bf:vr.ownBlock≠some aw.1.size:=fun e=>by have:=(au _ e).2;have:=(bJ (b:=aw) af).size;omega
    go_wp2_with fail;(try rw[ba]);(try clear ba)
    go_region_held3 (fun w'=>C4 w' w.1.size (.bool s1) (.slice G U M) (.bool s2) (.slice I k2 O)∧C4 w' (w.1.size+1) (.bool s) (.slice f q n) (.bool t) (.slice i r o)∧C4 w' aw.1.size (.bool s5) (.slice A5 k5 c5) (.bool s6) (.slice A6 k6 c6))
     (first|with_reducible exact⟨X8.up.k4,Y8.up.k4,Z.up.k4⟩|with_reducible exact⟨X9.up.k4,Y9.up.k4,Z9.up.k4⟩|with_reducible exact⟨br.up.k4,bs.up.k4,bt.up.k4⟩)
     (first
     |(go_at_call 124;first
      |((with_reducible refine(i1 _ _ (bJ (S _ P)) (RowIv.up (RowIv.be C P)) (NQ.up (NQ.be R P)) a1.up).mono ?_);rintro cn a9 ⟨cx,rfl,bp,am,ax,ao⟩;have X9:=Bx.grown X8.up am bb;have Y9:=Bx.grown Y8.up am bc;have Z9:=Bx.grown Z.up am bf;have bz:=r5 ao bb X8.up.lt;have b0:=r5 ao bc Y8.up.lt;have b1:=r5 ao bf Z.up.lt;have bm:=NQ.ke a1.up ax;have bn:=NQ.ke (NQ.up (NQ.be E P)) ax;have GA:=pT (bJ P) am;have KA:=KM.trans (KM.be (bJ P)) ax;have OA:=OwnTo.less ao (bJ P).size;have BA:=Below.grown (S _ (aG _ _)) GA ai.size (fun k e=>(au k e).1))
      |((with_reducible refine(i2 _ _ _ (bJ BA) bp.up bm.up bn.up).mono ?_);rintro co cz ⟨cy,rfl,bq,an,bk,bo⟩;have br:=Bx.grown X9.up an bz;have bs:=Bx.grown Y9.up an b0;have bt:=Bx.grown Z9.up an b1;have GB:=DZ GA (pT (Up.out (a:=a9)) an) OA;have KB:=KM.trans KA (KM.trans (KM.be (Up.out (a:=a9))) bk);have OB:=OA.trans bo (aH GA.size (Up.out (a:=a9)).size))))
    all_goals (
     go_wp2;go_ret;exact⟨_,rfl,by rw[<-eK];exact bq,GB,KB,OB⟩)
   )
def MC{a b:Rat}(h:ExQ K V sg a b l):RL K a->RL K b->uZ wb vp vl a b l:=by
 induction h with
 |none h=>exact fun c d=>vA hV hK2 hva hat hsg c d (.inl ⟨h,rfl⟩)
 |hit h e=>exact fun c d=>vA hV hK2 hva hat hsg c d (.inr (.inl ⟨h,e,rfl⟩))
 |one h e i=>exact fun c d=>vA hV hK2 hva hat hsg c d (.inr (.inr (.inl ⟨h,e,i,rfl⟩)))
 |split h g f _ _ j k=>exact fun c d=>vA hV hK2 hva hat hsg c d (.inr (.inr (.inr ⟨h,g,_,_,rfl,j c f,k f d⟩)))
end
def yP(h:n<=40000):RL 700 (p2 n):=by
 have a:nl ((2:Int)^n).natAbs<=626:=DE (k:=625) (m:=n) (by omega) (by rw[DF];exact aE);exact E5 (aH a (by decide)) (by decide)
def DX{A:List Rat}(a:∀q∈A,RL K q)(c:RL K x)(b:A.length<=7):nl (aI A x).num.natAbs<=14*K+8:=by
 have d:=(CJ a c).1;have:=dK (2*K+1) b;omega
def DY(a:n<=7)(b:K<=1000000000):2*(1+n*(2*K+1)+K)+1<=549755813888:=by
 have:=dK (2*K+1) a;omega
def M7(e:(Value.slice none 0 0).ownBlock=some k):B<=k:=by simp[Value.ownBlock] at e
def M8:(Value.slice none 0 0).ownBlock≠some g:=by simp[Value.ownBlock]
def cxE(j:Nat):p2 j*2=p2 (j+1):=by rw[jQ,uP]
def yQ(w:World)(l:List (Rat×Rat))(e:Ending)(w':World):Prop:=∃a b,e= .returned a∧RowIv w' b a l∧Below w.1.size w w'
def dxJ(A:List Rat)(w0 s:List Int)(c:List (List Int))(n N:Nat)(l:List (Rat×Rat))(v:Value)(w:World)(hv:QsAt w v A)(hC:Cn 110079 w0 s c)(hz:Sz s)(a6:∀W,QsAt W v A->Calls prog 72 #[v] W (lT W (cE s)))(a4:∀x,(aI A x).num.sign=0↔aP s 0 x=0)(I:∀q∈A,RL N q)(V:1<=N)(bv:N<=150)(hl:A.length<=7)(a1:cf A (A.length-1)≠0)(ao:Pw (jF A) n)(hn:n<=40000)
  (hx:ExQ 1000000000 (fun x=>aY 0 ((s :: c).map (fun a=>aP a 0 x))) (fun x=>aP s 0 x) (((-((2:Int)^n):Int)):Rat) ((((2:Int)^n:Int)):Rat) l)(bs:l.length<=8):
  Calls prog 78 #[v] w (yQ w l):=by
 obtain⟨L,O,rfl,bp⟩:=hv.form;have ap:=fun W h=>a6 W h;obtain⟨a,b,fa,fb,C,hT,ea,eb,o,br,a2⟩:=bqK hC hz;have aq:=fun W v h=>E9 (cE s) hT ea eb v W h 250000000 (fun X D=>(o X D).2.2) (by decide) (o _ iC).2.1 aE;have ah:=hx.congr (V':=fun x=>aY 0 ((cE s :: C).map (fun A=>cyE A 0 x))) (s':=fun x=>(aI A x).num.sign) (fun x y=>a2 0 x 0 y) a4;have a8:=fun B (bl:Bool) (x:Rat) v u W h i (d:RL 1000000000 x)=>E7 (cE s :: C) B false bl x v u W h i (by rw[eG];omega) 1000000000 (fun X D=>⟨(o X D).1,by have:=(o X D).2.1;omega,fun q E=>bU ((o X D).2.2 q E) (by decide)⟩) d (by decide) (by decide);have a9:∀B (bl:Bool) (x:Rat) v u W,QQs W B 64 v (cE s :: C)->REnd W u false x->RL 1000000000 x->Calls prog 166 #[v,u,.bool bl] W (eO W (aY 0 ((cE s :: C).map (fun A=>cyE A 0 x)):Nat)):=a8;have az:=fun x u W h i (d:RL 1000000000 x)=>CD A x (.slice L A.length O) u W h i 1000000000 (fun q E=>bU (I q E) (by omega)) d (by omega) (DY hl aE);have a5:=fun (x:Rat) (W:World) (u:Value) (h:NQ W u (aI A x)) (d:RL 1000000000 x)=>oC (aI A x) u W h (aH (DX (fun q E=>bU (I q E) (by omega)) d hl) (by decide));have ay:∀x,aY 0 ((cE s :: C).map (fun A=>cyE A 0 x))<=1024:=fun x=>by
  have:=qR ((cE s :: C).map (fun A=>cyE A 0 x)) 0;rw[cH,eG] at this;omega
 have Y:=yP hn;have e1:(((-((2:Int)^n):Int)):Rat)= -p2 n:=by rw[bx4];rfl
 have e2:(((((2:Int)^n:Int)):Rat))=p2 n:=rfl;rw[e1,e2] at ah;have aj:=fun W h=>ZQ A (.slice L A.length O) W h a1 N I (by omega) V (by omega);have ba:RL 700 (jF A):=bU (L4 I V) (by omega);have an:∀W,Calls prog 122 #[.int .i64 1] W (eS W 1):=fun W=>r7 1 W (by decide);have ar:∀W,Calls prog 122 #[.int .i64 2] W (eS W 2):=fun W=>r7 2 W (by decide);have ag:=fun j (hj:j<=n) W u v h i=>yS (p2 j) (jF A) u v W h i 700 (yP (by omega)) ba (by decide);have al:=fun j (hj:j<=n) W u v h i=>sL (p2 j) 2 u v W h i 700 (yP (by omega)) (bU (show RL 1 (2:Rat) from az3 (n:=2) (by decide)) (by decide)) (by decide);have am:=fun W u h=>yW (p2 n) u W h (by have:=Y.1;omega);have a3:∀j,j<=n->(((p2 j-jF A).num.sign<0)↔j<n):=fun j hj=>by
  rw[LU];refine⟨fun h=> ?_,fun h=>ao.2 j h⟩;rcases dE j n with f|f
  ·exact f
  ·obtain rfl:j=n:=by omega
   have:=ao.1;exact absurd h (by show¬p2 j<jF A;have:jF A<=p2 j:=this;grind)
 have au:∀W J B Z vb,QQs W B 64 J (cE s :: C)->QsAt W (.slice L A.length O) A->NQ W Z (-p2 n)->NQ W vb (p2 n)->Calls prog 124 #[.slice L A.length O,J,Z,vb,.slice none 0 0] W (uY W W (.slice none 0 0) l):=fun W J B Z vb h6 hA f m=>
  MC (er:=fun x=>aI A x) (wb:=W) ay aE (fun x bl z u g h d=>a9 B bl x J u z (QQs.be h6 g) h d) (fun x z u g h d=>az x u z (hA.be g) h d) (fun x z u h d=>a5 x z u h d) ah (C7 (bU Y (by decide))) (bU Y (by decide)) [] _ Z vb W (aG _ _) (RowIv.nil _ _) f m (by rw[azS];omega)
 unfold lT at ap;unfold vC at aq;unfold eS at aj an ar al am;unfold eO at ag;unfold yQ;unfold uY at au;clear a2 o hT ea eb hC hz a6 a4 I hx a8 a9 az a5 ao ba a1 ah ay Y e1 e2;generalize jF A=bq at *;go_enter func78,ntmps78;go_wp2_with fail;refine(an _).mono ?_;rintro e1 w1 ⟨v1,rfl,f,Q⟩;obtain⟨s1,A1,bk,c1,s2,A2,bm,c2,rfl⟩:=f.form;go_wp2_with fail;refine(aj _ (hv.be Q)).mono ?_;rintro e2 w2 ⟨v2,rfl,m,ac⟩;obtain⟨s3,A3,k3,c3,s4,A4,k4,c4,rfl⟩:=m.form;obtain⟨W,eW,T,G,F⟩:=eL w2 [.bool s1,.slice A1 bk c1,.bool s2,.slice A2 bm c2] 108 [.bool s3,.slice A3 k3 c3,.bool s4,.slice A4 k4 c4] 108;have R:=aC Q ac;have g:=aC R T;have hg:=R.size;replace f:=(f.be ac).be T;replace m:=m.be T;have aw:QVar W w2.1.size (p2 0):=⟨_,_,_,_,_,_,_,_,G,by rw[DG];exact f⟩;have av:QVar W (w2.1.size+1) bq:=⟨_,_,_,_,_,_,_,_,F,m⟩;clear Q ac T R f m an aj G F;go_wp2_with fail;(try rw[eW]);(try clear eW);generalize w2.1.size=g3 at *;go_loopg [] n (fun k wr=>∃j,Hid (j+k=n)∧QVar wr g3 (p2 j)∧QVar wr (g3+1) bq∧Below w.1.size w wr)
 case atStart=>exact⟨0,by unfold Hid;omega,aw,av,g⟩
 case round=>
  clear aw av g;obtain⟨j,M,⟨s1,A1,V,c1,s2,A2,k2,c2,G,P⟩,⟨s3,A3,k3,c3,s4,A4,k4,c4,F,hF⟩,g⟩:=hrel;generalize wr=wy at *;have ai:j<=n:=by have:=M.out;omega
  have U:=ag j ai;have ak:=al j ai;have H:=a3 j ai;rw[cxE] at ak;obtain⟨S,hS⟩:∃S,(p2 j-bq).num.sign=S:=⟨_,rfl⟩;rw[hS] at U H;have cG:=aa G.g4 F.g4;clear ag al a3 hS;cases gk with
  |succ k=>
   have bt:S<0:=H.2 (by have:=M.out;omega);clear H ap aq am au;go_wp2_with fail;refine(U _ _ _ P hF).mono ?_;rintro e5 p ⟨rfl,ad⟩;have:=St.mk ad;have r:=G.up (b:=p);have bg:=r.g4;go_wp2_with fail
   go_region_with (first
    |(go_at_call 122;refine(ar _).mono ?_;rintro e7 w7 ⟨v7,rfl,h7,af⟩;have:=St.mk af;have bn:=(G.up (b:=w7)).g4)
    |(go_at_call 83;refine(ak _ _ _ P.up h7.up).mono ?_;rintro e9 K ⟨v9,rfl,h9,bj⟩;obtain⟨s9,A9,k9,c9,s0,bb,k0,bf,rfl⟩:=h9.form;have:=St.mk bj;have t:=G.up (b:=K);have F9:=F.up (b:=K);have bo:=t.g4;have bh:=hF.up (b:=K)))
   all_goals (
    go_wp2_with fail;obtain⟨W6,e6,G6,ae,hk,ff⟩:=t.mut4 (bJ (b:=K) g) (by omega) (.bool s9) (.slice A9 k9 c9) (.bool s0) (.slice bb k0 bf) rfl rfl;rw[e6];clear e6;go_roundg k
    case rel=>exact⟨j+1,by have:=M.out;unfold Hid;omega,⟨_,_,_,_,_,_,_,_,G6,h9.ke hk⟩,⟨_,_,_,_,_,_,_,_,ff F9,bh.ke hk⟩,ae⟩
    case measure=>omega)
  |zero=>
   obtain rfl:j=n:=M.out;have bu:¬S<0:=fun h=>by have:=H.1 h;omega
   clear H ak ar;go_wp2_with fail;refine(U _ _ _ P hF).mono ?_;rintro e5 p ⟨rfl,ad⟩;have:=St.mk ad;have r:=G.up (b:=p);have bg:=r.k4;have a7:=hv.be (bJ (b:=p) g);have a0:=bJ (b:=p) g;have ax:=P.up (b:=p);clear U F hF cG;go_wp2_with fail
   go_region_held3 (fun w'=>C4 w' g3 (.bool s1) (.slice A1 V c1) (.bool s2) (.slice A2 k2 c2)) (first|with_reducible exact r.up.k4|with_reducible exact bc.k4)
    (first
     |(go_at_call 72;refine(ap _ a7.up).mono ?_;rintro e6 w6 ⟨J,rfl,h6,ae⟩;have:=St.mk ae)
     |(go_at_call 125;refine(aq _ _ h6.up).mono ?_;rintro e7 w7 ⟨v7,rfl,h7,af⟩;have:=St.mk af)
     |(go_at_call 126;refine(am _ _ ax.up).mono ?_;rintro e8 w8 ⟨v8,rfl,h8,bi⟩;have:=St.mk bi)
     |(go_at_call 124;refine(au _ _ _ _ _ (QQs.up h7) a7.up h8.up ax.up).mono ?_;rintro e9 K ⟨v9,rfl,R9,t, -, -⟩;have bc:=Bx.grown r.up t M8;have ZB:=Below.grown (bJ a0) t (bJ a0).size (fun k e=>M7 e)))
   all_goals (
    go_wp2;go_ret;exact⟨_,_,rfl,R9,ZB⟩)
def NrR(s:List Int)(c:List (List Int))(x d L:Rat)(n:Nat)(Q:Rat×Rat)(S:Int)(K k:Nat)(a b:Rat):Prop:=a=b∧Q=(a,b)∧RL K a∨a<b∧S≠0∧fF s c 0 a 0 b=1∧bxV s x d L n Q S k a b
section
variable {A:List Rat}{w0 s:List Int}{c:List (List Int)}{x d L:Rat}{n:Nat}{Q:Rat×Rat}{S:Int}{K k:Nat}{a b:Rat}
def NrR.kl(e:∀j i,j<=n->i<=2^j->RL K (azB x d i j))(h:NrR s c x d L n Q S K k a b):RL K a∧RL K b:=by
 rcases h with ⟨rfl, -,k⟩|⟨-, -, -, -, -, -,i,j,g,f,rfl,rfl⟩
 ·exact⟨k,k⟩
 ·exact⟨e j i (by omega) (by omega),e j (i+1) (by omega) f⟩
def NrR.stop(h:NrR s c x d L n Q S K k a b)(e:¬L<b-a):Q=(a,b):=by
 rcases h with ⟨-,h, -⟩|⟨-, -, -,h, -⟩
 ·exact h
 ·rw[<-h,byW e]
def NrR.next(B:aN w0)(u:Cn 110079 w0 s c)(r:Sz s)(t:0<L)(G:∀j i,j<=n->i<=2^j->RL K (azB x d i j))(h:NrR s c x d L n Q S K (k+1) a b)(F:L<b-a):
  RL K ((a+b)/2)∧(aP s 0 ((a+b)/2)=0->NrR s c x d L n Q S K k ((a+b)/2) ((a+b)/2))∧(aP s 0 ((a+b)/2)≠0->fF s c 0 a 0 ((a+b)/2)=1->NrR s c x d L n Q S K k a ((a+b)/2))∧(aP s 0 ((a+b)/2)≠0->fF s c 0 a 0 ((a+b)/2)≠1->NrR s c x d L n Q S K k ((a+b)/2) b):=by
 rcases h with ⟨rfl, -⟩|⟨M,l,hn,h⟩
 ·exfalso;grind
 ·obtain⟨H,I,J,i,j,E,D,e⟩:=bq8 h F;have y:RL K ((a+b)/2):=by rw[e];exact G j i E D
  have m:aP s 0 a=S:=h.2.2.1;obtain⟨z,v⟩:(∀n∈s,nl n.natAbs<=110079)∧s.length<=7:=⟨fun n hn=>aH (r.nums n hn) (by decide),r.1⟩;have w:=gU (pL r.nums (by omega));have p:a<(a+b)/2:=by grind
  have q:(a+b)/2<b:=by grind
  refine⟨y,fun t=> .inl ⟨rfl,H t,y⟩,fun g o=> ?_,fun g o=> ?_⟩
  ·rcases bqI u B v z (fun n hn=>aH (w n hn) (by decide)) p q (by rw[m];exact l) g hn with ⟨-,f⟩|⟨f, -⟩
   ·exact .inr ⟨p,l,o,J g (by rwa [m] at f)⟩
   ·omega
  ·rcases bqI u B v z (fun n hn=>aH (w n hn) (by decide)) p q (by rw[m];exact l) g hn with ⟨f, -⟩|⟨-,f,C⟩
   ·exact absurd f o
   ·exact .inr ⟨q,l,f,I g (by rwa [m] at C)⟩
end
def Bx.mut84(h:Bx W b cs t)(I:Below B w W)(i:B<=b)(o:Nat)(j l m p:Value)(hn:(cS cs[o]? &&(cS cs[o+1]? &&(cS cs[o+2]? &&cS cs[o+3]?)))=true):
  ∃e,(((W.setCell ⟨b,o,none⟩ j).setCell ⟨b,o+1,none⟩ l).setCell ⟨b,o+2,none⟩ m).setCell ⟨b,o+3,none⟩ p=e∧Bx e b ((((cs.set o j).set (o+1) l).set (o+2) m).set (o+3) p) t∧Below B w e∧KM W e∧∀{g:Nat} {cs:List Value} {t:TypeId},Bx W g cs t->(f:b≠g:=by omega)->Bx e g cs t:=by
 simp only[az7] at hn;obtain⟨P,rfl,E,q,J,y⟩:=h.mut1 I i o j hn.1;obtain⟨R,rfl,F,r,M,z⟩:=E.mut1 q i (o+1) l (by rw[lI (by omega)];exact hn.2.1);obtain⟨T,rfl,G,u,N,C⟩:=F.mut1 r i (o+2) m (by rw[lI (by omega),lI (by omega)];exact hn.2.2.1);obtain⟨U,rfl,H,v,O,D⟩:=G.mut1 u i (o+3) p (by rw[lI (by omega),lI (by omega),lI (by omega)];exact hn.2.2.2);exact⟨_,rfl,H,v,((J.trans M).trans N).trans O,fun k f=>D (C (z (y k f) f) f) f⟩
def Bx.mut8f{y z C D E F:Value}(h:Bx W b [u,v,y,z,C,D,E,F] t)(N:Below B w W)(M:B<=b)(i j l m o p q r:Value)(hn:(cS (some u)&&(cS (some v)&&(cS (some y)&&(cS (some z)&&(cS (some C)&&(cS (some D)&&(cS (some E)&&cS (some F))))))))=true):
  ∃f,(((((((W.setCell ⟨b,0,none⟩ i).setCell ⟨b,1,none⟩ j).setCell ⟨b,2,none⟩ l).setCell ⟨b,3,none⟩ m).setCell ⟨b,4,none⟩ o).setCell ⟨b,5,none⟩ p).setCell ⟨b,6,none⟩ q).setCell ⟨b,7,none⟩ r=f∧Bx f b [i,j,l,m,o,p,q,r] t∧Below B w f∧KM W f∧∀{g:Nat} {cs:List Value} {t:TypeId},Bx W g cs t->(G:b≠g:=by omega)->Bx f g cs t:=by
 obtain⟨f,e,H,I,J⟩:=h.mut8 N M i j l m o p q r hn;exact⟨f,e,H,I,J,fun k G=>by rw[<-e];exact k.far8 G⟩
def cxC(w:World)(g:Nat)(a b:Rat):Prop:=∃u e p j v f q l y h r m z i t o,Bx w g [.bool u,.slice e p j,.bool v,.slice f q l,.bool y,.slice h r m,.bool z,.slice i t o] 117∧NQ w (.agg #[.bool u,.slice e p j,.bool v,.slice f q l]) a∧NQ w (.agg #[.bool y,.slice h r m,.bool z,.slice i t o]) b
def bqJ(w:World)(K:Nat)(Q:Rat×Rat)(e:Ending)(w':World):Prop:=∃f,e= .returned f∧IvN w' f Q.1 Q.2∧RL K Q.1∧RL K Q.2∧Below w.1.size w w'
def dxI(A:List Rat)(w0 s:List Int)(c:List (List Int))(x y L:Rat)(n K KA:Nat)(Q:Rat×Rat)(S:Int)(v u g:Value)(w:World)(hv:QsAt w v A)(tw:aN w0)(hC:Cn 110079 w0 s c)(P:Sz s)(az:∀W,QsAt W v A->Calls prog 72 #[v] W (lT W (cE s)))(ax:∀x,(aI A x).num.sign=0↔aP s 0 x=0)(kA:∀q∈A,RL KA q)(aq:KA<=K)(hl:A.length<=7)(hu:IvN w u x y)(hg:NQ w g L)(h0:0<L)(hR:NrR s c x (y-x) L n Q S K n x y)(hp:∀j i,j<=n->i<=2^j->RL K (azB x (y-x) i j))(kL:RL K L)(bn:K<=200000000):
  Calls prog 79 #[v,u,g] w (bqJ w K Q):=by
 obtain⟨A0,c0,rfl,hc⟩:=hv.form;obtain⟨s1,A1,k1,c1,s2,A2,k2,c2,s3,A3,k3,c3,s4,A4,k4,c4,rfl,hx,hy⟩:=hu;obtain⟨s5,A5,k5,c5,s6,A6,k6,c6,rfl⟩:=hg.form;have f:∀k a b,NrR s c x (y-x) L n Q S K k a b->RL K a∧RL K b:=fun k a b h=>h.kl hp;have an:∀k a b,NrR s c x (y-x) L n Q S K (k+1) a b->L<b-a->_:=fun k a b h hl=>h.next tw hC P h0 hp hl;have ak:∀a b,NrR s c x (y-x) L n Q S K 0 a b->¬L<b-a:=fun a b h hl=>by
  rcases h with ⟨rfl, -⟩|⟨-, -, -,h⟩
  ·grind
  ·exact bqF h.2.1 hl
 have bm:1<=K:=xR kL;have ag:=fun a m (W:World) u1 u2 h h1 h2 (ka:RL K a) (km:RL K m)=>cxF A w0 s c false false a m (.slice A0 A.length c0) u1 u2 W h hC P az h1 h2 (bU ka (by omega)) (bU km (by omega));have ah:=fun z u W h C (kz:RL K z)=>CD A z (.slice A0 A.length c0) u W h C K (fun q O=>bU (kA q O) aq) kz (by omega) (DY hl (by omega));have ay:=fun (z:Rat) (W:World) (u:Value) (h:NQ W u (aI A z)) (kz:RL K z)=>oC (aI A z) u W h (aH (DX (fun q O=>bU (kA q O) aq) kz hl) (by omega));rw[show eI false true=0 from rfl,show eI false false=0 from rfl] at ag;unfold eO at ag;unfold eS at ah;clear hC P az tw kA h0 hp;obtain⟨W,eW,hb,X,Y,R⟩:=gE w [.bool s1,.slice A1 k1 c1,.bool s2,.slice A2 k2 c2,.bool s3,.slice A3 k3 c3,.bool s4,.slice A4 k4 c4] 117 [.bool s5,.slice A5 k5 c5,.bool s6,.slice A6 k6 c6] 108 [.bool false,.slice none 0 0,.bool false,.slice none 0 0,.bool false,.slice none 0 0,.bool false,.slice none 0 0] 117;have cM:=aa X.g8 (aa Y.g4 R.g8);go_enter func79,ntmps79;go_wp2_with fail;(try rw[eW]);clear eW;replace hx:=hx.be hb;replace hy:=hy.be hb;go_loopg [] n (fun k wr=>∃a b,NrR s c x (y-x) L n Q S K k a b∧cxC wr w.1.size a b∧Bx wr (w.1.size+1) [.bool s5,.slice A5 k5 c5,.bool s6,.slice A6 k6 c6] 108∧Bx wr (w.1.size+1+1) [.bool false,.slice none 0 0,.bool false,.slice none 0 0,.bool false,.slice none 0 0,.bool false,.slice none 0 0] 117∧Below w.1.size w wr)
 case atStart=>exact⟨x,y,hR,⟨_,_,_,_,_,_,_,_,_,_,_,_,_,_,_,_,X,hx,hy⟩,Y,R,hb⟩
 case round=>
  clear hR hx hy X Y R hb;obtain⟨a,b,HN,⟨s1,A1,k1,c1,s2,A2,k2,c2,s3,A3,k3,c3,s4,A4,k4,c4,X,ha,au⟩,Y,R,hb⟩:=hrel;generalize wr=wy at *;obtain⟨ka,kb⟩:=f _ _ _ HN;have ao:=fun W u v h C=>EC b a u v W h C K kb ka (by omega);have ai:=fun W u v h C=>yS (b-a) L u v W h C (2*K+1) (bU (JM kb ka) (by omega)) (bU kL (by omega)) (by omega);have ar:=bq6 (b-a) L;generalize (b-a-L).num.sign=Sg at *;unfold eS at ao;unfold eO at ai;have bf:=hg.be hb;have ad:=aB HN;have af:=aB ar;clear HN ar;have cM:=aa X.k8 Y.k4;go_wp2_with fail
  go_region_held3 (fun w'=>C8 w' w.1.size (.bool s1) (.slice A1 k1 c1) (.bool s2) (.slice A2 k2 c2) (.bool s3) (.slice A3 k3 c3) (.bool s4) (.slice A4 k4 c4)∧C4 w' (w.1.size+1) (.bool s5) (.slice A5 k5 c5) (.bool s6) (.slice A6 k6 c6)) (with_reducible exact⟨X.up.k8,Y.up.k4⟩)
   (first
    |(go_at_call 127;refine(ao _ _ _ au.up ha.up).mono ?_;rintro e4 w4 ⟨v4,rfl,h4,a7⟩;have:=St.mk a7)
    |(go_at_call 84;refine(ai _ _ _ h4.up bf.up).mono ?_;rintro e5 w5 ⟨rfl,a8⟩;have:=St.mk a8))
  all_goals (
   have p:=X.up (b:=w5);have B:=Y.up (b:=w5);have o:=R.up (b:=w5);have a5:=ha.up (b:=w5);have b5:=au.up (b:=w5);have zb:=bJ (b:=w5) hb;have ap:=aa p.g8 (aa B.k4 o.g8);by_cases av:0<Sg
   ·have aj:=af.out.1 av;cases gk with
    |zero=>exact absurd aj (ak _ _ ad.out)
    |succ k=>
     have H:=aB (an _ _ _ ad.out aj);have km:=H.out.1;have al:=fun W u v h C=>MD a b u v W h C K ka kb (by omega);unfold eS at al;have aw:=ax ((a+b)/2);generalize (a+b)/2=m at *;have gm:=fun W u h=>ay m W u h km;have a0:=fun u W h C=>ah m u W h C km;have am:=fun W u1 u2 h h1 h2=>ag a m W u1 u2 h h1 h2 ka km;have E1:=fun u W h=>vB a u W h;have E2:=fun u W h=>vB m u W h;unfold eO at gm;generalize aI A m=em at *;generalize em.num.sign=Sm at *;have ae:=aB aw;clear ay ah aj ai ao ad af f ax an ak aw ag;go_wp2_with fail;refine(al _ _ _ a5 b5).mono ?_;rintro l w6 ⟨v6,rfl,r,D⟩;obtain⟨V,E,T,G,Z,F,U,I,rfl⟩:=r.form;obtain⟨w7,e7,ba,M⟩:=bI w6 [.bool V,.slice E T G,.bool Z,.slice F U I] 108;have:=St.mk D;have:=St.mk ba;replace r:=r.up (b:=w7);replace p:=p.up (b:=w7);replace B:=B.up (b:=w7);replace o:=o.up (b:=w7);replace zb:=bJ (b:=w7) zb;have ap:=aa p.g8 (aa B.k4 (aa o.g8 M.k4));go_wp2_with fail;(try rw[e7]);(try clear e7);refine(a0 _ _ (hv.be zb) r).mono ?_;rintro e8 w8 ⟨v8,rfl,h8,bb⟩;have:=St.mk bb;go_wp2_with fail;refine(gm _ _ h8).mono ?_;rintro e9 w9 ⟨rfl,bc⟩;have:=St.mk bc;replace r:=r.up (b:=w9);replace a5:=a5.up (b:=w9);replace b5:=b5.up (b:=w9);replace p:=p.up (b:=w9);replace B:=B.up (b:=w9);replace o:=o.up (b:=w9);replace M:=M.up (b:=w9);replace zb:=bJ (b:=w9) zb;have ap:=aa p.g8 (aa B.k4 (aa o.g8 M.k4));clear al gm a0 h8;by_cases P:Sm=0
     ·subst P;have HR:=aB (H.out.2.1 (ae.out.1 rfl));clear H ae am E1 E2;go_wp2_with fail;obtain⟨W6,l,t,D,f,J⟩:=p.mut8f zb (by omega) (.bool V) (.slice E T G) (.bool Z) (.slice F U I) (.bool V) (.slice E T G) (.bool Z) (.slice F U I) rfl;rw[l];clear l;go_roundg k
      case rel=>exact⟨m,m,HR.out,⟨_,_,_,_,_,_,_,_,_,_,_,_,_,_,_,_,t,r.ke f,r.ke f⟩,J B,J o,D⟩
      case measure=>omega
     ·have bp:(Sm==0)=false:=beq_eq_false_iff_ne.2 P;have HZ:=aB (fun h=>P (ae.out.2 h));clear ae P;generalize fF s c 0 a 0 m=N at *;have bg:=hv.be zb;go_wp2_with fail
      go_region_held3 (fun w'=>C8 w' w.1.size (.bool s1) (.slice A1 k1 c1) (.bool s2) (.slice A2 k2 c2) (.bool s3) (.slice A3 k3 c3) (.bool s4) (.slice A4 k4 c4)∧C4 w' w6.1.size (.bool V) (.slice E T G) (.bool Z) (.slice F U I)) (with_reducible exact⟨p.up.k8,M.up.k4⟩)
       (first
        |(go_at_call 130;first|(with_reducible refine(E1 _ _ a5.up).mono ?_;rintro bi bs ⟨bq,rfl,a1,a3⟩;have:=St.mk a3)|(with_reducible refine(E2 _ _ r.up).mono ?_;rintro bj bt ⟨br,rfl,a2,a4⟩;have:=St.mk a4))
        |(go_at_call 129;refine(am _ _ _ bg.up a1.up a2.up).mono ?_;rintro bk ac ⟨rfl,a6⟩;have:=St.mk a6;have X9:=p.up (b:=ac);have Y9:=B.up (b:=ac);have R9:=o.up (b:=ac);have M9:=M.up (b:=ac);have bh:=aa X9.g8 (aa Y9.k4 (aa R9.g8 M9.k4));have z9:=bJ (b:=ac) zb;have m9:=r.up (b:=ac);have a9:=a5.up (b:=ac);have b9:=b5.up (b:=ac)))
      all_goals (
       clear am E1 E2;by_cases O:N=1
       ·subst O;have HR:=aB (H.out.2.2.1 HZ.out rfl);clear H HZ;go_wp2_with fail;obtain⟨W6,l,t,D,f,J⟩:=X9.mut84 z9 (by omega) 4 (.bool V) (.slice E T G) (.bool Z) (.slice F U I) rfl;simp only[Nat.reduceAdd] at l;rw[l];clear l;replace t:Bx W6 w.1.size [.bool s1,.slice A1 k1 c1,.bool s2,.slice A2 k2 c2,.bool V,.slice E T G,.bool Z,.slice F U I] 117:=t;go_roundg k
        case rel=>exact⟨a,m,HR.out,⟨_,_,_,_,_,_,_,_,_,_,_,_,_,_,_,_,t,a9.ke f,m9.ke f⟩,J Y9,J R9,D⟩
        case measure=>omega
       ·have bo:(N==1)=false:=beq_eq_false_iff_ne.2 O;have HR:=aB (H.out.2.2.2 HZ.out O);clear H HZ O;go_wp2_with fail;obtain⟨W6,l,t,D,f,J⟩:=X9.mut84 z9 (by omega) 0 (.bool V) (.slice E T G) (.bool Z) (.slice F U I) rfl;simp only[Nat.reduceAdd] at l;rw[l];clear l;replace t:Bx W6 w.1.size [.bool V,.slice E T G,.bool Z,.slice F U I,.bool s3,.slice A3 k3 c3,.bool s4,.slice A4 k4 c4] 117:=t;go_roundg k
        case rel=>exact⟨m,b,HR.out,⟨_,_,_,_,_,_,_,_,_,_,_,_,_,_,_,_,t,m9.ke f,b9.ke f⟩,J Y9,J R9,D⟩
        case measure=>omega)
   ·obtain rfl:Q=(a,b):=ad.out.stop (fun e=>av (af.out.2 e));clear ad af an ak f;go_wp2_with fail;obtain⟨W6,l,R6,D,f⟩:=o.mut8 zb (by omega) (.bool s1) (.slice A1 k1 c1) (.bool s2) (.slice A2 k2 c2) (.bool s3) (.slice A3 k3 c3) (.bool s4) (.slice A4 k4 c4) rfl;rw[l];exact aM (v:= .agg #[.bool s1,.slice A1 k1 c1,.bool s2,.slice A2 k2 c2,.bool s3,.slice A3 k3 c3,.bool s4,.slice A4 k4 c4]) (by simp[results,results79,go_sem,R6.k8]) rfl ⟨_,rfl,IvN.of (a5.ke f) (b5.ke f),ka,kb,D⟩
  )
def dx2(q:Rat)(v:Value)(w:World)(hv:NQ w v q)(m:nl q.den<=549755813888):Calls prog 75 #[v] w (nN w (q.den:Int)):=by
 obtain⟨s1,A1,k1,c1,s2,A2,k2,c2,rfl⟩:=hv.form;have j:=fun W h=>r8 q (.agg #[.bool s1,.slice A1 k1 c1,.bool s2,.slice A2 k2 c2]) W h m;unfold nN at j;obtain⟨W,f,b,X,R⟩:=eL w [.bool s1,.slice A1 k1 c1,.bool s2,.slice A2 k2 c2] 108 [.bool false,.slice none 0 0] 106;have e:=aa X.g4 R.g2;go_enter func75,ntmps75;go_wp2_with fail;(try rw[f]);clear f;refine(j _ (hv.be b)).mono ?_;rintro p s ⟨r,rfl,c,d⟩;obtain⟨s3,A3,k3,c3,rfl⟩:=c.form;replace X:=X.be d;replace R:=R.be d;replace e:=aa X.k4 R.g2;replace b:=aC b d;go_wp2_with fail;obtain⟨n,i,R,b,l,k⟩:=R.mut2 b (by omega) (.bool s3) (.slice A3 k3 c3) rfl rfl;replace X:=k X;replace c:=c.ke l;rw[i];clear i;replace e:=aa X.k4 R.k2;exact aM (v:= .agg #[.bool s3,.slice A3 k3 c3]) (by simp[results,results75,go_sem,R.k2]) rfl ⟨_,rfl,c,b⟩
section
variable {w:World}{ops:Array Oper}{rest:List Oper}{o:Oper}{a:Act}{Q:Exit->Act->World->Prop}
def dx3(r:o.guard=none){s x:Operand}(z:o.op= .call { callee:= .builtin .append,args:= #[s,x],argTypes:= #[64,64] }){e:List Rat}(C:a.eval s=v)(m:GrowQ w b v e){c:Nat}(D:a.eval x= .slice (some ⟨g,0,none⟩) 1 c)
  {k s1:Bool}{k1 c1:Nat}(l:Bx w g [.bool k,.slice f j i,.bool s1,.slice A1 k1 c1] 108)(A:NQ w (.agg #[.bool k,.slice f j i,.bool s1,.slice A1 k1 c1]) q)(t:e.length<=1073741824)(p:b<=w.1.size)
  (h:∀d w',GrowQ w' b d (e++[q])->Below b w w'->wpList prog ops Q rest (a.put o.dst d) w'):wpList prog ops Q (o :: rest) a w:=by
 obtain⟨d,w',B,h1,h2⟩:=MO w o.type m l A t p (c:=c);refine wpList_plain r fun K n=> ?_;unfold Oper.wp execOp;simp only[z,resolve,invoke,builtin,Sem.run_bind,Sem.run_pure,Result.andThen_ok,bxC,fM,aqJ,C,D,B];exact n _ _ (h d w' h1 h2)
end
def dx4(d e:Nat):(d:Int)*((e:Int).tdiv ((Nat.gcd d e:Nat):Int))=((Nat.lcm d e:Nat):Int):=by
 rw[show(e:Int).tdiv ((Nat.gcd d e:Nat):Int)=((e/Nat.gcd d e:Nat):Int) from rfl,<-az8,Nat.lcm,Nat.mul_div_assoc _ (azU d e)]
abbrev R8(w:World)(b o:Nat)(c d e f h i j k:Value):Prop:=w.cell? ⟨b,o,none⟩=some c∧w.cell? ⟨b,o+1,none⟩=some d∧w.cell? ⟨b,o+2,none⟩=some e∧w.cell? ⟨b,o+3,none⟩=some f∧w.cell? ⟨b,o+4,none⟩=some h∧w.cell? ⟨b,o+5,none⟩=some i∧w.cell? ⟨b,o+6,none⟩=some j∧w.cell? ⟨b,o+7,none⟩=some k
def R8.up{b:World}[u:Up a b]{o:Nat}{c d e f j l m n:Value}(h:R8 a g o c d e f j l m n)(r:g<a.1.size):R8 b g o c d e f j l m n:=by
 have k:=fun i=>u.out.cell (p:=⟨g,i,none⟩) r;exact⟨(k _).trans h.1,(k _).trans h.2.1,(k _).trans h.2.2.1,(k _).trans h.2.2.2.1,(k _).trans h.2.2.2.2.1,(k _).trans h.2.2.2.2.2.1,(k _).trans h.2.2.2.2.2.2.1,(k _).trans h.2.2.2.2.2.2.2⟩
section
variable {W0 w:World}{g K:Nat}{x y q:Rat}{s1 s2 s3 s4:Bool}{A1 A2 A3 A4:Option Addr}{k1 c1 k2 c2 k3 c3 k4 c4:Nat}
def dx5[u:Up W0 w](h:NQ w (.agg #[.bool s1,.slice A1 k1 c1,.bool s2,.slice A2 k2 c2]) q):U8 W0 (QVar · · q) (.pointer (some ⟨w.1.size,0,none⟩)) (w.alloc (.cells #[.bool s1,.slice A1 k1 c1,.bool s2,.slice A2 k2 c2] 108)):=by
 obtain⟨a,b⟩:=KZ h u.out;exact cz0 a b
def dx6[u:Up W0 w][D:Nb 108 z4 w g][n:Nw W0 g](h:NQ w (.agg #[.bool s1,.slice A1 k1 c1,.bool s2,.slice A2 k2 c2]) q):U8 W0 (QVar · · q) (.pointer (some ⟨g,0,none⟩)) ((((w.setCell ⟨g,0,none⟩ (.bool s1)).setCell ⟨g,1,none⟩ (.slice A1 k1 c1)).setCell ⟨g,2,none⟩ (.bool s2)).setCell ⟨g,3,none⟩ (.slice A2 k2 c2)):=by
 obtain⟨a,b⟩:=L0 D.out h u.out n.out;exact cz0 a b
def dx7[D:Nb 108 z4 w g]:C4 w g (.bool false) (.slice none 0 0) (.bool false) (.slice none 0 0)∧Fz w g:=D.out.g4
def dx8[D:Nb 117 z8 w g]:C8 w g (.bool false) (.slice none 0 0) (.bool false) (.slice none 0 0) (.bool false) (.slice none 0 0) (.bool false) (.slice none 0 0)∧Fz w g:=D.out.g8
def czK(K:Nat)(x y:Rat)(w:World)(g:Nat):Prop:=cxC w g x y∧RL K x∧RL K y
variable [u:Up W0 w](kx:RL K x)(ky:RL K y)(h1:NQ w (.agg #[.bool s1,.slice A1 k1 c1,.bool s2,.slice A2 k2 c2]) x)(h2:NQ w (.agg #[.bool s3,.slice A3 k3 c3,.bool s4,.slice A4 k4 c4]) y)
include u kx ky h1 h2
def dx9:U8 W0 (czK K x y) (.pointer (some ⟨w.1.size,0,none⟩)) (w.alloc (.cells #[.bool s1,.slice A1 k1 c1,.bool s2,.slice A2 k2 c2,.bool s3,.slice A3 k3 c3,.bool s4,.slice A4 k4 c4] 117)):=
 cz0 ⟨⟨_,_,_,_,_,_,_,_,_,_,_,_,_,_,_,_,Bx.new _ _ _,h1.be ((aG _ _).alloc aE _),h2.be ((aG _ _).alloc aE _)⟩,kx,ky⟩ (u.out.alloc u.out.size _)
def dxA[D:Nb 117 z8 w g][n:Nw W0 g]:U8 W0 (czK K x y) (.pointer (some ⟨g,0,none⟩)) ((((((((w.setCell ⟨g,0,none⟩ (.bool s1)).setCell ⟨g,1,none⟩ (.slice A1 k1 c1)).setCell ⟨g,2,none⟩ (.bool s2)).setCell ⟨g,3,none⟩ (.slice A2 k2 c2)).setCell ⟨g,4,none⟩ (.bool s3)).setCell ⟨g,5,none⟩ (.slice A3 k3 c3)).setCell ⟨g,6,none⟩ (.bool s4)).setCell ⟨g,7,none⟩ (.slice A4 k4 c4)):=by
 obtain⟨f,e,c,d,b⟩:=D.out.mut8 u.out n.out (.bool s1) (.slice A1 k1 c1) (.bool s2) (.slice A2 k2 c2) (.bool s3) (.slice A3 k3 c3) (.bool s4) (.slice A4 k4 c4) rfl;rw[e];exact cz0 ⟨⟨_,_,_,_,_,_,_,_,_,_,_,_,_,_,_,_,c,h1.ke b,h2.ke b⟩,kx,ky⟩ d
end
def dxB{N:Nat}(h:cz2 s c n l)(m:p∈l)(b:RrP s N p)(i:1500000<=K)(v:0<V9 s):NrR s c p.1 (p.2-p.1) (V9 s) N (RA s N p) (aP s 0 p.1) K N p.1 p.2:=by
 have j:(((-((2:Int)^n):Int)):Rat)<((((2:Int)^n:Int)):Rat):=by
  have h1:=jZ n;have d:(((-((2:Int)^n):Int)):Rat)= -p2 n:=by rw[bx4];rfl
  have f:(((((2:Int)^n:Int)):Rat))=p2 n:=rfl;rw[d,f];grind
 rcases h.1.mem j p m with ⟨e, -⟩|⟨k,hv,k1,k2⟩
 ·refine .inl ⟨e,?_,bU b.k1 i⟩;unfold RA;rw[byW (by rw[<-e];grind)]
 ·obtain⟨r,t⟩:=bqG p.1 (p.2-p.1);refine .inr ⟨k,k1,?_,rfl,b.fu,rfl,0,0,bA N,aE,r.symm,by rw[t];grind⟩;have z:aY 0 ((s :: c).map (fun a=>aP a 0 p.1))=aY 0 ((s :: c).map (fun a=>aP a 0 p.2))+1:=hv;unfold fF;omega
def dxC(A:List Rat)(w0 s:List Int)(c:List (List Int))(n N:Nat)(l:List (Rat×Rat))(v:Value)(w:World)(hv:QsAt w v A)(pA:Prp A w0)(hZ:CnZ w0 s c)(kA:∀q∈A,RL 1 q)(hl:A.length<=7)(ps:bC s=1)(ck:Pw (jF (cE s)) n)(hn:n<=40000)(hI:cz2 s c n l)(hN:N=64*(152+1500000+1500000+1)):
  Calls prog 32 #[v] w (lT w (l.filterMap (l8 s N))):=by
 obtain⟨A0,c0,rfl,d5⟩:=hv.form;have b5:=fun W h=>E8 A w0 s (.slice A0 A.length c0) W h pA hZ.2.1 kA hl hZ.2.2.2.2;obtain⟨ca,hS,z, -, -⟩:=hZ;have ts:=hS.ts;have s0:=hS.ne;have kd:=gU (pL z.nums (by have:=z.1;omega));have hC:=cqR ca pA.2.1 (fun n hn=>aH (kd n hn) (by decide));have a9:=uD ts;have lS:(cE s).length<=7:=by rw[a9.1];exact z.1
 have kS:=CU z.nums (by decide);have b6:∀v W,QsAt W v (cE s)->Calls prog 72 #[v] W (lT W (cE s)):=fun v W h=>czZ (cE s) s s 110079 150 150 (by decide) (by decide) (by decide) (by decide) (by decide) v W h a9 hC.sq kS lS z.nums;have bo:∀x,(aI (cE s) x).num.sign=0↔aP s 0 x=0:=fun x=>sG a9 hC.sq x;have ch:=a9.ne s0;have di:=hI.2.2;have a8:=czC s0 ts;have kI:=cz3 z;have bs:=(cz6 a8).2;have kW:=czD z a8;have bq:=czF z;have bk:=fun v W h=>dxJ (cE s) s s c n 150 l v W h hC z (b6 v) bo kS (by decide) (by decide) lS ch ck hn hI.1 di;have a7:=fun p (Z:p∈l) v u g W h hu r=>dxI (cE s) s s c p.1 p.2 (V9 s) N 12000400 150 (RA s N p) (aP s 0 p.1) v u g W h ts hC z (b6 v) bo kS (by decide) lS hu r bs (dxB hI Z (hI.2.1 p Z N hN) (by decide) bs) (hI.2.1 p Z N hN).pr (bU kW (by decide)) (by decide);have b2:x9 (cE s)=(cf s (s.length-1)).natAbs:=cqU s0 ts ps;have bi:∀i,nl (x9 ((cE s).take i))<=150:=fun i=>by
  have h1:=czW (l:=cE s) (L:=x9 (cE s)) (fun q H=>by
   have:=czX (l:=cE s) (cE s).length;rw[aq9] at this;exact this q H) i
  have h2:=aqY (by have:=czH (cE s) (cE s).length;rwa [aq9] at this) h1;have h3:nl (x9 (cE s))<=150:=by rw[b2];exact iU z.nums _
  exact aH (cK h2) h3
 have cn:Hid ((x9 (cE s):Int)=eT s):=by unfold Hid eT;rw[b2]
 have ar:∀W,Calls prog 73 #[.int .i64 1] W (nN W 1):=fun W=>EJ 1 W (by decide);have ba:∀W,Calls prog 73 #[.int .i64 2] W (nN W 2):=fun W=>EJ 2 W (by decide);have a5:=fun W u v h t=>vE 1 2 u v W h t (by decide) (aH (cJ (m:=1) (by unfold BN;decide)) (by decide)) (aH (cJ (m:=1) (by unfold BN;decide)) (by decide));have bb:∀W u v,NQ W u (((1:Int):Rat)/((2:Int):Rat))->NQ W v (eT s:Rat)->Calls prog 80 #[u,v] W (eS W (V9 s)):=fun W u v h t=>vD _ _ u v W h t 150 (pM (aH (cJ (m:=1) (by unfold BN;decide)) (by decide)) (aH (cJ (m:=1) (by unfold BN;decide)) (by decide)) (by decide)) bq (by decide) (fun e=>by have:=pP a8;grind);have aq:=fun (x:Rat) (kx:RL 12000400 x) W u v h t=>sL x (eT s:Rat) u v W h t 12000400 kx (bU bq (by decide)) (by decide);have an:=fun (x:Rat) (kx:RL 12000400 x) W u h=>dxF (x*(eT s:Rat)) u W h 12000550 (cz1 z kx).1 (by decide);have ao:∀(x:Rat),RL 12000400 x->∀W u v,NQ W u ((x*(eT s:Rat)).floor:Rat)->NQ W v (eT s:Rat)->Calls prog 80 #[u,v] W (eS W (rT s x)):=fun x kx W u v h t=>vD _ _ u v W h t 12000550 (E5 (czE (cz1 z kx).1) (by decide)) (bU bq (by decide)) (by decide) (fun e=>by have:=pP a8;grind);have bc:=fun (x:Rat) (kx:RL 12000400 x)=>(cz1 z kx).2;have ak:=fun (x:Rat) (kx:RL 12000550 x) v W u h t=>CD (cE s) x v u W h t 12000550 (fun q H=>bU (kS q H) (by decide)) kx (by omega) (DY lS (by decide));have au:=fun (x:Rat) (kx:RL 12000550 x) W u h=>oC (aI (cE s) x) u W h (aH (DX (fun q H=>bU (kS q H) (by decide)) kx lS) (by decide));have bh:=fun q (B:RL 150 q) W u h=>dx2 q u W h (aH B.2 (by decide));have bj:=fun (i:Nat) (q:Rat) (B:RL 150 q) W u v h t=>MR (x9 ((cE s).take i):Int) (q.den:Int) u v W h t (by rw[dD];exact aH (bi i) (by decide)) (by rw[dD];exact aH B.2 (by decide));have bn:=fun (i:Nat) (q:Rat) (B:RL 150 q) W u v h t=>EG (q.den:Int) ((Nat.gcd (x9 ((cE s).take i)) q.den:Nat):Int) u v W h t (by rw[dD];exact aH B.2 (by decide)) (by rw[dD];exact aH (cK (aqY (czH _ _) (aqX _ _))) (aH (bi i) (by decide))) (by have:=bzV q.den (czH (cE s) i);omega);have bm:=fun (i:Nat) (q:Rat) (B:RL 150 q) W u v h t=>oV (x9 ((cE s).take i):Int) ((q.den:Int).tdiv ((Nat.gcd (x9 ((cE s).take i)) q.den:Nat):Int)) u v W h t (by rw[dD];exact aH (bi i) (by decide)) (by rw[Int.natAbs_tdiv];exact aH (cK (azK _ _)) (by rw[dD];exact aH B.2 (by decide)));have am:=fun x y (kx:RL 12000550 x) (ky:RL 12000550 y) W u v h t=>yS x y u v W h t 12000550 kx ky (by decide);unfold lT at b5;unfold yQ at bk;unfold bqJ at a7;unfold nN at ar ba an bh bj bm;unfold EF at bn;unfold eS at a5 bb aq ao ak;unfold eO at au am;have b8:=aB kS;have co:=aB bo;clear pA hS z ts s0 kd hC ca a9 b6 bo ch ck hn hI hN a8 kI bs kW bq bi b2 kS kA ps;generalize cE s=S at *;go_enter func32,ntmps32;go_wp2_with fail;refine(b5 _ hv).mono ?_;rintro e1 w1 ⟨v1,rfl,h1,bt⟩;obtain⟨As,cs,rfl,bx⟩:=h1.form;clear b5 hv;go_wp2_with fail;refine(ar _).mono ?_;rintro e2 w2 ⟨v2,rfl,h2,bu⟩;obtain⟨s2,A2,k2,c2,rfl⟩:=h2.form;obtain⟨w3,e3,a0,G⟩:=bI w2 [.bool s2,.slice A2 k2 c2] 106;replace h1:=h1.be bu;have aw:=aC bt bu;have cb:NBx w3 w2.1.size (x9 (S.take 0):Int):=⟨_,_,_,_,G,h2.be a0⟩;clear bt bu h2 G;go_wp2_with fail;(try rw[e3]);(try clear e3);go_loopg [5] S.length (fun k i wr=>∃j,Hid (j+k=S.length)∧i= .int .i64 j∧NBx wr w2.1.size (x9 (S.take j):Int)∧Below w2.1.size w2 wr)
 case atStart=>exact⟨0,by unfold Hid;omega,rfl,cb,a0⟩
 case round=>
  clear cb a0;obtain⟨j,J,rfl,⟨s2,A2,k2,c2,G,U⟩,d⟩:=hrel;generalize wr=wy at *;have de:(0:Int)<=(j:Int):=by omega
  cases gk with
  |succ k=>
   clear bk a7 ba a5 bb aq an ao bc ak au am ar;have b1:j<S.length:=by have:=J.out;omega
   have df:(j:Int)<(S.length:Int):=by omega
   obtain⟨q,H⟩:∃q,S[j]? =some q:=⟨_,aR b1⟩;have B:=b8.out q (dG H);obtain⟨b,s5,A5,k5,c5,s6,A6,k6,c6,T,a4,g0,hi⟩:=(h1.be d).at_ H;subst T;have bz:=bh q B;have b0:=bj j q B;have b4:=bn j q B;have b3:=bm j q B;simp only[dD] at b0;have HL:Hid ((x9 (S.take j):Int)*((q.den:Int).tdiv ((Nat.gcd (x9 (S.take j)) q.den:Nat):Int))=(x9 (S.take (j+1)):Int)):=by unfold Hid;rw[dx4,cz7 H]
   clear bh bj bn bm B H;generalize (q.den:Int).tmod ((Nat.gcd (x9 (S.take j)) q.den:Nat):Int)=rm at *;generalize (q.den:Int).tdiv ((Nat.gcd (x9 (S.take j)) q.den:Nat):Int)=qd at *;generalize ((Nat.gcd (x9 (S.take j)) q.den:Nat):Int)=gc at *;generalize (x9 (S.take j):Int)=D0 at *;generalize (q.den:Int)=dq at *;have Y:=G.k2;have gl:=G.lt;go_wp2_with fail;go_cut [6] (fun dn wx=>U8 wy (NBx · · gc) dn wx)
   case first=>
    clear b4 b3
    go_region_held3 (fun I=>C2 I w2.1.size (.bool s2) (.slice A2 k2 c2)∧R4 I b (j*4) (.bool s5) (.slice A5 k5 c5) (.bool s6) (.slice A6 k6 c6)) (with_reducible exact⟨G.up.k2,g0.up a4⟩)
     (first
      |(go_at_call 75;refine(bz _ _ hi.up).mono ?_;rintro e7 w7 ⟨v7,rfl,h7,a2⟩;have:=St.mk a2)
      |(go_at_call 74;refine(b0 _ _ _ U.up h7.up).mono ?_;rintro e8 w8 ⟨v8,rfl,P,a3⟩;obtain⟨s8,A8,k8,c8,rfl⟩:=P.form;have:=St.mk a3;(try have D:=czO (w:=w8))))
    all_goals (
     go_wp2;go_meet
     first|(with_reducible exact dxG P)|(with_reducible exact dxH P))
   case rest=>
    obtain⟨g6,rfl,d9,⟨s7,A7,k7,c7,F,hF⟩,af⟩:=hcut;generalize wc=wz at *;clear b0 Y;have db:=aZ a4 af.size;replace G:=G.be af;replace U:=U.be af;replace hi:=hi.be af;replace g0:=R4.old g0 af a4;replace d:=aC d af;clear af;have Y:=aa G.k2 F.k2;have gl:=G.lt;go_wp2_with fail;go_cut [7,8] (fun dp dr wx=>cyZ wz qd rm dp dr wx)
    case first=>
     clear b3
     go_region_held3 (fun I=>R4 I b (j*4) (.bool s5) (.slice A5 k5 c5) (.bool s6) (.slice A6 k6 c6)∧C2 I g6 (.bool s7) (.slice A7 k7 c7)) (with_reducible exact⟨g0.up db,F.up.k2⟩)
      (first
       |(go_at_call 75;refine(bz _ _ hi.up).mono ?_;rintro e3 w3 ⟨v3,rfl,h3,a0⟩;have:=St.mk a0)
       |(go_at_call 76;refine(b4 _ _ _ h3.up hF.up).mono ?_;rintro e4 w4 ⟨v4,u4,rfl,h4,i4,cz⟩;obtain⟨s4,A4,k4,c4,rfl⟩:=h4.form;obtain⟨s9,A9,k9,c9,rfl⟩:=i4.form;have:=St.mk cz;(try have D1:=czO (w:=w4));(try have D2:=cq9 (w:=w4))))
     all_goals (
      go_wp2;go_meet
      first|(with_reducible exact czN h4 i4)|(with_reducible exact cq6 h4 i4)|(with_reducible exact cq7 h4 i4)|(with_reducible exact cq8 h4 i4)|(with_reducible exact cq4 h4 i4)|(with_reducible exact cq5 h4 i4))
    case rest=>
     obtain⟨g7,g8,rfl,rfl,ci,⟨s4,A4,k4,c4,E,hE⟩, -,bw⟩:=hcut;generalize wc=wu at *;clear bz b4 Y;replace G:=G.be bw;replace U:=U.be bw;replace d:=aC d bw;have Y:=aa G.k2 E.k2;go_wp2_with fail;refine(b3 _ _ _ U hE).mono ?_;rintro e5 w5 ⟨v5,rfl,h5,ad⟩;obtain⟨s3,A3,k3,c3,rfl⟩:=h5.form;replace G:=G.be ad;replace d:=aC d ad;clear Y;have Y:=G.g2;go_wp2_with fail;obtain⟨W6,e6,G6,ae,dh,ff⟩:=G.mut2 d aE (.bool s3) (.slice A3 k3 c3) rfl rfl;rw[e6];clear e6;rw[HL.out] at h5;go_roundg k
     case rel=>exact⟨j+1,by have:=J.out;unfold Hid;omega,by go_num,⟨_,_,_,_,G6,h5.ke dh⟩,ae⟩
     case measure=>omega
  |zero=>
   have hj:j=S.length:=J.out;subst hj;rw[aq9,cn.out] at U;clear bh bj bn bm b8 J;obtain⟨w5,e5,ad,F⟩:=bI wy [.bool s2,.slice A2 k2 c2,.bool false,.slice none 0 0] 108;have Y:=G.k2;have hf:NQ w5 (.agg #[.bool s2,.slice A2 k2 c2,.bool false,.slice none 0 0]) (eT s:Rat):=NQ.of (U.be ad) (NI.zero _) (Rat.num_intCast _) (fV.2 (Rat.den_intCast _));replace h1:=(h1.be d).be ad;have ax:=(aC aw d).trans (ad.mono (aC aw d).size);have HE:=aB e5;clear e5;go_wp2_with fail;rw[HE.out];clear HE;refine(bk _ _ h1).mono ?_;rintro e6 w6 ⟨v6,dv,rfl,h6,ae⟩;obtain⟨A6,c6,rfl,d6⟩:=h6.form;replace F:=F.be ae;replace hf:=hf.be ae;replace h1:=h1.be ae;replace ax:=aC ax ae;clear bk Y U G d ad ae aw;go_wp2_with fail;generalize wy.1.size=gF at *;go_loopg [10,12] l.length (fun k vo i wr=>∃j,Hid (j+k=l.length)∧i= .int .i64 j∧GrowQ wr w6.1.size vo ((l.take j).filterMap (l8 s N))∧Below w6.1.size w6 wr)
   case atStart=>exact⟨0,by unfold Hid;omega,rfl,GrowQ.nil _,aG _ _⟩
   case round=>
    obtain⟨j,J,rfl,r,d⟩:=hrel;generalize wr=wy at *;have de:(0:Int)<=(j:Int):=by omega
    have da:=aC ax d;obtain⟨Ag,cg,eg,d7⟩:=r.nums.form;subst eg;cases gk with
    |zero=>
     have hj:j=l.length:=J.out;subst hj;rw[aq9] at r⊢;have hQ:=r.nums;clear r a7 ba a5 bb aq an ao bc ak au am ar;generalize l.filterMap (l8 s N)=R at *;go_wp2;go_ret;exact⟨_,rfl,hQ,da⟩
    |succ k=>
     have b1:j<l.length:=by have:=J.out;omega
     have df:(j:Int)<(l.length:Int):=by omega
     obtain⟨p,Z⟩:∃p,l[j]? =some p:=⟨_,aR b1⟩;have cj:=dG Z;have aj:=aB (cq3 (f:=l8 s N) Z);obtain⟨b,s1,A1,k1,c1,s5,A5,k5,c5,s3,A3,k3,c3,s4,A4,k4,c4,T,a4,bx,cl⟩:=(h6.be d).get Z;subst T;have P:R8 wy b (j*8) (.bool s1) (.slice A1 k1 c1) (.bool s5) (.slice A5 k5 c5) (.bool s3) (.slice A3 k3 c3) (.bool s4) (.slice A4 k4 c4):=bx;have cd:=fun v u g W h hu r=>a7 p cj v u g W h hu r;have HR:Hid (l8 s N p=if (RA s N p).1<=rT s (RA s N p).2∧aP s 0 (rT s (RA s N p).2)=0 then some (rT s (RA s N p).2) else none):=rfl;have dc:((l.take j).filterMap (l8 s N)).length<=1073741824:=by
      have:=List.length_filterMap_le (l8 s N) (l.take j);rw[bK] at this;omega
     generalize RA s N p=Q at *;generalize l8 s N p=op at *;generalize (l.take j).filterMap (l8 s N)=Rj at *;generalize ce:(l.take (j+1)).filterMap (l8 s N)=Rk at *;have ai:=aB ce;clear a7 Z cj ce h6 bx;have M:=h1.be d;have Fy:=F.be d;have ap:=hf.be d;clear h1 F hf;have cF:=Fy.k4;go_wp2_with fail;go_cut [13] (fun dl wx=>U8 wy (czK 12000400 Q.1 Q.2) dl wx)
     case first=>
      clear aq an ao bc ak au am
      go_region_held3 (fun I=>R8 I b (j*8) (.bool s1) (.slice A1 k1 c1) (.bool s5) (.slice A5 k5 c5) (.bool s3) (.slice A3 k3 c3) (.bool s4) (.slice A4 k4 c4)∧C4 I gF (.bool s2) (.slice A2 k2 c2) (.bool false) (.slice none 0 0)) (with_reducible exact⟨P.up a4,Fy.up.k4⟩)
       (first
        |(go_at_call 73;first|(with_reducible refine(ar _).mono ?_;rintro e7 w7 ⟨v7,rfl,h7,a2⟩;have:=St.mk a2)|(with_reducible refine(ba _).mono ?_;rintro e9 w9 ⟨v9,rfl,h9,bv⟩;have:=St.mk bv))
        |(go_at_call 81;refine(a5 _ _ _ h7.up h9.up).mono ?_;rintro dw ef ⟨ec,rfl,ct,cw⟩;have:=St.mk cw)
        |(go_at_call 80;refine(bb _ _ _ ct.up ap.up).mono ?_;rintro dx eh ⟨ed,rfl,cu,cx⟩;have:=St.mk cx)
        |(go_at_call 79;refine(cd _ _ _ _ M.up cl.up cu.up).mono ?_;rintro dy dt ⟨ee,rfl,cv,kl,kh,cy⟩;obtain⟨t1,B1,l1,d1,t2,B2,l2,d2,t3,B3,l3,d3,t4,B4,l4,d4,rfl,ah,a6⟩:=cv;have:=St.mk cy;(try have D:=dx8 (w:=dt))))
      all_goals (
       go_wp2;go_meet
       first|(with_reducible exact dx9 kl kh ah a6)|(with_reducible exact dxA kl kh ah a6))
     case rest=>
      obtain⟨cr,rfl,d8,⟨⟨t1,B1,l1,d1,t2,B2,l2,d2,t3,B3,l3,d3,t4,B4,l4,d4,X,ah,a6⟩,kl,kh⟩,O⟩:=hcut;generalize wc=wz at *;clear cd ar ba a5 bb cl P cF;replace Fy:=Fy.be O;replace ap:=ap.be O;replace M:=M.be O;replace r:=r.be O;replace d:=aC d O;clear O;have hm:=aq Q.2 kh;have hF:=an Q.2 kh;have hX:=ao Q.2 kh;have kx:=bc Q.2 kh;have T:=ak (rT s Q.2) kx;have hE:=au (rT s Q.2) kx;have hc:=am (rT s Q.2) Q.1 kx (bU kl (by decide));have bg:=czS (rT s Q.2) Q.1;have HZ:=aB (co.out (rT s Q.2));clear aq an ao bc ak au am kl kh kx;generalize (rT s Q.2-Q.1).num.sign=Sg at *;generalize aI S (rT s Q.2)=ev at *;generalize ev.num.sign=Se at *;generalize (Q.2*(eT s:Rat)).floor=fl at *;generalize Q.2*(eT s:Rat)=H at *;have cX:=aa X.k8 Fy.k4;go_wp2_with fail;go_cut [14] (fun dm wx=>U8 wz (QVar · · (rT s Q.2)) dm wx)
      case first=>
       clear T hE hc
       go_region_held3 (fun I=>C8 I cr (.bool t1) (.slice B1 l1 d1) (.bool t2) (.slice B2 l2 d2) (.bool t3) (.slice B3 l3 d3) (.bool t4) (.slice B4 l4 d4)∧C4 I gF (.bool s2) (.slice A2 k2 c2) (.bool false) (.slice none 0 0)) (with_reducible exact⟨X.up.k8,Fy.up.k4⟩)
        (first
         |(go_at_call 83;refine(hm _ _ _ a6.up ap.up).mono ?_;rintro e7 w7 ⟨v7,rfl,h7,a2⟩;have:=St.mk a2)
         |(go_at_call 82;refine(hF _ _ h7.up).mono ?_;rintro e8 w8 ⟨v8,rfl,P,a3⟩;obtain⟨s8,A8,k8,c8,rfl⟩:=P.form;have i8:=NQ.of P (NI.zero w8) (Rat.num_intCast fl) (fV.2 (Rat.den_intCast fl));have:=St.mk a3)
         |(go_at_call 80;refine(hX _ _ _ i8.up ap.up).mono ?_;rintro e9 w9 ⟨v9,rfl,h9,bv⟩;obtain⟨s9,A9,k9,c9,s0,A0,k0,c0,rfl⟩:=h9.form;have:=St.mk bv;(try have D:=dx7 (w:=w9))))
       all_goals (
        go_wp2;go_meet
        first|(with_reducible exact dx5 h9)|(with_reducible exact dx6 h9))
      case rest=>
       obtain⟨gV,rfl,ea,⟨s6,b7,k6,b9,s7,A7,k7,c7,V,C⟩,al⟩:=hcut;generalize wc=wu at *;clear hm hF hX a6 Fy ap cX;replace X:=X.be al;replace ah:=ah.be al;replace M:=M.be al;replace r:=r.be al;replace d:=aC d al;have cV:=aa V.k4 X.k8;generalize rT s Q.2=xq at *;go_wp2_with fail;refine(hc _ _ _ C ah).mono ?_;rintro d0 ei ⟨rfl,ay⟩;replace d:=aC d ay;replace r:=r.be ay;replace V:=V.be ay;replace C:=C.be ay;replace M:=M.be ay;clear hc X ah cV al;have cV:=V.k4;by_cases ag:Q.1<=xq
       ·have p0:=bg.2 ag;clear bg;by_cases bp:Se=0
        ·subst bp;have av:Hid ((l.take (j+1)).filterMap (l8 s N)=Rj++[xq]):=by
          unfold Hid;rw[ai.out,aj.out,HR.out,if_pos ⟨ag,HZ.out.1 rfl⟩];rfl
         clear aj HR ai HZ ag;go_wp2_with fail;refine(T _ _ _ M C).mono ?_;rintro cp du ⟨ds,rfl,br,ac⟩;replace V:=V.be ac;replace C:=C.be ac;clear cV;have cV:=V.k4;go_wp2_with fail;refine(hE _ _ br).mono ?_;rintro cq bf ⟨rfl,az⟩;have a1:=aC ac az;replace d:=aC d a1;replace r:=r.be a1;replace V:=V.be az;replace C:=C.be az;clear cV;have cV:=V.k4;have O:Below bf.1.size bf (bf.alloc (.cells #[.bool s6,.slice b7 k6 b9,.bool s7,.slice A7 k7 c7] 108)):=(aG _ _).alloc aE _;have ci:=r.be O;have dj:=C.be O;have cm:=aC d O;have XB:=Bx.new bf [.bool s6,.slice b7 k6 b9,.bool s7,.slice A7 k7 c7] 108;clear r T hE;go_wp2_with (at_builtin;refine dx3 rfl rfl rfl ci rfl XB dj dc cm.size ?_;intro v8 w8 cc a3);have dk:=cm.trans a3;rw[<-av.out] at cc;go_roundg k
         case rel=>exact⟨j+1,by have:=J.out;unfold Hid;omega,by go_num,cc,dk⟩
         case measure=>omega
        ·have eb:(Se==0)=false:=beq_eq_false_iff_ne.2 bp;have av:Hid (Rj=(l.take (j+1)).filterMap (l8 s N)):=by
          unfold Hid;rw[ai.out,aj.out,HR.out,if_neg (fun h=>bp (HZ.out.2 h.2))];simp
         clear aj HR ai bp ag HZ;go_wp2_with fail;refine(T _ _ _ M C).mono ?_;rintro cp du ⟨ds,rfl,br,ac⟩;go_wp2_with fail;refine(hE _ _ br).mono ?_;rintro cq bf ⟨rfl,az⟩;have a1:=aC ac az;replace d:=aC d a1;replace r:=r.be a1;clear V C cV;go_wp2;go_roundg k
         case rel=>exact⟨j+1,by have:=J.out;unfold Hid;omega,by go_num,by rw[<-av.out];exact r,d⟩
         case measure=>omega
       ·have p0:¬0<=Sg:=fun h=>ag (bg.1 h);have av:Hid (Rj=(l.take (j+1)).filterMap (l8 s N)):=by
         unfold Hid;rw[ai.out,aj.out,HR.out,if_neg (fun h=>ag h.1)];simp
        clear bg aj HR ai ag T hE C M HZ;go_wp2;go_roundg k
        case rel=>exact⟨j+1,by have:=J.out;unfold Hid;omega,by go_num,by rw[<-av.out];exact r,d⟩
        case measure=>omega
def dxD(b:List (List UInt8))(R:List Rat)(j:dM b=0->czB (aU b) R)(i:dM b≠0->R=[])(v:Value)(w:World)(hv:StrsAt w v b)(B:b.length<=7)(L:∀l∈b,l.length<=6):
  Calls prog 7 #[v] w fun e w'=>∃U,e= .returned (.tuple #[U,.int .i64 (dM b)])∧StrsAt w' U (R.map cW)∧Below w.1.size w w':=by
 obtain⟨A,c,rfl,hc⟩:=hv.form;have f:=fun W h=>L5 b (.slice A b.length c) W h B L;have F:∀q∈aU b,RL 1 q:=pI (fun l B=>aH (L l B) (by decide));have ae:(aU b).length=b.length:=cH _;have I:=DC b;unfold yA at f;obtain⟨E,D⟩:∃E,dM b=E:=⟨_,rfl⟩;rw[D] at f I j i⊢;clear D;rcases I with ⟨rfl,af,ad,G⟩|⟨rfl, -, -⟩|⟨rfl, -, -⟩;rotate_left
 ·skip;obtain rfl:R=[]:=i (by decide);clear j i;go_enter func7,ntmps7;go_wp2_with fail;refine(f _ hv).mono ?_;rintro C X ⟨V,rfl,h1,d⟩;obtain⟨A1,c1,rfl, -⟩:=h1.form;go_wp2;go_ret2;exact⟨_,rfl,StrsAt.nil _ _ _,d⟩
 ·skip;obtain rfl:R=[]:=i (by decide);clear j i;go_enter func7,ntmps7;go_wp2_with fail;refine(f _ hv).mono ?_;rintro C X ⟨V,rfl,h1,d⟩;obtain⟨A1,c1,rfl, -⟩:=h1.form;go_wp2;go_ret2;exact⟨_,rfl,StrsAt.nil _ _ _,d⟩
 obtain⟨w0,s,c1,n,l,N,S,t,T,J,hn,k,r,rfl⟩:=j rfl;rw[G] at f;have O:=t.2.2.1;have z:=fun v W h=>dxC (aU b) w0 s c1 n N l v W h S t F (by omega) T J hn k r;have P:∀q∈l.filterMap (l8 s N),RL 200000000 q:=fun q hq=>by
  obtain⟨p,hp,e⟩:=List.mem_filterMap.1 hq;have Y:=k.2.1 p hp N r;exact bU (cqJ O Y e) (by decide)
 have lR:(l.filterMap (l8 s N)).length<=1073741824:=aH (List.length_filterMap_le _ _) (aH k.2.2 (by decide));have M:=fun v W h=>cqX (l.filterMap (l8 s N)) v W h 200000000 P (by decide) lR;unfold lT at z;clear j i S t T J hn k r O P F ae G ad af;generalize l.filterMap (l8 s N)=R at *;go_enter func7,ntmps7;go_wp2_with fail;refine(f _ hv).mono ?_;rintro C X ⟨V,rfl,h1,d⟩;obtain⟨A1,c1,rfl, -⟩:=h1.form;clear f;go_wp2_with fail;refine(z _ _ h1).mono ?_;rintro e2 w2 ⟨v2,rfl,h2,H⟩;go_wp2_with fail;refine(M _ _ h2).mono ?_;rintro e3 w3 ⟨v3,rfl,m,ac⟩;obtain⟨A3,c3,rfl, -⟩:=m.form;rw[cH] at m⊢;have Z:=(aC d H).trans (ac.mono (aC d H).size);clear z M h1 h2;go_wp2;go_ret2;exact⟨_,rfl,m,Z⟩
def LY:bD [48]=some 0:=by decide
def ayM:bD [49]=some 1:=by decide
def ayN:bD [45,50]=some (-2):=by decide
