/- Laws. -/
import Derived.Test.YtgjeoghojliocaaGreatDoorE28
set_option linter.all false
set_option maxHeartbeats 8000000
set_option maxRecDepth 99999
namespace Go.Proofs.YtgjeoghojliocaaGreatDoor
open Sos
def ExQ.congr{K:Nat}{V V':Rat->Nat}{s s':Rat->Int}{a b:Rat}{l:List (Rat×Rat)}(h:ExQ K V s a b l)(d:∀x y,((V' x:Nat):Int)-(V' y:Nat)=(V x:Nat)-(V y:Nat))(c:∀x,s' x=0↔s x=0):ExQ K V' s' a b l:=by
 induction h with
 | @none a b h=>exact .none (by have:=d a b;omega)
 | @hit a b h e=>exact .hit (by have:=d a b;omega) ((c _).2 e)
 | @one a b h e g=>exact .one (by have:=d a b;omega) (fun k=>e ((c _).1 k)) (fun k=>g ((c _).1 k))
 | @split a b l m h f i _ _ j n=>
  have:=d a b;exact .split (by omega) (fun k=>⟨fun o=>(f (by omega)).1 ((c _).1 o),(c _).2 (f (by omega)).2⟩) i j n
def ax2{b:Rat}:∀N:Nat,b<=p2 N->∃n,n<=N∧Pw b n:=by
 intro N;induction N with
 |zero=>exact fun h=>⟨0,mC 0,h,fun m d=>by omega⟩
 |succ N e=>
  intro h;by_cases a:b<=p2 N
  ·obtain⟨n,f,c⟩:=e a;exact⟨n,by omega,c⟩
  ·refine⟨N+1,aE,h,fun m d=> ?_⟩;have:=DH (show m<=N by omega);show p2 m<b
   grind
def ax3{b:Rat}{K:Nat}(h:RL K b):b<=p2 (64*K):=by
 have c:=(yJ h.1).2;rw[DJ] at c;have d:=jZ (64*K);by_cases f:b<=0
 ·grind
 ·have g:(1:Rat)<=((b.den:Int):Rat):=pP (by have:=b.den_pos;omega);have e:b*((b.den:Int):Rat)=(b.num:Rat):=by
   have c:(b.num:Rat)/((b.den:Int):Rat)=b:=by rw[<-Rat.divInt_eq_div];exact Rat.num_divInt_den b
   have:=gW (a:=(b.num:Rat)) (b:=((b.den:Int):Rat)) (by grind);rwa [c] at this
  have:=cA (show 0<=b by grind) (show 0<=((b.den:Int):Rat)-1 by grind);grind
def yF(A:List Rat)(n:Nat)(l:List (Rat×Rat)):Prop:=∃w s c,Prp A w∧kL w s c∧ExQ 1000000000 (fun x=>aY 0 ((s :: c).map (fun a=>aP a 0 x))) (fun x=>aP s 0 x) (((-((2:Int)^n):Int)):Rat) ((((2:Int)^n:Int)):Rat) l∧(∀p∈l,RL 1000000000 p.1∧RL 1000000000 p.2)∧l.length<=8
def ax4{A:List Rat}{w s:List Int}{c:List (List Int)}(d:Prp A w)(e:kL w s c){n:Nat}(hn:n<=330):∃l,ExK 1000000000 (fun _ _=>True) (fun x=>aY 0 ((s :: c).map (fun a=>aP a 0 x))) (fun x=>aP s 0 x) (((-((2:Int)^n):Int)):Rat) ((((2:Int)^n:Int)):Rat) l∧yF A n l:=by
 obtain⟨l,b,f,g⟩:=ax7 e d.2.1 hn;exact⟨l,b.exk,w,s,c,d,e,b,f,g⟩
def sG{A:List Rat}{w s:List Int}{B:Nat}(d:Prp A w)(f:Sqp B w s)(x:Rat):(aI A x).num.sign=0↔aP s 0 x=0:=by
 obtain⟨l,k,c,g,j⟩:=d;have e:aI A x=c*aX w x:=by
  unfold aX;rw[<-iI];exact oT (fun i=>by rw[j,mG (fun q=>c*q) (gX _),dS,Rat.one_mul]) x
 have b:=ay4 f k x;have a:∀q:Rat,q.num.sign=0↔q=0:=fun q=>by rw[Int.sign_eq_zero_iff_zero];exact Rat.num_eq_zero
 rw[<-yI];unfold sF;rw[a,a,<-b,e];exact⟨fun h=>(Rat.mul_eq_zero.1 h).resolve_left g,fun h=>by rw[h,gX]⟩
def ax5{A:List Rat}{x y:Rat}{w s:List Int}{c:List (List Int)}(a:Prp A w)(e:kL w s c):x<y∧aP s 0 x*aP s 0 y<0∧fF s c 0 x 0 y=1∨x=y∧aP s 0 x=0↔x<y∧(aI A x).num.sign≠0∧(aI A y).num.sign≠0∧fF s c 0 x 0 y=1∨x=y∧(aI A x).num.sign=0:=by
 obtain⟨f,b,d, -, -⟩:=e;have g:=gU (pL d.nums (by have:=d.1;omega));rw[ne_eq,ne_eq,sG a b x,sG a b y];refine or_congr (and_congr_right fun _=>⟨fun h=>⟨fun k=> ?_,fun k=> ?_,h.2⟩,fun h=>⟨ay6 f a.2.1 (fun n hn=>aH (g n hn) (by decide)) h.1 h.2.1 h.2.2,h.2.2⟩⟩) Iff.rfl
 ·have:=h.1;rw[k,Int.zero_mul] at this;exact absurd this (by decide)
 ·have:=h.1;rw[k,Int.mul_zero] at this;exact absurd this (by decide)
end Go.Proofs.YtgjeoghojliocaaGreatDoor
namespace Go.Proofs.YtgjeoghojliocaaGreatDoor
open Go.RowKit Sos Tryz
def MD(x y:Rat)(v u:Value)(w:World)(B:NQ w v x)(C:NQ w u y)(K:Nat)(a:RL K x)(f:RL K y)(hK:K<=1073741824):Calls prog 104 #[v,u] w (eS w ((x+y)/2)):=by
 obtain⟨s1,I,k1,O,s2,J,k2,P,rfl⟩:=B.form;obtain⟨s3,L,k3,Q,s4,M,k4,S,rfl⟩:=C.form;have h1:=xR a;have s:=fun W u v h c=>sK x y u v W h c K a f (by omega);have A:∀W,Calls prog 47 #[.int .i64 2] W (eS W 2):=fun W=>r7 2 W (by decide);have t:=fun W u v h c=>vD (x+y) 2 u v W h c (2*K+2) (bU (wW a f) (by omega)) (bU (show RL 1 (2:Rat) from az3 (n:=2) (by decide)) (by omega)) (by omega) (by decide);unfold eS at s A t;unfold eS;clear a f;generalize (x+y)/2=m at *;generalize x+y=z at *;obtain⟨W,q,d,X,Y,R⟩:=gE w [.bool s1,.slice I k1 O,.bool s2,.slice J k2 P] 62 [.bool s3,.slice L k3 Q,.bool s4,.slice M k4 S] 62 [.bool false,.slice none 0 0,.bool false,.slice none 0 0] 62;have cM:=aa X.g4 (aa Y.g4 R.g4);go_enter func104,ntmps104;go_wp2_with fail;(try rw[q]);clear q;refine(s _ _ _ (B.be d) (C.be d)).mono ?_;rintro e5 w5 ⟨v5,rfl,T,V⟩;have:=St.mk V;go_wp2_with fail;refine(A _).mono ?_;rintro p w6 ⟨v6,rfl,U,e⟩;have:=St.mk e;go_wp2_with fail;refine(t _ _ _ T.up U).mono ?_;rintro e7 H ⟨v7,rfl,r,Z⟩;obtain⟨F,g,D,k,G,i,E,o,rfl⟩:=r.form;have:=St.mk Z;have j:=R.up (b:=H);have cR:=j.g4;go_wp2_with fail;obtain⟨W6,p,N,e,hk,ff⟩:=j.mut4 (bJ (b:=H) d) (by omega) (.bool F) (.slice g D k) (.bool G) (.slice i E o) rfl rfl;rw[p];exact aM (v:= .agg #[.bool F,.slice g D k,.bool G,.slice i E o]) (by simp[results,results104,go_sem,N.k4]) rfl ⟨_,rfl,r.ke hk,e⟩
def IvN(w:World)(v:Value)(x y:Rat):Prop:=∃n a i e o b j f p c k g q d m h,v= .agg #[.bool n,.slice a i e,.bool o,.slice b j f,.bool p,.slice c k g,.bool q,.slice d m h]∧NQ w (.agg #[.bool n,.slice a i e,.bool o,.slice b j f]) x∧NQ w (.agg #[.bool p,.slice c k g,.bool q,.slice d m h]) y
def IvN.of{w:World}{x y:Rat}{o p q r:Bool}{a b c d:Option Addr}{j e k f m g n i:Nat}(h:NQ w (.agg #[.bool o,.slice a j e,.bool p,.slice b k f]) x)(s:NQ w (.agg #[.bool q,.slice c m g,.bool r,.slice d n i]) y):IvN w (.agg #[.bool o,.slice a j e,.bool p,.slice b k f,.bool q,.slice c m g,.bool r,.slice d n i]) x y:=⟨_,_,_,_,_,_,_,_,_,_,_,_,_,_,_,_,rfl,h,s⟩
def IvN.ke{w w':World}{v:Value}{x y:Rat}(h:IvN w v x y)(a:KM w w'):IvN w' v x y:=by
 obtain⟨r,d,n,i,s,e,o,j,t,f,p,k,u,g,q,m,rfl,b,c⟩:=h;exact IvN.of (b.ke a) (c.ke a)
def IvN.be{w w':World}{v:Value}{x y:Rat}(h:IvN w v x y)(a:Below w.heap.size w w'):IvN w' v x y:=h.ke (KM.be a)
def IvN.up{a b:World}[u:Up a b]{v:Value}{x y:Rat}(h:IvN a v x y):IvN b v x y:=h.be u.out
def ME(x y:Rat)(v:Value)(w:World)(hv:IvN w v x y)(K:Nat)(T:RL K x)(U:RL K y)(hK:K<=1073741824):
  Calls prog 20 #[v] w fun e w'=>e= .returned (.agg #[.string ⟨(cW x).toArray⟩,.string ⟨(cW y).toArray⟩])∧Below w.heap.size w w':=by
 obtain⟨z,f,r,k,A,g,s,m,B,i,t,n,C,j,u,o,rfl,p,q⟩:=hv;have I:=fun W h=>CF x (.agg #[.bool z,.slice f r k,.bool A,.slice g s m]) W h K T (by omega);have J:=fun W h=>CF y (.agg #[.bool B,.slice i t n,.bool C,.slice j u o]) W h K U (by omega);unfold CG at I J;generalize (cW x).toArray=N at *;generalize (cW y).toArray=O at *;obtain⟨W,H,c,X,R⟩:=eL w [.bool z,.slice f r k,.bool A,.slice g s m,.bool B,.slice i t n,.bool C,.slice j u o] 64 [.string ⟨#[]⟩,.string ⟨#[]⟩] 24;have Y:=aa X.g8 R.g2;go_enter func20,ntmps20;go_wp2_with fail;(try rw[H]);clear H;replace p:=p.be c;replace q:=q.be c;have M:w.heap.size+1≠w.heap.size:=by omega
 go_region_held3 (fun w'=>C8 w' w.heap.size (.bool z) (.slice f r k) (.bool A) (.slice g s m) (.bool B) (.slice i t n) (.bool C) (.slice j u o)) (first|(with_reducible exact X.up.k8)|(with_reducible exact((F.far 0 _ M).far 1 _ M).k8))
  (first
   |(go_at_call 55;first|(with_reducible refine(I _ p.up).mono ?_;rintro Z D ⟨rfl,S⟩;have:=St.mk S;have a:=R.up (b:=D);have F:=X.up (b:=D);have Q:=a.g2;have L:=bJ (b:=D) c)|(with_reducible refine(J _ q.up).mono ?_;rintro G E ⟨rfl,d⟩;have:=St.mk d;have a:=R.up (b:=E);have F:=X.up (b:=E);have Q:=a.g2;have L:=bJ (b:=E) c)))
 all_goals (
  go_wp2_with fail;obtain⟨V,G,P,d,hk,ff⟩:=a.mut2 L (by omega) (.string ⟨N⟩) (.string ⟨O⟩) rfl rfl;rw[G];exact aM (v:= .agg #[.string ⟨N⟩,.string ⟨O⟩]) (by simp[results,results20,go_sem,P.k2]) rfl ⟨rfl,by first|exact d|exact d.drew⟩)
def Bx.mut8{w W:World}{B b:Nat}{t:TypeId}{n o p q r s u x:Value}(h:Bx W b [n,o,p,q,r,s,u,x] t)(P:Below B w W)(a:B<=b)(d e f g i j k m:Value)(hn:(cS (some n)&&(cS (some o)&&(cS (some p)&&(cS (some q)&&(cS (some r)&&(cS (some s)&&(cS (some u)&&cS (some x))))))))=true):
  ∃c,(((((((W.setCell ⟨b,0,none⟩ d).setCell ⟨b,1,none⟩ e).setCell ⟨b,2,none⟩ f).setCell ⟨b,3,none⟩ g).setCell ⟨b,4,none⟩ i).setCell ⟨b,5,none⟩ j).setCell ⟨b,6,none⟩ k).setCell ⟨b,7,none⟩ m=c∧Bx c b [d,e,f,g,i,j,k,m] t∧Below B w c∧KM W c:=by
 simp only[Bool.and_eq_true] at hn;obtain⟨Z,rfl,H,y,Q,f1⟩:=h.mut1 P a 0 d hn.1;obtain⟨W2,rfl,I,z,R,f2⟩:=H.mut1 y a 1 e hn.2.1;obtain⟨W3,rfl,J,A,S,f3⟩:=I.mut1 z a 2 f hn.2.2.1;obtain⟨W4,rfl,K,C,T,f4⟩:=J.mut1 A a 3 g hn.2.2.2.1;obtain⟨W5,rfl,L,D,U,f5⟩:=K.mut1 C a 4 i hn.2.2.2.2.1;obtain⟨W6,rfl,M,E,V,f6⟩:=L.mut1 D a 5 j hn.2.2.2.2.2.1;obtain⟨W7,rfl,N,F,X,f7⟩:=M.mut1 E a 6 k hn.2.2.2.2.2.2.1;obtain⟨W8,rfl,O,G,Y,f8⟩:=N.mut1 F a 7 m hn.2.2.2.2.2.2.2;exact⟨_,rfl,O,G,((((((Q.trans R).trans S).trans T).trans U).trans V).trans X).trans Y⟩
def yR(w:World)(a b:List UInt8)(e:Ending)(w':World):Prop:=∃v x y,e= .returned (.tuple #[v,.bool (rd a&&rd b)])∧IvN w' v x y∧(∀r,bD a=some r->x=r)∧(∀r,bD b=some r->y=r)∧Below w.heap.size w w'
def MF(a b:List UInt8)(w:World)(Z:a.length<=1073741824)(lb:b.length<=1073741824):Calls prog 22 #[.agg #[.string ⟨a.toArray⟩,.string ⟨b.toArray⟩]] w (yR w a b):=by
 have C:=fun W=>CE a W Z;have D:=fun W=>CE b W lb;unfold JH at C D;unfold yR;generalize rd a=oa at *;generalize rd b=ob at *;obtain⟨W,J,e,X,R⟩:=eL w [.string ⟨a.toArray⟩,.string ⟨b.toArray⟩] 24 [.bool false,.slice none 0 0,.bool false,.slice none 0 0,.bool false,.slice none 0 0,.bool false,.slice none 0 0] 64;have U:=aa X.g2 R.g8;go_enter func22,ntmps22;go_wp2_with fail;(try rw[J]);clear J;refine(C _).mono ?_;rintro e1 w1 ⟨v1,x,rfl,d,S,K⟩;obtain⟨u,g,q,k,z,h,r,m,rfl⟩:=d.form;obtain⟨w2,H,L,P⟩:=bI w1 [.bool u,.slice g q k,.bool z,.slice h r m] 62;have c:=aC K L;replace R:=R.be c;replace X:=X.be c;replace d:=d.be L;replace e:=aC e c;have E:=aB S;have V:=X.k2;clear S C c;go_wp2_with fail;(try rw[H]);(try clear H);refine(D _).mono ?_;rintro e3 w3 ⟨v3,y,rfl,f,T,M⟩;obtain⟨A,i,s,n,B,j,t,o,rfl⟩:=f.form;obtain⟨w4,I,N,Q⟩:=bI w3 [.bool A,.slice i s n,.bool B,.slice j t o] 62;have c:=aC M N;replace R:=R.be c;replace P:=P.be c;replace d:=d.be c;replace f:=f.be N;replace e:=aC e c;have F:=aB T;have U:=aa R.g8 (aa P.k4 Q.k4);clear T D c V X;cases oa
 all_goals (
  go_wp2_with fail;(try rw[I]);(try clear I);obtain⟨W6,Y,G,O,p⟩:=R.mut8 e (Nat.le_succ _) (.bool u) (.slice g q k) (.bool z) (.slice h r m) (.bool A) (.slice i s n) (.bool B) (.slice j t o) rfl;rw[Y])
 ·exact aM (v:= .tuple #[.agg #[.bool u,.slice g q k,.bool z,.slice h r m,.bool A,.slice i s n,.bool B,.slice j t o],.bool false]) (by simp[results,results22,go_sem,G.k8]) rfl ⟨_,x,y,rfl,IvN.of (d.ke p) (f.ke p),E.out,F.out,O⟩
 ·exact aM (v:= .tuple #[.agg #[.bool u,.slice g q k,.bool z,.slice h r m,.bool A,.slice i s n,.bool B,.slice j t o],.bool ob]) (by simp[results,results22,go_sem,G.k8]) rfl ⟨_,x,y,by rw[Bool.true_and],IvN.of (d.ke p) (f.ke p),E.out,F.out,O⟩
def IvRw(w:World)(rows:List (List Value))(l:List (Rat×Rat)):Prop:=rows.length=l.length∧∀(i:Nat) (p:Rat×Rat),l[i]? =some p->∃cs,rows[i]? =some cs∧IvN w (.agg cs.toArray) p.1 p.2
def RowIv(w:World)(base:Nat)(v:Value)(l:List (Rat×Rat)):Prop:=∃rows,GrowD w base 64 8 v rows∧IvRw w rows l
section
variable {w w':World}{base:Nat}{v:Value}{l:List (Rat×Rat)}{rows:List (List Value)}
def IvRw.ke(h:IvRw w rows l)(b:KM w w'):IvRw w' rows l:=⟨h.1,fun i p c=>by
 obtain⟨cs,e,a⟩:=h.2 i p c;exact⟨cs,e,a.ke b⟩⟩
def RowIv.be(h:RowIv w base v l)(a:Below w.heap.size w w'):RowIv w' base v l:=by
 obtain⟨rows,b,c⟩:=h;exact⟨rows,b.be a,c.ke (KM.be a)⟩
def RowIv.up{a b:World}[u:Up a b](h:RowIv a base v l):RowIv b base v l:=h.be u.out
def RowIv.lt(h:RowIv w base v l):∀g,v.ownBlock=some g->base<=g∧g<w.heap.size:=by
 obtain⟨rows,a,b⟩:=h;exact a.lt
def RowIv.nil(w:World)(base:Nat):RowIv w base (.slice none 0 0) []:=⟨[],GrowD.nil,rfl,fun i p h=>by simp at h⟩
def RowIv.form(h:RowIv w base v l):∃A c,v= .slice A l.length c∧l.length<=c:=by
 obtain⟨rows,a,b⟩:=h;rw[<-b.1];exact a.form
def RowIv.get{A:Option Addr}{n c:Nat}(h:RowIv w base (.slice A n c) l){i:Nat}{p:Rat×Rat}(hi:l[i]? =some p):∃b x d r k y f s m z g t o B j u q,A=some ⟨b,0,none⟩∧b<w.heap.size∧
  (w.cell? ⟨b,i*8,none⟩=some (.bool x)∧w.cell? ⟨b,i*8+1,none⟩=some (.slice d r k)∧w.cell? ⟨b,i*8+2,none⟩=some (.bool y)∧w.cell? ⟨b,i*8+3,none⟩=some (.slice f s m)∧w.cell? ⟨b,i*8+4,none⟩=some (.bool z)∧w.cell? ⟨b,i*8+5,none⟩=some (.slice g t o)∧w.cell? ⟨b,i*8+6,none⟩=some (.bool B)∧w.cell? ⟨b,i*8+7,none⟩=some (.slice j u q))∧
  IvN w (.agg #[.bool x,.slice d r k,.bool y,.slice f s m,.bool z,.slice g t o,.bool B,.slice j u q]) p.1 p.2:=by
 obtain⟨rows,F,G⟩:=h;obtain⟨K,e,x,d,r,k,y,f,s,m,z,g,t,o,B,j,u,q,C,I,J⟩:=G.2 i p hi;injection C with C;have D:=congrArg Array.toList C;rw[List.toList_toArray] at D;subst D;obtain⟨b,E, -,H,a⟩:=F.at_ e;exact⟨b,x,d,r,k,y,f,s,m,z,g,t,o,B,j,u,q,E,H,⟨a 0 _ rfl,a 1 _ rfl,a 2 _ rfl,a 3 _ rfl,a 4 _ rfl,a 5 _ rfl,a 6 _ rfl,a 7 _ rfl⟩,IvN.of I J⟩
def GrowD.km{e:TypeId}{k:Nat}(h:GrowD w base e k v rows)(c:w.grownBy w' v.ownBlock):KM w w':=⟨c.size,fun p i x a=>by
 refine(World.cell?_of_block (c.block p.block (block_lt_of_cell a) (fun b=> ?_))).trans a;have hn:=h.2.2 p.block b.symm;rcases h.1.2 with ⟨rfl,_⟩|⟨g,f,cur,rfl,_,d,_⟩
 ·simp[Value.ownBlock] at b
 ·simp[Value.ownBlock] at b;unfold World.cell? at a;rw[b] at hn;rw[b,d] at a;simp only at a;split at a
  ·cases a
  ·rw[<-Array.getElem?_toList] at a;exact hn _ _ _ d _ (dG a) i x rfl⟩
def IvRw.push(h:IvRw w rows l)(c:KM w w'){cs:List Value}{x y:Rat}(hi:IvN w (.agg cs.toArray) x y):IvRw w' (rows++[cs]) (l++[(x,y)]):=by
 have f:=h.ke c;refine⟨by rw[bE,bE,h.1];rfl,fun i p a=> ?_⟩;rcases dE i l.length with b|b
 ·rw[gA b] at a;obtain⟨d,e,g⟩:=f.2 i p a;exact⟨d,by rw[gA (by have:=h.1;omega)];exact e,g⟩
 ·have j:=(List.getElem?_eq_some_iff.1 a).1;rw[bE,iJ] at j;obtain rfl:i=l.length:=by omega
  rw[fK aE,Nat.sub_self] at a;have k:(x,y)=p:=by simpa using a
  subst k;exact⟨cs,by rw[fK (by have:=h.1;omega),h.1,Nat.sub_self];rfl,hi.ke c⟩
end
def E3:(Tryz.prog.info? 64).map (fun i=>(i.zero,i.size,i.bytes))=some (some (.agg #[.bool false,.slice none 0 0,.bool false,.slice none 0 0,.bool false,.slice none 0 0,.bool false,.slice none 0 0]),8,128):=by kernel_rfl
def uY(wb w:World)(b:Value)(l:List (Rat×Rat))(e:Ending)(w':World):Prop:=∃a,e= .returned a∧RowIv w' wb.heap.size a l∧w.grownBy w' b.ownBlock∧KM w w'∧OwnTo w b a
def pT{w w1 d:World}{r:Option Nat}(a:Below w.heap.size w w1)(b:w1.grownBy d r):w.grownBy d r:=⟨b.os.trans a.os,b.tape.trans a.tape,b.output.trans a.output,aH a.size b.size,fun k c e=>(b.block k (aZ c a.size) e).trans (a.block k c)⟩
def DZ{w w1 g:World}{v f:Value}(h:w.grownBy w1 v.ownBlock)(a:w1.grownBy g f.ownBlock)(i:OwnTo w v f):w.grownBy g v.ownBlock:=⟨a.os.trans h.os,a.tape.trans h.tape,a.output.trans h.output,aH h.size a.size,fun k c d=>(a.block k (aZ c h.size) (fun e=>by
 rcases i k e.symm with b|b
 ·exact d b.symm
 ·omega)).trans (h.block k c d)⟩
def OwnTo.less{w W:World}{v a:Value}(h:OwnTo W v a)(b:w.heap.size<=W.heap.size):OwnTo w v a:=fun g e=>(h g e).imp id (fun h=>aH b h)
def r5{W:World}{v b:Value}{g:Nat}(c:OwnTo W v b)(h:v.ownBlock≠some g)(d:g<W.heap.size):b.ownBlock≠some g:=fun e=>by
 rcases c g e with a|a
 ·exact h a
 ·omega
def E0{w W:World}{v a:Value}(b:Below w.heap.size w W)(h:a.ownBlock=v.ownBlock∨a.ownBlock=some W.heap.size):OwnTo w v a:=fun g e=>by
 rcases h with h|h
 ·exact .inl (by rw[<-h];exact e)
 ·rw[h] at e;injection e with e;exact .inr (by have:=b.size;omega)
def uZ(wb:World)(vp vl:Value)(a b:Rat)(l:List (Rat×Rat)):Prop:=∀(c:List (Rat×Rat)) (d e f:Value) (w:World),Below wb.heap.size wb w->RowIv w wb.heap.size d c->NQ w e a->NQ w f b->c.length+l.length<=1048576->
  Calls prog 51 #[vp,vl,e,f,d] w (uY wb w d (c++l))
section
variable {V:Rat->Nat}{sg:Rat->Int}{er:Rat->Rat}{K:Nat}{wb:World}{vp vl:Value}(hV:∀x,V x<=1024)(hK2:K<=1000000000)
 (hva:∀(x:Rat) (bl:Bool) (W:World) (u:Value),Below wb.heap.size wb W->REnd W u false x->RL K x->Calls prog 103 #[vl,u,.bool bl] W (eO W (V x:Nat)))
 (hat:∀(x:Rat) (W:World) (u:Value),Below wb.heap.size wb W->NQ W u x->RL K x->Calls prog 62 #[vp,u] W (eS W (er x)))
 (hsg:∀(x:Rat) (W:World) (u:Value),NQ W u (er x)->RL K x->Calls prog 61 #[u] W (eO W (sg x)))
include hV hK2 hva hat hsg
def vA{a b:Rat}{l:List (Rat×Rat)}(ka:RL K a)(kb:RL K b)(H:V a=V b∧l=[]∨V a=V b+1∧sg b=0∧l=[(b,b)]∨V a=V b+1∧sg b≠0∧sg a≠0∧l=[(a,b)]∨V b<V a∧(V a=V b+1->sg b≠0∧sg a=0)∧∃l1 l2,l=l1++l2∧uZ wb vp vl a ((a+b)/2) l1∧uZ wb vp vl ((a+b)/2) b l2):uZ wb vp vl a b l:=by
 intro bw vr va vb w an D M E hl;obtain⟨s1,Q,k1,S,s2,R,k2,T,rfl⟩:=M.form;obtain⟨r,f,p,j,s,i,q,m,rfl⟩:=E.form;have ct:=hV a;have cu:=hV b;have v1:=fun W u h n=>hva a true W u h n ka;have v2:=fun W u h n=>hva b false W u h n kb;have t1:=fun W h=>vB a (.agg #[.bool s1,.slice Q k1 S,.bool s2,.slice R k2 T]) W h;have t2:=fun W h=>vB b (.agg #[.bool r,.slice f p j,.bool s,.slice i q m]) W h;have ax:=fun W u h n=>hat b W u h n kb;have aw:=fun W u h=>hsg b W u h kb;have ak:=fun W u h n=>hat a W u h n ka;have aj:=fun W u h=>hsg a W u h ka;have ai:=fun W u v h n=>MD a b u v W h n K ka kb (by omega);have ao:=D.lt;unfold eO at v1 v2 aw aj;unfold eS at ax ak ai;have O:=fun (W':World) (u:Below w.heap.size w W')=>aC an u;clear hva hat hsg hV ka kb;generalize sg a=Sa at *;generalize sg b=Sb at *;generalize er a=cq at *;generalize er b=cs at *;generalize V a=na at *;generalize V b=nb at *;obtain⟨N,hN⟩:∃N:Int,(na:Int)-(nb:Int)=N:=⟨_,rfl⟩;have cv:IntKind.i64.wrap N=N:=IntWalk.i64_in _ ⟨by omega,by omega⟩;have HH:=aB H;clear H;obtain⟨W,eW,U,X,Y⟩:=eL w [.bool s1,.slice Q k1 S,.bool s2,.slice R k2 T] 62 [.bool r,.slice f p j,.bool s,.slice i q m] 62;have cM:=aa X.g4 Y.g4;go_enter func51,ntmps51;go_wp2_with fail;(try rw[eW]);clear eW;go_cut [11] (fun ch wx=>ch= .int .i64 N∧Bx wx w.heap.size [.bool s1,.slice Q k1 S,.bool s2,.slice R k2 T] 62∧Bx wx (w.heap.size+1) [.bool r,.slice f p j,.bool s,.slice i q m] 62∧Below w.heap.size w wx)
 case first=>
  have ce:=M.be U;have cg:=E.be U;have bv:=O _ U;clear ax aw ak aj ai O
  go_region_with (first
   |(go_at_call 64;first|((with_reducible refine(t1 _ ce.up).mono ?_);rintro e5 w5 ⟨v5,rfl,h5,b7⟩;have:=St.mk b7;have t:=X.up (b:=w5);have y:=Y.up (b:=w5);have az:=t.k4;have bg:=y.k4;have z:=bJ (b:=w5) U)|((with_reducible refine(t2 _ cg.up).mono ?_);rintro e6 w6 ⟨v6,rfl,h6,b8⟩;have:=St.mk b8;have t:=X.up (b:=w6);have y:=Y.up (b:=w6);have az:=t.k4;have bg:=y.k4;have z:=bJ (b:=w6) U))
   |(go_at_call 103;first|((with_reducible refine(v1 _ _ (bJ bv) h5.up).mono ?_);rintro e7 w7 ⟨rfl,b9⟩;have:=St.mk b9;have t:=X.up (b:=w7);have y:=Y.up (b:=w7);have az:=t.k4;have bg:=y.k4;have z:=bJ (b:=w7) U)|((with_reducible refine(v2 _ _ (bJ bv) h6.up).mono ?_);rintro e8 w8 ⟨rfl,ca⟩;have:=St.mk ca;have t:=X.up (b:=w8);have y:=Y.up (b:=w8);have az:=t.k4;have bg:=y.k4;have z:=bJ (b:=w8) U)))
  all_goals (
   go_wp2;go_meet;exact⟨rfl,t,y,z⟩)
 case rest=>
  clear X Y U cM v1 v2 t1 t2;obtain⟨rfl,t,y,z⟩:=hcut;generalize wc=w5 at *;have az:=aa t.k4 y.k4;have H:=HH.out;clear HH;rcases H with ⟨hv,rfl⟩|H
  ·obtain rfl:N=0:=by omega
   clear ax aw ak aj ai;go_wp2;go_ret;exact⟨_,rfl,by rw[fH];exact D.be z,pT z (World.grownBy.refl _ _),KM.be z,fun g e=> .inl e⟩
  have b5:N≠0:=by rcases H with ⟨h, -⟩|⟨h, -⟩|⟨h, -⟩<;>omega
  have q2:(N==0)=false:=by simpa using b5
  have hH:=aB H;clear H;go_wp2_with fail;refine(ax _ _ (bJ (O _ z)) (NQ.up (NQ.be E z))).mono ?_;rintro e9 w9 ⟨v9,rfl,h9,cb⟩;have:=St.mk cb;have X6:=t.up (b:=w9);have Y6:=y.up (b:=w9);have bx:=aa X6.k4 Y6.k4;go_wp2_with fail;refine(aw _ _ h9).mono ?_;rintro cp a3 ⟨rfl,b6⟩;have:=St.mk b6;replace X6:=X6.up (b:=a3);replace Y6:=Y6.up (b:=a3);replace bx:=aa X6.k4 Y6.k4;have o:=bJ (b:=a3) z;clear ax aw;have H:=hH.out;clear hH;rcases H with ⟨hv,rfl,rfl⟩|⟨hv,av,bu,rfl⟩|⟨hv,n,l1,l2,rfl,i1,i2⟩
  ·obtain rfl:N=1:=by omega
   clear ak aj ai hv;obtain⟨bt,aq,ar⟩:=D;obtain⟨Ar,cr,rfl,cc⟩:=aq.form;have bs:bt.length<=1073741824:=by have:=ar.1;omega
   have c:=o.alloc o.size (.cells #[.bool r,.slice f p j,.bool s,.slice i q m,.bool r,.slice f p j,.bool s,.slice i q m] 64);have XB:=Bx.new a3 [.bool r,.slice f p j,.bool s,.slice i q m,.bool r,.slice f p j,.bool s,.slice i q m] 64;have ag:=aq.be c;go_wp2_with (at_builtin;refine yE rfl rfl 64 8 128 _ underlying55 E3 rfl yB (by decide) (by decide) rfl ag rfl XB rfl (yD _ _ _ _ _ _ _ _ _ _ _ _ _ _ _ _) bs (aH an.size c.size) ?_;intro cm co bi cd ah br);go_ret;exact⟨_,rfl,⟨_,bi,(ar.ke (KM.be c)).push (ag.km ah) (IvN.of (E.be c) (E.be c))⟩,pT c ah,(KM.be c).trans (ag.km ah),E0 c br⟩
  ·obtain rfl:N=1:=by omega
   have q0:(Sb==0)=false:=by simpa using av
   have q1:(Sa != 0)=true:=by simpa using bu
   clear ai hv av bu;obtain⟨bt,aq,ar⟩:=D;obtain⟨Ar,cr,rfl,cc⟩:=aq.form;have bs:bt.length<=1073741824:=by have:=ar.1;omega
   go_wp2_with fail;refine(ak _ _ (bJ (O _ o)) (NQ.up (NQ.be M o))).mono ?_;rintro b0 ay ⟨ci,rfl,bh,bn⟩;have:=St.mk bn;have A:=X6.up (b:=ay);have C:=Y6.up (b:=ay);have bf:=aa A.k4 C.k4;go_wp2_with fail;refine(aj _ _ bh).mono ?_;rintro b1 ac ⟨rfl,bo⟩;have:=St.mk bo;replace A:=A.up (b:=ac);replace C:=C.up (b:=ac);replace bf:=aa A.k4 C.k4;have af:=bJ (b:=ac) o;have c:=af.alloc af.size (.cells #[.bool s1,.slice Q k1 S,.bool s2,.slice R k2 T,.bool r,.slice f p j,.bool s,.slice i q m] 64);have XB:=Bx.new ac [.bool s1,.slice Q k1 S,.bool s2,.slice R k2 T,.bool r,.slice f p j,.bool s,.slice i q m] 64;have ag:=aq.be c;go_wp2_with (at_builtin;refine yE rfl rfl 64 8 128 _ underlying55 E3 rfl yB (by decide) (by decide) rfl ag rfl XB rfl (yD _ _ _ _ _ _ _ _ _ _ _ _ _ _ _ _) bs (aH an.size c.size) ?_;intro cm co bi cd ah br);go_ret;exact⟨_,rfl,⟨_,bi,(ar.ke (KM.be c)).push (ag.km ah) (IvN.of (M.be c) (E.be c))⟩,pT c ah,(KM.be c).trans (ag.km ah),E0 c br⟩
  ·replace i1:=fun vm W B D h1 h2=>i1 bw vr (.agg #[.bool s1,.slice Q k1 S,.bool s2,.slice R k2 T]) vm W B D h1 h2 (by rw[bE] at hl;omega);replace i2:=fun v1 vm W B D h1 h2=>i2 (bw++l1) v1 vm (.agg #[.bool r,.slice f p j,.bool s,.slice i q m]) W B D h1 h2 (by rw[bE] at hl⊢;omega);have a1:vr.ownBlock≠some w.heap.size:=fun e=>by have:=(ao _ e).2;omega
   have a2:vr.ownBlock≠some (w.heap.size+1):=fun e=>by have:=(ao _ e).2;omega
   have hZ:N=1->Sb≠0∧Sa=0:=fun e=>n (by omega);unfold uY at i1 i2;clear n hl hv;generalize (a+b)/2=cw at *;by_cases a0:N=1
   ·obtain⟨av,rfl⟩:=hZ a0;subst a0;have q0:(Sb==0)=false:=by simpa using av
    clear hZ av;go_wp2_with fail;refine(ak _ _ (bJ (O _ o)) (NQ.up (NQ.be M o))).mono ?_;rintro b0 ay ⟨ci,rfl,bh,bn⟩;have:=St.mk bn;have A:=X6.up (b:=ay);have C:=Y6.up (b:=ay);have bf:=aa A.k4 C.k4;go_wp2_with fail;refine(aj _ _ bh).mono ?_;rintro b1 ac ⟨rfl,bo⟩;have:=St.mk bo;replace A:=A.up (b:=ac);replace C:=C.up (b:=ac);replace bf:=aa A.k4 C.k4;have af:=bJ (b:=ac) o;go_wp2_with fail;refine(ai _ _ _ (NQ.up (NQ.be M af)) (NQ.up (NQ.be E af))).mono ?_;rintro b2 P ⟨cj,rfl,ae,bp⟩;have:=St.mk bp;obtain⟨s5,A5,k5,c5,s6,A6,k6,c6,rfl⟩:=ae.form;obtain⟨al,ap,bq,Z⟩:=bI P [.bool s5,.slice A5 k5 c5,.bool s6,.slice A6 k6 c6] 62;have:=St.mk bq;have J:=A.up (b:=al);have L:=C.up (b:=al);have d:=bJ (b:=al) af;have bz:=aa J.k4 (aa L.k4 Z.k4);have au:vr.ownBlock≠some P.heap.size:=fun e=>by have:=(ao _ e).2;have:=(bJ (b:=P) af).size;omega
    go_wp2_with fail;(try rw[ap]);(try clear ap)
    go_region_held3 (fun w'=>C4 w' w.heap.size (.bool s1) (.slice Q k1 S) (.bool s2) (.slice R k2 T)∧C4 w' (w.heap.size+1) (.bool r) (.slice f p j) (.bool s) (.slice i q m)∧C4 w' P.heap.size (.bool s5) (.slice A5 k5 c5) (.bool s6) (.slice A6 k6 c6))
     (first|with_reducible exact⟨J.up.k4,L.up.k4,Z.up.k4⟩|with_reducible exact⟨X9.up.k4,Y9.up.k4,Z9.up.k4⟩|with_reducible exact⟨ba.up.k4,bb.up.k4,bc.up.k4⟩)
     (first
     |(go_at_call 51;first
      |((with_reducible refine(i1 _ _ (bJ (O _ d)) (RowIv.up (RowIv.be D d)) (NQ.up (NQ.be M d)) ae.up).mono ?_);rintro b3 am ⟨ck,rfl,a8,F,ad,I⟩;have X9:=Bx.grown J.up F a1;have Y9:=Bx.grown L.up F a2;have Z9:=Bx.grown Z.up F au;have bj:=r5 I a1 J.up.lt;have bk:=r5 I a2 L.up.lt;have bm:=r5 I au Z.up.lt;have a5:=NQ.ke ae.up ad;have a6:=NQ.ke (NQ.up (NQ.be E d)) ad;have GA:=pT (bJ d) F;have KA:=KM.trans (KM.be (bJ d)) ad;have OA:=OwnTo.less I (bJ d).size;have BA:=Below.grown (O _ (aG _ _)) GA an.size (fun k e=>(ao k e).1))
      |((with_reducible refine(i2 _ _ _ (bJ BA) a8.up a5.up a6.up).mono ?_);rintro b4 cn ⟨cl,rfl,a9,G,a4,a7⟩;have ba:=Bx.grown X9.up G bj;have bb:=Bx.grown Y9.up G bk;have bc:=Bx.grown Z9.up G bm;have GB:=DZ GA (pT (Up.out (a:=am)) G) OA;have KB:=KM.trans KA (KM.trans (KM.be (Up.out (a:=am))) a4);have OB:=OA.trans a7 (aH GA.size (Up.out (a:=am)).size))))
    all_goals (
     go_wp2;go_ret;exact⟨_,rfl,by rw[<-eK];exact a9,GB,KB,OB⟩)
   ·have q1:(N==1)=false:=by simpa using a0
    clear hZ a0 ak aj;go_wp2_with fail;refine(ai _ _ _ (NQ.up (NQ.be M o)) (NQ.up (NQ.be E o))).mono ?_;rintro b2 P ⟨cj,rfl,ae,bp⟩;have:=St.mk bp;obtain⟨s5,A5,k5,c5,s6,A6,k6,c6,rfl⟩:=ae.form;obtain⟨al,ap,bq,Z⟩:=bI P [.bool s5,.slice A5 k5 c5,.bool s6,.slice A6 k6 c6] 62;have:=St.mk bq;have J:=X6.up (b:=al);have L:=Y6.up (b:=al);have d:=bJ (b:=al) o;have bz:=aa J.k4 (aa L.k4 Z.k4);have au:vr.ownBlock≠some P.heap.size:=fun e=>by have:=(ao _ e).2;have:=(bJ (b:=P) o).size;omega
    go_wp2_with fail;(try rw[ap]);(try clear ap)
    go_region_held3 (fun w'=>C4 w' w.heap.size (.bool s1) (.slice Q k1 S) (.bool s2) (.slice R k2 T)∧C4 w' (w.heap.size+1) (.bool r) (.slice f p j) (.bool s) (.slice i q m)∧C4 w' P.heap.size (.bool s5) (.slice A5 k5 c5) (.bool s6) (.slice A6 k6 c6))
     (first|with_reducible exact⟨J.up.k4,L.up.k4,Z.up.k4⟩|with_reducible exact⟨X9.up.k4,Y9.up.k4,Z9.up.k4⟩|with_reducible exact⟨ba.up.k4,bb.up.k4,bc.up.k4⟩)
     (first
     |(go_at_call 51;first
      |((with_reducible refine(i1 _ _ (bJ (O _ d)) (RowIv.up (RowIv.be D d)) (NQ.up (NQ.be M d)) ae.up).mono ?_);rintro b3 am ⟨ck,rfl,a8,F,ad,I⟩;have X9:=Bx.grown J.up F a1;have Y9:=Bx.grown L.up F a2;have Z9:=Bx.grown Z.up F au;have bj:=r5 I a1 J.up.lt;have bk:=r5 I a2 L.up.lt;have bm:=r5 I au Z.up.lt;have a5:=NQ.ke ae.up ad;have a6:=NQ.ke (NQ.up (NQ.be E d)) ad;have GA:=pT (bJ d) F;have KA:=KM.trans (KM.be (bJ d)) ad;have OA:=OwnTo.less I (bJ d).size;have BA:=Below.grown (O _ (aG _ _)) GA an.size (fun k e=>(ao k e).1))
      |((with_reducible refine(i2 _ _ _ (bJ BA) a8.up a5.up a6.up).mono ?_);rintro b4 cn ⟨cl,rfl,a9,G,a4,a7⟩;have ba:=Bx.grown X9.up G bj;have bb:=Bx.grown Y9.up G bk;have bc:=Bx.grown Z9.up G bm;have GB:=DZ GA (pT (Up.out (a:=am)) G) OA;have KB:=KM.trans KA (KM.trans (KM.be (Up.out (a:=am))) a4);have OB:=OA.trans a7 (aH GA.size (Up.out (a:=am)).size))))
    all_goals (
     go_wp2;go_ret;exact⟨_,rfl,by rw[<-eK];exact a9,GB,KB,OB⟩)
def MC{a b:Rat}{l:List (Rat×Rat)}(h:ExQ K V sg a b l):RL K a->RL K b->uZ wb vp vl a b l:=by
 induction h with
 |none h=>exact fun c d=>vA hV hK2 hva hat hsg c d (.inl ⟨h,rfl⟩)
 |hit h e=>exact fun c d=>vA hV hK2 hva hat hsg c d (.inr (.inl ⟨h,e,rfl⟩))
 |one h e i=>exact fun c d=>vA hV hK2 hva hat hsg c d (.inr (.inr (.inl ⟨h,e,i,rfl⟩)))
 |split h g f _ _ j k=>exact fun c d=>vA hV hK2 hva hat hsg c d (.inr (.inr (.inr ⟨h,g,_,_,rfl,j c f,k f d⟩)))
end
def ay7(j:Nat):nl ((2:Int)^j).natAbs<=j/64+1:=by
 rw[Int.natAbs_pow]
 exact cJ (by
  have e:BN^(j/64+1)=2^(64*(j/64+1)):=by rw[Nat.pow_mul];rfl
  rw[e];exact Nat.pow_lt_pow_right (by decide) (by omega))
def uW{n:Int}{K:Nat}(h:nl n.natAbs<=K)(a:1<=K):RL K (n:Rat):=⟨by rw[Rat.num_intCast];exact h,by rw[Rat.den_intCast];exact aH (cJ (m:=1) (by unfold BN;decide)) a⟩
def LU(x y:Rat):(x-y).num.sign<0↔x<y:=by
 rcases iY (x-y) with h|h|h
 ·rw[(fS _).2 h];exact⟨fun _=>by grind,fun _=>by decide⟩
 ·rw[h];exact⟨fun k=>absurd k (by decide),fun k=>by grind⟩
 ·rw[(fS _).1 h];exact⟨fun k=>absurd k (by decide),fun k=>by grind⟩
def Bx.old{w w':World}{g B:Nat}{cs:List Value}{t:TypeId}(h:Bx w g cs t)(a:Below B w w')(b:g<B):Bx w' g cs t:=(a.block g b).trans h
def PoAt.upp{a b:World}[u:Up a b]{v:Value}{x:Rat}{n:Int}{z:Bool}(h:PoAt a v x n z):PoAt b v x n z:=h.ke (Keep.be u.out)
def DT(w:World)(P:List (Rat×Rat)->Prop)(e:Ending)(w':World):Prop:=∃a b l,e= .returned a∧P l∧RowSp w' b a l∧Below w.heap.size w w'
def ay8(s:List Int)(b:Rat)(n K:Nat)(P:List (Rat×Rat)->Prop)(v u:Value)(w:World)(Q:Glob w)(hv:WholeAt w v s)(hu:RatAt w u b)(ts:aN s)(h0:s≠[])(Y:Sz s)(am:Pw b n)(hn:n<=1000)(kb:RL 35080695 b)(av:35080695<=K)(aw:K<=1073741824)(D:Rat->Rat->Prop)(hA:uN K D)
  (al:∀c,StT 35080695 s (aS (bB s)) c->∃l,ExK K D (fun x=>aY 0 ((s :: c).map (fun a=>aP a 0 x))) (fun x=>aP s 0 x) (((-((2:Int)^n):Int)):Rat) ((((2:Int)^n:Int)):Rat) l∧l.length<=1048576∧P l):
  Calls prog 14 #[v,u] w (DT w P):=by
 obtain⟨A,c,rfl,hc⟩:=hv.form;obtain⟨s1,H,Z,J,s2,I,k2,L,rfl⟩:=hu.form;have ad:=fun W Q h=>KE s (.slice A s.length c) W Q h ts h0 Y;have td:=gV (lE ts);have kd:∀n∈aS (bB s),nl n.natAbs<=35080695:=fun n hn=>by
  obtain⟨K,hK,av,aw, -⟩:=Y.ex;exact aH (gU (pL hK (by have:=Y.1;omega)) n hn) (by omega)
 have ld:(aS (bB s)).length=s.length-1:=by rw[dF,lZ]
 have ak:∀c,StT 35080695 s (aS (bB s)) c->(s :: c).length<=8∧∀a∈s :: c,a≠[]∧a.length<=65∧∀n∈a,nl n.natAbs<=35080695:=fun c h=>by
  have B:=h.len;have h7:=Y.1;refine⟨by rw[eG];omega,fun a ha=> ?_⟩;rcases List.mem_cons.1 ha with rfl|ha
  ·exact⟨h0,by omega,fun n hn=>aH (Y.nums n hn) (by omega)⟩
  ·obtain⟨e1,M,e3,e4⟩:=h.mem td kd a ha;exact⟨e1,by omega,e4⟩
 unfold y6 at ad;unfold DT;clear td kd ld;obtain⟨W,eW,d,X⟩:=bI w [.bool s1,.slice H Z J,.bool s2,.slice I k2 L] 47;have cM:=X.g4;go_enter func14,ntmps14;go_wp2_with fail;(try rw[eW]);clear eW;refine(lL 1 _ (by decide) (by decide)).mono ?_;rintro e1 w1 ⟨v1,rfl,B,af⟩;obtain⟨m,f,i,g,rfl⟩:=B.form;obtain⟨w2,M,ax,G⟩:=bI w1 [.bool m,.slice f i g] 40;have p:=aC af ax;have bv:=X.lt;have bw:=af.size;have bx:w.heap.size<w1.heap.size:=by omega
 replace X:=X.be p;replace d:=aC d p;have au:IntBx w2 w1.heap.size ((2:Int)^0):=⟨_,_,_,_,G,B.be ax⟩;clear G B;go_wp2_with fail;(try rw[M]);(try clear M);generalize w1.heap.size=O at *;go_loopg [] n (fun k wr=>∃j,Hid (j+k=n)∧IntBx wr O ((2:Int)^j)∧Bx wr w.heap.size [.bool s1,.slice H Z J,.bool s2,.slice I k2 L] 47∧Below w.heap.size w wr)
 case atStart=>exact⟨0,by unfold Hid;omega,au,X,d⟩
 case round=>
  clear au X d;obtain⟨j,HJ,⟨m,f,i,g,G,V⟩,X,d⟩:=hrel;generalize wr=wy at *;have bz:j<=n:=by have:=HJ.out;omega
  have kp:nl ((2:Int)^j).natAbs<=20:=aH (ay7 j) (by omega);have U:=fun W v h h'=>BY (((2:Int)^j:Int):Rat) b v (.agg #[.bool s1,.slice H Z J,.bool s2,.slice I k2 L]) W h h' 35080695 (uW (aH kp (by decide)) (by decide)) kb (by decide);have ae:=fun W h=>BZ ((2:Int)^j) (.agg #[.bool m,.slice f i g]) W h;obtain⟨S,hS⟩:∃S,((((2:Int)^j:Int):Rat)-b).num.sign=S:=⟨_,rfl⟩;have R:=LU (((2:Int)^j:Int):Rat) b;rw[hS] at R U;unfold eO at U;unfold iF at ae;have aj:=hu.be d;have bu:=Q.be d;have b3:=hv.be d;have:=d;cases gk with
  |succ k=>
   have b1:S<0:=R.2 (am.2 j (by have:=HJ.out;omega));clear R hS ad al ak;have an:∀W,IntAt W (.agg #[.bool m,.slice f i g]) ((2:Int)^j)->Calls prog 29 #[.agg #[.bool m,.slice f i g],.int .u64 1] W (dW W ((2:Int)^j*2^1)):=fun W h=>YZ ((2:Int)^j) 1 (.agg #[.bool m,.slice f i g]) W h (by decide) (by omega);have M:(2:Int)^j*2^1=2^(j+1):=by rw[gR];rfl
   rw[M] at an;unfold dW at an;go_wp2_with fail
   go_region_held3 (fun t=>C2 t O (.bool m) (.slice f i g)∧C4 t w.heap.size (.bool s1) (.slice H Z J) (.bool s2) (.slice I k2 L)) (with_reducible exact⟨G.up.k2,X.up.k4⟩)
    (first
     |(go_at_call 27;refine(ae _ V.up).mono ?_;rintro e4 w4 ⟨v4,rfl,h4,ag⟩;have:=St.mk ag)
     |(go_at_call 28;refine(U _ _ h4.up aj.up).mono ?_;rintro e5 o ⟨rfl,ah⟩;have:=St.mk ah))
   all_goals (
    have y:=G.up (b:=o);have X5:=X.up (b:=o);have a6:=aa y.g2 X5.k4;have q:=bJ (b:=o) d;go_wp2_with fail;refine(an _ (V.up (b:=o))).mono ?_;rintro e6 e ⟨v6,rfl,C,r⟩;obtain⟨s6,A6,k6,c6,rfl⟩:=C.form;have z:=y.be r;have X6:=X5.be r;have bp:=aa z.g2 X6.k4;have T:=aC q r;go_wp2_with fail;obtain⟨W7,N,G7,ai,hk,ff⟩:=z.put2 T (by omega) (.bool s6) (.slice A6 k6 c6) rfl rfl;rw[N];clear N;go_roundg k
    case rel=>exact⟨j+1,by have:=HJ.out;unfold Hid;omega,⟨_,_,_,_,G7,C.ke hk⟩,ff X6 (by omega),ai⟩
    case measure=>omega)
  |zero=>
   obtain rfl:j=n:=HJ.out;have b2:¬S<0:=fun h=>by have:=R.1 h;have:=am.1;grind
   clear R hS;go_wp2_with fail
   go_region_held3 (fun t=>C2 t O (.bool m) (.slice f i g)∧C4 t w.heap.size (.bool s1) (.slice H Z J) (.bool s2) (.slice I k2 L)) (with_reducible exact⟨G.up.k2,X.up.k4⟩)
    (first
     |(go_at_call 27;refine(ae _ V.up).mono ?_;rintro e4 w4 ⟨v4,rfl,h4,ag⟩;have:=St.mk ag)
     |(go_at_call 28;refine(U _ _ h4.up aj.up).mono ?_;rintro e5 o ⟨rfl,ah⟩;have:=St.mk ah))
   all_goals (
    have y:=G.up (b:=o);have q:=bJ (b:=o) d;have a6:=y.k2;have ay:=V.up (b:=o);clear ae U G X V aj;go_wp2_with fail;refine(ad _ (Q.be q) (hv.be q)).mono ?_;rintro e6 e ⟨v6,c,rfl,C,hT,r⟩;have z:=y.be r;have az:=ay.be r;have T:=aC q r;obtain⟨b0,E⟩:=ak c hT;obtain⟨l,a3,hl,hP⟩:=al c hT;have aq:=aB a3;have HP:=aB hP;replace E:=fun a h=>(⟨(E a h).1,(E a h).2.1,fun n hn=>aH ((E a h).2.2 n hn) av⟩:a≠[]∧a.length<=65∧∀n∈a,nl n.natAbs<=K);clear a3 hP;obtain⟨Ac,cc,rfl, -⟩:=C.form;clear ad al ak hT;have bj:O<e.heap.size:=z.lt;have a0:=fun W h=>sQ ((2:Int)^j) (.agg #[.bool m,.slice f i g]) W h (aH kp (by decide));have a1:=fun W v h=>BZ (-((2:Int)^j)) v W h;have a2:=fun W h=>BZ ((2:Int)^j) (.agg #[.bool m,.slice f i g]) W h;have kn:RL K ((-((2:Int)^j):Int):Rat):=uW (by rw[Int.natAbs_neg];exact aH kp (by omega)) (by omega);have kq:RL K (((2:Int)^j:Int):Rat):=uW (aH kp (by omega)) (by omega);have ac:=fun (x:Rat) (W:World) (vr F:Value) (P:Bx W e.heap.size [.slice Ac (s :: c).length cc,vr] 81) (d:Below e.heap.size e W) (h:RatAt W F x) (hk:RL K x)=>ax1 s c o.heap.size e.heap.size x (.slice Ac (s :: c).length cc) vr F W P (C.be d) h (by omega) K E hk (by omega);have hV:∀x:Rat,aY 0 ((s :: c).map (fun a=>aP a 0 x))<=1024:=fun x=>by have:=qR ((s :: c).map (fun a=>aP a 0 x)) 0;rw[cH] at this;omega
    have ao:=fun va vb W P p hR B h2=>ZR (wb:=e) (vc:= .slice Ac (s :: c).length cc) (Q.be T) hA hV (by omega) aw ac aq.out kn kq [] (.slice none 0 0) va vb W P p hR B h2 (by rw[List.length_nil];omega);have ba:=fun W F P p h=>ac ((-((2:Int)^j):Int):Rat) W (.slice none 0 0) F P p h kn;have bb:=fun W F P p h=>ac (((2:Int)^j:Int):Rat) W (.slice none 0 0) F P p h kq;rw[iM] at ao;unfold yC at ao;unfold dW at a0;unfold iF at a1 a2;clear ac aq hV E kb am kn kq C y ay;generalize (s :: c).length=nc at *;generalize aY 0 ((s :: c).map (fun a=>aP a 0 ((-((2:Int)^j):Int):Rat)))=Vn at *;generalize aY 0 ((s :: c).map (fun a=>aP a 0 (((2:Int)^j:Int):Rat)))=Vp at *;generalize decide (aP s 0 ((-((2:Int)^j):Int):Rat)=0)=Zn at *;generalize decide (aP s 0 (((2:Int)^j:Int):Rat)=0)=Zp at *;generalize ((-((2:Int)^j):Int):Rat)=xn at *;generalize (((2:Int)^j:Int):Rat)=xp at *;generalize (-((2:Int)^j))=pn at *;go_wp2_with fail;obtain⟨w7,N,ai,P⟩:=bI e [.slice Ac nc cc,.slice none 0 0] 81;rw[N];clear N;have:=St.mk ai;have cP:=P.g2
    go_region_held3 (fun t=>C2 t O (.bool m) (.slice f i g)) (first|(with_reducible exact z.up.k2)|(with_reducible exact G9.k2))
     (first
      |(go_at_call 33;refine(a0 _ az.up).mono ?_;rintro e8 w8 ⟨v8,rfl,h8,bh⟩;have:=St.mk bh)
      |(go_at_call 27;first|(with_reducible refine(a2 _ az.up).mono ?_;rintro e9 w9 ⟨v9,rfl,h9,bi⟩;have:=St.mk bi)|(with_reducible refine(a1 _ _ h8.up).mono ?_;rintro bq b8 ⟨b4,rfl,a7,bc⟩;have:=St.mk bc))
      |(go_at_call 32;first|(with_reducible refine(bb _ _ P.up (Up.out (a:=e)) h9.up).mono ?_;rintro br b9 ⟨b5,rfl,a8,bf⟩;have:=St.mk bf)|(with_reducible refine(ba _ _ P.up (Up.out (a:=e)) a7.up).mono ?_;rintro bs ca ⟨b6,rfl,a9,bg⟩;have:=St.mk bg))
      |(go_at_call 31;refine(ao _ _ _ P.up (Up.out (a:=e)) (RowSp.nil _ _) (a9.upp) (a8.upp)).mono ?_;rintro bt cb ⟨b7,rfl,a5,ar,ap,bm⟩;have G9:=Bx.old z.up ap.be bj;have a4:=(Up.out (a:=e)).trans ap.be;have bn:=a5.k2;obtain⟨bk,bo,rfl, -⟩:=ar.form))
    all_goals (
     go_wp2;go_ret;exact⟨_,_,l,rfl,HP.out,ar,aC T a4⟩))
def jG(p:List UInt8×List UInt8):List Value:=[.string ⟨p.1.toArray⟩,.string ⟨p.2.toArray⟩]
def IvsAt(w:World)(v:Value)(l:List (List UInt8×List UInt8)):Prop:=∃A c,v= .slice A l.length c∧l.length<=c∧(l=[]∨∃b,A=some ⟨b,0,none⟩∧b<w.heap.size∧∀(i:Nat) (p:List UInt8×List UInt8),l[i]? =some p->w.cell? ⟨b,i*2,none⟩=some (.string ⟨p.1.toArray⟩)∧w.cell? ⟨b,i*2+1,none⟩=some (.string ⟨p.2.toArray⟩))
def IvsAt.be{w w':World}{v:Value}{l:List (List UInt8×List UInt8)}(h:IvsAt w v l)(a:Below w.heap.size w w'):IvsAt w' v l:=by
 obtain⟨A,c,hv,g,h⟩:=h;refine⟨A,c,hv,g,?_⟩;rcases h with h|⟨b,e,d,f⟩
 ·exact .inl h
 ·exact .inr ⟨b,e,aZ d a.size,fun i p h=>⟨(a.cell (p:=⟨b,i*2,none⟩) d).trans (f i p h).1,(a.cell (p:=⟨b,i*2+1,none⟩) d).trans (f i p h).2⟩⟩
def IvsAt.form{w:World}{v:Value}{l:List (List UInt8×List UInt8)}(h:IvsAt w v l):∃A c,v= .slice A l.length c∧l.length<=c:=by
 obtain⟨A,c,hv,a,_⟩:=h;exact⟨A,c,hv,a⟩
def IvsAt.at_{w:World}{A:Option Addr}{n c:Nat}{l:List (List UInt8×List UInt8)}(h:IvsAt w (.slice A n c) l){i:Nat}{p:List UInt8×List UInt8}(hi:l[i]? =some p):∃b,A=some ⟨b,0,none⟩∧b<w.heap.size∧w.cell? ⟨b,i*2,none⟩=some (.string ⟨p.1.toArray⟩)∧w.cell? ⟨b,i*2+1,none⟩=some (.string ⟨p.2.toArray⟩):=by
 obtain⟨f,g,e,j,h⟩:=h;simp only[Value.slice.injEq] at e;obtain⟨rfl,rfl,rfl⟩:=e;rcases h with rfl|⟨b,e,d,a⟩
 ·simp at hi
 ·exact⟨b,e,d,(a i p hi).1,(a i p hi).2⟩
def GrowD.ivs{w:World}{g:Nat}{v:Value}{l:List (List UInt8×List UInt8)}(h:GrowD w g 24 2 v (l.map jG)):IvsAt w v l:=by
 obtain⟨A,c,rfl,d⟩:=h.form;rw[cH] at d;refine⟨A,c,by rw[cH],d,?_⟩;cases l with
 |nil=>exact .inl rfl
 |cons m l=>
  obtain⟨b,e, -,k, -⟩:=h.at_ (i:=0) (r:=jG m) rfl;refine .inr ⟨b,e,k,fun i p j=> ?_⟩;obtain⟨n,a, -, -,f⟩:=h.at_ (i:=i) (r:=jG p) (by rw[iK,j];rfl);rw[e] at a;simp only[Option.some.injEq,Addr.mk.injEq] at a;obtain⟨rfl,_⟩:=a;exact⟨f 0 _ rfl,f 1 _ rfl⟩
def IvsAt.built(w:World)(l:List (List UInt8×List UInt8))(t:TypeId):IvsAt (w.alloc (.cells (l.map jG).flatten.toArray t)) (.slice (some ⟨w.heap.size,0,none⟩) l.length l.length) l:=by
 refine⟨_,_,rfl,aE,.inr ⟨w.heap.size,rfl,by simp,fun i p e=> ?_⟩⟩;have B:=Bx.new w (l.map jG).flatten t;have b:∀r∈l.map jG,r.length=2:=fun r a=>by
  obtain⟨q, -,rfl⟩:=List.mem_map.1 a;rfl
 have a:(l.map jG)[i]? =some (jG p):=by rw[iK,e];rfl
 have c:=mW b a (j:=0) (by decide);have d:=mW b a (j:=1) (by decide);exact⟨B.cell (i*2) c,B.cell (i*2+1) d⟩
def LP(a:List (List UInt8×List UInt8))(l m:Value)(w:World)(g:IvsAt w l a)(h:IvsAt w m a)(F:a.length<=1073741824):
  Calls prog 9 #[l,m] w fun e w'=>e= .returned (.bool true)∧Below w.heap.size w w':=by
 obtain⟨A,c,rfl,B⟩:=g.form;obtain⟨r,u,rfl,C⟩:=h.form;go_enter func9,ntmps9;go_wp2_with fail;go_loopg [5] a.length (fun k i wr=>∃j,Hid (j+k=a.length)∧i= .int .i64 j∧Below w.heap.size w wr)
 case atStart=>exact⟨0,by unfold Hid;omega,rfl,aG _ _⟩
 case round=>
  obtain⟨j,d,rfl,b⟩:=hrel;generalize wr=K at *;have D:(0:Int)<=(j:Int):=by omega
  cases gk with
  |zero=>
   have o:j=a.length:=d.out;subst o;go_wp2;go_ret;exact⟨rfl,b⟩
  |succ k=>
   have q:j<a.length:=by have:=d.out;omega
   have E:(j:Int)<(a.length:Int):=by omega
   obtain⟨p,f⟩:∃p,a[j]? =some p:=⟨_,aR q⟩;obtain⟨s,rfl,G,v,x⟩:=(g.be b).at_ f;obtain⟨t,rfl,H,y,z⟩:=(h.be b).at_ f;have n:=b.drew;generalize (⟨p.1.toArray⟩:ByteArray)=I at *;generalize (⟨p.2.toArray⟩:ByteArray)=J at *;clear f;go_wp2_with fail;go_region
   all_goals (
    go_wp2;go_roundg k
    case rel=>exact⟨j+1,by have:=d.out;unfold Hid;omega,by go_num,n⟩
    case measure=>omega)
def LQ:(Tryz.prog.info? 24).map (fun i=>(i.zero,i.size,i.bytes))=some (some (.agg #[.string ⟨#[]⟩,.string ⟨#[]⟩]),2,32):=by kernel_rfl
def LR(n:Nat):∀y∈Builtin.zeroCells (Value.agg #[.string ⟨#[]⟩,.string ⟨#[]⟩]).cells n,NoInt y:=fun y b=>by
 unfold Builtin.zeroCells at b;obtain⟨j,_,rfl⟩:=Array.mem_map.1 b;have a:(Value.agg #[.string ⟨#[]⟩,.string ⟨#[]⟩]).cells= #[Value.string ⟨#[]⟩,.string ⟨#[]⟩]:=rfl;rw[a];have a:(#[Value.string ⟨#[]⟩,.string ⟨#[]⟩]:Array Value).size=2:=rfl;rw[a];rcases(show j%2=0∨j%2=1 by omega) with h|h<;>rw[h]
 ·exact NoInt.string _
 ·exact NoInt.string _
def RowSp.get{w:World}{B:Nat}{A:Option Addr}{n c:Nat}{l:List (Rat×Rat)}(h:RowSp w B (.slice A n c) l){i:Nat}{p:Rat×Rat}(hi:l[i]? =some p):∃b v d r k x f s m y g t o z j u q,A=some ⟨b,0,none⟩∧b<w.heap.size∧
  (w.cell? ⟨b,i*8,none⟩=some (.bool v)∧w.cell? ⟨b,i*8+1,none⟩=some (.slice d r k)∧w.cell? ⟨b,i*8+2,none⟩=some (.bool x)∧w.cell? ⟨b,i*8+3,none⟩=some (.slice f s m)∧w.cell? ⟨b,i*8+4,none⟩=some (.bool y)∧w.cell? ⟨b,i*8+5,none⟩=some (.slice g t o)∧w.cell? ⟨b,i*8+6,none⟩=some (.bool z)∧w.cell? ⟨b,i*8+7,none⟩=some (.slice j u q))∧
  SpanAt w (.agg #[.bool v,.slice d r k,.bool x,.slice f s m,.bool y,.slice g t o,.bool z,.slice j u q]) p.1 p.2:=by
 obtain⟨I,D,E⟩:=h;obtain⟨v,d,r,k,x,f,s,m,y,g,t,o,z,j,u,q,e,G,H⟩:=E.2 i p hi;obtain⟨b,C, -,F,a⟩:=D.at_ e;exact⟨b,v,d,r,k,x,f,s,m,y,g,t,o,z,j,u,q,C,F,⟨a 0 _ rfl,a 1 _ rfl,a 2 _ rfl,a 3 _ rfl,a 4 _ rfl,a 5 _ rfl,a 6 _ rfl,a 7 _ rfl⟩,SpanAt.of G H⟩
def SpanAt.be{w w':World}{v:Value}{x y:Rat}(h:SpanAt w v x y)(a:Below w.heap.size w w'):SpanAt w' v x y:=by
 obtain⟨q,d,m,i,r,e,n,j,s,f,o,k,t,g,p,l,rfl,b,c⟩:=h;exact SpanAt.of (b.be a) (c.be a)
def kQ(p:Rat×Rat):List UInt8×List UInt8:=(cW p.1,cW p.2)
def LT(d:List (List UInt8))(n K:Nat)(P:List (Rat×Rat)->Prop)(v:Value)(w:World)(g:Glob w)(hv:StrsAt w v d)(hl:d.length<=7)(hs:∀l∈d,l.length<=6)(Z:vl d=true->d≠[]->Pw (jF (aU d)) n)(hn:n<=1000)(a7:35080695<=K)(an:K<=1073741824)(DA:Rat->Rat->Prop)(hA:uN K DA)(H:∀l,P l->l.length<=1048576∧∀p∈l,RL K p.1∧RL K p.2)
  (T:∀w s c,Prp (aU d) w->kL w s c->∃l,ExK K DA (fun x=>aY 0 ((s :: c).map (fun a=>aP a 0 x))) (fun x=>aP s 0 x) (((-((2:Int)^n):Int)):Rat) ((((2:Int)^n:Int)):Rat) l∧P l):
  Calls prog 7 #[v] w fun e w'=>∃v' l,e= .returned (.tuple #[v',.int .i64 (dM d)])∧(dM d=0->P l)∧(dM d≠0->l=[])∧IvsAt w' v' (l.map kQ)∧Below w.heap.size w w':=by
 obtain⟨A,c,rfl,hc⟩:=hv.form;have z:=fun W g h=>D5 d (.slice A d.length c) W g h hl hs;have ao:∀q∈aU d,RL 1 q:=pI (fun l hl=>aH (hs l hl) (by decide));have a0:(aU d).length=d.length:=cH _;have S:=uL d;unfold uK at z;obtain⟨E,hE⟩:∃E,dM d=E:=⟨_,rfl⟩;rw[hE] at z S⊢;clear hE;go_enter func7,ntmps7;go_wp2_with fail;refine(z _ g hv).mono ?_;rintro e1 w1 ⟨C,k1,G,bt,rfl,⟨s2,M,k2,N,rfl⟩,V,f⟩;obtain⟨w2,r,af,F⟩:=bI w1 [.bool s2,.slice M k2 N] 40;replace f:=aC f af;rcases S with ⟨rfl,ad,h0⟩|⟨rfl, -⟩|⟨rfl, -, -⟩;rotate_left
 ·skip;clear V z T H;go_wp2_with fail;(try rw[r]);(try clear r);go_ret2;exact⟨_,[],rfl,fun h=>absurd h (by decide),fun _=>rfl,⟨_,_,rfl,aE,.inl rfl⟩,f⟩
 ·skip;clear V z T H;go_wp2_with fail;(try rw[r]);(try clear r);go_ret2;exact⟨_,[],rfl,fun h=>absurd h (by decide),fun _=>rfl,⟨_,_,rfl,aE,.inl rfl⟩,f⟩
 replace Z:=Z ad h0;obtain⟨D, -, -,I,m, -⟩:=V rfl;replace m:=m.be af;have ay:(cC (aU d) D).length=d.length:=by rw[oN,a0]
 have U:cC (aU d) D≠[]:=fun e=>h0 (bX (by rw[<-ay,e];rfl));have ac:=oO I.pos I.dvd (pJ ad).2.2;have J:=sA _ D 1 _ ao I.nl_;have aj:=uE I (pJ ad).2.2;have az:=nM aj;have av:=KW aj ac U;have al:=(IY J (by decide)).1;have a3:=gU J;have a4:(aS (cC (aU d) D)).length<=7:=by rw[dF];omega
 obtain⟨A8,c8,e8, -⟩:=m.form;simp only[Value.slice.injEq] at e8;obtain⟨rfl,rfl,rfl⟩:=e8;have a1:=fun W g h=>CZ (cC (aU d) D) (.slice C (cC (aU d) D).length G) W g h ac U (by omega) J;have Q:=fun W g h=>UK (cC (aU d) D) (.slice C (cC (aU d) D).length G) W g h U ac 9 J (by omega) (by decide) (by decide);rw[av] at Q al
 have ah:=fun s u u' W g h h' (o:Sqp 24057 (aS (cC (aU d) D)) s) (L:Sz s)=>ay8 s (jF (aU d)) n K P u u' W g h h' o.ts o.ne L Z hn (bU al (by decide)) a7 an DA hA (fun c hc=>by
  obtain⟨l,h1,h2⟩:=T _ s c az ⟨⟨o.mono (by decide),hc⟩,o,L,a4,a3⟩;exact⟨l,h1,(H l h2).1,h2⟩)
 unfold iF at Q;unfold DT at ah;clear z V I ay U ac J aj az av al T Z ao a0 h0 ad F af a3 a4;generalize cC (aU d) D=ns at *;generalize jF (aU d)=bq at *;go_wp2_with fail;(try rw[r]);(try clear r);refine(a1 _ (g.be f) m).mono ?_;rintro e3 w3 ⟨v3,s,rfl,O,o,L,ap⟩;replace m:=m.be ap;replace f:=aC f ap;have ax:=fun u' W g h h'=>ah s v3 u' W g h h' o L;clear ah a1;go_wp2_with fail;refine(Q _ (g.be f) m).mono ?_;rintro e4 w4 ⟨v4,rfl,h4,aq⟩;replace O:=O.be aq;replace f:=aC f aq;go_wp2_with fail;refine(ax _ _ (g.be f) O h4).mono ?_;rintro e5 w5 ⟨v5,bi,l,rfl,ae,h5,a8⟩;obtain⟨br,bc⟩:=H l ae;have a5:=aB ae;clear ae H;replace f:=aC f a8;obtain⟨A5,c5,rfl,bm⟩:=h5.form;clear ax Q o L O h4 m;go_wp2_with fail;go_loopg [7,25] l.length (fun k vf i wr=>∃j,Hid (j+k=l.length)∧i= .int .i64 j∧GrowD wr w5.heap.size 24 2 vf (((l.take j).map kQ).map jG)∧Below w5.heap.size w5 wr)
 case atStart=>exact⟨0,by unfold Hid;omega,rfl,GrowD.nil,aG _ _⟩
 case round=>
  obtain⟨j,HJ,rfl,y,B⟩:=hrel;generalize wr=wy at *;have bn:(0:Int)<=(j:Int):=by omega
  have au:=aC f B;obtain⟨Af,nf,bj,rfl⟩:=y.form3;cases gk with
  |zero=>
   have hj:j=l.length:=HJ.out;subst hj;rw[List.take_length] at y;have hI:=y.ivs;clear y;go_wp2;go_ret2;exact⟨_,rfl,l,a5.out,hI,au⟩
  |succ k=>
   have bb:j<l.length:=by have:=HJ.out;omega
   have bo:(j:Int)<(l.length:Int):=by omega
   obtain⟨p,Y⟩:∃p,l[j]? =some p:=⟨_,aR bb⟩;obtain⟨b,s1,C,k1,G,s2,M,k2,N,s3,A3,k3,c3,s4,A4,k4,c4,rfl,bk,S,bg⟩:=(h5.be B).get Y;have ai:=bc p (dG Y);have a2:=fun W g h=>ZX p.1 p.2 (.agg #[.bool s1,.slice C k1 G,.bool s2,.slice M k2 N,.bool s3,.slice A3 k3 c3,.bool s4,.slice A4 k4 c4]) W g h K ai.1 ai.2 an;have a6:Hid (((l.take (j+1)).map kQ).map jG=((l.take j).map kQ).map jG++[[.string ⟨(cW p.1).toArray⟩,.string ⟨(cW p.2).toArray⟩]]):=by
    unfold Hid;rw[kR,Y,Option.toList_some,List.map_append,List.map_append];rfl
   have a9:(((l.take j).map kQ).map jG).length<=1073741824:=by rw[cH,cH,bK];omega
   generalize ((l.take j).map kQ).map jG=R at *;generalize (⟨(cW p.1).toArray⟩:ByteArray)=tx at *;generalize (⟨(cW p.2).toArray⟩:ByteArray)=ty at *;clear Y ai;obtain⟨w6,e6,t,X⟩:=bI wy [.bool s1,.slice C k1 G,.bool s2,.slice M k2 N,.bool s3,.slice A3 k3 c3,.bool s4,.slice A4 k4 c4] 50;have cX:=X.k8;go_wp2_with fail;(try rw[e6]);(try clear e6);refine(a2 _ ((g.be au).be t) (bg.be t)).mono ?_;rintro e7 w7 ⟨rfl,ag⟩;have ar:Below w7.heap.size w7 (w7.alloc (.cells #[.string tx,.string ty] 24)):=(aG _ _).alloc aE _;have aw:=((y.be t).be ag).be ar;have ak:=((aC B t).trans (ag.mono (aH B.size t.size))).trans (ar.mono (aH B.size (aH t.size ag.size)));have XB:=Bx.new w7 [.string tx,.string ty] 24;have bf:∀u∈[Value.string tx,.string ty],NoInt u∧u.oneCell'=true:=fun u hu=>by
    simp at hu;rcases hu with rfl|rfl
    ·exact⟨NoInt.string _,rfl⟩
    ·exact⟨NoInt.string _,rfl⟩
   clear y a2 X cX S;go_wp2_with (at_builtin;refine yE rfl rfl 24 2 32 _ underlying28 LQ rfl LR (by decide) (by decide) rfl aw rfl XB rfl bf a9 ak.size ?_;intro v8 w8 am bp ba bs);have bh:=ak.trans (aw.left ba ak.size);rw[<-a6.out] at am;go_roundg k
   case rel=>exact⟨j+1,by have:=HJ.out;unfold Hid;omega,by go_num,am,bh⟩
   case measure=>omega
def yP{n:Nat}(h:n<=330):RL 10 (p2 n):=by
 have a:nl ((2:Int)^n).natAbs<=7:=DE (k:=6) (m:=n) (by omega) (by rw[DF];exact aE);exact E5 (aH a (by decide)) (by decide)
def DX{A:List Rat}{x:Rat}{K:Nat}(a:∀q∈A,RL K q)(c:RL K x)(b:A.length<=7):nl (aI A x).num.natAbs<=14*K+8:=by
 have d:=(CJ a c).1;have:=dK (2*K+1) b;omega
def DY{n K:Nat}(a:n<=7)(b:K<=1000000000):2*(1+n*(2*K+1)+K)+1<=549755813888:=by
 have:=dK (2*K+1) a;omega
def M7{B k:Nat}(e:(Value.slice none 0 0).ownBlock=some k):B<=k:=by simp[Value.ownBlock] at e
def M8{g:Nat}:(Value.slice none 0 0).ownBlock≠some g:=by simp[Value.ownBlock]
def M9(j:Nat):p2 j*2=p2 (j+1):=by rw[jQ,uP]
def yQ(w:World)(l:List (Rat×Rat))(e:Ending)(w':World):Prop:=∃a b,e= .returned a∧RowIv w' b a l∧Below w.heap.size w w'
def MA(A:List Rat)(w0 s:List Int)(c:List (List Int))(n:Nat)(l:List (Rat×Rat))(v:Value)(w:World)(hv:QsAt w v A)(pA:Prp A w0)(J:kL w0 s c)(o:∀q∈A,RL 1 q)(hl:A.length<=7)(a1:cf A (A.length-1)≠0)(ao:Pw (jF A) n)(hn:n<=330)
  (hx:ExQ 1000000000 (fun x=>aY 0 ((s :: c).map (fun a=>aP a 0 x))) (fun x=>aP s 0 x) (((-((2:Int)^n):Int)):Rat) ((((2:Int)^n:Int)):Rat) l)(br:l.length<=8):
  Calls prog 19 #[v] w (yQ w l):=by
 obtain⟨t,H,rfl,bo⟩:=hv.form;have ap:=fun W h=>E8 A w0 s (.slice t A.length H) W h pA J.2.1 o hl J.2.2.2.2;obtain⟨a,b,fa,fb,C,hT,ea,eb,p,bp,a2⟩:=E6 J;have aq:=fun W v h=>E9 (cE s) hT ea eb v W h 250000000 (fun X I=>(p X I).2.2) (by decide) (p _ iC).2.1 aE;have ah:=hx.congr (V':=fun x=>aY 0 ((cE s :: C).map (fun A=>eT A 0 x))) (s':=fun x=>(aI A x).num.sign) (fun x y=>a2 0 x 0 y) (fun x=>sG pA J.2.1 x);have a6:=fun B (bl:Bool) (x:Rat) v u W h i (d:RL 1000000000 x)=>E7 (cE s :: C) B false bl x v u W h i (by rw[eG];omega) 1000000000 (fun X I=>⟨(p X I).1,by have:=(p X I).2.1;omega,fun q K=>bU ((p X I).2.2 q K) (by decide)⟩) d (by decide) (by decide);have a7:∀B (bl:Bool) (x:Rat) v u W,QQs W B 52 v (cE s :: C)->REnd W u false x->RL 1000000000 x->Calls prog 103 #[v,u,.bool bl] W (eO W (aY 0 ((cE s :: C).map (fun A=>eT A 0 x)):Nat)):=a6;have az:=fun x u W h i (d:RL 1000000000 x)=>CD A x (.slice t A.length H) u W h i 1000000000 (fun q K=>bU (o q K) (by decide)) d (by omega) (DY hl aE);have a4:=fun (x:Rat) (W:World) (u:Value) (h:NQ W u (aI A x)) (d:RL 1000000000 x)=>oC (aI A x) u W h (aH (DX (fun q K=>bU (o q K) (by decide)) d hl) (by decide));have ay:∀x,aY 0 ((cE s :: C).map (fun A=>eT A 0 x))<=1024:=fun x=>by
  have:=qR ((cE s :: C).map (fun A=>eT A 0 x)) 0;rw[cH,eG] at this;omega
 have V:=yP hn;have e1:(((-((2:Int)^n):Int)):Rat)= -p2 n:=by rw[Rat.intCast_neg];rfl
 have e2:(((((2:Int)^n:Int)):Rat))=p2 n:=rfl;rw[e1,e2] at ah;have bk:=o;have aj:=fun W h=>ZQ A (.slice t A.length H) W h a1 1 o (by omega) (by decide) (by decide);have a8:RL 5 (jF A):=bU (L4 o (by decide)) (by decide);have an:∀W,Calls prog 47 #[.int .i64 1] W (eS W 1):=fun W=>r7 1 W (by decide);have ar:∀W,Calls prog 47 #[.int .i64 2] W (eS W 2):=fun W=>r7 2 W (by decide);have ag:=fun j (hj:j<=n) W u v h i=>yS (p2 j) (jF A) u v W h i 10 (yP (by omega)) (bU a8 (by decide)) (by decide);have al:=fun j (hj:j<=n) W u v h i=>sL (p2 j) 2 u v W h i 10 (yP (by omega)) (bU (show RL 1 (2:Rat) from az3 (n:=2) (by decide)) (by decide)) (by decide);have am:=fun W u h=>yW (p2 n) u W h (by have:=V.1;omega);have a3:∀j,j<=n->(((p2 j-jF A).num.sign<0)↔j<n):=fun j hj=>by
  rw[LU];refine⟨fun h=> ?_,fun h=>ao.2 j h⟩;rcases dE j n with f|f
  ·exact f
  ·obtain rfl:j=n:=by omega
   have:=ao.1;exact absurd h (by show¬p2 j<jF A;have:jF A<=p2 j:=this;grind)
 have au:∀W M B Y Z,QQs W B 52 M (cE s :: C)->QsAt W (.slice t A.length H) A->NQ W Y (-p2 n)->NQ W Z (p2 n)->Calls prog 51 #[.slice t A.length H,M,Y,Z,.slice none 0 0] W (uY W W (.slice none 0 0) l):=fun W M B Y Z h6 hA f m=>
  MC (er:=fun x=>aI A x) (wb:=W) ay aE (fun x bl E u g h d=>a7 B bl x M u E (QQs.be h6 g) h d) (fun x E u g h d=>az x u E (hA.be g) h d) (fun x E u h d=>a4 x E u h d) ah (C7 (bU V (by decide))) (bU V (by decide)) [] _ Y Z W (aG _ _) (RowIv.nil _ _) f m (by rw[List.length_nil];omega)
 unfold lT at ap;unfold vC at aq;unfold eS at aj an ar al am;unfold eO at ag;unfold yQ;unfold uY at au;clear a2 p hT ea eb pA J o bk hx a6 a7 az a4 ao a8 a1 ah ay V e1 e2;generalize jF A=bq at *;go_enter func19,ntmps19;go_wp2_with fail;refine(an _).mono ?_;rintro e1 w1 ⟨v1,rfl,f,Q⟩;obtain⟨s1,A1,bi,c1,s2,A2,bj,c2,rfl⟩:=f.form;go_wp2_with fail;refine(aj _ (hv.be Q)).mono ?_;rintro e2 w2 ⟨v2,rfl,m,ac⟩;obtain⟨s3,A3,k3,c3,s4,A4,k4,c4,rfl⟩:=m.form;obtain⟨W,eW,T,G,F⟩:=eL w2 [.bool s1,.slice A1 bi c1,.bool s2,.slice A2 bj c2] 62 [.bool s3,.slice A3 k3 c3,.bool s4,.slice A4 k4 c4] 62;have R:=aC Q ac;have g:=aC R T;have hg:=R.size;replace f:=(f.be ac).be T;replace m:=m.be T;have aw:QVar W w2.heap.size (p2 0):=⟨_,_,_,_,_,_,_,_,G,by rw[DG];exact f⟩;have av:QVar W (w2.heap.size+1) bq:=⟨_,_,_,_,_,_,_,_,F,m⟩;clear Q ac T R f m an aj G F;go_wp2_with fail;(try rw[eW]);(try clear eW);generalize w2.heap.size=g3 at *;go_loopg [] n (fun k wr=>∃j,Hid (j+k=n)∧QVar wr g3 (p2 j)∧QVar wr (g3+1) bq∧Below w.heap.size w wr)
 case atStart=>exact⟨0,by unfold Hid;omega,aw,av,g⟩
 case round=>
  clear aw av g;obtain⟨j,O,⟨s1,A1,k1,c1,s2,A2,k2,c2,G,P⟩,⟨s3,A3,k3,c3,s4,A4,k4,c4,F,hF⟩,g⟩:=hrel;generalize wr=wy at *;have ai:j<=n:=by have:=O.out;omega
  have U:=ag j ai;have ak:=al j ai;have L:=a3 j ai;rw[M9] at ak;obtain⟨S,hS⟩:∃S,(p2 j-bq).num.sign=S:=⟨_,rfl⟩;rw[hS] at U L;have cG:=aa G.g4 F.g4;clear ag al a3 hS;cases gk with
  |succ k=>
   have bs:S<0:=L.2 (by have:=O.out;omega);clear L ap aq am au;go_wp2_with fail;refine(U _ _ _ P hF).mono ?_;rintro e5 r ⟨rfl,ad⟩;have:=St.mk ad;have z:=G.up (b:=r);have bc:=z.g4;go_wp2_with fail
   go_region_with (first
    |(go_at_call 47;refine(ar _).mono ?_;rintro e7 w7 ⟨v7,rfl,h7,af⟩;have:=St.mk af;have bm:=(G.up (b:=w7)).g4)
    |(go_at_call 50;refine(ak _ _ _ P.up h7.up).mono ?_;rintro e9 N ⟨v9,rfl,h9,bh⟩;obtain⟨s9,A9,k9,c9,s0,a9,k0,bb,rfl⟩:=h9.form;have:=St.mk bh;have D:=G.up (b:=N);have F9:=F.up (b:=N);have bn:=D.g4;have bf:=hF.up (b:=N)))
   all_goals (
    go_wp2_with fail;obtain⟨W6,e6,G6,ae,hk,ff⟩:=D.mut4 (bJ (b:=N) g) (by omega) (.bool s9) (.slice A9 k9 c9) (.bool s0) (.slice a9 k0 bb) rfl rfl;rw[e6];clear e6;go_roundg k
    case rel=>exact⟨j+1,by have:=O.out;unfold Hid;omega,⟨_,_,_,_,_,_,_,_,G6,h9.ke hk⟩,⟨_,_,_,_,_,_,_,_,ff F9 (by omega),bf.ke hk⟩,ae⟩
    case measure=>omega)
  |zero=>
   obtain rfl:j=n:=O.out;have bt:¬S<0:=fun h=>by have:=L.1 h;omega
   clear L ak ar;go_wp2_with fail;refine(U _ _ _ P hF).mono ?_;rintro e5 r ⟨rfl,ad⟩;have:=St.mk ad;have z:=G.up (b:=r);have bc:=z.k4;have a5:=hv.be (bJ (b:=r) g);have a0:=bJ (b:=r) g;have ax:=P.up (b:=r);clear U F hF cG;go_wp2_with fail
   go_region_held3 (fun w'=>C4 w' g3 (.bool s1) (.slice A1 k1 c1) (.bool s2) (.slice A2 k2 c2)) (first|with_reducible exact z.up.k4|with_reducible exact ba.k4)
    (first
     |(go_at_call 53;refine(ap _ a5.up).mono ?_;rintro e6 w6 ⟨M,rfl,h6,ae⟩;have:=St.mk ae)
     |(go_at_call 52;refine(aq _ _ h6.up).mono ?_;rintro e7 w7 ⟨v7,rfl,h7,af⟩;have:=St.mk af)
     |(go_at_call 54;refine(am _ _ ax.up).mono ?_;rintro e8 w8 ⟨v8,rfl,h8,bg⟩;have:=St.mk bg)
     |(go_at_call 51;refine(au _ _ _ _ _ (QQs.up h7) a5.up h8.up ax.up).mono ?_;rintro e9 N ⟨v9,rfl,R9,D, -, -⟩;have ba:=Bx.grown z.up D M8;have ZB:=Below.grown (bJ a0) D (bJ a0).size (fun k e=>M7 e)))
   all_goals (
    go_wp2;go_ret;exact⟨_,_,rfl,R9,ZB⟩)
def MB(a:List (List UInt8))(n:Nat)(l:List (Rat×Rat))(f:dM a=0->yF (aU a) n l)(m:dM a≠0->l=[])(r:dM a=0->Pw (jF (aU a)) n)(hn:n<=330)(v:Value)(w:World)(hv:StrsAt w v a)(I:a.length<=7)(hs:∀l∈a,l.length<=6):
  Calls prog 8 #[v] w fun e w'=>∃v',e= .returned (.tuple #[v',.int .i64 (dM a)])∧IvsAt w' v' (l.map kQ)∧Below w.heap.size w w':=by
 obtain⟨A,c,rfl,hc⟩:=hv.form;have i:=fun W h=>L5 a (.slice A a.length c) W h I hs;have X:∀q∈aU a,RL 1 q:=pI (fun l I=>aH (hs l I) (by decide));have ar:(aU a).length=a.length:=cH _;have z:=DC a;unfold yA at i;obtain⟨E,U⟩:∃E,dM a=E:=⟨_,rfl⟩;rw[U] at i z f m r⊢;clear U;rcases z with ⟨rfl,ah,J,Y⟩|⟨rfl, -, -⟩|⟨rfl, -, -⟩;rotate_left
 ·skip;obtain rfl:l=[]:=m (by decide);clear f m r;go_enter func8,ntmps8;go_wp2_with fail;refine(i _ hv).mono ?_;rintro Q w1 ⟨v1,rfl,d,g⟩;obtain⟨x,y,rfl, -⟩:=d.form;go_wp2;go_ret2;exact⟨_,rfl,⟨_,_,rfl,aE,.inl rfl⟩,g⟩
 ·skip;obtain rfl:l=[]:=m (by decide);clear f m r;go_enter func8,ntmps8;go_wp2_with fail;refine(i _ hv).mono ?_;rintro Q w1 ⟨v1,rfl,d,g⟩;obtain⟨x,y,rfl, -⟩:=d.form;go_wp2;go_ret2;exact⟨_,rfl,⟨_,_,rfl,aE,.inl rfl⟩,g⟩
 obtain⟨w0,s,cs,pA,T,hx,ao,ap⟩:=f rfl;rw[Y] at i J;have ag:aU a≠[]:=fun e=>J (by rw[e];rfl);have ae:=(fT ag).1 (pJ ah).2.2;have G:=fun W v h=>MA (aU a) w0 s cs n l v W h pA T X (by omega) ae (r rfl) hn hx ap;unfold yQ at G;clear f m r pA T hx X ar ae J ag Y ah;go_enter func8,ntmps8;go_wp2_with fail;refine(i _ hv).mono ?_;rintro Q w1 ⟨v1,rfl,d,g⟩;obtain⟨x,y,rfl, -⟩:=d.form;clear i;go_wp2_with fail;refine(G _ _ d).mono ?_;rintro e2 N ⟨v2,aw,rfl,S,ac⟩;obtain⟨O,P,rfl,az⟩:=S.form;have Z:=aC g ac;clear G d g ac;go_wp2_with fail;go_loopg [6,8] l.length (fun k vf vi wr=>∃j:Nat,Hid (j+k=l.length)∧vi= .int .i64 j∧GrowD wr N.heap.size 24 2 vf (((l.take j).map kQ).map jG)∧Below N.heap.size N wr)
 case atStart=>exact⟨0,by unfold Hid;omega,rfl,GrowD.nil,aG _ _⟩
 case round=>
  obtain⟨j,D,rfl,o,t⟩:=hrel;generalize wr=wy at *;have a0:(0:Int)<=(j:Int):=by omega
  have ak:=aC Z t;obtain⟨Af,nf,ax,rfl⟩:=o.form3;cases gk with
  |zero=>
   have hj:j=l.length:=D.out;subst hj;rw[List.take_length] at o;have f:=o.ivs;clear o;go_wp2;go_ret2;exact⟨_,rfl,f,ak⟩
  |succ k=>
   have an:j<l.length:=by have:=D.out;omega
   have a1:(j:Int)<(l.length:Int):=by omega
   obtain⟨p,B⟩:∃p,l[j]? =some p:=⟨_,aR an⟩;obtain⟨b,s1,x,k1,y,s2,O,k2,P,s3,A3,k3,c3,s4,A4,k4,c4,rfl,ay,z,au⟩:=(S.be t).get B;have H:=ao p (dG B);have ai:=fun W h=>ME p.1 p.2 (.agg #[.bool s1,.slice x k1 y,.bool s2,.slice O k2 P,.bool s3,.slice A3 k3 c3,.bool s4,.slice A4 k4 c4]) W h 1000000000 H.1 H.2 (by decide);have aj:Hid (((l.take (j+1)).map kQ).map jG=((l.take j).map kQ).map jG++[[.string ⟨(cW p.1).toArray⟩,.string ⟨(cW p.2).toArray⟩]]):=by
    unfold Hid;rw[kR,B,Option.toList_some,List.map_append,List.map_append];rfl
   have al:(((l.take j).map kQ).map jG).length<=1073741824:=by rw[cH,cH,bK];omega
   generalize ((l.take j).map kQ).map jG=R at *;generalize (⟨(cW p.1).toArray⟩:ByteArray)=L at *;generalize (⟨(cW p.2).toArray⟩:ByteArray)=M at *;clear B H;go_wp2_with fail;refine(ai _ au).mono ?_;rintro e7 C ⟨rfl,F⟩;have ad:Below C.heap.size C (C.alloc (.cells #[.string L,.string M] 24)):=(aG _ _).alloc aE _;have af:=(o.be F).be ad;have K:=(aC t F).trans (ad.mono (aH t.size F.size));have XB:=Bx.new C [.string L,.string M] 24;have aq:∀u∈[Value.string L,.string M],NoInt u∧u.oneCell'=true:=fun u hu=>by
    simp at hu;rcases hu with rfl|rfl
    ·exact⟨NoInt.string _,rfl⟩
    ·exact⟨NoInt.string _,rfl⟩
   clear o ai z;go_wp2_with (at_builtin;refine yE rfl rfl 24 2 32 _ underlying28 LQ rfl LR (by decide) (by decide) rfl af rfl XB rfl aq al K.size ?_;intro v8 w8 V a2 am a3);have av:=K.trans (af.left am K.size);rw[<-aj.out] at V;go_roundg k
   case rel=>exact⟨j+1,by have:=D.out;unfold Hid;omega,by go_num,V,av⟩
   case measure=>omega
def pS(s:List Int)(x y:Rat)(N:Int):Bool:=if x<y then decide (aP s 0 x*aP s 0 y<0)&&decide (N=1) else decide (x=y)&&decide (aP s 0 x=0)
def mB(s:List Int)(a b:List UInt8)(N:Int):Bool:=rd a&&rd b&&pS s ((bD a).getD 0) ((bD b).getD 0) N
def DU(w:World)(s:List Int)(a b:List UInt8)(N:Int)(e:Ending)(w':World):Prop:=∃v,e= .returned (.tuple #[v,.bool (mB s a b N)])∧(∃x y,SpanAt w' v x y∧(mB s a b N=true->x=(bD a).getD 0∧y=(bD b).getD 0))∧Below w.heap.size w w'
def Bx.put8{w W:World}{B b:Nat}{t:TypeId}{m n o p q r s u:Value}(h:Bx W b [m,n,o,p,q,r,s,u] t)(N:Below B w W)(a:B<=b)(d e f g i j k l:Value)(hn:(cS (some m)&&(cS (some n)&&(cS (some o)&&(cS (some p)&&(cS (some q)&&(cS (some r)&&(cS (some s)&&cS (some u))))))))=true):
  ∃c,(((((((W.setCell ⟨b,0,none⟩ d).setCell ⟨b,1,none⟩ e).setCell ⟨b,2,none⟩ f).setCell ⟨b,3,none⟩ g).setCell ⟨b,4,none⟩ i).setCell ⟨b,5,none⟩ j).setCell ⟨b,6,none⟩ k).setCell ⟨b,7,none⟩ l=c∧Bx c b [d,e,f,g,i,j,k,l] t∧Below B w c∧Keep W c:=by
 simp only[Bool.and_eq_true] at hn;obtain⟨X,rfl,F,v,O,f1⟩:=h.put1 N a 0 d hn.1;obtain⟨Y,rfl,G,x,P,f2⟩:=F.put1 v a 1 e hn.2.1;obtain⟨Z,rfl,H,y,Q,f3⟩:=G.put1 x a 2 f hn.2.2.1;obtain⟨W4,rfl,I,z,R,f4⟩:=H.put1 y a 3 g hn.2.2.2.1;obtain⟨W5,rfl,J,A,S,f5⟩:=I.put1 z a 4 i hn.2.2.2.2.1;obtain⟨W6,rfl,K,C,T,f6⟩:=J.put1 A a 5 j hn.2.2.2.2.2.1;obtain⟨W7,rfl,L,D,U,f7⟩:=K.put1 C a 6 k hn.2.2.2.2.2.2.1;obtain⟨W8,rfl,M,E,V,f8⟩:=L.put1 D a 7 l hn.2.2.2.2.2.2.2;exact⟨_,rfl,M,E,((((((O.trans P).trans Q).trans R).trans S).trans T).trans U).trans V⟩
def LV{w W:World}{B b:Nat}{t:TypeId}{a c d f g i j k:Value}(h:Bx W b [a,c,d,f,g,i,j,k] t)(x:Below B w W)(v:B<=b){l m n o p q r s:Value}(hn:(cS (some a)&&(cS (some c)&&(cS (some d)&&(cS (some f)&&(cS (some g)&&(cS (some i)&&(cS (some j)&&cS (some k))))))))=true):
  Below B w ((((((((W.setCell ⟨b,0,none⟩ l).setCell ⟨b,1,none⟩ m).setCell ⟨b,2,none⟩ n).setCell ⟨b,3,none⟩ o).setCell ⟨b,4,none⟩ p).setCell ⟨b,5,none⟩ q).setCell ⟨b,6,none⟩ r).setCell ⟨b,7,none⟩ s):=by
 obtain⟨y,e, -,u, -⟩:=h.put8 x v l m n o p q r s hn;rw[e];exact u
def Bx.far8{w:World}{g b:Nat}{cs:List Value}{t:TypeId}(h:Bx w g cs t)(a:b≠g){c d e f i j k l:Value}:Bx ((((((((w.setCell ⟨b,0,none⟩ c).setCell ⟨b,1,none⟩ d).setCell ⟨b,2,none⟩ e).setCell ⟨b,3,none⟩ f).setCell ⟨b,4,none⟩ i).setCell ⟨b,5,none⟩ j).setCell ⟨b,6,none⟩ k).setCell ⟨b,7,none⟩ l) g cs t:=(((((((h.far 0 c a).far 1 d a).far 2 e a).far 3 f a).far 4 i a).far 5 j a).far 6 k a).far 7 l a
def yN(w:World):SpanAt w (.agg #[.bool false,.slice none 0 0,.bool false,.slice none 0 0,.bool false,.slice none 0 0,.bool false,.slice none 0 0]) 0 0:=SpanAt.of (BW w) (BW w)
def ayB{s:List Int}{z:Rat}{K:Nat}(f:∀n∈s,nl n.natAbs<=K)(c:RL K z)(e:s.length<=65):nl (fE s z.num z.den).natAbs<=K*65+1:=by
 have d:=xK (ns:=s) (a:=z.num) (b:=z.den) (T:=BN^K) (fun n h=>mS (f n h)) (mS c.1) (mS c.2);refine cJ (jI d.1 (aZ (xL (by omega)).1 (cO (by decide) ?_)));have:=eV K e;omega
def ayC(s:List Int)(a b:List UInt8)(N:Int)(v:Value)(w:World)(m:Glob w)(hv:WholeAt w v s)(ts:aN s)(h0:s≠[])(hs:Sz s)(la:a.length<=12)(lb:b.length<=12)(hN:∀c,StT 35080695 s (aS (bB s)) c->fF s c 0 ((bD a).getD 0) 0 ((bD b).getD 0)=N):
  Calls prog 21 #[v,.agg #[.string ⟨a.toArray⟩,.string ⟨b.toArray⟩]] w (DU w s a b N):=by
 obtain⟨A,c,rfl,hc⟩:=hv.form;have ra:=fun W m=>wU a W m (by omega);have rb:=fun W m=>wU b W m (by omega);have ai:rd a=true->RL 1 ((bD a).getD 0):=fun h=>by
  obtain⟨q,hq⟩:=Option.isSome_iff_exists.1 h;rw[hq];exact tS hq (by omega)
 have aj:rd b=true->RL 1 ((bD b).getD 0):=fun h=>by
  obtain⟨q,hq⟩:=Option.isSome_iff_exists.1 h;rw[hq];exact tS hq (by omega)
 have k:Hid (mB s a b N=(rd a&&rd b&&pS s ((bD a).getD 0) ((bD b).getD 0) N)):=rfl;have au:(bD a).isSome=rd a:=rfl;have av:(bD b).isSome=rd b:=rfl;unfold IP at ra rb;rw[au] at ra;rw[av] at rb;unfold DU;obtain⟨T,hT⟩:∃T,mB s a b N=T:=⟨_,rfl⟩;rw[hT] at k⊢;clear hT au av;generalize rd a=oa at *;generalize rd b=ob at *;generalize (bD a).getD 0=x at *;generalize (bD b).getD 0=y at *;obtain⟨W,eW,d,X,R⟩:=eL w [.string ⟨a.toArray⟩,.string ⟨b.toArray⟩] 24 [.bool false,.slice none 0 0,.bool false,.slice none 0 0,.bool false,.slice none 0 0,.bool false,.slice none 0 0] 50;have cM:=aa X.g2 R.g8;go_enter func21,ntmps21;go_wp2_with fail;(try rw[eW]);clear eW;refine(ra _ (m.be d)).mono ?_;rintro e1 w1 ⟨v1,rfl,I,ag⟩;obtain⟨U,o,L,C,Y,p,M,E,rfl⟩:=I.form;obtain⟨w2,e2,al,P⟩:=bI w1 [.bool U,.slice o L C,.bool Y,.slice p M E] 47;have l:=aC ag al;have a3:=(R.be ag).lt;replace R:=R.be l;replace X:=X.be l;replace I:=I.be al;replace d:=aC d l;have cX:=X.k2;clear ra l ag al;go_wp2_with fail;(try rw[e2]);(try clear e2);refine(rb _ (m.be d)).mono ?_;rintro e3 w3 ⟨v3,rfl,h3,am⟩;obtain⟨Z,r,O,F,s4,t,S,G,rfl⟩:=h3.form;obtain⟨w4,e4,aq,Q⟩:=bI w3 [.bool Z,.slice r O F,.bool s4,.slice t S G] 47;have l:=aC am aq;have a4:=(R.be am).lt;replace R:=R.be l;replace P:=P.be l;replace I:=I.be l;replace h3:=h3.be aq;replace d:=aC d l;have bn:=R.lt;have bm:=P.lt;clear rb l cX X;have cM:=aa R.g8 (aa P.k4 Q.k4);have bo:w.heap.size+1<w1.heap.size:=a3;have bp:w.heap.size+1<w3.heap.size:=a4;cases oa with
 |false=>
  cases ob
  all_goals (
   obtain rfl:T=false:=by rw[k.out];rfl
   clear k hN ai aj;go_wp2_with fail;(try rw[e4]);(try clear e4);obtain⟨W6,i,j,g,J⟩:=R.put8 d (by omega) (.bool false) (.slice none 0 0) (.bool false) (.slice none 0 0) (.bool false) (.slice none 0 0) (.bool false) (.slice none 0 0) rfl;rw[i];exact aM (v:= .tuple #[.agg #[.bool false,.slice none 0 0,.bool false,.slice none 0 0,.bool false,.slice none 0 0,.bool false,.slice none 0 0],.bool false]) (by simp[results,results21,go_sem,j.k8]) rfl ⟨_,rfl,⟨0,0,yN _,fun h=>by cases h⟩,g⟩
  )
 |true=>
  cases ob with
  |false=>
   obtain rfl:T=false:=by rw[k.out];rfl
   clear k hN ai aj;go_wp2_with fail;(try rw[e4]);(try clear e4);obtain⟨W6,i,j,g,J⟩:=R.put8 d (by omega) (.bool false) (.slice none 0 0) (.bool false) (.slice none 0 0) (.bool false) (.slice none 0 0) (.bool false) (.slice none 0 0) rfl;rw[i];exact aM (v:= .tuple #[.agg #[.bool false,.slice none 0 0,.bool false,.slice none 0 0,.bool false,.slice none 0 0,.bool false,.slice none 0 0],.bool false]) (by simp[results,results21,go_sem,j.k8]) rfl ⟨_,rfl,⟨0,0,yN _,fun h=>by cases h⟩,g⟩
  |true=>
   have kx:=ai rfl;have ky:=aj rfl;replace k:Hid (T=pS s x y N):=by
    have:=k.out;rwa [Bool.true_and,Bool.true_and] at this
   have bb:=hs.1;have kn:=hs.nums;have hw:=fun z u W h H (kz:RL 1 z)=>CB s z (.slice A s.length c) u W h H 144363 kn (bU kz (by decide)) (by omega) (by decide);have ap:=fun (z:Rat) (kz:RL 1 z)=>aH (ayB kn (bU kz (show 1<=144363 by decide)) (by omega)) (show 144363*65+1<=17592186044416 by decide);have t1:=fun u W h H=>hw x u W h H kx;have t2:=fun u W h H=>hw y u W h H ky;have g1:=fun W u h=>qG (fE s x.num x.den) u W h (ap x kx);have g2:=fun W u h=>qG (fE s y.num y.den) u W h (ap y ky);have ao:=fun W u v h H=>BY x y u v W h H 1 kx ky (by decide);have ar:=fun W u v m h H az=>J0 s 0 0 x y (.slice A s.length c) u v W m h ts h0 hs H az (by decide) (by decide) (bU kx (by decide)) (bU ky (by decide));have aw:(fE s x.num x.den).sign=aP s 0 x:=by unfold aP;rw[if_pos rfl]
   have ax:(fE s y.num y.den).sign=aP s 0 y:=by unfold aP;rw[if_pos rfl]
   rw[aw] at g1;rw[ax] at g2;have tx:=qX s 0 x;have ty:=qX s 0 y;have f:pS s x y N=if x<y then decide (aP s 0 x*aP s 0 y<0)&&decide (N=1) else decide (x=y)&&decide (aP s 0 x=0):=rfl;unfold dW at t1 t2;unfold eO at ao;unfold xA at ar;obtain⟨B,hB⟩:∃B,pS s x y N=B:=⟨_,rfl⟩;rw[hB] at k f;obtain rfl:T=B:=k.out;have ah:x<y->∀n,(jO 0 x 0 y=true->∃c,StT 35080695 s (aS (bB s)) c∧n=fF s c 0 x 0 y)->n=N:=fun h n hc=>by
    obtain⟨c,I,h2⟩:=hc (by unfold jO;rw[if_neg (by decide)];exact decide_eq_true h);rw[h2];exact hN c I
   have ba:x<y∧(x-y).num.sign= -1∨¬x<y∧x=y∧(x-y).num.sign=0∨¬x<y∧x≠y∧(x-y).num.sign=1:=by
    rcases iY (x-y) with h|h|h
    ·exact .inl ⟨by grind,(fS _).2 h⟩
    ·exact .inr (.inl ⟨by grind,by grind,by rw[h];rfl⟩)
    ·exact .inr (.inr ⟨by grind,by grind,(fS _).1 h⟩)
   generalize (x-y).num.sign=D at *;clear k hB hN ai aj hw ap aw ax bb kn ts h0 hs kx ky;generalize aP s 0 x=Sx at *;generalize aP s 0 y=Sy at *;generalize fE s x.num x.den=mx at *;generalize fE s y.num y.den=my at *;have af: -1<=Sx*Sy∧Sx*Sy<=1:=by rcases tx with e|e|e<;>rcases ty with e'|e'|e'<;>rw[e,e']<;>decide
   obtain⟨Pr,a2⟩:∃P,Sx*Sy=P:=⟨_,rfl⟩;rw[a2] at af f;go_wp2_with fail;(try rw[e4]);(try clear e4);have bk:=m.be d;have ay:=hv.be d
   go_region_held3 (fun w'=>C4 w' w1.heap.size (.bool U) (.slice o L C) (.bool Y) (.slice p M E)∧C4 w' w3.heap.size (.bool Z) (.slice r O F) (.bool s4) (.slice t S G)) (with_reducible exact⟨P.up.k4,Q.up.k4⟩)
    (first
     |(go_at_call 57;first|(with_reducible refine(t1 _ _ ay.up I.up).mono ?_;rintro e5 w5 ⟨v5,rfl,h5,a7⟩;have:=St.mk a7)|(with_reducible refine(t2 _ _ ay.up h3.up).mono ?_;rintro i w6 ⟨v6,rfl,h6,g⟩;have:=St.mk g))
     |(go_at_call 58;first|(with_reducible refine(g1 _ _ h5.up).mono ?_;rintro e7 w7 ⟨rfl,an⟩;have:=St.mk an;have U7:=Up.out (a:=w4) (b:=w7))|(with_reducible refine(g2 _ _ h6.up).mono ?_;rintro e7 w7 ⟨rfl,an⟩;have:=St.mk an;have U7:=Up.out (a:=w4) (b:=w7))))
   all_goals (
    obtain⟨w8,e8,a8,V⟩:=bI w7 [.bool U,.slice o L C,.bool Y,.slice p M E,.bool Z,.slice r O F,.bool s4,.slice t S G] 50;have U8:=aC U7 a8;have R8:=R.be U8;have P8:=P.be U8;have Q8:=Q.be U8;have x8:=I.be U8;have y8:=h3.be U8;have zb:=aC d U8;have V0:=V.lt;have a5:w7.heap.size≠w.heap.size+1:=by have:=U7.size;omega
    have bg:=aa R8.g8 (aa P8.k4 (aa Q8.k4 V.k8));go_wp2_with fail;(try rw[e8]);(try clear e8);refine(ao _ _ _ x8 y8).mono ?_;rintro e9 w9 ⟨rfl,ac⟩;have R9:=R8.be ac;have P9:=P8.be ac;have Q9:=Q8.be ac;have V9:=V.be ac;have x9:=x8.be ac;have y9:=y8.be ac;have ae:=aC zb ac;have bh:=aa R9.g8 (aa P9.k4 (aa Q9.k4 V9.k8));clear tx ty ao;rcases ba with ⟨K,rfl⟩|⟨K,he,rfl⟩|⟨K,he,rfl⟩
    ·rw[if_pos K] at f;have ak:=ah K;clear ah K;have bq:IntKind.i64.wrap Pr=Pr:=IntWalk.i64_in _ ⟨by omega,by omega⟩;by_cases hP:0<=Pr
     ·obtain rfl:T=false:=by rw[f,decide_eq_false (show¬Pr<0 by omega)];rfl
      clear f ak af;go_wp2_with fail;obtain⟨W6,i,j,g,J⟩:=R9.put8 ae (by omega) (.bool false) (.slice none 0 0) (.bool false) (.slice none 0 0) (.bool false) (.slice none 0 0) (.bool false) (.slice none 0 0) rfl;rw[i];exact aM (v:= .tuple #[.agg #[.bool false,.slice none 0 0,.bool false,.slice none 0 0,.bool false,.slice none 0 0,.bool false,.slice none 0 0],.bool false]) (by simp[results,results21,go_sem,j.k8]) rfl ⟨_,rfl,⟨0,0,yN _,fun h=>by cases h⟩,g⟩
     ·obtain rfl:T=(N==1):=by rw[f,decide_eq_true (show Pr<0 by omega),Bool.true_and];rfl
      clear f af;have a1:=aB ak;clear ak;have a0:=m.be ae;have bc:=hv.be ae;have n1:w.heap.size+1≠w7.heap.size:=fun e=>a5 e.symm;have n2:w.heap.size+1≠w1.heap.size:=by omega
      have n3:w.heap.size+1≠w3.heap.size:=by omega
      go_wp2_with fail
      go_region_held3 (fun w'=>C8 w' w7.heap.size (.bool U) (.slice o L C) (.bool Y) (.slice p M E) (.bool Z) (.slice r O F) (.bool s4) (.slice t S G)∧C4 w' w1.heap.size (.bool U) (.slice o L C) (.bool Y) (.slice p M E)∧C4 w' w3.heap.size (.bool Z) (.slice r O F) (.bool s4) (.slice t S G)) (first|(with_reducible exact⟨V9.up.k8,P9.up.k4,Q9.up.k4⟩)|(with_reducible exact⟨(V5.far8 n1).k8,(P5.far8 n2).k4,(Q5.far8 n3).k4⟩))
       (first
        |(go_at_call 59;refine(ar _ _ _ a0.up bc.up (EndAt.of x9.up) (EndAt.of y9.up)).mono ?_;rintro bj ad ⟨n,rfl, -, -, -,n4,a6⟩;have:=St.mk a6;have a9:=a1.out n n4;have V5:=V9.up (b:=ad);have P5:=P9.up (b:=ad);have Q5:=Q9.up (b:=ad);have Ra:=R9.up (b:=ad);have bi:=Ra.g8;have xa:=x9.up (b:=ad);have ya:=y9.up (b:=ad);have bf:=bJ (b:=ad) ae))
      all_goals (
       subst a9;go_wp2_with fail;obtain⟨W6,i,j,g,J⟩:=Ra.put8 bf (by omega) (.bool U) (.slice o L C) (.bool Y) (.slice p M E) (.bool Z) (.slice r O F) (.bool s4) (.slice t S G) rfl;rw[i];exact aM (v:= .tuple #[.agg #[.bool U,.slice o L C,.bool Y,.slice p M E,.bool Z,.slice r O F,.bool s4,.slice t S G],.bool (n==1)]) (by simp[results,results21,go_sem,j.k8]) rfl ⟨_,rfl,⟨x,y,SpanAt.of (xa.ke J) (ya.ke J),fun _=>⟨rfl,rfl⟩⟩,g⟩)
    ·rw[if_neg K] at f;obtain rfl:T=(Sx==0):=by rw[f,decide_eq_true he,Bool.true_and];rfl
     clear f ah K he af;go_wp2_with fail;obtain⟨W6,i,j,g,J⟩:=R9.put8 ae (by omega) (.bool U) (.slice o L C) (.bool Y) (.slice p M E) (.bool Z) (.slice r O F) (.bool s4) (.slice t S G) rfl;rw[i];exact aM (v:= .tuple #[.agg #[.bool U,.slice o L C,.bool Y,.slice p M E,.bool Z,.slice r O F,.bool s4,.slice t S G],.bool (Sx==0)]) (by simp[results,results21,go_sem,j.k8]) rfl ⟨_,rfl,⟨x,y,SpanAt.of (x9.ke J) (y9.ke J),fun _=>⟨rfl,rfl⟩⟩,g⟩
    ·rw[if_neg K] at f;obtain rfl:T=false:=by rw[f,decide_eq_false he,Bool.false_and]
     clear f ah K he af;go_wp2_with fail;obtain⟨W6,i,j,g,J⟩:=R9.put8 ae (by omega) (.bool false) (.slice none 0 0) (.bool false) (.slice none 0 0) (.bool false) (.slice none 0 0) (.bool false) (.slice none 0 0) rfl;rw[i];exact aM (v:= .tuple #[.agg #[.bool false,.slice none 0 0,.bool false,.slice none 0 0,.bool false,.slice none 0 0,.bool false,.slice none 0 0],.bool false]) (by simp[results,results21,go_sem,j.k8]) rfl ⟨_,rfl,⟨0,0,yN _,fun h=>by cases h⟩,g⟩
   )
def ayD{s s':List Int}{w w':List Int}{A:List Rat}{B c:Nat}(h:Sqp B w s)(a:Sqp c w' s')(d:Prp A w)(e:Prp A w')(x y:Rat):aP s 0 x*aP s 0 y=aP s' 0 x*aP s' 0 y:=by
 have b:∀{s w:List Int} {B:Nat},Sqp B w s->aP s 0 x*aP s 0 y=eT (cE s) 0 x*eT (cE s) 0 y:=fun {s w B} h=>by
  have f:=gJ ((fT h.ne).1 h.ts);rw[pN];rcases iY (1/((cf s (s.length-1):Int):Rat)) with k|k|k
  ·rw[xU k,xU k,Int.neg_mul_neg]
  ·exfalso;have:((cf s (s.length-1):Int):Rat)*(1/((cf s (s.length-1):Int):Rat))=1:=by grind
   rw[k,gX] at this;exact absurd this (by decide)
  ·rw[uB k,uB k]
 rw[b h,b a,h.unique a d e]
def qY(d:List (List UInt8))(s:List Int)(c:List (List Int))(a b:List UInt8):Bool:=decide (dM d=0)&&mB s a b (fF s c 0 ((bD a).getD 0) 0 ((bD b).getD 0))
def ay9{A:List Rat}{w w' s s':List Int}{c':List (List Int)}{B:Nat}(c:Prp A w)(d:Prp A w')(h:Sqp B w s)(f:kL w' s' c')(a b:List UInt8)(N:Int):mB s a b N=mB s' a b N:=by
 unfold mB pS;have e:decide (aP s 0 ((bD a).getD 0)=0)=decide (aP s' 0 ((bD a).getD 0)=0):=decide_eq_decide.2 ((sG c h _).symm.trans (sG d f.2.1 _));rw[ayD h f.2.1 c d,e]
def ayA(d:List (List UInt8))(w0 s:List Int)(c:List (List Int))(a b:List UInt8)(t:dM d=0->Prp (aU d) w0∧kL w0 s c)(v:Value)(w:World)(i:Glob w)(hv:StrsAt w v d)(O:d.length<=7)(hs:∀l∈d,l.length<=6)(la:a.length<=12)(lb:b.length<=12):
  Calls prog 10 #[v,.agg #[.string ⟨a.toArray⟩,.string ⟨b.toArray⟩]] w fun e w'=>e= .returned (.bool (qY d s c a b))∧Below w.heap.size w w':=by
 obtain⟨A,cc,rfl,ar⟩:=hv.form;have o:=fun W i h=>D5 d (.slice A d.length cc) W i h O hs;have ac:∀q∈aU d,RL 1 q:=pI (fun l O=>aH (hs l O) (by decide));have ai:(aU d).length=d.length:=cH _;have ad:=uL d;have j:Hid (qY d s c a b=(decide (dM d=0)&&mB s a b (fF s c 0 ((bD a).getD 0) 0 ((bD b).getD 0)))):=rfl;unfold uK at o;obtain⟨Z,n⟩:∃Z,qY d s c a b=Z:=⟨_,rfl⟩;rw[n] at j⊢;obtain⟨E,hE⟩:∃E,dM d=E:=⟨_,rfl⟩;rw[hE] at o ad t j;clear n hE;obtain⟨W,Y,f,X⟩:=bI w [.string ⟨a.toArray⟩,.string ⟨b.toArray⟩] 24;have cM:=X.g2;go_enter func10,ntmps10;go_wp2_with fail;(try rw[Y]);clear Y;refine(o _ (i.be f) (hv.be f)).mono ?_;rintro e1 w1 ⟨A1,k1,c1,aw,rfl,⟨s2,A2,k2,c2,rfl⟩,G,L⟩;obtain⟨U,m,M,F⟩:=bI w1 [.bool s2,.slice A2 k2 c2] 40;have K:=aC L M;replace X:=X.be K;replace f:=aC f K;have cX:=aa X.k2 F.k2;rcases ad with ⟨rfl,R,h0⟩|⟨rfl, -⟩|⟨rfl, -, -⟩;rotate_left
 ·skip;have r:Hid (Z=false):=by unfold Hid;rw[j.out];rfl
  clear G o j t;go_wp2_with fail;(try rw[m]);(try clear m);go_ret;exact⟨by rw[r.out];rfl,f⟩
 ·skip;have r:Hid (Z=false):=by unfold Hid;rw[j.out];rfl
  clear G o j t;go_wp2_with fail;(try rw[m]);(try clear m);go_ret;exact⟨by rw[r.out];rfl,f⟩
 obtain⟨T,n⟩:=t rfl;obtain⟨D, -, -,z,H, -⟩:=G rfl;replace H:=H.be M;have af:(cC (aU d) D).length=d.length:=by rw[oN,ai]
 have ag:cC (aU d) D≠[]:=fun e=>h0 (bX (by rw[<-af,e];rfl));have aj:=oO z.pos z.dvd (pJ R).2.2;have P:=sA _ D 1 _ ac z.nl_;have ah:=uE z (pJ R).2.2;have Q:=nM ah;have ap:=gU P;have aq:(aS (cC (aU d) D)).length<=7:=by rw[dF];omega
 obtain⟨A8,c8,V, -⟩:=H.form;simp only[Value.slice.injEq] at V;obtain⟨rfl,rfl,rfl⟩:=V;have ao:=fun W i h=>CZ (cC (aU d) D) (.slice A1 (cC (aU d) D).length c1) W i h aj ag (by omega) P;have ae:=fun g u W i h (k:Sqp 24057 (aS (cC (aU d) D)) g) (S:Sz g)=>ayC g a b (fF s c 0 ((bD a).getD 0) 0 ((bD b).getD 0)) u W i h k.ts k.ne S la lb (fun c' hc=>(show Cn 35080695 (aS (cC (aU d) D)) g c' from⟨k.mono (by decide),hc⟩).unique n.1 (by decide) (by decide) Q T 0 _ 0 _);have r:Hid (∀g,Sqp 24057 (aS (cC (aU d) D)) g->mB g a b (fF s c 0 ((bD a).getD 0) 0 ((bD b).getD 0))=Z):=fun g k=>by
  rw[j.out,ay9 Q T k n];rfl
 unfold DU at ae;clear o G z af ag aj P ah Q T n t j ac ai h0 R L M K ap aq;generalize cC (aU d) D=ns at *;generalize fF s c 0 ((bD a).getD 0) 0 ((bD b).getD 0)=N at *;generalize (⟨a.toArray⟩:ByteArray)=ta at *;generalize (⟨b.toArray⟩:ByteArray)=tb at *;go_wp2_with fail;(try rw[m]);(try clear m);have n1:U.heap.size≠w.heap.size:=Nat.ne_of_gt X.lt;go_cut [9] (fun s9 wx=>s9= .bool Z∧Below w.heap.size w wx)
 case first=>
  go_region_held3 (fun w'=>C2 w' w.heap.size (.string ta) (.string tb)) (first|with_reducible exact X.up.k2|with_reducible exact C.up.k2|with_reducible exact(C.far8 n1).k2|with_reducible exact(C.far8 (Nat.ne_of_gt (aZ X.lt f.size))).k2)
   (first
    |(go_at_call 15;refine(ao _ (i.be f).up H.up).mono ?_;rintro e7 I ⟨v7,g,rfl,h7,k,S,al⟩;have:=St.mk al;have C:=X.up (b:=I);have s7:=(bJ (b:=I) f).size)
    |(go_at_call 21;refine(ae g _ _ (i.be f).up h7.up k S).mono ?_;rintro e9 J ⟨v9,rfl,⟨x,y,⟨s1,A3,k3,c3,s4,A4,k4,c4,s5,A5,k5,c5,s6,A6,k6,c6,rfl,au,av⟩, -⟩,am⟩;have:=St.mk am;have HS:=r.out g k;have C:=X.up (b:=J);have B:=bJ (b:=J) f;(try (have p:=(Bx.newAt U [.bool false,.slice none 0 0,.bool false,.slice none 0 0,.bool false,.slice none 0 0,.bool false,.slice none 0 0] 50 U.heap.size rfl).up (b:=J);have ak:=p.g8));(try (have p:=(Bx.newAt I [.bool false,.slice none 0 0,.bool false,.slice none 0 0,.bool false,.slice none 0 0,.bool false,.slice none 0 0] 50 I.heap.size rfl).up (b:=J);have ak:=p.g8))))
  all_goals (
   go_wp2;go_meet;refine⟨rfl,?_⟩
   first|(with_reducible exact B.alloc B.size _)|(with_reducible exact LV p B f.size rfl)|(with_reducible exact LV p B s7 rfl))
 case rest=>
  obtain⟨rfl,an⟩:=hcut;go_wp2;go_ret;exact⟨rfl,an⟩
def qZ(A:List Rat)(x y:Rat)(N:Int):Bool:=if x<y then (!decide ((aI A x).num.sign=0)&& !decide ((aI A y).num.sign=0))&&decide (N=1) else decide (x=y)&&decide ((aI A x).num.sign=0)
def M4{A:List Rat}{w s:List Int}{c:List (List Int)}(f:Prp A w)(g:kL w s c)(x y:Rat):qZ A x y (fF s c 0 x 0 y)=pS s x y (fF s c 0 x 0 y):=by
 have h:=ax5 f g (x:=x) (y:=y);unfold qZ pS;by_cases b:x<y
 ·have i:x≠y:=fun e=>by grind
  rw[if_pos b,if_pos b,Bool.eq_iff_iff];simp only[Bool.and_eq_true,Bool.not_eq_true',jA,iQ];constructor
  ·intro k;rcases h.2 (.inl ⟨b,k.1.1,k.1.2,k.2⟩) with ⟨-,a,d⟩|⟨a, -⟩
   ·exact⟨a,d⟩
   ·exact absurd a i
  ·intro k;rcases h.1 (.inl ⟨b,k.1,k.2⟩) with ⟨-,a,d,j⟩|⟨a, -⟩
   ·exact⟨⟨a,d⟩,j⟩
   ·exact absurd a i
 ·rw[if_neg b,if_neg b];congr 1;exact decide_eq_decide.2 (sG f g.2.1 x)
def M5(A:List Rat)(w0 s:List Int)(c:List (List Int))(x y:Rat)(v u:Value)(w:World)(hv:QsAt w v A)(hu:IvN w u x y)(pA:Prp A w0)(hZ:kL w0 s c)(J:∀q∈A,RL 1 q)(I:A.length<=7)(C:RL 250000000 x)(E:RL 250000000 y):
  Calls prog 23 #[v,u] w fun e w'=>e= .returned (.bool (qZ A x y (fF s c 0 x 0 y)))∧Below w.heap.size w w':=by
 obtain⟨A0,c0,rfl,aj⟩:=hv.form;obtain⟨s1,A1,k1,c1,s2,A2,k2,c2,s3,A3,k3,c3,s4,A4,k4,c4,rfl,V,hy⟩:=hu;have Q:=fun W v u1 u2 h h1 G=>MG A w0 s c false false x y v u1 u2 W h pA hZ J I h1 G C E;have O:=fun z u W h l (Z:RL 250000000 z)=>CD A z (.slice A0 A.length c0) u W h l 250000000 (fun q R=>bU (J q R) (by decide)) Z (by omega) (DY I (by decide));have S:=fun (z:Rat) (W:World) (u:Value) (h:NQ W u (aI A z)) (Z:RL 250000000 z)=>oC (aI A z) u W h (aH (DX (fun q R=>bU (J q R) (by decide)) Z I) (by decide));have t1:=fun u W h l=>O x u W h l C;have t2:=fun u W h l=>O y u W h l E;have K:=fun W u h=>S x W u h C;have L:=fun W u h=>S y W u h E;have P:=fun W u v h l=>yS x y u v W h l 250000000 C E (by decide);have E1:=fun u W h=>vB x u W h;have E2:=fun u W h=>vB y u W h;have g:qZ A x y (fF s c 0 x 0 y)=if x<y then (!decide ((aI A x).num.sign=0)&& !decide ((aI A y).num.sign=0))&&decide (fF s c 0 x 0 y=1) else decide (x=y)&&decide ((aI A x).num.sign=0):=rfl;obtain⟨T,hT⟩:∃T,qZ A x y (fF s c 0 x 0 y)=T:=⟨_,rfl⟩;rw[hT] at g⊢;have ac:=iY (x-y);unfold eO at Q K L P;unfold eS at t1 t2;rw[show eI false true=0 from rfl,show eI false false=0 from rfl] at Q;clear O S C E hT pA hZ J I;generalize aI A x=ex at *;generalize aI A y=ey at *;generalize fF s c 0 x 0 y=N at *;generalize ex.num.sign=F at *;generalize ey.num.sign=Sy at *;have hD:x<y∧(x-y).num.sign= -1∨¬x<y∧x=y∧(x-y).num.sign=0∨¬x<y∧x≠y∧(x-y).num.sign=1:=by
  rcases ac with h|h|h
  ·exact .inl ⟨by grind,(fS _).2 h⟩
  ·exact .inr (.inl ⟨by grind,by grind,by rw[h];rfl⟩)
  ·exact .inr (.inr ⟨by grind,by grind,(fS _).1 h⟩)
 clear ac;generalize (x-y).num.sign=D at *;obtain⟨W,eW,t,X⟩:=bI w [.bool s1,.slice A1 k1 c1,.bool s2,.slice A2 k2 c2,.bool s3,.slice A3 k3 c3,.bool s4,.slice A4 k4 c4] 64;have cM:=X.g8;go_enter func23,ntmps23;go_wp2_with fail;(try rw[eW]);clear eW;refine(P _ _ _ (V.be t) (hy.be t)).mono ?_;rintro e1 w1 ⟨rfl,ae⟩;have:=St.mk ae;have ad:=(X.up (b:=w1)).k8;go_wp2_with fail;refine(t1 _ _ (hv.be t).up (V.be t).up).mono ?_;rintro e2 w2 ⟨v2,rfl,G,af⟩;have:=St.mk af;go_wp2_with fail;refine(K _ _ G).mono ?_;rintro e3 w3 ⟨rfl,ag⟩;have:=St.mk ag;have j:=X.up (b:=w3);have ai:=j.k8;have d:=bJ (b:=w3) t;have U:=hv.be d;have ah:=V.be d;have Y:=hy.be d;clear P t1 K ad G;rcases hD with ⟨k,rfl⟩|⟨k,B,rfl⟩|⟨k,B,rfl⟩
 ·rw[if_pos k] at g;have n:=aB g;clear g k;by_cases r:F=0
  ·subst r;have i:Hid (T=false):=by unfold Hid;rw[n.out];simp
   clear n;go_wp2_with fail;go_quiet (fail);go_wp2;go_ret;exact⟨by rw[i.out];rfl,d.os,d.tape,d.output,d.size,d.block⟩
  ·have q0:(F==0)=false:=by simpa using r
   by_cases H:Sy=0
   ·subst H;have i:Hid (T=false):=by unfold Hid;rw[n.out];simp
    clear n r;go_wp2_with fail
    first
     |(go_region_with (first
          |(go_at_call 62;refine(t2 _ _ U.up Y.up).mono ?_;rintro o a ⟨v7,rfl,M,f⟩;have:=St.mk f;have p:=(j.up (b:=a)).k8;have m:=bJ (b:=a) d)
          |(go_at_call 61;refine(L _ _ M.up).mono ?_;rintro o a ⟨rfl,f⟩;have:=St.mk f;have p:=(j.up (b:=a)).k8;have m:=bJ (b:=a) d))
       all_goals (
        go_wp2;go_ret;exact⟨by rw[i.out];rfl,m⟩))
     |fail
   ·have q1:(Sy != 0)=true:=by simpa using H
    have i:Hid (T=(N==1)):=by unfold Hid;rw[n.out,decide_eq_false r,decide_eq_false H];by_cases h:N=1<;>simp[h]
    clear n r H;go_wp2_with fail
    go_region_held3 (fun w'=>C8 w' w.heap.size (.bool s1) (.slice A1 k1 c1) (.bool s2) (.slice A2 k2 c2) (.bool s3) (.slice A3 k3 c3) (.bool s4) (.slice A4 k4 c4)) (with_reducible exact j.up.k8)
     (first
      |(go_at_call 62;refine(t2 _ _ U.up Y.up).mono ?_;rintro o a ⟨v7,rfl,M,f⟩;have:=St.mk f;have p:=(j.up (b:=a)).k8;have m:=bJ (b:=a) d)
      |(go_at_call 61;refine(L _ _ M.up).mono ?_;rintro o a ⟨rfl,f⟩;have:=St.mk f;have p:=(j.up (b:=a)).k8;have m:=bJ (b:=a) d)
      |(go_at_call 64;(first|((with_reducible refine(E1 _ _ ah.up).mono ?_);rintro o a ⟨v8,rfl,h8,f⟩)|((with_reducible refine(E2 _ _ Y.up).mono ?_);rintro o a ⟨v9,rfl,h9,f⟩));have:=St.mk f;have p:=(j.up (b:=a)).k8;have m:=bJ (b:=a) d)
      |(go_at_call 63;refine(Q _ _ _ _ U.up h8.up h9.up).mono ?_;rintro o a ⟨rfl,f⟩;have:=St.mk f;have p:=(j.up (b:=a)).k8;have m:=bJ (b:=a) d)
      |fail)
    all_goals (
     go_wp2;go_ret;exact⟨by rw[i.out];rfl,m⟩)
 ·rw[if_neg k] at g;have i:Hid (T=(F==0)):=by unfold Hid;rw[g,decide_eq_true B,Bool.true_and];by_cases h:F=0<;>simp[h]
  clear g k B;go_wp2;go_ret;exact⟨by rw[i.out];rfl,d⟩
 ·rw[if_neg k] at g;have i:Hid (T=false):=by unfold Hid;rw[g,decide_eq_false B,Bool.false_and]
  clear g k B;go_wp2;go_ret;exact⟨by rw[i.out];rfl,d⟩
def DW{a:List UInt8}(h:rd a=true)(c:a.length<=12):RL 250000000 ((bD a).getD 0):=by
 obtain⟨q,b⟩:=Option.isSome_iff_exists.1 h;rw[b];exact bU (tS b (by omega)) (by decide)
def M6(f:List (List UInt8))(w0 s:List Int)(c:List (List Int))(a b:List UInt8)(hC:dM f=0->Prp (aU f) w0∧kL w0 s c)(v:Value)(w:World)(hv:StrsAt w v f)(hl:f.length<=7)(hs:∀l∈f,l.length<=6)(la:a.length<=12)(lb:b.length<=12):
  Calls prog 11 #[v,.agg #[.string ⟨a.toArray⟩,.string ⟨b.toArray⟩]] w fun e w'=>e= .returned (.bool (qY f s c a b))∧Below w.heap.size w w':=by
 obtain⟨A,c0,rfl,al⟩:=hv.form;have O:=fun W h=>L5 f (.slice A f.length c0) W h hl hs;have ac:=fun W=>MF a b W (by omega) (by omega);have ae:∀q∈aU f,RL 1 q:=pI (fun l hl=>aH (hs l hl) (by decide));have ak:(aU f).length=f.length:=cH _;have af:=DC f;have p:Hid (qY f s c a b=(decide (dM f=0)&&mB s a b (fF s c 0 ((bD a).getD 0) 0 ((bD b).getD 0)))):=rfl;unfold yA at O;unfold yR at ac;obtain⟨Z,hZ⟩:∃Z,qY f s c a b=Z:=⟨_,rfl⟩;rw[hZ] at p⊢;obtain⟨E,hE⟩:∃E,dM f=E:=⟨_,rfl⟩;rw[hE] at O af hC p;clear hZ hE;obtain⟨rr,i⟩:∃r,(rd a&&rd b)=r:=⟨_,rfl⟩;rcases af with ⟨rfl, -, -,hQ⟩|⟨rfl, -, -⟩|⟨rfl, -, -⟩
 ·obtain⟨pA,hZ⟩:=hC rfl;rw[hQ] at O;clear hC;cases rr with
  |false=>
   have F:Hid (Z=false):=by unfold Hid;rw[p.out];unfold mB;rw[i];rfl
   clear p;obtain⟨W,n,o,X⟩:=bI w [.string ⟨a.toArray⟩,.string ⟨b.toArray⟩] 24;have cM:=X.g2;go_enter func11,ntmps11;go_wp2_with fail;(try rw[n]);clear n;refine(O _ (hv.be o)).mono ?_;rintro e1 w1 ⟨v1,rfl,g,L⟩;have:=St.mk L;obtain⟨j,k,rfl, -⟩:=g.form;have ad:=(X.up (b:=w1)).k2;go_wp2_with fail;refine(ac _).mono ?_;rintro e2 w2 ⟨v2,x,y,rfl,J,t,z,M⟩;have:=St.mk M;rw[i];obtain⟨Y,j,S,k,s2,B,T,G,s3,C,U,H,s4,D,V,I,rfl,Q,R⟩:=J;obtain⟨d,m,N,P⟩:=bI w2 [.bool Y,.slice j S k,.bool s2,.slice B T G,.bool s3,.slice C U H,.bool s4,.slice D V I] 64;have:=St.mk N;have cP:=P.k8;have K:=bJ (b:=d) o;replace g:=g.up (b:=d);have h3:=IvN.of (Q.up (b:=d)) (R.up (b:=d));clear t z i;go_wp2_with fail;(try rw[m]);(try clear m);go_ret;exact⟨by rw[F.out];rfl,K⟩
  |true=>
   rw[Bool.and_eq_true] at i;obtain⟨q1,q2⟩:=i;have F:Hid (Z=qZ (aU f) ((bD a).getD 0) ((bD b).getD 0) (fF s c 0 ((bD a).getD 0) 0 ((bD b).getD 0))):=by
    unfold Hid;rw[p.out,M4 pA hZ];unfold mB;rw[q1,q2];rfl
   have i:(rd a&&rd b)=true:=by rw[q1,q2];rfl
   have kx:=DW q1 la;have ky:=DW q2 lb;have aj:=fun W v u h h'=>M5 (aU f) w0 s c ((bD a).getD 0) ((bD b).getD 0) v u W h h' pA hZ ae (by omega) kx ky;have ag:∀x,(∀r,bD a=some r->x=r)->x=(bD a).getD 0:=fun x h=>by
    obtain⟨q,hq⟩:=Option.isSome_iff_exists.1 q1;rw[hq];exact h q hq
   have ah:∀x,(∀r,bD b=some r->x=r)->x=(bD b).getD 0:=fun x h=>by
    obtain⟨q,hq⟩:=Option.isSome_iff_exists.1 q2;rw[hq];exact h q hq
   clear p q1 q2 kx ky pA hZ ae ak;generalize (bD a).getD 0=x0 at *;generalize (bD b).getD 0=y0 at *;obtain⟨W,n,o,X⟩:=bI w [.string ⟨a.toArray⟩,.string ⟨b.toArray⟩] 24;have cM:=X.g2;go_enter func11,ntmps11;go_wp2_with fail;(try rw[n]);clear n;refine(O _ (hv.be o)).mono ?_;rintro e1 w1 ⟨v1,rfl,g,L⟩;have:=St.mk L;obtain⟨j,k,rfl, -⟩:=g.form;have ad:=(X.up (b:=w1)).k2;go_wp2_with fail;refine(ac _).mono ?_;rintro e2 w2 ⟨v2,x,y,rfl,J,t,z,M⟩;have:=St.mk M;rw[i];obtain⟨Y,j,S,k,s2,B,T,G,s3,C,U,H,s4,D,V,I,rfl,Q,R⟩:=J;obtain⟨d,m,N,P⟩:=bI w2 [.bool Y,.slice j S k,.bool s2,.slice B T G,.bool s3,.slice C U H,.bool s4,.slice D V I] 64;have:=St.mk N;have cP:=P.k8;have K:=bJ (b:=d) o;replace g:=g.up (b:=d);have h3:=IvN.of (Q.up (b:=d)) (R.up (b:=d));obtain rfl:=ag x t;obtain rfl:=ah y z;clear t z i ag ah;go_wp2_with fail;(try rw[m]);(try clear m);refine(aj _ _ _ g h3).mono ?_;rintro e4 w4 ⟨rfl,ai⟩;have:=St.mk ai;go_wp2;go_ret;exact⟨by rw[F.out];rfl,bJ (b:=w4) K⟩
 ·skip;have F:Hid (Z=false):=by unfold Hid;rw[p.out];rfl
  clear p hC;obtain⟨W,n,o,X⟩:=bI w [.string ⟨a.toArray⟩,.string ⟨b.toArray⟩] 24;have cM:=X.g2;go_enter func11,ntmps11;go_wp2_with fail;(try rw[n]);clear n;refine(O _ (hv.be o)).mono ?_;rintro e1 w1 ⟨v1,rfl,g,L⟩;have:=St.mk L;obtain⟨j,k,rfl, -⟩:=g.form;have ad:=(X.up (b:=w1)).k2;go_wp2_with fail;refine(ac _).mono ?_;rintro e2 w2 ⟨v2,x,y,rfl,J,t,z,M⟩;have:=St.mk M;rw[i];obtain⟨Y,j,S,k,s2,B,T,G,s3,C,U,H,s4,D,V,I,rfl,Q,R⟩:=J;obtain⟨d,m,N,P⟩:=bI w2 [.bool Y,.slice j S k,.bool s2,.slice B T G,.bool s3,.slice C U H,.bool s4,.slice D V I] 64;have:=St.mk N;have cP:=P.k8;have K:=bJ (b:=d) o;replace g:=g.up (b:=d);have h3:=IvN.of (Q.up (b:=d)) (R.up (b:=d));clear t z i;go_wp2_with fail;(try rw[m]);(try clear m);go_ret;exact⟨by rw[F.out];rfl,K⟩
 ·skip;have F:Hid (Z=false):=by unfold Hid;rw[p.out];rfl
  clear p hC;obtain⟨W,n,o,X⟩:=bI w [.string ⟨a.toArray⟩,.string ⟨b.toArray⟩] 24;have cM:=X.g2;go_enter func11,ntmps11;go_wp2_with fail;(try rw[n]);clear n;refine(O _ (hv.be o)).mono ?_;rintro e1 w1 ⟨v1,rfl,g,L⟩;have:=St.mk L;obtain⟨j,k,rfl, -⟩:=g.form;have ad:=(X.up (b:=w1)).k2;go_wp2_with fail;refine(ac _).mono ?_;rintro e2 w2 ⟨v2,x,y,rfl,J,t,z,M⟩;have:=St.mk M;rw[i];obtain⟨Y,j,S,k,s2,B,T,G,s3,C,U,H,s4,D,V,I,rfl,Q,R⟩:=J;obtain⟨d,m,N,P⟩:=bI w2 [.bool Y,.slice j S k,.bool s2,.slice B T G,.bool s3,.slice C U H,.bool s4,.slice D V I] 64;have:=St.mk N;have cP:=P.k8;have K:=bJ (b:=d) o;replace g:=g.up (b:=d);have h3:=IvN.of (Q.up (b:=d)) (R.up (b:=d));clear t z i;go_wp2_with fail;(try rw[m]);(try clear m);go_ret;exact⟨by rw[F.out];rfl,K⟩
def jH(n:Nat)(a:List (List UInt8)):Bool:=a.all (fun l=>decide (l.length<=n))
def LX(n:Nat)(a:List (List UInt8))(v:Value)(w:World)(hv:StrsAt w v a)(hn:n<=1073741824)(G:a.length<=1073741824)(y:∀l∈a,l.length<=9223372036854775807):
  Calls prog 5 #[.int .i64 n,v] w fun e w'=>e= .returned (.bool (jH n a))∧w=w':=by
 obtain⟨A,c,rfl,C⟩:=hv.form;go_enter func5,ntmps5;go_wp2_with fail;go_loopg [5] a.length (fun k i wr=>∃j,Hid (j+k=a.length)∧i= .int .i64 j∧Hid (jH n (a.take j)=true)∧w=wr)
 case atStart=>exact⟨0,by unfold Hid;omega,rfl,rfl,rfl⟩
 case round=>
  obtain⟨j,f,rfl,g,rfl⟩:=hrel;have E:(0:Int)<=(j:Int):=by omega
  cases gk with
  |zero=>
   have m:j=a.length:=f.out;have r:Hid (jH n a=true):=by
    have:=g.out;rwa [m,List.take_length] at this
   subst m;go_wp2;go_ret;rw[r.out];exact⟨rfl,rfl⟩
  |succ k=>
   have x:j<a.length:=by have:=f.out;omega
   have F:(j:Int)<(a.length:Int):=by omega
   obtain⟨t,d⟩:∃t,a[j]? =some t:=⟨_,aR x⟩;have p:jH n (a.take (j+1))=decide (t.length<=n):=by
    unfold jH;rw[kR,d,Option.toList_some,List.all_append];have:=g.out;unfold jH at this;rw[this];simp
   have o:¬t.length<=n->jH n a=false:=fun h=>by
    unfold jH;rw[List.all_eq_false];exact⟨t,dG d,by simpa using h⟩
   have u:=aB p;have s:=aB o;have I:=y t (dG d);obtain⟨b,J,rfl,B,D⟩:=hv.at_ d;have H:(⟨t.toArray⟩:ByteArray).size=t.length:=by simp[ByteArray.size]
   clear p o d g;by_cases q:t.length<=n
   ·have z:¬(n:Int)<(t.length:Int):=by omega
    go_wp2;go_roundg k
    case rel=>exact⟨j+1,by have:=f.out;unfold Hid;omega,by go_num,by unfold Hid;rw[u.out];exact decide_eq_true q,rfl⟩
    case measure=>omega
   ·have z:(n:Int)<(t.length:Int):=by omega
    go_wp2;go_ret;rw[s.out q];exact⟨rfl,rfl⟩
def LY:bD [48]=some 0:=by decide
def ayM:bD [49]=some 1:=by decide
def ayN:bD [45,50]=some (-2):=by decide
