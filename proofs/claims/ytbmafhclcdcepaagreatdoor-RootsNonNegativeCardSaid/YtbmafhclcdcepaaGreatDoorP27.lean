/- Laws. -/
import Derived.Test.YtbmafhclcdcepaaGreatDoorP25
import Derived.Test.YtbmafhclcdcepaaGreatDoorP26
set_option linter.all false
set_option maxHeartbeats 8000000
set_option maxRecDepth 99999
namespace Go.Proofs.YtbmafhclcdcepaaGreatDoor
open Go.RowKit Sos Tryz
section
variable (a b:List (List UInt8))(va vb:Value)(w:World)(ha:StrsAt w va a)(hb':StrsAt w vb b)(hla:a.length<=1000)(hlb:b.length<=1000)(hca:∀l∈a,l.length<=1073741824)(hcb:∀l∈b,l.length<=1073741824)(K:Nat)(hKa:∀q∈aU a,RL K q)(hKb:∀q∈aU b,RL K q)(hK1:1<=K)(hK:K<=1048576)
include ha hb' hla hlb hca hcb hKa hKb hK1 hK
end
def ZN(w:World):Calls prog 110 #[.int .i64 (-1)] w (nN w (-1)):=by
 have z:IntKind.u64.wrap (-1)=18446744073709551615:=by decide
 have A:IntKind.u64.wrap (-18446744073709551615)=1:=by decide
 have b:(1:Int)%4294967296=1:=by decide
 have C:(1:Int)/4294967296=0:=by decide
 obtain⟨W,h,a,R⟩:=bI w [.bool false,.slice none 0 0] 45;have c:=R.g2;go_enter func110,ntmps110;go_wp2_with fail;(try rw[h]);clear h;obtain⟨s,g,j,B⟩:=bI W [.int .u32 1,.int .u32 0] 165;rw[g];clear g;have l:=oW [1,0] W.heap.size 1 2 s B (fun d p=>by simp at p;unfold aD;omega) (by simp[nv]) aE (by simp);simp only[eG,List.length_nil] at l;refine l.mono ?_;rintro u E ⟨v,rfl,r,rfl⟩;replace R:=R.be j;replace c:=R.g2;replace a:=aC a j;go_wp2_with fail;refine(pU true v 1 (-1) _ r (aH (cJ (m:=1) (by unfold BN;omega)) (by decide)) rfl (by simp)).mono ?_;rintro x F ⟨D,rfl,b,k⟩;obtain⟨o,e,n,f,rfl⟩:=b.form;replace R:=R.be k;replace c:=R.g2;replace a:=aC a k;go_wp2_with fail;obtain⟨t,i,R,a,q,y⟩:=R.mut2 a (by omega) (.bool o) (.slice e n f) rfl rfl;replace b:=b.ke q;rw[i];clear i;replace c:=R.k2;exact aM (v:= .agg #[.bool o,.slice e n f]) (by simp[results,results110,go_sem,R.k2]) rfl ⟨_,rfl,b,a⟩
def ZO(w:World):Calls prog 66 #[.int .i64 (-1)] w (eS w (-1)):=by
 have d:Hid ((-1:Rat).num= -1∧bS (-1:Rat)=0):=⟨rfl,fV.2 rfl⟩;obtain⟨W,g,a,R⟩:=bI w [.bool false,.slice none 0 0,.bool false,.slice none 0 0] 47;have f:=R.g4;go_enter func66,ntmps66;go_wp2_with fail;(try rw[g]);clear g;refine(ZN _).mono ?_;rintro n q ⟨p,rfl,b,i⟩;obtain⟨k,c,j,e,rfl⟩:=b.form;replace R:=R.be i;replace f:=R.g4;replace a:=aC a i;go_wp2_with fail;obtain⟨m,h,R,a,l,o⟩:=R.mut4 a (by omega) (.bool k) (.slice c j e) (.bool false) (.slice none 0 0) rfl rfl;replace b:=b.ke l;rw[h];clear h;replace f:=R.k4;exact aM (v:= .agg #[.bool k,.slice c j e,.bool false,.slice none 0 0]) (by simp[results,results66,go_sem,R.k4]) rfl ⟨_,rfl,NQ.of b (NI.zero _) d.out.1 d.out.2,a⟩
def DB(p:List Rat)(v:Value)(w:World)(hv:QsAt w v p)(K:Nat)(t:∀q∈p,RL K q)(i:1<=K)(L:p≠[]->cf p (p.length-1)≠0)(S:p.length<=1024)(ac:K<=60000000000):
  Calls prog 62 #[v] w (lT w (oQ p)):=by
 obtain⟨A,c,rfl,hc⟩:=hv.form;go_enter func62,ntmps62;by_cases d:p.length=0
 ·have f:Hid (oQ p=[]):=by
   have:p=[]:=bX d;rw[this];rfl
  have Y:((p.length:Int)==0)=true:=by rw[d];rfl
  clear d;go_wp2;go_ret;exact⟨_,rfl,by rw[f.out];exact QsAt.nil _,aG _ _⟩
 ·have Y:((p.length:Int)==0)=false:=by simpa using d
  obtain⟨l,k⟩:∃l,p.length-1=l:=⟨_,rfl⟩;have af:(p.length:Int)-1=(l:Int):=by omega
  have T:l<p.length:=by omega
  have ad:(0:Int)<=(l:Int):=by omega
  have ae:(l:Int)<(p.length:Int):=by omega
  have ag:IntKind.i64.wrap (l:Int)=(l:Int):=IntWalk.i64_in _ ⟨by omega,by omega⟩;have m:=L (fun e=>d (by rw[e];rfl));obtain⟨F,Z,D,V,G,s4,E,X,H,rfl,Q,I,R⟩:=hv.cell T;have f:Hid (aW aV (oA [] (1/cf p l) p)=oQ p):=by unfold Hid oQ;rw[k]
  rw[k] at m;have o:RL K (cf p l):=lV t (iG i) l;have j:RL K 1:=bU (az3 (n:=1) (by decide)) i;have C:∀W,Calls prog 66 #[.int .i64 1] W (eS W 1):=fun W=>r7 1 W (by decide);have z:=fun W u v h g=>vD 1 (cf p l) u v W h g K j o (by omega) m;have B:=fun W u v x h g J=>KX [] (1/cf p l) p u v x W h g J K (K+K) (fun q U=>by cases U) t (xS j o) i (by simp) S (by omega);rw[f.out] at B;unfold eS at C z;clear m o d k j;generalize cf p l=x at *;generalize 1/x=y at *;go_wp2_with fail
  go_region_held3 (fun w'=>R4 w' F (l*4) (.bool Z) (.slice D V G) (.bool s4) (.slice E X H))
   (with_reducible exact I.up Q)
   (first
    |(go_at_call 66;refine(C _).mono ?_;rintro e5 w5 ⟨v5,rfl,r,N⟩;obtain⟨s5,A5,k5,c5,s6,A6,k6,c6,rfl⟩:=r.form;have:=St.mk N)
    |(go_at_call 106;refine(z _ _ _ r.up R.up).mono ?_;rintro e7 w7 ⟨v7,rfl,s,O⟩;obtain⟨s7,A7,k7,c7,s8,A8,k8,c8,rfl⟩:=s.form;have:=St.mk O)
    |(go_at_call 105;refine(B _ _ _ _ (QsAt.nil _) s.up hv.up).mono ?_;rintro e9 w9 ⟨v9,rfl,M,P⟩;have:=St.mk P))
  all_goals (
   go_wp2;go_ret;exact⟨_,rfl,M,Up.out (a:=w) (b:=w9)⟩)
def ZI(m:List Int->List Int->List Int->Prop)(z:Nat)(aj:∀{a g:List Int},m a [] g->aN a->cE a=cE g)(am:∀{A c Q R:List Rat} {a b g:List Int},Prp A a->Prp c b->b≠[]->m a b g->DivQ A c Q R->∃d,Prp R d∧m b d g∧(∀n∈d,nl n.natAbs<=z)∧d.length<b.length)(A c:List Rat)(a b g:List Int)(va vb:Value)(w:World)(l:QsAt w va A)(i:QsAt w vb c)(Y:Prp A a)(Z:Prp c b)(T:m a b g)(K:Nat)(G:∀q∈A,RL K q)(H:∀q∈c,RL K q)(ad:z<=K)(an:1<=z)(x:A.length<=8)(y:c.length<=8)(hK:K<=10000000):
  Calls prog 63 #[va,vb] w (lT w (cE g)):=by
 go_enter func63,ntmps63;go_wp2_with fail;go_loopg [0,1] c.length (fun k v0 v1 wr=>∃(A c:List Rat) (a b:List Int),Hid (c.length=k)∧QsAt wr v0 A∧QsAt wr v1 c∧Hid (Prp A a∧Prp c b∧m a b g)∧Hid ((∀q∈A,RL K q)∧∀q∈c,RL K q)∧A.length<=8∧c.length<=8∧Below w.heap.size w wr)
 case atStart=>exact⟨A,c,a,b,rfl,l,i,⟨Y,Z,T⟩,⟨G,H⟩,x,y,aG _ _⟩
 case round=>
  clear l i Y Z T G H x y;clear A c a b;obtain⟨A,c,a,b,s,l,i,f,p,x,y,j⟩:=hrel;generalize wr=wx at *;obtain⟨A1,c1,rfl,aq⟩:=l.form;obtain⟨A2,c2,rfl,ar⟩:=i.form;cases gk with
  |zero=>
   have q0:¬(0:Int)<(c.length:Int):=by have:=s.out;omega
   have B:Hid (oQ A=cE g):=by
    have ah:b=[]:=bX (by rw[<-f.out.2.1.1];exact s.out);have t:=f.out.2.2;rw[ah] at t;exact(qT f.out.1).trans (aj t f.out.1.2.1)
   have r:=fun W h=>DB A (.slice A1 A.length c1) W h K p.out.1 (by omega) (fun e=>f.out.1.ne (fun C=>e (bX (by rw[f.out.1.1,C];rfl)))) (by omega) (by omega);rw[B.out] at r;go_wp2_with fail;refine(r _ l).mono ?_;rintro e3 w3 ⟨v3,rfl,t,ag⟩;go_wp2;go_ret;exact⟨_,rfl,t,aC j ag⟩
  |succ k=>
   have q0:(0:Int)<(c.length:Int):=by have:=s.out;omega
   have ae:1<=c.length:=by omega
   have M:b≠[]:=fun e=>by
    have h:=f.out.2.1.1;rw[e] at h;have D:c.length=0:=h;omega
   have ai:=JY K A.length;have V:2^A.length<=2^8:=cO (by decide) x;have al:=Nat.mul_le_mul V (show 3*K+1<=30000001 by omega);have P:=fun W u v h D=>L3 A c u v W h D K p.out.1 p.out.2 (by omega) (by omega) ae (f.out.2.1.ne M) 16000000000 (by omega) (by decide);have r:=fun (R:List Rat) W v h hR hl h0=>DB R v W h 16000000000 hR (by decide) h0 hl (by decide);clear ai V al;go_wp2_with fail;refine(P _ _ _ l i).mono ?_;rintro e4 w4 ⟨v4,u4,Q,R,rfl,h4,X,F,af,J,ao,ap,N⟩;obtain⟨d,o,L,U,S⟩:=am f.out.1 f.out.2.1 M f.out.2.2 F;have I:R≠[]->cf R (R.length-1)≠0:=fun e=>o.ne (fun C=>e (bX (by rw[o.1,C];rfl)));replace i:=i.be N;replace j:=aC j N;have B:=aB (qT o);have HN:Hid (Prp c b∧Prp (cE d) d∧m b d g):=⟨f.out.2.1,uD o.2.1,L⟩;have ak:(cE d).length=d.length:=(uD o.2.1).1;have au:d.length<c.length:=by rw[f.out.2.1.1];exact S
   have ac:Hid ((∀q∈c,RL K q)∧∀q∈cE d,RL K q):=⟨p.out.2,CU (fun n hn=>aH (U n hn) ad) (by omega)⟩;clear P F af l o L U S f p h4;go_wp2_with fail;refine(r R _ _ X J (by omega) I).mono ?_;rintro e5 w5 ⟨v5,rfl,E,O⟩;rw[B.out] at E;replace i:=i.be O;replace j:=aC j O;clear r X J I;go_wp2;go_roundg d.length
   case rel=>exact⟨c,cE d,b,d,by unfold Hid;exact ak,i,E,HN,ac,y,by omega,j⟩
   case measure=>have:=s.out;omega
def ZJ(c:Nat)(A d:List Rat)(a b g:List Int)(i j:Value)(w:World)(e:QsAt w i A)(f:QsAt w j d)(v:Prp A a)(x:Prp d b)(T:Trc c a b g)(K:Nat)(o:∀q∈A,RL K q)(p:∀q∈d,RL K q)(k:c<=K)(l:1<=c)(s:A.length<=8)(u:d.length<=8)(n:K<=10000000):
  Calls prog 63 #[i,j] w (lT w (cE g)):=
 ZI (Trc c) c (fun h t=>h.done t) (fun e f r h m=>XN e f r h m) A d a b g i j w e f v x T K o p k l s u n
def jH(n:Nat)(a:List (List UInt8)):Bool:=a.all (fun l=>decide (l.length<=n))
def LX(n:Nat)(a:List (List UInt8))(v:Value)(w:World)(hv:StrsAt w v a)(hn:n<=1073741824)(G:a.length<=1073741824)(y:∀l∈a,l.length<=9223372036854775807):
  Calls prog 10 #[.int .i64 n,v] w fun e w'=>e= .returned (.bool (jH n a))∧w=w':=by
 obtain⟨A,c,rfl,C⟩:=hv.form;go_enter func10,ntmps10;go_wp2_with fail;go_loopg [5] a.length (fun k i wr=>∃j,Hid (j+k=a.length)∧i= .int .i64 j∧Hid (jH n (a.take j)=true)∧w=wr)
 case atStart=>exact⟨0,by unfold Hid;omega,rfl,rfl,rfl⟩
 case round=>
  obtain⟨j,f,rfl,g,rfl⟩:=hrel;have E:(0:Int)<=(j:Int):=by omega
  cases gk with
  |zero=>
   have m:j=a.length:=f.out;have r:Hid (jH n a=true):=by
    have:=g.out;rwa [m,List.take_length] at this
   subst m;go_wp2;go_ret;rw[r.out];exact⟨rfl,rfl⟩
  |succ k=>
   have x:j<a.length:=by have:=f.out;omega
   have F:(j:Int)<(a.length:Int):=by omega
   obtain⟨t,d⟩:∃t,a[j]? =some t:=⟨_,aR x⟩;have p:jH n (a.take (j+1))=decide (t.length<=n):=by
    unfold jH;rw[BA,d,Option.toList_some,List.all_append];have:=g.out;unfold jH at this;rw[this];simp
   have o:¬t.length<=n->jH n a=false:=fun h=>by
    unfold jH;rw[List.all_eq_false];exact⟨t,dG d,by simpa using h⟩
   have u:=aB p;have s:=aB o;have I:=y t (dG d);obtain⟨b,J,rfl,B,D⟩:=hv.at_ d;have H:(⟨t.toArray⟩:ByteArray).size=t.length:=by simp[ByteArray.size]
   clear p o d g;by_cases q:t.length<=n
   ·have z:¬(n:Int)<(t.length:Int):=by omega
    go_wp2;go_roundg k
    case rel=>exact⟨j+1,by have:=f.out;unfold Hid;omega,by go_num,by unfold Hid;rw[u.out];exact decide_eq_true q,rfl⟩
    case measure=>omega
   ·have z:(n:Int)<(t.length:Int):=by omega
    go_wp2;go_ret;rw[s.out q];exact⟨rfl,rfl⟩
def TsAt.up{a b:World}[u:Up a b]{B:Nat}{v:Value}{c:List (List (List UInt8))}(h:TsAt a B 22 v c):TsAt b B 22 v c:=h.be u.out
def PRow.typ{w:World}{B:Nat}{e:TypeId}{v:Value}{f:List Value}(d:PRow w B e v f){b:Nat}(a:v.ownBlock=some b):∃cur,w.heap[b]? =some (.cells cur e (0,0)):=by
 rcases d with ⟨rfl,_⟩|⟨g,h,cur,rfl,_,c,_⟩
 ·simp[Value.ownBlock] at a
 ·simp[Value.ownBlock] at a;subst a;exact⟨cur,c⟩
def PRow.km{w w':World}{B:Nat}{e:TypeId}{v:Value}{i:List Value}(h:PRow w B e v i)(c:w.grownBy w' v.ownBlock):KM w w':=⟨c.size,fun p k x a=>by
 refine(World.cell?_of_block (c.block p.block (block_lt_of_cell a) (fun b=> ?_))).trans a;rcases h with ⟨rfl,_⟩|⟨g,l,cur,rfl,_,f,_,_,_,_,hn⟩
 ·simp[Value.ownBlock] at b
 ·simp[Value.ownBlock] at b;unfold World.cell? at a;rw[b,f] at a;simp only at a;split at a
  ·cases a
  ·rw[<-Array.getElem?_toList] at a;obtain⟨j,m,c',d⟩:=hn _ (dG a);cases d⟩
def QsAt.grown{w w':World}{B:Nat}{e:TypeId}{v u:Value}{r:List Value}{l:List Rat}(h:QsAt w u l)(i:PRow w B e v r)(o:e≠47)(g:w.grownBy w' v.ownBlock):QsAt w' u l:=by
 obtain⟨A,c,f,n,h⟩:=h;refine⟨A,c,f,n,?_⟩;rcases h with h|⟨b,j,f,d,q,p⟩
 ·exact .inl h
 ·refine .inr ⟨b,j,f,⟨(g.block b d.lt (fun m=> ?_)).trans d.1,d.2⟩,q,p.ke (i.km g)⟩;obtain⟨s,k⟩:=i.typ m.symm;have a:w.heap[b]? =some (.cells j.flatten.toArray 47 (0,0)):=d.1;rw[k] at a;injection a with a;injection a with _ a;exact o a
abbrev QQs:=RowsAt QsAt
def QQs.be{w w':World}{B:Nat}{v:Value}{b:List (List Rat)}(h:QQs w B 39 v b)(a:Below w.heap.size w w'):QQs w' B 39 v b:=by
 obtain⟨j,c,d,e⟩:=h;exact⟨j,c.be a,d,fun i u l g f=>(e i u l g f).be a⟩
def QQs.up{a b:World}[u:Up a b]{B:Nat}{v:Value}{c:List (List Rat)}(h:QQs a B 39 v c):QQs b B 39 v c:=QQs.be h u.out
def QQs.push{w w':World}{B:Nat}{v j u:Value}{c:List Value}{e:List (List Rat)}{l:List Rat}(f:PRow w B 39 v c)(g:c.length=e.length)(m:∀(i:Nat) (u:Value) (l:List Rat),c[i]? =some u->e[i]? =some l->QsAt w u l)(o:QsAt w u l)
  (n:PRow w' B 39 j (c++[u]))(h:w.grownBy w' v.ownBlock):QQs w' B 39 j (e++[l]):=by
 refine⟨_,n,by rw[bE,bE,g];rfl,fun i x y a b=> ?_⟩;rcases dE i c.length with d|d
 ·rw[gA d] at a;rw[gA (by omega)] at b;exact(m i x y a b).grown f (by decide) h
 ·rw[fK d] at a;rw[fK (by omega),<-g] at b;have k:i-c.length=0:=by
   have:=(List.getElem?_eq_some_iff.1 a).1;simp at this;omega
  rw[k] at a b;simp at a b;subst a;subst b;exact o.grown f (by decide) h
def ML:(Tryz.prog.info? 39).map (fun i=>(i.zero,i.size,i.bytes))=some (some (.slice none 0 0),1,24):=by kernel_rfl
def vC(w:World)(L:List (List Rat))(e:Ending)(w':World):Prop:=∃a,e= .returned a∧QQs w' w.heap.size 39 a L∧Below w.heap.size w w'
def QQs.one{w:World}{B:Nat}{A:Option Addr}{k c:Nat}{l:List Rat}(h:QsAt w (.slice A k c) l)(d:B<=w.heap.size):QQs (w.alloc (.cells #[.slice A k c] 39)) B 39 (.slice (some ⟨w.heap.size,0,none⟩) 1 1) [l]:=by
 refine⟨[.slice A k c],.inr ⟨w.heap.size,1,#[.slice A k c],rfl,d,heap_alloc_new w _,aE,by decide,rfl,rfl,fun u a=> ?_⟩,rfl,fun i u e a b=> ?_⟩
 ·exact⟨A,k,c,by simpa using a⟩
 ·cases i with
  |zero=>
   injection a with a;injection b with b;subst a b;exact h.be ((aG _ _).alloc aE _)
  |succ i=>simp at a
def TsAt.mono'{w:World}{B a:Nat}{v:Value}{b:List (List (List UInt8))}(h:TsAt w B 22 v b)(j:a<=B):TsAt w a 22 v b:=by
 obtain⟨l,e,f,i⟩:=h;refine⟨l,?_,f,i⟩;rcases e with h|⟨g,c,d,hv,k,h⟩
 ·exact .inl h
 ·exact .inr ⟨g,c,d,hv,aH j k,h⟩
end Go.Proofs.YtbmafhclcdcepaaGreatDoor
namespace Go.Proofs.YtbmafhclcdcepaaGreatDoor
open Sos
def azO(g:List Int)(k:Nat):cf (cE g) k=(1/((cf g (g.length-1):Int):Rat))*cf g k:=by unfold cE;rw[xN];grind
def byU{x y:Rat}(b:x≠0)(c:y≠0):1/x*(1/y)=1/(x*y):=by
 have d:=gW (a:=1) b;have e:=gW (a:=1) c;have f:=gW (a:=1) (m6 b c)
 calc 1/x*(1/y)=1/x*(1/y)*(1/(x*y)*(x*y)):=by rw[f,Rat.mul_one]
  _=(1/x*x)*(1/y*y)*(1/(x*y)):=by grind
  _=1/(x*y):=by rw[d,e,Rat.mul_one,Rat.one_mul]
def aq6{x:Rat}(b:x≠0):1/x≠0:=fun e=>by
 have:=gW (a:=1) b;rw[e,Rat.zero_mul] at this;exact absurd this (by decide)
def byV{r a g:List Int}(n:Pp r)(b:Pp a)(c:Pp g)(d:∀i,cf r i=conv (cf a) (cf g) i):DivQ (cE r) (cE g) (cE a) []:=by
 have f:=gJ ((bN b.ne).1 b.tr);have k:=gJ ((bN c.ne).1 c.tr);obtain⟨-,l⟩:=K7 b.tr n.tr c.tr c.ne d;have o:=l b.ne;have p:=List.length_pos_iff.2 b.ne;have m:=List.length_pos_iff.2 c.ne;have e:cf r (r.length-1)=cf a (a.length-1)*cf g (g.length-1):=by
  rw[d,show r.length-1=a.length-1+(g.length-1) by omega];exact p5 (fun i j=>bV (by omega)) (fun i j=>bV (by omega))
 refine⟨fun i=> ?_,by rw[pN];exact CQ (.inl (aq6 f)) b.tr,(fun a h=>by simp at h),by rw[(uD c.tr).1];exact m⟩;rw[eR,Rat.add_zero,gL (azO a) (azO g),kT,rF,azO,<-oD,<-d i,e,eJ,<-byU f k,Rat.mul_assoc]
def aq7{g:List Int}(b:Pp g)(h:g.length=1):cE g=[1]:=by
 obtain⟨y,rfl⟩:=List.length_eq_one_iff.1 h;have d:=gJ (b.tr y rfl);have c:=gW (a:=(1:Rat)) d;refine oR (uD b.tr).1 (fun i=> ?_);rw[azO];cases i with
 |zero=>exact c
 |succ i=>show _*((0:Int):Rat)=0;grind
end Go.Proofs.YtbmafhclcdcepaaGreatDoor
namespace Go.Proofs.YtbmafhclcdcepaaGreatDoor
open Go.RowKit Sos Tryz
def azE(w:World)(q:List Rat)(e:Ending)(w':World):Prop:=∃v u,e= .returned (.tuple #[v,u])∧QsAt w' v q∧QsAt w' u []∧Below w.heap.size w w'
def ZB{r a g:List Int}{K:Nat}(f:Pp r)(s:Pp a)(c:Pp g)(j:∀i,cf r i=conv (cf a) (cf g) i)(q:∀n∈r,nl n.natAbs<=K)(p:∀n∈g,nl n.natAbs<=K)(b:1<=K)(E:r.length<=8)(y:K<=10000000)(v u:Value)(w:World)(hv:QsAt w v (cE r))(m:QsAt w u (cE g)):
  Calls prog 65 #[v,u] w (azE w (cE a)):=by
 have d:=uD c.tr;have D:=List.length_pos_iff.2 c.ne;have F:=(uD f.tr).1;have e:=JY K 8;have l:=L3 (cE r) (cE g) v u w hv m K (CU q b) (CU p b) b (by omega) (by rw[d.1];omega) (d.ne c.ne) 20000000000 (aH (eV 2 (uF K (show(cE r).length<=8 by omega))) (by omega)) (by decide);refine l.mono ?_;rintro x G ⟨t,u1,Q,R,rfl,b,o,h,z,B,A,C,k⟩;obtain⟨rfl,rfl⟩:=h.unique (byV f s c j) (d.ne c.ne) (by rw[d.1];omega);exact⟨t,u1,rfl,b,o,k⟩
def aq3{r:List Int}{K:Nat}(b:Pp r)(c:∀n∈r,nl n.natAbs<=K)(a:1<=K)(e:r.length<=8)(d:K<=10000000)(v:Value)(w:World)(hv:QsAt w v (cE r)):
  Calls prog 64 #[v] w (lT w (fW (cE r))):=by
 have:=(uD b.tr).1;have h:=JF (cE r) v w hv K (CU c a) (by omega) a (by omega);rwa [(MI (uD b.tr)).2] at h
def aq4{B:Nat}{r g:List Int}(h:Pp r)(c:Euc B r (aS (bB r)) g)(f:∀n∈r,nl n.natAbs+1<=B)(i:2<=B)(k:r.length<=8)(d:B<=10000000)(v u:Value)(w:World)(hv:QsAt w v (cE r))(e:QsAt w u (fW (cE r))):
  Calls prog 63 #[v,u] w (lT w (cE g)):=by
 have p:=uD h.tr;have j:=qO (cE r);have b:∀n∈r,nl n.natAbs<=B-1:=fun n hn=>by have:=f n hn;omega
 refine ZJ B (cE r) (fW (cE r)) r (aS (bB r)) g v u w hv e p (MI p).1 (.inl c) B (fun q a=>bU (CU b (by omega) q a) (by omega)) (fun q a=>bU (JE (CU b (by omega)) (by have:=p.1;omega) (by omega) q a) (by omega)) aE (by omega) (by have:=p.1;omega) (by have:=p.1;omega) d
def aq5:Pp [1]:=⟨by decide,oB rfl,by decide⟩
def RfO.quoW{w r a g:List Int}(d:DvW w r)(c:Pp a)(b:Pp g)(e:∀i,cf r i=conv (cf a) (cf g) i):DvW w a∧DvW w g:=
 d.quo c.ne c.tr b.ne b.tr b.pr (by have:=(K7 c.tr d.tr b.tr b.ne e).2 c.ne;omega) e
def RfO.round {B:Nat} {w r a g:List Int} {es:List (List Int)} (h:RfO B r a g es) (F:DvW w r) (j:∀p,DvW w p->(∀n∈p,nl n.natAbs+1<=B)∧p.length<=8) (P:2<=B) (k:B<=10000000):∃(D E:List Rat) (e:List Int) (z:List (List Int)),es=e :: z
      ∧(∀v u W,QsAt W v (cE g)->QsAt W u (fW (cE g))->Calls prog 63 #[v,u] W (lT W D))
      ∧(∀v u W,QsAt W v (cE g)->QsAt W u D->Calls prog 65 #[v,u] W (azE W E))
      ∧(∀v u W,QsAt W v (cE a)->QsAt W u (if g.length<=1 then [1] else E)->Calls prog 65 #[v,u] W (azE W (cE e)))
      ∧(g.length=1∧z=[]∨DvW w g∧∃b y,RfO B g b y z):=by
 have f:∀{p},DvW w p->(∀n∈p,nl n.natAbs<=B):=fun R n hn=>by have:=(j _ R).1 n hn;omega
 cases h with
 | @last r a g O T o d h A G=>
  obtain⟨s,dg⟩:=RfO.quoW F o d A;have p:=uD d.tr;have X:=lZ g;have L:aS (bB g)=[]:=bX (by rw[dF];omega);have I:∀n∈([1]:List Int),nl n.natAbs<=B:=fun n hn=>by
   rw[List.mem_singleton.1 hn];exact aH (cJ (m:=1) (by unfold BN;decide)) (by omega)
  refine⟨cE [1],cE g,a,[],rfl,fun v u W hv c=> ?_,fun v u W hv c=>ZB d d aq5 (fun i=>(CO _ i).symm) (f dg) I (by omega) (j _ dg).2 k v u W hv c,fun v u W hv c=> ?_,.inl ⟨G,rfl⟩⟩
  ·have V:=qO (cE g);have q:=MI p;rw[L] at q;exact ZJ B (cE g) (fW (cE g)) g [] [1] v u W hv c p q.1 (.inr (.inl ⟨rfl,G,rfl⟩)) B (CU (f dg) (by omega)) (fun x H=>by rw[bX (l:=fW (cE g)) (by have:=p.1;omega)] at H;cases H) aE (by omega) (by have:=p.1;omega) (by have:=p.1;omega) k
  ·rw[if_pos (by omega),<-aq7 aq5 rfl] at c;exact ZB o o aq5 (fun i=>(CO _ i).symm) (f s) I (by omega) (j _ s).2 k v u W hv c
 | @step r a g b y e es O T o d S h A Q t=>
  obtain⟨s,dg⟩:=RfO.quoW F o d A;obtain⟨Y, -,C,J,U,K⟩:=t.facts;obtain⟨M,N⟩:=RfO.quoW dg C J K;refine⟨cE y,cE b,e,es,rfl,fun v u W hv c=>aq4 d U (j _ dg).1 P (j _ dg).2 k v u W hv c,fun v u W hv c=>ZB d C J K (f dg) (f N) (by omega) (j _ dg).2 k v u W hv c,fun v u W hv c=> ?_,.inr ⟨dg,b,y,t⟩⟩;rw[if_neg (by omega)] at c;exact ZB o S C Q (f s) (f M) (by omega) (j _ s).2 k v u W hv c
def byS{w:World}{s d:Bool}{A a:Option Addr}{l c b c':Nat}{q:Rat}(h:NQ w (.agg #[.bool s,.slice A l c,.bool d,.slice a b c']) q):QsAt (w.alloc (.cells #[.bool s,.slice A l c,.bool d,.slice a b c'] 47)) (.slice (some ⟨w.heap.size,0,none⟩) 1 1) [q]:=by
 have g:Below w.heap.size w (w.alloc (.cells #[.bool s,.slice A l c,.bool d,.slice a b c'] 47)):=(aG _ _).alloc aE _
 have f:OwnQ (w.alloc (.cells #[.bool s,.slice A l c,.bool d,.slice a b c'] 47)) w.heap.size [q]:=
  ⟨[[.bool s,.slice A l c,.bool d,.slice a b c']],⟨Bx.new w [.bool s,.slice A l c,.bool d,.slice a b c'] 47,fun r j=>by rw[List.mem_singleton.1 j];rfl⟩,aE,fun i x e=>by
   cases i with
   |zero=>injection e with e;subst e;exact⟨s,A,l,c,d,a,b,c',rfl,h.be g⟩
   |succ i=>simp at e⟩
 exact f.nums 1 aE
def azD(B:Nat)(w:List Int)(F:List Rat)(es:List (List Int)):Prop:=F=[1]∧es=[]∨∃r a g,RfO B r a g es∧DvW w r∧F=cE r
def RfO.short{B:Nat}{r a g:List Int}{es:List (List Int)}(h:RfO B r a g es):es.length<r.length∧es≠[]:=by
 induction h with
 |last f j c d h i n=>exact⟨f,by simp⟩
 | @step r a g b m e es f j c d l h i k t o=>
  have p:=(RfO.step f j c d l h i k t).long;have q:=(K7 c.tr j.tr d.tr d.ne i).2 c.ne;exact⟨by rw[eG];omega,by simp⟩
def byT{B:Nat}{O r:List Int}{es:List (List Int)}(h:azD B O (cE r) es)(he:es.length<=8)(D:DvW O r)(hN:∀p,DvW O p->(∀n∈p,nl n.natAbs+1<=B)∧p.length<=8)(h2:2<=B)(U:B<=10000000)(A:List Rat)(pA:Prp A r)(kA:∀q∈A,RL B q)(v:Value)(w:World)(hv:QsAt w v A):
  Calls prog 28 #[v] w (vC w (es.map cE)):=by
 obtain⟨A0,c0,rfl,az⟩:=hv.form;have aj:=fun W T=>DB A (.slice A0 A.length c0) W T B kA (by omega) (fun _=>pA.ne D.ne) (by have:=(hN _ D).2;have:=pA.1;omega) (by omega);rw[qT pA] at aj;have ak:∀W,Calls prog 66 #[.int .i64 1] W (eS W 1):=fun W=>r7 1 W (by decide);have Q:Hid (azD B O (cE r) es):=h;obtain⟨L,al⟩:∃L,es.map cE=L:=⟨_,rfl⟩;have K:Hid (([]:List (List Rat))++es.map cE=L):=al;rw[al];clear al;have P:Hid (([]:List (List Rat)).length+es.length<=8):=by show 0+es.length<=8;omega
 have HN:=aB hN;have ay:=fun W=>(RowsAt.nil QsAt W w.heap.size 39:QQs W w.heap.size 39 (.slice none 0 0) []);unfold lT at aj;unfold vC;generalize cE r=F at *;clear h he D hN pA kA;go_enter func28,ntmps28;go_wp2_with fail;refine(aj _ hv).mono ?_;rintro e1 w1 ⟨v1,rfl,h1,c⟩;obtain⟨A1,c1,rfl,a0⟩:=h1.form;clear aj hv;go_wp2_with fail;go_loopg [3,4] es.length (fun k vo vf wr=>∃(F:List Rat) (es:List (List Int)) (s:List (List Rat)),Hid (es.length=k)∧QQs wr w.heap.size 39 vo s∧QsAt wr vf F∧Hid (azD B O F es)∧Hid (s++es.map cE=L)∧Hid (s.length+es.length<=8)∧Below w.heap.size w wr)
 case atStart=>exact⟨F,es,[],rfl,ay _,h1,Q,K,P,c⟩
 case round=>
  clear ay h1 c Q K P a0 az;obtain⟨F,es,s,Hk,d,hF,Q,K,P,c⟩:=hrel;generalize wr=wy at *;obtain⟨AF,cF,rfl,a3⟩:=hF.form;obtain⟨Ao,co,rfl,a4⟩:=d.form;rcases Q.out with ⟨rfl,rfl⟩|⟨r,a,g,hR,D,rfl⟩
  ·have hE:s=L:=by have:=K.out;rwa [List.map_nil,fH] at this
   subst hE;go_wp2;go_ret;exact⟨_,rfl,d,c⟩
  ·obtain⟨G2,N1,e,E,rfl,c1,c2,C,ax⟩:=hR.round D HN.out h2 U;obtain⟨q1,Z,pa,N,hE,ha⟩:=hR.facts;obtain⟨da,dg⟩:=RfO.quoW D pa N ha;have M:=HN.out _ D;have bG:=HN.out _ dg;have kR:∀n∈r,nl n.natAbs<=B:=fun n hn=>by have:=M.1 n hn;omega
   have kG:∀n∈g,nl n.natAbs<=B:=fun n hn=>by have:=bG.1 n hn;omega
   have d1:=fun v W h=>aq3 Z kR (by omega) M.2 U v W h;have d2:=fun v u W h T=>aq4 Z hE M.1 h2 M.2 U v u W h T;have d3:=fun v u W h T=>ZB Z pa N ha kR kG (by omega) M.2 U v u W h T;have d4:=fun v W h=>aq3 N kG (by omega) bG.2 U v W h;have HX:Hid (azD B O (cE g) E):=by
    rcases ax with ⟨x,y⟩|⟨x,b,g2,y⟩
    ·exact .inl ⟨aq7 N x,y⟩
    ·exact .inr ⟨g,b,g2,y,x,rfl⟩
   have HG:Hid ((cE g).length=g.length):=(uD N.tr).1;have q0:(1:Int)<((cE r).length:Int):=by have:=(uD Z.tr).1;omega
   have av:Hid (s++[cE e]++E.map cE=L):=by have:=K.out;rw[fM] at this;unfold Hid;rw[<-this];simp
   have au:Hid (E.length+1=_):=Hk;have ad:Hid (s.length+E.length+1<=8):=by have:=P.out;rw[eG] at this;unfold Hid;omega
   rw[<-HG.out] at C;unfold lT at d1 d2 d4 c1;unfold azE at d3 c2 C;clear hR D da dg M bG kR kG Z pa N hE ha ax Q K P Hk HG q1;generalize fW (cE r)=D1 at *;generalize fW (cE g)=D2 at *;generalize cE r=F at *;generalize cE g=G at *;generalize cE a=A1 at *;generalize cE e=z at *;go_wp2_with fail;refine(d1 _ _ hF).mono ?_;rintro e2 w2 ⟨v2,rfl,aw,am⟩;replace hF:=hF.be am;replace d:=QQs.be d am;replace c:=aC c am;go_wp2_with fail;refine(d2 _ _ _ hF aw).mono ?_;rintro e3 w3 ⟨v3,rfl,f,an⟩;replace hF:=hF.be an;replace d:=QQs.be d an;replace c:=aC c an;go_wp2_with fail;refine(d3 _ _ _ hF f).mono ?_;rintro e4 w4 ⟨v4,u4,rfl,i, -,ao⟩;replace f:=f.be ao;replace d:=QQs.be d ao;replace c:=aC c ao;clear d1 d2 d3 hF aw;go_wp2_with fail;refine(d4 _ _ f).mono ?_;rintro e5 w5 ⟨v5,rfl,h5,ae⟩;replace f:=f.be ae;replace i:=i.be ae;replace d:=QQs.be d ae;replace c:=aC c ae;go_wp2_with fail;refine(c1 _ _ _ f h5).mono ?_;rintro e6 w6 ⟨v6,rfl,h6,af⟩;replace f:=f.be af;replace i:=i.be af;replace d:=QQs.be d af;replace c:=aC c af;go_wp2_with fail;refine(c2 _ _ _ f h6).mono ?_;rintro e7 w7 ⟨v7,u7,rfl,h7, -,ag⟩;replace f:=f.be ag;replace i:=i.be ag;replace d:=QQs.be d ag;replace c:=aC c ag;clear d4 c1 c2 h5 h6;obtain⟨A3,k3,rfl,a2⟩:=f.form;by_cases p:G.length<=1
   ·rw[if_pos p] at C;have q1:(G.length:Int)<=1:=by omega
    clear h7 p;unfold eS at ak;go_wp2_with fail;refine(ak _).mono ?_;rintro e8 w8 ⟨v8,rfl,h8,ah⟩;obtain⟨s5,A5,k5,c5,s6,A6,k6,c6,rfl⟩:=h8.form;replace f:=f.be ah;replace i:=i.be ah;replace d:=QQs.be d ah;replace c:=aC c ah;have ai:Below w8.heap.size w8 (w8.alloc (.cells #[.bool s5,.slice A5 k5 c5,.bool s6,.slice A6 k6 c6] 47)):=(aG _ _).alloc aE _;have hn:=byS h8;replace f:=f.be ai;replace i:=i.be ai;replace d:=QQs.be d ai;replace c:=aC c ai;clear ak h8;go_wp2_with fail;refine(C _ _ _ i hn).mono ?_;rintro e9 j ⟨v9,u9,rfl,l, -,I⟩;replace f:=f.be I;replace d:=QQs.be d I;replace c:=aC c I;obtain⟨H,J,rfl,ap⟩:=l.form;have m:Below j.heap.size j (j.alloc (.cells #[.slice H z.length J] 39)):=(aG _ _).alloc aE _;have R:=Bx.new j [.slice H z.length J] 39;replace l:=l.be m;replace f:=f.be m;replace d:=QQs.be d m;have a1:w.heap.size<=j.heap.size:=c.size;replace c:=aC c m;have S:=R.cell 0 rfl;obtain⟨ac,o,X,Y⟩:=id d;have ar:ac.length<=8:=by have:=ad.out;omega
    clear C i ap;go_wp2_with (at_builtin;refine K4 rfl rfl 39 24 underlying77 ML w.heap.size _ ac rfl o j.heap.size (.slice H z.length J) rfl S ⟨_,_,_,rfl⟩ (by omega) (by unfold maxLen;omega) c.size ?_;intro v8 w8 V aq t);have zf:=QQs.push o X Y l V t;have zy:=f.grown o (by decide) t;have zz:=K5 c t o aE;clear d f l m R S V aq t o X Y ar c;go_roundg E.length
    case rel=>exact⟨G,E,s++[z],rfl,zf,zy,HX,av,(by have:=ad.out;unfold Hid;rw[bE,iJ];omega),zz⟩
    case measure=>have:=au.out;omega
   ·rw[if_neg p] at C;have q1:¬(G.length:Int)<=1:=by omega
    clear p ak;go_wp2_with fail;refine(C _ _ _ i h7).mono ?_;rintro e9 j ⟨v9,u9,rfl,l, -,I⟩;replace f:=f.be I;replace d:=QQs.be d I;replace c:=aC c I;obtain⟨H,J,rfl,ap⟩:=l.form;have m:Below j.heap.size j (j.alloc (.cells #[.slice H z.length J] 39)):=(aG _ _).alloc aE _;have R:=Bx.new j [.slice H z.length J] 39;replace l:=l.be m;replace f:=f.be m;replace d:=QQs.be d m;have a1:w.heap.size<=j.heap.size:=c.size;replace c:=aC c m;have S:=R.cell 0 rfl;obtain⟨ac,o,X,Y⟩:=id d;have ar:ac.length<=8:=by have:=ad.out;omega
    clear C i ap;go_wp2_with (at_builtin;refine K4 rfl rfl 39 24 underlying77 ML w.heap.size _ ac rfl o j.heap.size (.slice H z.length J) rfl S ⟨_,_,_,rfl⟩ (by omega) (by unfold maxLen;omega) c.size ?_;intro v8 w8 V aq t);have zf:=QQs.push o X Y l V t;have zy:=f.grown o (by decide) t;have zz:=K5 c t o aE;clear d f l m R S V aq t o X Y ar c;go_roundg E.length
    case rel=>exact⟨G,E,s++[z],rfl,zf,zy,HX,av,(by have:=ad.out;unfold Hid;rw[bE,iJ];omega),zz⟩
    case measure=>have:=au.out;omega
def DvW.refl{w:List Int}(h:Pp w):DvW w w:=⟨h.ne,h.tr,h.pr,aE,[1],fun i=>(CO _ i).symm⟩
def byR{B q:Nat}{w a j g Q:List Int}{es l:List (List Int)}(c:Pp w)(h:RfO q w a j es)(b:pO B w (bB w) g)(f:QuoOf w g Q)(v:Sqf B Q g l):l.map cE=es.map cE:=by
 obtain⟨E, -,F,G,k,y⟩:=h.facts;have n:=lZ w;have i:=lE c.tr;unfold pO at b;rw[if_neg (by omega),XC c.pr] at b;have z:bB w≠[]:=fun e=>by rw[e] at n;simp at n;omega
 have m:=XA b c.pr (.inr (xZ (nI i z)));have D:=V5 b c.tr (gV i);have d:Pp g:=⟨(fun e=>by rw[e] at m;cases m),D,m⟩;have r:DvE (aX g) (aT 1 j):=axV b (gV i) _ (OB (JS k).1) (OB (JS k).2);have s:DvE (aX j) (aT 1 g):=axV k (gV i) _ (OB (JS b).1) (OB (JS b).2);have o:=aqN d.ne d.tr r s;have A:Aso w w:=⟨1,by decide,fun x=>by rw[Rat.one_mul]⟩;have u:=azY A o d.ne d.tr (fun x=>lD f.id_ x) (fun x=>lD y x);have C:Q≠[]:=fun t=>by
  obtain⟨x,p⟩:=KA c.ne c.tr;rw[l5,lD f.id_,t,DS,Rat.zero_mul] at p;exact p rfl
 exact byD h ⟨C,f.trim,azB c.pr f.id_⟩ d u o v
def RfO.all{B:Nat}{w r a g:List Int}{es:List (List Int)}(h:RfO B r a g es):DvW w r->∀e∈es,DvW w e:=by
 induction h with
 |last l p i j h c q=>intro b e d;rw[List.mem_singleton.1 d];exact(RfO.quoW b i j c).1
 |step l p i j o h c d t m=>
  intro b x f;obtain⟨k,dg⟩:=RfO.quoW b i j c;obtain⟨-, -,n, -⟩:=t.facts;rcases List.mem_cons.1 f with rfl|f
  ·exact(RfO.quoW k o n d).1
  ·exact m dg x f
end Go.Proofs.YtbmafhclcdcepaaGreatDoor
namespace Go.Proofs.YtbmafhclcdcepaaGreatDoor
open Sos
def aqY(c:Rat)(f:Nat->Rat)(i:Nat):conv (cf [c]) f i=c*f i:=by
 rw[gL (p':=fun k=>if k=0 then c else 0) (q':=f) (fun k=>by cases k<;>simp[cf]) (fun _=>rfl),qE,if_pos (dC i)];rfl
def aqZ{a b x:Rat}(d:x≠0)(h:a=b*x):a/x=b:=by
 have f:=gW (a:=a) d;have e:(a/x-b)*x=0:=by grind
 rcases Rat.mul_eq_zero.1 e with c|c
 ·grind
 ·exact absurd c d
def bx0{A:List Rat}{K:Nat}(d:∀q∈A,RL K q):∃D,ComDen A D (max 1 (A.length*K)):=by
 induction A with
 |nil=>exact⟨1,by decide,(fun q b=>by cases b),aH (cJ (m:=1) (by unfold BN;decide)) (Nat.le_max_left _ _)⟩
 |cons q A e=>
  have b:=(d q (iC ..)).2;have k:=q.den_pos;by_cases h:A=[]
  ·subst h;exact⟨(q.den:Int),by omega,fun x a=>by rw[List.mem_singleton.1 a];exact Int.dvd_refl _,by rw[dD,iJ,Nat.one_mul];omega⟩
  ·obtain⟨D,c⟩:=e (fun q b=>d q (j8 _ b));have i:Nat.lcm D.natAbs q.den≠0:=Nat.lcm_ne_zero (by have:=c.pos;omega) q.den_nz;have g:=List.length_pos_iff.2 h;have hn:=c.nl_;have f:1<=K:=xR (d q (iC ..));have j:=Nat.mul_le_mul g f;refine⟨((Nat.lcm D.natAbs q.den:Nat):Int),by omega,fun x a=> ?_,?_⟩
   ·rcases List.mem_cons.1 a with rfl|a
    ·exact Int.ofNat_dvd.2 (Nat.dvd_lcm_right _ _)
    ·exact Int.ofNat_dvd.2 (Nat.dvd_trans (Int.ofNat_dvd_left.1 (c.dvd x a)) (Nat.dvd_lcm_left _ _))
   ·rw[dD,eG,Nat.succ_mul];have:=VK D.natAbs q.den;omega
def byQ{N M:List Int}{x y:Int}(D:0<x)(E:0<y)(P:aN N)(d:N≠[])(O:aN M)(K:M≠[])(A:N.length=M.length)(h:∀i,cf N i*x=cf M i*y):aS N=aS M:=by
 have R:=nI P d;have S:=nI O K;have L:=xZ R;have p2:=xZ S;have I:=lW N;have J:=lW M;have H:(aS N).length=(aS M).length:=by rw[dF,dF,A]
 obtain⟨a,l⟩:∃a:Int,(bC N:Int)*x=a:=⟨_,rfl⟩;obtain⟨b,o⟩:∃b:Int,(bC M:Int)*y=b:=⟨_,rfl⟩;have u:0<a:=by rw[<-l];exact Int.mul_pos (by omega) D
 have T:0<b:=by rw[<-o];exact Int.mul_pos (by omega) E
 have t:∀i,cf (aS N) i*a=cf (aS M) i*b:=fun i=>by
  rw[<-l,<-o,<-Int.mul_assoc,<-Int.mul_assoc,I,J];exact h i
 have G:∀i,((cf (aS N) i:Int):Rat)*a=((cf (aS M) i:Int):Rat)*b:=fun i=>by
  rw[<-eJ,<-eJ,t]
 have m:=gJ (show a≠0 by omega);have e:=gW (a:=(b:Rat)) m
 obtain⟨q, -,C⟩:=YS (xs:=aS N) (g:=aS M) (Q:=[(b:Rat)/a]) p2 (fun i=>by
  rw[aqY];have c:(((cf (aS N) i:Int):Rat)-(b:Rat)/a*((cf (aS M) i:Int):Rat))*a=0:=by have:=G i;grind
  rcases Rat.mul_eq_zero.1 c with f|f
  ·grind
  ·exact absurd f m)
 have hn:(b:Rat)/a=((cf q 0:Int):Rat):=C 0;generalize cf q 0=n at *;have B:n*a=b:=by
  rw[hn,<-eJ] at e;exact Rat.intCast_inj.1 e
 have U:0<n:=by
  rcases Int.lt_or_le 0 n with k|k
  ·exact k
  ·have:=eH k (fP u);rw[Int.zero_mul] at this;omega
 have r:∀i,cf (aS N) i=n*cf (aS M) i:=fun i=>by
  have s:=t i;rw[<-B] at s;refine Int.eq_of_mul_eq_mul_right (show a≠0 by omega) ?_;rw[s,Int.mul_left_comm,Int.mul_assoc]
 have p:n.natAbs∣bC (aS N):=CM (fun z F=>by
  obtain⟨j,w,rfl⟩:=List.mem_iff_getElem.1 F;rw[<-fZ w,r];exact Int.dvd_mul_of_dvd_left (Int.natAbs_dvd.2 (Int.dvd_refl n)))
 rw[L] at p;have d:n=1:=by have:=Nat.dvd_one.1 p;omega
 refine List.ext_getElem H (fun j v c=> ?_);rw[<-fZ v,<-fZ c,r,d,Int.one_mul]
def bx3{A:List Rat}{D a:Int}{K d:Nat}(h:ComDen A D K)(b:ComDen A a d)(t:aN A)(c:A≠[]):aS (cC A D)=aS (cC A a):=
 byQ b.pos h.pos (oO h.pos h.dvd t) (fun e=>c ((az9 A D).1 e)) (oO b.pos b.dvd t) (fun e=>c ((az9 A a).1 e)) (by rw[oN,oN]) (fun i=>by
  have f:=JC A D h.dvd i;have g:=JC A a b.dvd i;refine Rat.intCast_inj.1 ?_;rw[eJ,eJ,f,g];grind)
end Go.Proofs.YtbmafhclcdcepaaGreatDoor
namespace Go.Proofs.YtbmafhclcdcepaaGreatDoor
open Go.RowKit Sos
section
variable {w w' w1 w2:World}{g g':Nat}{m n n':Int}{s:Bool}{A:Option Addr}{l c:Nat}
def ua{o:Obj}(h:Below w.heap.size w w'):Below w.heap.size w (w'.alloc o):=h.alloc h.size o
def ud(h:Below w.heap.size w w'):Below w.heap.size w w'.drew:=h.drew
def ut(h:Below w.heap.size w w1)(k:Below w1.heap.size w1 w2):Below w.heap.size w w2:=aC h k
def us{o:Nat}{v:Value}(h:Below w.heap.size w w')(a:w.heap.size<=g):Below w.heap.size w (w'.setCell ⟨g,o,none⟩ v):=h.setCell (p:=⟨g,o,none⟩) a v
def J9(h:IntAt w (.agg #[.bool s,.slice A l c]) n)(a:w.heap.size=g):IntBx (w.alloc (.cells #[.bool s,.slice A l c] 54)) g n:=
 ⟨_,_,_,_,Bx.newAt w [.bool s,.slice A l c] 54 g a,h.ke (Keep.alloc _ _)⟩
def xC(h:IntAt w (.agg #[.bool s,.slice A l c]) n):IntBx (w.alloc (.cells #[.bool s,.slice A l c] 54)) w.heap.size n:=J9 h rfl
def V3{o:Obj}(h:IntAt (w.alloc o) (.agg #[.bool s,.slice A l c]) n):IntBx ((w.alloc o).alloc (.cells #[.bool s,.slice A l c] 54)) (w.heap.size+1) n:=J9 h (World.size_alloc _ _)
def xD{o:Obj}(h:IntBx w g n):IntBx (w.alloc o) g n:=h.be ((aG _ _).alloc aE _)
def xE(h:IntBx w g m)(hn:IntAt w (.agg #[.bool s,.slice A l c]) n):IntBx ((w.setCell ⟨g,0,none⟩ (.bool s)).setCell ⟨g,1,none⟩ (.slice A l c)) g n:=(h.stored hn).1
def C0(a:IntBx w g' m)(hn:IntAt w (.agg #[.bool s,.slice A l c]) n')(b:g≠g')(h:IntBx w g n):IntBx ((w.setCell ⟨g',0,none⟩ (.bool s)).setCell ⟨g',1,none⟩ (.slice A l c)) g n:=h.step (a.stored hn).2 b
def zb(D:Bx w g [.bool false,.slice none 0 0] 54):IntBx w g 0:=⟨_,_,_,_,D,IntAt.zero _⟩
def V7{v:Value}(a:IntBx w g' m)(hn:IntAt w (.agg #[.bool s,.slice A l c]) n')(h:IntAt w v n):IntAt ((w.setCell ⟨g',0,none⟩ (.bool s)).setCell ⟨g',1,none⟩ (.slice A l c)) v n:=h.ke (a.stored hn).2.1
def azP{d:World}{t:Int}{j:Bool}{f:Option Addr}{i c':Nat}(I:IntBx w g m)(J:IntBx w g' t)(h:IntAt w (.agg #[.bool s,.slice A l c]) n)(k:IntAt w (.agg #[.bool j,.slice f i c']) n')(q:g≠g')(r:Below d.heap.size d w)(o:d.heap.size<=g)(p:d.heap.size<=g'):
  IntBx ((((w.setCell ⟨g,0,none⟩ (.bool s)).setCell ⟨g,1,none⟩ (.slice A l c)).setCell ⟨g',0,none⟩ (.bool j)).setCell ⟨g',1,none⟩ (.slice f i c')) g n∧
  IntBx ((((w.setCell ⟨g,0,none⟩ (.bool s)).setCell ⟨g,1,none⟩ (.slice A l c)).setCell ⟨g',0,none⟩ (.bool j)).setCell ⟨g',1,none⟩ (.slice f i c')) g' n'∧
  Below d.heap.size d ((((w.setCell ⟨g,0,none⟩ (.bool s)).setCell ⟨g,1,none⟩ (.slice A l c)).setCell ⟨g',0,none⟩ (.bool j)).setCell ⟨g',1,none⟩ (.slice f i c')):=by
 have a:=xE I h;have b:=C0 I h (fun e=>q e.symm) J;have c:=V7 I h k;exact⟨C0 b c q a,xE b c,us (us (us (us r o) o) p) p⟩
def tR{b:World}{e:Bool}{a:Option Addr}{d c':Nat}(h:IntAt w (.agg #[.bool s,.slice A l c]) n)(k:IntAt w (.agg #[.bool e,.slice a d c']) n')(f:Below b.heap.size b w):
  IntBx ((w.alloc (.cells #[.bool s,.slice A l c] 54)).alloc (.cells #[.bool e,.slice a d c'] 54)) w.heap.size n∧
  IntBx ((w.alloc (.cells #[.bool s,.slice A l c] 54)).alloc (.cells #[.bool e,.slice a d c'] 54)) (w.heap.size+1) n'∧
  Below b.heap.size b ((w.alloc (.cells #[.bool s,.slice A l c] 54)).alloc (.cells #[.bool e,.slice a d c'] 54)):=
 ⟨xD (xC h),V3 (k.ke (Keep.alloc _ _)),ua (ua f)⟩
def xF{e:World}{i:Bool}{d:Option Addr}{f c':Nat}(h:IntAt w (.agg #[.bool s,.slice A l c]) n)(k:IntAt w (.agg #[.bool i,.slice d f c']) n')(j:Below e.heap.size e w):
  IntBx ((w.alloc (.cells #[.bool i,.slice d f c'] 54)).alloc (.cells #[.bool s,.slice A l c] 54)) (w.heap.size+1) n∧
  IntBx ((w.alloc (.cells #[.bool i,.slice d f c'] 54)).alloc (.cells #[.bool s,.slice A l c] 54)) w.heap.size n'∧
  Below e.heap.size e ((w.alloc (.cells #[.bool i,.slice d f c'] 54)).alloc (.cells #[.bool s,.slice A l c] 54)):=by
 obtain⟨a,b,c⟩:=tR k h j;exact⟨b,a,c⟩
def xG{a:World}{e:Bool}{b:Option Addr}{d c':Nat}(h:IntAt w (.agg #[.bool s,.slice A l c]) n)(k:IntAt w (.agg #[.bool e,.slice b d c']) n')(J:IntBx w g' m)(i:Below a.heap.size a w)(f:a.heap.size<=g'):
  IntBx (((w.alloc (.cells #[.bool s,.slice A l c] 54)).setCell ⟨g',0,none⟩ (.bool e)).setCell ⟨g',1,none⟩ (.slice b d c')) w.heap.size n∧
  IntBx (((w.alloc (.cells #[.bool s,.slice A l c] 54)).setCell ⟨g',0,none⟩ (.bool e)).setCell ⟨g',1,none⟩ (.slice b d c')) g' n'∧
  Below a.heap.size a (((w.alloc (.cells #[.bool s,.slice A l c] 54)).setCell ⟨g',0,none⟩ (.bool e)).setCell ⟨g',1,none⟩ (.slice b d c')):=
 ⟨C0 (xD J) (k.ke (Keep.alloc _ _)) (by have:=J.lt;omega) (xC h),xE (xD J) (k.ke (Keep.alloc _ _)),us (us (ua i) f) f⟩
def xH{a:World}{e:Bool}{b:Option Addr}{d c':Nat}(I:IntBx w g m)(h:IntAt w (.agg #[.bool s,.slice A l c]) n)(k:IntAt w (.agg #[.bool e,.slice b d c']) n')(f:Below a.heap.size a w)(i:a.heap.size<=g):
  IntBx (((((w.alloc (.cells #[.bool false,.slice none 0 0] 54)).setCell ⟨g,0,none⟩ (.bool s)).setCell ⟨g,1,none⟩ (.slice A l c)).setCell ⟨w.heap.size,0,none⟩ (.bool e)).setCell ⟨w.heap.size,1,none⟩ (.slice b d c')) g n∧
  IntBx (((((w.alloc (.cells #[.bool false,.slice none 0 0] 54)).setCell ⟨g,0,none⟩ (.bool s)).setCell ⟨g,1,none⟩ (.slice A l c)).setCell ⟨w.heap.size,0,none⟩ (.bool e)).setCell ⟨w.heap.size,1,none⟩ (.slice b d c')) w.heap.size n'∧
  Below a.heap.size a (((((w.alloc (.cells #[.bool false,.slice none 0 0] 54)).setCell ⟨g,0,none⟩ (.bool s)).setCell ⟨g,1,none⟩ (.slice A l c)).setCell ⟨w.heap.size,0,none⟩ (.bool e)).setCell ⟨w.heap.size,1,none⟩ (.slice b d c')):=
 azP (xD I) (xC (IntAt.zero _)) (h.ke (Keep.alloc _ _)) (k.ke (Keep.alloc _ _)) (by have:=I.lt;omega) (ua f) i f.size
end
end Go.Proofs.YtbmafhclcdcepaaGreatDoor
namespace Go.Proofs.YtbmafhclcdcepaaGreatDoor
open Sos
section
variable {G:List Rat}{g s:List Int}{r0 r1 s0 s1:List Rat}
end
def QF(A:List Rat)(K:Nat):Prop:=∃(f:Nat->Int) (D:Int),0<D∧nl D.natAbs<=K∧(∀i,nl (f i).natAbs<=K)∧∀i,cf A i*(D:Rat)=((f i:Int):Rat)
def QF.mono{A:List Rat}{K L:Nat}(h:QF A K)(a:K<=L):QF A L:=by
 obtain⟨f,D,b,c,d,e⟩:=h;exact⟨f,D,b,aH c a,fun i=>aH (d i) a,e⟩
def QF.nums{A:List Rat}{K:Nat}(h:QF A K)(a:1<=K):∀q∈A,RL K q:=fun q b=>by
 obtain⟨f,D,g,c,d,e⟩:=h;obtain⟨i,hi,rfl⟩:=List.mem_iff_getElem.1 b;rw[<-fZ hi,<-aqZ (gJ (show D≠0 by omega)) (e i).symm];exact pM (d i) c a
def QF.mul{A B:List Rat}{K L:Nat}(c:QF A K)(d:QF B L)(s:A.length+B.length<=1073741824):QF (aW aV (pQ A B)) (K+L+1):=by
 obtain⟨f,D,h,o,q,e⟩:=c;obtain⟨g,E,l,p,r,b⟩:=d;refine⟨fun i=>if i<A.length+B.length then conv f g i else 0,D*E,Int.mul_pos h l,aH (gT _ _ _ _ o p) (Nat.le_succ _),fun i=> ?_,fun i=> ?_⟩
 ·show nl (if i<A.length+B.length then conv f g i else 0).natAbs<=_
  split
  ·exact K6 q r (by omega)
  ·exact aH (cJ (m:=0) (n:=0) (by decide)) (dC _)
 ·rw[iS,az8];show _=(((if i<A.length+B.length then conv f g i else 0:Int)):Rat)
  split
  ·rw[oD,gL (fun k=>(e k).symm.trans (Rat.mul_comm _ _)) (fun k=>(b k).symm.trans (Rat.mul_comm _ _)),kT,rF,eJ];grind
  ·rw[rG (fun j a=>bV a) (fun j a=>bV a) (by omega)];simp
def QF.short{A:List Rat}(b:∀q∈A,RL 1 q)(c:A.length<=4):QF A 5:=by
 obtain⟨D,a⟩:=bx0 b;have d:=a.nl_;exact⟨cf (cC A D),D,a.pos,by omega,fun i=>aH (iU (sA A D 1 4 b (by omega)) i) (by decide),fun i=>(JC A D a.dvd i).symm⟩
def QF.nil:QF [] 1:=⟨fun _=>0,1,by decide,cJ (m:=1) (by unfold BN;decide),fun _=>show nl (0:Int).natAbs<=1 from cJ (m:=1) (by unfold BN;decide),fun i=>by rw[eR,Rat.zero_mul,Rat.intCast_zero]⟩
def by6(q:Rat):q*((q.den:Int):Rat)=(q.num:Rat):=by
 have b:=gJ (show(q.den:Int)≠0 by have:=q.den_pos;omega);have h:=gW (a:=(q.num:Rat)) b;rw[Rat.intCast_natCast] at h⊢;rwa [<-VF] at h
def QF.one{q:Rat}{K:Nat}(h:RL K q):QF [q] K:=⟨fun i=>if i=0 then q.num else 0,(q.den:Int),by have:=q.den_pos;omega,h.2,fun i=>by
 show nl (if i=0 then q.num else 0).natAbs<=K
 split
 ·exact h.1
 ·exact aH (cJ (m:=0) (n:=0) (by decide)) (dC _),fun i=>by
 cases i with
 |zero=>exact by6 q
 |succ i=>rw[bV (by simp)];show _=(((if i+1=0 then q.num else 0:Int)):Rat);rw[if_neg (by omega),Rat.zero_mul,Rat.intCast_zero]⟩
def QF.der{A:List Rat}{K:Nat}(h:QF A K)(c:A.length<=1073741824):QF (aW aV (fW A)) (K+1):=by
 obtain⟨f,D,a,d,b,e⟩:=h;refine⟨fun i=>if i<A.length then f (i+1)*((i:Int)+1) else 0,D,a,by omega,fun i=> ?_,fun i=> ?_⟩
 ·show nl (if i<A.length then f (i+1)*((i:Int)+1) else 0).natAbs<=_
  split
  ·exact gT _ _ _ _ (b _) (cJ (by rw[show((i:Int)+1).natAbs=i+1 by omega];unfold BN;omega))
  ·exact aH (cJ (m:=0) (n:=0) (by decide)) (dC _)
 ·rw[iS,tV];show _=(((if i<A.length then f (i+1)*((i:Int)+1) else 0:Int)):Rat)
  split
  ·rw[eJ,<-e,show(((i:Int)+1:Int):Rat)=((i+1:Nat):Rat) by rw[show((i:Int)+1)=((i+1:Nat):Int) from rfl,Rat.intCast_natCast]];grind
  ·rw[bV (by omega),Rat.zero_mul,Rat.zero_mul,Rat.intCast_zero]
def QF.mon_{e:List Int}{K:Nat}(d:e≠[])(g:aN e)(a:∀n∈e,nl n.natAbs<=K):QF (cE e) K:=by
 have f:=(bN d).1 g;have c:=iU a (e.length-1);have b:∀i,cf (cE e) i*((cf e (e.length-1):Int):Rat)=((cf e i:Int):Rat):=fun i=>by
  show cf (tT e (cf e (e.length-1))) i*_=_
  rw[xN];exact gW (gJ f)
 generalize cf e (e.length-1)=l at *;rcases Int.lt_or_le 0 l with h|h
 ·exact⟨cf e,l,h,c,iU a,b⟩
 ·exact⟨fun i=> -cf e i, -l,by omega,by rw[Int.natAbs_neg];exact c,fun i=>by rw[Int.natAbs_neg];exact iU a i,fun i=>by rw[Rat.intCast_neg,Rat.intCast_neg,<-b i];grind⟩
def by7{A B:List Rat}(k:aN A)(l:aN B)(b:A≠[])(c:B≠[]):(aW aV (pQ A B)).length+1=A.length+B.length∧cf (aW aV (pQ A B)) ((aW aV (pQ A B)).length-1)=cf A (A.length-1)*cf B (B.length-1):=by
 have s:=List.length_pos_iff.2 b;have t:=List.length_pos_iff.2 c;have d:∀i,cf (aW aV (pQ A B)) i=conv (cf A) (cf B) i:=fun i=>by rw[iS,az8]
 have e:=p5 (p:=cf A) (q:=cf B) (m:=A.length-1) (n:=B.length-1) (fun i g=>bV (by omega)) (fun i g=>bV (by omega));have f:cf A (A.length-1)*cf B (B.length-1)≠0:=m6 ((bN b).1 k) ((bN c).1 l);have o:(aW aV (pQ A B)).length<=A.length+B.length-1:=XT (fun j a=>by rw[az8];exact rG (fun j a=>bV a) (fun j a=>bV a) (by omega));have r:A.length-1+(B.length-1)<(aW aV (pQ A B)).length:=by
  rcases dE (A.length-1+(B.length-1)) (aW aV (pQ A B)).length with h|h
  ·exact h
  ·exact absurd (by rw[<-e,<-d,bV h]) f
 exact⟨by omega,by rw[d,show(aW aV (pQ A B)).length-1=A.length-1+(B.length-1) by omega,e]⟩
def by8(A B:List Rat)(x:Rat):aI (aW aV (pQ A B)) x=aI A x*aI B x:=by
 rw[<-fY];exact oT (fun i=>by rw[iS,az8,uU]) x
def azI:List (List Rat)->Nat->Nat
 |[],_=>0
 |f :: F,n=>n*(f.length-1)+azI F (n+1)
def Z9:List (List Rat)->Nat->Rat->Rat
 |[],_,_=>1
 |f :: F,n,x=>aI f x^n*Z9 F (n+1) x
structure OuI(lead:Rat)(K N:Nat)(G:Rat->Rat)(f:List Rat)(r:Nat)(rest:List (List Rat))(n:Nat)(O:List Rat):Prop where
 tr:aN O
 ne:O≠[]
 le:cf O (O.length-1)=lead
 len:O.length+r*(f.length-1)+azI rest n=N+1
 qf:QF O (41+K*(O.length-1))
 ev:∀x,aI O x*aI f x^r*Z9 rest n x=G x
def OuI.next{lead:Rat}{K N:Nat}{G:Rat->Rat}{f:List Rat}{r:Nat}{rest:List (List Rat)}{n:Nat}{O:List Rat}(h:OuI lead K N G f (r+1) rest n O)(o:aN f)(d:f≠[])(a:cf f (f.length-1)=1)(m:QF f (K-1))(p:1<=K)(q:N<=1000):OuI lead K N G f r rest n (aW aV (pQ O f)):=by
 obtain⟨b,l⟩:=by7 h.tr o h.ne d;have t:=List.length_pos_iff.2 h.ne;have s:=List.length_pos_iff.2 d;have k:=h.len;rw[Nat.succ_mul] at k;refine⟨jS _,fun e=>by rw[e] at b;simp at b;omega,by rw[l,h.le,a,Rat.mul_one],by omega,?_,fun x=>by rw[by8,<-h.ev x,Rat.pow_succ];grind⟩;by_cases g:f.length=1
 ·have e:aW aV (pQ O f)=O:=oZ (jS _) h.tr (fun i=>by
   obtain⟨c,rfl⟩:=List.length_eq_one_iff.1 g;have j:c=1:=a;subst j;rw[iS,az8,sO,aqY,Rat.one_mul])
  rw[e];exact h.qf
 ·refine(h.qf.mul m (by omega)).mono ?_;have e:(aW aV (pQ O f)).length-1=O.length-1+(f.length-1):=by omega
  rw[e,iL];have:=eV K (show 1<=f.length-1 by omega);omega
def OuI.open_{lead:Rat}{K N:Nat}{G:Rat->Rat}{f g:List Rat}{rest:List (List Rat)}{n:Nat}{O:List Rat}(h:OuI lead K N G f 0 (g :: rest) n O):OuI lead K N G g n rest (n+1) O:=
 ⟨h.tr,h.ne,h.le,by have:=h.len;rw[Nat.zero_mul] at this;unfold azI at this;omega,h.qf,fun x=>by have:=h.ev x;rw[Rat.pow_zero] at this;unfold Z9 at this;grind⟩
def OuI.size{lead:Rat}{K N:Nat}{G:Rat->Rat}{f:List Rat}{r:Nat}{rest:List (List Rat)}{n:Nat}{O:List Rat}(h:OuI lead K N G f r rest n O):O.length<=N+1:=by have:=h.len;omega
def OuI.done{K:Nat}{G:Rat->Rat}{f:List Rat}{n:Nat}{O P:List Rat}{k:Rat}(h:OuI (cf P (P.length-1)) K (P.length-1) G f 0 [] n O)(l:aN P)(j:P≠[])(p:∀x,aI P x=k*G x):O=P:=by
 have g:=h.len;have t:=List.length_pos_iff.2 j;rw[Nat.zero_mul] at g;have s:O.length=P.length:=by unfold azI at g;omega
 have e:∀i,cf P i=k*cf O i:=fun i=>by
  have:=LL (a:=P) (b:=O.map (fun q=>k*q)) (fun x=>by
   rw[iI,p,<-h.ev x,Rat.pow_zero];unfold Z9;grind) i
  rw[this,mG (fun q=>k*q) (gX _)]
 have m:=e (P.length-1);have c:=h.le;rw[s] at c;rw[c] at m;have o:=(bN j).1 l;have r:k=1:=by
  have:(k-1)*cf P (P.length-1)=0:=by grind
  rcases Rat.mul_eq_zero.1 this with d|d
  ·grind
  ·exact absurd d o
 refine oZ h.tr l (fun i=> ?_);rw[e i,r,Rat.one_mul]
def azJ(e:List Int)(x:Rat):aI (cE e) x=(1/((cf e (e.length-1):Int):Rat))*aX e x:=by
 rw[pN,<-l5,<-iI];exact oT (fun i=>by rw[dS,mG (fun q=>(1/((cf e (e.length-1):Int):Rat))*q) (gX _),dS,Rat.one_mul]) x
def azV{x:Rat}(h:x≠0):∀n:Nat,x^n≠0
 |0=>by rw[Rat.pow_zero];decide
 |n+1=>by rw[Rat.pow_succ];exact m6 (azV h n) h
def azW(x y:Rat):∀n:Nat,(x*y)^n=x^n*y^n
 |0=>by rw[Rat.pow_zero,Rat.pow_zero,Rat.pow_zero,Rat.mul_one]
 |n+1=>by rw[Rat.pow_succ,Rat.pow_succ,Rat.pow_succ,azW x y n];grind
def aqL{es:List (List Int)}(h:∀e∈es,e≠[]∧aN e):∀n,∃k:Rat,k≠0∧∀x,Z9 (es.map cE) n x=k*pD es n x:=by
 induction es with
 |nil=>exact fun n=>⟨1,by decide,fun x=>by show(1:Rat)=1*1;rw[Rat.mul_one]⟩
 |cons e es f=>
  intro n;obtain⟨k,c,a⟩:=f (fun e b=>h e (j8 _ b)) (n+1);obtain⟨g,i⟩:=h e (iC ..);have d:=aq6 (gJ ((bN g).1 i));refine⟨(1/((cf e (e.length-1):Int):Rat))^n*k,m6 (azV d n) c,fun x=> ?_⟩;show aI (cE e) x^n*Z9 (es.map cE) (n+1) x=_*(aX e x^n*pD es (n+1) x)
  rw[a,azJ,azW];grind
end Go.Proofs.YtbmafhclcdcepaaGreatDoor
namespace Go.Proofs.YtbmafhclcdcepaaGreatDoor
open Go.RowKit Sos
def aqE(l:List Rat):l≠[]->0<cf l (l.length-1)->∃X m:Rat,0<m∧∀x,X<=x->m<=aI l x:=by
 induction l with
 |nil=>exact fun h=>absurd rfl h
 |cons a p g=>
  intro _ h;by_cases b:p=[]
  ·subst b;refine⟨0,a,h,fun x _=> ?_⟩;show a<=0*x+a
   grind
  ·have r:=List.length_pos_iff.2 b;have e:cf (a :: p) ((a :: p).length-1)=cf p (p.length-1):=by
    rw[eG,show p.length+1-1=(p.length-1)+1 by omega];rfl
   rw[e] at h;obtain⟨X,m,f,d⟩:=g b h;have k:(m-a)/m*m=m-a:=gW (by grind);refine⟨max (max X 0) ((m-a)/m),m,f,fun x n=> ?_⟩;have i:=d x (by grind);have c:0<=x:=by grind
   have j:(m-a)/m<=x:=by grind
   show m<=aI p x*x+a
   have o:=cA (show 0<=aI p x-m by grind) c;have q:=cA (show 0<=x-(m-a)/m by grind) (show 0<=m by grind);grind
def Q8{a:List Int}{x:Rat}(i:Int)(hi:0<i):aP a i x=(cf a (a.length-1)).sign:=by
 unfold aP;rw[if_neg (by omega),if_neg (by omega)]
def bxR{a:List Int}(b:a≠[])(k:aN a):∃X:Rat,∀x,X<=x->aP a 0 x=aP a 1 0:=by
 have l:=(bN b).1 k;rcases Int.lt_or_le 0 (cf a (a.length-1)) with h|h
 ·obtain⟨X,m,j,c⟩:=aqE (aT 1 a) (fun e=>b (bX (by rw[<-fX 1 a,e];rfl))) (by
   rw[fX,dS,Rat.one_mul];exact_mod_cast h)
  refine⟨X,fun x d=> ?_⟩;have:=c x d;rw[Q8 1 (by decide),Int.sign_eq_one_of_pos h,<-yI];exact yK (show 0<aX a x by rw[uQ];grind)
 ·have f:cf a (a.length-1)<0:=by omega
  obtain⟨X,m,j,c⟩:=aqE (aT (-1) a) (fun e=>b (bX (by rw[<-fX (-1) a,e];rfl))) (by
   rw[fX,dS];have:((cf a (a.length-1):Int):Rat)<0:=by exact_mod_cast f
   grind)
  refine⟨X,fun x d=> ?_⟩;have g:=c x d;have e:aI (aT (-1) a) x= -1*aX a x:=by
   rw[uQ,<-iI];exact oT (fun i=>by rw[dS,mG (fun q=> -1*q) (gX _),dS,Rat.one_mul]) x
  rw[Q8 1 (by decide),Int.sign_eq_neg_one_of_neg f,<-yI];exact yL (show aX a x<0 by rw[e] at g;grind)
def aqF(L:List (List Int)):(∀a∈L,a≠[]∧aN a)->∃X:Rat,∀x,X<=x->∀a∈L,aP a 0 x=aP a 1 0:=by
 induction L with
 |nil=>exact fun _=>⟨0,fun x _ a c=>by cases c⟩
 |cons b L f=>
  intro h;obtain⟨X,d⟩:=f (fun a c=>h a (j8 _ c));obtain⟨Y,e⟩:=bxR (h b iC).1 (h b iC).2;refine⟨max X Y,fun x g a c=> ?_⟩;rcases List.mem_cons.1 c with rfl|c
  ·exact e x (by grind)
  ·exact d x (by grind) a c
def bxS{K:Nat}{w s:List Int}{c:List (List Int)}(h:Cn K w s c)(y:aN w)(q:s.length<=7)(m:∀n∈s,nl n.natAbs<=K)(j:∀n∈aS (bB s),nl n.natAbs<=K)(x:Rat)(r:aP s 0 x≠0)(p:aP s 0 x≠aP s 1 0):0<fF s c 0 x 1 0:=by
 have v:=gV (lE h.sq.ts);have g:=h.st.mem v j
 obtain⟨X,o⟩:=aqF (s :: c) (fun a b=>by
  rcases List.mem_cons.1 b with rfl|b
  ·exact⟨h.sq.ne,h.sq.ts⟩
  ·exact⟨(g _ b).1,(g _ b).2.1⟩)
 obtain⟨n,hn⟩:=bxX (max X (max (x+1) (-x)));have z:=jZ n;have hv:=bxW (n:=n) (m0:=n+2) h y q m j (by omega);have i:=o (p2 n) (by grind);have e:(s :: c).map (fun a=>aP a 1 0)=(s :: c).map (fun a=>aP a 0 (p2 n)):=List.map_congr_left (fun a b=>(i a b).symm);have l:=i s iC;have b:ab x (p2 n):=⟨by grind,by grind⟩;have d:ab (p2 n) (p2 n):=⟨by grind,by grind⟩;have f:x<p2 n:=by grind
 have t:=hv.mono x (p2 n) b d f;have u:=hv.same x (p2 n) b d f;unfold fF;rw[e];rcases dE (aY 0 ((s :: c).map (fun a=>aP a 0 (p2 n)))) (aY 0 ((s :: c).map (fun a=>aP a 0 x))) with k|k
 ·omega
 ·have:=(u (Nat.le_antisymm k t)).2 r;exact absurd (this.symm.trans l) p
def aqG{x:Rat}(h:0<x):∀n:Nat,0<x^n
 |0=>by rw[Rat.pow_zero];decide
 |n+1=>by rw[Rat.pow_succ];exact Rat.mul_pos (aqG h n) h
def aqH{x:Rat}(h:x≠0):0<x*x:=by
 rcases iY x with k|k|k
 ·have:=Rat.mul_pos (show 0< -x by grind) (show 0< -x by grind);grind
 ·exact absurd k h
 ·exact Rat.mul_pos k k
def bxT{x:Rat}(h:x≠0)(n:Nat)(hn:n%2=1->0<x):0<x^n:=by
 rcases Nat.mod_two_eq_zero_or_one n with k|k
 ·obtain⟨m,rfl⟩:∃m,n=m+m:=⟨n/2,by omega⟩;rw[LE];exact aqH (azV h m)
 ·exact aqG (hn k) n
def bxU{a b:Rat}(es:List (List Int)):∀n,(∀e∈es,aX e a≠0∧aX e b≠0)->(∀(j:Nat) (e:List Int),es[j]? =some e->(n+j)%2=1->0<aX e a*aX e b)->0<pD es n a*pD es n b:=by
 induction es with
 |nil=>intro n _ _;show(0:Rat)<1*1;rw[Rat.mul_one];decide
 |cons e es o=>
  intro n d h;have m:=o (n+1) (fun e c=>d e (j8 _ c)) (fun j l c p=>h (j+1) l c (by omega));obtain⟨g,i⟩:=d e iC;have f:=bxT (m6 g i) n (fun k=>h 0 e rfl (by omega));rw[azW] at f;show 0<aX e a^n*pD es (n+1) a*(aX e b^n*pD es (n+1) b)
  have:=Rat.mul_pos f m;grind
def aqI{a:Rat}(es:List (List Int)):∀n,1<=n->pD es n a≠0->∀e∈es,aX e a≠0:=by
 induction es with
 |nil=>intro n _ _ e b;cases b
 |cons f es g=>
  intro n hn h e b c;rcases List.mem_cons.1 b with rfl|b
  ·refine h ?_;show aX e a^n*_=0
   obtain⟨m,rfl⟩:∃m,n=m+1:=⟨n-1,by omega⟩;rw[c,Rat.pow_succ,gX,Rat.zero_mul]
  ·exact g (n+1) (by omega) (fun d=>h (by show _*pD es (n+1) a=0;rw[d,gX])) e b c
def U8(a:List Int)(x:Rat):(aP a 0 x=1↔0<aX a x)∧(aP a 0 x=0↔aX a x=0)∧(aP a 0 x= -1↔aX a x<0):=by
 rw[<-yI];rcases uS x (aX a) with ⟨h,e⟩|⟨h,e⟩|⟨h,e⟩<;>rw[e]<;>refine⟨⟨fun k=> ?_,fun k=> ?_⟩,⟨fun k=> ?_,fun k=> ?_⟩,⟨fun k=> ?_,fun k=> ?_⟩⟩<;>first|(exact h)|(cases k;done)|rfl|(exfalso;grind)
def bxV{w:List Int}{es:List (List Int)}{k x:Rat}(A:w≠[])(D:aN w)(f:∀e∈es,e≠[]∧aN e)(c:∀y,aX w y=k*pD es 1 y)(s:aP w 1 0=1)(z:aP w 0 x= -1):∃(j:Nat) (e:List Int),es[j]? =some e∧j%2=0∧aP e 0 x≠0∧aP e 0 x≠aP e 1 0:=by
 obtain⟨X,t⟩:=aqF (w :: es) (fun a i=>by
  rcases List.mem_cons.1 i with rfl|i
  ·exact⟨A,D⟩
  ·exact f a i)
 have o:=t X Rat.le_refl;have l:=(U8 w X).1.1 ((o w iC).trans s);have g:=(U8 w x).2.2.1 z;have B:pD es 1 x≠0:=fun e=>by rw[c,e,gX] at g;exact absurd g (by decide)
 have C:pD es 1 X≠0:=fun e=>by rw[c,e,gX] at l;exact absurd l (by decide)
 have q:=aqI es 1 aE B;have E:=aqI es 1 aE C;rcases Classical.em (∃(j:Nat) (e:List Int),es[j]? =some e∧j%2=0∧aP e 0 x≠0∧aP e 0 x≠aP e 1 0) with h|h
 ·exact h
 ·exfalso
  have v:=bxU (a:=x) (b:=X) es 1 (fun e f=>⟨q e f,E e f⟩) (fun j e m K=>by
   have n:=dG m;have p:aP e 0 x≠0:=fun r=>q e n ((U8 e x).2.1.1 r);have d:aP e 0 x=aP e 1 0:=Classical.byContradiction (fun d=>h ⟨j,e,m,by omega,p,d⟩);rw[<-o e (j8 _ n)] at d;rcases qX e 0 x with k|k|k
   ·exact Rat.mul_pos ((U8 e x).1.1 k) ((U8 e X).1.1 (d ▸ k))
   ·exact absurd k p
   ·have F:=(U8 e x).2.2.1 k;have G:=(U8 e X).2.2.1 (d ▸ k);have:=Rat.mul_pos (show 0< -aX e x by grind) (show 0< -aX e X by grind);grind)
  have H:aX w x*aX w X=k*k*(pD es 1 x*pD es 1 X):=by rw[c,c];grind
  have u:k≠0:=fun e=>by rw[c,e,Rat.zero_mul] at g;exact absurd g (by decide)
  have I:=Rat.mul_pos (aqH u) v;have J:=Rat.mul_pos (show 0< -aX w x by grind) l;grind
def dM(a:List (List UInt8)):Int:=if vl a=true then (if a=[] then 5 else 0) else 1
def uL(a:List (List UInt8)):dM a=0∧vl a=true∧a≠[]∨dM a=1∧vl a=false∨dM a=5∧vl a=true∧a=[]:=by
 unfold dM;cases vl a with
 |false=>exact .inr (.inl ⟨rfl,rfl⟩)
 |true=>
  by_cases h:a=[]
  ·exact .inr (.inr ⟨by rw[if_pos rfl,if_pos h],rfl,h⟩)
  ·exact .inl ⟨by rw[if_pos rfl,if_neg h],rfl,h⟩
def bx5{y Q c:List Int}(b:Pp y)(e:∀i,cf y i=conv (cf Q) (cf c) i):Q≠[]:=fun d=>by
 obtain⟨x,a⟩:=KA b.ne b.tr;rw[l5,lD e,d,DS,Rat.zero_mul] at a;exact a rfl
def QuoOf.dvw{w y Q c:List Int}(a:DvW w y)(b:Pp c)(h:QuoOf y c Q):DvW w Q∧DvW w c:=
 RfO.quoW a ⟨bx5 a.pp h.id_,h.trim,azB a.pr h.id_⟩ b h.id_
def Sqf.all{B:Nat}{w p r:List Int}{l:List (List Int)}(h:Sqf B p r l):DvW w p->DvW w r->∀f∈l,DvW w f:=by
 induction h with
 |done=>intro _ _ f a;cases a
 |step n g i j t k=>
  intro b c f a;obtain⟨d, -, -, -⟩:=aqM b.pp c.pp g;have e:=QuoOf.dvw b d i;have m:=QuoOf.dvw c d j;rcases List.mem_cons.1 a with rfl|a
  ·exact e.1
  ·exact k e.2 m.1 f a
def azQ{B:Nat}{w g:List Int}(b:Pp w)(a:pO B w (bB w) g):Pp g∧Dv (cf w) g:=by
 have i:=lZ w;have f:=lE b.tr;unfold pO at a;rw[if_neg (by omega),XC b.pr] at a;have h:aS (bB w)=[]∨bC (aS (bB w))=1:=by
  by_cases d:bB w=[]
  ·exact .inl (bX (by rw[dF,d];rfl))
  ·exact .inr (xZ (nI f d))
 have c:=XA a b.pr h;exact⟨⟨(fun e=>by rw[e] at c;cases c),V5 a b.tr (gV f),c⟩,(JS a).1⟩
def byZ{W:World}(r:Glob W){w:List Int}{e N K B:Nat}(b:Pp w)(t:∀n∈w,nl n.natAbs<=e)(u:w.length<=N)(o:N<=1000)(s:e+2*N*(e+1)+2<=K)(p:(K+1)*3^N<=B)(q:5*B+8<=aJ):
  ∃es,(w.length=1∧es=[]∨∃a g,RfO B w a g es)∧∀d g Q l,pO d w (bB w) g->QuoOf w g Q->Sqf d Q g l->l.map cE=es.map cE:=by
 have v:=List.length_pos_iff.2 b.ne;by_cases m:1<w.length
 ·obtain⟨a,g,es,h, -⟩:=byB r b.ne b.tr t u o s p q w.length w aE (DvW.refl b) m;exact⟨es,.inr ⟨a,g,h⟩,fun d g Q l i c f=>byR b h i c f⟩
 ·refine⟨[],.inl ⟨by omega,rfl⟩,fun d g Q l i c f=> ?_⟩;obtain⟨j, -⟩:=azQ b i;have x:=(K7 c.trim b.tr j.tr j.ne c.id_).2 (bx5 b c.id_);have y:=List.length_pos_iff.2 j.ne;cases f with
  |done=>rfl
  |step k=>omega
def aq8{w:List Int}{b N K B:Nat}(a:Pp w)(c:∀n∈w,nl n.natAbs<=b)(i:w.length<=N)(j:N<=1000)(f:b+1<=K)(d:(K+1)*3^N<=B):GcdFit K B w (bB w):=by
 have k:=List.length_pos_iff.2 a.ne;have g:=lZ w;refine⟨a.tr,lE a.tr,fun n hn=>aH (c n hn) (by omega),fun n hn=>aH (pL c (by omega) n hn) f,fun h=>by omega,fun _=> ?_,by omega,by omega⟩;have e:(K+1)*(w.length-(bB w).length+2)*3^(bB w).length=(K+1)*3^w.length:=by
  rw[g,show w.length-(w.length-1)+2=3 by omega,iW,dN 3,<-dH,show(w.length-1).succ=w.length by omega]
 rw[e];exact aH (eV _ (cO (by decide) i)) d
def bz0{w g:List Int}{c N K B:Nat}(a:Pp w)(o:∀n∈w,nl n.natAbs<=c)(q:w.length<=N)(l:N<=1000)(m:c+2*N*(c+1)+1<=K)(p:pO B w (bB w) g):∃Q n,QuoOf w g Q∧(∀x∈g,nl x.natAbs<=K)∧(∀x∈Q,nl x.natAbs<=K)∧g.length<=1073741824∧n<=1073741824∧azN w n Q g:=by
 obtain⟨b,k⟩:=azQ a p;obtain⟨e,s,t,j,r,f⟩:=azM b.pr b.tr a.tr a.ne k;obtain⟨d,dg⟩:=(DvW.refl a).quo t j e b.tr b.pr r f;have i:=fun {x:List Int} (h:DvW w x) (n:Int) (hn:n∈x)=>aH (h.nums a.ne a.tr o q l n hn) m;exact⟨s,s.length+g.length,⟨j,e,b.tr,f⟩,i dg,i d,by have:=dg.len;omega,by have:=dg.len;have:=d.len;omega,d,dg,rfl,by omega⟩
def bz1{A:List Rat}{D:Int}{K:Nat}(h:ComDen A D K)(t:aN A)(a:A≠[]):Pp (aS (cC A D))∧(aS (cC A D)).length=A.length∧Prp A (aS (cC A D)):=by
 have c:cC A D≠[]:=fun e=>a ((az9 _ D).1 e);have tn:=oO h.pos h.dvd t;have b:(aS (cC A D)).length=A.length:=by rw[dF,oN]
 exact⟨⟨fun e=>a (bX (by rw[<-b,e];rfl)),gV tn,xZ (nI tn c)⟩,b,nM (uE h t)⟩
end Go.Proofs.YtbmafhclcdcepaaGreatDoor
namespace Go.Proofs.YtbmafhclcdcepaaGreatDoor
open Sos
def byY{A B:List Rat}{g:List Int}(a:Pp g)(m:DvE (aI A) (aT 1 g))(n:DvE (aI B) (aT 1 g))(h:Cop A B):g.length=1:=by
 obtain⟨u,r⟩:=m;obtain⟨v,hv⟩:=n;obtain⟨U,V,k⟩:=h;have s:=List.length_pos_iff.2 a.ne;rcases dE 1 g.length with f|f
 ·exfalso;have e:∀x,aI (fG (j0 (fG U u) (fG V v)) (aT 1 g)) x=aI [1] x:=fun x=>by
   rw[fY,lG,fY,fY,show aI [1] x=0*x+1 from rfl];have:=k x;rw[r,hv] at this;grind
  generalize j0 (fG U u) (fG V v)=q at *;have c:aW aV q≠[]:=fun d=>by
   have j:=e 0;rw[fY,<-oT (iS q),d,show aI [] (0:Rat)=0 from rfl,Rat.zero_mul,show aI [1] (0:Rat)=0*0+1 from rfl] at j;grind
  have t:=List.length_pos_iff.2 c;have o:cf (aT 1 g) (g.length-1)≠0:=by rw[dS,Rat.one_mul];exact gJ ((bN a.ne).1 a.tr)
  have b:=LL e ((aW aV q).length-1+(g.length-1));rw[uU,<-gL (iS q) (fun _=>rfl),p5 (fun i p=>bV (by omega)) (fun i p=>bV (by rw[fX];omega)),bV (l:=[(1:Rat)]) (by rw[iJ];omega)] at b;exact m6 ((bN c).1 (jS q)) o b
 ·omega
end Go.Proofs.YtbmafhclcdcepaaGreatDoor
namespace Go.Proofs.YtbmafhclcdcepaaGreatDoor
open Go.RowKit Sos Tryz
structure TxG(T:List (List UInt8))(K L:Nat):Prop where
 qf:QF (aU T) K
 len:T.length<=L
 txt:∀l∈T,l.length<=1073741824
def mT(a b:List (List UInt8)):List (List UInt8):=if vl a=true∧vl b=true then (aW aV (pQ (aU a) (aU b))).map cW else []
def byW(A B:List Rat):(aW aV (pQ A B)).length<=A.length+B.length-1:=by
 refine aH (oY _ _) ?_;unfold pQ;split
 ·simp
 ·rw[cH,List.length_range];exact aE
def bx4{A:List Rat}{K L:Nat}(h:QF A K)(b:1<=K)(d:K<=1000000)(a:A.length<=L):TxG (A.map cW) K L:=
 ⟨by rw[by4];exact h,by rw[cH];exact a,fun l a=>by
  obtain⟨q,c,rfl⟩:=List.mem_map.1 a;exact aH (by3 (h.nums b q c)) (by omega)⟩
def TxG.mul{a b:List (List UInt8)}{K L k l:Nat}(c:TxG a K k)(d:TxG b L l)(i:1<=K)(j:1<=L)(m:K+L<=1000)(f:k+l<=64):TxG (mT a b) (K+L+1) (k+l-1):=by
 have n:=c.len;have o:=d.len;have g:=byW (aU a) (aU b);rw[VS,VS] at g;unfold mT;split
 ·exact bx4 (c.qf.mul d.qf (by rw[VS,VS];omega)) (by omega) (by omega) (by omega)
 ·exact⟨QF.nil.mono (by omega),dC _,fun l f=>by cases f⟩
structure FaG(e:List Int):Prop where
 pp:Pp e
 len:e.length<=19
 num:∀n∈e,nl n.natAbs<=1405
 cop:Cop (aT 1 e) (fW (aT 1 e))
def fT(e:List Int):List (List UInt8):=(cE e).map cW
def dT(e:List Int):List (List UInt8):=(aW aV (fW (cE e))).map cW
section
variable {e:List Int}(h:FaG e)
include h
def FaG.qf:QF (cE e) 1405:=QF.mon_ h.pp.ne h.pp.tr h.num
def FaG.tx:TxG (fT e) 1405 19:=bx4 h.qf (by decide) (by decide) (by rw[(uD h.pp.tr).1];exact h.len)
def FaG.dq:QF (aW aV (fW (cE e))) 1406:=h.qf.der (by rw[(uD h.pp.tr).1];have:=h.len;omega)
def FaG.dl:(aW aV (fW (cE e))).length=e.length-1:=by
 rw[(MI (uD h.pp.tr)).2,qO,(uD h.pp.tr).1]
def FaG.one:cf (cE e) ((cE e).length-1)=1:=by
 rw[(uD h.pp.tr).1];unfold cE;rw[xN];exact aqZ (gJ ((bN h.pp.ne).1 h.pp.tr)) (Rat.one_mul _).symm
end
def Cop.scale{a b f g:List Rat}{c d:Rat}(h:Cop a b)(l:c≠0)(m:d≠0)(i:∀x,aI f x=c*aI a x)(j:∀x,aI g x=d*aI b x):Cop f g:=by
 obtain⟨u,v,k⟩:=h;have p:=gW (a:=1) l;have r:=gW (a:=1) m;refine⟨u.map (fun q=>(1/c)*q),v.map (fun q=>(1/d)*q),fun x=> ?_⟩;rw[iI,iI,i,j];have:=k x;generalize 1/c=n at *;generalize 1/d=o at *;grind
def byX{e:List Int}(a:Pp e)(h:Cop (aT 1 e) (fW (aT 1 e))):Cop (cE e) (aW aV (fW (cE e))):=by
 have b:=aq6 (gJ ((bN a.ne).1 a.tr));refine h.scale b b (azJ e) (fun x=> ?_);rw[oT (iS _),<-qW,<-qW,<-axU];exact axS (fun i=>LL (fun y=>by rw[azJ,iI,l5]) i) x
def Euc.mono'{B d:Nat}{a b g:List Int}(h:Euc B a b g)(e:B<=d):Euc d a b g:=by
 induction h with
 |done a=>exact .done a
 |one c=>exact .one c
 |step c h t f=>exact .step c (h.mono e) f
def bxM{B:Nat}{a b g:List Int}(h:Euc B a b g):1<a.length->g.length=1->g=[1]:=by
 induction h with
 |done a=>intro f c;omega
 |one d=>exact fun _ _=>rfl
 |step d h t e=>exact fun _ c=>e d c
structure NnF(w:List Int)(l:List (List Int)):Prop where
 pp:∀f∈l,DvW w f∧Cop (aT 1 f) (fW (aT 1 f))
 pw:∃k:Rat,∀y,aX w y=k*pD l 1 y
def aqD{e:List Int}(b:Pp e)(x:Rat):aX e x=((cf e (e.length-1):Int):Rat)*aI (cE e) x:=by
 have c:=gJ ((bN b.ne).1 b.tr);have:=gW (a:=1) c;rw[azJ];generalize 1/((cf e (e.length-1):Int):Rat)=z at *;grind
def bxN{e f:List Int}(g:Pp e)(a:Pp f)(h:cE f=cE e)(d:Cop (aT 1 e) (fW (aT 1 e))):Cop (aT 1 f) (fW (aT 1 f)):=by
 have b:=byX g d;rw[<-h] at b;have c:=gJ ((bN a.ne).1 a.tr);refine b.scale c c (fun x=>by rw[l5];exact aqD a x) (fun x=> ?_);rw[oT (iS _),<-qW,<-qW,<-axU];exact axS (fun i=>LL (fun y=>by rw[iI,l5];exact aqD a y) i) x
def bxO{W:World}(G:Glob W){w:List Int}(j:Pp w)(H:∀n∈w,nl n.natAbs<=8)(O:w.length<=7):∃es,(w.length=1∧es=[]∨∃a g,RfO 300000 w a g es)∧∀B g Q l,pO B w (bB w) g->QuoOf w g Q->Sqf B Q g l->NnF w l∧l.map cE=es.map cE:=by
 obtain⟨es,hF,J⟩:=byZ (N:=7) (K:=136) (B:=300000) G j H O (by decide) (by decide) (by decide) (by unfold aJ;decide);refine⟨es,hF,fun B g Q l t r s=> ?_⟩;have i:=J B g Q l t r s;obtain⟨S, -⟩:=azQ j t;obtain⟨v,dg⟩:=QuoOf.dvw (DvW.refl j) S r;have d:=s.all v dg;refine⟨?_,i⟩;rcases hF with ⟨D,rfl⟩|⟨a,T,h⟩
 ·obtain rfl:l=[]:=List.map_eq_nil_iff.1 i;refine⟨(fun f c=>by cases c),((cf w 0:Int):Rat),fun y=> ?_⟩;obtain⟨q,rfl⟩:=List.length_eq_one_iff.1 D;show(0:Rat)*y+1*(q:Rat)=(q:Rat)*1
  grind
 ·obtain⟨⟨P,U,x⟩, -⟩:=h.prod;obtain⟨u, -⟩:=h.cops;have k:=h.all (DvW.refl j);obtain⟨m,M,A⟩:=aqL (es:=es) (fun e b=>⟨(k e b).ne,(k e b).tr⟩) 1;obtain⟨R,V,C⟩:=aqL (es:=l) (fun e b=>⟨(d e b).ne,(d e b).tr⟩) 1;refine⟨fun f c=>⟨d f c,?_⟩,P*(1/m*R),fun y=> ?_⟩
  ·have L:cE f∈es.map cE:=by rw[<-i];exact List.mem_map_of_mem c
   obtain⟨e,b,I⟩:=List.mem_map.1 L;exact bxN (k e b).pp (d f c).pp I.symm (u e b).1
  ·have E:=A y;have o:=C y;rw[i,E] at o;have F:=gW (a:=1) M;rw[x];generalize 1/m=z at *;generalize pD es 1 y=p at *;have:p=z*(m*p):=by rw[<-Rat.mul_assoc,F,Rat.one_mul]
   rw[this,o];grind
def bxP(c:Int)(f:Nat->Int)(i:Nat):conv f (cf [c]) i=f i*c:=by
 rw[sO,gL (p':=fun k=>if k=0 then c else 0) (q':=f) (fun k=>by cases k<;>simp[cf]) (fun _=>rfl),qE,if_pos (dC i),fD];rfl
def Y6{w f:List Int}(a:Pp w)(h:∀n∈w,nl n.natAbs<=8)(r:w.length<=7)(d:DvW w f):f.length<=7∧((∀n∈f,nl n.natAbs<=9)∨f.length<=6∧∀n∈f,nl n.natAbs<=135):=by
 have x:=d.len;refine⟨by omega,?_⟩;by_cases m:f.length<=6
 ·exact .inr ⟨m,fun n hn=>aH (d.nums a.ne a.tr h r (by decide) n hn) (by decide)⟩
 ·refine .inl (fun n hn=> ?_);obtain⟨q,s⟩:=d.out;have b:∀i,cf w i=conv (cf (aW aV q)) (cf f) i:=fun i=>by rw[s,sO,gL (iS q) (fun _=>rfl)]
  obtain⟨t,u⟩:=K7 (jS q) a.tr d.tr d.ne b;have k:aW aV q≠[]:=fun e=>a.ne (t e);have y:=u k;have z:=List.length_pos_iff.2 k;obtain⟨c,o⟩:=List.length_eq_one_iff.1 (show(aW aV q).length=1 by omega);have l:=jS q;rw[o] at b l;have v:c≠0:=l c rfl;obtain⟨j,p,rfl⟩:=List.mem_iff_getElem.1 hn;rw[<-fZ p];have e:=b j;rw[sO,bxP] at e;have g:=iU h j;rw[e,fL] at g;exact aH (cK (Nat.le_mul_of_pos_right _ (by omega))) (aH g (by decide))
def azH{W:World}(v:Glob W){w f:List Int}{c:List (List Int)}(F:Pp w)(z:∀n∈w,nl n.natAbs<=8)(E:w.length<=7)(d:DvW w f)(t:Cop (aT 1 f) (fW (aT 1 f)))(p:1<f.length)(C:StT 110079 f (aS (bB f)) c):Cn 110079 f f c∧Sqp 110000 f f:=by
 have m:=Y6 F z E d;have j:∃K B,GcdFit K B f (bB f)∧1<=K∧B<=110000:=by
  rcases m.2 with h|⟨q,h⟩
  ·exact⟨10,24057,aq8 (N:=7) d.pp h m.1 (by decide) (by decide) (by decide),by decide,by decide⟩
  ·exact⟨136,99873,aq8 (N:=6) d.pp h q (by decide) (by decide) (by decide),by decide,by decide⟩
 obtain⟨K,B,j,G,r⟩:=j;obtain⟨g,a⟩:=aqX v j G (by unfold aJ;omega);obtain⟨H,o⟩:=azQ d.pp a;unfold pO at a;rw[if_neg (by have:=lZ f;omega),XC d.pr] at a
 have D:g.length=1:=byY H (A:=aT 1 f) (B:=fW (aT 1 f)) (by
  obtain⟨u,k⟩:=OB o;exact⟨u,fun x=>by rw[l5];exact k x⟩) (by
  obtain⟨u,k⟩:=OB (JS a).2;refine⟨u.map (fun y=>((bC (bB f):Int):Rat)*y),fun x=> ?_⟩;rw[<-qW,<-yM,pR,k,iI];grind) t
 have e:=bxM a p D;subst e;have l:∀b,B<=b->Sqp b f f:=fun b s=>⟨⟨[1],a.mono' s,by decide,oB rfl,by decide,by simp,fun i=>(CO _ i).symm⟩,d.ne,d.tr⟩;exact⟨⟨l _ (by omega),C⟩,l _ r⟩
def bxQ{f:List Int}{c:List (List Int)}{K:Nat}(e:f.length<=1)(a:StT K f (aS (bB f)) c)(i:Int)(x:Rat)(j:Int)(y:Rat):c=[]:=by
 have b:aS (bB f)=[]:=bX (by rw[dF,lZ];omega);rw[b] at a;cases a with
 |done=>rfl
 |step d=>exact absurd rfl d
structure NnA(w:List Int)(es:List (List Int))(i:Int)(x:Rat)(N:Nat->Int):Prop where
 cnt:es.length<=w.length
 fac:NnF w es
 same:∀B g Q l,pO B w (bB w) g->QuoOf w g Q->Sqf B Q g l->l.map cE=es.map cE∧∀f∈l,DvW w f∧Cop (aT 1 f) (fW (aT 1 f))
 num:∀(j:Nat) (e f:List Int) (c:List (List Int)),es[j]? =some e->DvW w f->Cop (aT 1 f) (fW (aT 1 f))->cE f=cE e->StT 110079 f (aS (bB f)) c->fF f c i x 1 0=N j
def azR{f:List Int}(g:f.length<=1)(b:f≠[])(h:aN f){c:List (List Int)}{K:Nat}(d:StT K f (aS (bB f)) c)(i:Int)(x:Rat):fF f c i x 1 0=0:=by
 obtain rfl:=bxQ g d i x 1 0;have k:=List.length_pos_iff.2 b;obtain⟨y,rfl⟩:=List.length_eq_one_iff.1 (show f.length=1 by omega);have j:=h y rfl;have e:∀(i:Int) (x:Rat),aY 0 ([[y]].map (fun a=>aP a i x))=0:=fun i x=>by
  show(if aP [y] i x=0 then 0 else (if (0:Int)≠0∧aP [y] i x≠0 then 1 else 0)+0)=0
  split
  ·rfl
  ·rw[if_neg (by simp)]
 unfold fF;rw[e,e];rfl
def bxK{W:World}(A:Glob W){w:List Int}(z:Pp w)(C:∀n∈w,nl n.natAbs<=8)(D:w.length<=7)(i:Int)(x:Rat):∃es N,(w.length=1∧es=[]∨∃a g,RfO 300000 w a g es)∧NnA w es i x N:=by
 obtain⟨es,hF,U⟩:=bxO A z C D;have V:NnF w es:=by
  rcases hF with ⟨r,rfl⟩|⟨a,g,h⟩
  ·refine⟨(fun f v=>by cases v),((cf w 0:Int):Rat),fun y=> ?_⟩;obtain⟨q,rfl⟩:=List.length_eq_one_iff.1 r;show(0:Rat)*y+1*(q:Rat)=(q:Rat)*1
   grind
  ·obtain⟨⟨Z,ac,M⟩, -⟩:=h.prod;obtain⟨K, -⟩:=h.cops;have S:=h.all (DvW.refl z);exact⟨fun f v=>⟨S f v,(K f v).1⟩,Z,M⟩
 have Y:∀(f m:List Int) (c p:List (List Int)),DvW w f->Cop (aT 1 f) (fW (aT 1 f))->DvW w m->Cop (aT 1 m) (fW (aT 1 m))->cE f=cE m->StT 110079 f (aS (bB f)) c->StT 110079 m (aS (bB m)) p->fF f c i x 1 0=fF m p i x 1 0:=fun f m c p d k o E t s u=>by
  have ad:f.length=m.length:=by rw[<-(uD d.tr).1,<-(uD o.tr).1,t]
  by_cases r:1<f.length
  ·obtain⟨q, -⟩:=azH A z C D d k r s;obtain⟨q', -⟩:=azH A z C D o E (by omega) u;have J:=uD o.tr;rw[<-t] at J;exact q.unique q' (by decide) (by decide) (uD d.tr) J i x 1 0
  ·rw[azR (by omega) d.ne d.tr s,azR (by omega) o.ne o.tr u]
 obtain⟨R,F⟩:∃R:Nat->Int->Prop,R=fun j n=>∃e f c,es[j]? =some e∧DvW w f∧Cop (aT 1 f) (fW (aT 1 f))∧cE f=cE e∧StT 110079 f (aS (bB f)) c∧fF f c i x 1 0=n:=⟨_,rfl⟩;have T:es.length<=w.length:=by
  rcases hF with ⟨-,rfl⟩|⟨a,g,h⟩
  ·exact dC _
  ·have:=h.short.1;omega
 refine⟨es,fun j=>Classical.epsilon (R j),hF,T,V,fun B g Q l r O P=> ?_,fun j e f c G d k t s=> ?_⟩
 ·obtain⟨a,b⟩:=U B g Q l r O P;exact⟨b,a.pp⟩
 ·have h:∃n,R j n:=⟨fF f c i x 1 0,by rw[F];exact⟨e,f,c,G,d,k,t,s,rfl⟩⟩;have I:=Classical.epsilon_spec h;generalize Classical.epsilon (R j)=n at *;rw[F] at I;obtain⟨L,m,p,H,o,E,X,u,hn⟩:=I;obtain rfl:e=L:=by rw[G] at H;injection H
  rw[<-hn];exact Y f m c p d k o E (t.trans X.symm) s u
def t6(ns:List Int)(n:Nat)(N:Nat->Int)(i:Int)(x:Rat):Prop:=ns=[]∨(0<=aP ns 1 0∧0<=aP ns i x∧∀j,j<n->j%2=0->N j<=0)
def Y5(ns:List Int)(es:List (List Int))(N:Nat->Int)(i:Int):Prop:=ns=[]∨(0<=aP ns 1 0∧¬(i= -1∧ns.length%2=0)∧∀j e,es[j]? =some e->j%2=0->1<e.length->N j<=0)
def azS{ns:List Int}(tn:aN ns)(k:ns≠[])(i:Int)(x:Rat):aP (aS ns) i x=aP ns i x:=by
 have d:0<(bC ns:Int):=by have:=nI tn k;omega
 have j:∀a:Int,((bC ns:Int)*a).sign=a.sign:=fun a=>by rw[Int.sign_mul,Int.sign_eq_one_of_pos d,Int.one_mul]
 by_cases c:i=0
 ·subst c;rw[<-yI,<-yI];have e:=pR ns x;have f:(0:Rat)<((bC ns:Int):Rat):=by exact_mod_cast d
  rcases uS x (aX (aS ns)) with ⟨h,b⟩|⟨h,b⟩|⟨h,b⟩
  ·rw[b];exact(yL (by rw[e];have:=Rat.mul_pos f (show 0< -aX (aS ns) x by grind);grind)).symm
  ·rw[b];exact(axI (by rw[e,h,gX])).symm
  ·rw[b];exact(yK (by rw[e];exact Rat.mul_pos f h)).symm
 ·have g:cf ns (ns.length-1)=(bC ns:Int)*cf (aS ns) (ns.length-1):=by rw[fD];exact(lW ns _).symm
  unfold aP;rw[if_neg c,if_neg c,dF,g,j]
def aqC{ns:List Int}(tn:aN ns)(b:ns≠[])(h:0<=aP ns 1 0):aP ns 1 0=1:=by
 have a:=(bN b).1 tn;rw[Q8 1 (by decide)] at h⊢;rcases Int.lt_trichotomy (cf ns (ns.length-1)) 0 with k|k|k
 ·rw[Int.sign_eq_neg_one_of_neg k] at h;omega
 ·exact absurd k a
 ·exact Int.sign_eq_one_of_pos k
def bxL{W:World}(G:Glob W){ns:List Int}{es:List (List Int)}{N:Nat->Int}{i:Int}{x:Rat}(tn:aN ns)(hi:i=0∨i= -1)(b:ns≠[]->Pp (aS ns)∧(∀n∈aS ns,nl n.natAbs<=8)∧ns.length<=7∧NnA (aS ns) es i x N)
  (v:∀e∈es,∃c,StT 110079 e (aS (bB e)) c):t6 ns es.length N i x↔Y5 ns es N i:=by
 unfold t6 Y5;by_cases f:ns=[]
 ·exact⟨fun _=> .inl f,fun _=> .inl f⟩
 obtain⟨p,t,H,b⟩:=b f;have w:(aS ns).length<=7:=by rw[dF];exact H
 constructor
 ·rintro (h|⟨h1,h2,h3⟩)
  ·exact absurd h f
  ·refine .inr ⟨h1,fun ⟨M,K⟩=> ?_,fun j e a o _=>h3 j (List.getElem?_eq_some_iff.1 a).1 o⟩;have g:=aqC tn f h1;rw[Q8 1 (by decide)] at g;have D:aP ns i x= -(cf ns (ns.length-1)).sign:=by unfold aP;rw[if_neg (by omega),if_pos ⟨by omega,K⟩]
   omega
 ·rintro (h|⟨h1,h2,h3⟩)
  ·exact absurd h f
  ·have g:=aqC tn f h1;have u:∀j,j<es.length->j%2=0->N j<=0:=fun j o s=>by
    have a:es[j]? =some es[j]:=aR o;have m:=List.getElem_mem o;obtain⟨d,k⟩:=b.fac.pp _ m;by_cases r:1<(es[j]).length
    ·exact h3 j _ a s r
    ·obtain⟨c,l⟩:=v _ m;rw[<-b.num j _ _ c a d k rfl l,azR (by omega) d.ne d.tr l];exact Int.le_refl _
   refine .inr ⟨h1,?_,u⟩;rcases hi with rfl|rfl
   ·rcases qX ns 0 x with k|k|k
    ·omega
    ·omega
    ·exfalso;obtain⟨κ,J⟩:=b.fac.pw;rw[<-azS tn f] at k g;obtain⟨j,e,a,s,L,C⟩:=bxV p.ne p.tr (fun e a=>⟨(b.fac.pp e a).1.ne,(b.fac.pp e a).1.tr⟩) J g k;have m:=dG a;obtain⟨d,B⟩:=b.fac.pp e m;obtain⟨c,l⟩:=v e m;have r:1<e.length:=by
      rcases dE 1 e.length with q|q
      ·exact q
      ·exfalso;have O:=List.length_pos_iff.2 d.ne;obtain⟨y,rfl⟩:=List.length_eq_one_iff.1 (show e.length=1 by omega);refine C ?_;rw[Q8 1 (by decide),<-yI];have E:aX [y] x=y:=by show(0:Rat)*x+1*(y:Rat)=y;grind
       unfold sF;rw[E,xJ];rfl
     obtain⟨hn, -⟩:=azH G p t w d B r l;have z:=Y6 p t w d;have A:∀n∈e,nl n.natAbs<=135:=fun n hn=>by
      rcases z.2 with h|h
      ·exact aH (h n hn) (by decide)
      ·exact h.2 n hn
     have F:=bxS hn d.tr z.1 (fun n hn=>aH (A n hn) (by decide)) (fun n hn=>aH (gU (pL A (by omega)) n hn) (by decide)) x L C;rw[b.num j e e c a d B rfl l] at F;have:=u j (List.getElem?_eq_some_iff.1 a).1 s;omega
   ·have I:¬ns.length%2=0:=fun k=>h2 ⟨rfl,k⟩;have D:aP ns (-1) x=(cf ns (ns.length-1)).sign:=by unfold aP;rw[if_neg (by decide),if_neg (fun k=>I k.2)]
    rw[Q8 1 (by decide)] at g;omega
abbrev C5(w:World)(b:Nat)(v0 v1 v2 v3 v4:Value):Prop:=w.cell? ⟨b,0,none⟩=some v0∧w.cell? ⟨b,1,none⟩=some v1∧w.cell? ⟨b,2,none⟩=some v2∧w.cell? ⟨b,3,none⟩=some v3∧w.cell? ⟨b,4,none⟩=some v4
abbrev C6(w:World)(b:Nat)(v0 v1 v2 v3 v4 a:Value):Prop:=w.cell? ⟨b,0,none⟩=some v0∧w.cell? ⟨b,1,none⟩=some v1∧w.cell? ⟨b,2,none⟩=some v2∧w.cell? ⟨b,3,none⟩=some v3∧w.cell? ⟨b,4,none⟩=some v4∧w.cell? ⟨b,5,none⟩=some a
abbrev C8(w:World)(b:Nat)(v0 v1 v2 v3 v4 a c d:Value):Prop:=w.cell? ⟨b,0,none⟩=some v0∧w.cell? ⟨b,1,none⟩=some v1∧w.cell? ⟨b,2,none⟩=some v2∧w.cell? ⟨b,3,none⟩=some v3∧w.cell? ⟨b,4,none⟩=some v4∧w.cell? ⟨b,5,none⟩=some a∧w.cell? ⟨b,6,none⟩=some c∧w.cell? ⟨b,7,none⟩=some d
section
variable {w W:World}{b g o B:Nat}{t:TypeId}{v0 v1 v2 v3 v4 u:Value}{cs:List Value}
def Bx.k5(h:Bx w b [v0,v1,v2,v3,v4] t):C5 w b v0 v1 v2 v3 v4:=⟨h.cell 0 rfl,h.cell 1 rfl,h.cell 2 rfl,h.cell 3 rfl,h.cell 4 rfl⟩
def Bx.g5(h:Bx w b [v0,v1,v2,v3,v4] t):C5 w b v0 v1 v2 v3 v4∧Fz w b:=⟨h.k5,h.free⟩
def Bx.k6{v0 v1 v2 v3 v4 a:Value}(h:Bx w b [v0,v1,v2,v3,v4,a] t):C6 w b v0 v1 v2 v3 v4 a:=⟨h.cell 0 rfl,h.cell 1 rfl,h.cell 2 rfl,h.cell 3 rfl,h.cell 4 rfl,h.cell 5 rfl⟩
def Bx.g6{v0 v1 v2 v3 v4 a:Value}(h:Bx w b [v0,v1,v2,v3,v4,a] t):C6 w b v0 v1 v2 v3 v4 a∧Fz w b:=⟨h.k6,h.free⟩
def Bx.k8{v0 v1 v2 v3 v4 a c d:Value}(h:Bx w b [v0,v1,v2,v3,v4,a,c,d] t):C8 w b v0 v1 v2 v3 v4 a c d:=⟨h.cell 0 rfl,h.cell 1 rfl,h.cell 2 rfl,h.cell 3 rfl,h.cell 4 rfl,h.cell 5 rfl,h.cell 6 rfl,h.cell 7 rfl⟩
def Bx.g8{v0 v1 v2 v3 v4 a c d:Value}(h:Bx w b [v0,v1,v2,v3,v4,a,c,d] t):C8 w b v0 v1 v2 v3 v4 a c d∧Fz w b:=⟨h.k8,h.free⟩
def NatAt.puti{n:Nat}(h:NatAt w u n){p:Addr}{c:Int}(a:w.cell? p=some (.int .i64 c))(v:Value):NatAt (w.setCell p v) u n:=by
 obtain⟨A,f,hv,j,d,q⟩:=h;refine⟨A,f,hv,j,?_,q.mono (by simp)⟩;rcases d with d|⟨b,r,rfl,m,k⟩
 ·exact .inl d
 ·refine .inr ⟨b,r,rfl,by simpa using m,fun i l=> ?_⟩;have e:=k i l;rw[World.cell?_setCell_other _ _ _ _ ?_,e];rintro rfl;rw[e] at a;injection a with a;injection a with a;cases a
def Keep.puti{p:Addr}{c:Int}(a:w.cell? p=some (.int .i64 c))(v:Value):Keep w (w.setCell p v):=fun _ _ h=>h.puti a v
def Bx.put5(h:Bx W b cs t)(D:Below B w W)(c:B<=b)(v0 v1 v2 v3 v4:Value){e f i j:Value}{k:Int}(E:cs=[e,f,i,j,.int .i64 k])(hn:(cS (some e)&&(cS (some f)&&(cS (some i)&&cS (some j))))=true):
  ∃a,((((W.setCell ⟨b,0,none⟩ v0).setCell ⟨b,1,none⟩ v1).setCell ⟨b,2,none⟩ v2).setCell ⟨b,3,none⟩ v3).setCell ⟨b,4,none⟩ v4=a∧Bx a b [v0,v1,v2,v3,v4] t∧Below B w a∧Keep W a∧∀{g:Nat} {cs:List Value} {t:TypeId},Bx W g cs t->b≠g->Bx a g cs t:=by
 subst E;simp only[Bool.and_eq_true] at hn;obtain⟨J,rfl,z,m,F,s⟩:=h.put1 D c 0 v0 hn.1;obtain⟨K,rfl,A,n,G,v⟩:=z.put1 m c 1 v1 hn.2.1;obtain⟨L,rfl,C,q,H,x⟩:=A.put1 n c 2 v2 hn.2.2.1;obtain⟨M,rfl,l,r,I,y⟩:=C.put1 q c 3 v3 hn.2.2.2;exact⟨_,rfl,l.set 4 v4,r.setCell (p:=⟨b,4,none⟩) c v4,(((F.trans G).trans H).trans I).trans (Keep.puti (l.cell 4 rfl) v4),fun k d=>(y (x (v (s k d) d) d) d).far 4 v4 d⟩
end
def EndAt(w:World)(v:Value)(i:Int)(x:Rat):Prop:=∃s A k c e a d c',v= .agg #[.bool s,.slice A k c,.bool e,.slice a d c',.int .i64 i]∧RatAt w (.agg #[.bool s,.slice A k c,.bool e,.slice a d c']) x
def EndAt.be{w W:World}{v:Value}{i:Int}{x:Rat}(h:EndAt w v i x)(f:Below w.heap.size w W):EndAt W v i x:=by
 obtain⟨s,A,k,c,l,a,j,d,e,h⟩:=h;exact⟨s,A,k,c,l,a,j,d,e,h.be f⟩
def EndAt.up{a b:World}[u:Up a b]{v:Value}{i:Int}{x:Rat}(h:EndAt a v i x):EndAt b v i x:=h.be u.out
def EndAt.form{w:World}{v:Value}{i:Int}{x:Rat}(h:EndAt w v i x):∃s A k c f a d c',v= .agg #[.bool s,.slice A k c,.bool f,.slice a d c',.int .i64 i]:=by
 obtain⟨s,A,k,c,f,a,d,c',e,h⟩:=h;exact⟨s,A,k,c,f,a,d,c',e⟩
def EndAt.rat{w:World}{s:Bool}{A:Option Addr}{k c:Nat}{f:Bool}{a:Option Addr}{d c':Nat}{i:Int}{x:Rat}(h:EndAt w (.agg #[.bool s,.slice A k c,.bool f,.slice a d c',.int .i64 i]) i x):RatAt w (.agg #[.bool s,.slice A k c,.bool f,.slice a d c']) x:=by
 obtain⟨s,A,k,c,f,a,d,c',e,h⟩:=h;simp only[Value.agg.injEq,Array.mk.injEq,List.cons.injEq,Value.bool.injEq,Value.slice.injEq] at e;obtain⟨rfl,⟨rfl,rfl,rfl⟩,rfl,⟨rfl,rfl,rfl⟩, -⟩:=e;exact h
def EndAt.of{w:World}{s:Bool}{A:Option Addr}{k c:Nat}{e:Bool}{a:Option Addr}{d c':Nat}{i:Int}{x:Rat}(h:RatAt w (.agg #[.bool s,.slice A k c,.bool e,.slice a d c']) x):EndAt w (.agg #[.bool s,.slice A k c,.bool e,.slice a d c',.int .i64 i]) i x:=⟨_,_,_,_,_,_,_,_,rfl,h⟩
def nG(a b:World)[u:Up (a.alloc Z0) b]:Bx b a.heap.size [.bool false,.slice none 0 0] 54∧(C2 b a.heap.size (.bool false) (.slice none 0 0)∧Fz b a.heap.size)∧(∀o:Obj,C2 (b.alloc o) a.heap.size (.bool false) (.slice none 0 0)∧Fz (b.alloc o) a.heap.size)∧a.heap.size≠b.heap.size∧b.heap.size≠a.heap.size:=by
 have D:Bx b a.heap.size [.bool false,.slice none 0 0] 54:=(Bx.newAt a [.bool false,.slice none 0 0] 54 a.heap.size rfl).be u.out;exact⟨D,dd D⟩
def pH(a b:World)[u:Up ((a.alloc Z0).alloc Z0) b]:Bx b (a.heap.size+1) [.bool false,.slice none 0 0] 54∧(C2 b (a.heap.size+1) (.bool false) (.slice none 0 0)∧Fz b (a.heap.size+1))∧(∀o:Obj,C2 (b.alloc o) (a.heap.size+1) (.bool false) (.slice none 0 0)∧Fz (b.alloc o) (a.heap.size+1))∧a.heap.size+1≠b.heap.size∧b.heap.size≠a.heap.size+1:=by
 have D:Bx b (a.heap.size+1) [.bool false,.slice none 0 0] 54:=(Bx.newAt (a.alloc Z0) [.bool false,.slice none 0 0] 54 (a.heap.size+1) (World.size_alloc _ _)).be u.out;exact⟨D,dd D⟩
def UU(x:Rat)(v:Value)(w:World)(hv:RatAt w v x):Calls prog 118 #[v] w (dW w x.num):=by
 obtain⟨d,a,c,b,i,f,h,g,rfl⟩:=hv.form;have e:=((aG w.heap.size w).alloc aE (.cells #[.bool d,.slice a c b,.bool i,.slice f h g] 58)).alloc (by simp) (.cells #[.bool d,.slice a c b] 54);go_enter func118,ntmps118;go_wp2_with fail;exact aM (v:= .agg #[.bool d,.slice a c b]) (by simp[results,results118,go_sem]) rfl ⟨_,rfl,hv.num.be e,e⟩
def azF(x:Rat)(v:Value)(w:World)(hv:RatAt w v x)(D:nl x.den<=17592186044416):Calls prog 88 #[v] w (dW w (x.den:Int)):=by
 obtain⟨E,y,C,B,s,j,q,l,rfl⟩:=hv.form;have p:=aH (mY x) D;obtain⟨W,u,a,X,R⟩:=eL w [.bool E,.slice y C B,.bool s,.slice j q l] 58 [.bool false,.slice none 0 0] 54;have h:=aa X.g4 R.g2;go_enter func88,ntmps88;go_wp2_with fail;(try rw[u]);clear u;have b:=(hv.be a).den;refine(g9 (bS x) _ _ b p).mono ?_;rintro G J ⟨rfl,i⟩;replace X:=X.be i;replace R:=R.be i;replace h:=aa X.k4 R.g2;replace g:=Keep.be i;replace b:=b.ke g;replace a:=aC a i;by_cases e:x.den=1
 ·have f:decide (bS x=0)=true:=by rw[iQ,fV];exact e
  have z:Hid ((x.den:Int)=1):=by unfold Hid;omega
  rw[f];clear f e p;go_wp2_with fail;refine(GA 1 _ (by decide) (by decide)).mono ?_;rintro H F ⟨I,rfl,c,o⟩;obtain⟨t,k,r,m,rfl⟩:=c.form;replace X:=X.be o;replace R:=R.be o;replace h:=aa X.k4 R.g2;replace a:=aC a o;go_wp2_with fail;replace c:IntAt F (.agg #[.bool t,.slice k r m]) (x.den:Int):=by rw[z.out];exact c
  obtain⟨A,d,R,a,g,n⟩:=R.put2 a (by omega) (.bool t) (.slice k r m) rfl rfl;replace X:=n X (by omega);replace c:=c.ke g;rw[d];clear d;replace h:=aa X.k4 R.k2;exact aM (v:= .agg #[.bool t,.slice k r m]) (by simp[results,results88,go_sem,R.k2]) rfl ⟨_,rfl,c,a⟩
 ·have f:decide (bS x=0)=false:=by rw[jA,fV];exact e
  rw[f];rw[mI e] at b;clear f e p;go_wp2_with fail;obtain⟨A,d,R,a,g,n⟩:=R.put2 a (by omega) (.bool s) (.slice j q l) rfl rfl;replace X:=n X (by omega);replace b:=b.ke g;rw[d];clear d;replace h:=aa X.k4 R.k2;exact aM (v:= .agg #[.bool s,.slice j q l]) (by simp[results,results88,go_sem,R.k2]) rfl ⟨_,rfl,b,a⟩
def RatAt.denN{w:World}{s a:Bool}{u b:Value}{q:Rat}(h:RatAt w (.agg #[.bool s,u,.bool a,b]) q)(c:q.den≠1):IntAt w (.agg #[.bool a,b]) (q.den:Int):=by
 have:=h.den;rwa [mI c] at this
def J7(x y:Rat)(vx vy:Value)(w:World)(u:RatAt w vx x)(B:RatAt w vy y)(z:x.den=1)(D:y.den=1)(K:Nat)(bx:RL K x)(bY:RL K y)(hK:10*K+40<=aJ):
  Calls prog 58 #[vx,vy] w (iF w (x+y)):=by
 obtain⟨s,A,k,c,V,E,S,I,rfl⟩:=u.form;obtain⟨t,C,l,e,t',G,U,N,rfl⟩:=B.form;unfold aJ at hK;have⟨ac,ad⟩:=bx;have⟨ae,af⟩:=bY;obtain⟨o,p⟩:=BT (y:=y) z;rw[D] at o p;have H:Hid ((x+y).num=x.num+y.num∧bS (x+y)=0):=⟨by rw[o];simp,fV.2 p⟩;have L:bS x=0:=fV.2 z;have M:bS y=0:=fV.2 D;clear o p;obtain⟨W,O,a,X,Y,R⟩:=gE w [.bool s,.slice A k c,.bool V,.slice E S I] 58 [.bool t,.slice C l e,.bool t',.slice G U N] 58 [.bool false,.slice none 0 0,.bool false,.slice none 0 0] 58;have n:=aa X.g4 (aa Y.g4 R.g4);go_enter func58,ntmps58;go_wp2_with fail;(try rw[O]);clear O;have i:IntAt W (.agg #[.bool s,.slice A k c]) x.num:=(u.be a).num;have h:IntAt W (.agg #[.bool V,.slice E S I]) 0:=by have:=(u.be a).den;rwa [L] at this
 have m:IntAt W (.agg #[.bool t,.slice C l e]) y.num:=(B.be a).num;have j:IntAt W (.agg #[.bool t',.slice G U N]) 0:=by have:=(B.be a).den;rwa [M] at this
 clear L M z D;generalize x.num=xn at *;generalize y.num=yn at *;refine(g9 0 _ _ h tO).mono ?_;rintro o w1 ⟨rfl,d⟩;replace X:=X.be d;replace Y:=Y.be d;replace R:=R.be d;replace n:=aa X.k4 (aa Y.k4 R.g4);replace b:=Keep.be d;replace i:=i.ke b;replace h:=h.ke b;replace m:=m.ke b;replace j:=j.ke b;replace a:=aC a d;have g:decide ((0:Int)=0)=true:=rfl;rw[g];clear g;go_wp2_with fail;refine(g9 0 _ _ j tO).mono ?_;rintro p w2 ⟨rfl,f⟩;replace X:=X.be f;replace Y:=Y.be f;replace R:=R.be f;replace n:=aa X.k4 (aa Y.k4 R.g4);replace b:=Keep.be f;replace i:=i.ke b;replace h:=h.ke b;replace m:=m.ke b;replace j:=j.ke b;replace a:=aC a f;have g:decide ((0:Int)=0)=true:=rfl;rw[g];clear g;go_wp2_with fail;refine(rJ xn yn _ _ _ i m (by omega) (by omega)).mono ?_;rintro e5 w5 ⟨v5,rfl,q,r⟩;obtain⟨Z,F,T,J,rfl⟩:=q.form;replace X:=X.be r;replace Y:=Y.be r;replace R:=R.be r;replace n:=aa X.k4 (aa Y.k4 R.g4);replace a:=aC a r;go_wp2_with fail;obtain⟨W6,P,R,a,b,Q⟩:=R.put4 a (by omega) (.bool Z) (.slice F T J) (.bool false) (.slice none 0 0) rfl rfl;replace X:=Q X (by omega);replace Y:=Q Y (by omega);replace q:=q.ke b;rw[P];clear P;replace n:=aa X.k4 (aa Y.k4 R.k4);exact aM (v:= .agg #[.bool Z,.slice F T J,.bool false,.slice none 0 0]) (by simp[results,results58,go_sem,R.k4]) rfl ⟨_,rfl,RatAt.of q (IntAt.zero _) H.out.1 H.out.2,a⟩
def J8(x y:Rat)(vx vy:Value)(w:World)(J:RatAt w vx x)(M:RatAt w vy y)(L:x.den≠1)(N:y.den=1)(K:Nat)(Z:RL K x)(V:RL K y)(hK:10*K+40<=aJ):
  Calls prog 58 #[vx,vy] w (iF w (x+y)):=by
 obtain⟨s,A,k,c,B,m,z,n,rfl⟩:=J.form;obtain⟨t,C,l,e,P,G,O,H,rfl⟩:=M.form;unfold aJ at hK;have⟨al,ac⟩:=Z;have⟨ag,ah⟩:=V;obtain⟨I,E⟩:=UD (x:=x) N;have U:Hid ((x+y).num=y.num*x.den+x.num∧bS (x+y)=x.den):=⟨I,by rw[mI (by rw[E];exact L),E]⟩;have dy:bS y=0:=fV.2 N;clear I E;obtain⟨W,eW,b,X,Y,R⟩:=gE w [.bool s,.slice A k c,.bool B,.slice m z n] 58 [.bool t,.slice C l e,.bool P,.slice G O H] 58 [.bool false,.slice none 0 0,.bool false,.slice none 0 0] 58;have h:=aa X.g4 (aa Y.g4 R.g4);go_enter func58,ntmps58;go_wp2_with fail;(try rw[eW]);clear eW;have f:IntAt W (.agg #[.bool s,.slice A k c]) x.num:=(J.be b).num;have i:IntAt W (.agg #[.bool P,.slice G O H]) 0:=by have:=(M.be b).den;rwa [dy] at this
 have g:IntAt W (.agg #[.bool t,.slice C l e]) y.num:=(M.be b).num;have d:IntAt W (.agg #[.bool B,.slice m z n]) (x.den:Int):=(J.be b).denN L;have af:decide ((x.den:Int)=0)=false:=by have:=x.den_nz;simpa using this
 have ai:nl (x.den:Int).natAbs<=K:=ac;clear dy L N ah V Z ac;generalize x.num=xn at *;generalize y.num=Q at *;generalize (x.den:Int)=D at *;have T:=aB af;clear af;have am:=gT Q D K K ag ai;refine(g9 D _ _ d (by omega)).mono ?_;rintro I w1 ⟨rfl,o⟩;replace X:=X.be o;replace Y:=Y.be o;replace R:=R.be o;replace h:=aa X.k4 (aa Y.k4 R.g4);replace a:=Keep.be o;replace f:=f.ke a;replace d:=d.ke a;replace g:=g.ke a;replace i:=i.ke a;replace b:=aC b o;rw[T.out];go_wp2_with fail;refine(g9 D _ _ d (by omega)).mono ?_;rintro E w2 ⟨rfl,p⟩;replace X:=X.be p;replace Y:=Y.be p;replace R:=R.be p;replace h:=aa X.k4 (aa Y.k4 R.g4);replace a:=Keep.be p;replace f:=f.ke a;replace d:=d.ke a;replace g:=g.ke a;replace i:=i.ke a;replace b:=aC b p;rw[T.out];go_wp2_with fail;refine(g9 0 _ _ i tO).mono ?_;rintro e3 w3 ⟨rfl,q⟩;replace X:=X.be q;replace Y:=Y.be q;replace R:=R.be q;replace h:=aa X.k4 (aa Y.k4 R.g4);replace a:=Keep.be q;replace f:=f.ke a;replace d:=d.ke a;replace g:=g.ke a;replace i:=i.ke a;replace b:=aC b q;have ae:decide ((0:Int)=0)=true:=rfl;rw[ae];clear ae;go_wp2_with fail;replace f:=f.drew;replace g:=g.drew;replace d:=d.drew;replace X:=X.drew;replace Y:=Y.drew;replace R:=R.drew;replace b:=b.drew;replace h:=aa X.k4 (aa Y.k4 R.g4);have aj:w.heap.size+1+1≠w.heap.size:=by omega
 have ak:w.heap.size+1+1≠w.heap.size+1:=by omega
 go_region_held3 (fun w'=>C4 w' w.heap.size (.bool s) (.slice A k c) (.bool B) (.slice m z n)∧C4 w' (w.heap.size+1) (.bool t) (.slice C l e) (.bool P) (.slice G O H))
  (first|(with_reducible exact⟨X.k4,Y.k4⟩)|(refine⟨?_,?_⟩<;>(repeat (first|with_reducible exact X.k4|with_reducible exact Y.k4|with_reducible refine kK aj ?_|with_reducible refine kK ak ?_))))
  (first
   |(go_at_call 87;refine(jB Q D _ _ _ g d (by omega)).mono ?_;rintro e4 w4 ⟨v4,rfl,F,r⟩;obtain⟨s4,A4,k4,c4,rfl⟩:=F.form;replace X:=X.be r;replace Y:=Y.be r;replace R:=R.be r;replace h:=aa X.k4 (aa Y.k4 R.g4);replace a:=Keep.be r;replace f:=f.ke a;replace g:=g.ke a;replace d:=d.ke a;(try replace j:=j.ke a);replace b:=aC b r)
   |(go_at_call 100;refine(rJ (Q*D) xn _ _ _ F f (by omega) (by omega)).mono ?_;rintro e5 w5 ⟨v5,rfl,j,u⟩;obtain⟨s5,S,k5,c5,rfl⟩:=j.form;replace X:=X.be u;replace Y:=Y.be u;replace R:=R.be u;replace h:=aa X.k4 (aa Y.k4 R.g4);replace a:=Keep.be u;replace f:=f.ke a;replace g:=g.ke a;replace d:=d.ke a;(try replace F:=F.ke a);replace b:=aC b u))
 all_goals (
  go_wp2_with fail;obtain⟨W6,ad,R,b,a,ff⟩:=R.put4 b (by omega) (.bool s5) (.slice S k5 c5) (.bool B) (.slice m z n) rfl rfl;replace X:=ff X (by omega);replace Y:=ff Y (by omega);replace j:=j.ke a;replace d:=d.ke a;rw[ad];clear ad;replace h:=aa X.k4 (aa Y.k4 R.k4);exact aM (v:= .agg #[.bool s5,.slice S k5 c5,.bool B,.slice m z n]) (by simp[results,results58,go_sem,R.k4]) rfl ⟨_,rfl,RatAt.of j d U.out.1 U.out.2,b⟩;)
