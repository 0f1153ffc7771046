/- Laws. -/
import Derived.Test.YtbmafhclcdcepaaGreatDoorP10
import Derived.Lib.AppendStr
import Derived.Laws.IdiomStrings
set_option linter.all false
set_option maxHeartbeats 8000000
set_option maxRecDepth 99999
namespace Go.Proofs.YtbmafhclcdcepaaGreatDoor
open Go.RowKit Sos Tryz
def PowA(w:World)(v:Value)(us:List Value):Prop:=∃A c,v= .slice A us.length c∧us.length<=c∧Old w A∧(us.length=0∨∃b off,A=some ⟨b,off,none⟩∧VC w b off us)∧∀i u,us[i]? =some u->NatAt w u (10^(19*2^i))
def PowFree(a v:Value)(us:List Value):Prop:=Apart a v∧∀u∈us,Apart a u
def Old.block{w:World}{A:Option Addr}{n c g:Nat}(h:Old w A)(e:(Value.slice A n c).ownBlock=some g):g<w.heap.size:=by
 cases A with
 |none=>simp[Value.ownBlock] at e
 |some a=>have:=h a rfl;simp[Value.ownBlock] at e;omega
def PowA.be{w w':World}{v:Value}{us:List Value}(h:PowA w v us)(a:Below w.heap.size w w'):PowA w' v us:=by
 obtain⟨A,c,hv,f,d,e,j⟩:=h;refine⟨A,c,hv,f,d.mono a.size,?_,fun i u h=>(j i u h).be a⟩;rcases e with h|⟨b,k,rfl,g⟩
 ·exact .inl h
 ·exact .inr ⟨b,k,rfl,g.be a (d _ rfl)⟩
def PowA.txt{w w':World}{v a b:Value}{us:List Value}(h:PowA w v us)(d:TxtTo w a w' b)(f:PowFree a v us):PowA w' v us∧PowFree b v us:=by
 obtain⟨A,c,rfl,o,j,n,m⟩:=h;refine⟨⟨A,c,rfl,o,j.mono d.1.size,?_,fun i u h=>(m i u h).txt d (f.2 u (dG h))⟩,?_,fun u l=> ?_⟩
 ·rcases n with h|⟨k,r,rfl,p⟩
  ·exact .inl h
  ·exact .inr ⟨k,r,rfl,p.grown d.1 (j _ rfl) (fun e=>f.1 k e rfl)⟩
 ·exact d.apart f.1 (fun g e=>j.block e)
 ·obtain⟨i,q⟩:=List.getElem?_of_mem l;exact d.apart (f.2 u l) (fun g e=>(m i u q).block e)
def PowA.cut{w:World}{A:Option Addr}{c k:Nat}{us:List Value}(h:PowA w (.slice A k c) us)(q:us.length=k){j:Nat}(p:j<=k):PowA w (.slice A j c) (us.take j):=by
 obtain⟨m,n,hv,o,f,a,g⟩:=h;simp only[Value.slice.injEq] at hv;obtain⟨rfl, -,rfl⟩:=hv;have e:(us.take j).length=j:=by rw[bK];omega
 refine⟨A,c,by rw[e],by omega,f,?_,fun i u h=>g i u (by rw[fC] at h;split at h;exact h;cases h)⟩;rcases a with h|⟨b,l,rfl,d⟩
 ·exact .inl (by omega)
 ·exact .inr ⟨b,l,rfl,d.take j⟩
def Apart.same{b:Value}{A:Option Addr}{n c f c':Nat}(h:Apart b (.slice A n c)):Apart b (.slice A f c'):=by
 intro g d e;refine h g d ?_;cases A with
 |none=>simp[Value.ownBlock] at e
 |some a=>simpa [Value.ownBlock] using e
def PowFree.cut{a:Value}{A:Option Addr}{n c d c' j:Nat}{us:List Value}(h:PowFree a (.slice A n c) us):PowFree a (.slice A d c') (us.take j):=
 ⟨h.1.same,fun u b=>h.2 u (lH b)⟩
def IE(j:Nat)(a:1<=j):nl (10^(19*j))<=j:=by
 refine cJ ?_;rw[Nat.pow_mul];exact Nat.pow_lt_pow_left (by decide) (by omega)
def BQ(N:Nat):Prop:=∀(k B:Nat) (a:Value) (bs:List UInt8) (x b:Nat) (d c:Value) (us:List Value) (w:World),k<N->k<=36->us.length=k->GlobB B w->B<=w.heap.size->TxtAt w B a bs->NatAt w d x->PowA w c us->Apart a d->PowFree a c us->
 nl x<=274877906944->bs.length+(dJ b x).length<=8796093022208->(b=0∨b=19*2^k)->
 Calls prog 165 #[a,d,.int .i64 b,c] w fun e w'=>∃v,e= .returned v∧TxtAt w' B v (bs++dJ b x)∧TxtTo w a w' v
def TB(N:Nat)(ih:BQ N):BQ (N+1):=by
 intro k B i r x a vx vp us w hN bj Z hG U ht C hp ao aq bw hT hw;have bv:a<=(dJ a x).length:=by rw[rT];omega
 have H:=TR B i r x a vx w hG U ht C (by omega) (by omega) (by omega);have HP:=aB hp;have aj:=aB Z;obtain⟨A,c,aw,hc,ho,T,hu⟩:=hp;rw[Z] at aw hc T;subst aw;by_cases q:k=0∨nl x<=30
 ·obtain⟨Ax,cx,ah,_,_,_⟩:=id C;subst ah;clear Z;rcases q with rfl|q
  ·go_enter func165,ntmps165;go_wp2_with fail;refine H.mono ?_;rintro e m ⟨v1,rfl,t,f⟩;go_wp2;go_ret;exact⟨_,rfl,t,f⟩
  ·have br:(nl x:Int)<=30:=by omega
   by_cases a5:k=0
   ·subst a5;go_enter func165,ntmps165;go_wp2_with fail;refine H.mono ?_;rintro e m ⟨v1,rfl,t,f⟩;go_wp2;go_ret;exact⟨_,rfl,t,f⟩
   ·go_enter func165,ntmps165;go_wp2_with fail;refine H.mono ?_;rintro e m ⟨v1,rfl,t,f⟩;go_wp2;go_ret;exact⟨_,rfl,t,f⟩
 ·obtain⟨l,rfl⟩:∃l,k=l+1:=⟨k-1,by omega⟩;have bt:¬(nl x:Int)<=30:=by omega
  obtain⟨b,J,rfl,av⟩:=T.resolve_left (by omega);obtain⟨u,G⟩:∃u,us[l]? =some u:=⟨_,aR (by omega)⟩;have g:=av l u G;have ar:=hu l u G;have an:Apart i u:=aq.2 u (dG G);have a9:=IE (2^l) (d7 (by decide));have a6:2^l<=2^36:=cO (by decide) (by omega);have bk:(2:Nat)^36=68719476736:=by decide
  obtain⟨S,bh,O,bf,bg⟩:=BC l (by omega);rw[<-O.out] at ar a9;have bn:nl (10^S)<=68719476736:=by omega
  have a1:0<10^S:=d7 (by decide);have az:=aB (iD x (10^S));have a7:x%10^S<10^S:=dI _ a1;have bp:nl (x/10^S)<=nl x:=cK (Nat.div_le_self _ _);have bq:nl (x%10^S)<=nl x:=cK (Nat.mod_le _ _);have I:a=0∨a=S+S:=by
   rcases hw with h|h
   ·exact .inl h
   ·right;rw[h,dH,O.out];omega
  have am:Hid (x/10^S≠0∨S<=a->dJ a x=dJ (a-S) (x/10^S)++dJ S (x%10^S)):=by
   intro h;have:=GZ (w:=a) (hi:=x/10^S) (lo:=x%10^S) (d:=S) a7 h;rw[dN,iD] at this;exact this
  have a2:(10^S:Nat)≠0:=by omega
  generalize hQ:10^S=P at *;have HQ:=aB hQ;obtain⟨Ax,cx,ah,_,_,bo⟩:=id C;have HW:=aB hw;clear hQ hu av q G T a6 hw;subst ah;have ae:=ht.lt;have ap:=az6 x P _ _ _ C ar a2 (by unfold aJ;omega);go_enter func165,ntmps165;go_wp2_with fail;refine ap.mono ?_;rintro e m ⟨vq,K,rfl,hq,hr,fq,fr,y⟩;have a3:Apart i vq:=fun g o=>fq.ne2 (ae g o).2 (ao g o) (an g o);have X:Apart i K:=fun g o=>fr.ne2 (ae g o).2 (ao g o) (an g o);have V:GlobB B m:=hG.on (y.mono U);have E:B<=m.heap.size:=aH U y.size;have au:=ht.be y;have ac:=(HP.out.be y).cut aj.out (show l<=l+1 by omega);have Y:PowFree i (.slice (some ⟨b,J,none⟩) l c) (us.take l):=aq.cut;have af:(us.take l).length=l:=by rw[bK];have:=aj.out;omega
  have ag:TxtTo w i m i:=TxtTo.be y;have bm:l<=c:=by omega
  obtain⟨Aq,cq,bb,_,_,_⟩:=id hq;subst bb;have a0:=aB hq;clear ap hq H C;have W:S=19*2^l:=O.out;have ax:(x/P≠0∨S<=a)->Calls prog 165 #[i,.slice Aq (nl (x/P)) cq,.int .i64 ((a-S:Nat):Int),.slice (some ⟨b,J,none⟩) l c] m (fun e D=>∃v,e= .returned v∧TxtAt D B v (r++dJ (a-S) (x/P))∧TxtTo m i D v):=by
   intro h;have q:=am.out h;have ad:=congrArg List.length q;rw[bE] at ad;exact ih l B i r (x/P) (a-S) _ _ (us.take l) m (by omega) (by omega) af V E au a0.out ac a3 Y (by omega) (by omega) (by rcases I with h|h<;>omega)
  have ay:(x/P≠0∨S<=a)->∀j n,TxtAt n B j (r++dJ (a-S) (x/P))->TxtTo m i n j->Calls prog 165 #[j,K,.int .i64 S,.slice (some ⟨b,J,none⟩) l c] n (fun e D=>∃v,e= .returned v∧TxtAt D B v (r++dJ a x)∧TxtTo n j D v):=by
   intro h j n f z;have q:=am.out h;have ad:=congrArg List.length q;rw[bE] at ad;obtain⟨ba,a4⟩:=ac.txt z Y;have:=ih l B j (r++dJ (a-S) (x/P)) (x%P) S K _ (us.take l) n (by omega) (by omega) af (V.on (z.belowB E (fun g o=>(ae g o).1))) (aH E z.1.size) f (hr.txt z X) ba (z.apart X (fun g e=>hr.block e)) a4 (by omega) (by rw[bE];omega) (.inr W);rw[eK,<-q] at this;exact this
  have ak:=aB ax;have al:=aB ay;have bc:=aB W;clear ax ay W;by_cases p:x/P=0
  ·have q0:((nl (x/P):Int)==0)=true:=by rw[p,dO];rfl
   rcases I with rfl|I
   ·have ai:x%P=x:=by have:=az.out;rw[p] at this;omega
    have F:=ih l B i r (x%P) 0 K (.slice (some ⟨b,J,none⟩) l c) (us.take l) m (by omega) (by omega) af V E au hr ac X Y (by omega) (by rw[ai];exact hT) (.inl rfl);rw[ai] at F;simp only[Int.natCast_zero] at F;have HC:=aB F;clear F ai p;go_wp2_with fail;refine HC.out.mono ?_;rintro e n ⟨j,rfl,f,s⟩;go_wp2;go_ret;exact⟨_,rfl,f,ag.trans s⟩
   ·have bu:((a:Int)==0)=false:=by simp;omega
    have bi:S<=a:=by omega
    clear I;have a8:max ((a:Int)-(S:Int)) 0=((a-S:Nat):Int):=by omega
    have L:=aB (ak.out (.inr (by omega)));have M:=aB (al.out (.inr (by omega)));clear p;generalize a-S=w0 at *;go_wp2_with fail;refine L.out.mono ?_;rintro e n ⟨j,rfl,f,s⟩;go_wp2_with fail;refine(M.out j n f s).mono ?_;rintro e w3 ⟨v3,rfl,Q,R⟩;go_wp2;go_ret;exact⟨_,rfl,Q,(ag.trans s).trans R⟩
  ·have q0:((nl (x/P):Int)==0)=false:=by have:=gS p;simp;omega
   have a8:max ((a:Int)-(S:Int)) 0=((a-S:Nat):Int):=by omega
   have L:=aB (ak.out (.inl p));have M:=aB (al.out (.inl p));clear p;generalize a-S=w0 at *;go_wp2_with fail;refine L.out.mono ?_;rintro e n ⟨j,rfl,f,s⟩;go_wp2_with fail;refine(M.out j n f s).mono ?_;rintro e w3 ⟨v3,rfl,Q,R⟩;go_wp2;go_ret;exact⟨_,rfl,Q,(ag.trans s).trans R⟩
def TC(N:Nat):BQ N:=by
 induction N with
 |zero=>intro k B c b x f e d us w h;omega
 |succ N a=>exact TB N a
def TD(B:Nat)(a:Value)(bs:List UInt8)(x:Nat)(c b:Value)(us:List Value)(w:World)(j:us.length<=36)(f:GlobB B w)(d:B<=w.heap.size)(l:TxtAt w B a bs)(m:NatAt w c x)(k:PowA w b us)(h:Apart a c)(i:PowFree a b us)
  (n:nl x<=274877906944)(g:bs.length+(dJ 0 x).length<=8796093022208):
  Calls prog 165 #[a,c,.int .i64 0,b] w fun e w'=>∃v,e= .returned v∧TxtAt w' B v (bs++dJ 0 x)∧TxtTo w a w' v:=by
 have:=TC (us.length+1) us.length B a bs x 0 c b us w (Nat.lt_succ_self _) j rfl f d l m k h i n g (.inl rfl);simpa only[Int.natCast_zero] using this
def T9(l:List UInt8):Lib.strCells ⟨l.toArray⟩=Lib.byteCells l:=by simp[Lib.strCells,Lib.byteCells]
def TA(B:Nat)(n:Value)(bs l:List UInt8)(w:World)(D:B<=w.heap.size)(F:TxtAt w B n bs)(N:1<=l.length)(I:bs.length+l.length<=140737488355328):
  rW w n l (fun f w'=>TxtAt w' B f (bs++l)∧TxtTo w n w' f):=by
 obtain⟨i,o,x,p,s⟩:=info_parts nF;refine⟨fun b h=> ?_,fun b a c h G=> ?_⟩
 ·have q:=F.be h;have v:(⟨l.toArray⟩:ByteArray).size=l.length:=by simp[ByteArray.size]
  obtain⟨f,w',m,t,y,_⟩:=Lib.run_append_own_string (P:=prog) b B 149 9 149 5 i underlying149 underlying9 o x p s n bs.length _ q ⟨l.toArray⟩ (by rw[v];unfold maxLen;omega) (by rw[v];exact I) (aH D h.size);rw[v,T9] at t;have A:Go.Src prog i.size 9 (.string ⟨l.toArray⟩) l.length (Lib.byteCells l) b:=by
   have:=Go.Src.ofString (P:=prog) b underlying9 ⟨l.toArray⟩;rw[v] at this;rw[p];exact this
  have z:f.ownBlock=n.ownBlock∨f.ownBlock=some b.heap.size:=by
   rcases q.2 with ⟨rfl,e⟩|⟨g,r,C,rfl,L,E,hn,k,M,O⟩
   ·have d:=run_append_grow_src (P:=prog) b 149 9 149 5 i _ underlying149 o x none 0 0 [] (run_firstCells_none b.drew i.size 0 0 0) _ _ _ A (by omega) (by omega) (by rw[s];exact growslice_fits (by omega) (by omega));rw[m] at d;injection d with h1 h2;right;rw[h1];rfl
   ·by_cases J:bs.length+l.length<=r
    ·have d:=run_append_room_src (P:=prog) b 149 9 149 5 i underlying149 o g 0 bs.length r _ _ _ A J
      (fun j H=>by
       rw[Lib.byteCells_length] at H;rw[p,cell_of_row b g _ C _ (0,0) E];simp;omega) (fun j _=>frozen_of_row b g _ C _ E)
     rw[m] at d;injection d with h1 h2;left;rw[h1];rfl
    ·have d:=run_append_grow_src (P:=prog) b 149 9 149 5 i _ underlying149 o x (some ⟨g,0,none⟩) bs.length r (Lib.byteCells bs)
      (run_firstCells_some b.drew i.size bs.length ⟨g,0,none⟩ bs.length r (Lib.byteCells bs) (by rw[Lib.byteCells_length,p,Nat.mul_one]) (fun j u K=>by
       have:=World.ownsRow.cells q (g:=g) rfl j u K;simpa using this)) _ _ _ A (by omega) (by omega) (by rw[s];exact growslice_fits (by omega) (by omega))
     rw[m] at d;injection d with h1 h2;right;rw[h1];rfl
  have k:=TxtAt.more' (w:=b) (bs:=bs) (l:=l) t y z;exact⟨f,w',m,k.1,(TxtTo.be h).trans k.2⟩
 ·have q:=F.be h;obtain⟨f,w',m,t,y,_,z⟩:=run_append_own_at (P:=prog) b B 149 149 5 i _ 1 1 underlying149 o x p s rfl (by decide) n bs.length _ q a l.length c (Lib.byteCells l) (by rw[Lib.byteCells_length,Nat.mul_one]) G (IM l) (by unfold maxLen;omega) (by omega) (aH D h.size);have k:=TxtAt.more' (w:=b) (bs:=bs) (l:=l) t y z;exact⟨f,w',m,k.1,(TxtTo.be h).trans k.2⟩
def OwnP.powA{w:World}{B:Nat}{v:Value}{us:List Value}(h:OwnP w B v us):PowA w v us:=by
 obtain⟨⟨_,j⟩,b⟩:=h;rcases j with ⟨rfl,e⟩|⟨g,d,f,rfl,l,c,hn,m,n,k⟩
 ·exact⟨none,0,by rw[e],by omega,Old.none,.inl e,fun i u a=>(b i u a).1⟩
 ·refine⟨_,d,rfl,hn,Old.mk (Array.getElem?_eq_some_iff.1 c).1,.inr ⟨g,0,rfl,?_⟩,fun i u a=>(b i u a).1⟩;intro i u a;rw[cell_of_row w g (0+i) f _ (0,0) c,bA,<-Array.getElem?_toList];rw[<-k,fC] at a;split at a
  ·exact a
  ·cases a
def ID(B:Nat)(j:Value)(bs:List UInt8)(x:Nat)(T:Value)(w:World)(hG:GlobB B w)(F:B<=w.heap.size)(D:TxtAt w B j bs)(hx:NatAt w T x)(a1:Apart j T)(bz:nl x<=4294967296)(bm:bs.length<=4398046511104):
  Calls prog 139 #[j,T] w fun e w'=>∃v,e= .returned v∧TxtAt w' B v (bs++Lib.decDigits x)∧TxtTo w j w' v:=by
 have HX:=aB hx;obtain⟨A,c,bj,hc,bb,bu⟩:=hx;subst bj;by_cases E:nl x=0
 ·obtain rfl:=p9 E;have q0:((nl 0:Int)==0)=true:=by rw[dO];rfl
  have bc:w.ownsRow B 5 1 j bs.length (Lib.byteCells bs):=D;go_enter func139,ntmps139;go_wp2_with (at_builtin;refine gM rfl rfl 5 _ 1 1 underlying149 nF rfl (by decide) B j bs.length _ rfl (bc.alloc _) [Value.int .u8 48] rfl (by simp) (lM _ _ _) (by simp[Value.oneCell']) (by omega) (by omega) (by simp;omega) ?_;intro S w6 N J G);have n:=TxtAt.more (bs:=bs) (l:=[48]) N J G;have a3:Lib.decDigits 0=[48]:=by rw[Lib.decDigits_one (by decide)];rfl
  go_wp2;go_ret;exact⟨_,rfl,by rw[a3];exact n.1,n.2⟩
 ·have q0:((nl x:Int)==0)=false:=by simp;omega
  have av:x≠0:=by intro h;subst h;exact E dO
  by_cases o:nl x=1
  ·have S:((nl x:Int)==1)=true:=by simp;omega
   have R:x<BN:=by have:=cV x;rw[o,Nat.pow_one] at this;exact this
   obtain⟨b,b0,rfl,hb,ag⟩:=bb.at_ (by rw[aK];omega);have g0:=ag 0 (by rw[aK];omega);rw[pC av R] at g0;simp only[gQ,List.getD_cons_zero] at g0;have ae:=TA B j bs (Lib.decDigits x) w F D (by rw[Lib.decDigits_length];exact Lib.nDigits_pos x) (by have:=wT R;omega);have a0:=IN j x w _ R hG.here ae;have i0:(0:Int)<(nl x:Int):=by omega
   clear ae ag E o;go_enter func139,ntmps139;go_wp2_with fail;refine a0.mono ?_;rintro e w1 ⟨v1,rfl,s,t⟩;go_wp2;go_ret;exact⟨_,rfl,s,t⟩
  ·have S:((nl x:Int)==1)=false:=by simp;omega
   have ap:dJ 0 x=Lib.decDigits x:=SN av;have hT:bs.length+(dJ 0 x).length<=8796093022208:=by
    have:=IJ 0 x;omega
   have ax:=aB ap;have HT:=aB hT;have au:=D.lt;clear ap hT;have al:NatAt (w.alloc (.cells #[.int .u64 10000000000000000000] 122)) (.slice (some ⟨w.heap.size,0,none⟩) 1 1) (10^(19*2^([]:List Value).length)):=wL w 10000000000000000000 (by decide) (by decide) 122;have ac:OwnP ((w.alloc (.cells #[.int .u64 10000000000000000000] 122)).alloc (.cells #[.slice (some ⟨w.heap.size,0,none⟩) 1 1] 52)) w.heap.size (.slice (some ⟨w.heap.size+1,0,none⟩) 1 1) [.slice (some ⟨w.heap.size,0,none⟩) 1 1]:=by
    refine⟨⟨rfl,.inr ⟨w.heap.size+1,1,#[.slice (some ⟨w.heap.size,0,none⟩) 1 1],rfl,by omega,?_,aE,by decide,rfl,rfl⟩⟩,?_⟩
    ·have:=heap_alloc_new (w.alloc (.cells #[.int .u64 10000000000000000000] 122)) (.cells #[.slice (some ⟨w.heap.size,0,none⟩) 1 1] 52);simpa using this
    ·intro i u d;match i,d with
     |0,d=>
      simp at d;subst d;refine⟨al.be ((aG _ _).alloc aE _),?_⟩;intro g e1 e2;simp[Value.ownBlock] at e1 e2;omega
   have af:Below w.heap.size w ((w.alloc (.cells #[.int .u64 10000000000000000000] 122)).alloc (.cells #[.slice (some ⟨w.heap.size,0,none⟩) 1 1] 52)):=((aG _ _).alloc aE _).alloc (by simp) _;clear al;go_enter func139,ntmps139;go_wp2_with fail;go_loopg [5] 40 (fun k q wr=>∃us,Hid (us.length+k=41)∧1<=us.length∧Hid (2^(us.length-1)<=4294967296*2)∧OwnP wr w.heap.size q us∧(∀u∈us,∀g,u.ownBlock=some g->w.heap.size<=g)∧Below w.heap.size w wr)
   case atStart=>
    refine⟨[.slice (some ⟨w.heap.size,0,none⟩) 1 1],rfl,by simp,by unfold Hid;simp,ac,?_,af⟩;intro u d g e;rw[List.mem_singleton] at d;subst d;simp[Value.ownBlock] at e;omega
   case round=>
    obtain⟨us,HK,bq,V,y,P,f⟩:=hrel;clear ac af;have br:us.length<=34:=by
     rcases dE 34 us.length with h|h
     ·exfalso;have s:2^34<=2^(us.length-1):=cO (by decide) (by omega);have t:=V.out;have h4:(2:Nat)^34=17179869184:=by decide
      omega
     ·exact h
    have HP:=aB y;have ao:=y.powA;obtain⟨u,d⟩:∃u,us[us.length-1]? =some u:=⟨_,aR (by omega)⟩;obtain⟨M,am⟩:=y.2 _ _ d;have bh:u∈us:=dG d;have ai:PowFree j u5 us:=by
     refine⟨fun g I e=> ?_,fun C z g I e=> ?_⟩
     ·have:=(au g I).2;have:=(World.ownsRow.lt y.1 g e).1;omega
     ·have:=(au g I).2;have:=P C z g e;omega
    have O:=TD B j bs x _ _ us wr (by omega) (hG.on (f.mono F)) (aH F f.size) (D.be f) (HX.out.be f) ao a1 ai (by omega) HT.out;rw[ax.out] at O;rcases y.1.2 with ⟨_,e⟩|⟨g,Y,Z,rfl,hb,L,hn,n,hs,ar⟩
    ·omega
    have gc:wr.cell? ⟨g,us.length-1,none⟩=some u:=by
     rw[cell_of_row wr g _ Z _ (0,0) L,<-Array.getElem?_toList];have o:(Z.toList.take (us.length*1))[us.length-1]? =us[us.length-1]? :=by rw[ar]
     rw[fC,if_pos (by omega)] at o;rw[o];exact d
    have a7:g<wr.heap.size:=(Array.getElem?_eq_some_iff.1 L).1;have an:dL^2^(us.length-1)<=10^(19*2^(us.length-1)):=by rw[az7,<-Nat.pow_mul];exact aE
    have ak:=IH an;have aq:10^(19*2^(us.length-1))*10^(19*2^(us.length-1))=10^(19*2^us.length):=by
     rw[<-Nat.pow_add];congr 1;obtain⟨m,n⟩:∃m,us.length=m+1:=⟨us.length-1,by omega⟩;rw[n,mD,dH];omega
    have ay:=aB aq;have a9:=IE (2^(us.length-1)) (d7 (by decide));have bk:nl (10^(19*2^(us.length-1)))<=8589934592:=by have:=V.out;omega
    have aw:=aB ak;have HU:=aB d;have W:=aB O;clear hs L y aq a9 ar an ak d O ao ai;obtain⟨Au,cu,bf,bo,_,_⟩:=id M;subst bf;generalize 10^(19*2^(us.length-1))=X at *;have i0:(0:Int)<=(us.length:Int)-1:=by omega
    by_cases K:30<nl x∧2*nl X<=nl x
    ·obtain⟨J,a6⟩:=K;have a5:(30:Int)<(nl x:Int):=by omega
     have bp:2*(nl X:Int)<=(nl x:Int):=by omega
     go_wp2_with fail;refine(qN X X _ _ _ M M (by unfold aJ;omega)).mono ?_;rintro e U ⟨v2,rfl,Q,ah,H⟩;obtain⟨p,r,rfl,bn,bv,bt⟩:=id Q;have bi:NatAt U (Value.slice p (nl (X*X)) r) (10^(19*2^us.length)):=by rw[<-ay.out];exact Q
     have a8:∀a,(Value.slice (some ⟨g,0,none⟩) us.length Y).ownBlock=some a->(Value.slice p (nl (X*X)) r).ownBlock≠some a:=by
      intro a e;have:g=a:=by simpa [Value.ownBlock] using e
      subst this;exact ah.ne2 a7 (am _ rfl) (am _ rfl)
     have bg:∀a,(Value.slice p (nl (X*X)) r).ownBlock=some a->w.heap.size<=a:=by
      intro a e;rcases dE a wr.heap.size with h|h
      ·obtain⟨C,z,a4⟩:=ah a e h;have:C=Value.slice Au (nl X) cu:=by simpa using z
       subst this;exact P _ bh a a4
      ·exact aH f.size h
     have ad:=HP.out.belowE H;have ba:=Q.oneCell;have bw:=f.size;have bx:=H.size;go_wp2_with (at_builtin;refine gM rfl rfl 52 _ 1 24 underlying184 BE rfl (by decide) w.heap.size (.slice (some ⟨g,0,none⟩) us.length Y) us.length us rfl (ad.1.alloc _) [Value.slice p (nl (X*X)) r] rfl (by simp) (lM _ _ _) ba (by omega) (by omega) (by simp;omega) ?_;intro S w3 N aj G);have az:=OwnP.push ad bi a8 N aj G
     have a2:Below w.heap.size w w3:=((aC f H).alloc (by omega) _).grown aj (by simp;omega) (fun k hk=>by
      have:g=k:=by simpa [Value.ownBlock] using hk
      omega)
     go_wp2;go_roundg (41-(us++[Value.slice p (nl (X*X)) r]).length)
     case measure=>have:=HK.out;simp;omega
     case rel=>
      refine⟨us++[Value.slice p (nl (X*X)) r],by unfold Hid;simp;omega,by simp,?_,az,?_,a2⟩
      ·unfold Hid;rw[bE,iJ,mD];obtain⟨m,n⟩:∃m,us.length=m+1:=⟨us.length-1,by omega⟩;have o:=aw.out;rw[n,mD] at o;rw[n,dH];omega
      ·intro C z a e';rcases List.mem_append.1 z with h|h
       ·exact P C h a e'
       ·rw[List.mem_singleton] at h;subst h;exact bg a e'
    ·by_cases J:30<nl x
     ·have a6:¬2*(nl X:Int)<=(nl x:Int):=by omega
      clear K;go_wp2_with fail;refine W.out.mono ?_;rintro e U ⟨v2,rfl,s,t⟩;go_wp2;go_ret;exact⟨_,rfl,s,(TxtTo.be f).trans t⟩
     ·have a5:¬(30:Int)<(nl x:Int):=by omega
      clear K;go_wp2_with fail;refine W.out.mono ?_;rintro e U ⟨v2,rfl,s,t⟩;go_wp2;go_ret;exact⟨_,rfl,s,(TxtTo.be f).trans t⟩
def iP(x:Int):List UInt8:=(if x<0 then [45] else [])++Lib.decDigits x.natAbs
def TxtAt.nil(w:World)(B:Nat):TxtAt w B (.slice none 0 0) []:=World.ownsRow_nil w B _ _
def TxtAt.str{w:World}{B:Nat}{v:Value}{bs:List UInt8}(h:TxtAt w B v bs):(convert 149 9 v).run prog w= .ok (.string ⟨bs.toArray⟩) w:=by
 rcases id h.2 with ⟨rfl,e⟩|⟨g,a,c,rfl,_⟩
 ·have:bs=[]:=bX e;subst this;rw[run_convert_bytes_string w 149 9 5 none 0 0 underlying149 underlying5 underlying9];rfl
 ·refine run_convert_bytes_back (P:=prog) w 149 9 5 ⟨g,0,none⟩ a bs underlying149 underlying5 underlying9 (fun j b=> ?_);refine World.ownsRow.cells h (by simp[Value.ownBlock]) j _ ?_;simp[Lib.byteCells,b]
def Apart.nil(v:Value):Apart (.slice none 0 0) v:=fun g h=>by simp[Value.ownBlock] at h
def BP(B:Nat)(a:Value)(bs:List UInt8)(x:Int)(s:Bool)(A:Option Addr)(k c:Nat)(w:World)(I:GlobB B w)(C:B<=w.heap.size)(r:TxtAt w B a bs)(y:IntAt w (.agg #[.bool s,.slice A k c]) x)
  (o:Apart a (.slice A k c))(G:nl x.natAbs<=4294967296)(T:bs.length<=4398046511103):
  Calls prog 104 #[.agg #[.bool s,.slice A k c],a] w fun e w'=>∃v,e= .returned v∧TxtAt w' B v (bs++iP x)∧TxtTo w a w' v:=by
 have m:=y.neg;have J:∀g,(Value.slice A k c).ownBlock=some g->g<w.heap.size:=fun g e=>y.words.block e;have i:Bx (w.alloc (.cells #[.bool s,.slice A k c] 54)) (w.heap.size) [.bool s,.slice A k c] 54:=Bx.newAt w [.bool s,.slice A k c] 54 (w.heap.size) (by simp);have f:Below w.heap.size w (w.alloc (.cells #[.bool s,.slice A k c] 54)):=(aG _ _).alloc (by simp) _;have F:=y.words.be f;have t:=r.be f;have E:=fun g e=>(r.lt g e).1;have p:TxtTo w a (w.alloc (.cells #[.bool s,.slice A k c] 54)) a:=TxtTo.be f;have D:=I.on (p.belowB C E);have n:B<=(w.alloc (.cells #[.bool s,.slice A k c] 54)).heap.size:=aH C f.size;have K:∀g,(Value.slice A k c).ownBlock=some g->g<(w.alloc (.cells #[.bool s,.slice A k c] 54)).heap.size:=fun g e=>aZ (J g e) f.size;by_cases d:x<0
 ·have q:s=true:=by rw[m];simpa using d
  have h:iP x=[45]++Lib.decDigits x.natAbs:=by unfold iP;rw[if_pos d]
  rw[h];clear h d m;subst q;unfold TxtAt at t;go_enter func104,ntmps104;go_wp2_with (at_builtin;(refine gM rfl rfl 5 _ 1 1 underlying149 nF rfl (by decide) B a bs.length _ rfl (t.alloc _) [Value.int .u8 45] rfl (by simp) (FG _ _ _ _ (by simp)) (by simp[Value.oneCell']) (by omega) (by omega) (by simp;omega) ?_);intro P H O N M;have b:=TxtAt.more (bs:=bs) (l:=[45]) O N M;have i:Bx H w.heap.size [.bool true,.slice A k c] 54:=(b.2.1.block _ i.lt (fun e=>by have:=r.lt _ e.symm;omega)).trans i;have S:=i.cell 1 rfl);refine(ID B P (bs++[45]) x.natAbs (.slice A k c) H (D.on (b.2.belowB n E)) (aH n b.2.1.size) b.1 (F.txt b.2 o) (b.2.apart o K) G (by simp;omega)).mono ?_;rintro e R ⟨Q,rfl,j,z⟩;rw[eK] at j;have u:=p.trans (b.2.trans z);go_wp2;go_ret;exact⟨_,rfl,j,u⟩
 ·have q:s=false:=by rw[m];simpa using d
  have h:iP x=Lib.decDigits x.natAbs:=by unfold iP;rw[if_neg d];rfl
  rw[h];clear h d m;subst q;have L:=ID B a bs x.natAbs (.slice A k c) _ D n t F o G (by omega);go_enter func104,ntmps104;go_wp2_with fail;refine L.mono ?_;rintro e R ⟨Q,rfl,j,z⟩;have u:=p.trans z;go_wp2;go_ret;exact⟨_,rfl,j,u⟩
def T7(x:Int)(i:Value)(w:World)(k:Glob w)(h:IntAt w i x)(n:nl x.natAbs<=4294967296):
  Calls prog 103 #[i] w fun e w'=>e= .returned (.string ⟨(iP x).toArray⟩)∧Below w.heap.size w w':=by
 obtain⟨d,a,c,b,rfl⟩:=h.form;have p:Bx (w.alloc (.cells #[.bool d,.slice a c b] 54)) (w.heap.size) [.bool d,.slice a c b] 54:=Bx.newAt w [.bool d,.slice a c b] 54 (w.heap.size) (by simp);have f:Below w.heap.size w (w.alloc (.cells #[.bool d,.slice a c b] 54)):=(aG _ _).alloc (by simp) _;go_enter func103,ntmps103;go_wp2_with fail;generalize w.alloc (.cells #[.bool d,.slice a c b] 54)=W at *;have h:=h.be f;refine(BP W.heap.size (.slice none 0 0) [] x d a c b W (k.be f).globB aE (TxtAt.nil _ _) h (Apart.nil _) n (by simp)).mono ?_;rintro e r ⟨q,rfl,j,o⟩;have m:=j.str;rw[iM] at m;have l:=f.trans ((o.belowB aE (fun g e=>by simp[Value.ownBlock] at e)).mono f.size);go_wp2;go_ret;exact⟨rfl,l⟩
def IS{w w':World}(h:∃m,w'=w.drewN m):Below w.heap.size w w':=by
 obtain⟨m,rfl⟩:=h;exact eN (aG _ _) m
def TZ(l:List UInt8):Lib.hasPrefix l [45]=(l.head?==some 45)∧Lib.trimPrefix l [45]=if (l.head?==some 45)=true then l.tail else l:=by
 have h:Lib.hasPrefix l [45]=(l.head?==some 45):=by
  unfold Lib.hasPrefix;cases l with
  |nil=>rfl
  |cons a m=>
   show([45]:List UInt8).isPrefixOf (a :: m)=(some a==some 45)
   rw[List.isPrefixOf];simp only[List.isPrefixOf,Bool.and_true];by_cases e:a=45
   ·subst e;rfl
   ·have b:((45:UInt8)==a)=false:=by simpa using fun h=>e h.symm
    have c:(some a==some (45:UInt8))=false:=by simpa using e
    rw[b,c]
 refine⟨h,?_⟩;unfold Lib.trimPrefix;rw[h];simp
def oM(a:Bool)(n t:List UInt8):Option (Bool×List UInt8×List UInt8):=
 if n=[48] then (if a=false∧t=[] then some (a,n,[]) else none)
 else if n=[]∨n.head?=some 48 then none
 else if t=[] then some (a,n,[])
 else if t.head?≠some 47 then none
 else if t.tail.dropWhile bO=[]∧t.tail.takeWhile bO≠[]∧(t.tail.takeWhile bO).head?≠some 48∧t.tail.takeWhile bO≠[49] then some (a,n,t.tail.takeWhile bO) else none
def U4(l:List UInt8):iA l=oM (l.head?==some 45) ((if (l.head?==some 45)=true then l.tail else l).takeWhile bO) ((if (l.head?==some 45)=true then l.tail else l).dropWhile bO):=rfl
def U9(l:List UInt8)(w:World)(hl:l.length<=1099511627776):
  Calls prog 75 #[.string ⟨l.toArray⟩] w fun e w'=>∃ad n d S,e= .returned (.tuple #[.agg #[.bool ad,.string ⟨n.toArray⟩,.string ⟨d.toArray⟩],.bool S])∧(S=true->iA l=some (ad,n,d))∧(S=false->iA l=none)∧Below w.heap.size w w':=by
 have Q:=fun W=>Tryz.strings_CutPrefix ⟨l.toArray⟩ ⟨#[45]⟩ W;obtain⟨p1,p2⟩:=TZ l;have j:=aB (U4 l);have ak:(if (l.head?==some 45)=true then l.tail else l).length<=l.length:=by split<;>simp
 simp only[p1,p2] at Q;generalize (l.head?==some 45)=q at *;generalize (if q=true then l.tail else l)=r at *;have X:=fun W=>IT r W (by omega);obtain⟨W,T,c,R,F⟩:=eL w [.bool false,.string ⟨#[]⟩,.string ⟨#[]⟩] 126 [.bool false,.string ⟨#[]⟩,.string ⟨#[]⟩] 126;have s:=aa R.g3 F.g3;go_enter func75,ntmps75;go_wp2_with fail;(try rw[T]);clear T;refine(Q _).mono ?_;rintro e1 w1 ⟨rfl,rfl⟩;clear Q p1 p2;replace s:=aa R.g3 F.g3;go_wp2_with fail;obtain⟨w2,U,F,c,k,f⟩:=F.put1 c (by omega) 0 (.bool q) rfl;replace R:=f R (by omega);rw[U];clear U;replace s:=aa R.g3 F.g3;refine(X _).mono ?_;rintro e3 w3 ⟨rfl,Z⟩;have N:=IS Z;clear Z X;replace R:=R.be N;replace F:=F.be N;replace s:=aa R.g3 F.g3;replace c:=aC c N;have ah:(r.dropWhile bO).length<=r.length:=by
  have:=congrArg List.length (List.takeWhile_append_dropWhile (p:=bO) (l:=r));rw[bE] at this;omega
 generalize r.takeWhile bO=n at *;generalize r.dropWhile bO=t at *;by_cases y:n=[48]
 ·have q1:(n==[48])=true:=by rw[y];rfl
  cases q with
  |true=>
   have i:iA l=none:=by rw[j.out,oM,if_pos y,if_neg (by simp)]
   have o:=aB i;clear j i y;go_wp2_with fail;obtain⟨I,x,F,c,k,f⟩:=F.put1 c (by omega) 1 (.string ⟨n.toArray⟩) rfl;replace R:=f R (by omega);obtain⟨C,g,R,c,k,f⟩:=R.put3 c (by omega) (.bool true) (.string ⟨n.toArray⟩) (.string ⟨#[]⟩) rfl rfl;replace F:=f F (by omega);rw[x,g];clear x g;replace s:=aa R.k3 F.k3;exact aM (v:= .tuple #[.agg #[.bool true,.string ⟨n.toArray⟩,.string ⟨#[]⟩],.bool false]) (by simp[results,results75,go_sem,R.k3]) rfl ⟨_,_,_,_,rfl,(fun h=>by cases h),(fun _=>o.out),c⟩
  |false=>
   by_cases z:t=[]
   ·have i:iA l=some (false,n,[]):=by rw[j.out,oM,if_pos y,if_pos ⟨rfl,z⟩]
    have o:=aB i;have q2:(t==[])=true:=by rw[z];rfl
    clear j i y z;go_wp2_with fail;obtain⟨I,x,F,c,k,f⟩:=F.put1 c (by omega) 1 (.string ⟨n.toArray⟩) rfl;replace R:=f R (by omega);obtain⟨C,g,R,c,k,f⟩:=R.put3 c (by omega) (.bool false) (.string ⟨n.toArray⟩) (.string ⟨#[]⟩) rfl rfl;replace F:=f F (by omega);rw[x,g];clear x g;replace s:=aa R.k3 F.k3;exact aM (v:= .tuple #[.agg #[.bool false,.string ⟨n.toArray⟩,.string ⟨#[]⟩],.bool true]) (by simp[results,results75,go_sem,R.k3]) rfl ⟨_,_,_,_,rfl,(fun _=>o.out),(fun h=>by cases h),c⟩
   ·have i:iA l=none:=by rw[j.out,oM,if_pos y,if_neg (fun h=>z h.2)]
    have o:=aB i;have q2:(t==[])=false:=by simpa using z
    clear j i y z;go_wp2_with fail;obtain⟨I,x,F,c,k,f⟩:=F.put1 c (by omega) 1 (.string ⟨n.toArray⟩) rfl;replace R:=f R (by omega);obtain⟨C,g,R,c,k,f⟩:=R.put3 c (by omega) (.bool false) (.string ⟨n.toArray⟩) (.string ⟨#[]⟩) rfl rfl;replace F:=f F (by omega);rw[x,g];clear x g;replace s:=aa R.k3 F.k3;exact aM (v:= .tuple #[.agg #[.bool false,.string ⟨n.toArray⟩,.string ⟨#[]⟩],.bool false]) (by simp[results,results75,go_sem,R.k3]) rfl ⟨_,_,_,_,rfl,(fun h=>by cases h),(fun _=>o.out),c⟩
 ·have q1:(n==[48])=false:=by simpa using y
  cases n with
  |nil=>
   have i:iA l=none:=by rw[j.out,oM,if_neg y,if_pos (.inl rfl)]
   have o:=aB i;clear j i y;go_wp2_with fail;obtain⟨I,x,F,c,k,f⟩:=F.put1 c (by omega) 1 (.string ⟨#[]⟩) rfl;replace R:=f R (by omega);obtain⟨C,g,R,c,k,f⟩:=R.put3 c (by omega) (.bool q) (.string ⟨#[]⟩) (.string ⟨#[]⟩) rfl rfl;replace F:=f F (by omega);rw[x,g];clear x g;replace s:=aa R.k3 F.k3;exact aM (v:= .tuple #[.agg #[.bool q,.string ⟨#[]⟩,.string ⟨#[]⟩],.bool false]) (by simp[results,results75,go_sem,R.k3]) rfl ⟨_,_,_,_,rfl,(fun h=>by cases h),(fun _=>o.out),c⟩
  |cons a m=>
   have ai:∀h,({ data:=(a :: m).toArray }:ByteArray)[0]'h=a:=fun _=>rfl;by_cases K:a=48
   ·have i:iA l=none:=by rw[j.out,oM,if_neg y,if_pos (.inr (by rw[K];rfl))]
    have o:=aB i;clear j i y;subst K;go_wp2_with fail;obtain⟨I,x,F,c,k,f⟩:=F.put1 c (by omega) 1 (.string ⟨(48 :: m).toArray⟩) rfl;replace R:=f R (by omega);obtain⟨C,g,R,c,k,f⟩:=R.put3 c (by omega) (.bool q) (.string ⟨(48 :: m).toArray⟩) (.string ⟨#[]⟩) rfl rfl;replace F:=f F (by omega);rw[x,g];clear x g;replace s:=aa R.k3 F.k3;exact aM (v:= .tuple #[.agg #[.bool q,.string ⟨(48 :: m).toArray⟩,.string ⟨#[]⟩],.bool false]) (by simp[results,results75,go_sem,R.k3]) rfl ⟨_,_,_,_,rfl,(fun h=>by cases h),(fun _=>o.out),c⟩
   ·have qa:((a.toNat:Int)==48)=false:=by
     have:a.toNat≠48:=fun e=>K (UInt8.toNat_inj.1 e);simp;omega
    have J:¬((a :: m)=[]∨(a :: m).head?=some 48):=by simp[K]
    by_cases z:t=[]
    ·have i:iA l=some (q,a :: m,[]):=by rw[j.out,oM,if_neg y,if_neg J,if_pos z]
     have o:=aB i;have q2:(t==[])=true:=by rw[z];rfl
     clear j i y z;go_wp2_with fail;obtain⟨I,x,F,c,k,f⟩:=F.put1 c (by omega) 1 (.string ⟨(a :: m).toArray⟩) rfl;replace R:=f R (by omega);obtain⟨C,g,R,c,k,f⟩:=R.put3 c (by omega) (.bool q) (.string ⟨(a :: m).toArray⟩) (.string ⟨#[]⟩) rfl rfl;replace F:=f F (by omega);rw[x,g];clear x g;replace s:=aa R.k3 F.k3;exact aM (v:= .tuple #[.agg #[.bool q,.string ⟨(a :: m).toArray⟩,.string ⟨#[]⟩],.bool true]) (by simp[results,results75,go_sem,R.k3]) rfl ⟨_,_,_,_,rfl,(fun _=>o.out),(fun h=>by cases h),c⟩
    ·obtain⟨b,D,rfl⟩:∃b D,t=b :: D:=by
      cases t with
      |nil=>exact absurd rfl z
      |cons b D=>exact⟨b,D,rfl⟩
     have af:∀h,({ data:=(b :: D).toArray }:ByteArray)[0]'h=b:=fun _=>rfl;by_cases O:b=47
     ·subst O;rw[oM,if_neg y,if_neg J,if_neg z,if_neg (by simp),List.tail_cons] at j;clear y J z;have ae:({ data:=(47 :: D).toArray }:ByteArray).extract 1 (D.length+1)=⟨D.toArray⟩:=rX (by rw[mP];simp);have Y:=fun W=>IT D W (by simp at ah;omega);generalize D.takeWhile bO=d at *;generalize D.dropWhile bO=u at *;go_wp2_with fail;obtain⟨w4,V,F,c,k,f⟩:=F.put1 c (by omega) 1 (.string ⟨(a :: m).toArray⟩) rfl;replace R:=f R (by omega);rw[V];clear V;replace s:=aa R.g3 F.g3;refine(Y _).mono ?_;rintro e5 w5 ⟨rfl,ac⟩;have P:=IS ac;clear ac Y ae af;replace R:=R.be P;replace F:=F.be P;replace s:=aa R.g3 F.g3;replace c:=aC c P;by_cases E:u=[]
      ·have q3:(u==[])=true:=by rw[E];rfl
       cases d with
       |nil=>
        have i:iA l=none:=by rw[j.out,if_neg (by simp)]
        have o:=aB i;clear j i E;go_wp2_with fail;obtain⟨M,B,F,c,k,f⟩:=F.put1 c (by omega) 2 (.string ⟨#[]⟩) rfl;replace R:=f R (by omega);rw[B];clear B;replace s:=aa R.g3 F.g3;go_region;all_goals (go_wp2_with fail)
        obtain⟨C,g,R,c,k,f⟩:=R.put3 c (by omega) (.bool q) (.string ⟨(a :: m).toArray⟩) (.string ⟨#[]⟩) rfl rfl;replace F:=f F (by omega);rw[g];clear g;replace s:=aa R.k3 F.k3;exact aM (v:= .tuple #[.agg #[.bool q,.string ⟨(a :: m).toArray⟩,.string ⟨#[]⟩],.bool false]) (by simp[results,results75,go_sem,R.k3]) rfl ⟨_,_,_,_,rfl,(fun h=>by cases h),(fun _=>o.out),c.drew⟩
       |cons e A=>
        have ag:∀h,({ data:=(e :: A).toArray }:ByteArray)[0]'h=e:=fun _=>rfl;by_cases H:e=48
        ·have i:iA l=none:=by rw[j.out,if_neg (by rw[H];simp)]
         have o:=aB i;have qe:((e.toNat:Int) != 48)=false:=by rw[H];rfl
         clear j i E H;go_wp2_with fail;obtain⟨M,B,F,c,k,f⟩:=F.put1 c (by omega) 2 (.string ⟨(e :: A).toArray⟩) rfl;replace R:=f R (by omega);rw[B];clear B;replace s:=aa R.g3 F.g3;go_region;all_goals (go_wp2_with fail)
         obtain⟨C,g,R,c,k,f⟩:=R.put3 c (by omega) (.bool q) (.string ⟨(a :: m).toArray⟩) (.string ⟨(e :: A).toArray⟩) rfl rfl;replace F:=f F (by omega);rw[g];clear g;replace s:=aa R.k3 F.k3;exact aM (v:= .tuple #[.agg #[.bool q,.string ⟨(a :: m).toArray⟩,.string ⟨(e :: A).toArray⟩],.bool false]) (by simp[results,results75,go_sem,R.k3]) rfl ⟨_,_,_,_,rfl,(fun h=>by cases h),(fun _=>o.out),c.drew⟩
        ·have qe:((e.toNat:Int) != 48)=true:=by
          have:e.toNat≠48:=fun h=>H (UInt8.toNat_inj.1 h);simp;omega
         by_cases G:e :: A=[49]
         ·have i:iA l=none:=by rw[j.out,if_neg (fun h=>h.2.2.2 G)]
          have o:=aB i;have q4:(e :: A != [49])=false:=by rw[G];rfl
          have L:e=49∧A=[]:=by simpa using G
          clear j i E H G;obtain⟨rfl,rfl⟩:=L;clear qe q4 ag;have aj:∀h,({ data:= #[49] }:ByteArray)[0]'h=49:=fun _=>rfl;have al:(((49:UInt8).toNat:Int) != 48)=true:=by decide
          go_wp2_with fail;obtain⟨M,B,F,c,k,f⟩:=F.put1 c (by omega) 2 (.string ⟨#[49]⟩) rfl;replace R:=f R (by omega);rw[B];clear B;replace s:=aa R.g3 F.g3;go_region;all_goals (go_wp2_with fail)
          obtain⟨C,g,R,c,k,f⟩:=R.put3 c (by omega) (.bool q) (.string ⟨(a :: m).toArray⟩) (.string ⟨#[49]⟩) rfl rfl;replace F:=f F (by omega);rw[g];clear g;replace s:=aa R.k3 F.k3;exact aM (v:= .tuple #[.agg #[.bool q,.string ⟨(a :: m).toArray⟩,.string ⟨#[49]⟩],.bool false]) (by simp[results,results75,go_sem,R.k3]) rfl ⟨_,_,[49],_,rfl,(fun h=>by cases h),(fun _=>o.out),c.drew⟩
         ·have i:iA l=some (q,a :: m,e :: A):=by rw[j.out,if_pos ⟨E,by simp,by simpa using H,G⟩]
          have o:=aB i;have q4:(e :: A != [49])=true:=by simpa using G
          have L:e=49->¬A=[]:=by simpa using G
          have q6:¬e=49∨¬A=[]:=by
           by_cases h:e=49
           ·exact .inr (L h)
           ·exact .inl h
          clear j i E H G L;go_wp2_with fail;obtain⟨M,B,F,c,k,f⟩:=F.put1 c (by omega) 2 (.string ⟨(e :: A).toArray⟩) rfl;replace R:=f R (by omega);rw[B];clear B;replace s:=aa R.g3 F.g3;go_region;all_goals (go_wp2_with fail)
          obtain⟨C,g,R,c,k,f⟩:=R.put3 c (by omega) (.bool q) (.string ⟨(a :: m).toArray⟩) (.string ⟨(e :: A).toArray⟩) rfl rfl;replace F:=f F (by omega);rw[g];clear g;replace s:=aa R.k3 F.k3;exact aM (v:= .tuple #[.agg #[.bool q,.string ⟨(a :: m).toArray⟩,.string ⟨(e :: A).toArray⟩],.bool true]) (by simp[results,results75,go_sem,R.k3,q6]) rfl ⟨_,_,_,_,rfl,(fun _=>o.out),(fun h=>by cases h),c.drew⟩
      ·have q3:(u==[])=false:=by simpa using E
       have i:iA l=none:=by rw[j.out,if_neg (fun h=>E h.1)]
       have o:=aB i;clear j i E;go_wp2_with fail;obtain⟨M,B,F,c,k,f⟩:=F.put1 c (by omega) 2 (.string ⟨d.toArray⟩) rfl;replace R:=f R (by omega);rw[B];clear B;replace s:=aa R.g3 F.g3;go_region;all_goals (go_wp2_with fail)
       obtain⟨C,g,R,c,k,f⟩:=R.put3 c (by omega) (.bool q) (.string ⟨(a :: m).toArray⟩) (.string ⟨d.toArray⟩) rfl rfl;replace F:=f F (by omega);rw[g];clear g;replace s:=aa R.k3 F.k3;exact aM (v:= .tuple #[.agg #[.bool q,.string ⟨(a :: m).toArray⟩,.string ⟨d.toArray⟩],.bool false]) (by simp[results,results75,go_sem,R.k3]) rfl ⟨_,_,_,_,rfl,(fun h=>by cases h),(fun _=>o.out),c.drew⟩
     ·have i:iA l=none:=by rw[j.out,oM,if_neg y,if_neg J,if_neg z,if_pos (by simpa using O)]
      have o:=aB i;have qb:((b.toNat:Int) != 47)=true:=by
       have:b.toNat≠47:=fun e=>O (UInt8.toNat_inj.1 e);simp;omega
      clear j i y z J;go_wp2_with fail;obtain⟨I,x,F,c,k,f⟩:=F.put1 c (by omega) 1 (.string ⟨(a :: m).toArray⟩) rfl;replace R:=f R (by omega);obtain⟨C,g,R,c,k,f⟩:=R.put3 c (by omega) (.bool q) (.string ⟨(a :: m).toArray⟩) (.string ⟨#[]⟩) rfl rfl;replace F:=f F (by omega);rw[x,g];clear x g;replace s:=aa R.k3 F.k3;exact aM (v:= .tuple #[.agg #[.bool q,.string ⟨(a :: m).toArray⟩,.string ⟨#[]⟩],.bool false]) (by simp[results,results75,go_sem,R.k3]) rfl ⟨_,_,_,_,rfl,(fun h=>by cases h),(fun _=>o.out),c⟩
