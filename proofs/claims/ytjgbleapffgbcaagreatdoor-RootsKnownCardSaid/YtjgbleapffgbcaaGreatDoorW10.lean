/- Laws. -/
import Derived.Test.YtjgbleapffgbcaaGreatDoorW09
import Derived.Lib.AppendStr
import Derived.Laws.IdiomStrings
set_option linter.all false
set_option maxHeartbeats 8000000
set_option maxRecDepth 99999
namespace Go.Proofs.YtjgbleapffgbcaaGreatDoor
open Go.RowKit Sos Tryz
variable{w w':World}{A o:Option Addr}{B K c c' g i j n n':Nat}{v:Value}{a f:List (List UInt8)}{b qs:List Rat}{bs d l t:List UInt8}{D x:Int}{q:Rat}
def PowA(w:World)(v:Value)(us:List Value):Prop:=∃A c,v= .slice A us.length c∧us.length<=c∧Old w A∧(us.length=0∨∃b off,A=some ⟨b,off,none⟩∧VC w b off us)∧∀i u,us[i]? =some u->NatAt w u (10^(19*2^i))
def PowFree(a v:Value)(us:List Value):Prop:=Apart a v∧∀u∈us,Apart a u
def Old.block(h:Old w A)(e:(Value.slice A n c).ownBlock=some g):g<w.1.size:=by
 cases A with
 |none=>simp[Value.ownBlock] at e
 |some a=>have:=h a rfl;simp[Value.ownBlock] at e;omega
def PowA.be{us:List Value}(h:PowA w v us)(a:Below w.1.size w w'):PowA w' v us:=by
 obtain⟨A,c,hv,f,d,e,j⟩:=h;refine⟨A,c,hv,f,d.mono a.size,?_,fun i u h=>(j i u h).be a⟩;rcases e with h|⟨b,k,rfl,g⟩
 ·exact .inl h
 ·exact .inr ⟨b,k,rfl,g.be a (d _ rfl)⟩
def PowA.txt{a b:Value}{us:List Value}(h:PowA w v us)(d:TxtTo w a w' b)(f:PowFree a v us):PowA w' v us∧PowFree b v us:=by
 obtain⟨A,c,rfl,o,j,n,m⟩:=h;refine⟨⟨A,c,rfl,o,j.mono d.1.size,?_,fun i u h=>(m i u h).txt d (f.2 u (dG h))⟩,?_,fun u l=> ?_⟩
 ·rcases n with h|⟨k,r,rfl,p⟩
  ·exact .inl h
  ·exact .inr ⟨k,r,rfl,p.grown d.1 (j _ rfl) (fun e=>f.1 k e rfl)⟩
 ·exact d.apart f.1 (fun g e=>j.block e)
 ·obtain⟨i,q⟩:=List.getElem?_of_mem l;exact d.apart (f.2 u l) (fun g e=>(m i u q).block e)
def PowA.cut{k:Nat}{us:List Value}(h:PowA w (.slice A k c) us)(q:us.length=k)(p:j<=k):PowA w (.slice A j c) (us.take j):=by
 obtain⟨m,n,hv,o,f,a,g⟩:=h;simp only[Value.slice.injEq] at hv;obtain⟨rfl, -,rfl⟩:=hv;have e:(us.take j).length=j:=by rw[bK];omega
 refine⟨A,c,by rw[e],by omega,f,?_,fun i u h=>g i u (by rw[fC] at h;split at h;exact h;cases h)⟩;rcases a with h|⟨b,l,rfl,d⟩
 ·exact .inl (by omega)
 ·exact .inr ⟨b,l,rfl,d.take j⟩
def Apart.same{b:Value}(h:Apart b (.slice A n c)):Apart b (.slice A n' c'):=by
 intro g d e;refine h g d ?_;cases A with
 |none=>simp[Value.ownBlock] at e
 |some a=>simpa [Value.ownBlock] using e
def PowFree.cut{a:Value}{us:List Value}(h:PowFree a (.slice A n c) us):PowFree a (.slice A n' c') (us.take j):=
 ⟨h.1.same,fun u b=>h.2 u (lH b)⟩
def IE(j:Nat)(a:1<=j):nl (10^(19*j))<=j:=by
 refine cJ ?_;rw[azL];exact Nat.pow_lt_pow_left (by decide) (by omega)
def BQ(N:Nat):Prop:=∀(k B:Nat) (a:Value) (bs:List UInt8) (x b:Nat) (d c:Value) (us:List Value) (w:World),k<N->k<=36->us.length=k->GlobB B w->B<=w.1.size->TxtAt w B a bs->NatAt w d x->PowA w c us->Apart a d->PowFree a c us->
 nl x<=274877906944->bs.length+(dJ b x).length<=8796093022208->(b=0∨b=19*2^k)->
 Calls prog 167 #[a,d,.int .i64 b,c] w fun e w'=>∃v,e= .returned v∧TxtAt w' B v (bs++dJ b x)∧TxtTo w a w' v
def TB(N:Nat)(ih:BQ N):BQ (N+1):=by
 intro k B i r x a vx vp us w hN bj Z hG U ht C hp ao aq bw hT hw;have bv:a<=(dJ a x).length:=by rw[cyI];omega
 have H:=dzL B i r x a vx w hG U ht C (by omega) (by omega) (by omega);have HP:=aB hp;have aj:=aB Z;obtain⟨A,c,aw,hc,ho,T,hu⟩:=hp;rw[Z] at aw hc T;subst aw;by_cases q:k=0∨nl x<=30
 ·obtain⟨Ax,cx,ah,_,_,_⟩:=id C;subst ah;clear Z;rcases q with rfl|q
  ·go_enter func167,ntmps167;go_wp2_with fail;refine H.mono ?_;rintro e m ⟨v1,rfl,t,f⟩;go_wp2;go_ret;exact⟨_,rfl,t,f⟩
  ·have br:(nl x:Int)<=30:=by omega
   by_cases a5:k=0
   ·subst a5;go_enter func167,ntmps167;go_wp2_with fail;refine H.mono ?_;rintro e m ⟨v1,rfl,t,f⟩;go_wp2;go_ret;exact⟨_,rfl,t,f⟩
   ·go_enter func167,ntmps167;go_wp2_with fail;refine H.mono ?_;rintro e m ⟨v1,rfl,t,f⟩;go_wp2;go_ret;exact⟨_,rfl,t,f⟩
 ·obtain⟨l,rfl⟩:∃l,k=l+1:=⟨k-1,by omega⟩;have bt:¬(nl x:Int)<=30:=by omega
  obtain⟨b,J,rfl,av⟩:=T.resolve_left (by omega);obtain⟨u,G⟩:∃u,us[l]? =some u:=⟨_,aR (by omega)⟩;have g:=av l u G;have ar:=hu l u G;have an:Apart i u:=aq.2 u (dG G);have a9:=IE (2^l) (d7 (by decide));have a6:2^l<=2^36:=cO (by decide) (by omega);have bk:(2:Nat)^36=68719476736:=by decide
  obtain⟨S,bh,O,bf,bg⟩:=BC l (by omega);rw[<-O.out] at ar a9;have bn:nl (10^S)<=68719476736:=by omega
  have a1:0<10^S:=d7 (by decide);have az:=aB (iD x (10^S));have a7:x%10^S<10^S:=dI _ a1;have bp:nl (x/10^S)<=nl x:=cK (azK _ _);have bq:nl (x%10^S)<=nl x:=cK (bxP _ _);have I:a=0∨a=S+S:=by
   rcases hw with h|h
   ·exact .inl h
   ·right;rw[h,dH,O.out];omega
  have am:Hid (x/10^S≠0∨S<=a->dJ a x=dJ (a-S) (x/10^S)++dJ S (x%10^S)):=by
   intro h;have:=GZ (w:=a) (hi:=x/10^S) (lo:=x%10^S) (d:=S) a7 h;rw[dN,iD] at this;exact this
  have a2:(10^S:Nat)≠0:=by omega
  generalize hQ:10^S=P at *;have HQ:=aB hQ;obtain⟨Ax,cx,ah,_,_,bo⟩:=id C;have HW:=aB hw;clear hQ hu av q G T a6 hw;subst ah;have ae:=ht.lt;have ap:=D1 x P _ _ _ C ar a2 (by unfold aJ;omega);go_enter func167,ntmps167;go_wp2_with fail;refine ap.mono ?_;rintro e m ⟨vq,K,rfl,hq,hr,fq,fr,y⟩;have a3:Apart i vq:=fun g o=>fq.ne2 (ae g o).2 (ao g o) (an g o);have X:Apart i K:=fun g o=>fr.ne2 (ae g o).2 (ao g o) (an g o);have V:GlobB B m:=hG.on (y.mono U);have E:B<=m.1.size:=aH U y.size;have au:=ht.be y;have ac:=(HP.out.be y).cut aj.out (show l<=l+1 by omega);have Y:PowFree i (.slice (some ⟨b,J,none⟩) l c) (us.take l):=aq.cut;have af:(us.take l).length=l:=by rw[bK];have:=aj.out;omega
  have ag:TxtTo w i m i:=TxtTo.be y;have bm:l<=c:=by omega
  obtain⟨Aq,cq,bb,_,_,_⟩:=id hq;subst bb;have a0:=aB hq;clear ap hq H C;have W:S=19*2^l:=O.out;have ax:(x/P≠0∨S<=a)->Calls prog 167 #[i,.slice Aq (nl (x/P)) cq,.int .i64 ((a-S:Nat):Int),.slice (some ⟨b,J,none⟩) l c] m (fun e D=>∃v,e= .returned v∧TxtAt D B v (r++dJ (a-S) (x/P))∧TxtTo m i D v):=by
   intro h;have q:=am.out h;have ad:=congrArg List.length q;rw[dA] at ad;exact ih l B i r (x/P) (a-S) _ _ (us.take l) m (by omega) (by omega) af V E au a0.out ac a3 Y (by omega) (by omega) (by rcases I with h|h<;>omega)
  have ay:(x/P≠0∨S<=a)->∀j n,TxtAt n B j (r++dJ (a-S) (x/P))->TxtTo m i n j->Calls prog 167 #[j,K,.int .i64 S,.slice (some ⟨b,J,none⟩) l c] n (fun e D=>∃v,e= .returned v∧TxtAt D B v (r++dJ a x)∧TxtTo n j D v):=by
   intro h j n f z;have q:=am.out h;have ad:=congrArg List.length q;rw[dA] at ad;obtain⟨ba,a4⟩:=ac.txt z Y;have:=ih l B j (r++dJ (a-S) (x/P)) (x%P) S K _ (us.take l) n (by omega) (by omega) af (V.on (z.belowB E (fun g o=>(ae g o).1))) (aH E z.1.size) f (hr.txt z X) ba (z.apart X (fun g e=>hr.block e)) a4 (by omega) (by rw[dA];omega) (.inr W);rw[eK,<-q] at this;exact this
  have ak:=aB ax;have al:=aB ay;have bc:=aB W;clear ax ay W;by_cases p:x/P=0
  ·have q0:((nl (x/P):Int)==0)=true:=by rw[p,dO];rfl
   rcases I with rfl|I
   ·have ai:x%P=x:=by have:=az.out;rw[p] at this;omega
    have F:=ih l B i r (x%P) 0 K (.slice (some ⟨b,J,none⟩) l c) (us.take l) m (by omega) (by omega) af V E au hr ac X Y (by omega) (by rw[ai];exact hT) (.inl rfl);rw[ai] at F;simp only[Int.natCast_zero] at F;have HC:=aB F;clear F ai p;go_wp2_with fail;refine HC.out.mono ?_;rintro e n ⟨j,rfl,f,s⟩;go_wp2;go_ret;exact⟨_,rfl,f,ag.trans s⟩
   ·have bu:((a:Int)==0)=false:=by simp;omega
    have bi:S<=a:=by omega
    clear I;have a8:max ((a:Int)-(S:Int)) 0=((a-S:Nat):Int):=by omega
    have L:=aB (ak.out (.inr (by omega)));have M:=aB (al.out (.inr (by omega)));clear p;generalize a-S=w0 at *;go_wp2_with fail;refine L.out.mono ?_;rintro e n ⟨j,rfl,f,s⟩;go_wp2_with fail;refine(M.out j n f s).mono ?_;rintro e w3 ⟨v3,rfl,Q,R⟩;go_wp2;go_ret;exact⟨_,rfl,Q,(ag.trans s).trans R⟩
  ·have q0:((nl (x/P):Int)==0)=false:=by have:=gS p;simp;omega
   have a8:max ((a:Int)-(S:Int)) 0=((a-S:Nat):Int):=by omega
   have L:=aB (ak.out (.inl p));have M:=aB (al.out (.inl p));clear p;generalize a-S=w0 at *;go_wp2_with fail;refine L.out.mono ?_;rintro e n ⟨j,rfl,f,s⟩;go_wp2_with fail;refine(M.out j n f s).mono ?_;rintro e w3 ⟨v3,rfl,Q,R⟩;go_wp2;go_ret;exact⟨_,rfl,Q,(ag.trans s).trans R⟩
def TC(N:Nat):BQ N:=by
 induction N with
 |zero=>intro k B c b x f e d us w h;omega
 |succ N a=>exact TB N a
def TD(B:Nat)(a:Value)(bs:List UInt8)(x:Nat)(c b:Value)(us:List Value)(w:World)(j:us.length<=36)(f:GlobB B w)(d:B<=w.1.size)(l:TxtAt w B a bs)(m:NatAt w c x)(k:PowA w b us)(h:Apart a c)(i:PowFree a b us)
  (n:nl x<=274877906944)(g:bs.length+(dJ 0 x).length<=8796093022208):
  Calls prog 167 #[a,c,.int .i64 0,b] w fun e w'=>∃v,e= .returned v∧TxtAt w' B v (bs++dJ 0 x)∧TxtTo w a w' v:=by
 have:=TC (us.length+1) us.length B a bs x 0 c b us w (aqC _) j rfl f d l m k h i n g (.inl rfl);simpa only[Int.natCast_zero] using this
def T9(l:List UInt8):Lib.strCells ⟨l.toArray⟩=Lib.byteCells l:=by simp[Lib.strCells,Lib.byteCells]
def TA(B:Nat)(n:Value)(bs l:List UInt8)(w:World)(D:B<=w.1.size)(F:TxtAt w B n bs)(N:1<=l.length)(I:bs.length+l.length<=140737488355328):
  Apps w n l (fun f w'=>TxtAt w' B f (bs++l)∧TxtTo w n w' f):=by
 obtain⟨i,o,x,p,s⟩:=info_parts nF;refine⟨fun b h=> ?_,fun b a c h G=> ?_⟩
 ·have q:=F.be h;have v:(⟨l.toArray⟩:ByteArray).size=l.length:=by simp[ByteArray.size]
  obtain⟨f,w',m,t,y,_⟩:=Lib.run_append_own_string (P:=prog) b B 145 9 145 5 i underlying145 underlying9 o x p s n bs.length _ q ⟨l.toArray⟩ (by rw[v];unfold maxLen;omega) (by rw[v];exact I) (aH D h.size);rw[v,T9] at t;have A:Go.Src prog i.size 9 (.string ⟨l.toArray⟩) l.length (Lib.byteCells l) b:=by
   have:=Go.Src.ofString (P:=prog) b underlying9 ⟨l.toArray⟩;rw[v] at this;rw[p];exact this
  have z:f.ownBlock=n.ownBlock∨f.ownBlock=some b.1.size:=by
   rcases q.2 with ⟨rfl,e⟩|⟨g,r,C,rfl,L,E,hn,k,M,O⟩
   ·have d:=run_append_grow_src (P:=prog) b 145 9 145 5 i _ underlying145 o x none 0 0 [] (run_firstCells_none b.drew i.size 0 0 0) _ _ _ A (by omega) (by omega) (by rw[s];exact growslice_fits (by omega) (by omega));rw[m] at d;injection d with h1 h2;right;rw[h1];rfl
   ·by_cases J:bs.length+l.length<=r
    ·have d:=run_append_room_src (P:=prog) b 145 9 145 5 i underlying145 o g 0 bs.length r _ _ _ A J
      (fun j H=>by
       rw[Lib.byteCells_length] at H;rw[p,cell_of_row b g _ C _ (0,0) E];simp;omega) (fun j _=>frozen_of_row b g _ C _ E)
     rw[m] at d;injection d with h1 h2;left;rw[h1];rfl
    ·have d:=run_append_grow_src (P:=prog) b 145 9 145 5 i _ underlying145 o x (some ⟨g,0,none⟩) bs.length r (Lib.byteCells bs)
      (run_firstCells_some b.drew i.size bs.length ⟨g,0,none⟩ bs.length r (Lib.byteCells bs) (by rw[Lib.byteCells_length,p,az9]) (fun j u K=>by
       have:=World.ownsRow.cells q (g:=g) rfl j u K;simpa using this)) _ _ _ A (by omega) (by omega) (by rw[s];exact growslice_fits (by omega) (by omega))
     rw[m] at d;injection d with h1 h2;right;rw[h1];rfl
  have k:=TxtAt.more' (w:=b) (bs:=bs) (l:=l) t y z;exact⟨f,w',m,k.1,(TxtTo.be h).trans k.2⟩
 ·have q:=F.be h;obtain⟨f,w',m,t,y,_,z⟩:=run_append_own_at (P:=prog) b B 145 145 5 i _ 1 1 underlying145 o x p s rfl (by decide) n bs.length _ q a l.length c (Lib.byteCells l) (by rw[Lib.byteCells_length,az9]) G (IM l) (by unfold maxLen;omega) (by omega) (aH D h.size);have k:=TxtAt.more' (w:=b) (bs:=bs) (l:=l) t y z;exact⟨f,w',m,k.1,(TxtTo.be h).trans k.2⟩
def OwnP.powA{us:List Value}(h:OwnP w B v us):PowA w v us:=by
 obtain⟨⟨_,j⟩,b⟩:=h;rcases j with ⟨rfl,e⟩|⟨g,d,f,rfl,l,c,hn,m,n,k⟩
 ·exact⟨none,0,by rw[e],by omega,Old.none,.inl e,fun i u a=>(b i u a).1⟩
 ·refine⟨_,d,rfl,hn,Old.mk (Array.getElem?_eq_some_iff.1 c).1,.inr ⟨g,0,rfl,?_⟩,fun i u a=>(b i u a).1⟩;intro i u a;rw[cell_of_row w g (0+i) f _ (0,0) c,bA,<-Array.getElem?_toList];rw[<-k,fC] at a;split at a
  ·exact a
  ·cases a
def ID(B:Nat)(j:Value)(bs:List UInt8)(x:Nat)(T:Value)(w:World)(hG:GlobB B w)(F:B<=w.1.size)(D:TxtAt w B j bs)(hx:NatAt w T x)(a1:Apart j T)(bz:nl x<=4294967296)(bm:bs.length<=4398046511104):
  Calls prog 143 #[j,T] w fun e w'=>∃v,e= .returned v∧TxtAt w' B v (bs++Lib.decDigits x)∧TxtTo w j w' v:=by
 have HX:=aB hx;obtain⟨A,c,bj,hc,bb,bu⟩:=hx;subst bj;by_cases E:nl x=0
 ·obtain rfl:=p9 E;have q0:((nl 0:Int)==0)=true:=by rw[dO];rfl
  have bc:w.ownsRow B 5 1 j bs.length (Lib.byteCells bs):=D;go_enter func143,ntmps143;go_wp2_with (at_builtin;refine gM rfl rfl 5 _ 1 1 underlying145 nF rfl (by decide) B j bs.length _ rfl (bc.alloc _) [Value.int .u8 48] rfl (by simp) (lM _ _ _) (by simp[Value.oneCell']) (by omega) (by omega) (by simp;omega) ?_;intro S w6 N J G);have n:=TxtAt.more (bs:=bs) (l:=[48]) N J G;have a3:Lib.decDigits 0=[48]:=by rw[Lib.decDigits_one (by decide)];rfl
  go_wp2;go_ret;exact⟨_,rfl,by rw[a3];exact n.1,n.2⟩
 ·have q0:((nl x:Int)==0)=false:=by simp;omega
  have av:x≠0:=by intro h;subst h;exact E dO
  by_cases o:nl x=1
  ·have S:((nl x:Int)==1)=true:=by simp;omega
   have R:x<BN:=by have:=cyD x;rw[o,bxG] at this;exact this
   obtain⟨b,b0,rfl,hb,ag⟩:=bb.at_ (by rw[aK];omega);have g0:=ag 0 (by rw[aK];omega);rw[pC av R] at g0;simp only[gQ,byM] at g0;have ae:=TA B j bs (Lib.decDigits x) w F D (by rw[Lib.decDigits_length];exact Lib.nDigits_pos x) (by have:=wT R;omega);have a0:=IN j x w _ R hG.here ae;have i0:(0:Int)<(nl x:Int):=by omega
   clear ae ag E o;go_enter func143,ntmps143;go_wp2_with fail;refine a0.mono ?_;rintro e w1 ⟨v1,rfl,s,t⟩;go_wp2;go_ret;exact⟨_,rfl,s,t⟩
  ·have S:((nl x:Int)==1)=false:=by simp;omega
   have ap:dJ 0 x=Lib.decDigits x:=SN av;have hT:bs.length+(dJ 0 x).length<=8796093022208:=by
    have:=IJ 0 x;omega
   have ax:=aB ap;have HT:=aB hT;have au:=D.lt;clear ap hT;have al:NatAt (w.alloc (.cells #[.int .u64 10000000000000000000] 119)) (.slice (some ⟨w.1.size,0,none⟩) 1 1) (10^(19*2^([]:List Value).length)):=wL w 10000000000000000000 (by decide) (by decide) 119;have ac:OwnP ((w.alloc (.cells #[.int .u64 10000000000000000000] 119)).alloc (.cells #[.slice (some ⟨w.1.size,0,none⟩) 1 1] 58)) w.1.size (.slice (some ⟨w.1.size+1,0,none⟩) 1 1) [.slice (some ⟨w.1.size,0,none⟩) 1 1]:=by
    refine⟨⟨rfl,.inr ⟨w.1.size+1,1,#[.slice (some ⟨w.1.size,0,none⟩) 1 1],rfl,by omega,?_,aE,by decide,rfl,rfl⟩⟩,?_⟩
    ·have:=heap_alloc_new (w.alloc (.cells #[.int .u64 10000000000000000000] 119)) (.cells #[.slice (some ⟨w.1.size,0,none⟩) 1 1] 58);simpa using this
    ·intro i u d;match i,d with
     |0,d=>
      simp at d;subst d;refine⟨al.be ((aG _ _).alloc aE _),?_⟩;intro g e1 e2;simp[Value.ownBlock] at e1 e2;omega
   have af:Below w.1.size w ((w.alloc (.cells #[.int .u64 10000000000000000000] 119)).alloc (.cells #[.slice (some ⟨w.1.size,0,none⟩) 1 1] 58)):=((aG _ _).alloc aE _).alloc (by simp) _;clear al;go_enter func143,ntmps143;go_wp2_with fail;go_loopg [5] 40 (fun k q wr=>∃us,Hid (us.length+k=41)∧1<=us.length∧Hid (2^(us.length-1)<=4294967296*2)∧OwnP wr w.1.size q us∧(∀u∈us,∀g,u.ownBlock=some g->w.1.size<=g)∧Below w.1.size w wr)
   case atStart=>
    refine⟨[.slice (some ⟨w.1.size,0,none⟩) 1 1],rfl,by simp,by unfold Hid;simp,ac,?_,af⟩;intro u d g e;rw[by4] at d;subst d;simp[Value.ownBlock] at e;omega
   case round=>
    obtain⟨us,HK,bq,V,y,P,f⟩:=hrel;clear ac af;have br:us.length<=34:=by
     rcases dE 34 us.length with h|h
     ·exfalso;have s:2^34<=2^(us.length-1):=cO (by decide) (by omega);have t:=V.out;have h4:(2:Nat)^34=17179869184:=by decide
      omega
     ·exact h
    have HP:=aB y;have ao:=y.powA;obtain⟨u,d⟩:∃u,us[us.length-1]? =some u:=⟨_,aR (by omega)⟩;obtain⟨M,am⟩:=y.2 _ _ d;have bh:u∈us:=dG d;have ai:PowFree j u5 us:=by
     refine⟨fun g I e=> ?_,fun C z g I e=> ?_⟩
     ·have:=(au g I).2;have:=(World.ownsRow.lt y.1 g e).1;omega
     ·have:=(au g I).2;have:=P C z g e;omega
    have O:=TD B j bs x _ _ us wr (by omega) (hG.on (f.mono F)) (aH F f.size) (D.be f) (HX.out.be f) ao a1 ai (by omega) HT.out;rw[ax.out] at O;rcases y.1.2 with ⟨_,e⟩|⟨g,Y,Z,rfl,hb,L,hn,n,hs,ar⟩
    ·omega
    have gc:wr.cell? ⟨g,us.length-1,none⟩=some u:=by
     rw[cell_of_row wr g _ Z _ (0,0) L,<-Array.getElem?_toList];have o:(Z.toList.take (us.length*1))[us.length-1]? =us[us.length-1]? :=by rw[ar]
     rw[fC,if_pos (by omega)] at o;rw[o];exact d
    have a7:g<wr.1.size:=(Array.getElem?_eq_some_iff.1 L).1;have an:dL^2^(us.length-1)<=10^(19*2^(us.length-1)):=by rw[tD,<-azL];exact aE
    have ak:=IH an;have aq:10^(19*2^(us.length-1))*10^(19*2^(us.length-1))=10^(19*2^us.length):=by
     rw[<-KF];congr 1;obtain⟨m,n⟩:∃m,us.length=m+1:=⟨us.length-1,by omega⟩;rw[n,mD,dH];omega
    have ay:=aB aq;have a9:=IE (2^(us.length-1)) (d7 (by decide));have bk:nl (10^(19*2^(us.length-1)))<=8589934592:=by have:=V.out;omega
    have aw:=aB ak;have HU:=aB d;have W:=aB O;clear hs L y aq a9 ar an ak d O ao ai;obtain⟨Au,cu,bf,bo,_,_⟩:=id M;subst bf;generalize 10^(19*2^(us.length-1))=X at *;have i0:(0:Int)<=(us.length:Int)-1:=by omega
    by_cases K:30<nl x∧2*nl X<=nl x
    ·obtain⟨J,a6⟩:=K;have a5:(30:Int)<(nl x:Int):=by omega
     have bp:2*(nl X:Int)<=(nl x:Int):=by omega
     go_wp2_with fail;refine(qN X X _ _ _ M M (by unfold aJ;omega)).mono ?_;rintro e U ⟨v2,rfl,Q,ah,H⟩;obtain⟨p,r,rfl,bn,bv,bt⟩:=id Q;have bi:NatAt U (Value.slice p (nl (X*X)) r) (10^(19*2^us.length)):=by rw[<-ay.out];exact Q
     have a8:∀a,(Value.slice (some ⟨g,0,none⟩) us.length Y).ownBlock=some a->(Value.slice p (nl (X*X)) r).ownBlock≠some a:=by
      intro a e;have:g=a:=by simpa [Value.ownBlock] using e
      subst this;exact ah.ne2 a7 (am _ rfl) (am _ rfl)
     have bg:∀a,(Value.slice p (nl (X*X)) r).ownBlock=some a->w.1.size<=a:=by
      intro a e;rcases dE a wr.1.size with h|h
      ·obtain⟨C,z,a4⟩:=ah a e h;have:C=Value.slice Au (nl X) cu:=by simpa using z
       subst this;exact P _ bh a a4
      ·exact aH f.size h
     have ad:=HP.out.belowE H;have ba:=Q.oneCell;have bw:=f.size;have bx:=H.size;go_wp2_with (at_builtin;refine gM rfl rfl 58 _ 1 24 underlying153 BE rfl (by decide) w.1.size (.slice (some ⟨g,0,none⟩) us.length Y) us.length us rfl (ad.1.alloc _) [Value.slice p (nl (X*X)) r] rfl (by simp) (lM _ _ _) ba (by omega) (by omega) (by simp;omega) ?_;intro S w3 N aj G);have az:=OwnP.push ad bi a8 N aj G
     have a2:Below w.1.size w w3:=((aC f H).alloc (by omega) _).grown aj (by simp;omega) (fun k hk=>by
      have:g=k:=by simpa [Value.ownBlock] using hk
      omega)
     go_wp2;go_roundg (41-(us++[Value.slice p (nl (X*X)) r]).length)
     case measure=>have:=HK.out;simp;omega
     case rel=>
      refine⟨us++[Value.slice p (nl (X*X)) r],by unfold Hid;simp;omega,by simp,?_,az,?_,a2⟩
      ·unfold Hid;rw[dA,iJ,mD];obtain⟨m,n⟩:∃m,us.length=m+1:=⟨us.length-1,by omega⟩;have o:=aw.out;rw[n,mD] at o;rw[n,dH];omega
      ·intro C z a e';rcases List.mem_append.1 z with h|h
       ·exact P C h a e'
       ·rw[by4] at h;subst h;exact bg a e'
    ·by_cases J:30<nl x
     ·have a6:¬2*(nl X:Int)<=(nl x:Int):=by omega
      clear K;go_wp2_with fail;refine W.out.mono ?_;rintro e U ⟨v2,rfl,s,t⟩;go_wp2;go_ret;exact⟨_,rfl,s,(TxtTo.be f).trans t⟩
     ·have a5:¬(30:Int)<(nl x:Int):=by omega
      clear K;go_wp2_with fail;refine W.out.mono ?_;rintro e U ⟨v2,rfl,s,t⟩;go_wp2;go_ret;exact⟨_,rfl,s,(TxtTo.be f).trans t⟩
def iP(x:Int):List UInt8:=(if x<0 then [45] else [])++Lib.decDigits x.natAbs
def TxtAt.nil(w:World)(B:Nat):TxtAt w B (.slice none 0 0) []:=World.ownsRow_nil w B _ _
def TxtAt.str(h:TxtAt w B v bs):(convert 145 9 v).run prog w= .ok (.string ⟨bs.toArray⟩) w:=by
 rcases id h.2 with ⟨rfl,e⟩|⟨g,a,c,rfl,_⟩
 ·have:bs=[]:=bX e;subst this;rw[run_convert_bytes_string w 145 9 5 none 0 0 underlying145 underlying5 underlying9];rfl
 ·refine run_convert_bytes_back (P:=prog) w 145 9 5 ⟨g,0,none⟩ a bs underlying145 underlying5 underlying9 (fun j b=> ?_);refine World.ownsRow.cells h (by simp[Value.ownBlock]) j _ ?_;simp[Lib.byteCells,b]
def Apart.nil(v:Value):Apart (.slice none 0 0) v:=fun g h=>by simp[Value.ownBlock] at h
def BP(B:Nat)(a:Value)(bs:List UInt8)(x:Int)(s:Bool)(A:Option Addr)(k c:Nat)(w:World)(I:GlobB B w)(C:B<=w.1.size)(r:TxtAt w B a bs)(y:IntAt w (.agg #[.bool s,.slice A k c]) x)
  (o:Apart a (.slice A k c))(G:nl x.natAbs<=4294967296)(T:bs.length<=4398046511103):
  Calls prog 106 #[.agg #[.bool s,.slice A k c],a] w fun e w'=>∃v,e= .returned v∧TxtAt w' B v (bs++iP x)∧TxtTo w a w' v:=by
 have m:=y.neg;have J:∀g,(Value.slice A k c).ownBlock=some g->g<w.1.size:=fun g e=>y.words.block e;have i:Bx (w.alloc (.cells #[.bool s,.slice A k c] 60)) (w.1.size) [.bool s,.slice A k c] 60:=Bx.newAt w [.bool s,.slice A k c] 60 (w.1.size) (by simp);have f:Below w.1.size w (w.alloc (.cells #[.bool s,.slice A k c] 60)):=(aG _ _).alloc (by simp) _;have F:=y.words.be f;have t:=r.be f;have E:=fun g e=>(r.lt g e).1;have p:TxtTo w a (w.alloc (.cells #[.bool s,.slice A k c] 60)) a:=TxtTo.be f;have D:=I.on (p.belowB C E);have n:B<=(w.alloc (.cells #[.bool s,.slice A k c] 60)).1.size:=aH C f.size;have K:∀g,(Value.slice A k c).ownBlock=some g->g<(w.alloc (.cells #[.bool s,.slice A k c] 60)).1.size:=fun g e=>aZ (J g e) f.size;by_cases d:x<0
 ·have q:s=true:=by rw[m];simpa using d
  have h:iP x=[45]++Lib.decDigits x.natAbs:=by unfold iP;rw[if_pos d]
  rw[h];clear h d m;subst q;unfold TxtAt at t;go_enter func106,ntmps106;go_wp2_with (at_builtin;(refine gM rfl rfl 5 _ 1 1 underlying145 nF rfl (by decide) B a bs.length _ rfl (t.alloc _) [Value.int .u8 45] rfl (by simp) (FG _ _ _ _ (by simp)) (by simp[Value.oneCell']) (by omega) (by omega) (by simp;omega) ?_);intro P H O N M;have b:=TxtAt.more (bs:=bs) (l:=[45]) O N M;have i:Bx H w.1.size [.bool true,.slice A k c] 60:=(b.2.1.block _ i.lt (fun e=>by have:=r.lt _ e.symm;omega)).trans i;have S:=i.cell 1 rfl);refine(ID B P (bs++[45]) x.natAbs (.slice A k c) H (D.on (b.2.belowB n E)) (aH n b.2.1.size) b.1 (F.txt b.2 o) (b.2.apart o K) G (by simp;omega)).mono ?_;rintro e R ⟨Q,rfl,j,z⟩;rw[eK] at j;have u:=p.trans (b.2.trans z);go_wp2;go_ret;exact⟨_,rfl,j,u⟩
 ·have q:s=false:=by rw[m];simpa using d
  have h:iP x=Lib.decDigits x.natAbs:=by unfold iP;rw[if_neg d];rfl
  rw[h];clear h d m;subst q;have L:=ID B a bs x.natAbs (.slice A k c) _ D n t F o G (by omega);go_enter func106,ntmps106;go_wp2_with fail;refine L.mono ?_;rintro e R ⟨Q,rfl,j,z⟩;have u:=p.trans z;go_wp2;go_ret;exact⟨_,rfl,j,u⟩
def T7(x:Int)(i:Value)(w:World)(k:Glob w)(h:IntAt w i x)(n:nl x.natAbs<=4294967296):
  Calls prog 105 #[i] w fun e w'=>e= .returned (.string ⟨(iP x).toArray⟩)∧Below w.1.size w w':=by
 obtain⟨d,a,c,b,rfl⟩:=h.form;have p:Bx (w.alloc (.cells #[.bool d,.slice a c b] 60)) (w.1.size) [.bool d,.slice a c b] 60:=Bx.newAt w [.bool d,.slice a c b] 60 (w.1.size) (by simp);have f:Below w.1.size w (w.alloc (.cells #[.bool d,.slice a c b] 60)):=(aG _ _).alloc (by simp) _;go_enter func105,ntmps105;go_wp2_with fail;generalize w.alloc (.cells #[.bool d,.slice a c b] 60)=W at *;have h:=h.be f;refine(BP W.1.size (.slice none 0 0) [] x d a c b W (k.be f).globB aE (TxtAt.nil _ _) h (Apart.nil _) n (by simp)).mono ?_;rintro e r ⟨q,rfl,j,o⟩;have m:=j.str;rw[iM] at m;have l:=f.trans ((o.belowB aE (fun g e=>by simp[Value.ownBlock] at e)).mono f.size);go_wp2;go_ret;exact⟨rfl,l⟩
def IS(h:∃m,w'=w.drewN m):Below w.1.size w w':=by
 obtain⟨m,rfl⟩:=h;exact eN (aG _ _) m
def TZ(l:List UInt8):Lib.hasPrefix l [45]=(l.head?==some 45)∧Lib.trimPrefix l [45]=if (l.head?==some 45)=true then l.tail else l:=by
 have h:Lib.hasPrefix l [45]=(l.head?==some 45):=by
  unfold Lib.hasPrefix;cases l with
  |nil=>rfl
  |cons a m=>
   show([45]:List UInt8).isPrefixOf (a :: m)=(some a==some 45)
   rw[List.isPrefixOf];simp only[List.isPrefixOf,Bool.and_true];by_cases e:a=45
   ·subst e;rfl
   ·have b:((45:UInt8)==a)=false:=by simpa using fun h=>e h.symm
    have c:(some a==some (45:UInt8))=false:=by simpa using e
    rw[b,c]
 refine⟨h,?_⟩;unfold Lib.trimPrefix;rw[h];simp
def oM(a:Bool)(n t:List UInt8):Option (Bool×List UInt8×List UInt8):=
 if n=[48] then (if a=false∧t=[] then some (a,n,[]) else none)
 else if n=[]∨n.head?=some 48 then none
 else if t=[] then some (a,n,[])
 else if t.head?≠some 47 then none
 else if t.tail.dropWhile bO=[]∧t.tail.takeWhile bO≠[]∧(t.tail.takeWhile bO).head?≠some 48∧t.tail.takeWhile bO≠[49] then some (a,n,t.tail.takeWhile bO) else none
def U4(l:List UInt8):iA l=oM (l.head?==some 45) ((if (l.head?==some 45)=true then l.tail else l).takeWhile bO) ((if (l.head?==some 45)=true then l.tail else l).dropWhile bO):=rfl
def U9(l:List UInt8)(w:World)(hl:l.length<=1099511627776):
  Calls prog 26 #[.string ⟨l.toArray⟩] w fun e w'=>∃ad n d S,e= .returned (.tuple #[.agg #[.bool ad,.string ⟨n.toArray⟩,.string ⟨d.toArray⟩],.bool S])∧(S=true->iA l=some (ad,n,d))∧(S=false->iA l=none)∧Below w.1.size w w':=by
 have Q:=fun W=>Tryz.strings_CutPrefix ⟨l.toArray⟩ ⟨#[45]⟩ W;obtain⟨p1,p2⟩:=TZ l;have j:=aB (U4 l);have ak:(if (l.head?==some 45)=true then l.tail else l).length<=l.length:=by split<;>simp
 simp only[p1,p2] at Q;generalize (l.head?==some 45)=q at *;generalize (if q=true then l.tail else l)=r at *;have X:=fun W=>IT r W (by omega);obtain⟨W,T,c,R,F⟩:=eL w [.bool false,.string ⟨#[]⟩,.string ⟨#[]⟩] 55 [.bool false,.string ⟨#[]⟩,.string ⟨#[]⟩] 55;have s:=aa R.g3 F.g3;go_enter func26,ntmps26;go_wp2_with fail;(try rw[T]);clear T;refine(Q _).mono ?_;rintro e1 w1 ⟨rfl,rfl⟩;clear Q p1 p2;replace s:=aa R.g3 F.g3;go_wp2_with fail;obtain⟨w2,U,F,c,k,f⟩:=F.put1 c (by omega) 0 (.bool q) rfl;replace R:=f R (by omega);rw[U];clear U;replace s:=aa R.g3 F.g3;refine(X _).mono ?_;rintro e3 w3 ⟨rfl,Z⟩;have N:=IS Z;clear Z X;replace R:=R.be N;replace F:=F.be N;replace s:=aa R.g3 F.g3;replace c:=aC c N;have ah:(r.dropWhile bO).length<=r.length:=by
  have:=congrArg List.length (bzT (p:=bO) (l:=r));rw[dA] at this;omega
 generalize r.takeWhile bO=n at *;generalize r.dropWhile bO=t at *;by_cases y:n=[48]
 ·have q1:(n==[48])=true:=by rw[y];rfl
  cases q with
  |true=>
   have i:iA l=none:=by rw[j.out,oM,if_pos y,if_neg (by simp)]
   have o:=aB i;clear j i y;go_wp2_with fail;obtain⟨I,x,F,c,k,f⟩:=F.put1 c (by omega) 1 (.string ⟨n.toArray⟩) rfl;replace R:=f R (by omega);obtain⟨C,g,R,c,k,f⟩:=R.put3 c (by omega) (.bool true) (.string ⟨n.toArray⟩) (.string ⟨#[]⟩) rfl rfl;replace F:=f F (by omega);rw[x,g];clear x g;replace s:=aa R.k3 F.k3;exact aM (v:= .tuple #[.agg #[.bool true,.string ⟨n.toArray⟩,.string ⟨#[]⟩],.bool false]) (by simp[results,results26,go_sem,R.k3]) rfl ⟨_,_,_,_,rfl,(fun h=>by cases h),(fun _=>o.out),c⟩
  |false=>
   by_cases z:t=[]
   ·have i:iA l=some (false,n,[]):=by rw[j.out,oM,if_pos y,if_pos ⟨rfl,z⟩]
    have o:=aB i;have q2:(t==[])=true:=by rw[z];rfl
    clear j i y z;go_wp2_with fail;obtain⟨I,x,F,c,k,f⟩:=F.put1 c (by omega) 1 (.string ⟨n.toArray⟩) rfl;replace R:=f R (by omega);obtain⟨C,g,R,c,k,f⟩:=R.put3 c (by omega) (.bool false) (.string ⟨n.toArray⟩) (.string ⟨#[]⟩) rfl rfl;replace F:=f F (by omega);rw[x,g];clear x g;replace s:=aa R.k3 F.k3;exact aM (v:= .tuple #[.agg #[.bool false,.string ⟨n.toArray⟩,.string ⟨#[]⟩],.bool true]) (by simp[results,results26,go_sem,R.k3]) rfl ⟨_,_,_,_,rfl,(fun _=>o.out),(fun h=>by cases h),c⟩
   ·have i:iA l=none:=by rw[j.out,oM,if_pos y,if_neg (fun h=>z h.2)]
    have o:=aB i;have q2:(t==[])=false:=by simpa using z
    clear j i y z;go_wp2_with fail;obtain⟨I,x,F,c,k,f⟩:=F.put1 c (by omega) 1 (.string ⟨n.toArray⟩) rfl;replace R:=f R (by omega);obtain⟨C,g,R,c,k,f⟩:=R.put3 c (by omega) (.bool false) (.string ⟨n.toArray⟩) (.string ⟨#[]⟩) rfl rfl;replace F:=f F (by omega);rw[x,g];clear x g;replace s:=aa R.k3 F.k3;exact aM (v:= .tuple #[.agg #[.bool false,.string ⟨n.toArray⟩,.string ⟨#[]⟩],.bool false]) (by simp[results,results26,go_sem,R.k3]) rfl ⟨_,_,_,_,rfl,(fun h=>by cases h),(fun _=>o.out),c⟩
 ·have q1:(n==[48])=false:=by simpa using y
  cases n with
  |nil=>
   have i:iA l=none:=by rw[j.out,oM,if_neg y,if_pos (.inl rfl)]
   have o:=aB i;clear j i y;go_wp2_with fail;obtain⟨I,x,F,c,k,f⟩:=F.put1 c (by omega) 1 (.string ⟨#[]⟩) rfl;replace R:=f R (by omega);obtain⟨C,g,R,c,k,f⟩:=R.put3 c (by omega) (.bool q) (.string ⟨#[]⟩) (.string ⟨#[]⟩) rfl rfl;replace F:=f F (by omega);rw[x,g];clear x g;replace s:=aa R.k3 F.k3;exact aM (v:= .tuple #[.agg #[.bool q,.string ⟨#[]⟩,.string ⟨#[]⟩],.bool false]) (by simp[results,results26,go_sem,R.k3]) rfl ⟨_,_,_,_,rfl,(fun h=>by cases h),(fun _=>o.out),c⟩
  |cons a m=>
   have ai:∀h,({ data:=(a :: m).toArray }:ByteArray)[0]'h=a:=fun _=>rfl;by_cases K:a=48
   ·have i:iA l=none:=by rw[j.out,oM,if_neg y,if_pos (.inr (by rw[K];rfl))]
    have o:=aB i;clear j i y;subst K;go_wp2_with fail;obtain⟨I,x,F,c,k,f⟩:=F.put1 c (by omega) 1 (.string ⟨(48 :: m).toArray⟩) rfl;replace R:=f R (by omega);obtain⟨C,g,R,c,k,f⟩:=R.put3 c (by omega) (.bool q) (.string ⟨(48 :: m).toArray⟩) (.string ⟨#[]⟩) rfl rfl;replace F:=f F (by omega);rw[x,g];clear x g;replace s:=aa R.k3 F.k3;exact aM (v:= .tuple #[.agg #[.bool q,.string ⟨(48 :: m).toArray⟩,.string ⟨#[]⟩],.bool false]) (by simp[results,results26,go_sem,R.k3]) rfl ⟨_,_,_,_,rfl,(fun h=>by cases h),(fun _=>o.out),c⟩
   ·have qa:((a.toNat:Int)==48)=false:=by
     have:a.toNat≠48:=fun e=>K (UInt8.toNat_inj.1 e);simp;omega
    have J:¬((a :: m)=[]∨(a :: m).head?=some 48):=by simp[K]
    by_cases z:t=[]
    ·have i:iA l=some (q,a :: m,[]):=by rw[j.out,oM,if_neg y,if_neg J,if_pos z]
     have o:=aB i;have q2:(t==[])=true:=by rw[z];rfl
     clear j i y z;go_wp2_with fail;obtain⟨I,x,F,c,k,f⟩:=F.put1 c (by omega) 1 (.string ⟨(a :: m).toArray⟩) rfl;replace R:=f R (by omega);obtain⟨C,g,R,c,k,f⟩:=R.put3 c (by omega) (.bool q) (.string ⟨(a :: m).toArray⟩) (.string ⟨#[]⟩) rfl rfl;replace F:=f F (by omega);rw[x,g];clear x g;replace s:=aa R.k3 F.k3;exact aM (v:= .tuple #[.agg #[.bool q,.string ⟨(a :: m).toArray⟩,.string ⟨#[]⟩],.bool true]) (by simp[results,results26,go_sem,R.k3]) rfl ⟨_,_,_,_,rfl,(fun _=>o.out),(fun h=>by cases h),c⟩
    ·obtain⟨b,D,rfl⟩:∃b D,t=b :: D:=by
      cases t with
      |nil=>exact absurd rfl z
      |cons b D=>exact⟨b,D,rfl⟩
     have af:∀h,({ data:=(b :: D).toArray }:ByteArray)[0]'h=b:=fun _=>rfl;by_cases O:b=47
     ·subst O;rw[oM,if_neg y,if_neg J,if_neg z,if_neg (by simp),List.tail_cons] at j;clear y J z;have ae:({ data:=(47 :: D).toArray }:ByteArray).extract 1 (D.length+1)=⟨D.toArray⟩:=rX (by rw[mP];simp);have Y:=fun W=>IT D W (by simp at ah;omega);generalize D.takeWhile bO=d at *;generalize D.dropWhile bO=u at *;go_wp2_with fail;obtain⟨w4,V,F,c,k,f⟩:=F.put1 c (by omega) 1 (.string ⟨(a :: m).toArray⟩) rfl;replace R:=f R (by omega);rw[V];clear V;replace s:=aa R.g3 F.g3;refine(Y _).mono ?_;rintro e5 w5 ⟨rfl,ac⟩;have P:=IS ac;clear ac Y ae af;replace R:=R.be P;replace F:=F.be P;replace s:=aa R.g3 F.g3;replace c:=aC c P;by_cases E:u=[]
      ·have q3:(u==[])=true:=by rw[E];rfl
       cases d with
       |nil=>
        have i:iA l=none:=by rw[j.out,if_neg (by simp)]
        have o:=aB i;clear j i E;go_wp2_with fail;obtain⟨M,B,F,c,k,f⟩:=F.put1 c (by omega) 2 (.string ⟨#[]⟩) rfl;replace R:=f R (by omega);rw[B];clear B;replace s:=aa R.g3 F.g3;go_region;all_goals (go_wp2_with fail)
        obtain⟨C,g,R,c,k,f⟩:=R.put3 c (by omega) (.bool q) (.string ⟨(a :: m).toArray⟩) (.string ⟨#[]⟩) rfl rfl;replace F:=f F (by omega);rw[g];clear g;replace s:=aa R.k3 F.k3;exact aM (v:= .tuple #[.agg #[.bool q,.string ⟨(a :: m).toArray⟩,.string ⟨#[]⟩],.bool false]) (by simp[results,results26,go_sem,R.k3]) rfl ⟨_,_,_,_,rfl,(fun h=>by cases h),(fun _=>o.out),c.drew⟩
       |cons e A=>
        have ag:∀h,({ data:=(e :: A).toArray }:ByteArray)[0]'h=e:=fun _=>rfl;by_cases H:e=48
        ·have i:iA l=none:=by rw[j.out,if_neg (by rw[H];simp)]
         have o:=aB i;have qe:((e.toNat:Int) != 48)=false:=by rw[H];rfl
         clear j i E H;go_wp2_with fail;obtain⟨M,B,F,c,k,f⟩:=F.put1 c (by omega) 2 (.string ⟨(e :: A).toArray⟩) rfl;replace R:=f R (by omega);rw[B];clear B;replace s:=aa R.g3 F.g3;go_region;all_goals (go_wp2_with fail)
         obtain⟨C,g,R,c,k,f⟩:=R.put3 c (by omega) (.bool q) (.string ⟨(a :: m).toArray⟩) (.string ⟨(e :: A).toArray⟩) rfl rfl;replace F:=f F (by omega);rw[g];clear g;replace s:=aa R.k3 F.k3;exact aM (v:= .tuple #[.agg #[.bool q,.string ⟨(a :: m).toArray⟩,.string ⟨(e :: A).toArray⟩],.bool false]) (by simp[results,results26,go_sem,R.k3]) rfl ⟨_,_,_,_,rfl,(fun h=>by cases h),(fun _=>o.out),c.drew⟩
        ·have qe:((e.toNat:Int) != 48)=true:=by
          have:e.toNat≠48:=fun h=>H (UInt8.toNat_inj.1 h);simp;omega
         by_cases G:e :: A=[49]
         ·have i:iA l=none:=by rw[j.out,if_neg (fun h=>h.2.2.2 G)]
          have o:=aB i;have q4:(e :: A != [49])=false:=by rw[G];rfl
          have L:e=49∧A=[]:=by simpa using G
          clear j i E H G;obtain⟨rfl,rfl⟩:=L;clear qe q4 ag;have aj:∀h,({ data:= #[49] }:ByteArray)[0]'h=49:=fun _=>rfl;have al:(((49:UInt8).toNat:Int) != 48)=true:=by decide
          go_wp2_with fail;obtain⟨M,B,F,c,k,f⟩:=F.put1 c (by omega) 2 (.string ⟨#[49]⟩) rfl;replace R:=f R (by omega);rw[B];clear B;replace s:=aa R.g3 F.g3;go_region;all_goals (go_wp2_with fail)
          obtain⟨C,g,R,c,k,f⟩:=R.put3 c (by omega) (.bool q) (.string ⟨(a :: m).toArray⟩) (.string ⟨#[49]⟩) rfl rfl;replace F:=f F (by omega);rw[g];clear g;replace s:=aa R.k3 F.k3;exact aM (v:= .tuple #[.agg #[.bool q,.string ⟨(a :: m).toArray⟩,.string ⟨#[49]⟩],.bool false]) (by simp[results,results26,go_sem,R.k3]) rfl ⟨_,_,[49],_,rfl,(fun h=>by cases h),(fun _=>o.out),c.drew⟩
         ·have i:iA l=some (q,a :: m,e :: A):=by rw[j.out,if_pos ⟨E,by simp,by simpa using H,G⟩]
          have o:=aB i;have q4:(e :: A != [49])=true:=by simpa using G
          have L:e=49->¬A=[]:=by simpa using G
          have q6:¬e=49∨¬A=[]:=by
           by_cases h:e=49
           ·exact .inr (L h)
           ·exact .inl h
          clear j i E H G L;go_wp2_with fail;obtain⟨M,B,F,c,k,f⟩:=F.put1 c (by omega) 2 (.string ⟨(e :: A).toArray⟩) rfl;replace R:=f R (by omega);rw[B];clear B;replace s:=aa R.g3 F.g3;go_region;all_goals (go_wp2_with fail)
          obtain⟨C,g,R,c,k,f⟩:=R.put3 c (by omega) (.bool q) (.string ⟨(a :: m).toArray⟩) (.string ⟨(e :: A).toArray⟩) rfl rfl;replace F:=f F (by omega);rw[g];clear g;replace s:=aa R.k3 F.k3;exact aM (v:= .tuple #[.agg #[.bool q,.string ⟨(a :: m).toArray⟩,.string ⟨(e :: A).toArray⟩],.bool true]) (by simp[results,results26,go_sem,R.k3,q6]) rfl ⟨_,_,_,_,rfl,(fun _=>o.out),(fun h=>by cases h),c.drew⟩
      ·have q3:(u==[])=false:=by simpa using E
       have i:iA l=none:=by rw[j.out,if_neg (fun h=>E h.1)]
       have o:=aB i;clear j i E;go_wp2_with fail;obtain⟨M,B,F,c,k,f⟩:=F.put1 c (by omega) 2 (.string ⟨d.toArray⟩) rfl;replace R:=f R (by omega);rw[B];clear B;replace s:=aa R.g3 F.g3;go_region;all_goals (go_wp2_with fail)
       obtain⟨C,g,R,c,k,f⟩:=R.put3 c (by omega) (.bool q) (.string ⟨(a :: m).toArray⟩) (.string ⟨d.toArray⟩) rfl rfl;replace F:=f F (by omega);rw[g];clear g;replace s:=aa R.k3 F.k3;exact aM (v:= .tuple #[.agg #[.bool q,.string ⟨(a :: m).toArray⟩,.string ⟨d.toArray⟩],.bool false]) (by simp[results,results26,go_sem,R.k3]) rfl ⟨_,_,_,_,rfl,(fun h=>by cases h),(fun _=>o.out),c.drew⟩
     ·have i:iA l=none:=by rw[j.out,oM,if_neg y,if_neg J,if_neg z,if_pos (by simpa using O)]
      have o:=aB i;have qb:((b.toNat:Int) != 47)=true:=by
       have:b.toNat≠47:=fun e=>O (UInt8.toNat_inj.1 e);simp;omega
      clear j i y z J;go_wp2_with fail;obtain⟨I,x,F,c,k,f⟩:=F.put1 c (by omega) 1 (.string ⟨(a :: m).toArray⟩) rfl;replace R:=f R (by omega);obtain⟨C,g,R,c,k,f⟩:=R.put3 c (by omega) (.bool q) (.string ⟨(a :: m).toArray⟩) (.string ⟨#[]⟩) rfl rfl;replace F:=f F (by omega);rw[x,g];clear x g;replace s:=aa R.k3 F.k3;exact aM (v:= .tuple #[.agg #[.bool q,.string ⟨(a :: m).toArray⟩,.string ⟨#[]⟩],.bool false]) (by simp[results,results26,go_sem,R.k3]) rfl ⟨_,_,_,_,rfl,(fun h=>by cases h),(fun _=>o.out),c⟩
def IP(w:World)(o:Option Rat)(e:Ending)(w':World):Prop:=∃v,e= .returned (.tuple #[v,.bool o.isSome])∧RatAt w' v (o.getD 0)∧Below w.1.size w w'
def TW(h:iA l=none):cL l=none:=by unfold cL;rw[h]
def TX{n:List UInt8}{a:Bool}(h:iA l=some (a,n,[])):cL l=some ((fO a (aO n):Int):Rat):=by unfold cL;rw[h];simp
def IQ{n:List UInt8}{a:Bool}(h:iA l=some (a,n,d))(b:d≠[]):cL l=if Nat.gcd (aO n) (aO d)=1 then some (mkRat (fO a (aO n)) (aO d)) else none:=by
 unfold cL;rw[h];simp[b]
def IR{d:Nat}(h:x.natAbs=n)(b:Nat.gcd n d=1)(a:d≠0)(f:d≠1):(mkRat x d).num=x∧bS (mkRat x d)=d:=by
 have c:(mkRat x d).num=x:=by rw[Rat.num_mkRat,if_neg a,h,azD,b];simp
 have e:(mkRat x d).den=d:=by rw[Rat.den_mkRat,if_neg a,h,azD,b];simp
 exact⟨c,by unfold bS;rw[e,if_neg f]⟩
def TY{n:List UInt8}{a:Bool}(h:l=jM a n d):n.length<=l.length∧d.length<=l.length:=by
 subst h;unfold jM;by_cases e:d=[]<;>simp[e]<;>omega
def wU(l:List UInt8)(w:World)(hG:Glob w)(hl:l.length<=1073741824):
  Calls prog 53 #[.string ⟨l.toArray⟩] w (IP w (cL l)):=by
 have aq:=fun W=>U9 l W (by omega);obtain⟨W,eW,a,R⟩:=bI w [.bool false,.slice none 0 0,.bool false,.slice none 0 0] 76;have m:=R.g4;go_enter func53,ntmps53;go_wp2_with fail;(try rw[eW]);clear eW;refine(aq _).mono ?_;rintro e1 j ⟨y,n,d,ok,rfl,ak,aj,ap⟩;clear aq;replace R:=R.be ap;replace m:=R.g4;replace a:=aC a ap;have a3:∀b:Obj,(j.alloc b).cell? ⟨w.1.size,0,none⟩=some (.bool false):=fun b=>(R.alloc b).cell 0 rfl;have a7:∀b:Obj,(j.alloc b).frozen? ⟨w.1.size,0,none⟩=false:=fun b=>(R.alloc b).free 0;have a4:∀b:Obj,(j.alloc b).cell? ⟨w.1.size,1,none⟩=some (.slice none 0 0):=fun b=>(R.alloc b).cell 1 rfl;have a8:∀b:Obj,(j.alloc b).frozen? ⟨w.1.size,1,none⟩=false:=fun b=>(R.alloc b).free 1;have a5:∀b:Obj,(j.alloc b).cell? ⟨w.1.size,2,none⟩=some (.bool false):=fun b=>(R.alloc b).cell 2 rfl;have a9:∀b:Obj,(j.alloc b).frozen? ⟨w.1.size,2,none⟩=false:=fun b=>(R.alloc b).free 2;have a6:∀b:Obj,(j.alloc b).cell? ⟨w.1.size,3,none⟩=some (.slice none 0 0):=fun b=>(R.alloc b).cell 3 rfl;have ba:∀b:Obj,(j.alloc b).frozen? ⟨w.1.size,3,none⟩=false:=fun b=>(R.alloc b).free 3;cases ok with
 |false=>
  have q:=aB (TW (aj rfl));clear ak aj;go_wp2_with fail;have D:=R.lt;have E:=a.size;obtain⟨U0,z,p,F⟩:=bI j [.bool y,.string ⟨n.toArray⟩,.string ⟨d.toArray⟩] 55;replace R:=R.be p;replace f:=Keep.be p;replace a:=aC a p;obtain⟨W6,r,R,a,f,i⟩:=R.put4 a (by omega) (.bool false) (.slice none 0 0) (.bool false) (.slice none 0 0) rfl rfl;replace F:=i F (by omega);rw[z,r];clear z r;replace m:=aa R.k4 F.k3;exact aM (v:= .tuple #[.agg #[.bool false,.slice none 0 0,.bool false,.slice none 0 0],.bool false]) (by simp[results,results53,go_sem,R.k4]) rfl ⟨_,by rw[q.out];rfl,by rw[q.out];exact RatAt.of (IntAt.zero _) (IntAt.zero _) rfl rfl,a⟩
 |true=>
  have hs:=ak rfl;obtain⟨K,hj⟩:=I1 hs;obtain⟨bf,bc⟩:=TY hj;have bh:=oJ K.n_digs;have bg:=oJ K.d_digs;have ag:=fun W=>FE ⟨n.toArray⟩ W K.n_digs (by simp[ByteArray.size];omega);have T:=fun W=>FE ⟨d.toArray⟩ W K.d_digs (by simp[ByteArray.size];omega);simp only[] at ag T;have Y:=aB hs;have C:=aB K;clear ak aj hs K hj;go_wp2_with fail;have D:=R.lt;have E:=a.size;obtain⟨w2,am,p,F⟩:=bI j [.bool y,.string ⟨n.toArray⟩,.string ⟨d.toArray⟩] 55;replace R:=R.be p;replace f:=Keep.be p;replace a:=aC a p;rw[am];clear am;replace m:=aa R.g4 F.k3;refine(ag _).mono ?_;rintro e3 B ⟨v3,rfl,g,ah⟩;obtain⟨M,G,L,H,rfl⟩:=g.form;replace R:=R.be ah;replace F:=F.be ah;replace m:=aa R.g4 F.k3;replace a:=aC a ah;have af:(fO y (aO n)).natAbs=aO n:=rU _ _;have ad:d=[]->cL l=some ((fO y (aO n):Int):Rat):=fun h=>TX (by rw[<-h];exact Y.out);have ax:∀b:Obj,(B.alloc b).cell? ⟨j.1.size,0,none⟩=some (.bool y):=fun b=>(F.alloc b).cell 0 rfl;have a0:∀b:Obj,(B.alloc b).frozen? ⟨j.1.size,0,none⟩=false:=fun b=>(F.alloc b).free 0;have ay:∀b:Obj,(B.alloc b).cell? ⟨j.1.size,1,none⟩=some (.string ⟨n.toArray⟩):=fun b=>(F.alloc b).cell 1 rfl;have a1:∀b:Obj,(B.alloc b).frozen? ⟨j.1.size,1,none⟩=false:=fun b=>(F.alloc b).free 1;have az:∀b:Obj,(B.alloc b).cell? ⟨j.1.size,2,none⟩=some (.string ⟨d.toArray⟩):=fun b=>(F.alloc b).cell 2 rfl;have a2:∀b:Obj,(B.alloc b).frozen? ⟨j.1.size,2,none⟩=false:=fun b=>(F.alloc b).free 2;go_upto_if 20 with fail;have D:=R.lt;have N:=F.lt;have E:=a.size;obtain⟨w4,an,p,X⟩:=bI B [.bool M,.slice G L H,.bool false,.slice none 0 0] 76;replace R:=R.be p;replace F:=F.be p;replace f:=Keep.be p;replace a:=aC a p;replace g:=g.ke f;rw[an];clear an;replace m:=aa R.g4 (aa F.k3 X.g4);go_cut [] (fun U=>∃s A k c,Bx U B.1.size [.bool s,.slice A k c,.bool false,.slice none 0 0] 76∧IntAt U (.agg #[.bool s,.slice A k c]) (fO y (aO n))∧Bx U w.1.size [.bool false,.slice none 0 0,.bool false,.slice none 0 0] 76∧Bx U j.1.size [.bool y,.string ⟨n.toArray⟩,.string ⟨d.toArray⟩] 55∧Below w.1.size w U)
  case first=>
   clear ad T af;cases y with
   |false=>
    go_wp2;go_meet;exact⟨_,_,_,_,X,g,R,F,a⟩
   |true=>
    go_wp2_with fail;refine(sQ _ _ _ g (by simp;omega)).mono ?_;rintro e7 w7 ⟨v7,rfl,I,ac⟩;obtain⟨s7,A7,k7,c7,rfl⟩:=I.form;replace R:=R.be ac;replace F:=F.be ac;replace X:=X.be ac;replace m:=aa R.g4 (aa F.k3 X.g4);replace a:=aC a ac;go_wp2_with fail;have D:=R.lt;have N:=F.lt;have Z:=X.lt;have E:=a.size;obtain⟨U0,z,X,a,f,i⟩:=X.put1 a (by omega) 0 (.bool s7) rfl;replace R:=i R (by omega);replace F:=i F (by omega);replace I:=I.ke f;obtain⟨W8,al,X,a,f,i⟩:=X.put1 a (by omega) 1 (.slice A7 k7 c7) rfl;replace R:=i R (by omega);replace F:=i F (by omega);replace I:=I.ke f;rw[z,al];clear z al;replace m:=aa R.k4 (aa F.k3 X.k4);go_meet;exact⟨_,_,_,_,X,I,R,F,a⟩
  case rest=>
   clear X R F g f m a;obtain⟨M,G,L,H,X,g,R,F,a⟩:=hcut;generalize wc=w4 at *;generalize hx:fO y (aO n)=x at *;replace m:=aa R.g4 (aa F.k3 X.g4);by_cases J:d=[]
   ·have q1:(d==[])=true:=by rw[J];rfl
    have q:=aB (ad J);clear ad T ag Y C hx;go_wp2_with fail;have D:=R.lt;have N:=F.lt;have Z:=X.lt;have E:=a.size;obtain⟨W6,r,R,a,f,i⟩:=R.put4 a (by omega) (.bool M) (.slice G L H) (.bool false) (.slice none 0 0) rfl rfl;replace F:=i F (by omega);replace X:=i X (by omega);replace g:=g.ke f;rw[r];clear r;replace m:=aa R.k4 (aa F.k3 X.k4);exact aM (v:= .tuple #[.agg #[.bool M,.slice G L H,.bool false,.slice none 0 0],.bool true]) (by simp[results,results53,go_sem,R.k4]) rfl ⟨_,by rw[q.out];rfl,by rw[q.out];exact RatAt.of g (IntAt.zero _) rfl rfl,a⟩
   ·have q1:(d==[])=false:=by simpa using J
    have t:=IQ Y.out J;have ar:=wP C.out.d_digs J C.out.d_head;have au:aO d≠1:=fun e=>C.out.d_one (by rw[<-pG C.out.d_digs J (.inr C.out.d_head),e,decDigits_one]);rw[hx] at t;have V:=aB t;clear ad ag Y C t hx;go_wp2_with fail;refine(T _).mono ?_;rintro e5 w5 ⟨v5,rfl,o,O⟩;obtain⟨s5,A5,k5,c5,rfl⟩:=o.form;replace R:=R.be O;replace F:=F.be O;replace X:=X.be O;replace m:=aa R.g4 (aa F.k3 X.g4);replace f:=Keep.be O;replace g:=g.ke f;replace a:=aC a O;have ae:=fun W v u hG h1 h2=>qF x ((aO d:Nat):Int) v u W hG h1 h2 1073741824 (by rw[af];omega) (by rw[dD];omega) (by decide);rw[af,dD] at ae;unfold dW at ae;clear T;go_wp2_with fail;have D:=R.lt;have N:=F.lt;have Z:=X.lt;have E:=a.size;obtain⟨U0,z,X,a,f,i⟩:=X.put1 a (by omega) 2 (.bool s5) rfl;replace R:=i R (by omega);replace F:=i F (by omega);replace g:=g.ke f;replace o:=o.ke f;obtain⟨w6,ao,X,a,f,i⟩:=X.put1 a (by omega) 3 (.slice A5 k5 c5) rfl;replace R:=i R (by omega);replace F:=i F (by omega);replace g:=g.ke f;replace o:=o.ke f;rw[z,ao];clear z ao;replace m:=aa R.g4 (aa F.k3 X.g4);refine(ae _ _ _ (hG.be a) g o).mono ?_;rintro e8 w8 ⟨v8,rfl,h8,P⟩;obtain⟨s8,A8,k8,c8,rfl⟩:=h8.form;replace R:=R.be P;replace F:=F.be P;replace X:=X.be P;replace m:=aa R.g4 (aa F.k3 X.g4);replace f:=Keep.be P;replace g:=g.ke f;replace o:=o.ke f;replace a:=aC a P;clear ae;have bb:nl (Nat.gcd (aO n) (aO d))<=1073741824:=by
     refine aH (cK (aqY (by omega) (azU _ _))) (by omega)
    go_wp2_with fail;refine(n6 _ _ _ h8 (by rw[dD];omega)).mono ?_;rintro e9 w9 ⟨rfl,Q⟩;replace R:=R.be Q;replace F:=F.be Q;replace X:=X.be Q;replace m:=aa R.g4 (aa F.k3 X.g4);replace f:=Keep.be Q;replace g:=g.ke f;replace o:=o.ke f;replace a:=aC a Q;by_cases ai:Nat.gcd (aO n) (aO d)=1
    ·have S:decide (((Nat.gcd (aO n) (aO d):Nat):Int)=1)=true:=by rw[iQ];omega
     obtain⟨av,aw⟩:=IR af ai ar au;have t:=V.out;rw[if_pos ai] at t;have q:=aB t;rw[S];clear S t V;go_wp2_with fail;have D:=R.lt;have N:=F.lt;have Z:=X.lt;have E:=a.size;obtain⟨W6,r,R,a,f,i⟩:=R.put4 a (by omega) (.bool M) (.slice G L H) (.bool s5) (.slice A5 k5 c5) rfl rfl;replace F:=i F (by omega);replace X:=i X (by omega);replace g:=g.ke f;replace o:=o.ke f;rw[r];clear r;replace m:=aa R.k4 (aa F.k3 X.k4);exact aM (v:= .tuple #[.agg #[.bool M,.slice G L H,.bool s5,.slice A5 k5 c5],.bool true]) (by simp[results,results53,go_sem,R.k4]) rfl ⟨_,by rw[q.out];rfl,by rw[q.out];exact RatAt.of g o av aw,a⟩
    ·have S:decide (((Nat.gcd (aO n) (aO d):Nat):Int)=1)=false:=by rw[jA];omega
     have t:=V.out;rw[if_neg ai] at t;have q:=aB t;rw[S];clear S t V;go_wp2_with fail;have D:=R.lt;have N:=F.lt;have Z:=X.lt;have E:=a.size;obtain⟨W6,r,R,a,f,i⟩:=R.put4 a (by omega) (.bool false) (.slice none 0 0) (.bool false) (.slice none 0 0) rfl rfl;replace F:=i F (by omega);replace X:=i X (by omega);rw[r];clear r;replace m:=aa R.k4 (aa F.k3 X.k4);exact aM (v:= .tuple #[.agg #[.bool false,.slice none 0 0,.bool false,.slice none 0 0],.bool false]) (by simp[results,results53,go_sem,R.k4]) rfl ⟨_,by rw[q.out];rfl,by rw[q.out];exact RatAt.of (IntAt.zero _) (IntAt.zero _) rfl rfl,a⟩
def RRow(w:World)(rows:List (List Value))(qs:List Rat):Prop:=∀(i:Nat) (q:Rat),qs[i]? =some q->∃s A l c e a d c',rows[i]? =some [Value.bool s,Value.slice A l c,Value.bool e,Value.slice a d c']∧RatAt w (.agg #[.bool s,.slice A l c,.bool e,.slice a d c']) q
def RRow.ke{rows:List (List Value)}(h:RRow w rows qs)(f:Keep w w'):RRow w' rows qs:=fun i q hi=>by
 obtain⟨s,A,l,c,j,a,g,c',d,e⟩:=h i q hi;exact⟨s,A,l,c,j,a,g,c',d,e.ke f⟩
def RRow.take{rows:List (List Value)}(h:RRow w rows qs)(m:Nat):RRow w rows (qs.take m):=fun i q hi=>by
 rw[fC] at hi;split at hi
 ·exact h i q hi
 ·cases hi
def RatsAt(w:World)(v:Value)(qs:List Rat):Prop:=∃A c,v= .slice A qs.length c∧qs.length<=c∧(qs=[]∨∃b rows,A=some ⟨b,0,none⟩∧Rw w b 4 rows 76∧RRow w rows qs)
def RatsAt.be(h:RatsAt w v qs)(a:Below w.1.size w w'):RatsAt w' v qs:=by
 obtain⟨A,c,hv,d,h⟩:=h;refine⟨A,c,hv,d,?_⟩;rcases h with h|⟨b,i,e,g,f⟩
 ·exact .inl h
 ·exact .inr ⟨b,i,e,g.be a,f.ke (Keep.be a)⟩
def RatsAt.nil(w:World)(A:Option Addr)(c:Nat):RatsAt w (.slice A 0 c) []:=⟨A,c,rfl,dC _,.inl rfl⟩
def RatsAt.form(h:RatsAt w v qs):∃A c,v= .slice A qs.length c∧qs.length<=c:=by
 obtain⟨A,c,hv,a,_⟩:=h;exact⟨A,c,hv,a⟩
def RatsAt.cut{l:Nat}(h:RatsAt w (.slice A l c) qs)(m:Nat)(d:m<=qs.length):RatsAt w (.slice A m c) (qs.take m):=by
 obtain⟨i,j,e,k,h⟩:=h;simp only[Value.slice.injEq] at e;obtain⟨rfl,rfl,rfl⟩:=e;refine⟨A,c,by rw[bK,y8 d],by rw[bK];omega,?_⟩;rcases h with h|⟨b,g,e,f,a⟩
 ·exact .inl (by rw[h];simp)
 ·exact .inr ⟨b,g,e,f,a.take m⟩
def RatsAt.at_{l:Nat}(h:RatsAt w (.slice A l c) qs)(hi:qs[i]? =some q):
  ∃b s B m d k f j d',A=some ⟨b,0,none⟩∧b<w.1.size∧w.cell? ⟨b,i*4,none⟩=some (.bool s)∧w.cell? ⟨b,i*4+1,none⟩=some (.slice B m d)∧w.cell? ⟨b,i*4+2,none⟩=some (.bool k)∧w.cell? ⟨b,i*4+3,none⟩=some (.slice f j d')∧RatAt w (.agg #[.bool s,.slice B m d,.bool k,.slice f j d']) q:=by
 obtain⟨p,r,e,t,h⟩:=h;simp only[Value.slice.injEq] at e;obtain⟨rfl,rfl,rfl⟩:=e;rcases h with h|⟨b,u,e,a,o⟩
 ·rw[h] at hi;simp at hi
 ·obtain⟨s,B,m,d,k,f,j,d',g,n⟩:=o i q hi;exact⟨b,s,B,m,d,k,f,j,d',e,a.lt,a.cell 0 g rfl,a.cell 1 g rfl,a.cell 2 g rfl,a.cell 3 g rfl,n⟩
def OwnR(w:World)(b:Nat)(qs:List Rat):Prop:=∃rows,Rw w b 4 rows 76∧qs.length<=rows.length∧RRow w rows qs
section
variable {w w':World}{b:Nat}{qs:List Rat}
def OwnR.lt(h:OwnR w b qs):b<w.1.size:=by
 obtain⟨c,a,_⟩:=h;exact a.lt
def OwnR.be(h:OwnR w b qs)(a:Below w.1.size w w'):OwnR w' b qs:=by
 obtain⟨f,e,d,c⟩:=h;exact⟨f,e.be a,d,c.ke (Keep.be a)⟩
def OwnR.step(h:OwnR w b qs)(c:kR g w w')(f:b≠g):OwnR w' b qs:=by
 obtain⟨i,a,e,d⟩:=h;exact⟨i,⟨(c.2.1 b f).trans a.1,a.2⟩,e,d.ke c.1⟩
def OwnR.rats(h:OwnR w b qs)(c:Nat)(a:qs.length<=c):RatsAt w (.slice (some ⟨b,0,none⟩) qs.length c) qs:=by
 obtain⟨f,e,g,d⟩:=h;exact⟨_,c,rfl,a,.inr ⟨b,f,rfl,e,d⟩⟩
def OwnR.free(h:OwnR w b qs)(j:Nat):w.frozen? ⟨b,j,none⟩=false:=by
 obtain⟨c,a,_⟩:=h;exact a.free j
def OwnR.at_(h:OwnR w b qs)(hi:qs[i]? =some q):
  ∃s B m d g a f d',w.cell? ⟨b,i*4,none⟩=some (.bool s)∧w.cell? ⟨b,i*4+1,none⟩=some (.slice B m d)∧w.cell? ⟨b,i*4+2,none⟩=some (.bool g)∧w.cell? ⟨b,i*4+3,none⟩=some (.slice a f d')∧RatAt w (.agg #[.bool s,.slice B m d,.bool g,.slice a f d']) q:=by
 obtain⟨n,e,l,k⟩:=h;obtain⟨s,B,m,d,g,a,f,d',c,j⟩:=k i q hi;exact⟨s,B,m,d,g,a,f,d',e.cell 0 c rfl,e.cell 1 c rfl,e.cell 2 c rfl,e.cell 3 c rfl,j⟩
def OwnR.stored(h:OwnR w b qs)(hi:i<qs.length){s a:Bool}{l p:Nat}(hn:RatAt w (.agg #[.bool s,.slice A l c,.bool a,.slice o p c']) q):
  let W:=(((w.setCell ⟨b,i*4,none⟩ (.bool s)).setCell ⟨b,i*4+1,none⟩ (.slice A l c)).setCell ⟨b,i*4+2,none⟩ (.bool a)).setCell ⟨b,i*4+3,none⟩ (.slice o p c')
  OwnR W b (qs.set i q)∧kR b w W:=by
 obtain⟨v,J,U,I⟩:=h;obtain⟨Y,x,B,y,r,d,n,f,H,Z⟩:=I i qs[i] (aR hi);have u:i<v.length:=by omega
 have K:=J.set 0 H (by omega) (.bool s);have E:(v.set i ([Value.bool Y,.slice x B y,.bool r,.slice d n f].set 0 (.bool s)))[i]? =some [.bool s,.slice x B y,.bool r,.slice d n f]:=by rw[gP u];rfl
 have C:=K.set 1 E (by omega) (.slice A l c);rw[bxM] at C;have F:(v.set i ([Value.bool s,.slice x B y,.bool r,.slice d n f].set 1 (.slice A l c)))[i]? =some [.bool s,.slice A l c,.bool r,.slice d n f]:=by rw[gP u];rfl
 have D:=C.set 2 F (by omega) (.bool a);rw[bxM] at D;have G:(v.set i ([Value.bool s,.slice A l c,.bool r,.slice d n f].set 2 (.bool a)))[i]? =some [.bool s,.slice A l c,.bool a,.slice d n f]:=by rw[gP u];rfl
 have L:=D.set 3 G (by omega) (.slice o p c');rw[bxM] at L
 have z:Keep w ((((w.setCell ⟨b,i*4,none⟩ (.bool s)).setCell ⟨b,i*4+1,none⟩ (.slice A l c)).setCell ⟨b,i*4+2,none⟩ (.bool a)).setCell ⟨b,i*4+3,none⟩ (.slice o p c')):=
  (((Keep.put (J.cell 0 H rfl) (NoInt.bool _) _).trans (Keep.put (K.cell 1 E rfl) (NoInt.slice _ _ _) _)).trans (Keep.put (C.cell 2 F rfl) (NoInt.bool _) _)).trans (Keep.put (D.cell 3 G rfl) (NoInt.slice _ _ _) _)
 refine⟨⟨_,L,by simpa using U,fun j m k=> ?_⟩,z,fun g t=> ?_,by simp,rfl,rfl,rfl⟩
 ·by_cases e:i=j
  ·subst e;rw[gP hi] at k;injection k with k;subst k;exact⟨s,A,l,c,a,o,p,c',by rw[gP u];rfl,hn.ke z⟩
  ·rw[lI e] at k;obtain⟨M,N,O,P,Q,R,S,T,V,X⟩:=I j m k;exact⟨M,N,O,P,Q,R,S,T,by rw[lI e];exact V,X.ke z⟩
 ·rw[Below.heap_setCell _ ⟨b,i*4+3,none⟩ _ g t,Below.heap_setCell _ ⟨b,i*4+2,none⟩ _ g t,Below.heap_setCell _ ⟨b,i*4+1,none⟩ _ g t,Below.heap_setCell _ ⟨b,i*4,none⟩ _ g t]
def RatAt.zero(w:World):RatAt w (.agg #[.bool false,.slice none 0 0,.bool false,.slice none 0 0]) 0:=RatAt.of (IntAt.zero w) (IntAt.zero w) rfl rfl
def OwnR.made(h:Rw w b 4 (List.replicate n [.bool false,.slice none 0 0,.bool false,.slice none 0 0]) 76):OwnR w b (List.replicate n 0):=
 ⟨_,h,by simp,fun i m c=>⟨false,none,0,0,false,none,0,0,by
  have:=(List.getElem?_eq_some_iff.1 c).1;rw[dB] at this;rw[j6,if_pos this],by
  have:=j6 (n:=n) (a:=(0:Rat)) (i:=i);rw[c] at this;split at this
  ·injection this with this;subst this;exact RatAt.zero w
  ·cases this⟩⟩
end
def StrsAt(w:World)(v:Value)(a:List (List UInt8)):Prop:=∃A c,v= .slice A a.length c∧a.length<=c∧(a=[]∨∃b off,A=some ⟨b,off,none⟩∧b<w.1.size∧∀(i:Nat) (l:List UInt8),a[i]? =some l->w.cell? ⟨b,off+i,none⟩=some (.string ⟨l.toArray⟩))
def StrsAt.be(h:StrsAt w v f)(a:Below w.1.size w w'):StrsAt w' v f:=by
 obtain⟨A,c,hv,j,h⟩:=h;refine⟨A,c,hv,j,?_⟩;rcases h with h|⟨b,g,e,d,k⟩
 ·exact .inl h
 ·exact .inr ⟨b,g,e,aZ d a.size,fun i l h=>(a.cell (p:=⟨b,g+i,none⟩) d).trans (k i l h)⟩
def StrsAt.form(h:StrsAt w v a):∃A c,v= .slice A a.length c∧a.length<=c:=by
 obtain⟨A,c,hv,d,_⟩:=h;exact⟨A,c,hv,d⟩
def StrsAt.nil(w:World)(A:Option Addr)(c:Nat):StrsAt w (.slice A 0 c) []:=⟨A,c,rfl,dC _,.inl rfl⟩
def StrsAt.at_{l:Nat}(h:StrsAt w (.slice A l c) a)(hi:a[i]? =some t):
  ∃b off,A=some ⟨b,off,none⟩∧b<w.1.size∧w.cell? ⟨b,off+i,none⟩=some (.string ⟨t.toArray⟩):=by
 obtain⟨g,j,e,k,h⟩:=h;simp only[Value.slice.injEq] at e;obtain⟨rfl,rfl,rfl⟩:=e;rcases h with h|⟨b,off,e,f,d⟩
 ·rw[h] at hi;simp at hi
 ·exact⟨b,off,e,f,d i t hi⟩
def rd(l:List UInt8):Bool:=(cL l).isSome
def aU(a:List (List UInt8)):List Rat:=a.map (fun l=>(cL l).getD 0)
def SZ(a:List (List UInt8))(v:Value)(w:World)(hG:Glob w)(hv:StrsAt w v a)(hl:a.length<=1073741824)(ae:∀l∈a,l.length<=1073741824):
  Calls prog 60 #[v] w fun e w'=>∃W,e= .returned (.tuple #[W,.bool (a.all rd)])∧(a.all rd=true->∃g,W= .slice (some ⟨g,0,none⟩) a.length a.length∧w.1.size<=g∧OwnR w' g (aU a))∧Below w.1.size w w':=by
 obtain⟨A,c,rfl,hc⟩:=hv.form;have V:(aU a).length=a.length:=cH _;have u:=aB V;clear V;go_enter func60,ntmps60;go_wp2_with (at_make;refine jT rfl rfl 76 _ 4 64 underlying68 OC rfl (by decide) a.length rfl rfl rfl rfl (by omega) (by omega) ?_;intro w1 ah S K);have I:=OwnR.made S;clear S ah;go_loopg [14] a.length (fun k i wr=>∃j,Hid (j+k=a.length)∧i= .int .i64 j∧OwnR wr w.1.size ((aU a).take j++List.replicate k 0)∧Hid ((a.take j).all rd=true)∧Below w.1.size w wr)
 case atStart=>exact⟨0,by unfold Hid;omega,rfl,by simpa using I,by unfold Hid;simp,K⟩
 case round=>
  clear I K;obtain⟨j,f,rfl,R,q,d⟩:=hrel;generalize wr=wx at *;have am:(0:Int)<=(j:Int):=by omega
  cases gk with
  |zero=>
   have O:j=a.length:=f.out;have J:a.all rd=true:=by
    have:=q.out;rw[O,aq9] at this;exact this
   subst O;rw[aq8,fH,cZ (by rw[u.out];exact aE)] at R;have X:=aB J;clear J q;go_wp2;go_ret2;rw[X.out];exact⟨_,rfl,fun _=>⟨w.1.size,rfl,aE,R⟩,d⟩
  |succ k=>
   obtain⟨t,m⟩:∃t,a[j]? =some t:=⟨_,aR (by have:=f.out;omega)⟩;obtain⟨b,ap,rfl,al,g0⟩:=(hv.be d).at_ m;have ag:=ae t (dG m);have an:(j:Int)<(a.length:Int):=by have:=f.out;omega
   have U:(aU a)[j]? =some ((cL t).getD 0):=by unfold aU;rw[iK,m];rfl
   have B:=rI (ys:=aU a) (z:=(0:Rat)) (j:=j) (k:=k+1) (by rw[u.out];exact f.out);have M:=rH (z:=(0:Rat)) (k:=k) U;have aj:=aB B;have Y:=aB M;have N:j<((aU a).take j++List.replicate (k+1) 0).length:=by rw[B,u.out];have:=f.out;omega
   have T:(a.take (j+1)).all rd=rd t:=by rw[Q9,m,aqO,byJ,q.out];simp
   have P:rd t=false->a.all rd=false:=fun h=>by
    rw[List.all_eq_false];exact⟨t,dG m,by rw[h];simp⟩
   have s:=aB T;have r:=aB P;clear U B M T P m;go_wp2_with fail;refine(wU t _ (hG.be d) ag).mono ?_;rintro e2 H ⟨v2,rfl,n,L⟩;obtain⟨F,o,D,x,G,p,E,y,rfl⟩:=n.form;replace R:=R.be L;replace d:=aC d L;have C:(cL t).isSome=rd t:=rfl;rw[C];cases hrd:rd t with
   |false=>
    have Z:=aB (r.out hrd);clear r s hrd C;go_wp2;go_ret2;rw[Z.out];exact⟨_,rfl,(fun h=>by cases h),d.alloc d.size _⟩
   |true=>
    rw[hrd] at s;clear r hrd C;replace R:=R.be ((aG H.1.size H).alloc aE (.cells #[.bool F,.slice o D x,.bool G,.slice p E y] 76));replace n:=n.ke (Keep.alloc H (.cells #[.bool F,.slice o D x,.bool G,.slice p E y] 76));have ad:=d.alloc d.size (.cells #[.bool F,.slice o D x,.bool G,.slice p E y] 76);obtain⟨s',B',l',d',aq,ai,ao,ak,q0,q1,q2,q3, -⟩:=R.at_ (aR N);have f0:=R.free (j*4);have f1:=R.free (j*4+1);have f2:=R.free (j*4+2);have f3:=R.free (j*4+3);go_wp2_with fail;obtain⟨Q,af⟩:=R.stored N n;rw[Y.out] at Q;have ac:=jD ad af aE;go_roundg k
    case rel=>exact⟨j+1,by have:=f.out;unfold Hid;omega,by go_num,Q,s,ac⟩
    case measure=>omega
def T0(a:List (List UInt8))(v:Value)(w:World)(c:Glob w)(hv:StrsAt w v a)(j:a.length<=1073741824)(k:∀l∈a,l.length<=1073741824):
  Calls prog 60 #[v] w fun e w'=>∃b,e= .returned (.tuple #[b,.bool (a.all rd)])∧(a.all rd=true->RatsAt w' b (aU a))∧Below w.1.size w w':=
 (SZ a v w c hv j k).mono (fun e w' ⟨b,i,h,f⟩=>⟨b,i,fun d=>by
  obtain⟨g,rfl, -,R⟩:=h d;have hn:(aU a).length=a.length:=cH _;have:=R.rats a.length (by rw[hn];exact aE);rw[hn] at this;exact this,f⟩)
def SV(q:Rat)(v:Value)(w:World)(i:RatAt w v q)(l:nl q.num.natAbs<=17592186044416):
  Calls prog 76 #[v] w fun e w'=>e= .returned (.bool (decide (q=0)))∧Below w.1.size w w':=by
 obtain⟨s,A,k,c,f,a,d,b,rfl⟩:=i.form;have m:Bx (w.alloc (.cells #[.bool s,.slice A k c,.bool f,.slice a d b] 76)) (w.1.size) [.bool s,.slice A k c,.bool f,.slice a d b] 76:=Bx.newAt w [.bool s,.slice A k c,.bool f,.slice a d b] 76 (w.1.size) (by simp);have g:Below w.1.size w (w.alloc (.cells #[.bool s,.slice A k c,.bool f,.slice a d b] 76)):=(aG _ _).alloc (by simp) _;go_enter func76,ntmps76;go_wp2_with fail;generalize w.alloc (.cells #[.bool s,.slice A k c,.bool f,.slice a d b] 76)=W at *;have h:=(i.be g).num;refine(g9 _ _ _ h l).mono ?_;rintro n o ⟨rfl,j⟩;go_wp2;go_ret;exact⟨rfl,aC g j⟩
def SW(n:Int):Lib.itoa n=iP n:=by
 unfold Lib.itoa iP;by_cases h:n<0
 ·rw[if_pos h,if_pos h];rfl
 ·rw[if_neg h,if_neg h,iM,show n.toNat=n.natAbs by omega]
def SX(n:Int)(c: -9223372036854775808<=n)(d:n<=9223372036854775807)(w:World)(f:Glob w):
  Calls prog 104 #[.int .i64 n] w fun e w'=>e= .returned (.string ⟨(iP n).toArray⟩)∧Below w.1.size w w':=by
 have a:=Tryz.strconv_FormatInt_10 n c d w f.pow;rw[SW] at a;go_enter func104,ntmps104;go_wp2_with fail;refine a.mono ?_;rintro e i ⟨rfl,k,h,b⟩;have g:Below w.1.size w i:=by rw[b];exact Lib.below_grow w.1.size w aE k h
 clear b;go_wp2;go_ret;exact⟨rfl,g⟩
def wR(n K:Nat)(h:nl n<=K):(Lib.decDigits n).length<=20*K+1:=by
 rw[Lib.decDigits_length];refine rS ?_ (by omega);refine aZ (cyD n) ?_;have b:BN^nl n<=BN^K:=cO (by decide) h;have a:BN^K<=(10^20)^K:=aqN (by decide) K;rw[<-azL] at a;have c:10^(20*K)<=10^(20*K+1):=cO (by decide) (by omega);omega
def SY(x:Int)(K:Nat)(h:nl x.natAbs<=K):(iP x).length<=20*K+2:=by
 unfold iP;have:=wR x.natAbs K h;rw[dA];split<;>simp<;>omega
def I4(q:Rat)(v:Value)(w:World)(z:Glob w)(J:RatAt w v q)(K:Nat)(hK:RL K q)(am:K<=1073741824):
  Calls prog 51 #[v] w fun e w'=>e= .returned (.string ⟨(cW q).toArray⟩)∧Below w.1.size w w':=by
 obtain⟨s,A,k,c,n,h,j,i,rfl⟩:=J.form;obtain⟨ae,an⟩:=hK;have ao:=mY q;have a:Bx (w.alloc (.cells #[.bool s,.slice A k c,.bool n,.slice h j i] 76)) (w.1.size) [.bool s,.slice A k c,.bool n,.slice h j i] 76:=Bx.newAt w [.bool s,.slice A k c,.bool n,.slice h j i] 76 (w.1.size) (by simp);have b:Below w.1.size w (w.alloc (.cells #[.bool s,.slice A k c,.bool n,.slice h j i] 76)):=(aG _ _).alloc (by simp) _;go_enter func51,ntmps51;go_wp2_with fail;generalize w.alloc (.cells #[.bool s,.slice A k c,.bool n,.slice h j i] 76)=W at *;have hn:=(J.be b).num;have d:=(J.be b).den;refine(g9 _ _ _ d (by omega)).mono ?_;rintro e1 f ⟨rfl,F⟩;replace a:=a.be F;replace N:=a.cell 0 rfl;replace O:=a.cell 1 rfl;replace D:=a.cell 2 rfl;replace E:=a.cell 3 rfl;replace m:=Keep.be F;replace hn:=hn.ke m;replace d:=d.ke m;replace b:=aC b F;by_cases o:bS q=0
 ·have t:decide (bS q=0)=true:=by simpa using o
  have u:cW q=iP q.num:=by unfold cW iP;rw[if_pos (fV.1 o),fH]
  have x:=aB u;rw[t];clear t o u;go_wp2_with fail;refine(OG _ _ _ hn (by omega)).mono ?_;rintro e2 w2 ⟨rfl,G⟩;replace a:=a.be G;replace N:=a.cell 0 rfl;replace O:=a.cell 1 rfl;replace D:=a.cell 2 rfl;replace E:=a.cell 3 rfl;replace m:=Keep.be G;replace hn:=hn.ke m;replace d:=d.ke m;replace b:=aC b G;cases hf:kF q.num with
  |true=>
   rw[if_pos rfl];have V: -9223372036854775808<=q.num∧q.num<=9223372036854775807:=by unfold kF at hf;simpa using hf
   clear hf;go_wp2_with fail;refine(SX q.num V.1 V.2 _ (z.be b)).mono ?_;rintro e3 w3 ⟨rfl,H⟩;go_wp2;go_ret;rw[x.out];exact⟨rfl,aC b H⟩
  |false=>
   clear hf;go_wp2_with fail;refine(T7 q.num _ _ (z.be b) hn (by omega)).mono ?_;rintro e3 w3 ⟨rfl,H⟩;go_wp2;go_ret;rw[x.out];exact⟨rfl,aC b H⟩
 ·have t:decide (bS q=0)=false:=by simpa using o
  have I:q.den≠1:=fun e=>o (fV.2 e);have T:bS q=q.den:=mI I;have U:iP (bS q)=Lib.decDigits q.den:=by unfold iP;rw[T,if_neg (by omega)];rfl
  have u:cW q=(iP q.num++[47])++iP (bS q):=by unfold cW;rw[U,if_neg I];unfold iP;simp
  have x:=aB u;have ap:=SY q.num K ae;rw[t];clear t o u U T I;go_wp2_with fail;refine(BP f.1.size (.slice none 0 0) [] q.num s A k c f (z.be b).globB aE (TxtAt.nil _ _) hn (Apart.nil _) (by omega) (by simp)).mono ?_;rintro e7 Y ⟨M,rfl,y,t7⟩;rw[iM] at y;have S:=d.blk;have R:=b;have ad:=(z.be b).globB;have al:=a.lt;have r:Below f.1.size f Y:=t7.belowB aE (fun g e=>by simp[Value.ownBlock] at e);have X:=r.size;replace a:=a.be r;replace N:=a.cell 0 rfl;replace O:=a.cell 1 rfl;replace D:=a.cell 2 rfl;replace E:=a.cell 3 rfl;replace m:=Keep.be r;replace d:=d.ke m;replace b:=aC b r;have ac:=y;unfold TxtAt at y;have L:=ac.lt;have n7:M.ownBlock≠some w.1.size:=fun e=>by have:=(L _ e).1;omega
  have Q:Apart M (.slice h j i):=fun g e Z=>by have:=(L g e).1;have:=S g Z;omega
  go_wp2_with (at_builtin;refine gM rfl rfl 5 _ 1 1 underlying145 nF rfl (by decide) f.1.size M (iP q.num).length _ rfl (y.alloc _) [Value.int .u8 47] rfl (by simp) (lM _ _ _) (by simp[Value.oneCell']) (by omega) (by omega) (by simp;omega) ?_;intro q1 C ak aj af;have p:=TxtAt.more (bs:=iP q.num) (l:=[47]) ak aj af;replace a:=a.txt p.2 n7;replace D:=a.cell 2 rfl;replace E:=a.cell 3 rfl);have ai:IntAt C (.agg #[.bool n,.slice h j i]) (bS q):=IntAt.of (d.words.txt p.2 Q) d.neg;have ah:Below f.1.size Y C:=p.2.belowB X (fun g e=>(L g e).1);have B:Below f.1.size f C:=r.trans ah;refine(BP f.1.size q1 (iP q.num++[47]) (bS q) n h j i C (ad.on B) B.size p.1 ai (p.2.apart Q (fun g e=>aZ (S g e) X)) (by omega) (by simp;omega)).mono ?_;rintro e9 w9 ⟨v9,rfl,P,t9⟩;rw[<-x.out] at P;have hc:=P.str;have ag:=B.trans (t9.belowB B.size (fun g e=>(p.1.lt g e).1));go_wp2;go_ret;exact⟨rfl,aC R ag⟩
def czR:(Tryz.prog.info? 9).map (fun i=>(i.zero,i.size,i.bytes))=some (some (.string ⟨#[]⟩),1,16):=by kernel_rfl
def OwnS(w:World)(b:Nat)(ls:List (List UInt8)):Prop:=∃cs,Bx w b cs 9∧ls.length<=cs.length∧∀(i:Nat) (l:List UInt8),ls[i]? =some l->cs[i]? =some (Value.string ⟨l.toArray⟩)
section
variable {w w':World}{b:Nat}{ls:List (List UInt8)}
def OwnS.be(h:OwnS w b ls)(f:Below w.1.size w w'):OwnS w' b ls:=by
 obtain⟨a,c,d,e⟩:=h;exact⟨a,c.be f,d,e⟩
def OwnS.made(h:Rw w b 1 (List.replicate n [.string ⟨#[]⟩]) 9):OwnS w b (List.replicate n []):=by
 have e:(List.replicate n [Value.string ⟨#[]⟩]).flatten=List.replicate n (Value.string ⟨#[]⟩):=by
  induction n with
  |zero=>rfl
  |succ n d=>simp[aqV]
 refine⟨_,by have:=h.1;rw[e] at this;exact this,by simp,fun i l a=> ?_⟩;have c:=(List.getElem?_eq_some_iff.1 a).1;rw[dB] at c;rw[j6,if_pos c] at a⊢;injection a with a;rw[<-a]
def OwnS.at_(h:OwnS w b ls)(hi:ls[i]? =some l):w.cell? ⟨b,i,none⟩=some (.string ⟨l.toArray⟩):=by
 obtain⟨d,a,e,c⟩:=h;exact a.cell i (c i l hi)
def OwnS.free(h:OwnS w b ls)(j:Nat):w.frozen? ⟨b,j,none⟩=false:=by
 obtain⟨c,a,_⟩:=h;exact a.free j
def OwnS.strs(h:OwnS w b ls)(c:Nat)(e:ls.length<=c):StrsAt w (.slice (some ⟨b,0,none⟩) ls.length c) ls:=by
 obtain⟨g,a,j,d⟩:=h;exact⟨_,c,rfl,e,.inr ⟨b,0,rfl,a.lt,fun i l f=>by rw[bA];exact a.cell i (d i l f)⟩⟩
def OwnS.stored(h:OwnS w b ls)(hi:i<ls.length)(l:List UInt8):OwnS (w.setCell ⟨b,i,none⟩ (.string ⟨l.toArray⟩)) b (ls.set i l)∧kR b w (w.setCell ⟨b,i,none⟩ (.string ⟨l.toArray⟩)):=by
 obtain⟨f,c,k,d⟩:=h;have m:=c.cell i (d i _ (aR hi));refine⟨⟨f.set i (.string ⟨l.toArray⟩),c.set i _,by simpa using k,fun j t a=> ?_⟩,Keep.put m (NoInt.string _) _,fun g n=>Below.heap_setCell _ ⟨b,i,none⟩ _ g n,by simp,rfl,rfl,rfl⟩;by_cases e:i=j
 ·subst e;rw[gP hi] at a;injection a with a;subst a;rw[gP (by omega)]
 ·rw[lI e] at a⊢;exact d j t a
end
def dxQ(a:List Rat)(v:Value)(w:World)(P:Glob w)(hv:RatsAt w v a)(K:Nat)(Q:∀q∈a,RL K q)(S:K<=1073741824)(hl:a.length<=1073741824):
  Calls prog 78 #[v] w fun e w'=>∃N,e= .returned N∧StrsAt w' N (a.map cW)∧Below w.1.size w w':=by
 obtain⟨A,c,rfl,hc⟩:=hv.form;have J:(a.map cW).length=a.length:=cH _;have h:=aB J;clear J;go_enter func78,ntmps78;go_wp2_with (at_make;refine jT rfl rfl 9 _ 1 16 underlying22 czR rfl (by decide) a.length rfl rfl rfl rfl (by omega) (by omega) ?_;intro w1 X G x);have t:=OwnS.made G;clear G X;go_loopg [11] a.length (fun k i wr=>∃j,Hid (j+k=a.length)∧i= .int .i64 j∧OwnS wr w.1.size ((a.map cW).take j++List.replicate k [])∧Below w.1.size w wr)
 case atStart=>exact⟨0,by unfold Hid;omega,rfl,by simpa using t,x⟩
 case round=>
  clear t x;obtain⟨j,g,rfl,R,f⟩:=hrel;generalize wr=n at *;have ad:(0:Int)<=(j:Int):=by omega
  cases gk with
  |zero=>
   have V:j=a.length:=g.out;subst V;rw[aq8,fH,cZ (by rw[h.out];exact aE)] at R;have H:=R.strs a.length (by rw[h.out];exact aE);rw[h.out] at H;go_wp2;go_ret;exact⟨_,rfl,H,f⟩
  |succ k=>
   obtain⟨q,l⟩:∃q,a[j]? =some q:=⟨_,aR (by have:=g.out;omega)⟩;obtain⟨b,s,B,m,d,M,r,L,u,rfl,ac,g0,g1,g2,g3,p⟩:=(hv.be f).at_ l;have T:=Q q (dG l);have ae:(j:Int)<(a.length:Int):=by have:=g.out;omega
   have I:(a.map cW)[j]? =some (cW q):=by rw[iK,l];rfl
   have C:=rI (ys:=a.map cW) (z:=([]:List UInt8)) (j:=j) (k:=k+1) (by rw[h.out];exact g.out);have D:=rH (z:=([]:List UInt8)) (k:=k) I;have E:j<((a.map cW).take j++List.replicate (k+1) []).length:=by rw[C,h.out];have:=g.out;omega
   have O:=aB D;clear I C D l;go_wp2_with fail;have o:Below n.1.size n (n.alloc (.cells #[.bool s,.slice B m d,.bool M,.slice r L u] 76)):=(aG _ _).alloc aE _;replace p:=p.be o;replace R:=R.be o;replace f:=aC f o;generalize n.alloc (.cells #[.bool s,.slice B m d,.bool M,.slice r L u] 76)=wa at *;refine(I4 q _ _ (P.be f) p K T S).mono ?_;rintro Z w2 ⟨rfl,y⟩;replace R:=R.be y;replace f:=aC f y;have q0:=R.at_ (aR E);have f0:=R.free j;generalize cW q=Y at *;go_wp2_with fail;obtain⟨F,W⟩:=R.stored E Y;rw[O.out] at F;have U:=jD f W aE;go_roundg k
   case rel=>exact⟨j+1,by have:=g.out;unfold Hid;omega,by go_num,F,U⟩
   case measure=>omega
def VK(a b:Nat):nl (Nat.lcm a b)<=nl a+nl b:=by
 refine aH (cK ?_) (fI a b);unfold Nat.lcm;exact azK _ _
structure ComDen(qs:List Rat)(D:Int)(B:Nat):Prop where
 pos:0<D
 dvd:∀q∈qs,(q.den:Int)∣D
 nl_:nl D.natAbs<=B
def VL(w:World)(a:List Rat)(B:Nat)(e:Ending)(w':World):Prop:=∃v D,e= .returned v∧IntAt w' v D∧ComDen a D B∧Below w.1.size w w'
def ComDen.skip(h:ComDen (b.take j) D (1+j*K))(d:b[j]? =some q)(c:(q.den:Int)∣D):ComDen (b.take (j+1)) D (1+(j+1)*K):=by
 refine⟨h.pos,fun x a=> ?_,by have:=h.nl_;rw[aq2];omega⟩;rw[Q9,d,aqO] at a;rcases List.mem_append.1 a with a|a
 ·exact h.dvd x a
 ·simp at a;subst a;exact c
def ComDen.lcm(h:ComDen (b.take j) D (1+j*K))(d:b[j]? =some q)(g:nl q.den<=K):ComDen (b.take (j+1)) ((Nat.lcm D.natAbs q.den:Nat):Int) (1+(j+1)*K):=by
 have f:=h.pos;have e:Nat.lcm D.natAbs q.den≠0:=Nat.lcm_ne_zero (by omega) q.den_nz;refine⟨by omega,fun x a=> ?_,?_⟩
 ·rw[Q9,d,aqO] at a;rcases List.mem_append.1 a with a|a
  ·have c:=h.dvd x a;refine Int.ofNat_dvd.2 (bzF ?_ (Nat.dvd_lcm_left _ _));exact Int.ofNat_dvd_left.1 c
  ·simp at a;subst a;exact Int.ofNat_dvd.2 (Nat.dvd_lcm_right _ _)
 ·rw[dD,aq2];have:=VK D.natAbs q.den;have:=h.nl_;omega
def VM(g:List Rat)(v:Value)(w:World)(hG:Glob w)(hv:RatsAt w v g)(K T:Nat)(hK:∀q∈g,RL K q)(hl:g.length<=1073741824)(a8:1+g.length*K<=T)(a9:K<=T)(ai:5*T+4<=aJ):
  Calls prog 126 #[v] w (VL w g (1+g.length*K)):=by
 obtain⟨A,c,rfl,hc⟩:=hv.form;have R:Bx (w.alloc (.cells #[.bool false,.slice none 0 0] 60)) (w.1.size) [.bool false,.slice none 0 0] 60:=Bx.newAt w [.bool false,.slice none 0 0] 60 (w.1.size) (by simp);have a:Below w.1.size w (w.alloc (.cells #[.bool false,.slice none 0 0] 60)):=(aG _ _).alloc (by simp) _;go_enter func126,ntmps126;go_wp2_with fail;generalize w.alloc (.cells #[.bool false,.slice none 0 0] 60)=W at *;refine(lL 1 _ (by decide) (by decide)).mono ?_;rintro e1 l ⟨v1,rfl,H,al⟩;obtain⟨s1,Q,k1,U,rfl⟩:=H.form;replace R:=R.be al;replace p:=R.cell 0 rfl;replace aq:=R.free 0;replace r:=R.cell 1 rfl;replace ar:=R.free 1;replace f:=Keep.be al;replace a:=aC a al;go_wp2_with fail;have az:=R.lt;have bk:=a.size;replace R:=R.alloc (.cells #[.bool s1,.slice Q k1 U] 60);have C:=Bx.newAt l [.bool s1,.slice Q k1 U] 60 (l.1.size) (by simp);replace a:=a.alloc a.size (.cells #[.bool s1,.slice Q k1 U] 60);replace f:=Keep.alloc l (.cells #[.bool s1,.slice Q k1 U] 60);replace H:=H.ke f;generalize l.alloc (.cells #[.bool s1,.slice Q k1 U] 60)=w2 at *;replace p:=R.cell 0 rfl;replace r:=R.cell 1 rfl;replace t:=C.cell 0 rfl;replace x:=C.cell 1 rfl;have au:IntBx w2 l.1.size 1:=⟨_,_,_,_,C,H⟩;have aw:=R;have ax:=a;have bj:=az;clear R C H p r aq ar t x f a;go_loopg [9] g.length (fun k i wr=>∃j D,Hid (j+k=g.length)∧i= .int .i64 j∧IntBx wr l.1.size D∧ComDen (g.take j) D (1+j*K)∧Bx wr w.1.size [.bool false,.slice none 0 0] 60∧Below w.1.size w wr)
 case atStart=>exact⟨0,1,by unfold Hid;omega,rfl,au,⟨by decide,(fun q h=>by simp at h),by rw[show nl (1:Int).natAbs=1 from mJ (by decide) (by decide)];omega⟩,aw,ax⟩
 case round=>
  clear au aw ax;obtain⟨j,D,y,rfl,hC,O,R,a⟩:=hrel;generalize wr=N at *;have bf:(0:Int)<=(j:Int):=by omega
  have bh:1+j*K<=T:=by
   have:j*K<=g.length*K:=dK _ (by have:=y.out;omega);omega
  have a6:=O.nl_;have a7:=O.pos;obtain⟨sc,S,kc,V,C,n⟩:=id hC;cases gk with
  |zero=>
   have hj:j=g.length:=y.out;have a1:ComDen g D (1+g.length*K):=by
    have:=O;rw[hj,aq9] at this;exact this
   replace p:=R.cell 0 rfl;replace aq:=R.free 0;replace r:=R.cell 1 rfl;replace ar:=R.free 1;replace t:=C.cell 0 rfl;replace ao:=C.free 0;replace x:=C.cell 1 rfl;replace ap:=C.free 1;have bi:¬(j:Int)<(g.length:Int):=by omega
   clear O hj y;go_wp2_with fail;have a0:=R.lt;have ay:=C.lt;have a2:=a.size;replace C:=(C.far 0 (.bool sc) (show w.1.size≠l.1.size by omega)).far 1 (.slice S kc V) (show w.1.size≠l.1.size by omega);replace f:=jU (s:=sc) (u:= .slice S kc V) a (by omega) R;clear R a;obtain⟨-, -,R,a,f⟩:=f;replace n:=n.ke f;generalize (N.setCell ⟨w.1.size,0,none⟩ (.bool sc)).setCell ⟨w.1.size,1,none⟩ (.slice S kc V)=W6 at *;replace p:=R.cell 0 rfl;replace r:=R.cell 1 rfl;replace t:=C.cell 0 rfl;replace x:=C.cell 1 rfl;exact aM (v:= .agg #[.bool sc,.slice S kc V]) (by simp[results,results126,go_sem,p,r]) rfl ⟨_,D,rfl,n,a1,a⟩
  |succ k=>
   obtain⟨q,P⟩:∃q,g[j]? =some q:=⟨_,aR (by have:=y.out;omega)⟩;obtain⟨b,s,B,m,d,M,z,L,F,rfl,bc,g0,g1,g2,g3,J⟩:=(hv.be a).at_ P;have av:=hK q (dG P);have ba:=mY q;have bb:=av.2;have bg:(j:Int)<(g.length:Int):=by have:=y.out;omega
   have ad:=fun hd=>O.skip P hd;have an:=O.lcm P av.2;have HQ:=aB P;clear P;go_wp2_with fail;have a0:=R.lt;have ay:=C.lt;have a2:=a.size;replace R:=R.alloc (.cells #[.bool s,.slice B m d,.bool M,.slice z L F] 76);replace C:=C.alloc (.cells #[.bool s,.slice B m d,.bool M,.slice z L F] 76);have X:=Bx.newAt N [.bool s,.slice B m d,.bool M,.slice z L F] 76 (N.1.size) (by simp);replace a:=a.alloc a.size (.cells #[.bool s,.slice B m d,.bool M,.slice z L F] 76);replace f:=Keep.alloc N (.cells #[.bool s,.slice B m d,.bool M,.slice z L F] 76);replace J:=J.ke f;replace n:=n.ke f;generalize N.alloc (.cells #[.bool s,.slice B m d,.bool M,.slice z L F] 76)=wa at *;replace p:=R.cell 0 rfl;replace r:=R.cell 1 rfl;replace t:=C.cell 0 rfl;replace x:=C.cell 1 rfl;replace ae:=X.cell 0 rfl;replace af:=X.cell 1 rfl;replace ag:=X.cell 2 rfl;replace ah:=X.cell 3 rfl;have I:=J.den;refine(g9 _ _ _ I (by unfold aJ at ai;omega)).mono ?_;rintro e2 bn ⟨rfl,Y⟩;replace R:=R.be Y;replace p:=R.cell 0 rfl;replace r:=R.cell 1 rfl;replace C:=C.be Y;replace t:=C.cell 0 rfl;replace x:=C.cell 1 rfl;replace X:=X.be Y;replace ae:=X.cell 0 rfl;replace af:=X.cell 1 rfl;replace ag:=X.cell 2 rfl;replace ah:=X.cell 3 rfl;replace f:=Keep.be Y;replace J:=J.ke f;replace n:=n.ke f;replace I:=I.ke f;replace a:=aC a Y;by_cases G:bS q=0
   ·have o:decide (bS q=0)=true:=by simpa using G
    rw[o];have am:=ad (by rw[fV.1 G];exact Int.one_dvd _);clear o G ad an;go_wp2;go_roundg k
    case rel=>exact⟨j+1,D,by have:=y.out;unfold Hid;omega,by go_num,⟨_,_,_,_,C,n⟩,am,R,a⟩
    case measure=>omega
   ·have o:decide (bS q=0)=false:=by simpa using G
    have aj:bS q=q.den:=mI (fun e=>G (fV.2 e));rw[o];clear o;go_wp2_with fail;refine(OH _ _ _ _ _ I n (by unfold aJ at ai;omega) (by unfold aJ at ai;omega)).mono ?_;rintro e3 w3 ⟨rfl,Z⟩;replace R:=R.be Z;replace p:=R.cell 0 rfl;replace r:=R.cell 1 rfl;replace C:=C.be Z;replace t:=C.cell 0 rfl;replace ao:=C.free 0;replace x:=C.cell 1 rfl;replace ap:=C.free 1;replace X:=X.be Z;replace ae:=X.cell 0 rfl;replace af:=X.cell 1 rfl;replace ag:=X.cell 2 rfl;replace ah:=X.cell 3 rfl;replace f:=Keep.be Z;replace J:=J.ke f;replace n:=n.ke f;replace I:=I.ke f;replace a:=aC a Z;by_cases he:bS q=D
    ·have o:decide (bS q=D)=true:=by simpa using he
     rw[o];have am:=ad (by rw[<-he,aj];exact Int.dvd_refl _);clear o G ad an aj he;go_wp2;go_roundg k
     case rel=>exact⟨j+1,D,by have:=y.out;unfold Hid;omega,by go_num,⟨_,_,_,_,C,n⟩,am,R,a⟩
     case measure=>omega
    ·have o:decide (bS q=D)=false:=by simpa using he
     rw[o];have ak:=fun W hG H h2=>OI D (bS q) (.agg #[.bool sc,.slice S kc V]) (.agg #[.bool M,.slice z L F]) W hG H h2 (by omega) G T (by omega) (by omega) ai;have e5:(bS q).natAbs=q.den:=by rw[aj];rfl
     rw[e5] at ak;unfold dW at ak;clear o ad aj he e5;generalize ((Nat.lcm D.natAbs q.den:Nat):Int)=E at *;go_wp2_with fail;refine(ak _ (hG.be a) n I).mono ?_;rintro e4 w4 ⟨v4,rfl,h4,ac⟩;obtain⟨s4,A4,k4,c4,rfl⟩:=h4.form;replace R:=R.be ac;replace p:=R.cell 0 rfl;replace r:=R.cell 1 rfl;replace C:=C.be ac;replace t:=C.cell 0 rfl;replace ao:=C.free 0;replace x:=C.cell 1 rfl;replace ap:=C.free 1;replace X:=X.be ac;replace ae:=X.cell 0 rfl;replace af:=X.cell 1 rfl;replace ag:=X.cell 2 rfl;replace ah:=X.cell 3 rfl;replace f:=Keep.be ac;replace a:=aC a ac;clear ak;go_wp2_with fail;have a4:=R.lt;have a3:=C.lt;have a5:=X.lt;have bm:=a.size;replace R:=(R.far 0 (.bool s4) (show l.1.size≠w.1.size by omega)).far 1 (.slice A4 k4 c4) (show l.1.size≠w.1.size by omega);replace X:=(X.far 0 (.bool s4) (show l.1.size≠N.1.size by omega)).far 1 (.slice A4 k4 c4) (show l.1.size≠N.1.size by omega);replace f:=jU (s:=s4) (u:= .slice A4 k4 c4) a (by omega) C;clear C a;obtain⟨-, -,C,a,f⟩:=f;replace h4:=h4.ke f;generalize (w4.setCell ⟨l.1.size,0,none⟩ (.bool s4)).setCell ⟨l.1.size,1,none⟩ (.slice A4 k4 c4)=W6 at *;replace p:=R.cell 0 rfl;replace r:=R.cell 1 rfl;replace t:=C.cell 0 rfl;replace x:=C.cell 1 rfl;replace ae:=X.cell 0 rfl;replace af:=X.cell 1 rfl;replace ag:=X.cell 2 rfl;replace ah:=X.cell 3 rfl;go_roundg k
     case rel=>exact⟨j+1,E,by have:=y.out;unfold Hid;omega,by go_num,⟨_,_,_,_,C,h4⟩,an,R,a⟩
     case measure=>omega
