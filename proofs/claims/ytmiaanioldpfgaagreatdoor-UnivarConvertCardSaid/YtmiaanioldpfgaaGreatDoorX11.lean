/- Laws. -/
import Derived.Test.YtmiaanioldpfgaaGreatDoorX10
import Derived.Lib.AppendStr
import Derived.Laws.IdiomStrings
import Derived.Deep.LoopGhost
import Derived.Deep.RegionHeld3
import Derived.Deep.DeepCutAuto
import Derived.IntWalk
set_option linter.all false
set_option maxHeartbeats 8000000
set_option maxRecDepth 99999
namespace Go.Proofs.YtmiaanioldpfgaaGreatDoor
open Go.RowKit Sos Tryz
variable{W w w':World}{A o:Option Addr}{B c c' d g i j k n:Nat}{b v:Value}{a f:List (List UInt8)}{bs l:List UInt8}{t:TypeId}{q x:Rat}{qs:List Rat}{s:Bool}{p:Addr}{e:List Int}
def PowA(w:World)(v:Value)(us:List Value):Prop:=∃A c,v= .slice A us.length c∧us.length<=c∧Old w A∧(us.length=0∨∃b off,A=some ⟨b,off,none⟩∧VC w b off us)∧∀i u,us[i]? =some u->NatAt w u (10^(19*2^i))
def PowFree(a v:Value)(us:List Value):Prop:=Apart a v∧∀u∈us,Apart a u
def Old.block(h:Old w A)(e:(Value.slice A n c).ownBlock=some g):g<w.1.size:=by
 cases A with
 |none=>simp[Value.ownBlock] at e
 |some a=>have:=h a rfl;simp[Value.ownBlock] at e;omega
def PowA.be{us:List Value}(h:PowA w v us)(a:Below w.1.size w w'):PowA w' v us:=by
 obtain⟨A,c,hv,f,d,e,j⟩:=h;refine⟨A,c,hv,f,d.mono a.size,?_,fun i u h=>(j i u h).be a⟩;rcases e with h|⟨b,k,rfl,g⟩
 ·exact .inl h
 ·exact .inr ⟨b,k,rfl,g.be a (d _ rfl)⟩
def PowA.txt{a:Value}{us:List Value}(h:PowA w v us)(d:TxtTo w a w' b)(f:PowFree a v us):PowA w' v us∧PowFree b v us:=by
 obtain⟨A,c,rfl,o,j,n,m⟩:=h;refine⟨⟨A,c,rfl,o,j.mono d.1.size,?_,fun i u h=>(m i u h).txt d (f.2 u (dG h))⟩,?_,fun u l=> ?_⟩
 ·rcases n with h|⟨k,r,rfl,p⟩
  ·exact .inl h
  ·exact .inr ⟨k,r,rfl,p.grown d.1 (j _ rfl) (fun e=>f.1 k e rfl)⟩
 ·exact d.apart f.1 (fun g e=>j.block e)
 ·obtain⟨i,q⟩:=List.getElem?_of_mem l;exact d.apart (f.2 u l) (fun g e=>(m i u q).block e)
def PowA.cut{us:List Value}(h:PowA w (.slice A k c) us)(q:us.length=k)(p:j<=k):PowA w (.slice A j c) (us.take j):=by
 obtain⟨m,n,hv,o,f,a,g⟩:=h;simp only[Value.slice.injEq] at hv;obtain⟨rfl, -,rfl⟩:=hv;have e:(us.take j).length=j:=by rw[bK];omega
 refine⟨A,c,by rw[e],by omega,f,?_,fun i u h=>g i u (by rw[fC] at h;split at h;exact h;cases h)⟩;rcases a with h|⟨b,l,rfl,d⟩
 ·exact .inl (by omega)
 ·exact .inr ⟨b,l,rfl,d.take j⟩
def Apart.same{f:Nat}(h:Apart b (.slice A n c)):Apart b (.slice A f c'):=by
 intro g d e;refine h g d ?_;cases A with
 |none=>simp[Value.ownBlock] at e
 |some a=>simpa [Value.ownBlock] using e
def PowFree.cut{a:Value}{us:List Value}(h:PowFree a (.slice A n c) us):PowFree a (.slice A d c') (us.take j):=
 ⟨h.1.same,fun u b=>h.2 u (lH b)⟩
def IE(j:Nat)(a:1<=j):nl (10^(19*j))<=j:=by
 refine cJ ?_;rw[azL];exact Nat.pow_lt_pow_left (by decide) (by omega)
def BQ(N:Nat):Prop:=∀(k B:Nat) (a:Value) (bs:List UInt8) (x b:Nat) (d c:Value) (us:List Value) (w:World),k<N->k<=36->us.length=k->GlobB B w->B<=w.1.size->TxtAt w B a bs->NatAt w d x->PowA w c us->Apart a d->PowFree a c us->
 nl x<=274877906944->bs.length+(dJ b x).length<=8796093022208->(b=0∨b=19*2^k)->
 Calls prog 159 #[a,d,.int .i64 b,c] w fun e w'=>∃v,e= .returned v∧TxtAt w' B v (bs++dJ b x)∧TxtTo w a w' v
def TB(N:Nat)(ih:BQ N):BQ (N+1):=by
 intro k B i r x a vx vp us w hN bi Z hG U ht C hp an ap bv hT hw;have bu:a<=(dJ a x).length:=by rw[cyI];omega
 have H:=dzL B i r x a vx w hG U ht C (by omega) (by omega) (by omega);have HP:=aB hp;have ai:=aB Z;obtain⟨A,c,av,hc,ho,T,hu⟩:=hp;rw[Z] at av hc T;subst av;by_cases q:k=0∨nl x<=30
 ·obtain⟨Ax,cx,ag,_,_,_⟩:=id C;subst ag;clear Z;rcases q with rfl|q
  ·go_enter func159,ntmps159;go_wp2_with fail;refine H.mono ?_;rintro e m ⟨v1,rfl,t,f⟩;go_wp2;go_ret;exact⟨_,rfl,t,f⟩
  ·have bq:(nl x:Int)<=30:=by omega
   by_cases a4:k=0
   ·subst a4;go_enter func159,ntmps159;go_wp2_with fail;refine H.mono ?_;rintro e m ⟨v1,rfl,t,f⟩;go_wp2;go_ret;exact⟨_,rfl,t,f⟩
   ·go_enter func159,ntmps159;go_wp2_with fail;refine H.mono ?_;rintro e m ⟨v1,rfl,t,f⟩;go_wp2;go_ret;exact⟨_,rfl,t,f⟩
 ·obtain⟨l,rfl⟩:∃l,k=l+1:=⟨k-1,by omega⟩;have br:¬(nl x:Int)<=30:=by omega
  obtain⟨b,J,rfl,au⟩:=T.resolve_left (by omega);obtain⟨u,G⟩:∃u,us[l]? =some u:=⟨_,aR (by omega)⟩;have g:=au l u G;have aq:=hu l u G;have am:Apart i u:=ap.2 u (dG G);have a8:=IE (2^l) (eQ (by decide));have a5:2^l<=2^36:=fT (by decide) (by omega);have bj:(2:Nat)^36=68719476736:=by decide
  obtain⟨S,bg,O,bc,bf⟩:=BC l (by omega);rw[<-O.out] at aq a8;have bm:nl (10^S)<=68719476736:=by omega
  have a0:0<10^S:=eQ (by decide);have ay:=aB (iD x (10^S));have a6:x%10^S<10^S:=dI _ a0;have bo:nl (x/10^S)<=nl x:=cK (azK _ _);have bp:nl (x%10^S)<=nl x:=cK (bxP _ _);have I:a=0∨a=S+S:=by
   rcases hw with h|h
   ·exact .inl h
   ·right;rw[h,dH,O.out];omega
  have al:Hid (x/10^S≠0∨S<=a->dJ a x=dJ (a-S) (x/10^S)++dJ S (x%10^S)):=by
   intro h;have:=GZ (w:=a) (hi:=x/10^S) (lo:=x%10^S) (d:=S) a6 h;rw[dN,iD] at this;exact this
  have a1:(10^S:Nat)≠0:=by omega
  generalize hQ:10^S=P at *;have HQ:=aB hQ;obtain⟨Ax,cx,ag,_,_,bn⟩:=id C;have HW:=aB hw;clear hQ hu au q G T a5 hw;subst ag;have ad:=ht.lt;have ao:=eqD x P _ _ _ C aq a1 (by unfold aJ;omega);go_enter func159,ntmps159;go_wp2_with fail;refine ao.mono ?_;rintro e m ⟨vq,K,rfl,hq,hr,fq,fr,y⟩;have a2:Apart i vq:=fun g o=>fq.ne2 (ad g o).2 (an g o) (am g o);have X:Apart i K:=fun g o=>fr.ne2 (ad g o).2 (an g o) (am g o);have V:GlobB B m:=hG.on (y.mono U);have E:B<=m.1.size:=aH U y.size;have ar:=ht.be y;have ab:=(HP.out.be y).cut ai.out (show l<=l+1 by omega);have Y:PowFree i (.slice (some ⟨b,J,none⟩) l c) (us.take l):=ap.cut;have ae:(us.take l).length=l:=by rw[bK];have:=ai.out;omega
  have af:TxtTo w i m i:=TxtTo.be y;have bk:l<=c:=by omega
  obtain⟨Aq,cq,ba,_,_,_⟩:=id hq;subst ba;have az:=aB hq;clear ao hq H C;have W:S=19*2^l:=O.out;have aw:(x/P≠0∨S<=a)->Calls prog 159 #[i,.slice Aq (nl (x/P)) cq,.int .i64 ((a-S:Nat):Int),.slice (some ⟨b,J,none⟩) l c] m (fun e D=>∃v,e= .returned v∧TxtAt D B v (r++dJ (a-S) (x/P))∧TxtTo m i D v):=by
   intro h;have q:=al.out h;have ac:=congrArg List.length q;rw[bN] at ac;exact ih l B i r (x/P) (a-S) _ _ (us.take l) m (by omega) (by omega) ae V E ar az.out ab a2 Y (by omega) (by omega) (by rcases I with h|h<;>omega)
  have ax:(x/P≠0∨S<=a)->∀j n,TxtAt n B j (r++dJ (a-S) (x/P))->TxtTo m i n j->Calls prog 159 #[j,K,.int .i64 S,.slice (some ⟨b,J,none⟩) l c] n (fun e D=>∃v,e= .returned v∧TxtAt D B v (r++dJ a x)∧TxtTo n j D v):=by
   intro h j n f z;have q:=al.out h;have ac:=congrArg List.length q;rw[bN] at ac;obtain⟨a9,a3⟩:=ab.txt z Y;have:=ih l B j (r++dJ (a-S) (x/P)) (x%P) S K _ (us.take l) n (by omega) (by omega) ae (V.on (z.belowB E (fun g o=>(ad g o).1))) (aH E z.1.size) f (hr.txt z X) a9 (z.apart X (fun g e=>hr.block e)) a3 (by omega) (by rw[bN];omega) (.inr W);rw[eK,<-q] at this;exact this
  have aj:=aB aw;have ak:=aB ax;have bb:=aB W;clear aw ax W;by_cases p:x/P=0
  ·have q0:((nl (x/P):Int)==0)=true:=by rw[p,dO];rfl
   rcases I with rfl|I
   ·have ah:x%P=x:=by have:=ay.out;rw[p] at this;omega
    have F:=ih l B i r (x%P) 0 K (.slice (some ⟨b,J,none⟩) l c) (us.take l) m (by omega) (by omega) ae V E ar hr ab X Y (by omega) (by rw[ah];exact hT) (.inl rfl);rw[ah] at F;simp only[Int.natCast_zero] at F;have HC:=aB F;clear F ah p;go_wp2_with fail;refine HC.out.mono ?_;rintro e n ⟨j,rfl,f,s⟩;go_wp2;go_ret;exact⟨_,rfl,f,af.trans s⟩
   ·have bt:((a:Int)==0)=false:=by simp;omega
    have bh:S<=a:=by omega
    clear I;have a7:max ((a:Int)-(S:Int)) 0=((a-S:Nat):Int):=by omega
    have L:=aB (aj.out (.inr (by omega)));have M:=aB (ak.out (.inr (by omega)));clear p;generalize a-S=w0 at *;go_wp2_with fail;refine L.out.mono ?_;rintro e n ⟨j,rfl,f,s⟩;go_wp2_with fail;refine(M.out j n f s).mono ?_;rintro e w3 ⟨v3,rfl,Q,R⟩;go_wp2;go_ret;exact⟨_,rfl,Q,(af.trans s).trans R⟩
  ·have q0:((nl (x/P):Int)==0)=false:=by have:=gS p;simp;omega
   have a7:max ((a:Int)-(S:Int)) 0=((a-S:Nat):Int):=by omega
   have L:=aB (aj.out (.inl p));have M:=aB (ak.out (.inl p));clear p;generalize a-S=w0 at *;go_wp2_with fail;refine L.out.mono ?_;rintro e n ⟨j,rfl,f,s⟩;go_wp2_with fail;refine(M.out j n f s).mono ?_;rintro e w3 ⟨v3,rfl,Q,R⟩;go_wp2;go_ret;exact⟨_,rfl,Q,(af.trans s).trans R⟩
def TC(N:Nat):BQ N:=by
 induction N with
 |zero=>intro k B c b x f e d us w h;omega
 |succ N a=>exact TB N a
def TD(B:Nat)(a:Value)(bs:List UInt8)(x:Nat)(c b:Value)(us:List Value)(w:World)(j:us.length<=36)(f:GlobB B w)(d:B<=w.1.size)(l:TxtAt w B a bs)(m:NatAt w c x)(k:PowA w b us)(h:Apart a c)(i:PowFree a b us)
  (n:nl x<=274877906944)(g:bs.length+(dJ 0 x).length<=8796093022208):
  Calls prog 159 #[a,c,.int .i64 0,b] w fun e w'=>∃v,e= .returned v∧TxtAt w' B v (bs++dJ 0 x)∧TxtTo w a w' v:=by
 have:=TC (us.length+1) us.length B a bs x 0 c b us w (aqC _) j rfl f d l m k h i n g (.inl rfl);simpa only[Int.natCast_zero] using this
def fqH(l:List UInt8):Lib.strCells ⟨l.toArray⟩=Lib.byteCells l:=by simp[Lib.strCells,Lib.byteCells]
def TA(B:Nat)(n:Value)(bs l:List UInt8)(w:World)(D:B<=w.1.size)(F:TxtAt w B n bs)(N:1<=l.length)(I:bs.length+l.length<=140737488355328):
  Apps w n l (fun f w'=>TxtAt w' B f (bs++l)∧TxtTo w n w' f):=by
 obtain⟨i,o,x,p,s⟩:=info_parts nF;refine⟨fun b h=> ?_,fun b a c h G=> ?_⟩
 ·have q:=F.be h;have v:(⟨l.toArray⟩:ByteArray).size=l.length:=by simp[ByteArray.size]
  obtain⟨f,w',m,t,y,_⟩:=Lib.run_append_own_string (P:=prog) b B 137 9 137 5 i underlying137 underlying9 o x p s n bs.length _ q ⟨l.toArray⟩ (by rw[v];unfold maxLen;omega) (by rw[v];exact I) (aH D h.size);rw[v,fqH] at t;have A:Go.Src prog i.size 9 (.string ⟨l.toArray⟩) l.length (Lib.byteCells l) b:=by
   have:=Go.Src.ofString (P:=prog) b underlying9 ⟨l.toArray⟩;rw[v] at this;rw[p];exact this
  have z:f.ownBlock=n.ownBlock∨f.ownBlock=some b.1.size:=by
   rcases q.2 with ⟨rfl,e⟩|⟨g,r,C,rfl,L,E,hn,k,M,O⟩
   ·have d:=run_append_grow_src (P:=prog) b 137 9 137 5 i _ underlying137 o x none 0 0 [] (run_firstCells_none b.drew i.size 0 0 0) _ _ _ A (by omega) (by omega) (by rw[s];exact growslice_fits (by omega) (by omega));rw[m] at d;injection d with h1 h2;right;rw[h1];rfl
   ·by_cases J:bs.length+l.length<=r
    ·have d:=run_append_room_src (P:=prog) b 137 9 137 5 i underlying137 o g 0 bs.length r _ _ _ A J
      (fun j H=>by
       rw[Lib.byteCells_length] at H;rw[p,cell_of_row b g _ C _ (0,0) E];simp;omega) (fun j _=>frozen_of_row b g _ C _ E)
     rw[m] at d;injection d with h1 h2;left;rw[h1];rfl
    ·have d:=run_append_grow_src (P:=prog) b 137 9 137 5 i _ underlying137 o x (some ⟨g,0,none⟩) bs.length r (Lib.byteCells bs)
      (run_firstCells_some b.drew i.size bs.length ⟨g,0,none⟩ bs.length r (Lib.byteCells bs) (by rw[Lib.byteCells_length,p,az9]) (fun j u K=>by
       have:=World.ownsRow.cells q (g:=g) rfl j u K;simpa using this)) _ _ _ A (by omega) (by omega) (by rw[s];exact growslice_fits (by omega) (by omega))
     rw[m] at d;injection d with h1 h2;right;rw[h1];rfl
  have k:=TxtAt.more' (w:=b) (bs:=bs) (l:=l) t y z;exact⟨f,w',m,k.1,(TxtTo.be h).trans k.2⟩
 ·have q:=F.be h;obtain⟨f,w',m,t,y,_,z⟩:=run_append_own_at (P:=prog) b B 137 137 5 i _ 1 1 underlying137 o x p s rfl (by decide) n bs.length _ q a l.length c (Lib.byteCells l) (by rw[Lib.byteCells_length,az9]) G (IM l) (by unfold maxLen;omega) (by omega) (aH D h.size);have k:=TxtAt.more' (w:=b) (bs:=bs) (l:=l) t y z;exact⟨f,w',m,k.1,(TxtTo.be h).trans k.2⟩
def OwnP.powA{us:List Value}(h:OwnP w B v us):PowA w v us:=by
 obtain⟨⟨_,j⟩,b⟩:=h;rcases j with ⟨rfl,e⟩|⟨g,d,f,rfl,l,c,hn,m,n,k⟩
 ·exact⟨none,0,by rw[e],by omega,Old.none,.inl e,fun i u a=>(b i u a).1⟩
 ·refine⟨_,d,rfl,hn,Old.mk (Array.getElem?_eq_some_iff.1 c).1,.inr ⟨g,0,rfl,?_⟩,fun i u a=>(b i u a).1⟩;intro i u a;rw[cell_of_row w g (0+i) f _ (0,0) c,bA,<-Array.getElem?_toList];rw[<-k,fC] at a;split at a
  ·exact a
  ·cases a
def ID(B:Nat)(j:Value)(bs:List UInt8)(x:Nat)(T:Value)(w:World)(hG:GlobB B w)(F:B<=w.1.size)(D:TxtAt w B j bs)(hx:NatAt w T x)(a0:Apart j T)(bx:nl x<=4294967296)(bk:bs.length<=4398046511104):
  Calls prog 127 #[j,T] w fun e w'=>∃v,e= .returned v∧TxtAt w' B v (bs++Lib.decDigits x)∧TxtTo w j w' v:=by
 have HX:=aB hx;obtain⟨A,c,bi,hc,ba,bt⟩:=hx;subst bi;by_cases E:nl x=0
 ·obtain rfl:=p9 E;have q0:((nl 0:Int)==0)=true:=by rw[dO];rfl
  have bb:w.ownsRow B 5 1 j bs.length (Lib.byteCells bs):=D;go_enter func127,ntmps127;go_wp2_with (at_builtin;refine gM rfl rfl 5 _ 1 1 underlying137 nF rfl (by decide) B j bs.length _ rfl (bb.alloc _) [Value.int .u8 48] rfl (by simp) (F9 _ _ _) (by simp[Value.oneCell']) (by omega) (by omega) (by simp;omega) ?_;intro S w6 N J G);have n:=TxtAt.more (bs:=bs) (l:=[48]) N J G;have a2:Lib.decDigits 0=[48]:=by rw[Lib.decDigits_one (by decide)];rfl
  go_wp2;go_ret;exact⟨_,rfl,by rw[a2];exact n.1,n.2⟩
 ·have q0:((nl x:Int)==0)=false:=by simp;omega
  have au:x≠0:=by intro h;subst h;exact E dO
  by_cases o:nl x=1
  ·have S:((nl x:Int)==1)=true:=by simp;omega
   have R:x<BN:=by have:=cyD x;rw[o,bxG] at this;exact this
   obtain⟨b,bz,rfl,hb,af⟩:=ba.at_ (by rw[aK];omega);have g0:=af 0 (by rw[aK];omega);rw[pC au R] at g0;simp only[gQ,byM] at g0;have ad:=TA B j bs (Lib.decDigits x) w F D (by rw[Lib.decDigits_length];exact Lib.nDigits_pos x) (by have:=wT R;omega);have az:=IN j x w _ R hG.here ad;have i0:(0:Int)<(nl x:Int):=by omega
   clear ad af E o;go_enter func127,ntmps127;go_wp2_with fail;refine az.mono ?_;rintro e w1 ⟨v1,rfl,s,t⟩;go_wp2;go_ret;exact⟨_,rfl,s,t⟩
  ·have S:((nl x:Int)==1)=false:=by simp;omega
   have ao:dJ 0 x=Lib.decDigits x:=SN au;have hT:bs.length+(dJ 0 x).length<=8796093022208:=by
    have:=IJ 0 x;omega
   have aw:=aB ao;have HT:=aB hT;have ar:=D.lt;clear ao hT;have ak:NatAt (w.alloc (.cells #[.int .u64 10000000000000000000] 143)) (.slice (some ⟨w.1.size,0,none⟩) 1 1) (10^(19*2^([]:List Value).length)):=eqE w 10000000000000000000 (by decide) (by decide) 143;have ab:OwnP ((w.alloc (.cells #[.int .u64 10000000000000000000] 143)).alloc (.cells #[.slice (some ⟨w.1.size,0,none⟩) 1 1] 75)) w.1.size (.slice (some ⟨w.1.size+1,0,none⟩) 1 1) [.slice (some ⟨w.1.size,0,none⟩) 1 1]:=by
    refine⟨⟨rfl,.inr ⟨w.1.size+1,1,#[.slice (some ⟨w.1.size,0,none⟩) 1 1],rfl,by omega,?_,aE,by decide,rfl,rfl⟩⟩,?_⟩
    ·have:=heap_alloc_new (w.alloc (.cells #[.int .u64 10000000000000000000] 143)) (.cells #[.slice (some ⟨w.1.size,0,none⟩) 1 1] 75);simpa using this
    ·intro i u d;match i,d with
     |0,d=>
      simp at d;subst d;refine⟨ak.be ((aG _ _).alloc aE _),?_⟩;intro g e1 e2;simp[Value.ownBlock] at e1 e2;omega
   have ae:Below w.1.size w ((w.alloc (.cells #[.int .u64 10000000000000000000] 143)).alloc (.cells #[.slice (some ⟨w.1.size,0,none⟩) 1 1] 75)):=((aG _ _).alloc aE _).alloc (by simp) _;clear ak;go_enter func127,ntmps127;go_wp2_with fail;go_loopg [5] 40 (fun k q wr=>∃us,Hid (us.length+k=41)∧1<=us.length∧Hid (2^(us.length-1)<=4294967296*2)∧OwnP wr w.1.size q us∧(∀u∈us,∀g,u.ownBlock=some g->w.1.size<=g)∧Below w.1.size w wr)
   case atStart=>
    refine⟨[.slice (some ⟨w.1.size,0,none⟩) 1 1],rfl,by simp,by unfold Hid;simp,ab,?_,ae⟩;intro u d g e;rw[by4] at d;subst d;simp[Value.ownBlock] at e;omega
   case round=>
    obtain⟨us,HK,bp,V,y,P,f⟩:=hrel;clear ab ae;have bq:us.length<=34:=by
     rcases dE 34 us.length with h|h
     ·exfalso;have s:2^34<=2^(us.length-1):=fT (by decide) (by omega);have t:=V.out;have h4:(2:Nat)^34=17179869184:=by decide
      omega
     ·exact h
    have HP:=aB y;have an:=y.powA;obtain⟨u,d⟩:∃u,us[us.length-1]? =some u:=⟨_,aR (by omega)⟩;obtain⟨M,al⟩:=y.2 _ _ d;have bg:u∈us:=dG d;have ah:PowFree j u5 us:=by
     refine⟨fun g I e=> ?_,fun C z g I e=> ?_⟩
     ·have:=(ar g I).2;have:=(World.ownsRow.lt y.1 g e).1;omega
     ·have:=(ar g I).2;have:=P C z g e;omega
    have O:=TD B j bs x _ _ us wr (by omega) (hG.on (f.mono F)) (aH F f.size) (D.be f) (HX.out.be f) an a0 ah (by omega) HT.out;rw[aw.out] at O;rcases y.1.2 with ⟨_,e⟩|⟨g,Y,Z,rfl,hb,L,hn,n,hs,aq⟩
    ·omega
    have gc:wr.cell? ⟨g,us.length-1,none⟩=some u:=by
     rw[cell_of_row wr g _ Z _ (0,0) L,<-Array.getElem?_toList];have o:(Z.toList.take (us.length*1))[us.length-1]? =us[us.length-1]? :=by rw[aq]
     rw[fC,if_pos (by omega)] at o;rw[o];exact d
    have a6:g<wr.1.size:=(Array.getElem?_eq_some_iff.1 L).1;have am:dL^2^(us.length-1)<=10^(19*2^(us.length-1)):=by rw[ezM,<-azL];exact aE
    have aj:=IH am;have ap:10^(19*2^(us.length-1))*10^(19*2^(us.length-1))=10^(19*2^us.length):=by
     rw[<-KF];congr 1;obtain⟨m,n⟩:∃m,us.length=m+1:=⟨us.length-1,by omega⟩;rw[n,mD,dH];omega
    have ax:=aB ap;have a8:=IE (2^(us.length-1)) (eQ (by decide));have bj:nl (10^(19*2^(us.length-1)))<=8589934592:=by have:=V.out;omega
    have av:=aB aj;have HU:=aB d;have W:=aB O;clear hs L y ap a8 aq am aj d O an ah;obtain⟨Au,cu,bc,bn,_,_⟩:=id M;subst bc;generalize 10^(19*2^(us.length-1))=X at *;have i0:(0:Int)<=(us.length:Int)-1:=by omega
    by_cases K:30<nl x∧2*nl X<=nl x
    ·obtain⟨J,a5⟩:=K;have a4:(30:Int)<(nl x:Int):=by omega
     have bo:2*(nl X:Int)<=(nl x:Int):=by omega
     go_wp2_with fail;refine(qN X X _ _ _ M M (by unfold aJ;omega)).mono ?_;rintro e U ⟨v2,rfl,Q,ag,H⟩;obtain⟨p,r,rfl,bm,bu,br⟩:=id Q;have bh:NatAt U (Value.slice p (nl (X*X)) r) (10^(19*2^us.length)):=by rw[<-ax.out];exact Q
     have a7:∀a,(Value.slice (some ⟨g,0,none⟩) us.length Y).ownBlock=some a->(Value.slice p (nl (X*X)) r).ownBlock≠some a:=by
      intro a e;have:g=a:=by simpa [Value.ownBlock] using e
      subst this;exact ag.ne2 a6 (al _ rfl) (al _ rfl)
     have bf:∀a,(Value.slice p (nl (X*X)) r).ownBlock=some a->w.1.size<=a:=by
      intro a e;rcases dE a wr.1.size with h|h
      ·obtain⟨C,z,a3⟩:=ag a e h;have:C=Value.slice Au (nl X) cu:=by simpa using z
       subst this;exact P _ bg a a3
      ·exact aH f.size h
     have ac:=HP.out.belowE H;have a9:=Q.oneCell;have bv:=f.size;have bw:=H.size;go_wp2_with (at_builtin;refine gM rfl rfl 75 _ 1 24 underlying203 BE rfl (by decide) w.1.size (.slice (some ⟨g,0,none⟩) us.length Y) us.length us rfl (ac.1.alloc _) [Value.slice p (nl (X*X)) r] rfl (by simp) (F9 _ _ _) a9 (by omega) (by omega) (by simp;omega) ?_;intro S w3 N ai G);have ay:=OwnP.push ac bh a7 N ai G
     have a1:Below w.1.size w w3:=((aC f H).alloc (by omega) _).grown ai (by simp;omega) (fun k hk=>by
      have:g=k:=by simpa [Value.ownBlock] using hk
      omega)
     go_wp2;go_roundg (41-(us++[Value.slice p (nl (X*X)) r]).length)
     case measure=>have:=HK.out;simp;omega
     case rel=>
      refine⟨us++[Value.slice p (nl (X*X)) r],by unfold Hid;simp;omega,by simp,?_,ay,?_,a1⟩
      ·unfold Hid;rw[bN,iJ,mD];obtain⟨m,n⟩:∃m,us.length=m+1:=⟨us.length-1,by omega⟩;have o:=av.out;rw[n,mD] at o;rw[n,dH];omega
      ·intro C z a e';rcases List.mem_append.1 z with h|h
       ·exact P C h a e'
       ·rw[by4] at h;subst h;exact bf a e'
    ·by_cases J:30<nl x
     ·have a5:¬2*(nl X:Int)<=(nl x:Int):=by omega
      clear K;go_wp2_with fail;refine W.out.mono ?_;rintro e U ⟨v2,rfl,s,t⟩;go_wp2;go_ret;exact⟨_,rfl,s,(TxtTo.be f).trans t⟩
     ·have a4:¬(30:Int)<(nl x:Int):=by omega
      clear K;go_wp2_with fail;refine W.out.mono ?_;rintro e U ⟨v2,rfl,s,t⟩;go_wp2;go_ret;exact⟨_,rfl,s,(TxtTo.be f).trans t⟩
def iP(x:Int):List UInt8:=(if x<0 then [45] else [])++Lib.decDigits x.natAbs
def TxtAt.nil(w:World)(B:Nat):TxtAt w B (.slice none 0 0) []:=World.ownsRow_nil w B _ _
def TxtAt.str(h:TxtAt w B v bs):(convert 137 9 v).run prog w= .ok (.string ⟨bs.toArray⟩) w:=by
 rcases id h.2 with ⟨rfl,e⟩|⟨g,a,c,rfl,_⟩
 ·have:bs=[]:=bX e;subst this;rw[run_convert_bytes_string w 137 9 5 none 0 0 underlying137 underlying5 underlying9];rfl
 ·refine run_convert_bytes_back (P:=prog) w 137 9 5 ⟨g,0,none⟩ a bs underlying137 underlying5 underlying9 (fun j b=> ?_);refine World.ownsRow.cells h (by simp[Value.ownBlock]) j _ ?_;simp[Lib.byteCells,b]
def Apart.nil(v:Value):Apart (.slice none 0 0) v:=fun g h=>by simp[Value.ownBlock] at h
def BP(B:Nat)(a:Value)(bs:List UInt8)(x:Int)(s:Bool)(A:Option Addr)(k c:Nat)(w:World)(I:GlobB B w)(C:B<=w.1.size)(r:TxtAt w B a bs)(y:IntAt w (.agg #[.bool s,.slice A k c]) x)
  (o:Apart a (.slice A k c))(G:nl x.natAbs<=4294967296)(T:bs.length<=4398046511103):
  Calls prog 83 #[.agg #[.bool s,.slice A k c],a] w fun e w'=>∃v,e= .returned v∧TxtAt w' B v (bs++iP x)∧TxtTo w a w' v:=by
 have m:=y.neg;have J:∀g,(Value.slice A k c).ownBlock=some g->g<w.1.size:=fun g e=>y.words.block e;have i:Bx (w.alloc (.cells #[.bool s,.slice A k c] 77)) (w.1.size) [.bool s,.slice A k c] 77:=Bx.newAt w [.bool s,.slice A k c] 77 (w.1.size) (by simp);have f:Below w.1.size w (w.alloc (.cells #[.bool s,.slice A k c] 77)):=(aG _ _).alloc (by simp) _;have F:=y.words.be f;have t:=r.be f;have E:=fun g e=>(r.lt g e).1;have p:TxtTo w a (w.alloc (.cells #[.bool s,.slice A k c] 77)) a:=TxtTo.be f;have D:=I.on (p.belowB C E);have n:B<=(w.alloc (.cells #[.bool s,.slice A k c] 77)).1.size:=aH C f.size;have K:∀g,(Value.slice A k c).ownBlock=some g->g<(w.alloc (.cells #[.bool s,.slice A k c] 77)).1.size:=fun g e=>aZ (J g e) f.size;by_cases d:x<0
 ·have q:s=true:=by rw[m];simpa using d
  have h:iP x=[45]++Lib.decDigits x.natAbs:=by unfold iP;rw[if_pos d]
  rw[h];clear h d m;subst q;unfold TxtAt at t;go_enter func83,ntmps83;go_wp2_with (at_builtin;(refine gM rfl rfl 5 _ 1 1 underlying137 nF rfl (by decide) B a bs.length _ rfl (t.alloc _) [Value.int .u8 45] rfl (by simp) (FG _ _ _ _ (by simp)) (by simp[Value.oneCell']) (by omega) (by omega) (by simp;omega) ?_);intro P H O N M;have b:=TxtAt.more (bs:=bs) (l:=[45]) O N M;have i:Bx H w.1.size [.bool true,.slice A k c] 77:=(b.2.1.block _ i.lt (fun e=>by have:=r.lt _ e.symm;omega)).trans i;have S:=i.cell 1 rfl);refine(ID B P (bs++[45]) x.natAbs (.slice A k c) H (D.on (b.2.belowB n E)) (aH n b.2.1.size) b.1 (F.txt b.2 o) (b.2.apart o K) G (by simp;omega)).mono ?_;rintro e R ⟨Q,rfl,j,z⟩;rw[eK] at j;have u:=p.trans (b.2.trans z);go_wp2;go_ret;exact⟨_,rfl,j,u⟩
 ·have q:s=false:=by rw[m];simpa using d
  have h:iP x=Lib.decDigits x.natAbs:=by unfold iP;rw[if_neg d];rfl
  rw[h];clear h d m;subst q;have L:=ID B a bs x.natAbs (.slice A k c) _ D n t F o G (by omega);go_enter func83,ntmps83;go_wp2_with fail;refine L.mono ?_;rintro e R ⟨Q,rfl,j,z⟩;have u:=p.trans z;go_wp2;go_ret;exact⟨_,rfl,j,u⟩
def fqG(x:Int)(i:Value)(w:World)(k:Glob w)(h:IntAt w i x)(n:nl x.natAbs<=4294967296):
  Calls prog 82 #[i] w fun e w'=>e= .returned (.string ⟨(iP x).toArray⟩)∧Below w.1.size w w':=by
 obtain⟨d,a,c,b,rfl⟩:=h.form;have p:Bx (w.alloc (.cells #[.bool d,.slice a c b] 77)) (w.1.size) [.bool d,.slice a c b] 77:=Bx.newAt w [.bool d,.slice a c b] 77 (w.1.size) (by simp);have f:Below w.1.size w (w.alloc (.cells #[.bool d,.slice a c b] 77)):=(aG _ _).alloc (by simp) _;go_enter func82,ntmps82;go_wp2_with fail;generalize w.alloc (.cells #[.bool d,.slice a c b] 77)=W at *;have h:=h.be f;refine(BP W.1.size (.slice none 0 0) [] x d a c b W (k.be f).globB aE (TxtAt.nil _ _) h (Apart.nil _) n (by simp)).mono ?_;rintro e r ⟨q,rfl,j,o⟩;have m:=j.str;rw[iM] at m;have l:=f.trans ((o.belowB aE (fun g e=>by simp[Value.ownBlock] at e)).mono f.size);go_wp2;go_ret;exact⟨rfl,l⟩
def wV{α:Type}{p:α->Bool}{l:List α}(h:∀c∈l.take k,p c=true)(d:l.length<=k∨∃c,l[k]? =some c∧p c=false):l.takeWhile p=l.take k∧l.dropWhile p=l.drop k:=by
 induction l generalizing k with
 |nil=>simp
 |cons a l j=>
  cases k with
  |zero=>
   rcases d with d|⟨c,b,e⟩
   ·simp at d
   ·simp at b;subst b;simp[e]
  |succ k=>
   have i:p a=true:=h a (by simp)
   obtain⟨f,g⟩:=j (k:=k) (fun c b=>h c (by simp[b])) (by
    rcases d with d|⟨c,b,e⟩
    ·left;simpa using d
    ·right;exact⟨c,by simpa using b,e⟩)
   simp[i,f,g]
def rX{t:ByteArray}(h:t.data.toList=l):t=⟨l.toArray⟩:=by
 subst h;cases t;rfl
def UA(s:ByteArray)(w:World)(B:s.size<=1099511627776):
  Calls prog 134 #[.string s] w fun e w'=>∃t u m,e= .returned (.tuple #[.string t,.string u])∧t.data.toList=s.data.toList.takeWhile bO∧u.data.toList=s.data.toList.dropWhile bO∧w'=w.drewN m:=by
 have C:s.data.toList.length=s.size:=by simp
 go_enter func134,ntmps134;go_wp2_with fail;go_loop [4] (fun i=>∃k:Nat,k<=s.size∧i= .int .i64 k∧∀c∈s.data.toList.take k,bO c=true) (fun i=>s.size-(intOf i).toNat)
 case atStart=>exact⟨0,by omega,rfl,by simp⟩
 case round=>
  obtain⟨k,z,rfl,f⟩:=hrel;have A:(k:Int)<=(s.size:Int):=by omega
  have y:(0:Int)<=(k:Int):=by omega
  by_cases x:k<s.size
  ·have D:(k:Int)<(s.size:Int):=by omega
   have o:s.data.toList[k]? =some s[k]:=by rw[aR (by simpa using x)];rfl
   have g:=aB o;clear o;by_cases b:bO s[k]=true
   ·obtain⟨j,r⟩:48<=s[k].toNat∧s[k].toNat<=57:=by simpa [bO] using b
    have n:(48:Int)<=(s[k].toNat:Int):=by omega
    have v:(s[k].toNat:Int)<=57:=by omega
    have q:=aB b;clear b;go_wp2_with fail;go_round
    case rel=>
     refine⟨k+1,by omega,by simp,fun c a=> ?_⟩;rw[Q9,g.out] at a;rcases List.mem_append.1 a with a|a
     ·exact f c a
     ·simp at a;subst a;exact q.out
    case measure=>simp[intOf];omega
   ·have d:=wV (p:=bO) (l:=s.data.toList) f (.inr ⟨_,g.out,by simpa using b⟩);by_cases j:48<=s[k].toNat
    ·have r:¬s[k].toNat<=57:=fun h=>b (by simp[bO,j,h]);have n:(48:Int)<=(s[k].toNat:Int):=by omega
     have v:¬(s[k].toNat:Int)<=57:=by omega
     clear b;go_wp2_with fail;go_quiet (fail);go_wp2;go_ret2;exact⟨_,_,_,rfl,by rw[d.1,mP,azZ],by rw[d.2,mP,cZ (by omega)],rfl⟩
    ·have n:¬(48:Int)<=(s[k].toNat:Int):=by omega
     clear b;go_wp2_with fail;go_quiet (fail);go_wp2;go_ret2;exact⟨_,_,_,rfl,by rw[d.1,mP,azZ],by rw[d.2,mP,cZ (by omega)],rfl⟩
  ·obtain rfl:k=s.size:=by omega
   have d:=wV (p:=bO) (l:=s.data.toList) f (.inl (by omega));go_wp2_with fail;go_quiet (fail);go_wp2;go_ret2;exact⟨_,_,_,rfl,by rw[d.1,cZ (by omega)],by rw[d.2,gO (by omega)];rfl,rfl⟩
def IT(l:List UInt8)(w:World)(d:l.length<=1099511627776):
  Calls prog 134 #[.string ⟨l.toArray⟩] w fun e w'=>e= .returned (.tuple #[.string ⟨(l.takeWhile bO).toArray⟩,.string ⟨(l.dropWhile bO).toArray⟩])∧∃m,w'=w.drewN m:=by
 refine(UA ⟨l.toArray⟩ w (by simpa [ByteArray.size] using d)).mono ?_;rintro e w' ⟨t,u,m,rfl,a,b,c⟩;rw[rX a,rX b];exact⟨rfl,m,c⟩
def IS(h:∃m,w'=w.drewN m):Below w.1.size w w':=by
 obtain⟨m,rfl⟩:=h;exact kI (aG _ _) m
def TZ(l:List UInt8):Lib.hasPrefix l [45]=(l.head?==some 45)∧Lib.trimPrefix l [45]=if (l.head?==some 45)=true then l.tail else l:=by
 have h:Lib.hasPrefix l [45]=(l.head?==some 45):=by
  unfold Lib.hasPrefix;cases l with
  |nil=>rfl
  |cons a m=>
   show([45]:List UInt8).isPrefixOf (a :: m)=(some a==some 45)
   rw[List.isPrefixOf];simp only[List.isPrefixOf,Bool.and_true];by_cases e:a=45
   ·subst e;rfl
   ·have b:((45:UInt8)==a)=false:=by simpa using fun h=>e h.symm
    have c:(some a==some (45:UInt8))=false:=by simpa using e
    rw[b,c]
 refine⟨h,?_⟩;unfold Lib.trimPrefix;rw[h];simp
def oM(a:Bool)(n t:List UInt8):Option (Bool×List UInt8×List UInt8):=
 if n=[48] then (if a=false∧t=[] then some (a,n,[]) else none)
 else if n=[]∨n.head?=some 48 then none
 else if t=[] then some (a,n,[])
 else if t.head?≠some 47 then none
 else if t.tail.dropWhile bO=[]∧t.tail.takeWhile bO≠[]∧(t.tail.takeWhile bO).head?≠some 48∧t.tail.takeWhile bO≠[49] then some (a,n,t.tail.takeWhile bO) else none
def U4(l:List UInt8):iA l=oM (l.head?==some 45) ((if (l.head?==some 45)=true then l.tail else l).takeWhile bO) ((if (l.head?==some 45)=true then l.tail else l).dropWhile bO):=rfl
def U9(l:List UInt8)(w:World)(hl:l.length<=1099511627776):
  Calls prog 94 #[.string ⟨l.toArray⟩] w fun e w'=>∃ac n d S,e= .returned (.tuple #[.agg #[.bool ac,.string ⟨n.toArray⟩,.string ⟨d.toArray⟩],.bool S])∧(S=true->iA l=some (ac,n,d))∧(S=false->iA l=none)∧Below w.1.size w w':=by
 have Q:=fun W=>Tryz.strings_CutPrefix ⟨l.toArray⟩ ⟨#[45]⟩ W;obtain⟨p1,p2⟩:=TZ l;have j:=aB (U4 l);have aj:(if (l.head?==some 45)=true then l.tail else l).length<=l.length:=by split<;>simp
 simp only[p1,p2] at Q;generalize (l.head?==some 45)=q at *;generalize (if q=true then l.tail else l)=r at *;have X:=fun W=>IT r W (by omega);obtain⟨W,T,c,R,F⟩:=DA w [.bool false,.string ⟨#[]⟩,.string ⟨#[]⟩] 150 [.bool false,.string ⟨#[]⟩,.string ⟨#[]⟩] 150;have s:=aa R.g3 F.g3;go_enter func94,ntmps94;go_wp2_with fail;(try rw[T]);clear T;refine(Q _).mono ?_;rintro e1 w1 ⟨rfl,rfl⟩;clear Q p1 p2;replace s:=aa R.g3 F.g3;go_wp2_with fail;obtain⟨w2,U,F,c,k,f⟩:=F.put1 c (by omega) 0 (.bool q) rfl;replace R:=f R (by omega);rw[U];clear U;replace s:=aa R.g3 F.g3;refine(X _).mono ?_;rintro e3 w3 ⟨rfl,Z⟩;have N:=IS Z;clear Z X;replace R:=R.be N;replace F:=F.be N;replace s:=aa R.g3 F.g3;replace c:=aC c N;have ag:(r.dropWhile bO).length<=r.length:=by
  have:=congrArg List.length (bzT (p:=bO) (l:=r));rw[bN] at this;omega
 generalize r.takeWhile bO=n at *;generalize r.dropWhile bO=t at *;by_cases y:n=[48]
 ·have q1:(n==[48])=true:=by rw[y];rfl
  cases q with
  |true=>
   have i:iA l=none:=by rw[j.out,oM,if_pos y,if_neg (by simp)]
   have o:=aB i;clear j i y;go_wp2_with fail;obtain⟨I,x,F,c,k,f⟩:=F.put1 c (by omega) 1 (.string ⟨n.toArray⟩) rfl;replace R:=f R (by omega);obtain⟨C,g,R,c,k,f⟩:=R.put3 c (by omega) (.bool true) (.string ⟨n.toArray⟩) (.string ⟨#[]⟩) rfl rfl;replace F:=f F (by omega);rw[x,g];clear x g;replace s:=aa R.k3 F.k3;exact aM (v:= .tuple #[.agg #[.bool true,.string ⟨n.toArray⟩,.string ⟨#[]⟩],.bool false]) (by simp[results,results94,go_sem,R.k3]) rfl ⟨_,_,_,_,rfl,(fun h=>by cases h),(fun _=>o.out),c⟩
  |false=>
   by_cases z:t=[]
   ·have i:iA l=some (false,n,[]):=by rw[j.out,oM,if_pos y,if_pos ⟨rfl,z⟩]
    have o:=aB i;have q2:(t==[])=true:=by rw[z];rfl
    clear j i y z;go_wp2_with fail;obtain⟨I,x,F,c,k,f⟩:=F.put1 c (by omega) 1 (.string ⟨n.toArray⟩) rfl;replace R:=f R (by omega);obtain⟨C,g,R,c,k,f⟩:=R.put3 c (by omega) (.bool false) (.string ⟨n.toArray⟩) (.string ⟨#[]⟩) rfl rfl;replace F:=f F (by omega);rw[x,g];clear x g;replace s:=aa R.k3 F.k3;exact aM (v:= .tuple #[.agg #[.bool false,.string ⟨n.toArray⟩,.string ⟨#[]⟩],.bool true]) (by simp[results,results94,go_sem,R.k3]) rfl ⟨_,_,_,_,rfl,(fun _=>o.out),(fun h=>by cases h),c⟩
   ·have i:iA l=none:=by rw[j.out,oM,if_pos y,if_neg (fun h=>z h.2)]
    have o:=aB i;have q2:(t==[])=false:=by simpa using z
    clear j i y z;go_wp2_with fail;obtain⟨I,x,F,c,k,f⟩:=F.put1 c (by omega) 1 (.string ⟨n.toArray⟩) rfl;replace R:=f R (by omega);obtain⟨C,g,R,c,k,f⟩:=R.put3 c (by omega) (.bool false) (.string ⟨n.toArray⟩) (.string ⟨#[]⟩) rfl rfl;replace F:=f F (by omega);rw[x,g];clear x g;replace s:=aa R.k3 F.k3;exact aM (v:= .tuple #[.agg #[.bool false,.string ⟨n.toArray⟩,.string ⟨#[]⟩],.bool false]) (by simp[results,results94,go_sem,R.k3]) rfl ⟨_,_,_,_,rfl,(fun h=>by cases h),(fun _=>o.out),c⟩
 ·have q1:(n==[48])=false:=by simpa using y
  cases n with
  |nil=>
   have i:iA l=none:=by rw[j.out,oM,if_neg y,if_pos (.inl rfl)]
   have o:=aB i;clear j i y;go_wp2_with fail;obtain⟨I,x,F,c,k,f⟩:=F.put1 c (by omega) 1 (.string ⟨#[]⟩) rfl;replace R:=f R (by omega);obtain⟨C,g,R,c,k,f⟩:=R.put3 c (by omega) (.bool q) (.string ⟨#[]⟩) (.string ⟨#[]⟩) rfl rfl;replace F:=f F (by omega);rw[x,g];clear x g;replace s:=aa R.k3 F.k3;exact aM (v:= .tuple #[.agg #[.bool q,.string ⟨#[]⟩,.string ⟨#[]⟩],.bool false]) (by simp[results,results94,go_sem,R.k3]) rfl ⟨_,_,_,_,rfl,(fun h=>by cases h),(fun _=>o.out),c⟩
  |cons a m=>
   have ah:∀h,({ data:=(a :: m).toArray }:ByteArray)[0]'h=a:=fun _=>rfl;by_cases K:a=48
   ·have i:iA l=none:=by rw[j.out,oM,if_neg y,if_pos (.inr (by rw[K];rfl))]
    have o:=aB i;clear j i y;subst K;go_wp2_with fail;obtain⟨I,x,F,c,k,f⟩:=F.put1 c (by omega) 1 (.string ⟨(48 :: m).toArray⟩) rfl;replace R:=f R (by omega);obtain⟨C,g,R,c,k,f⟩:=R.put3 c (by omega) (.bool q) (.string ⟨(48 :: m).toArray⟩) (.string ⟨#[]⟩) rfl rfl;replace F:=f F (by omega);rw[x,g];clear x g;replace s:=aa R.k3 F.k3;exact aM (v:= .tuple #[.agg #[.bool q,.string ⟨(48 :: m).toArray⟩,.string ⟨#[]⟩],.bool false]) (by simp[results,results94,go_sem,R.k3]) rfl ⟨_,_,_,_,rfl,(fun h=>by cases h),(fun _=>o.out),c⟩
   ·have qa:((a.toNat:Int)==48)=false:=by
     have:a.toNat≠48:=fun e=>K (UInt8.toNat_inj.1 e);simp;omega
    have J:¬((a :: m)=[]∨(a :: m).head?=some 48):=by simp[K]
    by_cases z:t=[]
    ·have i:iA l=some (q,a :: m,[]):=by rw[j.out,oM,if_neg y,if_neg J,if_pos z]
     have o:=aB i;have q2:(t==[])=true:=by rw[z];rfl
     clear j i y z;go_wp2_with fail;obtain⟨I,x,F,c,k,f⟩:=F.put1 c (by omega) 1 (.string ⟨(a :: m).toArray⟩) rfl;replace R:=f R (by omega);obtain⟨C,g,R,c,k,f⟩:=R.put3 c (by omega) (.bool q) (.string ⟨(a :: m).toArray⟩) (.string ⟨#[]⟩) rfl rfl;replace F:=f F (by omega);rw[x,g];clear x g;replace s:=aa R.k3 F.k3;exact aM (v:= .tuple #[.agg #[.bool q,.string ⟨(a :: m).toArray⟩,.string ⟨#[]⟩],.bool true]) (by simp[results,results94,go_sem,R.k3]) rfl ⟨_,_,_,_,rfl,(fun _=>o.out),(fun h=>by cases h),c⟩
    ·obtain⟨b,D,rfl⟩:∃b D,t=b :: D:=by
      cases t with
      |nil=>exact absurd rfl z
      |cons b D=>exact⟨b,D,rfl⟩
     have ae:∀h,({ data:=(b :: D).toArray }:ByteArray)[0]'h=b:=fun _=>rfl;by_cases O:b=47
     ·subst O;rw[oM,if_neg y,if_neg J,if_neg z,if_neg (by simp),List.tail_cons] at j;clear y J z;have ad:({ data:=(47 :: D).toArray }:ByteArray).extract 1 (D.length+1)=⟨D.toArray⟩:=rX (by rw[mP];simp);have Y:=fun W=>IT D W (by simp at ag;omega);generalize D.takeWhile bO=d at *;generalize D.dropWhile bO=u at *;go_wp2_with fail;obtain⟨w4,V,F,c,k,f⟩:=F.put1 c (by omega) 1 (.string ⟨(a :: m).toArray⟩) rfl;replace R:=f R (by omega);rw[V];clear V;replace s:=aa R.g3 F.g3;refine(Y _).mono ?_;rintro e5 w5 ⟨rfl,ab⟩;have P:=IS ab;clear ab Y ad ae;replace R:=R.be P;replace F:=F.be P;replace s:=aa R.g3 F.g3;replace c:=aC c P;by_cases E:u=[]
      ·have q3:(u==[])=true:=by rw[E];rfl
       cases d with
       |nil=>
        have i:iA l=none:=by rw[j.out,if_neg (by simp)]
        have o:=aB i;clear j i E;go_wp2_with fail;obtain⟨M,B,F,c,k,f⟩:=F.put1 c (by omega) 2 (.string ⟨#[]⟩) rfl;replace R:=f R (by omega);rw[B];clear B;replace s:=aa R.g3 F.g3;go_region;all_goals (go_wp2_with fail)
        obtain⟨C,g,R,c,k,f⟩:=R.put3 c (by omega) (.bool q) (.string ⟨(a :: m).toArray⟩) (.string ⟨#[]⟩) rfl rfl;replace F:=f F (by omega);rw[g];clear g;replace s:=aa R.k3 F.k3;exact aM (v:= .tuple #[.agg #[.bool q,.string ⟨(a :: m).toArray⟩,.string ⟨#[]⟩],.bool false]) (by simp[results,results94,go_sem,R.k3]) rfl ⟨_,_,_,_,rfl,(fun h=>by cases h),(fun _=>o.out),c.drew⟩
       |cons e A=>
        have af:∀h,({ data:=(e :: A).toArray }:ByteArray)[0]'h=e:=fun _=>rfl;by_cases H:e=48
        ·have i:iA l=none:=by rw[j.out,if_neg (by rw[H];simp)]
         have o:=aB i;have qe:((e.toNat:Int) != 48)=false:=by rw[H];rfl
         clear j i E H;go_wp2_with fail;obtain⟨M,B,F,c,k,f⟩:=F.put1 c (by omega) 2 (.string ⟨(e :: A).toArray⟩) rfl;replace R:=f R (by omega);rw[B];clear B;replace s:=aa R.g3 F.g3;go_region;all_goals (go_wp2_with fail)
         obtain⟨C,g,R,c,k,f⟩:=R.put3 c (by omega) (.bool q) (.string ⟨(a :: m).toArray⟩) (.string ⟨(e :: A).toArray⟩) rfl rfl;replace F:=f F (by omega);rw[g];clear g;replace s:=aa R.k3 F.k3;exact aM (v:= .tuple #[.agg #[.bool q,.string ⟨(a :: m).toArray⟩,.string ⟨(e :: A).toArray⟩],.bool false]) (by simp[results,results94,go_sem,R.k3]) rfl ⟨_,_,_,_,rfl,(fun h=>by cases h),(fun _=>o.out),c.drew⟩
        ·have qe:((e.toNat:Int) != 48)=true:=by
          have:e.toNat≠48:=fun h=>H (UInt8.toNat_inj.1 h);simp;omega
         by_cases G:e :: A=[49]
         ·have i:iA l=none:=by rw[j.out,if_neg (fun h=>h.2.2.2 G)]
          have o:=aB i;have q4:(e :: A != [49])=false:=by rw[G];rfl
          have L:e=49∧A=[]:=by simpa using G
          clear j i E H G;obtain⟨rfl,rfl⟩:=L;clear qe q4 af;have ai:∀h,({ data:= #[49] }:ByteArray)[0]'h=49:=fun _=>rfl;have ak:(((49:UInt8).toNat:Int) != 48)=true:=by decide
          go_wp2_with fail;obtain⟨M,B,F,c,k,f⟩:=F.put1 c (by omega) 2 (.string ⟨#[49]⟩) rfl;replace R:=f R (by omega);rw[B];clear B;replace s:=aa R.g3 F.g3;go_region;all_goals (go_wp2_with fail)
          obtain⟨C,g,R,c,k,f⟩:=R.put3 c (by omega) (.bool q) (.string ⟨(a :: m).toArray⟩) (.string ⟨#[49]⟩) rfl rfl;replace F:=f F (by omega);rw[g];clear g;replace s:=aa R.k3 F.k3;exact aM (v:= .tuple #[.agg #[.bool q,.string ⟨(a :: m).toArray⟩,.string ⟨#[49]⟩],.bool false]) (by simp[results,results94,go_sem,R.k3]) rfl ⟨_,_,[49],_,rfl,(fun h=>by cases h),(fun _=>o.out),c.drew⟩
         ·have i:iA l=some (q,a :: m,e :: A):=by rw[j.out,if_pos ⟨E,by simp,by simpa using H,G⟩]
          have o:=aB i;have q4:(e :: A != [49])=true:=by simpa using G
          have L:e=49->¬A=[]:=by simpa using G
          have q6:¬e=49∨¬A=[]:=by
           by_cases h:e=49
           ·exact .inr (L h)
           ·exact .inl h
          clear j i E H G L;go_wp2_with fail;obtain⟨M,B,F,c,k,f⟩:=F.put1 c (by omega) 2 (.string ⟨(e :: A).toArray⟩) rfl;replace R:=f R (by omega);rw[B];clear B;replace s:=aa R.g3 F.g3;go_region;all_goals (go_wp2_with fail)
          obtain⟨C,g,R,c,k,f⟩:=R.put3 c (by omega) (.bool q) (.string ⟨(a :: m).toArray⟩) (.string ⟨(e :: A).toArray⟩) rfl rfl;replace F:=f F (by omega);rw[g];clear g;replace s:=aa R.k3 F.k3;exact aM (v:= .tuple #[.agg #[.bool q,.string ⟨(a :: m).toArray⟩,.string ⟨(e :: A).toArray⟩],.bool true]) (by simp[results,results94,go_sem,R.k3,q6]) rfl ⟨_,_,_,_,rfl,(fun _=>o.out),(fun h=>by cases h),c.drew⟩
      ·have q3:(u==[])=false:=by simpa using E
       have i:iA l=none:=by rw[j.out,if_neg (fun h=>E h.1)]
       have o:=aB i;clear j i E;go_wp2_with fail;obtain⟨M,B,F,c,k,f⟩:=F.put1 c (by omega) 2 (.string ⟨d.toArray⟩) rfl;replace R:=f R (by omega);rw[B];clear B;replace s:=aa R.g3 F.g3;go_region;all_goals (go_wp2_with fail)
       obtain⟨C,g,R,c,k,f⟩:=R.put3 c (by omega) (.bool q) (.string ⟨(a :: m).toArray⟩) (.string ⟨d.toArray⟩) rfl rfl;replace F:=f F (by omega);rw[g];clear g;replace s:=aa R.k3 F.k3;exact aM (v:= .tuple #[.agg #[.bool q,.string ⟨(a :: m).toArray⟩,.string ⟨d.toArray⟩],.bool false]) (by simp[results,results94,go_sem,R.k3]) rfl ⟨_,_,_,_,rfl,(fun h=>by cases h),(fun _=>o.out),c.drew⟩
     ·have i:iA l=none:=by rw[j.out,oM,if_neg y,if_neg J,if_neg z,if_pos (by simpa using O)]
      have o:=aB i;have qb:((b.toNat:Int) != 47)=true:=by
       have:b.toNat≠47:=fun e=>O (UInt8.toNat_inj.1 e);simp;omega
      clear j i y z J;go_wp2_with fail;obtain⟨I,x,F,c,k,f⟩:=F.put1 c (by omega) 1 (.string ⟨(a :: m).toArray⟩) rfl;replace R:=f R (by omega);obtain⟨C,g,R,c,k,f⟩:=R.put3 c (by omega) (.bool q) (.string ⟨(a :: m).toArray⟩) (.string ⟨#[]⟩) rfl rfl;replace F:=f F (by omega);rw[x,g];clear x g;replace s:=aa R.k3 F.k3;exact aM (v:= .tuple #[.agg #[.bool q,.string ⟨(a :: m).toArray⟩,.string ⟨#[]⟩],.bool false]) (by simp[results,results94,go_sem,R.k3]) rfl ⟨_,_,_,_,rfl,(fun h=>by cases h),(fun _=>o.out),c⟩
def IP(w:World)(o:Option Rat)(e:Ending)(w':World):Prop:=∃v,e= .returned (.tuple #[v,.bool o.isSome])∧RatAt w' v (o.getD 0)∧Below w.1.size w w'
def TW(h:iA l=none):cG l=none:=by unfold cG;rw[h]
def TX{n:List UInt8}{a:Bool}(h:iA l=some (a,n,[])):cG l=some ((fO a (aO n):Int):Rat):=by unfold cG;rw[h];simp
def IQ{n d:List UInt8}{a:Bool}(h:iA l=some (a,n,d))(b:d≠[]):cG l=if Nat.gcd (aO n) (aO d)=1 then some (mkRat (fO a (aO n)) (aO d)) else none:=by
 unfold cG;rw[h];simp[b]
def IR{x:Int}(h:x.natAbs=n)(b:Nat.gcd n d=1)(a:d≠0)(f:d≠1):(mkRat x d).num=x∧bS (mkRat x d)=d:=by
 have c:(mkRat x d).num=x:=by rw[Rat.num_mkRat,if_neg a,h,azD,b];simp
 have e:(mkRat x d).den=d:=by rw[Rat.den_mkRat,if_neg a,h,azD,b];simp
 exact⟨c,by unfold bS;rw[e,if_neg f]⟩
def TY{n d:List UInt8}{a:Bool}(h:l=jM a n d):n.length<=l.length∧d.length<=l.length:=by
 subst h;unfold jM;by_cases e:d=[]<;>simp[e]<;>omega
def wU(l:List UInt8)(w:World)(hG:Glob w)(hl:l.length<=1073741824):
  Calls prog 46 #[.string ⟨l.toArray⟩] w (IP w (cG l)):=by
 have ap:=fun W=>U9 l W (by omega);obtain⟨W,eW,a,R⟩:=bI w [.bool false,.slice none 0 0,.bool false,.slice none 0 0] 86;have m:=R.g4;go_enter func46,ntmps46;go_wp2_with fail;(try rw[eW]);clear eW;refine(ap _).mono ?_;rintro e1 j ⟨y,n,d,ok,rfl,aj,ai,ao⟩;clear ap;replace R:=R.be ao;replace m:=R.g4;replace a:=aC a ao;have a2:∀b:Obj,(j.alloc b).cell? ⟨w.1.size,0,none⟩=some (.bool false):=fun b=>(R.alloc b).cell 0 rfl;have a6:∀b:Obj,(j.alloc b).frozen? ⟨w.1.size,0,none⟩=false:=fun b=>(R.alloc b).free 0;have a3:∀b:Obj,(j.alloc b).cell? ⟨w.1.size,1,none⟩=some (.slice none 0 0):=fun b=>(R.alloc b).cell 1 rfl;have a7:∀b:Obj,(j.alloc b).frozen? ⟨w.1.size,1,none⟩=false:=fun b=>(R.alloc b).free 1;have a4:∀b:Obj,(j.alloc b).cell? ⟨w.1.size,2,none⟩=some (.bool false):=fun b=>(R.alloc b).cell 2 rfl;have a8:∀b:Obj,(j.alloc b).frozen? ⟨w.1.size,2,none⟩=false:=fun b=>(R.alloc b).free 2;have a5:∀b:Obj,(j.alloc b).cell? ⟨w.1.size,3,none⟩=some (.slice none 0 0):=fun b=>(R.alloc b).cell 3 rfl;have a9:∀b:Obj,(j.alloc b).frozen? ⟨w.1.size,3,none⟩=false:=fun b=>(R.alloc b).free 3;cases ok with
 |false=>
  have q:=aB (TW (ai rfl));clear aj ai;go_wp2_with fail;have D:=R.lt;have E:=a.size;obtain⟨U0,z,p,F⟩:=bI j [.bool y,.string ⟨n.toArray⟩,.string ⟨d.toArray⟩] 150;replace R:=R.be p;replace f:=Keep.be p;replace a:=aC a p;obtain⟨W6,r,R,a,f,i⟩:=R.put4 a (by omega) (.bool false) (.slice none 0 0) (.bool false) (.slice none 0 0) rfl rfl;replace F:=i F (by omega);rw[z,r];clear z r;replace m:=aa R.k4 F.k3;exact aM (v:= .tuple #[.agg #[.bool false,.slice none 0 0,.bool false,.slice none 0 0],.bool false]) (by simp[results,results46,go_sem,R.k4]) rfl ⟨_,by rw[q.out];rfl,by rw[q.out];exact RatAt.of (IntAt.zero _) (IntAt.zero _) rfl rfl,a⟩
 |true=>
  have hs:=aj rfl;obtain⟨K,hj⟩:=I1 hs;obtain⟨bc,bb⟩:=TY hj;have bg:=oJ K.n_digs;have bf:=oJ K.d_digs;have af:=fun W=>FE ⟨n.toArray⟩ W K.n_digs (by simp[ByteArray.size];omega);have T:=fun W=>FE ⟨d.toArray⟩ W K.d_digs (by simp[ByteArray.size];omega);simp only[] at af T;have Y:=aB hs;have C:=aB K;clear aj ai hs K hj;go_wp2_with fail;have D:=R.lt;have E:=a.size;obtain⟨w2,al,p,F⟩:=bI j [.bool y,.string ⟨n.toArray⟩,.string ⟨d.toArray⟩] 150;replace R:=R.be p;replace f:=Keep.be p;replace a:=aC a p;rw[al];clear al;replace m:=aa R.g4 F.k3;refine(af _).mono ?_;rintro e3 B ⟨v3,rfl,g,ag⟩;obtain⟨M,G,L,H,rfl⟩:=g.form;replace R:=R.be ag;replace F:=F.be ag;replace m:=aa R.g4 F.k3;replace a:=aC a ag;have ae:(fO y (aO n)).natAbs=aO n:=rU _ _;have ac:d=[]->cG l=some ((fO y (aO n):Int):Rat):=fun h=>TX (by rw[<-h];exact Y.out);have aw:∀b:Obj,(B.alloc b).cell? ⟨j.1.size,0,none⟩=some (.bool y):=fun b=>(F.alloc b).cell 0 rfl;have az:∀b:Obj,(B.alloc b).frozen? ⟨j.1.size,0,none⟩=false:=fun b=>(F.alloc b).free 0;have ax:∀b:Obj,(B.alloc b).cell? ⟨j.1.size,1,none⟩=some (.string ⟨n.toArray⟩):=fun b=>(F.alloc b).cell 1 rfl;have a0:∀b:Obj,(B.alloc b).frozen? ⟨j.1.size,1,none⟩=false:=fun b=>(F.alloc b).free 1;have ay:∀b:Obj,(B.alloc b).cell? ⟨j.1.size,2,none⟩=some (.string ⟨d.toArray⟩):=fun b=>(F.alloc b).cell 2 rfl;have a1:∀b:Obj,(B.alloc b).frozen? ⟨j.1.size,2,none⟩=false:=fun b=>(F.alloc b).free 2;go_upto_if 20 with fail;have D:=R.lt;have N:=F.lt;have E:=a.size;obtain⟨w4,am,p,X⟩:=bI B [.bool M,.slice G L H,.bool false,.slice none 0 0] 86;replace R:=R.be p;replace F:=F.be p;replace f:=Keep.be p;replace a:=aC a p;replace g:=g.ke f;rw[am];clear am;replace m:=aa R.g4 (aa F.k3 X.g4);go_cut [] (fun U=>∃s A k c,Bx U B.1.size [.bool s,.slice A k c,.bool false,.slice none 0 0] 86∧IntAt U (.agg #[.bool s,.slice A k c]) (fO y (aO n))∧Bx U w.1.size [.bool false,.slice none 0 0,.bool false,.slice none 0 0] 86∧Bx U j.1.size [.bool y,.string ⟨n.toArray⟩,.string ⟨d.toArray⟩] 150∧Below w.1.size w U)
  case first=>
   clear ac T ae;cases y with
   |false=>
    go_wp2;go_meet;exact⟨_,_,_,_,X,g,R,F,a⟩
   |true=>
    go_wp2_with fail;refine(sQ _ _ _ g (by simp;omega)).mono ?_;rintro e7 w7 ⟨v7,rfl,I,ab⟩;obtain⟨s7,A7,k7,c7,rfl⟩:=I.form;replace R:=R.be ab;replace F:=F.be ab;replace X:=X.be ab;replace m:=aa R.g4 (aa F.k3 X.g4);replace a:=aC a ab;go_wp2_with fail;have D:=R.lt;have N:=F.lt;have Z:=X.lt;have E:=a.size;obtain⟨U0,z,X,a,f,i⟩:=X.put1 a (by omega) 0 (.bool s7) rfl;replace R:=i R (by omega);replace F:=i F (by omega);replace I:=I.ke f;obtain⟨W8,ak,X,a,f,i⟩:=X.put1 a (by omega) 1 (.slice A7 k7 c7) rfl;replace R:=i R (by omega);replace F:=i F (by omega);replace I:=I.ke f;rw[z,ak];clear z ak;replace m:=aa R.k4 (aa F.k3 X.k4);go_meet;exact⟨_,_,_,_,X,I,R,F,a⟩
  case rest=>
   clear X R F g f m a;obtain⟨M,G,L,H,X,g,R,F,a⟩:=hcut;generalize wc=w4 at *;generalize hx:fO y (aO n)=x at *;replace m:=aa R.g4 (aa F.k3 X.g4);by_cases J:d=[]
   ·have q1:(d==[])=true:=by rw[J];rfl
    have q:=aB (ac J);clear ac T af Y C hx;go_wp2_with fail;have D:=R.lt;have N:=F.lt;have Z:=X.lt;have E:=a.size;obtain⟨W6,r,R,a,f,i⟩:=R.put4 a (by omega) (.bool M) (.slice G L H) (.bool false) (.slice none 0 0) rfl rfl;replace F:=i F (by omega);replace X:=i X (by omega);replace g:=g.ke f;rw[r];clear r;replace m:=aa R.k4 (aa F.k3 X.k4);exact aM (v:= .tuple #[.agg #[.bool M,.slice G L H,.bool false,.slice none 0 0],.bool true]) (by simp[results,results46,go_sem,R.k4]) rfl ⟨_,by rw[q.out];rfl,by rw[q.out];exact RatAt.of g (IntAt.zero _) rfl rfl,a⟩
   ·have q1:(d==[])=false:=by simpa using J
    have t:=IQ Y.out J;have aq:=eqQ C.out.d_digs J C.out.d_head;have ar:aO d≠1:=fun e=>C.out.d_one (by rw[<-pG C.out.d_digs J (.inr C.out.d_head),e,decDigits_one]);rw[hx] at t;have V:=aB t;clear ac af Y C t hx;go_wp2_with fail;refine(T _).mono ?_;rintro e5 w5 ⟨v5,rfl,o,O⟩;obtain⟨s5,A5,k5,c5,rfl⟩:=o.form;replace R:=R.be O;replace F:=F.be O;replace X:=X.be O;replace m:=aa R.g4 (aa F.k3 X.g4);replace f:=Keep.be O;replace g:=g.ke f;replace a:=aC a O;have ad:=fun W v u hG h1 h2=>qF x ((aO d:Nat):Int) v u W hG h1 h2 1073741824 (by rw[ae];omega) (by rw[dD];omega) (by decide);rw[ae,dD] at ad;unfold dW at ad;clear T;go_wp2_with fail;have D:=R.lt;have N:=F.lt;have Z:=X.lt;have E:=a.size;obtain⟨U0,z,X,a,f,i⟩:=X.put1 a (by omega) 2 (.bool s5) rfl;replace R:=i R (by omega);replace F:=i F (by omega);replace g:=g.ke f;replace o:=o.ke f;obtain⟨w6,an,X,a,f,i⟩:=X.put1 a (by omega) 3 (.slice A5 k5 c5) rfl;replace R:=i R (by omega);replace F:=i F (by omega);replace g:=g.ke f;replace o:=o.ke f;rw[z,an];clear z an;replace m:=aa R.g4 (aa F.k3 X.g4);refine(ad _ _ _ (hG.be a) g o).mono ?_;rintro e8 w8 ⟨v8,rfl,h8,P⟩;obtain⟨s8,A8,k8,c8,rfl⟩:=h8.form;replace R:=R.be P;replace F:=F.be P;replace X:=X.be P;replace m:=aa R.g4 (aa F.k3 X.g4);replace f:=Keep.be P;replace g:=g.ke f;replace o:=o.ke f;replace a:=aC a P;clear ad;have ba:nl (Nat.gcd (aO n) (aO d))<=1073741824:=by
     refine aH (cK (aqY (by omega) (azU _ _))) (by omega)
    go_wp2_with fail;refine(S3 _ _ _ h8 (by rw[dD];omega)).mono ?_;rintro e9 w9 ⟨rfl,Q⟩;replace R:=R.be Q;replace F:=F.be Q;replace X:=X.be Q;replace m:=aa R.g4 (aa F.k3 X.g4);replace f:=Keep.be Q;replace g:=g.ke f;replace o:=o.ke f;replace a:=aC a Q;by_cases ah:Nat.gcd (aO n) (aO d)=1
    ·have S:decide (((Nat.gcd (aO n) (aO d):Nat):Int)=1)=true:=by rw[iQ];omega
     obtain⟨au,av⟩:=IR ae ah aq ar;have t:=V.out;rw[if_pos ah] at t;have q:=aB t;rw[S];clear S t V;go_wp2_with fail;have D:=R.lt;have N:=F.lt;have Z:=X.lt;have E:=a.size;obtain⟨W6,r,R,a,f,i⟩:=R.put4 a (by omega) (.bool M) (.slice G L H) (.bool s5) (.slice A5 k5 c5) rfl rfl;replace F:=i F (by omega);replace X:=i X (by omega);replace g:=g.ke f;replace o:=o.ke f;rw[r];clear r;replace m:=aa R.k4 (aa F.k3 X.k4);exact aM (v:= .tuple #[.agg #[.bool M,.slice G L H,.bool s5,.slice A5 k5 c5],.bool true]) (by simp[results,results46,go_sem,R.k4]) rfl ⟨_,by rw[q.out];rfl,by rw[q.out];exact RatAt.of g o au av,a⟩
    ·have S:decide (((Nat.gcd (aO n) (aO d):Nat):Int)=1)=false:=by rw[jA];omega
     have t:=V.out;rw[if_neg ah] at t;have q:=aB t;rw[S];clear S t V;go_wp2_with fail;have D:=R.lt;have N:=F.lt;have Z:=X.lt;have E:=a.size;obtain⟨W6,r,R,a,f,i⟩:=R.put4 a (by omega) (.bool false) (.slice none 0 0) (.bool false) (.slice none 0 0) rfl rfl;replace F:=i F (by omega);replace X:=i X (by omega);rw[r];clear r;replace m:=aa R.k4 (aa F.k3 X.k4);exact aM (v:= .tuple #[.agg #[.bool false,.slice none 0 0,.bool false,.slice none 0 0],.bool false]) (by simp[results,results46,go_sem,R.k4]) rfl ⟨_,by rw[q.out];rfl,by rw[q.out];exact RatAt.of (IntAt.zero _) (IntAt.zero _) rfl rfl,a⟩
def RRow(w:World)(rows:List (List Value))(qs:List Rat):Prop:=∀(i:Nat) (q:Rat),qs[i]? =some q->∃s A l c e a d c',rows[i]? =some [Value.bool s,Value.slice A l c,Value.bool e,Value.slice a d c']∧RatAt w (.agg #[.bool s,.slice A l c,.bool e,.slice a d c']) q
def RRow.ke{rows:List (List Value)}(h:RRow w rows qs)(f:Keep w w'):RRow w' rows qs:=fun i q hi=>by
 obtain⟨s,A,l,c,j,a,g,c',d,e⟩:=h i q hi;exact⟨s,A,l,c,j,a,g,c',d,e.ke f⟩
def RRow.take{rows:List (List Value)}(h:RRow w rows qs)(m:Nat):RRow w rows (qs.take m):=fun i q hi=>by
 rw[fC] at hi;split at hi
 ·exact h i q hi
 ·cases hi
def RatsAt(w:World)(v:Value)(qs:List Rat):Prop:=∃A c,v= .slice A qs.length c∧qs.length<=c∧(qs=[]∨∃b rows,A=some ⟨b,0,none⟩∧Rw w b 4 rows 86∧RRow w rows qs)
def RatsAt.be(h:RatsAt w v qs)(a:Below w.1.size w w'):RatsAt w' v qs:=by
 obtain⟨A,c,hv,d,h⟩:=h;refine⟨A,c,hv,d,?_⟩;rcases h with h|⟨b,i,e,g,f⟩
 ·exact .inl h
 ·exact .inr ⟨b,i,e,g.be a,f.ke (Keep.be a)⟩
def RatsAt.nil(w:World)(A:Option Addr)(c:Nat):RatsAt w (.slice A 0 c) []:=⟨A,c,rfl,dC _,.inl rfl⟩
def RatsAt.form(h:RatsAt w v qs):∃A c,v= .slice A qs.length c∧qs.length<=c:=by
 obtain⟨A,c,hv,a,_⟩:=h;exact⟨A,c,hv,a⟩
def RatsAt.cut{l:Nat}(h:RatsAt w (.slice A l c) qs)(m:Nat)(d:m<=qs.length):RatsAt w (.slice A m c) (qs.take m):=by
 obtain⟨i,j,e,k,h⟩:=h;simp only[Value.slice.injEq] at e;obtain⟨rfl,rfl,rfl⟩:=e;refine⟨A,c,by rw[bK,y8 d],by rw[bK];omega,?_⟩;rcases h with h|⟨b,g,e,f,a⟩
 ·exact .inl (by rw[h];simp)
 ·exact .inr ⟨b,g,e,f,a.take m⟩
def RatsAt.at_{l:Nat}(h:RatsAt w (.slice A l c) qs)(hi:qs[i]? =some q):
  ∃b s B m d n f k g,A=some ⟨b,0,none⟩∧b<w.1.size∧w.cell? ⟨b,i*4,none⟩=some (.bool s)∧w.cell? ⟨b,i*4+1,none⟩=some (.slice B m d)∧w.cell? ⟨b,i*4+2,none⟩=some (.bool n)∧w.cell? ⟨b,i*4+3,none⟩=some (.slice f k g)∧RatAt w (.agg #[.bool s,.slice B m d,.bool n,.slice f k g]) q:=by
 obtain⟨r,t,e,u,h⟩:=h;simp only[Value.slice.injEq] at e;obtain⟨rfl,rfl,rfl⟩:=e;rcases h with h|⟨b,v,e,a,p⟩
 ·rw[h] at hi;simp at hi
 ·obtain⟨s,B,m,d,n,f,k,g,j,o⟩:=p i q hi;exact⟨b,s,B,m,d,n,f,k,g,e,a.lt,a.cell 0 j rfl,a.cell 1 j rfl,a.cell 2 j rfl,a.cell 3 j rfl,o⟩
def OwnR(w:World)(b:Nat)(qs:List Rat):Prop:=∃rows,Rw w b 4 rows 86∧qs.length<=rows.length∧RRow w rows qs
section
variable {w w':World}{b:Nat}{qs:List Rat}
def OwnR.lt(h:OwnR w b qs):b<w.1.size:=by
 obtain⟨c,a,_⟩:=h;exact a.lt
def OwnR.be(h:OwnR w b qs)(a:Below w.1.size w w'):OwnR w' b qs:=by
 obtain⟨f,e,d,c⟩:=h;exact⟨f,e.be a,d,c.ke (Keep.be a)⟩
def OwnR.step(h:OwnR w b qs)(c:kR g w w')(f:b≠g):OwnR w' b qs:=by
 obtain⟨i,a,e,d⟩:=h;exact⟨i,⟨(c.2.1 b f).trans a.1,a.2⟩,e,d.ke c.1⟩
def OwnR.rats(h:OwnR w b qs)(c:Nat)(a:qs.length<=c):RatsAt w (.slice (some ⟨b,0,none⟩) qs.length c) qs:=by
 obtain⟨f,e,g,d⟩:=h;exact⟨_,c,rfl,a,.inr ⟨b,f,rfl,e,d⟩⟩
def OwnR.free(h:OwnR w b qs)(j:Nat):w.frozen? ⟨b,j,none⟩=false:=by
 obtain⟨c,a,_⟩:=h;exact a.free j
def OwnR.at_(h:OwnR w b qs)(hi:qs[i]? =some q):
  ∃s B m d j a g c,w.cell? ⟨b,i*4,none⟩=some (.bool s)∧w.cell? ⟨b,i*4+1,none⟩=some (.slice B m d)∧w.cell? ⟨b,i*4+2,none⟩=some (.bool j)∧w.cell? ⟨b,i*4+3,none⟩=some (.slice a g c)∧RatAt w (.agg #[.bool s,.slice B m d,.bool j,.slice a g c]) q:=by
 obtain⟨o,f,n,l⟩:=h;obtain⟨s,B,m,d,j,a,g,c,e,k⟩:=l i q hi;exact⟨s,B,m,d,j,a,g,c,f.cell 0 e rfl,f.cell 1 e rfl,f.cell 2 e rfl,f.cell 3 e rfl,k⟩
def OwnR.stored(h:OwnR w b qs)(hi:i<qs.length){a:Bool}{l p:Nat}(hn:RatAt w (.agg #[.bool s,.slice A l c,.bool a,.slice o p c']) q):
  let W:=(((w.setCell ⟨b,i*4,none⟩ (.bool s)).setCell ⟨b,i*4+1,none⟩ (.slice A l c)).setCell ⟨b,i*4+2,none⟩ (.bool a)).setCell ⟨b,i*4+3,none⟩ (.slice o p c')
  OwnR W b (qs.set i q)∧kR b w W:=by
 obtain⟨v,J,U,I⟩:=h;obtain⟨Y,x,B,y,r,d,n,f,H,Z⟩:=I i qs[i] (aR hi);have u:i<v.length:=by omega
 have K:=J.set 0 H (by omega) (.bool s);have E:(v.set i ([Value.bool Y,.slice x B y,.bool r,.slice d n f].set 0 (.bool s)))[i]? =some [.bool s,.slice x B y,.bool r,.slice d n f]:=by rw[gP u];rfl
 have C:=K.set 1 E (by omega) (.slice A l c);rw[bxM] at C;have F:(v.set i ([Value.bool s,.slice x B y,.bool r,.slice d n f].set 1 (.slice A l c)))[i]? =some [.bool s,.slice A l c,.bool r,.slice d n f]:=by rw[gP u];rfl
 have D:=C.set 2 F (by omega) (.bool a);rw[bxM] at D;have G:(v.set i ([Value.bool s,.slice A l c,.bool r,.slice d n f].set 2 (.bool a)))[i]? =some [.bool s,.slice A l c,.bool a,.slice d n f]:=by rw[gP u];rfl
 have L:=D.set 3 G (by omega) (.slice o p c');rw[bxM] at L
 have z:Keep w ((((w.setCell ⟨b,i*4,none⟩ (.bool s)).setCell ⟨b,i*4+1,none⟩ (.slice A l c)).setCell ⟨b,i*4+2,none⟩ (.bool a)).setCell ⟨b,i*4+3,none⟩ (.slice o p c')):=
  (((Keep.put (J.cell 0 H rfl) (NoInt.bool _) _).trans (Keep.put (K.cell 1 E rfl) (NoInt.slice _ _ _) _)).trans (Keep.put (C.cell 2 F rfl) (NoInt.bool _) _)).trans (Keep.put (D.cell 3 G rfl) (NoInt.slice _ _ _) _)
 refine⟨⟨_,L,by simpa using U,fun j m k=> ?_⟩,z,fun g t=> ?_,by simp,rfl,rfl,rfl⟩
 ·by_cases e:i=j
  ·subst e;rw[gP hi] at k;injection k with k;subst k;exact⟨s,A,l,c,a,o,p,c',by rw[gP u];rfl,hn.ke z⟩
  ·rw[lI e] at k;obtain⟨M,N,O,P,Q,R,S,T,V,X⟩:=I j m k;exact⟨M,N,O,P,Q,R,S,T,by rw[lI e];exact V,X.ke z⟩
 ·rw[Below.heap_setCell _ ⟨b,i*4+3,none⟩ _ g t,Below.heap_setCell _ ⟨b,i*4+2,none⟩ _ g t,Below.heap_setCell _ ⟨b,i*4+1,none⟩ _ g t,Below.heap_setCell _ ⟨b,i*4,none⟩ _ g t]
def RatAt.zero(w:World):RatAt w (.agg #[.bool false,.slice none 0 0,.bool false,.slice none 0 0]) 0:=RatAt.of (IntAt.zero w) (IntAt.zero w) rfl rfl
def OwnR.made(h:Rw w b 4 (List.replicate n [.bool false,.slice none 0 0,.bool false,.slice none 0 0]) 86):OwnR w b (List.replicate n 0):=
 ⟨_,h,by simp,fun i m c=>⟨false,none,0,0,false,none,0,0,by
  have:=(List.getElem?_eq_some_iff.1 c).1;rw[dB] at this;rw[j6,if_pos this],by
  have:=j6 (n:=n) (a:=(0:Rat)) (i:=i);rw[c] at this;split at this
  ·injection this with this;subst this;exact RatAt.zero w
  ·cases this⟩⟩
end
def StrsAt(w:World)(v:Value)(a:List (List UInt8)):Prop:=∃A c,v= .slice A a.length c∧a.length<=c∧(a=[]∨∃b off,A=some ⟨b,off,none⟩∧b<w.1.size∧∀(i:Nat) (l:List UInt8),a[i]? =some l->w.cell? ⟨b,off+i,none⟩=some (.string ⟨l.toArray⟩))
def StrsAt.be(h:StrsAt w v f)(a:Below w.1.size w w'):StrsAt w' v f:=by
 obtain⟨A,c,hv,j,h⟩:=h;refine⟨A,c,hv,j,?_⟩;rcases h with h|⟨b,g,e,d,k⟩
 ·exact .inl h
 ·exact .inr ⟨b,g,e,aZ d a.size,fun i l h=>(a.cell (p:=⟨b,g+i,none⟩) d).trans (k i l h)⟩
def StrsAt.form(h:StrsAt w v a):∃A c,v= .slice A a.length c∧a.length<=c:=by
 obtain⟨A,c,hv,d,_⟩:=h;exact⟨A,c,hv,d⟩
def StrsAt.nil(w:World)(A:Option Addr)(c:Nat):StrsAt w (.slice A 0 c) []:=⟨A,c,rfl,dC _,.inl rfl⟩
def StrsAt.at_{l:Nat}(h:StrsAt w (.slice A l c) a){t:List UInt8}(hi:a[i]? =some t):
  ∃b off,A=some ⟨b,off,none⟩∧b<w.1.size∧w.cell? ⟨b,off+i,none⟩=some (.string ⟨t.toArray⟩):=by
 obtain⟨g,j,e,k,h⟩:=h;simp only[Value.slice.injEq] at e;obtain⟨rfl,rfl,rfl⟩:=e;rcases h with h|⟨b,off,e,f,d⟩
 ·rw[h] at hi;simp at hi
 ·exact⟨b,off,e,f,d i t hi⟩
def rd(l:List UInt8):Bool:=(cG l).isSome
def aU(a:List (List UInt8)):List Rat:=a.map (fun l=>(cG l).getD 0)
def SZ(a:List (List UInt8))(v:Value)(w:World)(hG:Glob w)(hv:StrsAt w v a)(hl:a.length<=1073741824)(ad:∀l∈a,l.length<=1073741824):
  Calls prog 57 #[v] w fun e w'=>∃W,e= .returned (.tuple #[W,.bool (a.all rd)])∧(a.all rd=true->∃g,W= .slice (some ⟨g,0,none⟩) a.length a.length∧w.1.size<=g∧OwnR w' g (aU a))∧Below w.1.size w w':=by
 obtain⟨A,c,rfl,hc⟩:=hv.form;have V:(aU a).length=a.length:=cH _;have u:=aB V;clear V;go_enter func57,ntmps57;go_wp2_with (at_make;refine jT rfl rfl 86 _ 4 64 underlying101 OC rfl (by decide) a.length rfl rfl rfl rfl (by omega) (by omega) ?_;intro w1 ag S K);have I:=OwnR.made S;clear S ag;go_loopg [14] a.length (fun k i wr=>∃j,Hid (j+k=a.length)∧i= .int .i64 j∧OwnR wr w.1.size ((aU a).take j++List.replicate k 0)∧Hid ((a.take j).all rd=true)∧Below w.1.size w wr)
 case atStart=>exact⟨0,by unfold Hid;omega,rfl,by simpa using I,by unfold Hid;simp,K⟩
 case round=>
  clear I K;obtain⟨j,f,rfl,R,q,d⟩:=hrel;generalize wr=wx at *;have al:(0:Int)<=(j:Int):=by omega
  cases gk with
  |zero=>
   have O:j=a.length:=f.out;have J:a.all rd=true:=by
    have:=q.out;rw[O,aq9] at this;exact this
   subst O;rw[aq8,fH,cZ (by rw[u.out];exact aE)] at R;have X:=aB J;clear J q;go_wp2;go_ret2;rw[X.out];exact⟨_,rfl,fun _=>⟨w.1.size,rfl,aE,R⟩,d⟩
  |succ k=>
   obtain⟨t,m⟩:∃t,a[j]? =some t:=⟨_,aR (by have:=f.out;omega)⟩;obtain⟨b,ao,rfl,ak,g0⟩:=(hv.be d).at_ m;have af:=ad t (dG m);have am:(j:Int)<(a.length:Int):=by have:=f.out;omega
   have U:(aU a)[j]? =some ((cG t).getD 0):=by unfold aU;rw[iK,m];rfl
   have B:=rI (ys:=aU a) (z:=(0:Rat)) (j:=j) (k:=k+1) (by rw[u.out];exact f.out);have M:=rH (z:=(0:Rat)) (k:=k) U;have ai:=aB B;have Y:=aB M;have N:j<((aU a).take j++List.replicate (k+1) 0).length:=by rw[B,u.out];have:=f.out;omega
   have T:(a.take (j+1)).all rd=rd t:=by rw[Q9,m,aqO,byJ,q.out];simp
   have P:rd t=false->a.all rd=false:=fun h=>by
    rw[List.all_eq_false];exact⟨t,dG m,by rw[h];simp⟩
   have s:=aB T;have r:=aB P;clear U B M T P m;go_wp2_with fail;refine(wU t _ (hG.be d) af).mono ?_;rintro e2 H ⟨v2,rfl,n,L⟩;obtain⟨F,o,D,x,G,p,E,y,rfl⟩:=n.form;replace R:=R.be L;replace d:=aC d L;have C:(cG t).isSome=rd t:=rfl;rw[C];cases hrd:rd t with
   |false=>
    have Z:=aB (r.out hrd);clear r s hrd C;go_wp2;go_ret2;rw[Z.out];exact⟨_,rfl,(fun h=>by cases h),d.alloc d.size _⟩
   |true=>
    rw[hrd] at s;clear r hrd C;replace R:=R.be ((aG H.1.size H).alloc aE (.cells #[.bool F,.slice o D x,.bool G,.slice p E y] 86));replace n:=n.ke (Keep.alloc H (.cells #[.bool F,.slice o D x,.bool G,.slice p E y] 86));have ac:=d.alloc d.size (.cells #[.bool F,.slice o D x,.bool G,.slice p E y] 86);obtain⟨s',B',l',d',ap,ah,an,aj,q0,q1,q2,q3, -⟩:=R.at_ (aR N);have f0:=R.free (j*4);have f1:=R.free (j*4+1);have f2:=R.free (j*4+2);have f3:=R.free (j*4+3);go_wp2_with fail;obtain⟨Q,ae⟩:=R.stored N n;rw[Y.out] at Q;have ab:=jD ac ae aE;go_roundg k
    case rel=>exact⟨j+1,by have:=f.out;unfold Hid;omega,by go_num,Q,s,ab⟩
    case measure=>omega
def T0(a:List (List UInt8))(v:Value)(w:World)(c:Glob w)(hv:StrsAt w v a)(j:a.length<=1073741824)(k:∀l∈a,l.length<=1073741824):
  Calls prog 57 #[v] w fun e w'=>∃b,e= .returned (.tuple #[b,.bool (a.all rd)])∧(a.all rd=true->RatsAt w' b (aU a))∧Below w.1.size w w':=
 (SZ a v w c hv j k).mono (fun e w' ⟨b,i,h,f⟩=>⟨b,i,fun d=>by
  obtain⟨g,rfl, -,R⟩:=h d;have hn:(aU a).length=a.length:=cH _;have:=R.rats a.length (by rw[hn];exact aE);rw[hn] at this;exact this,f⟩)
def SV(q:Rat)(v:Value)(w:World)(i:RatAt w v q)(l:nl q.num.natAbs<=17592186044416):
  Calls prog 58 #[v] w fun e w'=>e= .returned (.bool (decide (q=0)))∧Below w.1.size w w':=by
 obtain⟨s,A,k,c,f,a,d,b,rfl⟩:=i.form;have m:Bx (w.alloc (.cells #[.bool s,.slice A k c,.bool f,.slice a d b] 86)) (w.1.size) [.bool s,.slice A k c,.bool f,.slice a d b] 86:=Bx.newAt w [.bool s,.slice A k c,.bool f,.slice a d b] 86 (w.1.size) (by simp);have g:Below w.1.size w (w.alloc (.cells #[.bool s,.slice A k c,.bool f,.slice a d b] 86)):=(aG _ _).alloc (by simp) _;go_enter func58,ntmps58;go_wp2_with fail;generalize w.alloc (.cells #[.bool s,.slice A k c,.bool f,.slice a d b] 86)=W at *;have h:=(i.be g).num;refine(g9 _ _ _ h l).mono ?_;rintro n o ⟨rfl,j⟩;go_wp2;go_ret;exact⟨rfl,aC g j⟩
def SW(n:Int):Lib.itoa n=iP n:=by
 unfold Lib.itoa iP;by_cases h:n<0
 ·rw[if_pos h,if_pos h];rfl
 ·rw[if_neg h,if_neg h,iM,show n.toNat=n.natAbs by omega]
def SX(n:Int)(c: -9223372036854775808<=n)(d:n<=9223372036854775807)(w:World)(f:Glob w):
  Calls prog 81 #[.int .i64 n] w fun e w'=>e= .returned (.string ⟨(iP n).toArray⟩)∧Below w.1.size w w':=by
 have a:=Tryz.strconv_FormatInt_10 n c d w f.pow;rw[SW] at a;go_enter func81,ntmps81;go_wp2_with fail;refine a.mono ?_;rintro e i ⟨rfl,k,h,b⟩;have g:Below w.1.size w i:=by rw[b];exact Lib.below_grow w.1.size w aE k h
 clear b;go_wp2;go_ret;exact⟨rfl,g⟩
def wR(n K:Nat)(h:nl n<=K):(Lib.decDigits n).length<=20*K+1:=by
 rw[Lib.decDigits_length];refine rS ?_ (by omega);refine aZ (cyD n) ?_;have b:BN^nl n<=BN^K:=fT (by decide) h;have a:BN^K<=(10^20)^K:=aqN (by decide) K;rw[<-azL] at a;have c:10^(20*K)<=10^(20*K+1):=fT (by decide) (by omega);omega
def SY(x:Int)(K:Nat)(h:nl x.natAbs<=K):(iP x).length<=20*K+2:=by
 unfold iP;have:=wR x.natAbs K h;rw[bN];split<;>simp<;>omega
def I4(q:Rat)(v:Value)(w:World)(z:Glob w)(J:RatAt w v q)(K:Nat)(hK:RL K q)(al:K<=1073741824):
  Calls prog 36 #[v] w fun e w'=>e= .returned (.string ⟨(cW q).toArray⟩)∧Below w.1.size w w':=by
 obtain⟨s,A,k,c,n,h,j,i,rfl⟩:=J.form;obtain⟨ad,am⟩:=hK;have an:=mY q;have a:Bx (w.alloc (.cells #[.bool s,.slice A k c,.bool n,.slice h j i] 86)) (w.1.size) [.bool s,.slice A k c,.bool n,.slice h j i] 86:=Bx.newAt w [.bool s,.slice A k c,.bool n,.slice h j i] 86 (w.1.size) (by simp);have b:Below w.1.size w (w.alloc (.cells #[.bool s,.slice A k c,.bool n,.slice h j i] 86)):=(aG _ _).alloc (by simp) _;go_enter func36,ntmps36;go_wp2_with fail;generalize w.alloc (.cells #[.bool s,.slice A k c,.bool n,.slice h j i] 86)=W at *;have hn:=(J.be b).num;have d:=(J.be b).den;refine(g9 _ _ _ d (by omega)).mono ?_;rintro e1 f ⟨rfl,F⟩;replace a:=a.be F;replace N:=a.cell 0 rfl;replace O:=a.cell 1 rfl;replace D:=a.cell 2 rfl;replace E:=a.cell 3 rfl;replace m:=Keep.be F;replace hn:=hn.ke m;replace d:=d.ke m;replace b:=aC b F;by_cases o:bS q=0
 ·have t:decide (bS q=0)=true:=by simpa using o
  have u:cW q=iP q.num:=by unfold cW iP;rw[if_pos (fV.1 o),fH]
  have x:=aB u;rw[t];clear t o u;go_wp2_with fail;refine(OG _ _ _ hn (by omega)).mono ?_;rintro e2 w2 ⟨rfl,G⟩;replace a:=a.be G;replace N:=a.cell 0 rfl;replace O:=a.cell 1 rfl;replace D:=a.cell 2 rfl;replace E:=a.cell 3 rfl;replace m:=Keep.be G;replace hn:=hn.ke m;replace d:=d.ke m;replace b:=aC b G;cases hf:kF q.num with
  |true=>
   rw[if_pos rfl];have V: -9223372036854775808<=q.num∧q.num<=9223372036854775807:=by unfold kF at hf;simpa using hf
   clear hf;go_wp2_with fail;refine(SX q.num V.1 V.2 _ (z.be b)).mono ?_;rintro e3 w3 ⟨rfl,H⟩;go_wp2;go_ret;rw[x.out];exact⟨rfl,aC b H⟩
  |false=>
   clear hf;go_wp2_with fail;refine(fqG q.num _ _ (z.be b) hn (by omega)).mono ?_;rintro e3 w3 ⟨rfl,H⟩;go_wp2;go_ret;rw[x.out];exact⟨rfl,aC b H⟩
 ·have t:decide (bS q=0)=false:=by simpa using o
  have I:q.den≠1:=fun e=>o (fV.2 e);have T:bS q=q.den:=mI I;have U:iP (bS q)=Lib.decDigits q.den:=by unfold iP;rw[T,if_neg (by omega)];rfl
  have u:cW q=(iP q.num++[47])++iP (bS q):=by unfold cW;rw[U,if_neg I];unfold iP;simp
  have x:=aB u;have ao:=SY q.num K ad;rw[t];clear t o u U T I;go_wp2_with fail;refine(BP f.1.size (.slice none 0 0) [] q.num s A k c f (z.be b).globB aE (TxtAt.nil _ _) hn (Apart.nil _) (by omega) (by simp)).mono ?_;rintro e7 Y ⟨M,rfl,y,t7⟩;rw[iM] at y;have S:=d.blk;have R:=b;have ac:=(z.be b).globB;have ak:=a.lt;have r:Below f.1.size f Y:=t7.belowB aE (fun g e=>by simp[Value.ownBlock] at e);have X:=r.size;replace a:=a.be r;replace N:=a.cell 0 rfl;replace O:=a.cell 1 rfl;replace D:=a.cell 2 rfl;replace E:=a.cell 3 rfl;replace m:=Keep.be r;replace d:=d.ke m;replace b:=aC b r;have ab:=y;unfold TxtAt at y;have L:=ab.lt;have n7:M.ownBlock≠some w.1.size:=fun e=>by have:=(L _ e).1;omega
  have Q:Apart M (.slice h j i):=fun g e Z=>by have:=(L g e).1;have:=S g Z;omega
  go_wp2_with (at_builtin;refine gM rfl rfl 5 _ 1 1 underlying137 nF rfl (by decide) f.1.size M (iP q.num).length _ rfl (y.alloc _) [Value.int .u8 47] rfl (by simp) (F9 _ _ _) (by simp[Value.oneCell']) (by omega) (by omega) (by simp;omega) ?_;intro q1 C aj ai ae;have p:=TxtAt.more (bs:=iP q.num) (l:=[47]) aj ai ae;replace a:=a.txt p.2 n7;replace D:=a.cell 2 rfl;replace E:=a.cell 3 rfl);have ah:IntAt C (.agg #[.bool n,.slice h j i]) (bS q):=IntAt.of (d.words.txt p.2 Q) d.neg;have ag:Below f.1.size Y C:=p.2.belowB X (fun g e=>(L g e).1);have B:Below f.1.size f C:=r.trans ag;refine(BP f.1.size q1 (iP q.num++[47]) (bS q) n h j i C (ac.on B) B.size p.1 ah (p.2.apart Q (fun g e=>aZ (S g e) X)) (by omega) (by simp;omega)).mono ?_;rintro e9 w9 ⟨v9,rfl,P,t9⟩;rw[<-x.out] at P;have hc:=P.str;have af:=B.trans (t9.belowB B.size (fun g e=>(p.1.lt g e).1));go_wp2;go_ret;exact⟨rfl,aC R af⟩
def czR:(Tryz.prog.info? 9).map (fun i=>(i.zero,i.size,i.bytes))=some (some (.string ⟨#[]⟩),1,16):=by kernel_rfl
def OwnS(w:World)(b:Nat)(ls:List (List UInt8)):Prop:=∃cs,Bx w b cs 9∧ls.length<=cs.length∧∀(i:Nat) (l:List UInt8),ls[i]? =some l->cs[i]? =some (Value.string ⟨l.toArray⟩)
section
variable {w w':World}{b:Nat}{ls:List (List UInt8)}
def OwnS.be(h:OwnS w b ls)(f:Below w.1.size w w'):OwnS w' b ls:=by
 obtain⟨a,c,d,e⟩:=h;exact⟨a,c.be f,d,e⟩
def OwnS.made(h:Rw w b 1 (List.replicate n [.string ⟨#[]⟩]) 9):OwnS w b (List.replicate n []):=by
 have e:(List.replicate n [Value.string ⟨#[]⟩]).flatten=List.replicate n (Value.string ⟨#[]⟩):=by
  induction n with
  |zero=>rfl
  |succ n d=>simp[aqV]
 refine⟨_,by have:=h.1;rw[e] at this;exact this,by simp,fun i l a=> ?_⟩;have c:=(List.getElem?_eq_some_iff.1 a).1;rw[dB] at c;rw[j6,if_pos c] at a⊢;injection a with a;rw[<-a]
def OwnS.at_(h:OwnS w b ls)(hi:ls[i]? =some l):w.cell? ⟨b,i,none⟩=some (.string ⟨l.toArray⟩):=by
 obtain⟨d,a,e,c⟩:=h;exact a.cell i (c i l hi)
def OwnS.free(h:OwnS w b ls)(j:Nat):w.frozen? ⟨b,j,none⟩=false:=by
 obtain⟨c,a,_⟩:=h;exact a.free j
def OwnS.strs(h:OwnS w b ls)(c:Nat)(e:ls.length<=c):StrsAt w (.slice (some ⟨b,0,none⟩) ls.length c) ls:=by
 obtain⟨g,a,j,d⟩:=h;exact⟨_,c,rfl,e,.inr ⟨b,0,rfl,a.lt,fun i l f=>by rw[bA];exact a.cell i (d i l f)⟩⟩
def OwnS.stored(h:OwnS w b ls)(hi:i<ls.length)(l:List UInt8):OwnS (w.setCell ⟨b,i,none⟩ (.string ⟨l.toArray⟩)) b (ls.set i l)∧kR b w (w.setCell ⟨b,i,none⟩ (.string ⟨l.toArray⟩)):=by
 obtain⟨f,c,k,d⟩:=h;have m:=c.cell i (d i _ (aR hi));refine⟨⟨f.set i (.string ⟨l.toArray⟩),c.set i _,by simpa using k,fun j t a=> ?_⟩,Keep.put m (NoInt.string _) _,fun g n=>Below.heap_setCell _ ⟨b,i,none⟩ _ g n,by simp,rfl,rfl,rfl⟩;by_cases e:i=j
 ·subst e;rw[gP hi] at a;injection a with a;subst a;rw[gP (by omega)]
 ·rw[lI e] at a⊢;exact d j t a
end
def dxQ(a:List Rat)(v:Value)(w:World)(P:Glob w)(hv:RatsAt w v a)(K:Nat)(Q:∀q∈a,RL K q)(S:K<=1073741824)(hl:a.length<=1073741824):
  Calls prog 70 #[v] w fun e w'=>∃N,e= .returned N∧StrsAt w' N (a.map cW)∧Below w.1.size w w':=by
 obtain⟨A,c,rfl,hc⟩:=hv.form;have J:(a.map cW).length=a.length:=cH _;have h:=aB J;clear J;go_enter func70,ntmps70;go_wp2_with (at_make;refine jT rfl rfl 9 _ 1 16 underlying25 czR rfl (by decide) a.length rfl rfl rfl rfl (by omega) (by omega) ?_;intro w1 X G x);have t:=OwnS.made G;clear G X;go_loopg [11] a.length (fun k i wr=>∃j,Hid (j+k=a.length)∧i= .int .i64 j∧OwnS wr w.1.size ((a.map cW).take j++List.replicate k [])∧Below w.1.size w wr)
 case atStart=>exact⟨0,by unfold Hid;omega,rfl,by simpa using t,x⟩
 case round=>
  clear t x;obtain⟨j,g,rfl,R,f⟩:=hrel;generalize wr=n at *;have ac:(0:Int)<=(j:Int):=by omega
  cases gk with
  |zero=>
   have V:j=a.length:=g.out;subst V;rw[aq8,fH,cZ (by rw[h.out];exact aE)] at R;have H:=R.strs a.length (by rw[h.out];exact aE);rw[h.out] at H;go_wp2;go_ret;exact⟨_,rfl,H,f⟩
  |succ k=>
   obtain⟨q,l⟩:∃q,a[j]? =some q:=⟨_,aR (by have:=g.out;omega)⟩;obtain⟨b,s,B,m,d,M,r,L,u,rfl,ab,g0,g1,g2,g3,p⟩:=(hv.be f).at_ l;have T:=Q q (dG l);have ad:(j:Int)<(a.length:Int):=by have:=g.out;omega
   have I:(a.map cW)[j]? =some (cW q):=by rw[iK,l];rfl
   have C:=rI (ys:=a.map cW) (z:=([]:List UInt8)) (j:=j) (k:=k+1) (by rw[h.out];exact g.out);have D:=rH (z:=([]:List UInt8)) (k:=k) I;have E:j<((a.map cW).take j++List.replicate (k+1) []).length:=by rw[C,h.out];have:=g.out;omega
   have O:=aB D;clear I C D l;go_wp2_with fail;have o:Below n.1.size n (n.alloc (.cells #[.bool s,.slice B m d,.bool M,.slice r L u] 86)):=(aG _ _).alloc aE _;replace p:=p.be o;replace R:=R.be o;replace f:=aC f o;generalize n.alloc (.cells #[.bool s,.slice B m d,.bool M,.slice r L u] 86)=wa at *;refine(I4 q _ _ (P.be f) p K T S).mono ?_;rintro Z w2 ⟨rfl,y⟩;replace R:=R.be y;replace f:=aC f y;have q0:=R.at_ (aR E);have f0:=R.free j;generalize cW q=Y at *;go_wp2_with fail;obtain⟨F,W⟩:=R.stored E Y;rw[O.out] at F;have U:=jD f W aE;go_roundg k
   case rel=>exact⟨j+1,by have:=g.out;unfold Hid;omega,by go_num,F,U⟩
   case measure=>omega
abbrev Z0:Obj:= .cells #[.bool false,.slice none 0 0] 77
class St(a:outParam World)(b:World):Prop where
 out:Below a.1.size a b
instance(w:World)(o:Obj):St w (w.alloc o):=⟨(aG _ _).alloc aE _⟩
instance(w:World):St w w.drew:=⟨(aG _ _).drew⟩
class Up(a b:World):Prop where
 out:Below a.1.size a b
instance(a:World):Up a a:=⟨aG _ _⟩
instance(a b c:World)[s:St b c][u:Up a b]:Up a c:=⟨u.out.trans (s.out.mono u.out.size)⟩
class Nw(a:World)(g:Nat):Prop where
 out:a.1.size<=g
instance(a b:World)[u:Up a b]:Nw a b.1.size:=⟨u.out.size⟩
instance(a b:World)[u:Up a b]:Nw a (b.1.size+1):=⟨Nat.le_succ_of_le u.out.size⟩
instance(a b:World)(g o:Nat)(v:Value)[n:Nw a g][u:Up a b]:Up a (b.setCell ⟨g,o,none⟩ v):=⟨u.out.setCell (p:=⟨g,o,none⟩) n.out v⟩
section
variable {a b:World}[u:Up a b]
def NatAt.up(h:NatAt a v n):NatAt b v n:=h.be u.out
def IntAt.up{n:Int}(h:IntAt a v n):IntAt b v n:=h.be u.out
def RatAt.up{n:Rat}(h:RatAt a v n):RatAt b v n:=h.be u.out
def WholeAt.up{n:List Int}(h:WholeAt a v n):WholeAt b v n:=h.be u.out
def StrsAt.up{n:List (List UInt8)}(h:StrsAt a v n):StrsAt b v n:=h.be u.out
def RatsAt.up{n:List Rat}(h:RatsAt a v n):RatsAt b v n:=h.be u.out
def Bx.up{cs:List Value}(h:Bx a g cs t):Bx b g cs t:=h.be u.out
def OwnW.up{n:List Int}(h:OwnW a g n):OwnW b g n:=h.be u.out
def OwnS.up{n:List (List UInt8)}(h:OwnS a g n):OwnS b g n:=h.be u.out
def Glob.up(h:Glob a):Glob b:=h.be u.out
def bJ(h:Below w.1.size w a):Below w.1.size w b:=h.trans (u.out.mono h.size)
end
def dd{c d:Value}(h:Bx w g [c,d] t):(C2 w g c d∧Fz w g)∧(∀o:Obj,C2 (w.alloc o) g c d∧Fz (w.alloc o) g)∧g≠w.1.size∧w.1.size≠g:=
 ⟨h.g2,fun o=>(h.alloc o).g2,bxQ h.lt,Nat.ne_of_gt h.lt⟩
def IntsAt(w:World)(v:Value)(e:List Int):Prop:=∃A c,v= .slice A e.length c∧e.length<=c∧Rd .i64 w A e
def IntsAt.be(h:IntsAt w v e)(a:Below w.1.size w w'):IntsAt w' v e:=by
 obtain⟨A,c,hv,b,h⟩:=h;exact⟨A,c,hv,b,h.be a⟩
def IntsAt.up{a b:World}[u:Up a b](h:IntsAt a v e):IntsAt b v e:=h.be u.out
def IntsAt.form(h:IntsAt w v e):∃A c,v= .slice A e.length c∧e.length<=c:=by
 obtain⟨A,c,hv,a,_⟩:=h;exact⟨A,c,hv,a⟩
def IntsAt.at_{l:Nat}(h:IntsAt w (.slice A l c) e){x:Int}(hi:e[i]? =some x):∃b o,A=some ⟨b,o,none⟩∧b<w.1.size∧w.cell? ⟨b,o+i,none⟩=some (.int .i64 x):=by
 obtain⟨j,k,hv,n,h⟩:=h;injection hv with e1 e2 e3;subst e1;obtain⟨g,m⟩:=List.getElem?_eq_some_iff.1 hi;obtain⟨b,o,a,d,f⟩:=h.at_ (by omega);refine⟨b,o,a,d,?_⟩;rw[f i g,eF,hi];rfl
def Ex(e:List Int):Prop:=e.length<=1024∧∀x∈e,0<=x∧x<=1048576
def Ex.sum(h:Ex e)(k:Nat):0<=cF (e.take k)∧cF (e.take k)<=1073741824:=by
 refine⟨ezD fun x b=>(h.2 x (lH b)).1,?_⟩;have c:=fxU (a:=e.take k) (m:=1048576) (fun x b=>(h.2 x (lH b)).2);have d:(e.take k).length<=1024:=by rw[bK];have:=h.1;omega
 omega
def fxP(x y:Int)(w:World):Calls prog 139 #[.int .i64 x,.int .i64 y] w fun e w'=>e= .returned (.int .i64 (nA x y))∧w=w':=by
 have hn:∀z:Int,Calls prog 178 #[.int .i64 z] w fun e w'=>e= .returned (.bool false)∧w=w':=fun z=>by
  go_enter func178,ntmps178;go_wp2;go_ret;exact⟨rfl,rfl⟩
 unfold nA;by_cases a:x<y
 ·rw[if_pos a];go_enter func139,ntmps139;go_wp2_with (go_at_call 178;refine(hn _).mono ?_;rintro e w' ⟨rfl,rfl⟩);go_ret;exact⟨rfl,rfl⟩
 ·rw[if_neg a];by_cases b:y<x
  ·rw[if_pos b];go_enter func139,ntmps139;go_wp2_with (go_at_call 178;refine(hn _).mono ?_;rintro e w' ⟨rfl,rfl⟩);go_ret;exact⟨rfl,rfl⟩
  ·rw[if_neg b];go_enter func139,ntmps139;go_wp2_with (go_at_call 178;refine(hn _).mono ?_;rintro e w' ⟨rfl,rfl⟩);go_ret;exact⟨rfl,rfl⟩
def getD_some{x:Int}(h:e[i]? =some x):e.getD i 0=x:=by rw[eF,h];rfl
def fxQ(a b:List Int)(n:Nat){x y:Int}(d:a[n]? =some x)(e:b[n]? =some y):E1 a b (n+1)=if x=y then E1 a b n else nA y x:=by
 show(if a.getD n 0=b.getD n 0 then E1 a b n else if a.getD n 0<b.getD n 0 then 1 else -1)=_
 rw[getD_some d,getD_some e];unfold nA;by_cases h:x=y
 ·rw[if_pos h,if_pos h]
 ·rw[if_neg h,if_neg h];by_cases c:x<y
  ·rw[if_pos c,if_neg (by omega),if_pos c]
  ·rw[if_neg c,if_pos (by omega)]
def Drawn(w w':World):Prop:=∃n,w'=w.drewN n
def Drawn.refl(w:World):Drawn w w:=⟨0,rfl⟩
def Drawn.drew(h:Drawn w w'):Drawn w w'.drew:=by
 obtain⟨n,rfl⟩:=h;exact⟨n+1,rfl⟩
def Drawn.be(h:Drawn w w'):Below w.1.size w w':=by
 obtain⟨n,rfl⟩:=h;exact kI (aG _ _) n
def fxR(a b:List Int)(V X:Value)(w:World)(o:IntsAt w V a)(p:IntsAt w X b)(S:a.length=b.length)(E:Ex a)(T:Ex b):
  Calls prog 100 #[V,X] w fun e w'=>e= .returned (.int .i64 (eZ a b))∧Drawn w w':=by
 obtain⟨A,c,rfl,hc⟩:=o.form;obtain⟨B,d,rfl,hd⟩:=p.form;have t:=aB S;have J:=aB E;have K:=aB T;have af:=E.1;clear S E T;go_enter func100,ntmps100;go_wp2_with fail;go_loopg [5,6,12] a.length (fun k g h G wr=>∃(j:Nat),Hid (j+k=a.length)∧g= .int .i64 (cF (a.take j))∧h= .int .i64 (cF (b.take j))∧G= .int .i64 j∧w=wr)
 case atStart=>exact⟨0,by unfold Hid;omega,rfl,rfl,rfl,rfl⟩
 case round=>
  obtain⟨j,s,rfl,rfl,rfl,rfl⟩:=hrel;have ab:(0:Int)<=(j:Int):=by omega
  obtain⟨s1,s2⟩:=J.out.sum j;obtain⟨s3,s4⟩:=K.out.sum j;cases gk with
  |succ k=>
   have ac:j<a.length:=by have:=s.out;omega
   have C:j<b.length:=by have:=t.out;omega
   have q1:(j:Int)<(a.length:Int):=by omega
   have q2:(j:Int)<(b.length:Int):=by omega
   obtain⟨x,i⟩:∃x,a[j]? =some x:=⟨_,aR ac⟩;obtain⟨y,l⟩:∃y,b[j]? =some y:=⟨_,aR C⟩;obtain⟨u,F,rfl,la,v⟩:=o.at_ i;obtain⟨L,U,rfl,lb,M⟩:=p.at_ l;obtain⟨x1,x2⟩:=J.out.2 x (dG i);obtain⟨y1,y2⟩:=K.out.2 y (dG l);have O:=Y8 i;have P:=Y8 l;have H:=aB (And.intro O P);clear O P i l;generalize cF (a.take j)=g at *;generalize cF (b.take j)=h at *;go_wp2;go_roundg k
   case rel=>exact⟨j+1,by have:=s.out;unfold Hid;omega,by rw[H.out.1],by rw[H.out.2],by go_num,rfl⟩
   case measure=>omega
  |zero=>
   have R:j=a.length:=s.out;have f:Hid (eZ a b=if cF (a.take j)=cF (b.take j) then E1 a b a.length else nA (cF (a.take j)) (cF (b.take j))):=by
    unfold Hid eZ;rw[R,aq9,show b.take a.length=b by rw[t.out,aq9]]
   subst R;generalize cF (a.take a.length)=g at *;generalize cF (b.take a.length)=h at *;by_cases r:g=h
   ·subst r;replace f:Hid (eZ a b=E1 a b a.length):=by unfold Hid;rw[f.out,if_pos rfl]
    go_wp2_with fail;have Q:=Drawn.refl w;go_loopg [9] (a.length+1) (fun k G wr=>∃(j:Nat),Hid (j+1=k)∧G= .int .i64 ((j:Int)-1)∧j<=a.length∧Hid (eZ a b=E1 a b j)∧Drawn w wr)
    case atStart=>exact⟨a.length,rfl,rfl,aE,f,Q⟩
    case round=>
     clear f Q;obtain⟨j,I,rfl,ae,f,q⟩:=hrel;generalize wr=wy at *;replace o:=o.be q.be;replace p:=p.be q.be;cases j with
     |zero=>
      go_wp2;go_ret;rw[f.out];exact⟨rfl,q⟩
     |succ j=>
      have N:((j+1:Nat):Int)-1=(j:Int):=by omega
      rw[N];clear N;have ab:(0:Int)<=(j:Int):=by omega
      have C:j<b.length:=by have:=t.out;omega
      have q1:(j:Int)<(a.length:Int):=by omega
      have q2:(j:Int)<(b.length:Int):=by omega
      obtain⟨x,i⟩:∃x,a[j]? =some x:=⟨_,aR (by omega)⟩;obtain⟨y,l⟩:∃y,b[j]? =some y:=⟨_,aR C⟩;obtain⟨u,F,rfl,la,v⟩:=o.at_ i;obtain⟨L,U,rfl,lb,M⟩:=p.at_ l;have n:=fxQ a b j i l;clear i l;by_cases D:x=y
      ·subst D;rw[if_pos rfl] at n;replace f:Hid (eZ a b=E1 a b j):=by unfold Hid;rw[f.out,n]
       clear n;go_wp2_with fail;go_region
       all_goals (
        go_wp2_with fail;obtain⟨gk,rfl⟩:∃m,gk=m+1:=⟨gk-1,by have:=I.out;omega⟩;go_roundg gk
        case rel=>exact⟨j,by have:=I.out;unfold Hid;omega,rfl,by omega,f,q.drew⟩
        case measure=>omega)
      ·rw[if_neg D] at n;have Y:Hid (eZ a b=nA y x):=by unfold Hid;rw[f.out,n]
       have r:(x != y)=true:=by simpa using D
       clear n f;have z:=fun W=>fxP y x W;generalize nA y x=Z at *;have ad:wy.drew.cell? ⟨u,F+j,none⟩=some (.int .i64 x):=v;go_wp2_with fail;go_region
       all_goals (
        go_wp2_with fail
        go_region_held3 (fun w'=>w'.cell? ⟨u,F+j,none⟩=some (.int .i64 x)∧w'.cell? ⟨L,U+j,none⟩=some (.int .i64 y)) (exact⟨v,M⟩)
         (first
          |(go_at_call 139;refine(z _).mono ?_;rintro e w' ⟨rfl,rfl⟩)))
       all_goals (
        go_wp2;go_ret;rw[Y.out];exact⟨rfl,q.drew.drew⟩)
   ·replace f:Hid (eZ a b=nA g h):=by unfold Hid;rw[f.out,if_neg r]
    have z:=fun W=>fxP g h W;have ag:(g != h)=true:=by simpa using r
    generalize nA g h=Z at *;go_wp2_with (go_at_call 139;refine(z _).mono ?_;rintro e w' ⟨rfl,rfl⟩);go_ret;rw[f.out];exact⟨rfl,Drawn.refl _⟩
def fzV(a b:List Int)(c d:Value)(w:World)(f:IntsAt w c a)(g:IntsAt w d b)(i:a.length=b.length)(j:Ex a)(k:Ex b):
  Calls prog 100 #[c,d] w fun e w'=>e= .returned (.int .i64 (eZ a b))∧Below w.1.size w w':=(fxR a b c d w f g i j k).mono fun _ _ h=>⟨h.1,h.2.be⟩
def fxS{x s:Int}(h:e[j]? =some x):tM s (e.drop j)=if x<0∨24-s<x then -1 else tM (s+x) (e.drop (j+1)):=by
 obtain⟨a,rfl⟩:=List.getElem?_eq_some_iff.1 h;rw[j5 a];rfl
def fxT(e:List Int)(v:Value)(w:World)(hv:IntsAt w v e)(p:∀x∈e, -9223372036854775808<=x∧x<=9223372036854775807):
  Calls prog 41 #[v] w fun r w'=>r= .returned (.int .i64 (gX e))∧w=w':=by
 obtain⟨A,c,rfl,H⟩:=hv.form;have u:=aB p;unfold gX;clear p;go_enter func41,ntmps41;by_cases m:6<e.length
 ·have C:(6:Int)<(e.length:Int):=by omega
  rw[if_pos m];go_wp2;go_ret;exact⟨rfl,rfl⟩
 ·have C:¬(6:Int)<(e.length:Int):=by omega
  rw[if_neg m];obtain⟨V,i⟩:∃V,tM 0 e=V:=⟨_,rfl⟩;rw[i];have l:=aB i;clear i;go_wp2_with fail;go_loopg [3,11] e.length (fun k E D wr=>∃(j:Nat) (s:Int),Hid (j+k=e.length)∧E= .int .i64 s∧D= .int .i64 j∧0<=s∧s<=24∧Hid (tM s (e.drop j)=V)∧w=wr)
  case atStart=>exact⟨0,0,by unfold Hid;omega,rfl,rfl,by decide,by decide,l,rfl⟩
  case round=>
   clear l;obtain⟨j,s,h,rfl,rfl,L,M,g,rfl⟩:=hrel;have I:(0:Int)<=(j:Int):=by omega
   cases gk with
   |zero=>
    have n:j=e.length:=h.out;have t:Hid (s=V):=by
     have:=g.out;rw[n,azY] at this;exact this
    subst n;go_wp2;go_ret;rw[<-t.out];exact⟨rfl,rfl⟩
   |succ k=>
    have B:j<e.length:=by have:=h.out;omega
    have K:(j:Int)<(e.length:Int):=by omega
    obtain⟨x,f⟩:∃x,e[j]? =some x:=⟨_,aR B⟩;obtain⟨b,o,rfl,J,F⟩:=hv.at_ f;obtain⟨N,O⟩:=u.out x (dG f);have q:=fxS (s:=s) f;have a:=g.out;rw[q] at a;clear q f g;by_cases y:x<0
    ·rw[if_pos (.inl y)] at a;have d:=aB a;clear a;go_wp2;go_ret;rw[<-d.out];exact⟨rfl,rfl⟩
    ·have G:0<=x:=by omega
     by_cases z:24-s<x
     ·rw[if_pos (.inr z)] at a;have d:=aB a;clear a;go_wp2;go_ret;rw[<-d.out];exact⟨rfl,rfl⟩
     ·rw[if_neg (by omega)] at a;have d:=aB a;clear a;go_wp2;go_roundg k
      case rel=>exact⟨j+1,s+x,by have:=h.out;unfold Hid;omega,rfl,by go_num,by omega,by omega,d,rfl⟩
      case measure=>omega
def eqO(e:List Int)(v:Value)(w:World)(hv:IntsAt w v e)(a:∀x∈e, -9223372036854775808<=x∧x<=9223372036854775807):
  Calls prog 47 #[v] w fun r w'=>r= .returned (.bool (decide (0<=gX e)))∧w=w':=by
 have h:=fxT e v w hv a;obtain⟨A,c,rfl,b⟩:=hv.form;generalize gX e=d at *;go_enter func47,ntmps47;go_wp2_with (go_at_call 41;refine h.mono ?_;rintro e w' ⟨rfl,rfl⟩);go_ret;exact⟨rfl,rfl⟩
abbrev C5(w:World)(b:Nat)(v0 v1 v2 v3 v4:Value):Prop:=w.cell? ⟨b,0,none⟩=some v0∧w.cell? ⟨b,1,none⟩=some v1∧w.cell? ⟨b,2,none⟩=some v2∧w.cell? ⟨b,3,none⟩=some v3∧w.cell? ⟨b,4,none⟩=some v4
abbrev C6(w:World)(b:Nat)(v0 v1 v2 v3 v4 a:Value):Prop:=w.cell? ⟨b,0,none⟩=some v0∧w.cell? ⟨b,1,none⟩=some v1∧w.cell? ⟨b,2,none⟩=some v2∧w.cell? ⟨b,3,none⟩=some v3∧w.cell? ⟨b,4,none⟩=some v4∧w.cell? ⟨b,5,none⟩=some a
abbrev C8(w:World)(b:Nat)(v0 v1 v2 v3 v4 a c d:Value):Prop:=w.cell? ⟨b,0,none⟩=some v0∧w.cell? ⟨b,1,none⟩=some v1∧w.cell? ⟨b,2,none⟩=some v2∧w.cell? ⟨b,3,none⟩=some v3∧w.cell? ⟨b,4,none⟩=some v4∧w.cell? ⟨b,5,none⟩=some a∧w.cell? ⟨b,6,none⟩=some c∧w.cell? ⟨b,7,none⟩=some d
section
variable {w W:World}{b g o B:Nat}{t:TypeId}{v0 v1 v2 v3 v4 u:Value}{cs:List Value}
def Bx.k5(h:Bx w b [v0,v1,v2,v3,v4] t):C5 w b v0 v1 v2 v3 v4:=⟨h.cell 0 rfl,h.cell 1 rfl,h.cell 2 rfl,h.cell 3 rfl,h.cell 4 rfl⟩
def Bx.k6{v0 v1 v2 v3 v4 a:Value}(h:Bx w b [v0,v1,v2,v3,v4,a] t):C6 w b v0 v1 v2 v3 v4 a:=⟨h.cell 0 rfl,h.cell 1 rfl,h.cell 2 rfl,h.cell 3 rfl,h.cell 4 rfl,h.cell 5 rfl⟩
def Bx.g6{v0 v1 v2 v3 v4 a:Value}(h:Bx w b [v0,v1,v2,v3,v4,a] t):C6 w b v0 v1 v2 v3 v4 a∧Fz w b:=⟨h.k6,h.free⟩
def Bx.k8{v0 v1 v2 v3 v4 a c d:Value}(h:Bx w b [v0,v1,v2,v3,v4,a,c,d] t):C8 w b v0 v1 v2 v3 v4 a c d:=⟨h.cell 0 rfl,h.cell 1 rfl,h.cell 2 rfl,h.cell 3 rfl,h.cell 4 rfl,h.cell 5 rfl,h.cell 6 rfl,h.cell 7 rfl⟩
def Bx.g8{v0 v1 v2 v3 v4 a c d:Value}(h:Bx w b [v0,v1,v2,v3,v4,a,c,d] t):C8 w b v0 v1 v2 v3 v4 a c d∧Fz w b:=⟨h.k8,h.free⟩
def NatAt.puti(h:NatAt w u n){c:Int}(a:w.cell? p=some (.int .i64 c))(v:Value):NatAt (w.setCell p v) u n:=by
 obtain⟨A,f,hv,j,d,q⟩:=h;refine⟨A,f,hv,j,?_,q.mono (by simp)⟩;rcases d with d|⟨b,r,rfl,m,k⟩
 ·exact .inl d
 ·refine .inr ⟨b,r,rfl,by simpa using m,fun i l=> ?_⟩;have e:=k i l;rw[World.cell?_setCell_other _ _ _ _ ?_,e];rintro rfl;rw[e] at a;injection a with a;injection a with a;cases a
def Keep.puti{c:Int}(a:w.cell? p=some (.int .i64 c))(v:Value):Keep w (w.setCell p v):=fun _ _ h=>h.puti a v
def Bx.put5(h:Bx W b cs t)(D:Below B w W)(c:B<=b)(v0 v1 v2 v3 v4:Value){e f i j:Value}{k:Int}(E:cs=[e,f,i,j,.int .i64 k])(hn:(cS (some e)&&(cS (some f)&&(cS (some i)&&cS (some j))))=true):
  ∃a,((((W.setCell ⟨b,0,none⟩ v0).setCell ⟨b,1,none⟩ v1).setCell ⟨b,2,none⟩ v2).setCell ⟨b,3,none⟩ v3).setCell ⟨b,4,none⟩ v4=a∧Bx a b [v0,v1,v2,v3,v4] t∧Below B w a∧Keep W a∧∀{g:Nat} {cs:List Value} {t:TypeId},Bx W g cs t->b≠g->Bx a g cs t:=by
 subst E;simp only[az7] at hn;obtain⟨J,rfl,z,m,F,s⟩:=h.put1 D c 0 v0 hn.1;obtain⟨K,rfl,A,n,G,v⟩:=z.put1 m c 1 v1 hn.2.1;obtain⟨L,rfl,C,q,H,x⟩:=A.put1 n c 2 v2 hn.2.2.1;obtain⟨M,rfl,l,r,I,y⟩:=C.put1 q c 3 v3 hn.2.2.2;exact⟨_,rfl,l.set 4 v4,r.setCell (p:=⟨b,4,none⟩) c v4,(((F.trans G).trans H).trans I).trans (Keep.puti (l.cell 4 rfl) v4),fun k d=>(y (x (v (s k d) d) d) d).far 4 v4 d⟩
end
def EndAt(w:World)(v:Value)(i:Int)(x:Rat):Prop:=∃s A k c e a d c',v= .agg #[.bool s,.slice A k c,.bool e,.slice a d c',.int .i64 i]∧RatAt w (.agg #[.bool s,.slice A k c,.bool e,.slice a d c']) x
def EndAt.be{i:Int}(h:EndAt w v i x)(f:Below w.1.size w W):EndAt W v i x:=by
 obtain⟨s,A,k,c,l,a,j,d,e,h⟩:=h;exact⟨s,A,k,c,l,a,j,d,e,h.be f⟩
def EndAt.up{a b:World}[u:Up a b]{i:Int}(h:EndAt a v i x):EndAt b v i x:=h.be u.out
def EndAt.form{i:Int}(h:EndAt w v i x):∃s A k c f a d c',v= .agg #[.bool s,.slice A k c,.bool f,.slice a d c',.int .i64 i]:=by
 obtain⟨s,A,k,c,f,a,d,c',e,h⟩:=h;exact⟨s,A,k,c,f,a,d,c',e⟩
def EndAt.rat{f:Bool}{a:Option Addr}{i:Int}(h:EndAt w (.agg #[.bool s,.slice A k c,.bool f,.slice a d c',.int .i64 i]) i x):RatAt w (.agg #[.bool s,.slice A k c,.bool f,.slice a d c']) x:=by
 obtain⟨s,A,k,c,f,a,d,c',e,h⟩:=h;simp only[Value.agg.injEq,Array.mk.injEq,List.cons.injEq,Value.bool.injEq,Value.slice.injEq] at e;obtain⟨rfl,⟨rfl,rfl,rfl⟩,rfl,⟨rfl,rfl,rfl⟩, -⟩:=e;exact h
def EndAt.of{e:Bool}{a:Option Addr}{i:Int}(h:RatAt w (.agg #[.bool s,.slice A k c,.bool e,.slice a d c']) x):EndAt w (.agg #[.bool s,.slice A k c,.bool e,.slice a d c',.int .i64 i]) i x:=⟨_,_,_,_,_,_,_,_,rfl,h⟩
