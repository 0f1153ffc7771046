/-
  Contracts, laws: AppC.
-/
import Derived.Test.YthfnenohhindpaaGreatDoorC26
set_option linter.all false
set_option maxHeartbeats 8000000
set_option maxRecDepth 100000
namespace Go.Proofs.YthfnenohhindpaaGreatDoor
open Go.RowKit Sos
def PowA (w:World) (v:Value) (us:List Value):Prop:=∃A c,v= .slice A us.length c∧us.length<=c∧Old w A∧(us.length=0∨∃b off,A=some ⟨b,off,none⟩∧VC w b off us)∧∀i u,us[i]? =some u->NatAt w u (10^(19*2^i))
def PowFree (a v:Value) (us:List Value):Prop:=Apart a v∧∀u∈us,Apart a u
theorem Old.block {w:World} {A:Option Addr} {n c g:Nat} (h:Old w A) (e:(Value.slice A n c).ownBlock=some g):g<w.heap.size:=by
 cases A with
 |none=>simp[Value.ownBlock] at e
 |some a=>have:=h a rfl;simp[Value.ownBlock] at e;omega
theorem PowA.below {w w':World} {v:Value} {us:List Value} (h:PowA w v us) (a:Below w.heap.size w w'):PowA w' v us:=by
 obtain⟨A,c,hv,f,d,e,j⟩:=h;refine⟨A,c,hv,f,d.mono a.size,?_,fun i u h=>(j i u h).below a⟩;rcases e with h|⟨b,k,rfl,g⟩
 ·exact .inl h
 ·exact .inr ⟨b,k,rfl,g.below a (d _ rfl)⟩
theorem PowA.txt {w w':World} {v a b:Value} {us:List Value} (h:PowA w v us) (d:TxtTo w a w' b) (f:PowFree a v us):PowA w' v us∧PowFree b v us:=by
 obtain⟨A,c,rfl,o,j,n,m⟩:=h;refine⟨⟨A,c,rfl,o,j.mono d.1.size,?_,fun i u h=>(m i u h).txt d (f.2 u (cH h))⟩,?_,fun u l=> ?_⟩
 ·rcases n with h|⟨k,r,rfl,p⟩
  ·exact .inl h
  ·exact .inr ⟨k,r,rfl,p.grown d.1 (j _ rfl) (fun e=>f.1 k e rfl)⟩
 ·exact d.apart f.1 (fun g e=>j.block e)
 ·obtain⟨i,q⟩:=List.getElem?_of_mem l;exact d.apart (f.2 u l) (fun g e=>(m i u q).block e)
theorem PowA.cut {w:World} {A:Option Addr} {c k:Nat} {us:List Value} (h:PowA w (.slice A k c) us) (q:us.length=k) {j:Nat} (p:j<=k):PowA w (.slice A j c) (us.take j):=by
 obtain⟨m,n,hv,o,f,a,g⟩:=h;simp only[Value.slice.injEq] at hv;obtain⟨rfl, -,rfl⟩:=hv;have e:(us.take j).length=j:=by rw[aZ];omega
 refine⟨A,c,by rw[e],by omega,f,?_,fun i u h=>g i u (by rw[List.getElem?_take] at h;split at h;exact h;cases h)⟩;rcases a with h|⟨b,l,rfl,d⟩
 ·exact .inl (by omega)
 ·exact .inr ⟨b,l,rfl,d.take j⟩
theorem Apart.same {b:Value} {A:Option Addr} {n c f c':Nat} (h:Apart b (.slice A n c)):Apart b (.slice A f c'):=by
 intro g d e;refine h g d ?_;cases A with
 |none=>simp[Value.ownBlock] at e
 |some a=>simpa [Value.ownBlock] using e
theorem PowFree.cut {a:Value} {A:Option Addr} {n c d c' j:Nat} {us:List Value} (h:PowFree a (.slice A n c) us):PowFree a (.slice A d c') (us.take j):=
 ⟨h.1.same,fun u b=>h.2 u (List.mem_of_mem_take b)⟩
theorem DX (j:Nat) (a:1<=j):nl (10^(19*j))<=j:=by
 refine bW ?_;rw[Nat.pow_mul];exact Nat.pow_lt_pow_left (by decide) (by omega)
def xC (N:Nat):Prop:=∀(k B:Nat) (a:Value) (bs:List UInt8) (x b:Nat) (d c:Value) (us:List Value) (w:World),k<N->k<=36->us.length=k->GlobB B w->B<=w.heap.size->TxtAt w B a bs->NatAt w d x->PowA w c us->Apart a d->PowFree a c us->
 nl x<=274877906944->bs.length+(cV b x).length<=8796093022208->(b=0∨b=19*2^k)->
 Calls Tryz.prog 203 #[a,d,.int .i64 b,c] w fun e w'=>∃v,e= .returned v∧TxtAt w' B v (bs++cV b x)∧TxtTo w a w' v
theorem OB (N:Nat) (ih:xC N):xC (N+1):=by
 intro k B i r x a vx vp us w hN bi Z hG U ht C hp an ap bv hT hw;have bu:a<=(cV a x).length:=by rw[oY];omega
 have H:=OQ B i r x a vx w hG U ht C (by omega) (by omega) (by omega);have HP:=aB hp;have ai:=aB Z;obtain⟨A,c,av,hc,ho,T,hu⟩:=hp;rw[Z] at av hc T;subst av;by_cases q:k=0∨nl x<=30
 ·obtain⟨Ax,cx,ag,_,_,_⟩:=id C;subst ag;clear Z;rcases q with rfl|q
  ·go_enter Tryz.func203,Tryz.ntmps203;go_wp2_with fail;refine H.mono ?_;rintro e m ⟨v1,rfl,t,f⟩;go_wp2;go_ret;exact⟨_,rfl,t,f⟩
  ·have bq:(nl x:Int)<=30:=by omega
   by_cases a4:k=0
   ·subst a4;go_enter Tryz.func203,Tryz.ntmps203;go_wp2_with fail;refine H.mono ?_;rintro e m ⟨v1,rfl,t,f⟩;go_wp2;go_ret;exact⟨_,rfl,t,f⟩
   ·go_enter Tryz.func203,Tryz.ntmps203;go_wp2_with fail;refine H.mono ?_;rintro e m ⟨v1,rfl,t,f⟩;go_wp2;go_ret;exact⟨_,rfl,t,f⟩
 ·obtain⟨l,rfl⟩:∃l,k=l+1:=⟨k-1,by omega⟩;have br:¬(nl x:Int)<=30:=by omega
  obtain⟨b,J,rfl,au⟩:=T.resolve_left (by omega);obtain⟨u,G⟩:∃u,us[l]? =some u:=⟨_,aL (by omega)⟩;have g:=au l u G;have aq:=hu l u G;have am:Apart i u:=ap.2 u (cH G);have a8:=DX (2^l) (Nat.pow_pos (by decide));have a5:2^l<=2^36:=cE (by decide) (by omega);have bj:(2:Nat)^36=68719476736:=by decide
  obtain⟨S,bg,O,bc,bf⟩:=wR l (by omega);rw[<-O.out] at aq a8;have bm:nl (10^S)<=68719476736:=by omega
  have a0:0<10^S:=Nat.pow_pos (by decide);have ay:=aB (Nat.div_add_mod x (10^S));have a6:x%10^S<10^S:=Nat.mod_lt _ a0;have bo:nl (x/10^S)<=nl x:=bX (Nat.div_le_self _ _);have bp:nl (x%10^S)<=nl x:=bX (Nat.mod_le _ _);have I:a=0∨a=S+S:=by
   rcases hw with h|h
   ·exact .inl h
   ·right;rw[h,cU,O.out];omega
  have al:Hid (x/10^S≠0∨S<=a->cV a x=cV (a-S) (x/10^S)++cV S (x%10^S)):=by
   intro h;have:=DF (w:=a) (hi:=x/10^S) (lo:=x%10^S) (d:=S) a6 h;rw[dD,Nat.div_add_mod] at this;exact this
  have a1:(10^S:Nat)≠0:=by omega
  generalize hQ:10^S=P at *;have HQ:=aB hQ;obtain⟨Ax,cx,ag,_,_,bn⟩:=id C;have HW:=aB hw;clear hQ hu au q G T a5 hw;subst ag;have ad:=ht.lt;have ao:=qK x P _ _ _ C aq a1 (by unfold aI;omega);go_enter Tryz.func203,Tryz.ntmps203;go_wp2_with fail;refine ao.mono ?_;rintro e m ⟨vq,K,rfl,hq,hr,fq,fr,y⟩;have a2:Apart i vq:=fun g o=>fq.ne2 (ad g o).2 (an g o) (am g o);have X:Apart i K:=fun g o=>fr.ne2 (ad g o).2 (an g o) (am g o);have V:GlobB B m:=hG.on (y.mono U);have E:B<=m.heap.size:=aG U y.size;have ar:=ht.below y;have ab:=(HP.out.below y).cut ai.out (show l<=l+1 by omega);have Y:PowFree i (.slice (some ⟨b,J,none⟩) l c) (us.take l):=ap.cut;have ae:(us.take l).length=l:=by rw[aZ];have:=ai.out;omega
  have af:TxtTo w i m i:=TxtTo.below y;have bk:l<=c:=by omega
  obtain⟨Aq,cq,ba,_,_,_⟩:=id hq;subst ba;have az:=aB hq;clear ao hq H C;have W:S=19*2^l:=O.out;have aw:(x/P≠0∨S<=a)->Calls Tryz.prog 203 #[i,.slice Aq (nl (x/P)) cq,.int .i64 ((a-S:Nat):Int),.slice (some ⟨b,J,none⟩) l c] m (fun e D=>∃v,e= .returned v∧TxtAt D B v (r++cV (a-S) (x/P))∧TxtTo m i D v):=by
   intro h;have q:=al.out h;have ac:=congrArg List.length q;rw[aY] at ac;exact ih l B i r (x/P) (a-S) _ _ (us.take l) m (by omega) (by omega) ae V E ar az.out ab a2 Y (by omega) (by omega) (by rcases I with h|h<;>omega)
  have ax:(x/P≠0∨S<=a)->∀j n,TxtAt n B j (r++cV (a-S) (x/P))->TxtTo m i n j->Calls Tryz.prog 203 #[j,K,.int .i64 S,.slice (some ⟨b,J,none⟩) l c] n (fun e D=>∃v,e= .returned v∧TxtAt D B v (r++cV a x)∧TxtTo n j D v):=by
   intro h j n f z;have q:=al.out h;have ac:=congrArg List.length q;rw[aY] at ac;obtain⟨a9,a3⟩:=ab.txt z Y;have:=ih l B j (r++cV (a-S) (x/P)) (x%P) S K _ (us.take l) n (by omega) (by omega) ae (V.on (z.belowB E (fun g o=>(ad g o).1))) (aG E z.1.size) f (hr.txt z X) a9 (z.apart X (fun g e=>hr.block e)) a3 (by omega) (by rw[aY];omega) (.inr W);rw[List.append_assoc,<-q] at this;exact this
  have aj:=aB aw;have ak:=aB ax;have bb:=aB W;clear aw ax W;by_cases p:x/P=0
  ·have q0:((nl (x/P):Int)==0)=true:=by rw[p,dC];rfl
   rcases I with rfl|I
   ·have ah:x%P=x:=by have:=ay.out;rw[p] at this;omega
    have F:=ih l B i r (x%P) 0 K (.slice (some ⟨b,J,none⟩) l c) (us.take l) m (by omega) (by omega) ae V E ar hr ab X Y (by omega) (by rw[ah];exact hT) (.inl rfl);rw[ah] at F;simp only[Int.natCast_zero] at F;have HC:=aB F;clear F ah p;go_wp2_with fail;refine HC.out.mono ?_;rintro e n ⟨j,rfl,f,s⟩;go_wp2;go_ret;exact⟨_,rfl,f,af.trans s⟩
   ·have bt:((a:Int)==0)=false:=by simp;omega
    have bh:S<=a:=by omega
    clear I;have a7:max ((a:Int)-(S:Int)) 0=((a-S:Nat):Int):=by omega
    have L:=aB (aj.out (.inr (by omega)));have M:=aB (ak.out (.inr (by omega)));clear p;generalize a-S=w0 at *;go_wp2_with fail;refine L.out.mono ?_;rintro e n ⟨j,rfl,f,s⟩;go_wp2_with fail;refine(M.out j n f s).mono ?_;rintro e w3 ⟨v3,rfl,Q,R⟩;go_wp2;go_ret;exact⟨_,rfl,Q,(af.trans s).trans R⟩
  ·have q0:((nl (x/P):Int)==0)=false:=by have:=fI p;simp;omega
   have a7:max ((a:Int)-(S:Int)) 0=((a-S:Nat):Int):=by omega
   have L:=aB (aj.out (.inl p));have M:=aB (ak.out (.inl p));clear p;generalize a-S=w0 at *;go_wp2_with fail;refine L.out.mono ?_;rintro e n ⟨j,rfl,f,s⟩;go_wp2_with fail;refine(M.out j n f s).mono ?_;rintro e w3 ⟨v3,rfl,Q,R⟩;go_wp2;go_ret;exact⟨_,rfl,Q,(af.trans s).trans R⟩
theorem OC (N:Nat):xC N:=by
 induction N with
 |zero=>intro k B c b x f e d us w h;omega
 |succ N a=>exact OB N a
theorem OD (B:Nat) (a:Value) (bs:List UInt8) (x:Nat) (c b:Value) (us:List Value) (w:World) (j:us.length<=36) (f:GlobB B w) (d:B<=w.heap.size) (l:TxtAt w B a bs) (m:NatAt w c x) (k:PowA w b us) (h:Apart a c) (i:PowFree a b us)
  (n:nl x<=274877906944) (g:bs.length+(cV 0 x).length<=8796093022208):
  Calls Tryz.prog 203 #[a,c,.int .i64 0,b] w fun e w'=>∃v,e= .returned v∧TxtAt w' B v (bs++cV 0 x)∧TxtTo w a w' v:=by
 have:=OC (us.length+1) us.length B a bs x 0 c b us w (Nat.lt_succ_self _) j rfl f d l m k h i n g (.inl rfl);simpa only[Int.natCast_zero] using this
