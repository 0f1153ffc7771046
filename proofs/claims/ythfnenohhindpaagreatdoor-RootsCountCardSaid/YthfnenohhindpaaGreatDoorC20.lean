/-
  Contracts, laws: DecP, RatP, SgnP, NumM, NumK.
-/
import Derived.Test.YthfnenohhindpaaGreatDoorC01
import Derived.Lib.ItoaNum
set_option linter.all false
set_option maxHeartbeats 8000000
set_option maxRecDepth 100000
namespace Go.Proofs.YthfnenohhindpaaGreatDoor
open Sos Lib
def Digs (l:List UInt8):Prop:=∀c∈l,48<=c.toNat∧c.toNat<=57
def aM (l:List UInt8):Nat:=l.foldl (fun a c=>10*a+(c.toNat-48)) 0
theorem Digs.nil:Digs []:=fun _ h=>by cases h
theorem Digs.append {l m:List UInt8} (h:Digs l) (b:Digs m):Digs (l++m):=by
 intro c a;rcases List.mem_append.1 a with a|a
 ·exact h c a
 ·exact b c a
theorem Digs.left {l m:List UInt8} (h:Digs (l++m)):Digs l:=fun c a=>h c (List.mem_append_left _ a)
theorem Digs.right {l m:List UInt8} (h:Digs (l++m)):Digs m:=fun c a=>h c (List.mem_append_right _ a)
theorem Digs.take {l:List UInt8} (h:Digs l) (n:Nat):Digs (l.take n):=fun c a=>h c (List.mem_of_mem_take a)
theorem Digs.drop {l:List UInt8} (h:Digs l) (n:Nat):Digs (l.drop n):=fun c a=>h c (List.mem_of_mem_drop a)
theorem Digs.zeros (n:Nat):Digs (List.replicate n 48):=by
 intro c a;obtain⟨_,rfl⟩:=List.mem_replicate.1 a;exact⟨by decide,by decide⟩
theorem wU:aM []=0:=rfl
theorem m6 (l:List UInt8) (c:UInt8):aM (l++[c])=10*aM l+(c.toNat-48):=by
 unfold aM;rw[List.foldl_append];rfl
theorem wV {α:Type} {P:List α->Prop} (b:P []) (c:∀l a,P l->P (l++[a])) (l:List α):P l:=by
 have:∀m:List α,P m.reverse:=by
  intro m;induction m with
  |nil=>exact b
  |cons a m d=>rw[List.reverse_cons];exact c _ _ d
 have h:=this l.reverse;rwa [List.reverse_reverse] at h
theorem mT (l m:List UInt8):aM (l++m)=aM l*10^m.length+aM m:=by
 refine wV (P:=fun m=>aM (l++m)=aM l*10^m.length+aM m) ?_ ?_ m
 ·simp[wU]
 ·intro m a b;rw[<-List.append_assoc,m6,m6,b,aY,List.length_singleton,cU];grind
theorem qM {l:List UInt8} (h:Digs l):aM l<10^l.length:=by
 revert h;refine wV (P:=fun l=>Digs l->aM l<10^l.length) ?_ ?_ l
 ·intro _;decide
 ·intro m a b h;have c:=b h.left;have d:=h.right a (by simp);rw[m6,aY,List.length_singleton,cU];omega
theorem DC (n:Nat):aM (List.replicate n 48)=0:=by
 induction n with
 |zero=>rfl
 |succ n a=>rw[List.replicate_succ',m6,a];rfl
theorem DD {l m:List UInt8} (h:Digs l) (d:Digs m) (c:l.length=m.length) (hv:aM l=aM m):l=m:=by
 revert m h;refine wV (P:=fun l=>∀{m:List UInt8},Digs l->Digs m->l.length=m.length->aM l=aM m->l=m) ?_ ?_ l
 ·intro m _ _ c _;exact(bM c.symm).symm
 ·intro l a i m h d c hv;rcases List.eq_nil_or_concat m with rfl|⟨j,b,rfl⟩
  ·simp at c
  ·rw[List.concat_eq_append] at *;rw[m6,m6] at hv;have k:=h.right a (by simp);have n:=d.right b (by simp);have e:aM l=aM j:=by omega
   have f:a.toNat=b.toNat:=by omega
   have g:=i h.left d.left (by simpa using c) e;rw[g,UInt8.toNat_inj.1 f]
theorem qN {d:Nat} (h:d<10):(UInt8.ofNat (48+d)).toNat=48+d:=by
 rw[UInt8.toNat_ofNat'];omega
theorem jS (n:Nat):aM (decDigits n)=n:=by
 induction n using Nat.strongRecOn with
 |ind n a=>
  rw[decDigits];split
  ·rename_i h;show 10*0+((UInt8.ofNat (48+n)).toNat-48)=n
   rw[qN h];omega
  ·rename_i h;rw[m6,a (n/10) (by omega),qN (Nat.mod_lt _ (by decide))];omega
theorem mA (n:Nat):Digs (decDigits n):=by
 induction n using Nat.strongRecOn with
 |ind n b=>
  rw[decDigits];split
  ·rename_i h;intro c a;rw[List.mem_singleton] at a;subst a;rw[qN h];omega
  ·rename_i h;refine(b (n/10) (by omega)).append ?_;intro c a;rw[List.mem_singleton] at a;subst a;have:=Nat.mod_lt n (show 0<10 by decide);rw[qN this];omega
theorem wW {n:Nat} (h:n≠0):10^(nDigits n-1)<=n:=by
 induction n using Nat.strongRecOn with
 |ind n b=>
  by_cases a:n<10
  ·rw[nDigits_small a];simp;omega
  ·rw[nDigits_big a];have c:=b (n/10) (by omega) (by omega);have d:=nDigits_pos (n/10);have e:nDigits (n/10)+1-1=(nDigits (n/10)-1)+1:=by omega
   rw[e,cU];omega
theorem oX {n k:Nat} (h:n<10^k) (e:1<=k):nDigits n<=k:=by
 rcases Nat.lt_or_ge k (nDigits n) with a|a
 ·exfalso;rcases Nat.eq_zero_or_pos n with b|b
  ·subst b;rw[nDigits_small (by decide)] at a;omega
  ·have c:=wW (n:=n) (by omega);have d:10^k<=10^(nDigits n-1):=cE (by decide) (by omega);omega
 ·exact a
def cV (w n:Nat):List UInt8:=List.replicate (w-(if n=0 then 0 else nDigits n)) 48++(if n=0 then [] else decDigits n)
theorem wX (w n:Nat):aM (cV w n)=n:=by
 unfold cV;rw[mT,DC,Nat.zero_mul,aS];split
 ·rename_i h;rw[h];rfl
 ·exact jS n
theorem wY (w n:Nat):Digs (cV w n):=by
 unfold cV;refine(Digs.zeros _).append ?_;split
 ·exact Digs.nil
 ·exact mA n
theorem oY (w n:Nat):(cV w n).length=max w (if n=0 then 0 else nDigits n):=by
 unfold cV;rw[aY,cN];split
 ·simp
 ·rw[decDigits_length];omega
theorem DE {w n:Nat} {l:List UInt8} (h:Digs l) (hv:aM l=n) (a:l.length=max w (if n=0 then 0 else nDigits n)):l=cV w n:=
 DD h (wY w n) (by rw[a,oY]) (by rw[hv,wX])
theorem NN {n:Nat} (h:n≠0):cV 0 n=decDigits n:=by
 unfold cV;rw[if_neg h,if_neg h];simp
theorem NO (w:Nat):cV w 0=List.replicate w 48:=by
 unfold cV;simp
theorem NP {hi lo d:Nat} (a:hi≠0) (g:lo<10^d):nDigits (hi*10^d+lo)=nDigits hi+d:=by
 have b:=wW a;have c:=lt_pow_nDigits hi;have f:=nDigits_pos hi;have h:0<10^d:=Nat.pow_pos (by decide);have e:nDigits hi+d=(nDigits hi-1+d)+1:=by omega
 rw[e];refine nDigits_unique _ _ ?_ ?_
 ·rw[Nat.pow_add];have:=cZ (10^d) b;omega
 ·rw[show nDigits hi-1+d+1=nDigits hi+d by omega,Nat.pow_add];have:(hi+1)*10^d<=10^nDigits hi*10^d:=cZ _ c;rw[Nat.add_mul] at this;omega
theorem DF {w hi lo d:Nat} (c:lo<10^d) (h:hi≠0∨d<=w):cV w (hi*10^d+lo)=cV (w-d) hi++cV d lo:=by
 symm;have g:(if lo=0 then 0 else nDigits lo)<=d:=by
  split
  ·omega
  ·rename_i a;rcases Nat.eq_zero_or_pos d with b|b
   ·subst b;simp at c;omega
   ·exact oX c b
 have e:(cV d lo).length=d:=by rw[oY];omega
 refine DE ((wY _ _).append (wY _ _)) ?_ ?_
 ·rw[mT,wX,wX,e]
 ·rw[aY,e,oY];by_cases a:hi=0
  ·subst a;simp only[Nat.zero_mul,aS,if_pos];have:d<=w:=by rcases h with h|h;exact absurd rfl h;exact h
   omega
  ·have f:¬(hi*10^d+lo=0):=by
    have:0<hi*10^d:=Nat.mul_pos (by omega) (Nat.pow_pos (by decide));omega
   rw[if_neg a,if_neg f,NP a c];omega
theorem mU {l:List UInt8} (h:Digs l) (g:l≠[]) (a:l.length=1∨l.head?≠some 48):decDigits (aM l)=l:=by
 refine DD (mA _) h ?_ (jS _);rw[decDigits_length];have d:=qM h;obtain⟨c,m,rfl⟩:∃c m,l=c :: m:=by
  cases l with
  |nil=>exact absurd rfl g
  |cons c m=>exact⟨c,m,rfl⟩
 have i:=h c (List.mem_cons_self ..);by_cases b:m.length=0
 ·have:m=[]:=bM b;subst this;rw[nDigits_small (by simpa using d)];rfl
 ·have f:c≠48:=by
   rcases a with a|a
   ·simp at a;exact absurd a (by intro e;subst e;exact b rfl)
   ·intro e;subst e;exact a rfl
  have j:c.toNat≠48:=by
   intro e;exact f (UInt8.toNat_inj.1 e)
  refine nDigits_unique m.length _ ?_ (by simpa using d);have e:aM (c :: m)=(c.toNat-48)*10^m.length+aM m:=by
   have:=mT [c] m;rw[List.singleton_append] at this;rw[this];show(10*0+(c.toNat-48))*_+_=_
   rw[Nat.mul_zero,aS]
  rw[e];have:1*10^m.length<=(c.toNat-48)*10^m.length:=cZ _ (by omega);omega
theorem qO (n:Nat):decDigits n≠[]:=by
 intro h;have:=decDigits_length n;rw[h] at this;have:=nDigits_pos n;simp at *;omega
theorem DG {m n:Nat} (h:decDigits m=decDigits n):m=n:=by rw[<-jS m,h,jS]
theorem DH {n:Nat} (h:n≠0):(decDigits n).head?≠some 48:=by
 intro e;obtain⟨m,g⟩:∃m,decDigits n=48 :: m:=by
  cases a:decDigits n with
  |nil=>rw[a] at e;cases e
  |cons c m=>rw[a] at e;injection e with e;subst e;exact⟨m,rfl⟩
 have hv:=jS n;have b:=decDigits_length n;have a:=mA n;rw[g] at hv b a;have i:aM (48 :: m)=aM m:=by
  have:=mT [48] m;rw[List.singleton_append] at this;rw[this];simp[aM]
 have j:=qM (l:=m) (fun c f=>a c (List.mem_cons_of_mem _ f));have d:=wW h;simp at b;rw[<-b,Nat.add_sub_cancel] at d;omega
def bC (c:UInt8):Bool:=decide (48<=c.toNat∧c.toNat<=57)
def bD (q:Rat):List UInt8:=(if q.num<0 then [45] else [])++decDigits q.num.natAbs++(if q.den=1 then [] else 47 :: decDigits q.den)
def fP (s:List UInt8):Option (Bool×List UInt8×List UInt8):=
 let a:=s.head?==some 45
 let r:=if a then s.tail else s
 let n:=r.takeWhile bC
 let t:=r.dropWhile bC
 if n=[48] then (if a=false∧t=[] then some (a,n,[]) else none)
 else if n=[]∨n.head?=some 48 then none
 else if t=[] then some (a,n,[])
 else if t.head?≠some 47 then none
 else
  let d:=t.tail.takeWhile bC
  let u:=t.tail.dropWhile bC
  if u=[]∧d≠[]∧d.head?≠some 48∧d≠[49] then some (a,n,d) else none
def dO (a:Bool) (n:Nat):Int:=if a then -(n:Int) else n
def d7 (s:List UInt8):Option Rat:=
 match fP s with
 |none=>none
 |some (neg,n,d)=>if d=[] then some ((dO neg (aM n):Int):Rat) else if Nat.gcd (aM n) (aM d)=1 then some (mkRat (dO neg (aM n)) (aM d)) else none
structure Parts (neg:Bool) (n d:List UInt8):Prop where
 n_digs:Digs n
 d_digs:Digs d
 n_ne:n≠[]
 zero:n=[48]->neg=false∧d=[]
 n_head:n≠[48]->n.head?≠some 48
 d_head:d.head?≠some 48
 d_one:d≠[49]
def gU (a:Bool) (n d:List UInt8):List UInt8:=(if a then [45] else [])++n++(if d=[] then [] else 47 :: d)
theorem DL (l:List UInt8):Digs (l.takeWhile bC):=by
 intro c a;have:=List.all_takeWhile (p:=bC) (l:=l);have:=List.all_eq_true.1 this c a;simpa [bC] using this
theorem DM {l t:List UInt8} (h:Digs l) (b:t.head?.all (fun c=> !bC c)):(l++t).takeWhile bC=l∧(l++t).dropWhile bC=t:=by
 induction l with
 |nil=>
  cases t with
  |nil=>exact⟨rfl,rfl⟩
  |cons c m=>simp at b;simp[List.takeWhile_cons,List.dropWhile_cons,b]
 |cons a l i=>
  have f:bC a=true:=by have:=h a (List.mem_cons_self ..);simpa [bC] using this
  obtain⟨d,e⟩:=i (fun c g=>h c (List.mem_cons_of_mem _ g));simp[List.takeWhile_cons,List.dropWhile_cons,f,d,e]
theorem DO {s:List UInt8} {l:Bool} {n d:List UInt8} (h:fP s=some (l,n,d)):Parts l n d∧s=gU l n d:=by
 unfold fP at h;simp only at h;have k:s=(if (s.head?==some 45)=true then [45] else [])++(if (s.head?==some 45)=true then s.tail else s):=by
  cases s with
  |nil=>rfl
  |cons c m=>
   by_cases e:c=45
   ·subst e;simp
   ·simp[e]
 generalize (s.head?==some 45)=x at *;generalize (if x=true then s.tail else s)=r at *;have j:r=r.takeWhile bC++r.dropWhile bC:=(List.takeWhile_append_dropWhile).symm;have i:=DL r;generalize r.takeWhile bC=N at *;generalize r.dropWhile bC=T at *;by_cases b:N=[48]
 ·rw[if_pos b] at h;split at h
  ·rename_i a;injection h with h;injection h with h1 h;injection h with h2 h3;subst h1 h2 h3;refine⟨⟨i,fun c g=>(by cases g),by rw[b];simp,fun _=>⟨a.1,rfl⟩,fun h=>absurd b h,by simp,by simp⟩,?_⟩;rw[k,j,a.2,gU,if_pos rfl,List.append_nil,List.append_nil]
  ·cases h
 ·rw[if_neg b] at h;split at h
  ·cases h
  ·rename_i q;have t:N≠[]:=fun e=>q (.inl e);have u:N.head?≠some 48:=fun e=>q (.inr e);split at h
   ·rename_i p;injection h with h;injection h with h1 h;injection h with h2 h3;subst h1 h2 h3;refine⟨⟨i,fun c g=>(by cases g),t,fun h=>absurd h b,fun _=>u,by simp,by simp⟩,?_⟩;rw[k,j,p,gU,if_pos rfl,List.append_nil,List.append_nil]
   ·rename_i p;split at h
    ·cases h
    ·rename_i f;have f:T.head?=some 47:=Decidable.not_not.1 f;obtain⟨m,o⟩:∃m,T=47 :: m:=by
      cases T with
      |nil=>simp at f
      |cons c m=>simp at f;exact⟨m,by rw[f]⟩
     rw[o,List.tail_cons] at h;have w:m=m.takeWhile bC++m.dropWhile bC:=(List.takeWhile_append_dropWhile).symm;have v:=DL m;generalize m.takeWhile bC=D at *;generalize m.dropWhile bC=U at *;split at h
     ·rename_i a;injection h with h;injection h with h1 h;injection h with h2 h3;subst h1 h2 h3;refine⟨⟨i,v,t,fun h=>absurd h b,fun _=>u,a.2.2.1,a.2.2.2⟩,?_⟩;rw[k,j,o,w,a.1,gU,if_neg a.2.1,List.append_nil,List.append_assoc]
     ·cases h
theorem NS {b:Bool} {n d:List UInt8} (h:Parts b n d):fP (gU b n d)=some (b,n,d):=by
 obtain⟨a,j,hn⟩:∃a j,n=a :: j:=by
  cases n with
  |nil=>exact absurd rfl h.n_ne
  |cons a m=>exact⟨a,m,rfl⟩
 have s:a≠45:=by
  intro e;have:=h.n_digs a (by rw[hn];exact List.mem_cons_self ..);rw[e] at this;exact absurd this (by decide)
 have o:((gU b n d).head?==some 45)=b:=by
  cases b
  ·simp[gU,hn,s]
  ·simp[gU]
 have p:(if b=true then (gU b n d).tail else gU b n d)=n++(if d=[] then [] else 47 :: d):=by
  cases b<;>simp[gU]
 obtain⟨q,r⟩:=DM (l:=n) (t:=if d=[] then [] else 47 :: d) h.n_digs (by
  by_cases e:d=[]
  ·simp[e]
  ·simp[e,bC])
 unfold fP;simp only[o,p,q,r];by_cases c:n=[48]
 ·obtain⟨k,f⟩:=h.zero c;rw[if_pos c,if_pos ⟨k,by rw[if_pos f]⟩,f]
 ·rw[if_neg c,if_neg (by rintro (e|e);exact h.n_ne e;exact h.n_head c e)];by_cases e:d=[]
  ·rw[if_pos e,if_pos rfl,e]
  ·obtain⟨g,i⟩:=DM (l:=d) (t:=[]) h.d_digs (by simp);rw[List.append_nil] at g i;rw[if_neg e,if_neg (by simp),if_neg (by simp),List.tail_cons,g,i,if_pos ⟨rfl,e,h.d_head,h.d_one⟩]
theorem tE {l:List UInt8} (h:Digs l) (g:l≠[]) (a:l.head?≠some 48):aM l≠0:=by
 intro e;have:=mU h g (.inr a);rw[e] at this;have b:=mU (l:=[48]) (fun c d=>by simp at d;subst d;decide) (by simp) (.inl rfl);have f:aM [48]=0:=by decide
 rw[f] at b;rw[b] at this;rw[<-this] at a;exact a rfl
theorem x9:decDigits 0=[48]:=by
 have a:=mU (l:=[48]) (fun c b=>by simp at b;subst b;decide) (by simp) (.inl rfl);have d:aM [48]=0:=by decide
 rw[d] at a;exact a
theorem decDigits_one:decDigits 1=[49]:=by
 have a:=mU (l:=[49]) (fun c b=>by simp at b;subst b;decide) (by simp) (.inl rfl);have d:aM [49]=1:=by decide
 rw[d] at a;exact a
theorem oZ (a:Bool) (n:Nat):(dO a n).natAbs=n:=by cases a<;>simp[dO]
theorem NT (a:Bool) {n:Nat} (h:n≠0):(dO a n<0)↔a=true:=by cases a<;>simp[dO]<;>omega
theorem qP {s:List UInt8} {q:Rat} (h:d7 s=some q):bD q=s:=by
 unfold d7 at h;split at h
 ·cases h
 ·rename_i b n d p;obtain⟨a,k⟩:=DO p
  have hn:decDigits (aM n)=n:=mU a.n_digs a.n_ne (by
   by_cases e:n=[48]
   ·left;rw[e];rfl
   ·exact .inr (a.n_head e))
  have f:(dO b (aM n)<0)↔b=true:=by
   by_cases e:n=[48]
   ·rw[(a.zero e).1,e];simp[dO]
   ·exact NT b (tE a.n_digs a.n_ne (a.n_head e))
  by_cases c:d=[]
  ·rw[if_pos c] at h;injection h with h;subst h;rw[k,bD,gU,if_pos c];show(if dO b (aM n)<0 then _ else _)++decDigits (dO b (aM n)).natAbs++_=_
   rw[oZ,hn,if_pos (show((dO b (aM n):Int):Rat).den=1 from rfl)];congr 2;by_cases e:b=true
   ·rw[if_pos (f.2 e),if_pos e]
   ·rw[if_neg (fun h=>e (f.1 h)),if_neg e]
  ·rw[if_neg c] at h;split at h
   ·rename_i j;injection h with h;have g:decDigits (aM d)=d:=mU a.d_digs c (.inr a.d_head);have i:aM d≠0:=tE a.d_digs c a.d_head;have l:aM d≠1:=by intro e;rw[e,decDigits_one] at g;exact a.d_one g.symm
    have m:q.num=dO b (aM n):=by rw[<-h,Rat.num_mkRat,if_neg i,oZ,Nat.gcd_comm,j];simp
    have o:q.den=aM d:=by rw[<-h,Rat.den_mkRat,if_neg i,oZ,Nat.gcd_comm,j];simp
    rw[k,bD,gU,if_neg c,m,o,if_neg l,oZ,hn,g];congr 2;by_cases e:b=true
    ·rw[if_pos (f.2 e),if_pos e]
    ·rw[if_neg (fun h=>e (f.1 h)),if_neg e]
   ·cases h
theorem NU (q:Rat):d7 (bD q)=some q:=by
 have g:Parts (decide (q.num<0)) (decDigits q.num.natAbs) (if q.den=1 then [] else decDigits q.den):=by
  have b:∀{m},decDigits m=[48]->m=0:=fun {m} h=>DG (h.trans x9.symm);refine⟨mA _,?_,qO _,?_,?_,?_,?_⟩
  ·by_cases e:q.den=1
   ·rw[if_pos e];intro c d;cases d
   ·rw[if_neg e];exact mA _
  ·intro h;have j:=b h;have a:q=0:=Rat.num_eq_zero.1 (by omega);subst a;exact⟨by decide,by simp⟩
  ·intro h;exact DH (fun e=>h (by rw[e];exact x9))
  ·by_cases e:q.den=1
   ·rw[if_pos e];simp
   ·rw[if_neg e];exact DH q.den_nz
  ·by_cases e:q.den=1
   ·rw[if_pos e];simp
   ·rw[if_neg e];exact fun h=>e (DG (h.trans decDigits_one.symm))
 have f:bD q=gU (decide (q.num<0)) (decDigits q.num.natAbs) (if q.den=1 then [] else decDigits q.den):=by
  unfold bD gU;by_cases e:q.den=1
  ·simp[e]
  ·simp[e,qO]
 have i:dO (decide (q.num<0)) q.num.natAbs=q.num:=by
  unfold dO;by_cases h:q.num<0<;>simp[h]<;>omega
 unfold d7;rw[f,NS g];simp only[jS,i];by_cases e:q.den=1
 ·rw[if_pos (by rw[if_pos e])];congr 1;exact Rat.ext rfl e.symm
 ·rw[if_neg (by rw[if_neg e];exact qO _),if_neg e,jS,if_pos q.reduced,Rat.mkRat_self]
end Go.Proofs.YthfnenohhindpaaGreatDoor
namespace Go.Proofs.YthfnenohhindpaaGreatDoor
open Sos
theorem o5 {x:Rat} (h:0<x):0<x.num:=by
 have a:=Rat.num_nonneg.2 (Rat.le_of_lt h);have b:x.num≠0:=fun e=>by rw[Rat.num_eq_zero.1 e] at h;exact absurd h (by decide)
 omega
theorem jU (x:Rat):x<0∨x=0∨0<x:=by
 by_cases a:x=0
 ·exact .inr (.inl a)
 ·by_cases b:0<x
  ·exact .inr (.inr b)
  ·exact .inl (by grind)
theorem fJ (x:Rat):(0<x->x.num.sign=1)∧(x<0->x.num.sign= -1):=⟨fun h=>Int.sign_eq_one_of_pos (o5 h),fun h=>Int.sign_eq_neg_one_of_neg (by have:=o5 (show 0< -x by grind);rw[Rat.neg_num] at this;omega)⟩
theorem qU {f:Rat} (a:0<f) (x:Rat):(f*x).num.sign=x.num.sign:=by
 rcases jU x with h|h|h
 ·have:f*x<0:=by have:=Rat.mul_pos a (show 0< -x by grind);grind
  rw[(fJ _).2 this,(fJ _).2 h]
 ·rw[h,Rat.mul_zero]
 ·rw[(fJ _).1 (Rat.mul_pos a h),(fJ _).1 h]
theorem xX (n:Int):((n:Rat)).num.sign=n.sign:=by rw[Rat.num_intCast]
end Go.Proofs.YthfnenohhindpaaGreatDoor
namespace Go.Proofs.YthfnenohhindpaaGreatDoor
open Sos Lib
def iU (c:UInt8):Bool:=c != 47
def jB (s:List UInt8):Option Rat:=
 let a:=s.head?==some 45
 let t:=if a then s.tail else s
 let n:=t.takeWhile iU
 if n≠[]∧n.all bC then
  match t.dropWhile iU with
  |[]=>some ((dO a (aM n):Int):Rat)
  |_ :: d=>if d≠[]∧d.all bC∧aM d≠0 then some (((dO a (aM n):Int):Rat)/((aM d:Int):Rat)) else none
 else none
theorem F5 {l:List UInt8} (h:Digs l):l.all bC=true:=by
 rw[List.all_eq_true];intro c a;have:=h c a;simpa [bC] using this
theorem tZ {l:List UInt8} (h:l.all bC=true):Digs l:=fun c a=>by
 have:=List.all_eq_true.1 h c a;simpa [bC] using this
theorem RK {l t:List UInt8} (h:Digs l) (g:t=[]∨t.head?=some 47):(l++t).takeWhile iU=l∧(l++t).dropWhile iU=t:=by
 induction l with
 |nil=>
  cases t with
  |nil=>exact⟨rfl,rfl⟩
  |cons c m=>
   have b:c=47:=by simpa using g
   subst b;simp[List.takeWhile_cons,List.dropWhile_cons,iU]
 |cons a l i=>
  have f:iU a=true:=by
   have:=h a (List.mem_cons_self ..);unfold iU;rw[bne_iff_ne];rintro rfl;exact absurd this (by decide)
  obtain⟨d,e⟩:=i (fun c b=>h c (List.mem_cons_of_mem _ b));simp[List.takeWhile_cons,List.dropWhile_cons,f,d,e]
theorem RM (q:Rat):jB (bD q)=some q:=by
 have b:=mA q.num.natAbs;have d:=qO q.num.natAbs;obtain⟨a,m,c⟩:∃a m,decDigits q.num.natAbs=a :: m:=by
  cases h:decDigits q.num.natAbs with
  |nil=>exact absurd h d
  |cons a m=>exact⟨a,m,rfl⟩
 have k:a≠45:=by
  intro e;have:=b a (by rw[c];exact List.mem_cons_self ..);rw[e] at this;exact absurd this (by decide)
 have l:dO (decide (q.num<0)) q.num.natAbs=q.num:=by
  unfold dO;by_cases h:q.num<0<;>simp[h]<;>omega
 have f:((bD q).head?==some 45)=decide (q.num<0):=by
  unfold bD;by_cases h:q.num<0
  ·simp[h]
  ·simp[h,c,k]
 have g:(if decide (q.num<0)=true then (bD q).tail else bD q)=decDigits q.num.natAbs++(if q.den=1 then [] else 47 :: decDigits q.den):=by
  unfold bD;by_cases h:q.num<0<;>simp[h]
 obtain⟨i,j⟩:=RK (t:=if q.den=1 then [] else 47 :: decDigits q.den) b (by by_cases e:q.den=1<;>simp[e]);unfold jB;simp only[f,g,i,j,jS,l];rw[if_pos ⟨d,F5 b⟩];by_cases e:q.den=1
 ·rw[if_pos e];simp only[];congr 1;exact Rat.ext rfl e.symm
 ·rw[if_neg e];simp only[];rw[if_pos ⟨qO _,F5 (mA _),by rw[jS];exact q.den_nz⟩,jS];congr 1;rw[Rat.intCast_natCast,<-Rat.mkRat_eq_div,Rat.mkRat_self]
theorem u9 (s:List UInt8):(∀q,d7 s=some q->jB s=some q∧bD q=s)∧(∀q,jB s=some q->bD q=s->d7 s=some q):=by
 refine⟨fun q h=> ?_,fun q h e=> ?_⟩
 ·have:=qP h;exact⟨by rw[<-this];exact RM q,this⟩
 ·rw[<-e];exact NU q
def dz (v:Nat):List UInt8:=if v=0 then [] else decDigits v
theorem RO {v e:Nat} (b:e<10):dz (10*v+e)=if v=0∧e=0 then [] else dz v++[UInt8.ofNat (48+e)]:=by
 unfold dz;by_cases hv:v=0
 ·subst hv;by_cases a:e=0
  ·subst a;simp
  ·rw[if_neg (by omega),if_neg (by omega),if_pos rfl,decDigits,dif_pos (by omega)];simp
 ·rw[if_neg (by omega),if_neg (by omega),if_neg hv,decDigits,dif_neg (by omega),show(10*v+e)/10=v by omega,show(10*v+e)%10=e by omega]
def gI:List Nat->Nat
 |[]=>0
 |d :: l=>d+1000000000*gI l
theorem RP (l:List Nat) (d:Nat):gI (l++[d])=gI l+1000000000^l.length*d:=by
 induction l with
 |nil=>simp[gI]
 |cons a l b=>rw[List.cons_append,gI,b,gI,List.length_cons,cU,Nat.mul_add];grind
theorem RQ {l:List Nat} {i d:Nat} (h:l[i]? =some d):gI (l.drop i)=d+1000000000*gI (l.drop (i+1)):=by
 have a:=(List.getElem?_eq_some_iff.1 h).1;rw[List.drop_eq_getElem_cons a,gI];rw[aL a] at h;injection h with h;rw[h]
theorem RR (l:List Nat) (i:Nat):gI (l.drop i)<=gI l:=by
 induction l generalizing i with
 |nil=>simp
 |cons a l b=>
  cases i with
  |zero=>exact aE
  |succ i=>
   rw[List.drop_succ_cons,gI];have:=b i;omega
def tn (j:Nat):Nat:=if j<=8 then 10^(8-j) else 0
theorem RS {j:Nat} (h:j<=8):tn j/10=tn (j+1)∧0<tn j∧tn j<=100000000:=by
 unfold tn;rcases(show j=0∨j=1∨j=2∨j=3∨j=4∨j=5∨j=6∨j=7∨j=8 by omega) with rfl|rfl|rfl|rfl|rfl|rfl|rfl|rfl|rfl<;>decide
theorem RT {v p j:Nat} (h:j<=8):v*10^(j+1)+p/10^(9-(j+1))=10*(v*10^j+p/10^(9-j))+p/tn j%10:=by
 have e:p/10^(9-j)=p/tn j/10:=by
  unfold tn;rw[if_pos h,Nat.div_div_eq_div_mul,<-cU];congr 2;omega
 rw[e,show 9-(j+1)=8-j by omega,cU];have a:p/10^(8-j)=p/tn j:=by unfold tn;rw[if_pos h]
 rw[a];generalize p/tn j=q;have:=Nat.div_add_mod q 10;have b:v*(10^j*10)=10*(v*10^j):=by rw[<-Nat.mul_assoc,dD]
 rw[b];omega
