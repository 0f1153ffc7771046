/-
  Contracts of functions that the statement reaches, and plain laws: DecP, RatP, SgnP, NumM, NumK.
-/
import Derived.Test.YtbhplgdbfmifkaaGreatDoorI01
import Derived.Lib.ItoaNum
set_option linter.unusedVariables false
set_option linter.unusedSimpArgs false
set_option maxHeartbeats 8000000
set_option maxRecDepth 100000
namespace Go.Proofs.YtbhplgdbfmifkaaGreatDoor
open Sos Lib
def Digs (l:List UInt8):Prop:=∀c∈l,48≤c.toNat∧c.toNat≤57
def aL (l:List UInt8):Nat:=l.foldl (fun a c=>10*a+(c.toNat-48)) 0
theorem Digs.nil:Digs []:=fun _ h=>by cases h
theorem Digs.append {l m:List UInt8} (h:Digs l) (h':Digs m):Digs (l++m):=by
 intro c hc;rcases List.mem_append.1 hc with hc|hc
 ·exact h c hc
 ·exact h' c hc
theorem Digs.left {l m:List UInt8} (h:Digs (l++m)):Digs l:=fun c hc=>h c (List.mem_append_left _ hc)
theorem Digs.right {l m:List UInt8} (h:Digs (l++m)):Digs m:=fun c hc=>h c (List.mem_append_right _ hc)
theorem Digs.take {l:List UInt8} (h:Digs l) (n:Nat):Digs (l.take n):=fun c hc=>h c (List.mem_of_mem_take hc)
theorem Digs.drop {l:List UInt8} (h:Digs l) (n:Nat):Digs (l.drop n):=fun c hc=>h c (List.mem_of_mem_drop hc)
theorem Digs.zeros (n:Nat):Digs (List.replicate n 48):=by
 intro c hc;obtain⟨_,rfl⟩:=List.mem_replicate.1 hc;exact⟨by decide,by decide⟩
theorem xA:aL []=0:=rfl
theorem mF (l:List UInt8) (c:UInt8):aL (l++[c])=10*aL l+(c.toNat-48):=by
 unfold aL;rw[List.foldl_append];rfl
theorem xB {α:Type} {P:List α→Prop} (h0:P []) (h1:∀l a,P l→P (l++[a])) (l:List α):P l:=by
 have:∀m:List α,P m.reverse:=by
  intro m;induction m with
  |nil=>exact h0
  |cons a m ih=>rw[List.reverse_cons];exact h1 _ _ ih
 have h:=this l.reverse;rwa [List.reverse_reverse] at h
theorem mW (l m:List UInt8):aL (l++m)=aL l*10^m.length+aL m:=by
 refine xB (P:=fun m=>aL (l++m)=aL l*10^m.length+aL m) ?_ ?_ m
 ·simp[xA]
 ·intro m a ih;rw[←List.append_assoc,mF,mF,ih,List.length_append,List.length_singleton,Nat.pow_succ];grind
theorem qE {l:List UInt8} (h:Digs l):aL l<10^l.length:=by
 revert h;refine xB (P:=fun l=>Digs l→aL l<10^l.length) ?_ ?_ l
 ·intro _;decide
 ·intro m a ih h;have h1:=ih h.left;have h2:=h.right a (by simp);rw[mF,List.length_append,List.length_singleton,Nat.pow_succ];omega
theorem D5 (n:Nat):aL (List.replicate n 48)=0:=by
 induction n with
 |zero=>rfl
 |succ n ih=>rw[List.replicate_succ',mF,ih];rfl
theorem D6 {l m:List UInt8} (h:Digs l) (h':Digs m) (hl:l.length=m.length) (hv:aL l=aL m):l=m:=by
 revert m h;refine xB (P:=fun l=>∀{m:List UInt8},Digs l→Digs m→l.length=m.length→aL l=aL m→l=m) ?_ ?_ l
 ·intro m _ _ hl _;exact(List.eq_nil_of_length_eq_zero hl.symm).symm
 ·intro l a ih m h h' hl hv;rcases List.eq_nil_or_concat m with rfl|⟨m',b,rfl⟩
  ·simp at hl
  ·rw[List.concat_eq_append] at *;rw[mF,mF] at hv;have ha:=h.right a (by simp);have hb:=h'.right b (by simp);have e1:aL l=aL m':=by omega
   have e2:a.toNat=b.toNat:=by omega
   have e3:=ih h.left h'.left (by simpa using hl) e1;rw[e3,UInt8.toNat_inj.1 e2]
theorem qF {d:Nat} (h:d<10):(UInt8.ofNat (48+d)).toNat=48+d:=by
 rw[UInt8.toNat_ofNat'];omega
theorem j0 (n:Nat):aL (decDigits n)=n:=by
 induction n using Nat.strongRecOn with
 |ind n ih=>
  rw[decDigits];split
  ·rename_i h;show 10*0+((UInt8.ofNat (48+n)).toNat-48)=n
   rw[qF h];omega
  ·rename_i h;rw[mF,ih (n/10) (by omega),qF (Nat.mod_lt _ (by decide))];omega
theorem mG (n:Nat):Digs (decDigits n):=by
 induction n using Nat.strongRecOn with
 |ind n ih=>
  rw[decDigits];split
  ·rename_i h;intro c hc;rw[List.mem_singleton] at hc;subst hc;rw[qF h];omega
  ·rename_i h;refine(ih (n/10) (by omega)).append ?_;intro c hc;rw[List.mem_singleton] at hc;subst hc;have:=Nat.mod_lt n (show 0<10 by decide);rw[qF this];omega
theorem xC {n:Nat} (h:n≠0):10^(nDigits n-1)≤n:=by
 induction n using Nat.strongRecOn with
 |ind n ih=>
  by_cases h1:n<10
  ·rw[nDigits_small h1];simp;omega
  ·rw[nDigits_big h1];have h2:=ih (n/10) (by omega) (by omega);have h3:=nDigits_pos (n/10);have e:nDigits (n/10)+1-1=(nDigits (n/10)-1)+1:=by omega
   rw[e,Nat.pow_succ];omega
theorem oT {n k:Nat} (h:n<10^k) (hk:1≤k):nDigits n≤k:=by
 rcases Nat.lt_or_ge k (nDigits n) with hl|hl
 ·exfalso;rcases Nat.eq_zero_or_pos n with h0|h0
  ·subst h0;rw[nDigits_small (by decide)] at hl;omega
  ·have h1:=xC (n:=n) (by omega);have h2:10^k≤10^(nDigits n-1):=Nat.pow_le_pow_right (by decide) (by omega);omega
 ·exact hl
def bO (w n:Nat):List UInt8:=List.replicate (w-(if n=0 then 0 else nDigits n)) 48++(if n=0 then [] else decDigits n)
theorem xD (w n:Nat):aL (bO w n)=n:=by
 unfold bO;rw[mW,D5,Nat.zero_mul,Nat.zero_add];split
 ·rename_i h;rw[h];rfl
 ·exact j0 n
theorem xE (w n:Nat):Digs (bO w n):=by
 unfold bO;refine(Digs.zeros _).append ?_;split
 ·exact Digs.nil
 ·exact mG n
theorem oU (w n:Nat):(bO w n).length=max w (if n=0 then 0 else nDigits n):=by
 unfold bO;rw[List.length_append,List.length_replicate];split
 ·simp
 ·rw[decDigits_length];omega
theorem DA {w n:Nat} {l:List UInt8} (h:Digs l) (hv:aL l=n) (hl:l.length=max w (if n=0 then 0 else nDigits n)):l=bO w n:=
 D6 h (xE w n) (by rw[hl,oU]) (by rw[hv,xD])
theorem NH {n:Nat} (h:n≠0):bO 0 n=decDigits n:=by
 unfold bO;rw[if_neg h,if_neg h];simp
theorem NJ (w:Nat):bO w 0=List.replicate w 48:=by
 unfold bO;simp
theorem NK {hi lo d:Nat} (h0:hi≠0) (hlo:lo<10^d):nDigits (hi*10^d+lo)=nDigits hi+d:=by
 have h1:=xC h0;have h2:=lt_pow_nDigits hi;have h3:=nDigits_pos hi;have hp:0<10^d:=Nat.pow_pos (by decide);have e:nDigits hi+d=(nDigits hi-1+d)+1:=by omega
 rw[e];refine nDigits_unique _ _ ?_ ?_
 ·rw[Nat.pow_add];have:=Nat.mul_le_mul_right (10^d) h1;omega
 ·rw[show nDigits hi-1+d+1=nDigits hi+d by omega,Nat.pow_add];have:(hi+1)*10^d≤10^nDigits hi*10^d:=Nat.mul_le_mul_right _ h2;rw[Nat.add_mul] at this;omega
theorem DB {w hi lo d:Nat} (hlo:lo<10^d) (h:hi≠0∨d≤w):bO w (hi*10^d+lo)=bO (w-d) hi++bO d lo:=by
 symm;have hln:(if lo=0 then 0 else nDigits lo)≤d:=by
  split
  ·omega
  ·rename_i h0;rcases Nat.eq_zero_or_pos d with hd|hd
   ·subst hd;simp at hlo;omega
   ·exact oT hlo hd
 have h1:(bO d lo).length=d:=by rw[oU];omega
 refine DA ((xE _ _).append (xE _ _)) ?_ ?_
 ·rw[mW,xD,xD,h1]
 ·rw[List.length_append,h1,oU];by_cases h0:hi=0
  ·subst h0;simp only[Nat.zero_mul,Nat.zero_add,if_pos];have:d≤w:=by rcases h with h|h;exact absurd rfl h;exact h
   omega
  ·have hne:¬(hi*10^d+lo=0):=by
    have:0<hi*10^d:=Nat.mul_pos (by omega) (Nat.pow_pos (by decide));omega
   rw[if_neg h0,if_neg hne,NK h0 hlo];omega
theorem mX {l:List UInt8} (h:Digs l) (hne:l≠[]) (h0:l.length=1∨l.head?≠some 48):decDigits (aL l)=l:=by
 refine D6 (mG _) h ?_ (j0 _);rw[decDigits_length];have hlt:=qE h;obtain⟨c,m,rfl⟩:∃c m,l=c :: m:=by
  cases l with
  |nil=>exact absurd rfl hne
  |cons c m=>exact⟨c,m,rfl⟩
 have hc:=h c (List.mem_cons_self ..);by_cases hl:m.length=0
 ·have:m=[]:=List.eq_nil_of_length_eq_zero hl;subst this;rw[nDigits_small (by simpa using hlt)];rfl
 ·have hc48:c≠48:=by
   rcases h0 with h0|h0
   ·simp at h0;exact absurd h0 (by intro e;subst e;exact hl rfl)
   ·intro e;subst e;exact h0 rfl
  have hcn:c.toNat≠48:=by
   intro e;exact hc48 (UInt8.toNat_inj.1 e)
  refine nDigits_unique m.length _ ?_ (by simpa using hlt);have e:aL (c :: m)=(c.toNat-48)*10^m.length+aL m:=by
   have:=mW [c] m;rw[List.singleton_append] at this;rw[this];show(10*0+(c.toNat-48))*_+_=_
   rw[Nat.mul_zero,Nat.zero_add]
  rw[e];have:1*10^m.length≤(c.toNat-48)*10^m.length:=Nat.mul_le_mul_right _ (by omega);omega
def aQ (c:UInt8):Bool:=decide (48≤c.toNat∧c.toNat≤57)
def aO (q:Rat):List UInt8:=(if q.num<0 then [45] else [])++decDigits q.num.natAbs++(if q.den=1 then [] else 47 :: decDigits q.den)
def dN (s:List UInt8):Option (Bool×List UInt8×List UInt8):=
 let neg:=s.head?==some 45
 let r:=if neg then s.tail else s
 let n:=r.takeWhile aQ
 let t:=r.dropWhile aQ
 if n=[48] then (if neg=false∧t=[] then some (neg,n,[]) else none)
 else if n=[]∨n.head?=some 48 then none
 else if t=[] then some (neg,n,[])
 else if t.head?≠some 47 then none
 else
  let d:=t.tail.takeWhile aQ
  let u:=t.tail.dropWhile aQ
  if u=[]∧d≠[]∧d.head?≠some 48∧d≠[49] then some (neg,n,d) else none
def cW (neg:Bool) (n:Nat):Int:=if neg then -(n:Int) else n
def aR (s:List UInt8):Option Rat:=
 match dN s with
 |none=>none
 |some (neg,n,d)=>if d=[] then some ((cW neg (aL n):Int):Rat) else if Nat.gcd (aL n) (aL d)=1 then some (mkRat (cW neg (aL n)) (aL d)) else none
structure Parts (neg:Bool) (n d:List UInt8):Prop where
 n_digs:Digs n
 d_digs:Digs d
 n_ne:n≠[]
 zero:n=[48]→neg=false∧d=[]
 n_head:n≠[48]→n.head?≠some 48
 d_head:d.head?≠some 48
 d_one:d≠[49]
def g9 (neg:Bool) (n d:List UInt8):List UInt8:=(if neg then [45] else [])++n++(if d=[] then [] else 47 :: d)
theorem DI (l:List UInt8):Digs (l.takeWhile aQ):=by
 intro c hc;have:=List.all_takeWhile (p:=aQ) (l:=l);have:=List.all_eq_true.1 this c hc;simpa [aQ] using this
theorem DK {s:List UInt8} {neg:Bool} {n d:List UInt8} (h:dN s=some (neg,n,d)):Parts neg n d∧s=g9 neg n d:=by
 unfold dN at h;simp only at h;have hs:s=(if (s.head?==some 45)=true then [45] else [])++(if (s.head?==some 45)=true then s.tail else s):=by
  cases s with
  |nil=>rfl
  |cons c m=>
   by_cases e:c=45
   ·subst e;simp
   ·simp[e]
 generalize (s.head?==some 45)=ng at *;generalize (if ng=true then s.tail else s)=r at *;have hr:r=r.takeWhile aQ++r.dropWhile aQ:=(List.takeWhile_append_dropWhile).symm;have hd:=DI r;generalize r.takeWhile aQ=N at *;generalize r.dropWhile aQ=T at *;by_cases h48:N=[48]
 ·rw[if_pos h48] at h;split at h
  ·rename_i hh;injection h with h;injection h with h1 h;injection h with h2 h3;subst h1 h2 h3;refine⟨⟨hd,fun c hc=>(by cases hc),by rw[h48];simp,fun _=>⟨hh.1,rfl⟩,fun h=>absurd h48 h,by simp,by simp⟩,?_⟩;rw[hs,hr,hh.2,g9,if_pos rfl,List.append_nil,List.append_nil]
  ·cases h
 ·rw[if_neg h48] at h;split at h
  ·cases h
  ·rename_i hz;have hz1:N≠[]:=fun e=>hz (.inl e);have hz2:N.head?≠some 48:=fun e=>hz (.inr e);split at h
   ·rename_i ht;injection h with h;injection h with h1 h;injection h with h2 h3;subst h1 h2 h3;refine⟨⟨hd,fun c hc=>(by cases hc),hz1,fun h=>absurd h h48,fun _=>hz2,by simp,by simp⟩,?_⟩;rw[hs,hr,ht,g9,if_pos rfl,List.append_nil,List.append_nil]
   ·rename_i ht;split at h
    ·cases h
    ·rename_i h47;have h47:T.head?=some 47:=Decidable.not_not.1 h47;obtain⟨m,hT⟩:∃m,T=47 :: m:=by
      cases T with
      |nil=>simp at h47
      |cons c m=>simp at h47;exact⟨m,by rw[h47]⟩
     rw[hT,List.tail_cons] at h;have hm:m=m.takeWhile aQ++m.dropWhile aQ:=(List.takeWhile_append_dropWhile).symm;have hdm:=DI m;generalize m.takeWhile aQ=D at *;generalize m.dropWhile aQ=U at *;split at h
     ·rename_i hh;injection h with h;injection h with h1 h;injection h with h2 h3;subst h1 h2 h3;refine⟨⟨hd,hdm,hz1,fun h=>absurd h h48,fun _=>hz2,hh.2.2.1,hh.2.2.2⟩,?_⟩;rw[hs,hr,hT,hm,hh.1,g9,if_neg hh.2.1,List.append_nil,List.append_assoc]
     ·cases h
theorem tG {l:List UInt8} (h:Digs l) (hne:l≠[]) (h0:l.head?≠some 48):aL l≠0:=by
 intro e;have:=mX h hne (.inr h0);rw[e] at this;have h2:=mX (l:=[48]) (fun c hc=>by simp at hc;subst hc;decide) (by simp) (.inl rfl);have h3:aL [48]=0:=by decide
 rw[h3] at h2;rw[h2] at this;rw[←this] at h0;exact h0 rfl
theorem decDigits_one:decDigits 1=[49]:=by
 have h2:=mX (l:=[49]) (fun c hc=>by simp at hc;subst hc;decide) (by simp) (.inl rfl);have h3:aL [49]=1:=by decide
 rw[h3] at h2;exact h2
theorem oV (neg:Bool) (n:Nat):(cW neg n).natAbs=n:=by cases neg<;>simp[cW]
theorem NN (neg:Bool) {n:Nat} (h:n≠0):(cW neg n<0)↔neg=true:=by cases neg<;>simp[cW]<;>omega
theorem kV {s:List UInt8} {q:Rat} (h:aR s=some q):aO q=s:=by
 unfold aR at h;split at h
 ·cases h
 ·rename_i neg n d hsp;obtain⟨hp,hs⟩:=DK hsp
  have hn:decDigits (aL n)=n:=mX hp.n_digs hp.n_ne (by
   by_cases e:n=[48]
   ·left;rw[e];rfl
   ·exact .inr (hp.n_head e))
  have hneg:(cW neg (aL n)<0)↔neg=true:=by
   by_cases e:n=[48]
   ·rw[(hp.zero e).1,e];simp[cW]
   ·exact NN neg (tG hp.n_digs hp.n_ne (hp.n_head e))
  by_cases hd:d=[]
  ·rw[if_pos hd] at h;injection h with h;subst h;rw[hs,aO,g9,if_pos hd];show(if cW neg (aL n)<0 then _ else _)++decDigits (cW neg (aL n)).natAbs++_=_
   rw[oV,hn,if_pos (show((cW neg (aL n):Int):Rat).den=1 from rfl)];congr 2;by_cases e:neg=true
   ·rw[if_pos (hneg.2 e),if_pos e]
   ·rw[if_neg (fun h=>e (hneg.1 h)),if_neg e]
  ·rw[if_neg hd] at h;split at h
   ·rename_i hg;injection h with h;have hdd:decDigits (aL d)=d:=mX hp.d_digs hd (.inr hp.d_head);have hd0:aL d≠0:=tG hp.d_digs hd hp.d_head;have hd1:aL d≠1:=by intro e;rw[e,decDigits_one] at hdd;exact hp.d_one hdd.symm
    have hq1:q.num=cW neg (aL n):=by rw[←h,Rat.num_mkRat,if_neg hd0,oV,Nat.gcd_comm,hg];simp
    have hq2:q.den=aL d:=by rw[←h,Rat.den_mkRat,if_neg hd0,oV,Nat.gcd_comm,hg];simp
    rw[hs,aO,g9,if_neg hd,hq1,hq2,if_neg hd1,oV,hn,hdd];congr 2;by_cases e:neg=true
    ·rw[if_pos (hneg.2 e),if_pos e]
    ·rw[if_neg (fun h=>e (hneg.1 h)),if_neg e]
   ·cases h
end Go.Proofs.YtbhplgdbfmifkaaGreatDoor
namespace Go.Proofs.YtbhplgdbfmifkaaGreatDoor
open Sos
theorem kL {x:Rat} (h:0<x):0<x.num:=by
 have h1:=Rat.num_nonneg.2 (Rat.le_of_lt h);have h2:x.num≠0:=fun e=>by rw[Rat.num_eq_zero.1 e] at h;exact absurd h (by decide)
 omega
theorem eL (x:Rat):x<0∨x=0∨0<x:=by
 by_cases h1:x=0
 ·exact .inr (.inl h1)
 ·by_cases h2:0<x
  ·exact .inr (.inr h2)
  ·exact .inl (by grind)
theorem d7 (x:Rat):(0<x→x.num.sign=1)∧(x<0→x.num.sign= -1):=⟨fun h=>Int.sign_eq_one_of_pos (kL h),fun h=>Int.sign_eq_neg_one_of_neg (by have:=kL (show 0< -x by grind);rw[Rat.neg_num] at this;omega)⟩
theorem kQ {f:Rat} (hf:0<f) (x:Rat):(f*x).num.sign=x.num.sign:=by
 rcases eL x with h|h|h
 ·have:f*x<0:=by have:=Rat.mul_pos hf (show 0< -x by grind);grind
  rw[(d7 _).2 this,(d7 _).2 h]
 ·rw[h,Rat.mul_zero]
 ·rw[(d7 _).1 (Rat.mul_pos hf h),(d7 _).1 h]
theorem lR (n:Int):((n:Rat)).num.sign=n.sign:=by rw[Rat.num_intCast]
end Go.Proofs.YtbhplgdbfmifkaaGreatDoor
namespace Go.Proofs.YtbhplgdbfmifkaaGreatDoor
open Sos Lib
def iA (c:UInt8):Bool:=c != 47
end Go.Proofs.YtbhplgdbfmifkaaGreatDoor
