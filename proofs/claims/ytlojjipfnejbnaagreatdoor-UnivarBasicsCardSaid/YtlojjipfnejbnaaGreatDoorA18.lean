/-
  Contracts of functions that the statement reaches, and plain laws: DecP, RatP, NumM, NumK.
-/
import Derived.Test.YtlojjipfnejbnaaGreatDoorA01
import Derived.Lib.ItoaNum
set_option linter.unusedVariables false
set_option linter.unusedSimpArgs false
set_option maxHeartbeats 8000000
set_option maxRecDepth 100000
namespace Go.Proofs.YtlojjipfnejbnaaGreatDoor
open Sos Lib
def Digs (l:List UInt8):Prop:=∀c∈l,48≤c.toNat∧c.toNat≤57
def decVal (l:List UInt8):Nat:=l.foldl (fun a c=>10*a+(c.toNat-48)) 0
theorem Digs.nil:Digs []:=fun _ h=>by cases h
theorem Digs.append {l m:List UInt8} (h:Digs l) (h':Digs m):Digs (l++m):=by
 intro c hc
 rcases List.mem_append.1 hc with hc|hc
 ·exact h c hc
 ·exact h' c hc
theorem Digs.left {l m:List UInt8} (h:Digs (l++m)):Digs l:=fun c hc=>h c (List.mem_append_left _ hc)
theorem Digs.right {l m:List UInt8} (h:Digs (l++m)):Digs m:=fun c hc=>h c (List.mem_append_right _ hc)
theorem Digs.take {l:List UInt8} (h:Digs l) (n:Nat):Digs (l.take n):=fun c hc=>h c (List.mem_of_mem_take hc)
theorem Digs.drop {l:List UInt8} (h:Digs l) (n:Nat):Digs (l.drop n):=fun c hc=>h c (List.mem_of_mem_drop hc)
theorem Digs.zeros (n:Nat):Digs (List.replicate n 48):=by
 intro c hc
 obtain⟨_,rfl⟩:=List.mem_replicate.1 hc
 exact⟨by decide,by decide⟩
theorem decVal_nil:decVal []=0:=rfl
theorem decVal_snoc (l:List UInt8) (c:UInt8):decVal (l++[c])=10*decVal l+(c.toNat-48):=by
 unfold decVal;rw[List.foldl_append];rfl
theorem rev_ind {α:Type} {P:List α→Prop} (h0:P []) (h1:∀l a,P l→P (l++[a])) (l:List α):P l:=by
 have:∀m:List α,P m.reverse:=by
  intro m
  induction m with
  |nil=>exact h0
  |cons a m ih=>rw[List.reverse_cons];exact h1 _ _ ih
 have h:=this l.reverse
 rwa [List.reverse_reverse] at h
theorem decVal_append (l m:List UInt8):decVal (l++m)=decVal l*10^m.length+decVal m:=by
 refine rev_ind (P:=fun m=>decVal (l++m)=decVal l*10^m.length+decVal m) ?_ ?_ m
 ·simp[decVal_nil]
 ·intro m a ih
  rw[←List.append_assoc,decVal_snoc,decVal_snoc,ih,List.length_append,List.length_singleton,Nat.pow_succ]
  grind
theorem decVal_lt {l:List UInt8} (h:Digs l):decVal l<10^l.length:=by
 revert h
 refine rev_ind (P:=fun l=>Digs l→decVal l<10^l.length) ?_ ?_ l
 ·intro _;decide
 ·intro m a ih h
  have h1:=ih h.left
  have h2:=h.right a (by simp)
  rw[decVal_snoc,List.length_append,List.length_singleton,Nat.pow_succ]
  omega
theorem decVal_zeros (n:Nat):decVal (List.replicate n 48)=0:=by
 induction n with
 |zero=>rfl
 |succ n ih=>rw[List.replicate_succ',decVal_snoc,ih];rfl
theorem dec_inj {l m:List UInt8} (h:Digs l) (h':Digs m) (hl:l.length=m.length) (hv:decVal l=decVal m):l=m:=by
 revert m h
 refine rev_ind (P:=fun l=>∀{m:List UInt8},Digs l→Digs m→l.length=m.length→decVal l=decVal m→l=m) ?_ ?_ l
 ·intro m _ _ hl _
  exact(List.eq_nil_of_length_eq_zero hl.symm).symm
 ·intro l a ih m h h' hl hv
  rcases List.eq_nil_or_concat m with rfl|⟨m',b,rfl⟩
  ·simp at hl
  ·rw[List.concat_eq_append] at *
   rw[decVal_snoc,decVal_snoc] at hv
   have ha:=h.right a (by simp)
   have hb:=h'.right b (by simp)
   have e1:decVal l=decVal m':=by omega
   have e2:a.toNat=b.toNat:=by omega
   have e3:=ih h.left h'.left (by simpa using hl) e1
   rw[e3,UInt8.toNat_inj.1 e2]
theorem digit_toNat {d:Nat} (h:d<10):(UInt8.ofNat (48+d)).toNat=48+d:=by
 rw[UInt8.toNat_ofNat'];omega
theorem decDigits_val (n:Nat):decVal (decDigits n)=n:=by
 induction n using Nat.strongRecOn with
 |ind n ih=>
  rw[decDigits]
  split
  ·rename_i h
   show 10*0+((UInt8.ofNat (48+n)).toNat-48)=n
   rw[digit_toNat h];omega
  ·rename_i h
   rw[decVal_snoc,ih (n/10) (by omega),digit_toNat (Nat.mod_lt _ (by decide))]
   omega
theorem decDigits_digs (n:Nat):Digs (decDigits n):=by
 induction n using Nat.strongRecOn with
 |ind n ih=>
  rw[decDigits]
  split
  ·rename_i h
   intro c hc
   rw[List.mem_singleton] at hc
   subst hc
   rw[digit_toNat h];omega
  ·rename_i h
   refine(ih (n/10) (by omega)).append ?_
   intro c hc
   rw[List.mem_singleton] at hc
   subst hc
   have:=Nat.mod_lt n (show 0<10 by decide)
   rw[digit_toNat this];omega
theorem nDigits_low {n:Nat} (h:n≠0):10^(nDigits n-1)≤n:=by
 induction n using Nat.strongRecOn with
 |ind n ih=>
  by_cases h1:n<10
  ·rw[nDigits_small h1];simp;omega
  ·rw[nDigits_big h1]
   have h2:=ih (n/10) (by omega) (by omega)
   have h3:=nDigits_pos (n/10)
   have e:nDigits (n/10)+1-1=(nDigits (n/10)-1)+1:=by omega
   rw[e,Nat.pow_succ]
   omega
theorem nDigits_le {n k:Nat} (h:n<10^k) (hk:1≤k):nDigits n≤k:=by
 rcases Nat.lt_or_ge k (nDigits n) with hl|hl
 ·exfalso
  rcases Nat.eq_zero_or_pos n with h0|h0
  ·subst h0;rw[nDigits_small (by decide)] at hl;omega
  ·have h1:=nDigits_low (n:=n) (by omega)
   have h2:10^k≤10^(nDigits n-1):=Nat.pow_le_pow_right (by decide) (by omega)
   omega
 ·exact hl
def padDec (w n:Nat):List UInt8:=List.replicate (w-(if n=0 then 0 else nDigits n)) 48++(if n=0 then [] else decDigits n)
theorem padDec_val (w n:Nat):decVal (padDec w n)=n:=by
 unfold padDec
 rw[decVal_append,decVal_zeros,Nat.zero_mul,Nat.zero_add]
 split
 ·rename_i h;rw[h];rfl
 ·exact decDigits_val n
theorem padDec_digs (w n:Nat):Digs (padDec w n):=by
 unfold padDec
 refine(Digs.zeros _).append ?_
 split
 ·exact Digs.nil
 ·exact decDigits_digs n
theorem padDec_len (w n:Nat):(padDec w n).length=max w (if n=0 then 0 else nDigits n):=by
 unfold padDec
 rw[List.length_append,List.length_replicate]
 split
 ·simp
 ·rw[decDigits_length];omega
theorem padDec_of {w n:Nat} {l:List UInt8} (h:Digs l) (hv:decVal l=n) (hl:l.length=max w (if n=0 then 0 else nDigits n)):l=padDec w n:=
 dec_inj h (padDec_digs w n) (by rw[hl,padDec_len]) (by rw[hv,padDec_val])
theorem padDec_pos {n:Nat} (h:n≠0):padDec 0 n=decDigits n:=by
 unfold padDec;rw[if_neg h,if_neg h];simp
theorem padDec_zero (w:Nat):padDec w 0=List.replicate w 48:=by
 unfold padDec;simp
theorem nDigits_split {hi lo d:Nat} (h0:hi≠0) (hlo:lo<10^d):nDigits (hi*10^d+lo)=nDigits hi+d:=by
 have h1:=nDigits_low h0
 have h2:=lt_pow_nDigits hi
 have h3:=nDigits_pos hi
 have hp:0<10^d:=Nat.pow_pos (by decide)
 have e:nDigits hi+d=(nDigits hi-1+d)+1:=by omega
 rw[e]
 refine nDigits_unique _ _ ?_ ?_
 ·rw[Nat.pow_add]
  have:=Nat.mul_le_mul_right (10^d) h1
  omega
 ·rw[show nDigits hi-1+d+1=nDigits hi+d by omega,Nat.pow_add]
  have:(hi+1)*10^d≤10^nDigits hi*10^d:=Nat.mul_le_mul_right _ h2
  rw[Nat.add_mul] at this
  omega
theorem padDec_split {w hi lo d:Nat} (hlo:lo<10^d) (h:hi≠0∨d≤w):padDec w (hi*10^d+lo)=padDec (w-d) hi++padDec d lo:=by
 symm
 have hln:(if lo=0 then 0 else nDigits lo)≤d:=by
  split
  ·omega
  ·rename_i h0
   rcases Nat.eq_zero_or_pos d with hd|hd
   ·subst hd;simp at hlo;omega
   ·exact nDigits_le hlo hd
 have h1:(padDec d lo).length=d:=by rw[padDec_len];omega
 refine padDec_of ((padDec_digs _ _).append (padDec_digs _ _)) ?_ ?_
 ·rw[decVal_append,padDec_val,padDec_val,h1]
 ·rw[List.length_append,h1,padDec_len]
  by_cases h0:hi=0
  ·subst h0
   simp only[Nat.zero_mul,Nat.zero_add,if_pos]
   have:d≤w:=by rcases h with h|h;exact absurd rfl h;exact h
   omega
  ·have hne:¬(hi*10^d+lo=0):=by
    have:0<hi*10^d:=Nat.mul_pos (by omega) (Nat.pow_pos (by decide))
    omega
   rw[if_neg h0,if_neg hne,nDigits_split h0 hlo]
   omega
theorem decDigits_of {l:List UInt8} (h:Digs l) (hne:l≠[]) (h0:l.length=1∨l.head?≠some 48):decDigits (decVal l)=l:=by
 refine dec_inj (decDigits_digs _) h ?_ (decDigits_val _)
 rw[decDigits_length]
 have hlt:=decVal_lt h
 obtain⟨c,m,rfl⟩:∃c m,l=c :: m:=by
  cases l with
  |nil=>exact absurd rfl hne
  |cons c m=>exact⟨c,m,rfl⟩
 have hc:=h c (List.mem_cons_self ..)
 by_cases hl:m.length=0
 ·have:m=[]:=List.eq_nil_of_length_eq_zero hl
  subst this
  rw[nDigits_small (by simpa using hlt)];rfl
 ·have hc48:c≠48:=by
   rcases h0 with h0|h0
   ·simp at h0;exact absurd h0 (by intro e;subst e;exact hl rfl)
   ·intro e;subst e;exact h0 rfl
  have hcn:c.toNat≠48:=by
   intro e;exact hc48 (UInt8.toNat_inj.1 e)
  refine nDigits_unique m.length _ ?_ (by simpa using hlt)
  have e:decVal (c :: m)=(c.toNat-48)*10^m.length+decVal m:=by
   have:=decVal_append [c] m
   rw[List.singleton_append] at this
   rw[this]
   show(10*0+(c.toNat-48))*_+_=_
   rw[Nat.mul_zero,Nat.zero_add]
  rw[e]
  have:1*10^m.length≤(c.toNat-48)*10^m.length:=Nat.mul_le_mul_right _ (by omega)
  omega
theorem decDigits_ne (n:Nat):decDigits n≠[]:=by
 intro h
 have:=decDigits_length n
 rw[h] at this
 have:=nDigits_pos n
 simp at *;omega
theorem decDigits_inj {m n:Nat} (h:decDigits m=decDigits n):m=n:=by rw[←decDigits_val m,h,decDigits_val]
theorem decDigits_head {n:Nat} (h:n≠0):(decDigits n).head?≠some 48:=by
 intro e
 obtain⟨m,hm⟩:∃m,decDigits n=48 :: m:=by
  cases hd:decDigits n with
  |nil=>rw[hd] at e;cases e
  |cons c m=>rw[hd] at e;injection e with e;subst e;exact⟨m,rfl⟩
 have hv:=decDigits_val n
 have hl:=decDigits_length n
 have hd:=decDigits_digs n
 rw[hm] at hv hl hd
 have e1:decVal (48 :: m)=decVal m:=by
  have:=decVal_append [48] m
  rw[List.singleton_append] at this
  rw[this];simp[decVal]
 have h1:=decVal_lt (l:=m) (fun c hc=>hd c (List.mem_cons_of_mem _ hc))
 have h2:=nDigits_low h
 simp at hl
 rw[←hl,Nat.add_sub_cancel] at h2
 omega
def isDig (c:UInt8):Bool:=decide (48≤c.toNat∧c.toNat≤57)
def ratTxt (q:Rat):List UInt8:=(if q.num<0 then [45] else [])++decDigits q.num.natAbs++(if q.den=1 then [] else 47 :: decDigits q.den)
def splitL (s:List UInt8):Option (Bool×List UInt8×List UInt8):=
 let neg:=s.head?==some 45
 let r:=if neg then s.tail else s
 let n:=r.takeWhile isDig
 let t:=r.dropWhile isDig
 if n=[48] then (if neg=false∧t=[] then some (neg,n,[]) else none)
 else if n=[]∨n.head?=some 48 then none
 else if t=[] then some (neg,n,[])
 else if t.head?≠some 47 then none
 else
  let d:=t.tail.takeWhile isDig
  let u:=t.tail.dropWhile isDig
  if u=[]∧d≠[]∧d.head?≠some 48∧d≠[49] then some (neg,n,d) else none
def sgn (neg:Bool) (n:Nat):Int:=if neg then -(n:Int) else n
def readL (s:List UInt8):Option Rat:=
 match splitL s with
 |none=>none
 |some (neg,n,d)=>if d=[] then some ((sgn neg (decVal n):Int):Rat) else if Nat.gcd (decVal n) (decVal d)=1 then some (mkRat (sgn neg (decVal n)) (decVal d)) else none
structure Parts (neg:Bool) (n d:List UInt8):Prop where
 n_digs:Digs n
 d_digs:Digs d
 n_ne:n≠[]
 zero:n=[48]→neg=false∧d=[]
 n_head:n≠[48]→n.head?≠some 48
 d_head:d.head?≠some 48
 d_one:d≠[49]
def joinL (neg:Bool) (n d:List UInt8):List UInt8:=(if neg then [45] else [])++n++(if d=[] then [] else 47 :: d)
theorem digs_takeWhile (l:List UInt8):Digs (l.takeWhile isDig):=by
 intro c hc
 have:=List.all_takeWhile (p:=isDig) (l:=l)
 have:=List.all_eq_true.1 this c hc
 simpa [isDig] using this
theorem takeWhile_digs {l t:List UInt8} (h:Digs l) (ht:t.head?.all (fun c=> !isDig c)):(l++t).takeWhile isDig=l∧(l++t).dropWhile isDig=t:=by
 induction l with
 |nil=>
  cases t with
  |nil=>exact⟨rfl,rfl⟩
  |cons c m=>simp at ht;simp[List.takeWhile_cons,List.dropWhile_cons,ht]
 |cons a l ih=>
  have ha:isDig a=true:=by have:=h a (List.mem_cons_self ..);simpa [isDig] using this
  obtain⟨h1,h2⟩:=ih (fun c hc=>h c (List.mem_cons_of_mem _ hc))
  simp[List.takeWhile_cons,List.dropWhile_cons,ha,h1,h2]
theorem split_parts {s:List UInt8} {neg:Bool} {n d:List UInt8} (h:splitL s=some (neg,n,d)):Parts neg n d∧s=joinL neg n d:=by
 unfold splitL at h
 simp only at h
 have hs:s=(if (s.head?==some 45)=true then [45] else [])++(if (s.head?==some 45)=true then s.tail else s):=by
  cases s with
  |nil=>rfl
  |cons c m=>
   by_cases e:c=45
   ·subst e;simp
   ·simp[e]
 generalize (s.head?==some 45)=ng at *
 generalize (if ng=true then s.tail else s)=r at *
 have hr:r=r.takeWhile isDig++r.dropWhile isDig:=(List.takeWhile_append_dropWhile).symm
 have hd:=digs_takeWhile r
 generalize r.takeWhile isDig=N at *
 generalize r.dropWhile isDig=T at *
 by_cases h48:N=[48]
 ·rw[if_pos h48] at h
  split at h
  ·rename_i hh
   injection h with h;injection h with h1 h;injection h with h2 h3
   subst h1 h2 h3
   refine⟨⟨hd,fun c hc=>(by cases hc),by rw[h48];simp,fun _=>⟨hh.1,rfl⟩,fun h=>absurd h48 h,by simp,by simp⟩,?_⟩
   rw[hs,hr,hh.2,joinL,if_pos rfl,List.append_nil,List.append_nil]
  ·cases h
 ·rw[if_neg h48] at h
  split at h
  ·cases h
  ·rename_i hz
   have hz1:N≠[]:=fun e=>hz (.inl e)
   have hz2:N.head?≠some 48:=fun e=>hz (.inr e)
   split at h
   ·rename_i ht
    injection h with h;injection h with h1 h;injection h with h2 h3
    subst h1 h2 h3
    refine⟨⟨hd,fun c hc=>(by cases hc),hz1,fun h=>absurd h h48,fun _=>hz2,by simp,by simp⟩,?_⟩
    rw[hs,hr,ht,joinL,if_pos rfl,List.append_nil,List.append_nil]
   ·rename_i ht
    split at h
    ·cases h
    ·rename_i h47
     have h47:T.head?=some 47:=Decidable.not_not.1 h47
     obtain⟨m,hT⟩:∃m,T=47 :: m:=by
      cases T with
      |nil=>simp at h47
      |cons c m=>simp at h47;exact⟨m,by rw[h47]⟩
     rw[hT,List.tail_cons] at h
     have hm:m=m.takeWhile isDig++m.dropWhile isDig:=(List.takeWhile_append_dropWhile).symm
     have hdm:=digs_takeWhile m
     generalize m.takeWhile isDig=D at *
     generalize m.dropWhile isDig=U at *
     split at h
     ·rename_i hh
      injection h with h;injection h with h1 h;injection h with h2 h3
      subst h1 h2 h3
      refine⟨⟨hd,hdm,hz1,fun h=>absurd h h48,fun _=>hz2,hh.2.2.1,hh.2.2.2⟩,?_⟩
      rw[hs,hr,hT,hm,hh.1,joinL,if_neg hh.2.1,List.append_nil,List.append_assoc]
     ·cases h
theorem parts_split {neg:Bool} {n d:List UInt8} (h:Parts neg n d):splitL (joinL neg n d)=some (neg,n,d):=by
 obtain⟨a,n',hn⟩:∃a n',n=a :: n':=by
  cases n with
  |nil=>exact absurd rfl h.n_ne
  |cons a m=>exact⟨a,m,rfl⟩
 have ha:a≠45:=by
  intro e
  have:=h.n_digs a (by rw[hn];exact List.mem_cons_self ..)
  rw[e] at this
  exact absurd this (by decide)
 have h1:((joinL neg n d).head?==some 45)=neg:=by
  cases neg
  ·simp[joinL,hn,ha]
  ·simp[joinL]
 have h2:(if neg=true then (joinL neg n d).tail else joinL neg n d)=n++(if d=[] then [] else 47 :: d):=by
  cases neg<;>simp[joinL]
 obtain⟨h3,h4⟩:=takeWhile_digs (l:=n) (t:=if d=[] then [] else 47 :: d) h.n_digs (by
  by_cases e:d=[]
  ·simp[e]
  ·simp[e,isDig])
 unfold splitL
 simp only[h1,h2,h3,h4]
 by_cases h48:n=[48]
 ·obtain⟨e1,e2⟩:=h.zero h48
  rw[if_pos h48,if_pos ⟨e1,by rw[if_pos e2]⟩,e2]
 ·rw[if_neg h48,if_neg (by rintro (e|e);exact h.n_ne e;exact h.n_head h48 e)]
  by_cases e:d=[]
  ·rw[if_pos e,if_pos rfl,e]
  ·obtain⟨h5,h6⟩:=takeWhile_digs (l:=d) (t:=[]) h.d_digs (by simp)
   rw[List.append_nil] at h5 h6
   rw[if_neg e,if_neg (by simp),if_neg (by simp),List.tail_cons,h5,h6,if_pos ⟨rfl,e,h.d_head,h.d_one⟩]
theorem decVal_pos {l:List UInt8} (h:Digs l) (hne:l≠[]) (h0:l.head?≠some 48):decVal l≠0:=by
 intro e
 have:=decDigits_of h hne (.inr h0)
 rw[e] at this
 have h2:=decDigits_of (l:=[48]) (fun c hc=>by simp at hc;subst hc;decide) (by simp) (.inl rfl)
 have h3:decVal [48]=0:=by decide
 rw[h3] at h2
 rw[h2] at this
 rw[←this] at h0
 exact h0 rfl
theorem decDigits_zero:decDigits 0=[48]:=by
 have h2:=decDigits_of (l:=[48]) (fun c hc=>by simp at hc;subst hc;decide) (by simp) (.inl rfl)
 have h3:decVal [48]=0:=by decide
 rw[h3] at h2
 exact h2
theorem decDigits_one:decDigits 1=[49]:=by
 have h2:=decDigits_of (l:=[49]) (fun c hc=>by simp at hc;subst hc;decide) (by simp) (.inl rfl)
 have h3:decVal [49]=1:=by decide
 rw[h3] at h2
 exact h2
theorem sgn_natAbs (neg:Bool) (n:Nat):(sgn neg n).natAbs=n:=by cases neg<;>simp[sgn]
theorem sgn_neg (neg:Bool) {n:Nat} (h:n≠0):(sgn neg n<0)↔neg=true:=by cases neg<;>simp[sgn]<;>omega
theorem txt_read {s:List UInt8} {q:Rat} (h:readL s=some q):ratTxt q=s:=by
 unfold readL at h
 split at h
 ·cases h
 ·rename_i neg n d hsp
  obtain⟨hp,hs⟩:=split_parts hsp
  have hn:decDigits (decVal n)=n:=decDigits_of hp.n_digs hp.n_ne (by
   by_cases e:n=[48]
   ·left;rw[e];rfl
   ·exact .inr (hp.n_head e))
  have hneg:(sgn neg (decVal n)<0)↔neg=true:=by
   by_cases e:n=[48]
   ·rw[(hp.zero e).1,e];simp[sgn]
   ·exact sgn_neg neg (decVal_pos hp.n_digs hp.n_ne (hp.n_head e))
  by_cases hd:d=[]
  ·rw[if_pos hd] at h
   injection h with h
   subst h
   rw[hs,ratTxt,joinL,if_pos hd]
   show(if sgn neg (decVal n)<0 then _ else _)++decDigits (sgn neg (decVal n)).natAbs++_=_
   rw[sgn_natAbs,hn,if_pos (show((sgn neg (decVal n):Int):Rat).den=1 from rfl)]
   congr 2
   by_cases e:neg=true
   ·rw[if_pos (hneg.2 e),if_pos e]
   ·rw[if_neg (fun h=>e (hneg.1 h)),if_neg e]
  ·rw[if_neg hd] at h
   split at h
   ·rename_i hg
    injection h with h
    have hdd:decDigits (decVal d)=d:=decDigits_of hp.d_digs hd (.inr hp.d_head)
    have hd0:decVal d≠0:=decVal_pos hp.d_digs hd hp.d_head
    have hd1:decVal d≠1:=by intro e;rw[e,decDigits_one] at hdd;exact hp.d_one hdd.symm
    have hq1:q.num=sgn neg (decVal n):=by rw[←h,Rat.num_mkRat,if_neg hd0,sgn_natAbs,Nat.gcd_comm,hg];simp
    have hq2:q.den=decVal d:=by rw[←h,Rat.den_mkRat,if_neg hd0,sgn_natAbs,Nat.gcd_comm,hg];simp
    rw[hs,ratTxt,joinL,if_neg hd,hq1,hq2,if_neg hd1,sgn_natAbs,hn,hdd]
    congr 2
    by_cases e:neg=true
    ·rw[if_pos (hneg.2 e),if_pos e]
    ·rw[if_neg (fun h=>e (hneg.1 h)),if_neg e]
   ·cases h
theorem read_txt (q:Rat):readL (ratTxt q)=some q:=by
 have hp:Parts (decide (q.num<0)) (decDigits q.num.natAbs) (if q.den=1 then [] else decDigits q.den):=by
  have h48:∀{m},decDigits m=[48]→m=0:=fun {m} h=>decDigits_inj (h.trans decDigits_zero.symm)
  refine⟨decDigits_digs _,?_,decDigits_ne _,?_,?_,?_,?_⟩
  ·by_cases e:q.den=1
   ·rw[if_pos e];intro c hc;cases hc
   ·rw[if_neg e];exact decDigits_digs _
  ·intro h
   have h0:=h48 h
   have h1:q=0:=Rat.num_eq_zero.1 (by omega)
   subst h1
   exact⟨by decide,by simp⟩
  ·intro h
   exact decDigits_head (fun e=>h (by rw[e];exact decDigits_zero))
  ·by_cases e:q.den=1
   ·rw[if_pos e];simp
   ·rw[if_neg e];exact decDigits_head q.den_nz
  ·by_cases e:q.den=1
   ·rw[if_pos e];simp
   ·rw[if_neg e];exact fun h=>e (decDigits_inj (h.trans decDigits_one.symm))
 have hj:ratTxt q=joinL (decide (q.num<0)) (decDigits q.num.natAbs) (if q.den=1 then [] else decDigits q.den):=by
  unfold ratTxt joinL
  by_cases e:q.den=1
  ·simp[e]
  ·simp[e,decDigits_ne]
 have hsg:sgn (decide (q.num<0)) q.num.natAbs=q.num:=by
  unfold sgn
  by_cases h:q.num<0<;>simp[h]<;>omega
 unfold readL
 rw[hj,parts_split hp]
 simp only[decDigits_val,hsg]
 by_cases e:q.den=1
 ·rw[if_pos (by rw[if_pos e])]
  congr 1
  exact Rat.ext rfl e.symm
 ·rw[if_neg (by rw[if_neg e];exact decDigits_ne _),if_neg e,decDigits_val,if_pos q.reduced,Rat.mkRat_self]
def noSl (c:UInt8):Bool:=c != 47
def parseN (s:List UInt8):Option Rat:=
 let neg:=s.head?==some 45
 let t:=if neg then s.tail else s
 let n:=t.takeWhile noSl
 if n≠[]∧n.all isDig then
  match t.dropWhile noSl with
  |[]=>some ((sgn neg (decVal n):Int):Rat)
  |_ :: d=>if d≠[]∧d.all isDig∧decVal d≠0 then some (((sgn neg (decVal n):Int):Rat)/((decVal d:Int):Rat)) else none
 else none
theorem digs_all {l:List UInt8} (h:Digs l):l.all isDig=true:=by
 rw[List.all_eq_true]
 intro c hc
 have:=h c hc
 simpa [isDig] using this
theorem digs_of {l:List UInt8} (h:l.all isDig=true):Digs l:=fun c hc=>by
 have:=List.all_eq_true.1 h c hc
 simpa [isDig] using this
theorem takeN {l t:List UInt8} (h:Digs l) (ht:t=[]∨t.head?=some 47):(l++t).takeWhile noSl=l∧(l++t).dropWhile noSl=t:=by
 induction l with
 |nil=>
  cases t with
  |nil=>exact⟨rfl,rfl⟩
  |cons c m=>
   have hc:c=47:=by simpa using ht
   subst hc
   simp[List.takeWhile_cons,List.dropWhile_cons,noSl]
 |cons a l ih=>
  have ha:noSl a=true:=by
   have:=h a (List.mem_cons_self ..)
   unfold noSl
   rw[bne_iff_ne]
   rintro rfl
   exact absurd this (by decide)
  obtain⟨h1,h2⟩:=ih (fun c hc=>h c (List.mem_cons_of_mem _ hc))
  simp[List.takeWhile_cons,List.dropWhile_cons,ha,h1,h2]
theorem parse_txt (q:Rat):parseN (ratTxt q)=some q:=by
 have hD:=decDigits_digs q.num.natAbs
 have hne:=decDigits_ne q.num.natAbs
 obtain⟨a,m,hm⟩:∃a m,decDigits q.num.natAbs=a :: m:=by
  cases h:decDigits q.num.natAbs with
  |nil=>exact absurd h hne
  |cons a m=>exact⟨a,m,rfl⟩
 have ha:a≠45:=by
  intro e
  have:=hD a (by rw[hm];exact List.mem_cons_self ..)
  rw[e] at this
  exact absurd this (by decide)
 have hsg:sgn (decide (q.num<0)) q.num.natAbs=q.num:=by
  unfold sgn
  by_cases h:q.num<0<;>simp[h]<;>omega
 have h1:((ratTxt q).head?==some 45)=decide (q.num<0):=by
  unfold ratTxt
  by_cases h:q.num<0
  ·simp[h]
  ·simp[h,hm,ha]
 have h2:(if decide (q.num<0)=true then (ratTxt q).tail else ratTxt q)=decDigits q.num.natAbs++(if q.den=1 then [] else 47 :: decDigits q.den):=by
  unfold ratTxt
  by_cases h:q.num<0<;>simp[h]
 obtain⟨h3,h4⟩:=takeN (t:=if q.den=1 then [] else 47 :: decDigits q.den) hD (by by_cases e:q.den=1<;>simp[e])
 unfold parseN
 simp only[h1,h2,h3,h4,decDigits_val,hsg]
 rw[if_pos ⟨hne,digs_all hD⟩]
 by_cases e:q.den=1
 ·rw[if_pos e]
  simp only[]
  congr 1
  exact Rat.ext rfl e.symm
 ·rw[if_neg e]
  simp only[]
  rw[if_pos ⟨decDigits_ne _,digs_all (decDigits_digs _),by rw[decDigits_val];exact q.den_nz⟩,decDigits_val]
  congr 1
  rw[Rat.intCast_natCast,←Rat.mkRat_eq_div,Rat.mkRat_self]
theorem read_parse (s:List UInt8):(∀q,readL s=some q→parseN s=some q∧ratTxt q=s)∧(∀q,parseN s=some q→ratTxt q=s→readL s=some q):=by
 refine⟨fun q h=> ?_,fun q h e=> ?_⟩
 ·have:=txt_read h
  exact⟨by rw[←this];exact parse_txt q,this⟩
 ·rw[←e];exact read_txt q
def dz (v:Nat):List UInt8:=if v=0 then [] else decDigits v
theorem dz_step {v e:Nat} (he:e<10):dz (10*v+e)=if v=0∧e=0 then [] else dz v++[UInt8.ofNat (48+e)]:=by
 unfold dz
 by_cases hv:v=0
 ·subst hv
  by_cases h0:e=0
  ·subst h0;simp
  ·rw[if_neg (by omega),if_neg (by omega),if_pos rfl,decDigits,dif_pos (by omega)];simp
 ·rw[if_neg (by omega),if_neg (by omega),if_neg hv,decDigits,dif_neg (by omega),show(10*v+e)/10=v by omega,show(10*v+e)%10=e by omega]
def nv9:List Nat→Nat
 |[]=>0
 |d :: l=>d+1000000000*nv9 l
theorem nv9_snoc (l:List Nat) (d:Nat):nv9 (l++[d])=nv9 l+1000000000^l.length*d:=by
 induction l with
 |nil=>simp[nv9]
 |cons a l ih=>rw[List.cons_append,nv9,ih,nv9,List.length_cons,Nat.pow_succ,Nat.mul_add];grind
theorem nv9_drop {l:List Nat} {i d:Nat} (h:l[i]? =some d):nv9 (l.drop i)=d+1000000000*nv9 (l.drop (i+1)):=by
 have hi:=(List.getElem?_eq_some_iff.1 h).1
 rw[List.drop_eq_getElem_cons hi,nv9]
 rw[List.getElem?_eq_getElem hi] at h
 injection h with h
 rw[h]
theorem nv9_le (l:List Nat) (i:Nat):nv9 (l.drop i)≤nv9 l:=by
 induction l generalizing i with
 |nil=>simp
 |cons a l ih=>
  cases i with
  |zero=>exact Nat.le_refl _
  |succ i=>
   rw[List.drop_succ_cons,nv9]
   have:=ih i
   omega
def tn (j:Nat):Nat:=if j≤8 then 10^(8-j) else 0
theorem tn_next {j:Nat} (h:j≤8):tn j/10=tn (j+1)∧0<tn j∧tn j≤100000000:=by
 unfold tn
 rcases(show j=0∨j=1∨j=2∨j=3∨j=4∨j=5∨j=6∨j=7∨j=8 by omega) with rfl|rfl|rfl|rfl|rfl|rfl|rfl|rfl|rfl<;>decide
theorem part_step {v p j:Nat} (h:j≤8):v*10^(j+1)+p/10^(9-(j+1))=10*(v*10^j+p/10^(9-j))+p/tn j%10:=by
 have e:p/10^(9-j)=p/tn j/10:=by
  unfold tn
  rw[if_pos h,Nat.div_div_eq_div_mul,←Nat.pow_succ]
  congr 2;omega
 rw[e,show 9-(j+1)=8-j by omega,Nat.pow_succ]
 have e2:p/10^(8-j)=p/tn j:=by unfold tn;rw[if_pos h]
 rw[e2]
 generalize p/tn j=q
 have:=Nat.div_add_mod q 10
 have e3:v*(10^j*10)=10*(v*10^j):=by rw[←Nat.mul_assoc,Nat.mul_comm]
 rw[e3]
 omega
theorem dec_more (l:List UInt8) (c:UInt8) (h:48≤c.toNat):decVal (l++[c])=decVal l*10+(c.toNat-48):=by rw[decVal_snoc,Nat.mul_comm]
end Go.Proofs.YtlojjipfnejbnaaGreatDoor
