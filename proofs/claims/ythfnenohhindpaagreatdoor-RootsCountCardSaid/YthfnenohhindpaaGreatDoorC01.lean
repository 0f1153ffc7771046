/-
  Contracts, laws: Ali, PolyP, PolyL, NumP, NumQ, Digits.
-/
set_option linter.all false
set_option maxHeartbeats 8000000
set_option maxRecDepth 100000
namespace Sos
theorem aE {n:Nat}:n<=n:=Nat.le_refl n
theorem jX (n:Nat):n<=n:=Nat.le_refl n
theorem aL {α:Type _} {l:List α} {i:Nat} (h:i<l.length):l[i]? =some l[i]:=List.getElem?_eq_getElem h
theorem aG {n m k:Nat} (h:n<=m) (a:m<=k):n<=k:=Nat.le_trans h a
theorem bM {α:Type _} {l:List α} (h:l.length=0):l=[]:=List.eq_nil_of_length_eq_zero h
theorem aU {n m k:Nat} (h:n<m) (a:m<=k):n<k:=Nat.lt_of_lt_of_le h a
theorem aY {α:Type _} {a bs:List α}:(a++bs).length=a.length+bs.length:=List.length_append
theorem aZ {α:Type _} {i:Nat} {l:List α}:(l.take i).length=min i l.length:=List.length_take
theorem cA {α:Type _} {i:Nat} {l:List α} (h:l.length<=i):l.take i=l:=List.take_of_length_le h
theorem dG {a b c:Int} (h:a<=b) (d:0<=c):a*c<=b*c:=Int.mul_le_mul_of_nonneg_right h d
theorem eZ {a b c:Int} (h:a<=b) (d:0<=c):c*a<=c*b:=Int.mul_le_mul_of_nonneg_left h d
theorem dF {α:Type _} {l:List α} {i:Nat} {a:α}:l.getD i a=l[i]?.getD a:=List.getD_eq_getElem?_getD
theorem cZ {n m:Nat} (k:Nat) (h:n<=m):n*k<=m*k:=Nat.mul_le_mul_right k h
theorem dL {n m:Nat} (k:Nat) (h:n<=m):k*n<=k*m:=Nat.mul_le_mul_left k h
theorem cE {n:Nat} (h:n>0) {i j:Nat} (a:i<=j):n^i<=n^j:=Nat.pow_le_pow_right h a
theorem cH {α:Type _} {l:List α} {i:Nat} {a:α} (h:l[i]? =some a):a∈l:=List.mem_of_getElem? h
theorem cN {α:Type _} {n:Nat} {a:α}:(List.replicate n a).length=n:=List.length_replicate
theorem aS (n:Nat):0+n=n:=Nat.zero_add n
theorem cI (n:Nat):(n:Int).natAbs=n:=Int.natAbs_natCast n
theorem bK {α:Type _} {β:Type _} {a:List α} (f:α->β):(a.map f).length=a.length:=List.length_map f
theorem dS {α:Type _} {l m:List α} {i:Nat} (h:l.length<=i):(l++m)[i]? =m[i-l.length]? :=List.getElem?_append_right h
theorem f8 {α:Type _} {l m:List α} {i:Nat} (h:i<l.length):(l++m)[i]? =l[i]? :=List.getElem?_append_left h
theorem eF {α:Type _} {l:List α} {i:Nat} (h:l.length<=i):l[i]? =none:=List.getElem?_eq_none h
theorem dD (n m:Nat):n*m=m*n:=Nat.mul_comm n m
theorem cU (n m:Nat):n^m.succ=n^m*n:=Nat.pow_succ n m
end Sos
namespace Go.Proofs.YthfnenohhindpaaGreatDoor
class CR (R:Type) [Add R] [Mul R] [Sub R] [OfNat R 0]:Prop where
 add_comm:∀a b:R,a+b=b+a
 add_assoc:∀a b c:R,a+b+c=a+(b+c)
 add_zero:∀a:R,a+0=a
 mul_comm:∀a b:R,a*b=b*a
 mul_assoc:∀a b c:R,a*b*c=a*(b*c)
 mul_zero:∀a:R,a*0=0
 mul_add:∀a b c:R,a*(b+c)=a*b+a*c
 add_sub:∀a b:R,a+(b-a)=b
instance:CR Int:=⟨Int.add_comm,Int.add_assoc,Int.add_zero,Int.mul_comm,Int.mul_assoc,Int.mul_zero,Int.mul_add,fun a b=>by omega⟩
instance:CR Rat:=⟨Rat.add_comm,Rat.add_assoc,Rat.add_zero,Rat.mul_comm,Rat.mul_assoc,Rat.mul_zero,Rat.mul_add,fun a b=>by grind⟩
section
variable {R:Type} [Add R] [OfNat R 0]
def bS (f:Nat->R):Nat->R
 |0=>0
 |n+1=>bS f n+f n
theorem jZ {f g:Nat->R} {n:Nat} (h:∀k,k<n->f k=g k):bS f n=bS g n:=by
 induction n with
 |zero=>rfl
 |succ n a=>rw[bS,bS,a (fun k b=>h k (by omega)),h n (by omega)]
variable [Mul R]
def conv (p q:Nat->R):Nat->R:=fun i=>bS (fun k=>p k*q (i-k)) (i+1)
theorem fR {p a q b:Nat->R} (h:∀i,p i=a i) (c:∀i,q i=b i) (i:Nat):conv p q i=conv a b i:=
 jZ (fun k _=>by rw[h,c])
variable [Sub R] [CR R]
theorem vO (a:R):0+a=a:=by rw[CR.add_comm,CR.add_zero]
theorem oN (a:R):0*a=0:=by rw[CR.mul_comm,CR.mul_zero]
theorem JQ (a b c:R):(a+b)*c=a*c+b*c:=by rw[CR.mul_comm,CR.mul_add,CR.mul_comm c a,CR.mul_comm c b]
theorem JR (a b c d:R):a+b+(c+d)=a+c+(b+d):=by
 rw[CR.add_assoc,<-CR.add_assoc b c d,CR.add_comm b c,CR.add_assoc c b d,<-CR.add_assoc]
theorem BA (f g:Nat->R) (n:Nat):bS (fun k=>f k+g k) n=bS f n+bS g n:=by
 induction n with
 |zero=>simp only[bS];exact(CR.add_zero 0).symm
 |succ n a=>simp only[bS,a];exact JR _ _ _ _
theorem vP (c:R) (f:Nat->R) (n:Nat):bS (fun k=>c*f k) n=c*bS f n:=by
 induction n with
 |zero=>simp only[bS];exact(CR.mul_zero c).symm
 |succ n a=>simp only[bS,a];exact(CR.mul_add _ _ _).symm
theorem nC {f:Nat->R} {n:Nat} (h:∀k,k<n->f k=0):bS f n=0:=by
 induction n with
 |zero=>rfl
 |succ n a=>rw[bS,a (fun k b=>h k (by omega)),h n (by omega)];exact CR.add_zero 0
theorem vQ (f:Nat->R) (m n:Nat):bS f (m+n)=bS f m+bS (fun k=>f (m+k)) n:=by
 induction n with
 |zero=>simp only[bS,Nat.add_zero];exact(CR.add_zero _).symm
 |succ n a=>rw[<-Nat.add_assoc,bS,bS,a];exact CR.add_assoc _ _ _
theorem BB {f:Nat->R} {n j:Nat} (g:j<n) (h:∀k,k<n->k≠j->f k=0):bS f n=f j:=by
 induction n with
 |zero=>omega
 |succ n d=>
  rw[bS];by_cases e:j=n
  ·subst e;rw[nC (fun k b=>h k (by omega) (by omega))];exact vO _
  ·rw[d (by omega) (fun k b c=>h k (by omega) c),h n (by omega) (fun a=>e a.symm)];exact CR.add_zero _
theorem JS (f:Nat->R) (n:Nat):bS f (n+1)=f 0+bS (fun k=>f (k+1)) n:=by
 rw[Nat.add_comm n 1,vQ];simp only[bS,Nat.add_comm 1];rw[vO]
theorem JT (f:Nat->R) (n:Nat):bS f n=bS (fun k=>f (n-1-k)) n:=by
 induction n with
 |zero=>rfl
 |succ n a=>
  rw[JS (fun k=>f (n+1-1-k)),bS,a];have:bS (fun k=>f (n+1-1-(k+1))) n=bS (fun k=>f (n-1-k)) n:=jZ (fun k b=>by congr 1;omega);rw[this];simp only[Nat.add_sub_cancel,Nat.sub_zero];exact CR.add_comm _ _
theorem JU (f:Nat->Nat->R) (m n:Nat):bS (fun i=>bS (fun j=>f i j) n) m=bS (fun j=>bS (fun i=>f i j) m) n:=by
 induction m with
 |zero=>simp only[bS];exact(nC (fun _ _=>rfl)).symm
 |succ m a=>simp only[bS,a,BA]
theorem nD (p a q:Nat->R) (i:Nat):conv (fun k=>p k+a k) q i=conv p q i+conv a q i:=by
 unfold conv
 rw[<-BA];exact jZ (fun k _=>JQ _ _ _)
theorem iZ (c:R) (p q:Nat->R) (i:Nat):conv (fun k=>c*p k) q i=c*conv p q i:=by
 unfold conv
 rw[<-vP];exact jZ (fun k _=>CR.mul_assoc _ _ _)
theorem pR (p q:Nat->R) (i:Nat):conv p q i=conv q p i:=by
 unfold conv
 rw[JT];refine jZ (fun k a=> ?_);rw[show i+1-1-k=i-k by omega,show i-(i-k)=k by omega];exact CR.mul_comm _ _
theorem pS (c:R) (p q:Nat->R) (i:Nat):conv p (fun k=>c*q k) i=c*conv p q i:=by
 rw[pR,iZ,pR q]
theorem kE {p q:Nat->R} (h:∀i,p i=0) (i:Nat):conv p q i=0:=
 nC (fun k _=>by rw[h];exact oN _)
theorem nI (c:R) (j:Nat) (q:Nat->R) (i:Nat):conv (fun k=>if k=j then c else 0) q i=if j<=i then c*q (i-j) else 0:=by
 unfold conv
 by_cases h:j<=i
 ·rw[if_pos h,BB (j:=j) (by omega) (fun k _ a=>by simp only[if_neg a];exact oN _)];simp only[if_true]
 ·rw[if_neg h];exact nC (fun k b=>by simp only[if_neg (show¬k=j by omega)];exact oN _)
theorem pT {p q:Nat->R} {m n:Nat} (a:∀i,m<=i->p i=0) (b:∀i,n<=i->q i=0) {i:Nat} (hi:m+n<=i+1):conv p q i=0:=by
 refine nC (fun k c=> ?_);by_cases h:m<=k
 ·rw[a k h];exact oN _
 ·rw[b (i-k) (by omega)];exact CR.mul_zero _
theorem pU {p q:Nat->R} {m n:Nat} (a:∀i,m<i->p i=0) (b:∀i,n<i->q i=0):conv p q (m+n)=p m*q n:=by
 unfold conv
 rw[BB (j:=m) (by omega) (fun k c d=> ?_),show m+n-m=n by omega];by_cases h:m<k
 ·rw[a k h];exact oN _
 ·rw[b (m+n-k) (by omega)];exact CR.mul_zero _
theorem JV (m:R) (w q v rest:Nat->R) (n k:Nat) (hn:0<n) (hv:∀i,n<=i->v i=0) (g:∀i,n+k<=i->rest i=0)
  (f:∀i,m*w i=conv q v i+rest i) (i:Nat):
  (m*v (n-1))*w i=conv (fun j=>q j*v (n-1)+(if j=k then rest (n-1+k) else 0)) v i+(if i<n-1+k then rest i*v (n-1)-(if k<=i then rest (n-1+k)*v (i-k) else 0) else 0):=by
 have b:conv (fun j=>q j*v (n-1)+(if j=k then rest (n-1+k) else 0)) v i=v (n-1)*conv q v i+(if k<=i then rest (n-1+k)*v (i-k) else 0):=by
  rw[nD,nI];congr 1;rw[<-iZ];exact fR (fun j=>CR.mul_comm _ _) (fun _=>rfl) i
 rw[b];have c:=f i;have d:m*v (n-1)*w i=v (n-1)*conv q v i+v (n-1)*rest i:=by
  rw[CR.mul_comm m,CR.mul_assoc,c,CR.mul_add]
 rw[d];by_cases a:i<n-1+k
 ·rw[if_pos a,CR.add_assoc,CR.add_sub,CR.mul_comm (rest i)]
 ·rw[if_neg a,if_pos (by omega),CR.add_zero];by_cases e:i=n-1+k
  ·subst e;rw[show n-1+k-k=n-1 by omega,CR.mul_comm (rest _)]
  ·rw[hv (i-k) (by omega),g i (by omega),CR.mul_zero,CR.mul_zero]
end
section
variable {α:Type}
def aX (z:α->Bool):List α->List α
 |[]=>[]
 |a :: l=>match aX z l with
  |[]=>if z a then [] else [a]
  |b :: m=>a :: b :: m
theorem vL (z:α->Bool) (l:List α) (a:α):aX z (l++[a])=if z a then aX z l else l++[a]:=by
 induction l with
 |nil=>simp[aX]
 |cons b l d=>
  rw[List.cons_append,aX,d];by_cases h:z a=true
  ·simp only[if_pos h];rfl
  ·simp only[if_neg h];cases l with
   |nil=>rfl
   |cons c m=>rfl
theorem n9 (z:α->Bool) (l:List α):∃m,l=aX z l++m∧(∀a∈m,z a=true)∧∀a,(aX z l).getLast?=some a->z a=false:=by
 induction l with
 |nil=>exact⟨[],rfl,(fun _ h=>by cases h),(fun a h=>by simp[aX] at h)⟩
 |cons b l i=>
  obtain⟨m,e,f,g⟩:=i;rw[aX];cases ht:aX z l with
  |nil=>
   rw[ht,List.nil_append] at e;by_cases h:z b=true
   ·refine⟨b :: m,by simp[h,e],fun a d=> ?_,fun a d=>by simp[h] at d⟩;rcases List.mem_cons.1 d with rfl|d
    ·exact h
    ·exact f a d
   ·refine⟨m,by simp[h,e],f,fun a d=> ?_⟩;simp[h] at d;subst d;simpa using h
  |cons c k=>
   refine⟨m,by rw[ht] at e;simp[e],f,fun a d=>g a ?_⟩;rw[ht];rw[List.getLast?_cons_cons] at d;exact d
theorem mK (z:α->Bool) (l:List α):(aX z l).length<=l.length:=by
 obtain⟨m,h,_⟩:=n9 z l;have:=congrArg List.length h;rw[List.length_append] at this;omega
theorem B8 (z:α->Bool) (l:List α):aX z l=l.take (aX z l).length:=by
 obtain⟨m,h,_⟩:=n9 z l;have:(aX z l++m).take (aX z l).length=aX z l:=by simp
 rw[<-h] at this;exact this.symm
theorem JN {z:α->Bool} {l:List α} (h:∀a,l.getLast?=some a->z a=false):aX z l=l:=by
 obtain⟨m,c,d,_⟩:=n9 z l;by_cases b:m=[]
 ·rw[b,List.append_nil] at c;exact c.symm
 ·exfalso;have f:=List.getLast?_eq_some_getLast b;have:l.getLast?=some (m.getLast b):=by
   rw[c,List.getLast?_append,f];rfl
  have e:=h _ this;rw[d _ (List.getLast_mem b)] at e;cases e
theorem vM (z:α->Bool) (l:List α) {n:Nat} {a:α} (h:l[n]? =some a) (b:z a=true):aX z (l.take (n+1))=aX z (l.take n):=by
 rw[List.take_add_one,h,Option.toList_some,vL,if_pos b]
theorem vN (z:α->Bool) (l:List α) {n:Nat} {a:α} (h:l[n]? =some a) (b:z a=false):aX z (l.take (n+1))=l.take (n+1):=by
 rw[List.take_add_one,h,Option.toList_some,vL,if_neg (by rw[b];simp)]
theorem oL {z:α->Bool} {l:List α} {a:α} (h:a∈aX z l):a∈l:=by
 rw[B8] at h;exact List.mem_of_mem_take h
end
section
variable {α:Type} [OfNat α 0]
def cf (l:List α) (i:Nat):α:=l.getD i 0
def aO (l:List α):Prop:=∀a,l.getLast?=some a->a≠0
theorem fM (i:Nat):cf ([]:List α) i=0:=by simp[cf]
theorem oM {l:List α} {i:Nat} {a:α} (h:l[i]? =some a):cf l i=a:=by simp[cf,h]
theorem eJ {l:List α} {i:Nat} (h:i<l.length):cf l i=l[i]:=by simp[cf,h]
theorem bZ {l:List α} {i:Nat} (h:l.length<=i):cf l i=0:=by simp[cf,h]
theorem rT {β:Type} [OfNat β 0] (f:β->α) (h:f 0=0) (l:List β) (i:Nat):cf (l.map f) i=f (cf l i):=by
 unfold cf;rw[List.getD_eq_getElem?_getD,List.getD_eq_getElem?_getD,List.getElem?_map];cases l[i]? <;>simp[h]
theorem nA (f:Nat->α) (n i:Nat):cf ((List.range n).map f) i=if i<n then f i else 0:=by
 unfold cf;rw[List.getD_eq_getElem?_getD,List.getElem?_map];by_cases h:i<n
 ·rw[if_pos h,List.getElem?_range h];rfl
 ·rw[if_neg h,List.getElem?_eq_none (by simpa using h)];rfl
theorem rU {l:List α} {a:α} (h:l.getLast?=some a):cf l (l.length-1)=a:=by
 rw[List.getLast?_eq_getElem?] at h;exact oM h
theorem mL {a b:List α} (g:aO a) (k:aO b) (h:∀i,cf a i=cf b i):a=b:=by
 have j:∀{a b:List α},aO a->(∀i,cf a i=cf b i)->a.length<=b.length:=by
  intro a b g h;rcases Nat.lt_or_ge b.length a.length with c|c
  ·exfalso;have l:a≠[]:=by intro e;rw[e] at c;simp at c
   have d:=List.getLast?_eq_some_getLast l;have f:=rU d;rw[h,bZ (by omega)] at f;exact g _ d f.symm
  ·exact c
 have c:a.length=b.length:=Nat.le_antisymm (j g h) (j k (fun i=>(h i).symm));refine List.ext_getElem c (fun i d f=> ?_);have:=h i;rw[eJ d,eJ f] at this;exact this
variable [DecidableEq α]
def aW (a:α):Bool:=decide (a=0)
theorem iX (l:List α):aO (aX aW l):=by
 intro a b;obtain⟨m,_,_,h⟩:=n9 aW l;have:=h a b;simpa [aW] using this
theorem nB {l:List α} (h:aO l):aX aW l=l:=JN (fun a b=>by simpa [aW] using h a b)
theorem iY (l:List α) (i:Nat):cf (aX aW l) i=cf l i:=by
 obtain⟨m,a,c,_⟩:=n9 aW l;by_cases h:i<(aX aW l).length
 ·unfold cf;conv=>rhs;rw[a]
  simp[List.getElem?_append_left h]
 ·rw[bZ (by omega)];by_cases b:i<l.length
  ·rw[eJ b];have d:l[i]∈m:=by
    have e:l[i]? =m[i-(aX aW l).length]? :=by
     conv=>lhs;rw[a]
     rw[List.getElem?_append_right (by omega)]
    rw[List.getElem?_eq_getElem b] at e;exact List.mem_of_getElem? e.symm
   have:=c _ d;exact(by simpa [aW] using this:l[i]=0).symm
  ·rw[bZ (by omega)]
end
def pP (a b:List Int):List Int:=if a=[]∨b=[] then [] else (List.range (a.length+b.length-1)).map (conv (cf a) (cf b))
theorem JO (a b:List Int) (i:Nat):cf (pP a b) i=conv (cf a) (cf b) i:=by
 unfold pP;by_cases h:a=[]∨b=[]
 ·rw[if_pos h,fM];rcases h with h|h
  ·rw[h,kE (fun i=>fM i)]
  ·rw[h,pR,kE (fun i=>fM i)]
 ·rw[if_neg h,nA];split
  ·rfl
  ·have d:a.length≠0:=fun e=>h (.inl (List.eq_nil_of_length_eq_zero e));have f:b.length≠0:=fun e=>h (.inr (List.eq_nil_of_length_eq_zero e));exact(pT (fun i c=>bZ c) (fun i c=>bZ c) (by omega)).symm
theorem JP (f:Nat->Int) (n:Nat):((bS f n:Int):Rat)=bS (fun k=>(f k:Rat)) n:=by
 induction n with
 |zero=>rfl
 |succ n a=>rw[bS,bS,Rat.intCast_add,a]
theorem mM (p q:Nat->Int) (i:Nat):((conv p q i:Int):Rat)=conv (fun k=>(p k:Rat)) (fun k=>(q k:Rat)) i:=by
 unfold conv
 rw[JP];exact jZ (fun k _=>by rw[Rat.intCast_mul])
def aD:Nat:=4294967296
theorem jY:0<aD:=by decide
def nv:List Nat->Nat
 |[]=>0
 |d :: l=>d+aD*nv l
def Dg (l:List Nat):Prop:=∀d∈l,d<aD
theorem oK:nv []=0:=rfl
theorem jK (l m:List Nat):nv (l++m)=nv l+aD^l.length*nv m:=by
 induction l with
 |nil=>simp[nv]
 |cons d l a=>
  rw[List.cons_append,nv,nv,a,List.length_cons,Nat.pow_succ,Nat.mul_add,Nat.mul_comm (aD^l.length) aD,Nat.mul_assoc];omega
theorem JK (n:Nat):nv (List.replicate n 0)=0:=by
 induction n with
 |zero=>rfl
 |succ n a=>rw[List.replicate_succ,nv,a];rfl
theorem kW {l:List Nat} (h:Dg l):nv l<aD^l.length:=by
 induction l with
 |nil=>simp[nv]
 |cons d l e=>
  have a:=e (fun x c=>h x (List.mem_cons_of_mem _ c));have f:=h d List.mem_cons_self;rw[nv,List.length_cons,Nat.pow_succ,Nat.mul_comm];have b:(nv l+1)*aD<=aD^l.length*aD:=Nat.mul_le_mul_right _ a;rw[Nat.add_mul] at b;omega
theorem JL {l:List Nat} {i d:Nat} (h:l[i]? =some d):nv (l.take (i+1))=nv (l.take i)+aD^i*d:=by
 have a:=(List.getElem?_eq_some_iff.1 h).1;rw[List.take_succ_eq_append_getElem a,jK,nv,oK,Nat.mul_zero,Nat.add_zero,List.length_take,Nat.min_eq_left (Nat.le_of_lt a)];rw[List.getElem?_eq_getElem a] at h;injection h with h;rw[h]
theorem vI {l:List Nat} {i d:Nat} (h:l[i]? =some d):nv (l.drop i)=d+aD*nv (l.drop (i+1)):=by
 have a:=(List.getElem?_eq_some_iff.1 h).1;rw[List.drop_eq_getElem_cons a,nv];rw[List.getElem?_eq_getElem a] at h;injection h with h;rw[h]
theorem Dg.set {l:List Nat} (h:Dg l) (i:Nat) {x:Nat} (c:x<aD):Dg (l.set i x):=fun d b=>by
 rcases List.mem_or_eq_of_mem_set b with a|a
 ·exact h d a
 ·rw[a];exact c
theorem Dg.zeros (n:Nat):Dg (List.replicate n 0):=fun d a=>by rw[(List.mem_replicate.1 a).2];exact jY
theorem Dg.take {l:List Nat} (h:Dg l) (n:Nat):Dg (l.take n):=fun d a=>h d (List.mem_of_mem_take a)
theorem Dg.get {l:List Nat} (h:Dg l) {i d:Nat} (hi:l[i]? =some d):d<aD:=h d (List.mem_of_getElem? hi)
theorem Dg.trim {l:List Nat} (h:Dg l):Dg (aX aW l):=fun d a=>h d (oL a)
theorem B0 (l:List Nat):nv (aX aW l)=nv l:=by
 obtain⟨m,b,c, -⟩:=n9 aW l;have i:nv m=0:=by
  clear b;induction m with
  |nil=>rfl
  |cons d m j=>
   have h:=c d List.mem_cons_self;have f:d=0:=by simpa [aW] using h
   rw[nv,j (fun a g=>c a (List.mem_cons_of_mem _ g)),f];rfl
 have e:=jK (aX aW l) m;rw[<-b,i,Nat.mul_zero,Nat.add_zero] at e;exact e.symm
theorem vJ {l:List Nat} (b:aO l) (a:l≠[]):aD^(l.length-1)<=nv l:=by
 obtain⟨m,d,rfl⟩:∃m d,l=m++[d]:=⟨l.dropLast,l.getLast a,(List.dropLast_concat_getLast a).symm⟩;have c:d≠0:=b d (by simp);rw[jK,nv,oK,Nat.mul_zero,Nat.add_zero,List.length_append,List.length_singleton,Nat.add_sub_cancel];have:aD^m.length*1<=aD^m.length*d:=Nat.mul_le_mul_left _ (by omega);omega
theorem rS {a b:List Nat} (d:Dg a) (f:aO b) (h:a.length<b.length):nv a<nv b:=by
 have c:b≠[]:=fun e=>by rw[e] at h;simp at h
 have g:=kW d;have i:=vJ f c;have j:aD^a.length<=aD^(b.length-1):=Nat.pow_le_pow_right jY (by omega);omega
theorem JM {l:List Nat} (b:aO l) (h:nv l=0):l=[]:=by
 by_cases a:l=[]
 ·exact a
 ·have:=vJ b a;have c:0<aD^(l.length-1):=Nat.pow_pos jY;omega
theorem B7 {a b:List Nat} (j:Dg a) (n:Dg b) {i x y:Nat} (d:a[i]? =some x) (l:b[i]? =some y) (o:a.length=b.length) (k:a.drop (i+1)=b.drop (i+1)) (h:x<y):nv a<nv b:=by
 have c:=(List.getElem?_eq_some_iff.1 d).1;have e:nv a=nv (a.take i)+aD^i*(x+aD*nv (a.drop (i+1))):=by
  rw[<-vI d];conv=>lhs;rw[<-List.take_append_drop i a,jK,List.length_take,Nat.min_eq_left (Nat.le_of_lt c)]
 have f:nv b=nv (b.take i)+aD^i*(y+aD*nv (b.drop (i+1))):=by
  rw[<-vI l];conv=>lhs;rw[<-List.take_append_drop i b,jK,List.length_take,Nat.min_eq_left (by omega)]
 have g:=kW (j.take i);rw[List.length_take,Nat.min_eq_left (Nat.le_of_lt c)] at g;rw[e,f,k];have m:aD^i*(x+aD*nv (b.drop (i+1)))+aD^i<=aD^i*(y+aD*nv (b.drop (i+1))):=by
  rw[<-Nat.mul_succ];exact Nat.mul_le_mul_left _ (by omega)
 omega
theorem vK {x y s:Nat} (a:x<2^s):2^s*y ||| x=2^s*y+x:=(Nat.two_pow_add_eq_or_of_lt a y).symm
section
variable {α:Type} {P Q:List α} {x y:α} {i:Nat}
theorem vD (h:P.length=i):(P++x :: Q)[i]? =some x:=by subst h;rw[List.getElem?_append_right (Nat.le_refl _),Nat.sub_self];rfl
theorem IX (h:P.length=i):(P++x :: Q).set i y=(P++[y])++Q:=by
 subst h;rw[List.set_append_right _ _ (Nat.le_refl _),Nat.sub_self,List.set_cons_zero,List.append_assoc];rfl
theorem gW (h:P.length=i):(P++[x]).length=i+1:=by rw[List.length_append,h];rfl
end
theorem jJ {l:List Nat} {i:Nat} (x:Nat) (h:l.length=i):nv (l++[x])=nv l+aD^i*x:=by subst h;rw[jK,nv,oK,Nat.mul_zero,Nat.add_zero]
theorem Dg.app {l m:List Nat} (h:Dg l) (k:Dg m):Dg (l++m):=fun d a=>(List.mem_append.1 a).elim (h d) (k d)
theorem Dg.snoc {l:List Nat} (h:Dg l) {x:Nat} (b:x<aD):Dg (l++[x]):=h.app (fun d a=>by rw[List.mem_singleton.1 a];exact b)
theorem Dg.drop {l:List Nat} (h:Dg l) (n:Nat):Dg (l.drop n):=fun d a=>h d (List.mem_of_mem_drop a)
theorem fY {l:List Nat} {i:Nat} (h:l.length<=i):nv (l.take i)=nv l:=by rw[List.take_of_length_le h]
def bO (l:List Nat) (i:Nat):Nat:=l.getD i 0
theorem eO {l:List Nat} {i d:Nat} (h:l[i]? =some d):bO l i=d:=by unfold bO;rw[List.getD_eq_getElem?_getD,h];rfl
theorem oJ {l:List Nat} {i:Nat} (h:l.length<=i):bO l i=0:=by unfold bO;rw[List.getD_eq_getElem?_getD,List.getElem?_eq_none h];rfl
theorem pO {l:List Nat} (h:Dg l) (i:Nat):bO l i<aD:=by
 by_cases a:i<l.length
 ·rw[eO (List.getElem?_eq_getElem a)];exact h _ (List.getElem_mem a)
 ·rw[oJ (by omega)];exact jY
theorem gD (l:List Nat) (i:Nat):nv (l.take (i+1))=nv (l.take i)+aD^i*bO l i:=by
 by_cases a:i<l.length
 ·rw[eO (List.getElem?_eq_getElem a)];exact JL (List.getElem?_eq_getElem a)
 ·rw[oJ (by omega),fY (by omega),fY (by omega),Nat.mul_zero,Nat.add_zero]
theorem IY (l:List Nat) (i:Nat):nv l=nv (l.take i)+aD^i*nv (l.drop i):=by
 by_cases h:i<=l.length
 ·conv=>lhs;rw[<-List.take_append_drop i l,jK,List.length_take,Nat.min_eq_left h]
 ·rw[List.drop_of_length_le (by omega),fY (by omega),oK,Nat.mul_zero,Nat.add_zero]
theorem vE {l:List Nat} {i A c s q:Nat} (a:l.length=i) (h:nv l+aD^i*c=A) (b:s=c+q):nv (l++[s%aD])+aD^(i+1)*(s/aD)=A+aD^i*q:=by
 rw[jJ _ a,Nat.pow_succ,Nat.mul_assoc,Nat.add_assoc,<-Nat.mul_add,Nat.mod_add_div,b,Nat.mul_add,<-h,Nat.add_assoc]
theorem vF {l:List Nat} {i A B b x u p c:Nat} (a:l.length=i) (h:A+aD^i*b=nv l+B) (d:u+aD*c=x+p+b):A+aD^i*u+aD^(i+1)*c=nv (l++[x])+(B+aD^i*p):=by
 have e:aD^i*u+aD^(i+1)*c=aD^i*x+aD^i*p+aD^i*b:=by rw[Nat.pow_succ,Nat.mul_assoc,<-Nat.mul_add,d,Nat.mul_add,Nat.mul_add]
 rw[jJ _ a];omega
theorem IZ {a b c x:Nat} (g:a<aD) (j:b<aD) (k:c<aD) (l:x<aD):c+(a*b+x)<aD*aD∧(c+(a*b+x))/aD<aD:=by
 have e:a*b<=(aD-1)*(aD-1):=Nat.mul_le_mul (by omega) (by omega);have f:(aD-1)*(aD-1)+2*aD<=aD*aD+1:=by decide
 have d:c+(a*b+x)<aD*aD:=by omega
 exact⟨d,Nat.div_lt_of_lt_mul d⟩
theorem J0 {a d r q r' o:Nat} (h:q*d+r'=r*aD+a):d*(q+aD*o)+r'=a+aD*(d*o+r):=by
 rw[Nat.mul_add,Nat.mul_add,<-Nat.mul_assoc,<-Nat.mul_assoc,Nat.mul_comm d q,Nat.mul_comm d aD,Nat.mul_comm aD r];omega
theorem J1 {P U V b W qt h:Nat} (f:0<P) (c:b*P<=V) (g:U<(W+1)*P) (k:qt*V<=U) (j:W<h*b):qt<h:=by
 have d:qt*b*P<=qt*V:=by rw[Nat.mul_assoc];exact Nat.mul_le_mul_left _ c
 have e:qt*b<W+1:=Nat.lt_of_mul_lt_mul_right (a:=P) (by omega);exact Nat.lt_of_mul_lt_mul_right (a:=b) (by omega)
theorem J2 {P U V a W qt h:Nat} (l:0<P) (n:V<(a+1)*P) (m:W*P<=U) (p:U<(qt+1)*V) (e:h*a<=W) (o:h<=a):h<=qt+1:=by
 rcases Nat.lt_or_ge (qt+1) h with b|b
 ·obtain⟨g,rfl⟩:∃g,h=g+1:=⟨h-1,by omega⟩;have f:(qt+1)*V<=g*V:=Nat.mul_le_mul_right _ (by omega);have j:g*V<=g*((a+1)*P):=Nat.mul_le_mul_left _ (by omega);have k:(g+1)*a*P<=W*P:=Nat.mul_le_mul_right _ e;have c:(g+1)*a*P<g*(a+1)*P:=by rw[Nat.mul_assoc g];omega
  have d:(g+1)*a<g*(a+1):=Nat.lt_of_mul_lt_mul_right c;rw[Nat.add_mul,Nat.mul_add] at d;omega
 ·exact b
structure Est (u2 u1 v1 qt h r:Nat):Prop where
 eq:h*v1+r=u2*aD+u1
 lo:qt<=h
 hi:h<=aD+1
theorem AY {l:List Nat} {p:Nat} (h:l.length=p+2):nv l=nv (l.take p)+aD^p*(bO l (p+1)*aD+bO l p):=by
 rw[<-fY (l:=l) (i:=p+2) (by omega),gD,gD,Nat.pow_succ,Nat.mul_assoc,Nat.add_assoc,<-Nat.mul_add,Nat.add_comm (bO l p),Nat.mul_comm aD]
theorem vG {l:List Nat} {p:Nat} (h:l.length=p+2):(bO l (p+1)*aD+bO l p)*aD^p<=nv l:=by rw[AY h,Nat.mul_comm];omega
theorem vH {l:List Nat} {p:Nat} (b:Dg l) (h:l.length=p+2):nv l<(bO l (p+1)*aD+bO l p+1)*aD^p:=by
 have a:=kW (b.take p);rw[List.length_take,Nat.min_eq_left (by omega)] at a;rw[AY h,Nat.add_mul _ 1,Nat.one_mul,Nat.mul_comm (aD^p)];omega
theorem Est.start {u2 u1 v1 v0 u0 qt P U V:Nat} (f:(v1*aD+v0)*P<=V) (l:U<((u2*aD+u1)*aD+u0+1)*P) (m:qt*V<=U) (hn:aD<=2*v1) (g:u2<=v1) (k:u1<aD) (j:u0<aD) (hv:v1<aD):
  Est u2 u1 v1 qt ((u2*aD+u1)/v1) ((u2*aD+u1)%v1)∧(u2*aD+u1)%v1<aD:=by
 have a:0<v1:=by unfold aD at hn;omega
 have e:=Nat.div_add_mod (u2*aD+u1) v1;have n:=Nat.mod_lt (u2*aD+u1) a;refine⟨⟨by rw[Nat.mul_comm];exact e,?_,Nat.le_of_lt_succ (Nat.div_lt_of_lt_mul ?_)⟩,by omega⟩
 ·rw[Nat.le_div_iff_mul_le a];have b:qt*(v1*aD*P)<=qt*V:=Nat.mul_le_mul_left _ (Nat.le_trans (Nat.mul_le_mul_right _ (Nat.le_add_right _ v0)) f);have c:qt*v1*(aD*P)<(u2*aD+u1+1)*(aD*P):=by
   have d:((u2*aD+u1)*aD+u0+1)*P<=((u2*aD+u1+1)*aD)*P:=Nat.mul_le_mul_right _ (by rw[Nat.add_mul _ 1];omega);rw[Nat.mul_assoc (u2*aD+u1+1)] at d;rw[Nat.mul_assoc,<-Nat.mul_assoc v1];omega
  have:=Nat.lt_of_mul_lt_mul_right c;omega
 ·have b:u2*aD<=v1*aD:=Nat.mul_le_mul_right _ g;rw[show v1*(aD+1).succ=v1*aD+2*v1 by rw[show(aD+1).succ=aD+2 from rfl,Nat.mul_add];omega];omega
section
variable {u2 u1 u0 v1 v0 qt h r P U V:Nat}
theorem Est.more (e:Est u2 u1 v1 qt h r) (c:0<P) (f:(v1*aD+v0)*P<=V) (d:U<((u2*aD+u1)*aD+u0+1)*P) (j:qt*V<=U) (m:qt<aD) (a:aD<=h∨r*aD+u0<h*v0):Est u2 u1 v1 qt (h-1) (r+v1)∧1<=h:=by
 have l:qt<h:=by
  rcases a with a|a
  ·omega
  ·refine J1 c f d j ?_;rw[<-e.eq,Nat.add_mul,Nat.mul_add,<-Nat.mul_assoc];omega
 have b:=e.eq;have k:=e.hi;obtain⟨g,rfl⟩:∃g,h=g+1:=⟨h-1,by omega⟩;rw[Nat.add_mul,Nat.one_mul] at b;exact⟨⟨by rw[Nat.add_sub_cancel];omega,by omega,by omega⟩,by omega⟩
theorem Est.fin (e:Est u2 u1 v1 qt h r) (b:0<P) (d:V<(v1*aD+v0+1)*P) (c:((u2*aD+u1)*aD+u0)*P<=U) (f:U<(qt+1)*V) (a:0<v1) (j:h<aD) (g:h*v0<=r*aD+u0):qt<=h∧h<=qt+1:=by
 refine⟨e.lo,J2 b d c f ?_ ?_⟩
 ·rw[<-e.eq,Nat.add_mul,Nat.mul_add,<-Nat.mul_assoc];omega
 ·have:1*aD<=v1*aD:=Nat.mul_le_mul_right _ a;omega
theorem Est.out (e:Est u2 u1 v1 qt h r) (c:u2<=v1) (f:u1<aD) (m:v0<aD) (b:aD<=r):h<aD∧h*v0<=r*aD+u0:=by
 have d:h<aD:=by
  have g:=e.eq;have j:u2*aD<=v1*aD:=Nat.mul_le_mul_right _ c;refine Nat.lt_of_mul_lt_mul_right (a:=v1) ?_;rw[Nat.mul_comm aD];omega
 refine⟨d,?_⟩;have k:h*v0<=aD*aD:=Nat.mul_le_mul (by omega) (by omega);have l:aD*aD<=r*aD:=Nat.mul_le_mul_right _ b;omega
end
theorem J3 {B X Y V U t h qt b k:Nat} (d:X+B*t=U) (l:qt*V+b=U) (m:b<V) (e:V<B) (j:qt<=h) (g:h<=qt+1) (c:X+B*k=Y+h*V) (f:Y<B):
  h=qt∧t=k∧Y=b∨h=qt+1∧k=t+1∧Y+V=b+B:=by
 rcases(show h=qt∨h=qt+1 by omega) with rfl|rfl
 ·left;rcases Nat.lt_trichotomy t k with a|a|a
  ·have:B*(t+1)<=B*k:=Nat.mul_le_mul_left _ a;rw[Nat.mul_add] at this;omega
  ·subst a;exact⟨rfl,rfl,by omega⟩
  ·have:B*(k+1)<=B*t:=Nat.mul_le_mul_left _ a;rw[Nat.mul_add] at this;omega
 ·right;rw[Nat.add_mul,Nat.one_mul] at c;rcases Nat.lt_trichotomy (t+1) k with a|a|a
  ·have:B*(t+2)<=B*k:=Nat.mul_le_mul_left _ a;rw[Nat.mul_add] at this;omega
  ·subst a;rw[Nat.mul_add] at c;exact⟨rfl,rfl,by omega⟩
  ·have:B*k<=B*t:=Nat.mul_le_mul_left _ (by omega);omega
theorem J4 {lo xs zs a:List Nat} {t V j n qt b X:Nat} (d:lo.length=j) (hn:xs.length=n) (c:nv xs+aD^n*t=qt*V+b) (e:nv zs=b) (hi:nv (lo++(xs++[t]))+V*aD^(j+1)*nv a=X):
  nv (lo++zs)+V*aD^j*nv (qt :: a)=X:=by
 rw[<-hi,jK,jK,jJ t hn,c,e,d,nv,Nat.pow_succ];grind
theorem J5 {lo zs:List Nat} {V j:Nat} (d:Dg lo) (a:lo.length=j) (e:nv zs<V):nv (lo++zs)<V*aD^j:=by
 have b:=kW d;have c:(nv zs+1)*aD^j<=V*aD^j:=Nat.mul_le_mul_right _ e;rw[jK,a];rw[a] at b;rw[Nat.add_mul,Nat.one_mul,Nat.mul_comm] at c;omega
theorem J6 {lo xs:List Nat} {V j:Nat} (b:lo.length=j) (h:nv (lo++xs)<V*aD^(j+1)):nv xs<aD*V:=by
 rw[jK,b,Nat.pow_succ,show V*(aD^j*aD)=aD^j*(aD*V) by grind] at h;exact Nat.lt_of_mul_lt_mul_left (a:=aD^j) (by omega)
theorem J7 {xs:List Nat} {t p:Nat} (h:xs.length=p+2):((t*aD+bO xs (p+1))*aD+bO xs p)*aD^p<=nv (xs++[t]):=by
 have a:=vG h;rw[jJ t h,Nat.pow_add,show aD^p*aD^2*t=t*aD*aD*aD^p by grind];rw[show((t*aD+bO xs (p+1))*aD+bO xs p)*aD^p=t*aD*aD*aD^p+(bO xs (p+1)*aD+bO xs p)*aD^p by grind];omega
theorem J8 {xs:List Nat} {t p:Nat} (a:Dg xs) (h:xs.length=p+2):nv (xs++[t])<((t*aD+bO xs (p+1))*aD+bO xs p+1)*aD^p:=by
 have b:=vH a h;rw[jJ t h,Nat.pow_add,show aD^p*aD^2*t=t*aD*aD*aD^p by grind];rw[show((t*aD+bO xs (p+1))*aD+bO xs p+1)*aD^p=t*aD*aD*aD^p+(bO xs (p+1)*aD+bO xs p+1)*aD^p by grind];omega
theorem J9 {xs a:List Nat} {t p:Nat} (b:Dg a) (h:xs.length=p+2) (hv:a.length=p+2) (d:nv (xs++[t])<aD*nv a):t<=bO a (p+1):=by
 have f:=vH b hv;have e:=pO b p;rw[jJ t h,show aD^(p+2)*t=t*(aD*aD*aD^p) by rw[Nat.pow_add,show aD^2=aD*aD from Nat.pow_two _];ac_rfl] at d;have g:(bO a (p+1)*aD+bO a p+1)*aD^p<=((bO a (p+1)+1)*aD)*aD^p:=Nat.mul_le_mul_right _ (by rw[Nat.add_mul _ 1];omega);have c:t*(aD*aD*aD^p)<(bO a (p+1)+1)*(aD*aD*aD^p):=by
  rw[show(bO a (p+1)+1)*(aD*aD*aD^p)=aD*(((bO a (p+1)+1)*aD)*aD^p) by ac_rfl];have:aD*nv a<=aD*(((bO a (p+1)+1)*aD)*aD^p):=Nat.mul_le_mul_left _ (by omega);omega
 have:=Nat.lt_of_mul_lt_mul_right c;omega
theorem JA {Z Y:List Nat} {n y s:Nat} (v:Dg Y) (j:Dg Z) (hn:Y.length=n+1) (H:Z.length=n+2) (C:bO Y n=y) (G:2147483648<=y*2^s) (p:y*2^s<4294967296) (J:s<32) (hv:nv Z=2^s*nv Y):
  ∃b,Z=b++[0]∧aX aW Z=b∧b.length=n+1∧Dg b∧nv b=2^s*nv Y∧aD<=2*bO b n∧nv b<aD^(n+1):=by
 have B:0<2^s:=Nat.pow_pos (by decide);have w:(4294967296:Nat)=2^(32-s)*2^s:=by rw[<-Nat.pow_add,show 32-s+s=32 by omega]
 have z:(y+1)*2^s<=aD:=by
  unfold aD;rw[w] at p⊢;exact Nat.mul_le_mul_right _ (Nat.lt_of_mul_lt_mul_right p)
 have g:=gD Y n;rw[fY (i:=n+1) (by omega),C] at g;have A:=kW (v.take n);rw[List.length_take,Nat.min_eq_left (by omega)] at A;have t:nv Z<aD^(n+1):=by
  have d:2^s*nv Y<2^s*(aD^n*(y+1)):=Nat.mul_lt_mul_of_pos_left (by rw[g,Nat.mul_add,Nat.mul_one];omega) B;have l:aD^n*((y+1)*2^s)<=aD^n*aD:=Nat.mul_le_mul_left _ z;rw[hv,Nat.pow_succ];have E:2^s*(aD^n*(y+1))=aD^n*((y+1)*2^s):=by ac_rfl
  omega
 have I:aD^n*(y*2^s)<=nv Z:=by
  rw[hv,g,show aD^n*(y*2^s)=2^s*(aD^n*y) by ac_rfl];exact Nat.mul_le_mul_left _ (by omega)
 have c:=gD Z (n+1);rw[fY (i:=n+1+1) (by omega)] at c;have f:bO Z (n+1)=0:=by
  rcases Nat.eq_zero_or_pos (bO Z (n+1)) with h|h
  ·exact h
  ·have:aD^(n+1)*1<=aD^(n+1)*bO Z (n+1):=Nat.mul_le_mul_left _ h;omega
 have K:=gD Z n;have D:=kW (j.take n);rw[List.length_take,Nat.min_eq_left (by omega)] at D;have u:aD<=2*bO Z n:=by
  have d:aD^n*(y*2^s)<aD^n*(bO Z n+1):=by
   rw[f,Nat.mul_zero,Nat.add_zero] at c;rw[Nat.mul_add,Nat.mul_one];omega
  have:=Nat.lt_of_mul_lt_mul_left d;unfold aD;omega
 have q:n+1<Z.length:=by omega
 have k:Z=Z.take (n+1)++[0]:=by
  have d:Z[n+1]=0:=by rw[<-f,eO (List.getElem?_eq_getElem q)]
  have:=List.take_succ_eq_append_getElem q;rw[d,List.take_of_length_le (by omega)] at this;exact this
 have o:(Z.take (n+1)).length=n+1:=by rw[List.length_take];omega
 have m:bO (Z.take (n+1)) n=bO Z n:=by rw[eO (List.getElem?_eq_getElem (by omega)),eO (List.getElem?_eq_getElem (show n<Z.length by omega)),List.getElem_take]
 refine⟨Z.take (n+1),k,?_,o,j.take _,?_,by rw[m];exact u,?_⟩
 ·rw[show aX aW Z=aX aW (Z.take (n+1)++[0]) from congrArg _ k,vL,if_pos (show aW 0=true from rfl)];refine nB (fun a e=> ?_);have l:(Z.take (n+1)).getLast?=some (bO (Z.take (n+1)) n):=by
   rw[List.getLast?_eq_getElem?,o,Nat.add_sub_cancel,eO (List.getElem?_eq_getElem (show n<(Z.take (n+1)).length by omega))];exact List.getElem?_eq_getElem _
  rw[l] at e;injection e with e;rw[<-e,m];intro F;unfold aD at u;omega
 ·rw[<-hv];rw[f,Nat.mul_zero,Nat.add_zero] at c;exact c.symm
 ·rw[c,f,Nat.mul_zero,Nat.add_zero] at t;exact t
theorem JB {a X:List Nat} {p M s:Nat} (c:Dg X) (hv:a.length=p+2) (k:X.length=M+(p+2)) (l:aD<=2*bO a (p+1)) (n:s<32):2^s*nv X<nv a*aD^(M+1):=by
 have d:=kW c;have e:=gD a (p+1);rw[fY (by omega)] at e;have f:aD^(p+1)*aD<=aD^(p+1)*(2*bO a (p+1)):=Nat.mul_le_mul_left _ l;rw[show aD^(p+1)*(2*bO a (p+1))=2*(aD^(p+1)*bO a (p+1)) by ac_rfl] at f;have g:2^s<=2147483648:=Nat.pow_le_pow_right (by decide) (show s<=31 by omega);have m:2^s*nv X<=2147483648*nv X:=Nat.mul_le_mul_right _ g;have b:aD^(p+2)*aD^(M+1)<=2*nv a*aD^(M+1):=Nat.mul_le_mul_right _ (by rw[Nat.pow_succ];omega);have j:aD^(p+2)*aD^(M+1)=aD*aD^X.length:=by rw[k,<-Nat.pow_add,<-Nat.pow_succ'];congr 1;omega
 rw[Nat.mul_assoc] at b;unfold aD at b j d⊢;omega
theorem JC {l:List Nat} {k n:Nat} (h:l.length=n+(k+1)):∃lo xs t,l=lo++(xs++[t])∧lo.length=k∧xs.length=n:=by
 have a:n<(l.drop k).length:=by rw[List.length_drop];omega
 refine⟨l.take k,(l.drop k).take n,(l.drop k)[n],?_,by rw[List.length_take];omega,by rw[List.length_take];omega⟩;have e:=List.take_succ_eq_append_getElem a;rw[List.take_of_length_le (by rw[List.length_drop];omega)] at e;rw[<-e,List.take_append_drop]
theorem AZ {lo xs zs:List Nat} {t k i:Nat} (a:lo.length=k) (hi:i<xs.length):(lo++(xs++[t])++zs)[k+i]? =some (bO xs i):=by
 rw[List.append_assoc,List.getElem?_append_right (by omega),a,Nat.add_sub_cancel_left,List.append_assoc,List.getElem?_append_left hi,eO (List.getElem?_eq_getElem hi)];exact List.getElem?_eq_getElem hi
theorem JD {lo xs zs:List Nat} {t k n:Nat} (a:lo.length=k) (hn:xs.length=n):(lo++(xs++[t])++zs)[k+n]? =some t:=by
 rw[show lo++(xs++[t])++zs=(lo++xs)++t :: zs by simp];exact vD (by rw[List.length_append,a,hn])
theorem JE {y:Nat} (a:y≠0) (h:y<4294967296):∃s,s<32∧2147483648<=y*2^s∧y*2^s<4294967296:=by
 have g:∀k,∀y:Nat,y≠0->y<4294967296->4294967296<=y*2^(k+1)->∃s,s<=k∧2147483648<=y*2^s∧y*2^s<4294967296:=by
  intro k;induction k with
  |zero=>intro y a h c;exact⟨0,Nat.le_refl _,by omega,by omega⟩
  |succ k f=>
   intro y a h c;rcases Nat.lt_or_ge y 2147483648 with e|e
   ·obtain⟨s,d,b,j⟩:=f (y*2) (by omega) (by omega) (by rw[Nat.pow_succ] at c;grind);refine⟨s+1,by omega,?_,?_⟩<;>(rw[Nat.pow_succ,Nat.mul_comm (2^s),<-Nat.mul_assoc];assumption)
   ·exact⟨0,by omega,by omega,by omega⟩
 obtain⟨s,d,b⟩:=g 31 y a h (by omega);exact⟨s,by omega,b⟩
theorem JF {P:List Nat} {i x y s A R:Nat} (f:s<32) (d:P.length=i) (h:2^s*nv P+R=A+aD^i*(x%2^s)):
  2^s*nv (P++[x/2^s+2^(32-s)*(y%2^s)])+R=A+aD^i*x+aD^(i+1)*(y%2^s):=by
 have a:aD=2^s*2^(32-s):=by rw[<-Nat.pow_add,show s+(32-s)=32 by omega];rfl
 have b:=Nat.mod_add_div x (2^s);rw[jJ _ d,Nat.pow_succ];generalize y%2^s=m at *;have c:2^s*(aD^i*(x/2^s+2^(32-s)*m))=aD^i*(2^s*(x/2^s))+aD^i*aD*m:=by rw[Nat.mul_assoc (aD^i),a];grind
 rw[Nat.mul_add,c];have e:aD^i*x=aD^i*(x%2^s)+aD^i*(2^s*(x/2^s)):=by rw[<-Nat.mul_add,b]
 omega
theorem JG {p r s a R:Nat} (h:2^s*p+r%2^s=a) (j:a=2^s*R):p=R:=by
 have d:0<2^s:=Nat.pow_pos (by decide);have e:=Nat.mod_lt r d;have b:2^s*p<2^s*(R+1):=by rw[Nat.mul_add];omega
 have c:2^s*R<2^s*(p+1):=by rw[Nat.mul_add];omega
 have f:=Nat.lt_of_mul_lt_mul_left b;have g:=Nat.lt_of_mul_lt_mul_left c;omega
theorem JH {a b u r s:Nat} (k:0<b) (h:u+2^s*b*r=2^s*a) (l:u<2^s*b):r=a/b∧u=2^s*(a%b):=by
 have g:0<2^s:=Nat.pow_pos (by decide);have j:2^s*b*r=2^s*(b*r):=Nat.mul_assoc _ _ _;have e:b*r<=a:=Nat.le_of_mul_le_mul_left (show 2^s*(b*r)<=2^s*a by omega) g;have f:a<b*(r+1):=Nat.lt_of_mul_lt_mul_left (a:=2^s) (by rw[Nat.mul_add,Nat.mul_one,Nat.mul_add];omega);have d:r=a/b:=(Nat.div_eq_of_lt_le (by rw[Nat.mul_comm];exact e) (by rw[Nat.mul_comm];exact f)).symm;refine⟨d,?_⟩;have c:=Nat.div_add_mod a b;rw[<-d] at c;rw[<-c,Nat.mul_add] at h;omega
structure Dvs (vs:List Nat) (n p:Nat):Prop where
 hn:n=p+1+1
 len:vs.length=n
 dg:Dg vs
 top:aD<=2*bO vs (p+1)
 lt:nv vs<aD^n
structure DvX (us vs lo xs:List Nat) (k n t u1 u0 v1 v0 qt rt:Nat):Prop where
 us_:us=lo++(xs++[t])
 lo_:lo.length=k
 xs_:xs.length=n
 dlo:Dg lo
 dxs:Dg xs
 c2:∀zs,(us++zs)[k+n]? =some t
 c1:∀zs,(us++zs)[k+n-1]? =some u1
 c0:∀zs,(us++zs)[k+n-2]? =some u0
 d1:(vs++[0])[n-1]? =some v1
 d0:(vs++[0])[n-2]? =some v0
 u_:nv xs+aD^n*t=qt*nv vs+rt
 r_:rt<nv vs
 first:Est t u1 v1 qt ((t*aD+u1)/v1) ((t*aD+u1)%v1)
 more:∀h r,Est t u1 v1 qt h r->(aD<=h∨r*aD+u0<h*v0)->Est t u1 v1 qt (h-1) (r+v1)∧1<=h
 fin:∀h r,Est t u1 v1 qt h r->(h<aD∧h*v0<=r*aD+u0∨aD<=r)->qt<=h∧h<=qt+1∧h<aD
theorem JI {us a:List Nat} {k n p:Nat} (V:Dvs a n p) (R:us.length=n+(k+1)) (B:Dg us) (S:nv us<nv a*aD^(k+1)):
  ∃lo xs t u1 u0 v1 v0 qt v,DvX us a lo xs k n t u1 u0 v1 v0 qt v∧t<aD∧u1<aD∧u0<aD∧v1<aD∧v0<aD∧0<v1∧qt<aD:=by
 obtain⟨hn,W,g,I,ab⟩:=V;obtain⟨lo,xs,t,rfl,f,m⟩:=JC R;have A:=J6 f S;have M:Dg lo:=fun d c=>B d (List.mem_append_left _ c);have w:Dg (xs++[t]):=fun d c=>B d (List.mem_append_right _ c);have j:Dg xs:=fun d c=>w d (List.mem_append_left _ c);have X:=w t (by simp);have u:xs.length=p+2:=by rw[m,hn]
 have l:a.length=p+2:=by rw[W,hn]
 have o:=pO j (p+1);have z:=pO j p;have G:=pO g (p+1);have F:=pO g p;have H:0<bO a (p+1):=by unfold aD at I;omega
 have q:0<aD^p:=Nat.pow_pos jY;have O:0<nv a:=by
  have h2:=vG l;have:1*1<=(bO a (p+1)*aD+bO a p)*aD^p:=Nat.mul_le_mul (by unfold aD;omega) q;omega
 have C:=Nat.div_add_mod (nv (xs++[t])) (nv a);have T:=Nat.mod_lt (nv (xs++[t])) O;have D:nv (xs++[t])/nv a<aD:=Nat.div_lt_of_lt_mul (by rw[Nat.mul_comm];exact A);generalize nv (xs++[t])/nv a=qt at *;generalize nv (xs++[t])%nv a=v at *;rw[Nat.mul_comm] at C;have E:=J9 g u l A;have Z:=J7 u (t:=t);have K:=J8 j u (t:=t);have J:=vG l;have Y:=vH g l;obtain⟨N, -⟩:=Est.start J K (show qt*nv a<=nv (xs++[t]) by omega) I E o z G;refine⟨lo,xs,t,_,_,_,_,qt,v,⟨rfl,f,m,M,j,fun L=>JD f m,fun L=> ?_,fun L=> ?_,?_,?_,?_,T,N,fun h r e b=>e.more q J K (show qt*nv a<=nv (xs++[t]) by omega) D b,fun h r e b=> ?_⟩,X,o,z,G,F,H,D⟩
 ·rw[show k+n-1=k+(p+1) by omega];exact AZ f (by omega)
 ·rw[show k+n-2=k+p by omega];exact AZ f (by omega)
 ·rw[hn,List.getElem?_append_left (by omega),eO (List.getElem?_eq_getElem (show p+1<a.length by omega))];exact List.getElem?_eq_getElem _
 ·rw[hn,List.getElem?_append_left (by omega),eO (List.getElem?_eq_getElem (show p<a.length by omega))];exact List.getElem?_eq_getElem _
 ·rw[<-C.symm,jJ t m] at *
 ·have s:h<aD∧h*bO a p<=r*aD+bO xs p:=by
   rcases b with b|b
   ·exact b
   ·exact e.out E o F b
  have:=e.fin q Y Z (by rw[Nat.add_mul,Nat.one_mul];omega) H s.1 s.2;exact⟨this.1,this.2,s.1⟩
end Go.Proofs.YthfnenohhindpaaGreatDoor
namespace Sos
def aF (b:Int):List Int->Int
 |[]=>0
 |z :: zs=>z+b*aF b zs
def InR (b:Int) (zs:List Int):Prop:=∀z∈zs,0<=z∧z<b
theorem InR.nil {b:Int}:InR b []:=fun _ h=>by cases h
theorem InR.cons {b z:Int} {zs:List Int} (c:0<=z) (d:z<b) (h:InR b zs):InR b (z :: zs):=by
 intro x a;rcases List.mem_cons.1 a with rfl|a
 ·exact⟨c,d⟩
 ·exact h x a
theorem InR.head {b z:Int} {zs:List Int} (h:InR b (z :: zs)):0<=z∧z<b:=h z (List.mem_cons_self ..)
theorem InR.tail {b z:Int} {zs:List Int} (h:InR b (z :: zs)):InR b zs:=fun x a=>h x (List.mem_cons_of_mem _ a)
theorem InR.append {b:Int} {xs ys:List Int} (h:InR b xs) (c:InR b ys):InR b (xs++ys):=by
 intro x a;rcases List.mem_append.1 a with a|a
 ·exact h x a
 ·exact c x a
theorem InR.left {b:Int} {xs ys:List Int} (h:InR b (xs++ys)):InR b xs:=fun x a=>h x (List.mem_append_left _ a)
theorem InR.right {b:Int} {xs ys:List Int} (h:InR b (xs++ys)):InR b ys:=fun x a=>h x (List.mem_append_right _ a)
theorem InR.take {b:Int} {xs:List Int} (h:InR b xs) (n:Nat):InR b (xs.take n):=fun x a=>h x (List.mem_of_mem_take a)
theorem InR.drop {b:Int} {xs:List Int} (h:InR b xs) (n:Nat):InR b (xs.drop n):=fun x a=>h x (List.mem_of_mem_drop a)
theorem InR.getD {b:Int} {xs:List Int} (h:InR b xs) (c:0<b) (i:Nat):0<=xs.getD i 0∧xs.getD i 0<b:=by
 rw[dF];rcases Nat.lt_or_ge i xs.length with a|a
 ·rw[aL a];exact h _ (List.getElem_mem a)
 ·rw[eF a];exact⟨by simp,by simpa using c⟩
theorem InR.replicate {b:Int} (a:0<b) (n:Nat):InR b (List.replicate n 0):=by
 intro x c;have:=List.eq_of_mem_replicate c;subst this;exact⟨Int.le_refl _,a⟩
theorem InR.set {b z:Int} {xs:List Int} (h:InR b xs) (c:0<=z) (d:z<b) (i:Nat):InR b (xs.set i z):=by
 intro x a;rcases List.mem_or_eq_of_mem_set a with a|rfl
 ·exact h x a
 ·exact⟨c,d⟩
@[simp] theorem val_nil (b:Int):aF b []=0:=rfl
@[simp] theorem val_cons (b z:Int) (zs:List Int):aF b (z :: zs)=z+b*aF b zs:=rfl
theorem sK (b z:Int):aF b [z]=z:=by simp[aF]
theorem iP (b:Int) (xs ys:List Int):aF b (xs++ys)=aF b xs+b^xs.length*aF b ys:=by
 induction xs with
 |nil=>simp
 |cons x xs a=>simp only[List.cons_append,val_cons,a,List.length_cons];grind
theorem jN (b:Int) (n:Nat):aF b (List.replicate n 0)=0:=by
 induction n with
 |zero=>rfl
 |succ n a=>simp[List.replicate_succ,a]
theorem eQ {b:Int} {zs:List Int} (c:0<b) (h:InR b zs):0<=aF b zs:=by
 induction zs with
 |nil=>simp
 |cons z zs d=>
  have e:=h.head;have a:=d h.tail;have f:=Int.mul_nonneg (Int.le_of_lt c) a;simp only[val_cons];omega
theorem fZ {b:Int} {zs:List Int} (d:0<b) (h:InR b zs):aF b zs<b^zs.length:=by
 induction zs with
 |nil=>simp
 |cons z zs e=>
  have f:=h.head;have g:=e h.tail;have a:b*aF b zs<=b*(b^zs.length-1):=eZ (by omega) (Int.le_of_lt d);have c:b^(z :: zs).length=b*b^zs.length:=by simp[Int.pow_succ,Int.mul_comm]
  rw[c,val_cons];rw[Int.mul_sub] at a;omega
theorem lF {b:Int} (a:0<b) (n:Nat):0<b^n:=Int.pow_pos a
theorem sL {b:Int} (c:1<=b) {m n:Nat} (h:m<=n):b^m<=b^n:=by
 induction n with
 |zero=>have:m=0:=by omega
        subst this;exact Int.le_refl _
 |succ n d=>
  rcases Nat.lt_or_ge m (n+1) with a|a
  ·have e:=d (by omega);have f:0<b^n:=Int.pow_pos (by omega);have g:b^n*1<=b^n*b:=eZ c (by omega);rw[Int.pow_succ];omega
  ·have:m=n+1:=by omega
   subst this;exact Int.le_refl _
theorem j6 (b:Int) (xs:List Int) (n:Nat) (hn:n<=xs.length):aF b xs=aF b (xs.take n)+b^n*aF b (xs.drop n):=by
 conv=>lhs;rw[<-List.take_append_drop n xs]
 rw[iP,aZ,Nat.min_eq_left hn]
theorem gY (b:Int) (xs:List Int) (n:Nat) (hn:n<xs.length):aF b (xs.take (n+1))=aF b (xs.take n)+b^n*xs.getD n 0:=by
 rw[List.take_succ_eq_append_getElem hn,iP,aZ,Nat.min_eq_left (Nat.le_of_lt hn),sK];rw[dF,aL hn];rfl
theorem j7 (b:Int) (xs:List Int) (n:Nat) (hn:n<xs.length):aF b (xs.drop n)=xs.getD n 0+b*aF b (xs.drop (n+1)):=by
 rw[List.drop_eq_getElem_cons hn,val_cons,dF,aL hn];rfl
theorem lG (b:Int) (xs:List Int) (i:Nat) (v:Int) (hi:i<xs.length):aF b (xs.set i v)=aF b xs+b^i*(v-xs.getD i 0):=by
 induction xs generalizing i with
 |nil=>simp at hi
 |cons x xs a=>
  cases i with
  |zero=>simp;omega
  |succ i=>
   simp only[List.set_cons_succ,val_cons,List.getD_cons_succ];rw[a i (by simpa using hi)];grind
def iF (zs:List Int):Prop:=zs.getLast?≠some 0
def trimL:List Int->List Int
 |[]=>[]
 |z :: zs=>match trimL zs with
  |[]=>if z=0 then [] else [z]
  |y :: ys=>z :: y :: ys
theorem KQ (b:Int) (zs:List Int):aF b (trimL zs)=aF b zs:=by
 induction zs with
 |nil=>rfl
 |cons z zs a=>
  rw[trimL];split
  ·rename_i h;rw[h] at a;split
   ·rename_i c;subst c;simp only[val_cons,<-a];simp
   ·simp only[val_cons,<-a]
  ·rename_i y d h;rw[h] at a;rw[val_cons b z (y :: d),val_cons b z zs,a]
theorem KR (zs:List Int):iF (trimL zs):=by
 unfold iF;induction zs with
 |nil=>simp[trimL]
 |cons z zs a=>
  rw[trimL];split
  ·split
   ·simp
   ·rename_i b;simpa using b
  ·rename_i y c h;rw[h] at a;rw[List.getLast?_cons_cons];exact a
theorem lU (zs:List Int):(trimL zs).length<=zs.length:=by
 induction zs with
 |nil=>simp[trimL]
 |cons z zs a=>
  rw[trimL];split
  ·split<;>simp
  ·rename_i y b h;rw[h] at a;simp at a⊢;omega
theorem nM (zs:List Int):trimL zs=zs.take (trimL zs).length∧∀i,(trimL zs).length<=i->zs.getD i 0=0:=by
 induction zs with
 |nil=>simp[trimL]
 |cons z zs a=>
  rw[trimL];split
  ·rename_i h;rw[h] at a;split
   ·rename_i c;subst c;refine⟨by simp,fun i _=> ?_⟩;cases i with
    |zero=>rfl
    |succ i=>rw[List.getD_cons_succ];exact a.2 i (Nat.zero_le _)
   ·refine⟨by simp,fun i b=> ?_⟩;cases i with
    |zero=>simp at b
    |succ i=>rw[List.getD_cons_succ];exact a.2 i (Nat.zero_le _)
  ·rename_i y d h;rw[h] at a;refine⟨?_,fun i b=> ?_⟩
   ·rw[List.length_cons,List.take_succ_cons,<-a.1]
   ·cases i with
    |zero=>simp at b
    |succ i=>rw[List.getD_cons_succ];exact a.2 i (by simpa using b)
theorem InR.trimL {b:Int} {zs:List Int} (h:InR b zs):InR b (trimL zs):=by
 rw[(nM zs).1];exact h.take _
theorem BY {zs:List Int} {n:Nat} (hn:n<=zs.length) (c:n=0∨zs.getD (n-1) 0≠0) (a:∀i,n<=i->zs.getD i 0=0):trimL zs=zs.take n:=by
 induction zs generalizing n with
 |nil=>simp[Sos.trimL]
 |cons z zs b=>
  cases n with
  |zero=>
   have e:=a 0 aE;have g:z=0:=e;have:=b (n:=0) (Nat.zero_le _) (.inl rfl) (fun i _=>by have:=a (i+1) (Nat.zero_le _);rwa [List.getD_cons_succ] at this);subst g;rw[Sos.trimL,this];simp
  |succ n=>
   have f:∀i,n<=i->zs.getD i 0=0:=fun i k=>by have:=a (i+1) (by omega);rwa [List.getD_cons_succ] at this
   cases n with
   |zero=>
    have:=b (n:=0) (Nat.zero_le _) (.inl rfl) f;have j:z≠0:=by simpa using c
    rw[Sos.trimL,this];simp[j]
   |succ n=>
    have d:n+1<=zs.length:=by simpa using hn
    have:=b (n:=n+1) d (.inr (by rcases c with h|h;· omega
                                 ·simpa using h)) f
    rw[Sos.trimL,this,List.take_succ_cons];cases zs with
    |nil=>simp at d
    |cons y l=>rw[List.take_succ_cons]
theorem vY {b:Int} {zs:List Int} (n:1<b) (h:InR b zs) (c:iF zs) (g:zs≠[]):b^(zs.length-1)<=aF b zs:=by
 induction zs with
 |nil=>exact absurd rfl g
 |cons z zs i=>
  cases zs with
  |nil=>
   have j:z≠0:=by intro e;subst e;exact c rfl
   have:=h.head;simp;omega
  |cons y a=>
   have d:iF (y :: a):=by
    unfold iF at c⊢;rwa [List.getLast?_cons_cons] at c
   have f:=i h.tail d (by simp);have k:=h.head;rw[val_cons];have l:b*b^((y :: a).length-1)<=b*aF b (y :: a):=eZ f (by omega);have m:b^((z :: y :: a).length-1)=b*b^((y :: a).length-1):=by simp[Int.pow_succ,Int.mul_comm]
   omega
def Canon (b:Int) (zs:List Int):Prop:=InR b zs∧iF zs
theorem KT {b:Int} {zs:List Int} (h:InR b zs):Canon b (trimL zs):=⟨h.trimL,KR zs⟩
theorem Canon.nil {b:Int}:Canon b []:=⟨InR.nil,by simp[iF]⟩
theorem BZ {b:Int} {xs ys:List Int} (d:1<b) (c:Canon b xs) (g:InR b ys) (h:aF b xs<=aF b ys):xs.length<=ys.length:=by
 rcases Nat.lt_or_ge ys.length xs.length with a|a
 ·have f:xs≠[]:=by intro e;subst e;simp at a
  have i:=vY d c.1 c.2 f;have j:=fZ (by omega) g;have k:b^ys.length<=b^(xs.length-1):=sL (by omega) (by omega);omega
 ·exact a
theorem KU {b x y p q:Int} (d:0<=x) (e:x<b) (f:0<=y) (g:y<b) (h:x+b*p=y+b*q):x=y∧p=q:=by
 have i:b≠0:=by omega
 have a:(x+b*p)%b=x:=by rw[Int.add_mul_emod_self_left];exact Int.emod_eq_of_lt d e
 have c:(y+b*q)%b=y:=by rw[Int.add_mul_emod_self_left];exact Int.emod_eq_of_lt f g
 have j:x=y:=by rw[<-a,<-c,h]
 subst j;exact⟨rfl,Int.eq_of_mul_eq_mul_left i (by omega)⟩
theorem KV {b:Int} {xs ys:List Int} (e:InR b xs) (f:InR b ys) (a:xs.length=ys.length) (h:aF b xs=aF b ys):xs=ys:=by
 induction xs generalizing ys with
 |nil=>cases ys with
  |nil=>rfl
  |cons y ys=>simp at a
 |cons x xs i=>
  cases ys with
  |nil=>simp at a
  |cons y ys=>
   simp only[val_cons] at h;have c:=e.head;have d:=f.head
   obtain⟨rfl,g⟩:=KU c.1 c.2 d.1 d.2 h;rw[i e.tail f.tail (by simpa using a) g]
theorem KW {b:Int} {xs ys:List Int} (d:1<b) (a:Canon b xs) (c:Canon b ys) (h:aF b xs=aF b ys):xs=ys:=
 KV a.1 c.1 (Nat.le_antisymm (BZ d a c.1 (by omega)) (BZ d c a.1 (by omega))) h
def gZ (b:Nat) (n:Nat):List Int:=
 if _h:n=0∨b<2 then [] else ((n%b:Nat):Int) :: gZ b (n/b)
termination_by n
decreasing_by
 have:n/b<n:=Nat.div_lt_self (by omega) (by omega)
 exact this
theorem C0 (b:Nat):gZ b 0=[]:=by rw[gZ];simp
theorem vZ (b n:Nat) (d:2<=b):aF b (gZ b n)=n:=by
 induction n using Nat.strongRecOn with
 |ind n c=>
  rw[gZ];split
  ·rename_i h;rcases h with h|h
   ·subst h;rfl
   ·omega
  ·rename_i h;have a:n/b<n:=Nat.div_lt_self (by omega) (by omega);rw[val_cons,c _ a,<-Int.natCast_mul,<-Int.natCast_add,Nat.mod_add_div]
theorem KX (b n:Nat) (d:2<=b):InR b (gZ b n):=by
 induction n using Nat.strongRecOn with
 |ind n c=>
  rw[gZ];split
  ·exact InR.nil
  ·rename_i h;have a:n/b<n:=Nat.div_lt_self (by omega) (by omega);refine InR.cons (by omega) ?_ (c _ a);have:=Nat.mod_lt n (show 0<b by omega);omega
theorem C7 (b n:Nat) (c:2<=b):Canon b (gZ b n):=by
 refine⟨KX b n c,?_⟩;unfold iF;induction n using Nat.strongRecOn with
 |ind n e=>
  rw[gZ];split
  ·simp
  ·rename_i h;have d:n/b<n:=Nat.div_lt_self (by omega) (by omega);have:=e _ d;cases hd:gZ b (n/b) with
   |nil=>
    have hv:=vZ b (n/b) c;rw[hd] at hv;have f:n/b=0:=by
     have:((n/b:Nat):Int)=0:=by rw[<-hv];rfl
     omega
    have a:n<b:=by
     rcases Nat.lt_or_ge n b with a|a
     ·exact a
     ·have:=Nat.div_pos a (by omega);omega
    rw[Nat.mod_eq_of_lt a];simp;omega
   |cons y g=>rw[List.getLast?_cons_cons,<-hd];exact this
theorem KY {b:Nat} (a:2<=b) {zs:List Int} (h:Canon b zs):gZ b (aF b zs).toNat=zs:=by
 have c:=eQ (show(0:Int)<(b:Int) by omega) h.1;exact KW (by omega) (C7 b _ a) h (by rw[vZ b _ a];omega)
end Sos
