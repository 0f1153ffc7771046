/- Laws. -/
import Derived.Lib.Hide
import Derived.Tactics
import Derived.Below
import Derived.Lib.ItoaNum
set_option linter.all false
set_option maxHeartbeats 8000000
set_option maxRecDepth 99999
namespace Sos
variable{i k m n:Nat}{a b c:Int}
def aE:n<=n:=Nat.le_refl n
def mC(n:Nat):n<=n:=Nat.le_refl n
def aR{α:Type _}{l:List α}(h:i<l.length):l[i]? =some l[i]:=List.getElem?_eq_getElem h
def aH(h:n<=m)(a:m<=k):n<=k:=Nat.le_trans h a
def bX{α:Type _}{l:List α}(h:l.length=0):l=[]:=List.eq_nil_of_length_eq_zero h
def aZ(h:n<m)(a:m<=k):n<k:=Nat.lt_of_lt_of_le h a
def bN{α:Type _}{a bs:List α}:(a++bs).length=a.length+bs.length:=List.length_append
def bK{α:Type _}{l:List α}:(l.take i).length=min i l.length:=List.length_take
def cZ{α:Type _}{l:List α}(h:l.length<=i):l.take i=l:=List.take_of_length_le h
def eH(h:a<=b)(d:0<=c):a*c<=b*c:=Int.mul_le_mul_of_nonneg_right h d
def gK(h:a<=b)(d:0<=c):c*a<=c*b:=Int.mul_le_mul_of_nonneg_left h d
def eF{α:Type _}{l:List α}{a:α}:l.getD i a=l[i]?.getD a:=List.getD_eq_getElem?_getD
def dK(k:Nat)(h:n<=m):n*k<=m*k:=Nat.mul_le_mul_right k h
def eV(k:Nat)(h:n<=m):k*n<=k*m:=Nat.mul_le_mul_left k h
def fT(h:n>0){j:Nat}(a:i<=j):n^i<=n^j:=Nat.pow_le_pow_right h a
def dG{α:Type _}{l:List α}{a:α}(h:l[i]? =some a):a∈l:=List.mem_of_getElem? h
def dB{α:Type _}{a:α}:(List.replicate n a).length=n:=List.length_replicate
def bA(n:Nat):0+n=n:=Nat.zero_add n
def dD(n:Nat):(n:Int).natAbs=n:=Int.natAbs_natCast n
def cH{α:Type _}{β:Type _}{a:List α}(f:α->β):(a.map f).length=a.length:=List.length_map f
def fK{α:Type _}{l m:List α}(h:l.length<=i):(l++m)[i]? =m[i-l.length]? :=List.getElem?_append_right h
def gA{α:Type _}{l m:List α}(h:i<l.length):(l++m)[i]? =l[i]? :=List.getElem?_append_left h
def fU{α:Type _}{l:List α}(h:l.length<=i):l[i]? =none:=List.getElem?_eq_none h
def dN(n m:Nat):n*m=m*n:=Nat.mul_comm n m
def dH(n m:Nat):n^m.succ=n^m*n:=Nat.pow_succ n m
end Sos
namespace Sos
open Go Go.RowKit
def aB{p:Prop}(h:p):Hid p:=Lib.hid h
def aG(B:Nat)(w:World):Below B w w:=Below.refl B w
def aM{P:Program}{b:Func}{R:Ending->World->Prop}{a:Act}{w:World}{v:Value}(h:Sem.run P (results b a.tmps) w=Result.ok v w)(c:a.defers=[])(k:R (Ending.returned v) w):bodyPost P b R Exit.ret a w:=bodyPost_ret h c k
end Sos
namespace Sos
abbrev eG:= @List.length_cons
abbrev fC:= @List.getElem?_take
abbrev gG:= @List.length_drop
abbrev gO:= @List.drop_of_length_le
abbrev eJ:= @Rat.intCast_mul
abbrev gP:= @List.getElem?_set_self
abbrev dE:= @Nat.lt_or_ge
abbrev fH:= @List.append_nil
abbrev eQ:= @Nat.pow_pos
abbrev eM:= @List.length_set
abbrev j5:= @List.drop_eq_getElem_cons
abbrev y8:= @Nat.min_eq_left
abbrev iJ:= @List.length_singleton
abbrev dC:= @Nat.zero_le
abbrev iB:= @Nat.eq_zero_or_pos
abbrev iC:= @List.mem_cons_self
abbrev j6:= @List.getElem?_replicate
abbrev j7:= @Int.eq_ofNat_of_zero_le
abbrev iK:= @List.getElem?_map
abbrev dI:= @Nat.mod_lt
abbrev fL:= @Int.natAbs_mul
abbrev j8:= @List.mem_cons_of_mem
abbrev iL:= @Nat.mul_add
abbrev fM:= @List.map_cons
abbrev eK:= @List.append_assoc
abbrev gQ:= @Nat.add_zero
abbrev fD:= @Int.mul_comm
abbrev iD:= @Nat.div_add_mod
abbrev gB:= @Int.mul_nonneg
abbrev lH:= @List.mem_of_mem_take
abbrev fP:= @Int.le_of_lt
abbrev iM:= @List.nil_append
abbrev jI:= @Nat.lt_of_le_of_lt
abbrev j9:= @Int.toNat_natCast
abbrev iW:= @Nat.mul_assoc
abbrev mD:= @Nat.add_sub_cancel
abbrev mU:= @Nat.div_lt_of_lt_mul
abbrev iE:= @Nat.le_of_lt
abbrev Q9:= @List.take_add_one
abbrev jJ:= @Nat.mod_eq_of_lt
abbrev lI:= @List.getElem?_set_ne
abbrev gR:= @Int.pow_succ
abbrev jA:= @decide_eq_false_iff_not
abbrev iQ:= @decide_eq_true_iff
abbrev byY:= @Array.getElem?_modify
abbrev byZ:= @Array.size_replicate
abbrev bx5:= @Array.toList_append
abbrev az7:= @Bool.and_eq_true
abbrev bxH:= @Bool.eq_iff_iff
abbrev bz0:= @Classical.byContradiction
abbrev bxI:= @Int.add_comm
abbrev azG:= @Int.add_mul
abbrev bzJ:= @Int.add_mul_emod_self_left
abbrev byE:= @Int.add_zero
abbrev bxJ:= @Int.dvd_mul_of_dvd_right
abbrev byF:= @Int.dvd_trans
abbrev byG:= @Int.ediv_eq_zero_of_lt
abbrev byH:= @Int.ediv_lt_of_lt_mul
abbrev byI:= @Int.ediv_nonneg
abbrev aqR:= @Int.emod_add_mul_ediv
abbrev bz1:= @Int.emod_eq_of_lt
abbrev aqF:= @Int.emod_lt_of_pos
abbrev aqG:= @Int.emod_nonneg
abbrev bzK:= @Int.eq_of_mul_eq_mul_left
abbrev aq5:= @Int.le_refl
abbrev bzL:= @Int.lt_of_mul_lt_mul_left
abbrev azO:= @Int.lt_or_le
abbrev aqL:= @Int.lt_trichotomy
abbrev bx6:= @Int.mul_add
abbrev bzM:= @Int.mul_lt_mul_of_pos_right
abbrev bxK:= @Int.mul_ne_zero
abbrev bx7:= @Int.mul_one
abbrev bz2:= @Int.natAbs_add_le
abbrev azJ:= @Int.natAbs_neg
abbrev azR:= @Int.natCast_ediv
abbrev bx8:= @Int.natCast_emod
abbrev az8:= @Int.natCast_mul
abbrev bx9:= @Int.natCast_pow
abbrev az5:= @Int.one_mul
abbrev aqS:= @Int.pow_add
abbrev aqH:= @Int.pow_pos
abbrev aqT:= @Int.sign_eq_neg_one_of_neg
abbrev aqI:= @Int.sign_eq_one_of_pos
abbrev bzN:= @Int.tdiv_eq_ediv_of_dvd
abbrev bxW:= @Int.toNat_of_nonneg
abbrev bxA:= @Int.zero_add
abbrev bxB:= @Int.zero_mul
abbrev byJ:= @List.all_append
abbrev bz4:= @List.cons_append
abbrev bz5:= @List.dropWhile_cons
abbrev azY:= @List.drop_length
abbrev bxL:= @List.drop_replicate
abbrev bz6:= @List.drop_succ_cons
abbrev azZ:= @List.drop_zero
abbrev byK:= @List.eq_of_mem_replicate
abbrev bzO:= @List.ext_getElem
abbrev aq6:= @List.ext_getElem?
abbrev byL:= @List.flatten_append
abbrev aqU:= @List.flatten_cons
abbrev bxX:= @List.getD_cons_succ
abbrev byM:= @List.getD_cons_zero
abbrev aqM:= @List.getElem?_drop
abbrev byN:= @List.getElem?_range
abbrev aq0:= @List.getElem_mem
abbrev bz7:= @List.getLast?_append
abbrev bxY:= @List.getLast?_cons_cons
abbrev byO:= @List.getLast?_eq_getElem?
abbrev byP:= @List.getLast?_eq_some_getLast
abbrev azS:= @List.length_nil
abbrev bxZ:= @List.length_range
abbrev aq7:= @List.map_append
abbrev by3:= @List.map_congr_left
abbrev aqJ:= @List.map_nil
abbrev bxC:= @List.map_toArray
abbrev bzP:= @List.mem_append_left
abbrev bzQ:= @List.mem_append_right
abbrev bxD:= @List.mem_of_mem_drop
abbrev bz8:= @List.mem_or_eq_of_mem_set
abbrev by4:= @List.mem_singleton
abbrev bz9:= @List.replicate_append_replicate
abbrev aqV:= @List.replicate_succ
abbrev aqW:= @List.replicate_succ'
abbrev aq8:= @List.replicate_zero
abbrev bzR:= @List.set_append_right
abbrev bzS:= @List.set_cons_zero
abbrev bxM:= @List.set_set
abbrev bzA:= @List.size_toArray
abbrev bzT:= @List.takeWhile_append_dropWhile
abbrev bzB:= @List.takeWhile_cons
abbrev bzU:= @List.take_append_of_le_length
abbrev aq9:= @List.take_length
abbrev bq4:= @List.take_succ_eq_append_getElem
abbrev byQ:= @List.take_zero
abbrev bxE:= @Nat.add_assoc
abbrev aq1:= @Nat.add_comm
abbrev aqA:= @Nat.add_mul
abbrev bzC:= @Nat.add_sub_cancel_left
abbrev aqB:= @Nat.div_div_eq_div_mul
abbrev azT:= @Nat.div_eq_of_lt
abbrev azK:= @Nat.div_le_self
abbrev by6:= @Nat.div_lt_self
abbrev bzD:= @Nat.div_mul_le_self
abbrev bzE:= @Nat.dvd_mul_left_of_dvd
abbrev bzF:= @Nat.dvd_trans
abbrev azD:= @Nat.gcd_comm
abbrev aqX:= @Nat.gcd_dvd_left
abbrev azU:= @Nat.gcd_dvd_right
abbrev bxN:= @Nat.gcd_zero_right
abbrev byR:= @Nat.le_add_right
abbrev byS:= @Nat.le_antisymm
abbrev bzW:= @Nat.le_div_iff_mul_le
abbrev byT:= @Nat.le_mul_of_pos_left
abbrev by7:= @Nat.le_mul_of_pos_right
abbrev aqY:= @Nat.le_of_dvd
abbrev bqM:= @Nat.lt_of_mul_lt_mul_left
abbrev bq5:= @Nat.lt_of_mul_lt_mul_right
abbrev bzG:= @Nat.lt_succ_of_lt
abbrev aqC:= @Nat.lt_succ_self
abbrev by8:= @Nat.lt_trans
abbrev bzH:= @Nat.lt_trichotomy
abbrev bxO:= @Nat.mod_add_div
abbrev bxP:= @Nat.mod_le
abbrev byU:= @Nat.mul_add_div
abbrev aqK:= @Nat.mul_le_mul
abbrev byV:= @Nat.mul_lt_mul''
abbrev bxF:= @Nat.mul_lt_mul_of_pos_right
abbrev az9:= @Nat.mul_one
abbrev aqZ:= @Nat.mul_pos
abbrev azP:= @Nat.mul_zero
abbrev bxQ:= @Nat.ne_of_lt
abbrev aqD:= @Nat.one_mul
abbrev bzI:= @Nat.pos_of_ne_zero
abbrev KF:= @Nat.pow_add
abbrev aqN:= @Nat.pow_le_pow_left
abbrev by9:= @Nat.pow_lt_pow_right
abbrev azL:= @Nat.pow_mul
abbrev bxG:= @Nat.pow_one
abbrev bx0:= @Nat.pow_zero
abbrev bxR:= @Nat.sub_le
abbrev azV:= @Nat.sub_self
abbrev byA:= @Nat.sub_zero
abbrev aq2:= @Nat.succ_mul
abbrev azW:= @Nat.zero_mul
abbrev bzX:= @Option.map_some
abbrev aqO:= @Option.toList_some
abbrev azE:= @Rat.div_def
abbrev aq3:= @Rat.intCast_natCast
abbrev bx4:= @Rat.intCast_neg
abbrev bxS:= @Rat.intCast_one
abbrev aq4:= @Rat.intCast_zero
abbrev byC:= @Rat.mkRat_self
abbrev bxT:= @Rat.zero_add
end Sos
namespace Sos
variable{b z:Int}{xs ys zs:List Int}
def aF(b:Int):List Int->Int
 |[]=>0
 |z :: zs=>z+b*aF b zs
def InR(b:Int)(zs:List Int):Prop:=∀z∈zs,0<=z∧z<b
def InR.nil:InR b []:=fun _ h=>by cases h
def InR.cons(c:0<=z)(d:z<b)(h:InR b zs):InR b (z :: zs):=by
 intro x a;rcases List.mem_cons.1 a with rfl|a
 ·exact⟨c,d⟩
 ·exact h x a
def InR.head(h:InR b (z :: zs)):0<=z∧z<b:=h z (iC ..)
def InR.tail(h:InR b (z :: zs)):InR b zs:=fun x a=>h x (j8 _ a)
def InR.append(h:InR b xs)(c:InR b ys):InR b (xs++ys):=by
 intro x a;rcases List.mem_append.1 a with a|a
 ·exact h x a
 ·exact c x a
def InR.left(h:InR b (xs++ys)):InR b xs:=fun x a=>h x (bzP _ a)
def InR.right(h:InR b (xs++ys)):InR b ys:=fun x a=>h x (bzQ _ a)
def InR.take(h:InR b xs)(n:Nat):InR b (xs.take n):=fun x a=>h x (lH a)
def InR.drop(h:InR b xs)(n:Nat):InR b (xs.drop n):=fun x a=>h x (bxD a)
def InR.getD(h:InR b xs)(c:0<b)(i:Nat):0<=xs.getD i 0∧xs.getD i 0<b:=by
 rw[eF];rcases dE i xs.length with a|a
 ·rw[aR a];exact h _ (aq0 a)
 ·rw[fU a];exact⟨by simp,by simpa using c⟩
def InR.replicate(a:0<b)(n:Nat):InR b (List.replicate n 0):=by
 intro x c;have:=byK c;subst this;exact⟨aq5 _,a⟩
def InR.set(h:InR b xs)(c:0<=z)(d:z<b)(i:Nat):InR b (xs.set i z):=by
 intro x a;rcases bz8 a with a|rfl
 ·exact h x a
 ·exact⟨c,d⟩
@[simp] theorem val_nil (b:Int):aF b []=0:=rfl
@[simp] theorem val_cons (b z:Int) (zs:List Int):aF b (z :: zs)=z+b*aF b zs:=rfl
def vY(b z:Int):aF b [z]=z:=by simp[aF]
def kV(b:Int)(xs ys:List Int):aF b (xs++ys)=aF b xs+b^xs.length*aF b ys:=by
 induction xs with
 |nil=>simp
 |cons x xs a=>simp only[bz4,val_cons,a,eG];grind
def mL(b:Int)(n:Nat):aF b (List.replicate n 0)=0:=by
 induction n with
 |zero=>rfl
 |succ n a=>simp[aqV,a]
def y9(c:0<b)(h:InR b zs):0<=aF b zs:=by
 induction zs with
 |nil=>simp
 |cons z zs d=>
  have e:=h.head;have a:=d h.tail;have f:=gB (fP c) a;simp only[val_cons];omega
def iO(d:0<b)(h:InR b zs):aF b zs<b^zs.length:=by
 induction zs with
 |nil=>simp
 |cons z zs e=>
  have f:=h.head;have g:=e h.tail;have a:b*aF b zs<=b*(b^zs.length-1):=gK (by omega) (fP d);have c:b^(z :: zs).length=b*b^zs.length:=by simp[gR,fD]
  rw[c,val_cons];rw[Int.mul_sub] at a;omega
def nW(a:0<b)(n:Nat):0<b^n:=aqH a
def vZ(c:1<=b){m n:Nat}(h:m<=n):b^m<=b^n:=by
 induction n with
 |zero=>have:m=0:=by omega
        subst this;exact aq5 _
 |succ n d=>
  rcases dE m (n+1) with a|a
  ·have e:=d (by omega);have f:0<b^n:=aqH (by omega);have g:b^n*1<=b^n*b:=gK c (by omega);rw[gR];omega
  ·have:m=n+1:=by omega
   subst this;exact aq5 _
def gF(b:Int)(xs:List Int)(n:Nat)(hn:n<=xs.length):aF b xs=aF b (xs.take n)+b^n*aF b (xs.drop n):=by
 conv=>lhs;rw[<-List.take_append_drop n xs]
 rw[kV,bK,y8 hn]
def jV(b:Int)(xs:List Int)(n:Nat)(hn:n<xs.length):aF b (xs.take (n+1))=aF b (xs.take n)+b^n*xs.getD n 0:=by
 rw[bq4 hn,kV,bK,y8 (iE hn),vY];rw[eF,aR hn];rfl
def nD(b:Int)(xs:List Int)(n:Nat)(hn:n<xs.length):aF b (xs.drop n)=xs.getD n 0+b*aF b (xs.drop (n+1)):=by
 rw[j5 hn,val_cons,eF,aR hn];rfl
def nY(b:Int)(xs:List Int)(i:Nat)(v:Int)(hi:i<xs.length):aF b (xs.set i v)=aF b xs+b^i*(v-xs.getD i 0):=by
 induction xs generalizing i with
 |nil=>simp at hi
 |cons x xs a=>
  cases i with
  |zero=>simp;omega
  |succ i=>
   simp only[List.set_cons_succ,val_cons,bxX];rw[a i (by simpa using hi)];grind
def kH(zs:List Int):Prop:=zs.getLast?≠some 0
def trimL:List Int->List Int
 |[]=>[]
 |z :: zs=>match trimL zs with
  |[]=>if z=0 then [] else [z]
  |y :: ys=>z :: y :: ys
def P3(b:Int)(zs:List Int):aF b (trimL zs)=aF b zs:=by
 induction zs with
 |nil=>rfl
 |cons z zs a=>
  rw[trimL];split
  ·rename_i h;rw[h] at a;split
   ·rename_i c;subst c;simp only[val_cons,<-a];simp
   ·simp only[val_cons,<-a]
  ·rename_i y d h;rw[h] at a;rw[val_cons b z (y :: d),val_cons b z zs,a]
def P4(zs:List Int):kH (trimL zs):=by
 unfold kH;induction zs with
 |nil=>simp[trimL]
 |cons z zs a=>
  rw[trimL];split
  ·split
   ·simp
   ·rename_i b;simpa using b
  ·rename_i y c h;rw[h] at a;rw[bxY];exact a
def oF(zs:List Int):(trimL zs).length<=zs.length:=by
 induction zs with
 |nil=>simp[trimL]
 |cons z zs a=>
  rw[trimL];split
  ·split<;>simp
  ·rename_i y b h;rw[h] at a;simp at a⊢;omega
def qI(zs:List Int):trimL zs=zs.take (trimL zs).length∧∀i,(trimL zs).length<=i->zs.getD i 0=0:=by
 induction zs with
 |nil=>simp[trimL]
 |cons z zs a=>
  rw[trimL];split
  ·rename_i h;rw[h] at a;split
   ·rename_i c;subst c;refine⟨by simp,fun i _=> ?_⟩;cases i with
    |zero=>rfl
    |succ i=>rw[bxX];exact a.2 i (dC _)
   ·refine⟨by simp,fun i b=> ?_⟩;cases i with
    |zero=>simp at b
    |succ i=>rw[bxX];exact a.2 i (dC _)
  ·rename_i y d h;rw[h] at a;refine⟨?_,fun i b=> ?_⟩
   ·rw[eG,List.take_succ_cons,<-a.1]
   ·cases i with
    |zero=>simp at b
    |succ i=>rw[bxX];exact a.2 i (by simpa using b)
def InR.trimL(h:InR b zs):InR b (trimL zs):=by
 rw[(qI zs).1];exact h.take _
def FQ{n:Nat}(hn:n<=zs.length)(c:n=0∨zs.getD (n-1) 0≠0)(a:∀i,n<=i->zs.getD i 0=0):trimL zs=zs.take n:=by
 induction zs generalizing n with
 |nil=>simp[Sos.trimL]
 |cons z zs b=>
  cases n with
  |zero=>
   have e:=a 0 aE;have g:z=0:=e;have:=b (n:=0) (dC _) (.inl rfl) (fun i _=>by have:=a (i+1) (dC _);rwa [bxX] at this);subst g;rw[Sos.trimL,this];simp
  |succ n=>
   have f:∀i,n<=i->zs.getD i 0=0:=fun i k=>by have:=a (i+1) (by omega);rwa [bxX] at this
   cases n with
   |zero=>
    have:=b (n:=0) (dC _) (.inl rfl) f;have j:z≠0:=by simpa using c
    rw[Sos.trimL,this];simp[j]
   |succ n=>
    have d:n+1<=zs.length:=by simpa using hn
    have:=b (n:=n+1) d (.inr (by rcases c with h|h;· omega
                                 ·simpa using h)) f
    rw[Sos.trimL,this,List.take_succ_cons];cases zs with
    |nil=>simp at d
    |cons y l=>rw[List.take_succ_cons]
def AJ(n:1<b)(h:InR b zs)(c:kH zs)(g:zs≠[]):b^(zs.length-1)<=aF b zs:=by
 induction zs with
 |nil=>exact absurd rfl g
 |cons z zs i=>
  cases zs with
  |nil=>
   have j:z≠0:=by intro e;subst e;exact c rfl
   have:=h.head;simp;omega
  |cons y a=>
   have d:kH (y :: a):=by
    unfold kH at c⊢;rwa [bxY] at c
   have f:=i h.tail d (by simp);have k:=h.head;rw[val_cons];have l:b*b^((y :: a).length-1)<=b*aF b (y :: a):=gK f (by omega);have m:b^((z :: y :: a).length-1)=b*b^((y :: a).length-1):=by simp[gR,fD]
   omega
def Canon(b:Int)(zs:List Int):Prop:=InR b zs∧kH zs
def PA(h:InR b zs):Canon b (trimL zs):=⟨h.trimL,P4 zs⟩
def Canon.nil:Canon b []:=⟨InR.nil,by simp[kH]⟩
def FR(d:1<b)(c:Canon b xs)(g:InR b ys)(h:aF b xs<=aF b ys):xs.length<=ys.length:=by
 rcases dE ys.length xs.length with a|a
 ·have f:xs≠[]:=by intro e;subst e;simp at a
  have i:=AJ d c.1 c.2 f;have j:=iO (by omega) g;have k:b^ys.length<=b^(xs.length-1):=vZ (by omega) (by omega);omega
 ·exact a
def PB{x y p q:Int}(d:0<=x)(e:x<b)(f:0<=y)(g:y<b)(h:x+b*p=y+b*q):x=y∧p=q:=by
 have i:b≠0:=by omega
 have a:(x+b*p)%b=x:=by rw[bzJ];exact bz1 d e
 have c:(y+b*q)%b=y:=by rw[bzJ];exact bz1 f g
 have j:x=y:=by rw[<-a,<-c,h]
 subst j;exact⟨rfl,bzK i (by omega)⟩
def PC(e:InR b xs)(f:InR b ys)(a:xs.length=ys.length)(h:aF b xs=aF b ys):xs=ys:=by
 induction xs generalizing ys with
 |nil=>cases ys with
  |nil=>rfl
  |cons y ys=>simp at a
 |cons x xs i=>
  cases ys with
  |nil=>simp at a
  |cons y ys=>
   simp only[val_cons] at h;have c:=e.head;have d:=f.head
   obtain⟨rfl,g⟩:=PB c.1 c.2 d.1 d.2 h;rw[i e.tail f.tail (by simpa using a) g]
def PD(d:1<b)(a:Canon b xs)(c:Canon b ys)(h:aF b xs=aF b ys):xs=ys:=
 PC a.1 c.1 (byS (FR d a c.1 (by omega)) (FR d c a.1 (by omega))) h
def jW(b:Nat)(n:Nat):List Int:=
 if _h:n=0∨b<2 then [] else ((n%b:Nat):Int) :: jW b (n/b)
termination_by n
decreasing_by
 have:n/b<n:=by6 (by omega) (by omega)
 exact this
def FT(b:Nat):jW b 0=[]:=by rw[jW];simp
def AK(b n:Nat)(d:2<=b):aF b (jW b n)=n:=by
 induction n using Nat.strongRecOn with
 |ind n c=>
  rw[jW];split
  ·rename_i h;rcases h with h|h
   ·subst h;rfl
   ·omega
  ·rename_i h;have a:n/b<n:=by6 (by omega) (by omega);rw[val_cons,c _ a,<-az8,<-Int.natCast_add,bxO]
def PE(b n:Nat)(d:2<=b):InR b (jW b n):=by
 induction n using Nat.strongRecOn with
 |ind n c=>
  rw[jW];split
  ·exact InR.nil
  ·rename_i h;have a:n/b<n:=by6 (by omega) (by omega);refine InR.cons (by omega) ?_ (c _ a);have:=dI n (show 0<b by omega);omega
def FU(b n:Nat)(c:2<=b):Canon b (jW b n):=by
 refine⟨PE b n c,?_⟩;unfold kH;induction n using Nat.strongRecOn with
 |ind n e=>
  rw[jW];split
  ·simp
  ·rename_i h;have d:n/b<n:=by6 (by omega) (by omega);have:=e _ d;cases hd:jW b (n/b) with
   |nil=>
    have hv:=AK b (n/b) c;rw[hd] at hv;have f:n/b=0:=by
     have:((n/b:Nat):Int)=0:=by rw[<-hv];rfl
     omega
    have a:n<b:=by
     rcases dE n b with a|a
     ·exact a
     ·have:=Nat.div_pos a (by omega);omega
    rw[jJ a];simp;omega
   |cons y g=>rw[bxY,<-hd];exact this
def PF{b:Nat}(a:2<=b)(h:Canon b zs):jW b (aF b zs).toNat=zs:=by
 have c:=y9 (show(0:Int)<(b:Int) by omega) h.1;exact PD (by omega) (FU b _ a) h (by rw[AK b _ a];omega)
end Sos
namespace Go.Proofs.YtmiaanioldpfgaaGreatDoor
open Sos Lib
variable{d l m s t:List UInt8}{n w:Nat}
def Digs(l:List UInt8):Prop:=∀c∈l,48<=c.toNat∧c.toNat<=57
def aO(l:List UInt8):Nat:=l.foldl (fun a c=>10*a+(c.toNat-48)) 0
def Digs.nil:Digs []:=fun _ h=>by cases h
def Digs.append(h:Digs l)(b:Digs m):Digs (l++m):=by
 intro c a;rcases List.mem_append.1 a with a|a
 ·exact h c a
 ·exact b c a
def Digs.left(h:Digs (l++m)):Digs l:=fun c a=>h c (bzP _ a)
def Digs.right(h:Digs (l++m)):Digs m:=fun c a=>h c (bzQ _ a)
def Digs.take(h:Digs l)(n:Nat):Digs (l.take n):=fun c a=>h c (lH a)
def Digs.drop(h:Digs l)(n:Nat):Digs (l.drop n):=fun c a=>h c (bxD a)
def Digs.zeros(n:Nat):Digs (List.replicate n 48):=by
 intro c a;obtain⟨_,rfl⟩:=List.mem_replicate.1 a;exact⟨by decide,by decide⟩
def BG:aO []=0:=rfl
def oK(l:List UInt8)(c:UInt8):aO (l++[c])=10*aO l+(c.toNat-48):=by
 unfold aO;rw[List.foldl_append];rfl
def BH{α:Type}{P:List α->Prop}(b:P [])(c:∀l a,P l->P (l++[a]))(l:List α):P l:=by
 have:∀m:List α,P m.reverse:=by
  intro m;induction m with
  |nil=>exact b
  |cons a m d=>rw[List.reverse_cons];exact c _ _ d
 have h:=this l.reverse;rwa [List.reverse_reverse] at h
def pF(l m:List UInt8):aO (l++m)=aO l*10^m.length+aO m:=by
 refine BH (P:=fun m=>aO (l++m)=aO l*10^m.length+aO m) ?_ ?_ m
 ·simp[BG]
 ·intro m a b;rw[<-eK,oK,oK,b,bN,iJ,dH];grind
def tI(h:Digs l):aO l<10^l.length:=by
 revert h;refine BH (P:=fun l=>Digs l->aO l<10^l.length) ?_ ?_ l
 ·intro _;decide
 ·intro m a b h;have c:=b h.left;have d:=h.right a (by simp);rw[oK,bN,iJ,dH];omega
def GW(n:Nat):aO (List.replicate n 48)=0:=by
 induction n with
 |zero=>rfl
 |succ n a=>rw[aqW,oK,a];rfl
def GX(h:Digs l)(d:Digs m)(c:l.length=m.length)(hv:aO l=aO m):l=m:=by
 revert m h;refine BH (P:=fun l=>∀{m:List UInt8},Digs l->Digs m->l.length=m.length->aO l=aO m->l=m) ?_ ?_ l
 ·intro m _ _ c _;exact(bX c.symm).symm
 ·intro l a i m h d c hv;rcases List.eq_nil_or_concat m with rfl|⟨j,b,rfl⟩
  ·simp at c
  ·rw[List.concat_eq_append] at *;rw[oK,oK] at hv;have k:=h.right a (by simp);have n:=d.right b (by simp);have e:aO l=aO j:=by omega
   have f:a.toNat=b.toNat:=by omega
   have g:=i h.left d.left (by simpa using c) e;rw[g,UInt8.toNat_inj.1 f]
def tJ{d:Nat}(h:d<10):(UInt8.ofNat (48+d)).toNat=48+d:=by
 rw[UInt8.toNat_ofNat'];omega
def mQ(n:Nat):aO (decDigits n)=n:=by
 induction n using Nat.strongRecOn with
 |ind n a=>
  rw[decDigits];split
  ·rename_i h;show 10*0+((UInt8.ofNat (48+n)).toNat-48)=n
   rw[tJ h];omega
  ·rename_i h;rw[oK,a (n/10) (by omega),tJ (dI _ (by decide))];omega
def oL(n:Nat):Digs (decDigits n):=by
 induction n using Nat.strongRecOn with
 |ind n b=>
  rw[decDigits];split
  ·rename_i h;intro c a;rw[by4] at a;subst a;rw[tJ h];omega
  ·rename_i h;refine(b (n/10) (by omega)).append ?_;intro c a;rw[by4] at a;subst a;have:=dI n (show 0<10 by decide);rw[tJ this];omega
def BI(h:n≠0):10^(nDigits n-1)<=n:=by
 induction n using Nat.strongRecOn with
 |ind n b=>
  by_cases a:n<10
  ·rw[nDigits_small a];simp;omega
  ·rw[nDigits_big a];have c:=b (n/10) (by omega) (by omega);have d:=nDigits_pos (n/10);have e:nDigits (n/10)+1-1=(nDigits (n/10)-1)+1:=by omega
   rw[e,dH];omega
def rS{k:Nat}(h:n<10^k)(e:1<=k):nDigits n<=k:=by
 rcases dE k (nDigits n) with a|a
 ·exfalso;rcases iB n with b|b
  ·subst b;rw[nDigits_small (by decide)] at a;omega
  ·have c:=BI (n:=n) (by omega);have d:10^k<=10^(nDigits n-1):=fT (by decide) (by omega);omega
 ·exact a
def dJ(w n:Nat):List UInt8:=List.replicate (w-(if n=0 then 0 else nDigits n)) 48++(if n=0 then [] else decDigits n)
def BJ(w n:Nat):aO (dJ w n)=n:=by
 unfold dJ;rw[pF,GW,azW,bA];split
 ·rename_i h;rw[h];rfl
 ·exact mQ n
def BK(w n:Nat):Digs (dJ w n):=by
 unfold dJ;refine(Digs.zeros _).append ?_;split
 ·exact Digs.nil
 ·exact oL n
def cyI(w n:Nat):(dJ w n).length=max w (if n=0 then 0 else nDigits n):=by
 unfold dJ;rw[bN,dB];split
 ·simp
 ·rw[decDigits_length];omega
def GY(h:Digs l)(hv:aO l=n)(a:l.length=max w (if n=0 then 0 else nDigits n)):l=dJ w n:=
 GX h (BK w n) (by rw[a,cyI]) (by rw[hv,BJ])
def SN(h:n≠0):dJ 0 n=decDigits n:=by
 unfold dJ;rw[if_neg h,if_neg h];simp
def SO(w:Nat):dJ w 0=List.replicate w 48:=by
 unfold dJ;simp
def SQ{hi lo d:Nat}(a:hi≠0)(g:lo<10^d):nDigits (hi*10^d+lo)=nDigits hi+d:=by
 have b:=BI a;have c:=lt_pow_nDigits hi;have f:=nDigits_pos hi;have h:0<10^d:=eQ (by decide);have e:nDigits hi+d=(nDigits hi-1+d)+1:=by omega
 rw[e];refine nDigits_unique _ _ ?_ ?_
 ·rw[KF];have:=dK (10^d) b;omega
 ·rw[show nDigits hi-1+d+1=nDigits hi+d by omega,KF];have:(hi+1)*10^d<=10^nDigits hi*10^d:=dK _ c;rw[aqA] at this;omega
def GZ{hi lo d:Nat}(c:lo<10^d)(h:hi≠0∨d<=w):dJ w (hi*10^d+lo)=dJ (w-d) hi++dJ d lo:=by
 symm;have g:(if lo=0 then 0 else nDigits lo)<=d:=by
  split
  ·omega
  ·rename_i a;rcases iB d with b|b
   ·subst b;simp at c;omega
   ·exact rS c b
 have e:(dJ d lo).length=d:=by rw[cyI];omega
 refine GY ((BK _ _).append (BK _ _)) ?_ ?_
 ·rw[pF,BJ,BJ,e]
 ·rw[bN,e,cyI];by_cases a:hi=0
  ·subst a;simp only[azW,bA,if_pos];have:d<=w:=by rcases h with h|h;exact absurd rfl h;exact h
   omega
  ·have f:¬(hi*10^d+lo=0):=by
    have:0<hi*10^d:=aqZ (by omega) (eQ (by decide));omega
   rw[if_neg a,if_neg f,SQ a c];omega
def pG(h:Digs l)(g:l≠[])(a:l.length=1∨l.head?≠some 48):decDigits (aO l)=l:=by
 refine GX (oL _) h ?_ (mQ _);rw[decDigits_length];have d:=tI h;obtain⟨c,m,rfl⟩:∃c m,l=c :: m:=by
  cases l with
  |nil=>exact absurd rfl g
  |cons c m=>exact⟨c,m,rfl⟩
 have i:=h c (iC ..);by_cases b:m.length=0
 ·have:m=[]:=bX b;subst this;rw[nDigits_small (by simpa using d)];rfl
 ·have f:c≠48:=by
   rcases a with a|a
   ·simp at a;exact absurd a (by intro e;subst e;exact b rfl)
   ·intro e;subst e;exact a rfl
  have j:c.toNat≠48:=by
   intro e;exact f (UInt8.toNat_inj.1 e)
  refine nDigits_unique m.length _ ?_ (by simpa using d);have e:aO (c :: m)=(c.toNat-48)*10^m.length+aO m:=by
   have:=pF [c] m;rw[List.singleton_append] at this;rw[this];show(10*0+(c.toNat-48))*_+_=_
   rw[azP,bA]
  rw[e];have:1*10^m.length<=(c.toNat-48)*10^m.length:=dK _ (by omega);omega
def tK(n:Nat):decDigits n≠[]:=by
 intro h;have:=decDigits_length n;rw[h] at this;have:=nDigits_pos n;simp at *;omega
def fxZ{m:Nat}(h:decDigits m=decDigits n):m=n:=by rw[<-mQ m,h,mQ]
def H4(h:n≠0):(decDigits n).head?≠some 48:=by
 intro e;obtain⟨m,g⟩:∃m,decDigits n=48 :: m:=by
  cases a:decDigits n with
  |nil=>rw[a] at e;cases e
  |cons c m=>rw[a] at e;injection e with e;subst e;exact⟨m,rfl⟩
 have hv:=mQ n;have b:=decDigits_length n;have a:=oL n;rw[g] at hv b a;have i:aO (48 :: m)=aO m:=by
  have:=pF [48] m;rw[List.singleton_append] at this;rw[this];simp[aO]
 have j:=tI (l:=m) (fun c f=>a c (j8 _ f));have d:=BI h;simp at b;rw[<-b,mD] at d;omega
def bO(c:UInt8):Bool:=decide (48<=c.toNat∧c.toNat<=57)
def cW(q:Rat):List UInt8:=(if q.num<0 then [45] else [])++decDigits q.num.natAbs++(if q.den=1 then [] else 47 :: decDigits q.den)
def iA(s:List UInt8):Option (Bool×List UInt8×List UInt8):=
 let a:=s.head?==some 45
 let r:=if a then s.tail else s
 let n:=r.takeWhile bO
 let t:=r.dropWhile bO
 if n=[48] then (if a=false∧t=[] then some (a,n,[]) else none)
 else if n=[]∨n.head?=some 48 then none
 else if t=[] then some (a,n,[])
 else if t.head?≠some 47 then none
 else
  let d:=t.tail.takeWhile bO
  let u:=t.tail.dropWhile bO
  if u=[]∧d≠[]∧d.head?≠some 48∧d≠[49] then some (a,n,d) else none
def fO(a:Bool)(n:Nat):Int:=if a then -(n:Int) else n
def cG(s:List UInt8):Option Rat:=
 match iA s with
 |none=>none
 |some (neg,n,d)=>if d=[] then some ((fO neg (aO n):Int):Rat) else if Nat.gcd (aO n) (aO d)=1 then some (mkRat (fO neg (aO n)) (aO d)) else none
structure Parts(neg:Bool)(n d:List UInt8):Prop where
 n_digs:Digs n
 d_digs:Digs d
 n_ne:n≠[]
 zero:n=[48]->neg=false∧d=[]
 n_head:n≠[48]->n.head?≠some 48
 d_head:d.head?≠some 48
 d_one:d≠[49]
def jM(a:Bool)(n d:List UInt8):List UInt8:=(if a then [45] else [])++n++(if d=[] then [] else 47 :: d)
def H9(l:List UInt8):Digs (l.takeWhile bO):=by
 intro c a;have:=List.all_takeWhile (p:=bO) (l:=l);have:=List.all_eq_true.1 this c a;simpa [bO] using this
def I0(h:Digs l)(b:t.head?.all (fun c=> !bO c)):(l++t).takeWhile bO=l∧(l++t).dropWhile bO=t:=by
 induction l with
 |nil=>
  cases t with
  |nil=>exact⟨rfl,rfl⟩
  |cons c m=>simp at b;simp[bzB,bz5,b]
 |cons a l i=>
  have f:bO a=true:=by have:=h a (iC ..);simpa [bO] using this
  obtain⟨d,e⟩:=i (fun c g=>h c (j8 _ g));simp[bzB,bz5,f,d,e]
def I1{l:Bool}{n:List UInt8}(h:iA s=some (l,n,d)):Parts l n d∧s=jM l n d:=by
 unfold iA at h;simp only at h;have k:s=(if (s.head?==some 45)=true then [45] else [])++(if (s.head?==some 45)=true then s.tail else s):=by
  cases s with
  |nil=>rfl
  |cons c m=>
   by_cases e:c=45
   ·subst e;simp
   ·simp[e]
 generalize (s.head?==some 45)=x at *;generalize (if x=true then s.tail else s)=r at *;have j:r=r.takeWhile bO++r.dropWhile bO:=(bzT).symm;have i:=H9 r;generalize r.takeWhile bO=N at *;generalize r.dropWhile bO=T at *;by_cases b:N=[48]
 ·rw[if_pos b] at h;split at h
  ·rename_i a;injection h with h;injection h with h1 h;injection h with h2 h3;subst h1 h2 h3;refine⟨⟨i,fun c g=>(by cases g),by rw[b];simp,fun _=>⟨a.1,rfl⟩,fun h=>absurd b h,by simp,by simp⟩,?_⟩;rw[k,j,a.2,jM,if_pos rfl,fH,fH]
  ·cases h
 ·rw[if_neg b] at h;split at h
  ·cases h
  ·rename_i q;have t:N≠[]:=fun e=>q (.inl e);have u:N.head?≠some 48:=fun e=>q (.inr e);split at h
   ·rename_i p;injection h with h;injection h with h1 h;injection h with h2 h3;subst h1 h2 h3;refine⟨⟨i,fun c g=>(by cases g),t,fun h=>absurd h b,fun _=>u,by simp,by simp⟩,?_⟩;rw[k,j,p,jM,if_pos rfl,fH,fH]
   ·rename_i p;split at h
    ·cases h
    ·rename_i f;have f:T.head?=some 47:=Decidable.not_not.1 f;obtain⟨m,o⟩:∃m,T=47 :: m:=by
      cases T with
      |nil=>simp at f
      |cons c m=>simp at f;exact⟨m,by rw[f]⟩
     rw[o,List.tail_cons] at h;have w:m=m.takeWhile bO++m.dropWhile bO:=(bzT).symm;have v:=H9 m;generalize m.takeWhile bO=D at *;generalize m.dropWhile bO=U at *;split at h
     ·rename_i a;injection h with h;injection h with h1 h;injection h with h2 h3;subst h1 h2 h3;refine⟨⟨i,v,t,fun h=>absurd h b,fun _=>u,a.2.2.1,a.2.2.2⟩,?_⟩;rw[k,j,o,w,a.1,jM,if_neg a.2.1,fH,eK]
     ·cases h
def SS{b:Bool}{n:List UInt8}(h:Parts b n d):iA (jM b n d)=some (b,n,d):=by
 obtain⟨a,j,hn⟩:∃a j,n=a :: j:=by
  cases n with
  |nil=>exact absurd rfl h.n_ne
  |cons a m=>exact⟨a,m,rfl⟩
 have s:a≠45:=by
  intro e;have:=h.n_digs a (by rw[hn];exact iC ..);rw[e] at this;exact absurd this (by decide)
 have o:((jM b n d).head?==some 45)=b:=by
  cases b
  ·simp[jM,hn,s]
  ·simp[jM]
 have p:(if b=true then (jM b n d).tail else jM b n d)=n++(if d=[] then [] else 47 :: d):=by
  cases b<;>simp[jM]
 obtain⟨q,r⟩:=I0 (l:=n) (t:=if d=[] then [] else 47 :: d) h.n_digs (by
  by_cases e:d=[]
  ·simp[e]
  ·simp[e,bO])
 unfold iA;simp only[o,p,q,r];by_cases c:n=[48]
 ·obtain⟨k,f⟩:=h.zero c;rw[if_pos c,if_pos ⟨k,by rw[if_pos f]⟩,f]
 ·rw[if_neg c,if_neg (by rintro (e|e);exact h.n_ne e;exact h.n_head c e)];by_cases e:d=[]
  ·rw[if_pos e,if_pos rfl,e]
  ·obtain⟨g,i⟩:=I0 (l:=d) (t:=[]) h.d_digs (by simp);rw[fH] at g i;rw[if_neg e,if_neg (by simp),if_neg (by simp),List.tail_cons,g,i,if_pos ⟨rfl,e,h.d_head,h.d_one⟩]
def eqQ(h:Digs l)(g:l≠[])(a:l.head?≠some 48):aO l≠0:=by
 intro e;have:=pG h g (.inr a);rw[e] at this;have b:=pG (l:=[48]) (fun c d=>by simp at d;subst d;decide) (by simp) (.inl rfl);have f:aO [48]=0:=by decide
 rw[f] at b;rw[b] at this;rw[<-this] at a;exact a rfl
def BM:decDigits 0=[48]:=by
 have a:=pG (l:=[48]) (fun c b=>by simp at b;subst b;decide) (by simp) (.inl rfl);have d:aO [48]=0:=by decide
 rw[d] at a;exact a
def decDigits_one:decDigits 1=[49]:=by
 have a:=pG (l:=[49]) (fun c b=>by simp at b;subst b;decide) (by simp) (.inl rfl);have d:aO [49]=1:=by decide
 rw[d] at a;exact a
def rU(a:Bool)(n:Nat):(fO a n).natAbs=n:=by cases a<;>simp[fO]
def ST(a:Bool)(h:n≠0):(fO a n<0)↔a=true:=by cases a<;>simp[fO]<;>omega
def tL{q:Rat}(h:cG s=some q):cW q=s:=by
 unfold cG at h;split at h
 ·cases h
 ·rename_i b n d p;obtain⟨a,k⟩:=I1 p
  have hn:decDigits (aO n)=n:=pG a.n_digs a.n_ne (by
   by_cases e:n=[48]
   ·left;rw[e];rfl
   ·exact .inr (a.n_head e))
  have f:(fO b (aO n)<0)↔b=true:=by
   by_cases e:n=[48]
   ·rw[(a.zero e).1,e];simp[fO]
   ·exact ST b (eqQ a.n_digs a.n_ne (a.n_head e))
  by_cases c:d=[]
  ·rw[if_pos c] at h;injection h with h;subst h;rw[k,cW,jM,if_pos c];show(if fO b (aO n)<0 then _ else _)++decDigits (fO b (aO n)).natAbs++_=_
   rw[rU,hn,if_pos (show((fO b (aO n):Int):Rat).den=1 from rfl)];congr 2;by_cases e:b=true
   ·rw[if_pos (f.2 e),if_pos e]
   ·rw[if_neg (fun h=>e (f.1 h)),if_neg e]
  ·rw[if_neg c] at h;split at h
   ·rename_i j;injection h with h;have g:decDigits (aO d)=d:=pG a.d_digs c (.inr a.d_head);have i:aO d≠0:=eqQ a.d_digs c a.d_head;have l:aO d≠1:=by intro e;rw[e,decDigits_one] at g;exact a.d_one g.symm
    have m:q.num=fO b (aO n):=by rw[<-h,Rat.num_mkRat,if_neg i,rU,azD,j];simp
    have o:q.den=aO d:=by rw[<-h,Rat.den_mkRat,if_neg i,rU,azD,j];simp
    rw[k,cW,jM,if_neg c,m,o,if_neg l,rU,hn,g];congr 2;by_cases e:b=true
    ·rw[if_pos (f.2 e),if_pos e]
    ·rw[if_neg (fun h=>e (f.1 h)),if_neg e]
   ·cases h
def SU(q:Rat):cG (cW q)=some q:=by
 have g:Parts (decide (q.num<0)) (decDigits q.num.natAbs) (if q.den=1 then [] else decDigits q.den):=by
  have b:∀{m},decDigits m=[48]->m=0:=fun {m} h=>fxZ (h.trans BM.symm);refine⟨oL _,?_,tK _,?_,?_,?_,?_⟩
  ·by_cases e:q.den=1
   ·rw[if_pos e];intro c d;cases d
   ·rw[if_neg e];exact oL _
  ·intro h;have j:=b h;have a:q=0:=Rat.num_eq_zero.1 (by omega);subst a;exact⟨by decide,by simp⟩
  ·intro h;exact H4 (fun e=>h (by rw[e];exact BM))
  ·by_cases e:q.den=1
   ·rw[if_pos e];simp
   ·rw[if_neg e];exact H4 q.den_nz
  ·by_cases e:q.den=1
   ·rw[if_pos e];simp
   ·rw[if_neg e];exact fun h=>e (fxZ (h.trans decDigits_one.symm))
 have f:cW q=jM (decide (q.num<0)) (decDigits q.num.natAbs) (if q.den=1 then [] else decDigits q.den):=by
  unfold cW jM;by_cases e:q.den=1
  ·simp[e]
  ·simp[e,tK]
 have i:fO (decide (q.num<0)) q.num.natAbs=q.num:=by
  unfold fO;by_cases h:q.num<0<;>simp[h]<;>omega
 unfold cG;rw[f,SS g];simp only[mQ,i];by_cases e:q.den=1
 ·rw[if_pos (by rw[if_pos e])];congr 1;exact Rat.ext rfl e.symm
 ·rw[if_neg (by rw[if_neg e];exact tK _),if_neg e,mQ,if_pos q.reduced,byC]
