/- Laws. -/
import Derived.Test.YtjgbleapffgbcaaGreatDoorProg
import Derived.Lib.Hide
import Derived.Tactics
import Derived.Below
import Derived.Lib.ItoaNum
import Derived.WalkKit
import Derived.WalkSpells
import Derived.WalkLawsBesides
import Derived.Deep.QuietTactic
import Derived.BigQuiet
import Derived.Laws.CopyOwn
import Derived.Maps.AppendAt
import Derived.Laws.OwnMore
import Derived.Shelf.Spec.BitsCarry
import Derived.Lib.TrailingZeros
import Derived.Shelf.Spec.TrailingZeros
import Derived.Ground.Names7Prog
import Derived.Shelf.Small.Bits
import Derived.Shelf.Small.Wraps
import Derived.Shelf.Strconv.Itoa0
import Derived.Shelf.Strconv.Itoa1
import Derived.Shelf.LaysM
import Derived.Shelf.Strconv.Itoa2
import Derived.Shelf.Strconv.Itoa3
import Derived.Shelf.Strconv.Itoa4
import Derived.Shelf.Strconv.AppendUint10
import Derived.Shelf.Strconv.AppendInt10
import Derived.Shelf.Strconv.AppendIntPublic10
import Derived.Shelf.Strings.Prefix
import Derived.Shelf.Bits.Mul64
import Derived.Deep.RegionWith
import Derived.Deep.RegionHeld3
import Derived.Deep.DeepCutAuto
set_option linter.all false
set_option maxHeartbeats 8000000
set_option maxRecDepth 99999
namespace Sos
variable{i k m n:Nat}{a b c:Int}
def aE:n<=n:=Nat.le_refl n
def mC(n:Nat):n<=n:=Nat.le_refl n
def aR{α:Type _}{l:List α}(h:i<l.length):l[i]? =some l[i]:=List.getElem?_eq_getElem h
def aH(h:n<=m)(a:m<=k):n<=k:=Nat.le_trans h a
def bX{α:Type _}{l:List α}(h:l.length=0):l=[]:=List.eq_nil_of_length_eq_zero h
def aZ(h:n<m)(a:m<=k):n<k:=Nat.lt_of_lt_of_le h a
def dA{α:Type _}{a bs:List α}:(a++bs).length=a.length+bs.length:=List.length_append
def bK{α:Type _}{l:List α}:(l.take i).length=min i l.length:=List.length_take
def cZ{α:Type _}{l:List α}(h:l.length<=i):l.take i=l:=List.take_of_length_le h
def eH(h:a<=b)(d:0<=c):a*c<=b*c:=Int.mul_le_mul_of_nonneg_right h d
def gK(h:a<=b)(d:0<=c):c*a<=c*b:=Int.mul_le_mul_of_nonneg_left h d
def eE{α:Type _}{l:List α}{a:α}:l.getD i a=l[i]?.getD a:=List.getD_eq_getElem?_getD
def dK(k:Nat)(h:n<=m):n*k<=m*k:=Nat.mul_le_mul_right k h
def eV(k:Nat)(h:n<=m):k*n<=k*m:=Nat.mul_le_mul_left k h
def cO(h:n>0){j:Nat}(a:i<=j):n^i<=n^j:=Nat.pow_le_pow_right h a
def dG{α:Type _}{l:List α}{a:α}(h:l[i]? =some a):a∈l:=List.mem_of_getElem? h
def dB{α:Type _}{a:α}:(List.replicate n a).length=n:=List.length_replicate
def bA(n:Nat):0+n=n:=Nat.zero_add n
def dD(n:Nat):(n:Int).natAbs=n:=Int.natAbs_natCast n
def cH{α:Type _}{β:Type _}{a:List α}(f:α->β):(a.map f).length=a.length:=List.length_map f
def fK{α:Type _}{l m:List α}(h:l.length<=i):(l++m)[i]? =m[i-l.length]? :=List.getElem?_append_right h
def gA{α:Type _}{l m:List α}(h:i<l.length):(l++m)[i]? =l[i]? :=List.getElem?_append_left h
def fU{α:Type _}{l:List α}(h:l.length<=i):l[i]? =none:=List.getElem?_eq_none h
def dN(n m:Nat):n*m=m*n:=Nat.mul_comm n m
def dH(n m:Nat):n^m.succ=n^m*n:=Nat.pow_succ n m
end Sos
namespace Sos
open Go Go.RowKit
def aB{p:Prop}(h:p):Hid p:=Lib.hid h
def aG(B:Nat)(w:World):Below B w w:=Below.refl B w
def aM{P:Program}{b:Func}{R:Ending->World->Prop}{a:Act}{w:World}{v:Value}(h:Sem.run P (results b a.tmps) w=Result.ok v w)(c:a.defers=[])(k:R (Ending.returned v) w):bodyPost P b R Exit.ret a w:=bodyPost_ret h c k
end Sos
namespace Sos
abbrev eG:= @List.length_cons
abbrev fC:= @List.getElem?_take
abbrev eP:= @List.length_drop
abbrev gO:= @List.drop_of_length_le
abbrev eJ:= @Rat.intCast_mul
abbrev cA:= @Rat.mul_nonneg
abbrev gP:= @List.getElem?_set_self
abbrev dE:= @Nat.lt_or_ge
abbrev fH:= @List.append_nil
abbrev d7:= @Nat.pow_pos
abbrev eM:= @List.length_set
abbrev j5:= @List.drop_eq_getElem_cons
abbrev y8:= @Nat.min_eq_left
abbrev iJ:= @List.length_singleton
abbrev dC:= @Nat.zero_le
abbrev iB:= @Nat.eq_zero_or_pos
abbrev iC:= @List.mem_cons_self
abbrev j6:= @List.getElem?_replicate
abbrev j7:= @Int.eq_ofNat_of_zero_le
abbrev iK:= @List.getElem?_map
abbrev gW:= @Rat.div_mul_cancel
abbrev dI:= @Nat.mod_lt
abbrev fL:= @Int.natAbs_mul
abbrev j8:= @List.mem_cons_of_mem
abbrev iL:= @Nat.mul_add
abbrev fM:= @List.map_cons
abbrev eK:= @List.append_assoc
abbrev gQ:= @Nat.add_zero
abbrev fD:= @Int.mul_comm
abbrev iD:= @Nat.div_add_mod
abbrev gB:= @Int.mul_nonneg
abbrev lH:= @List.mem_of_mem_take
abbrev fP:= @Int.le_of_lt
abbrev iM:= @List.nil_append
abbrev jI:= @Nat.lt_of_le_of_lt
abbrev j9:= @Int.toNat_natCast
abbrev iW:= @Nat.mul_assoc
abbrev mD:= @Nat.add_sub_cancel
abbrev mU:= @Nat.div_lt_of_lt_mul
abbrev dU:= @Rat.mul_zero
abbrev iE:= @Nat.le_of_lt
abbrev Q9:= @List.take_add_one
abbrev jJ:= @Nat.mod_eq_of_lt
abbrev lI:= @List.getElem?_set_ne
abbrev gR:= @Int.pow_succ
abbrev jA:= @decide_eq_false_iff_not
abbrev iQ:= @decide_eq_true_iff
abbrev byY:= @Array.getElem?_modify
abbrev byZ:= @Array.size_replicate
abbrev bx5:= @Array.toList_append
abbrev az7:= @Bool.and_eq_true
abbrev bxH:= @Bool.eq_iff_iff
abbrev bz0:= @Classical.byContradiction
abbrev bxI:= @Int.add_comm
abbrev azG:= @Int.add_mul
abbrev bzJ:= @Int.add_mul_emod_self_left
abbrev byE:= @Int.add_zero
abbrev bxJ:= @Int.dvd_mul_of_dvd_right
abbrev byF:= @Int.dvd_trans
abbrev byG:= @Int.ediv_eq_zero_of_lt
abbrev byH:= @Int.ediv_lt_of_lt_mul
abbrev byI:= @Int.ediv_nonneg
abbrev aqR:= @Int.emod_add_mul_ediv
abbrev bz1:= @Int.emod_eq_of_lt
abbrev aqF:= @Int.emod_lt_of_pos
abbrev aqG:= @Int.emod_nonneg
abbrev bzK:= @Int.eq_of_mul_eq_mul_left
abbrev aq5:= @Int.le_refl
abbrev bzL:= @Int.lt_of_mul_lt_mul_left
abbrev azO:= @Int.lt_or_le
abbrev aqL:= @Int.lt_trichotomy
abbrev bx6:= @Int.mul_add
abbrev bzM:= @Int.mul_lt_mul_of_pos_right
abbrev bxK:= @Int.mul_ne_zero
abbrev bx7:= @Int.mul_one
abbrev bz2:= @Int.natAbs_add_le
abbrev azJ:= @Int.natAbs_neg
abbrev azR:= @Int.natCast_ediv
abbrev bx8:= @Int.natCast_emod
abbrev az8:= @Int.natCast_mul
abbrev bx9:= @Int.natCast_pow
abbrev az5:= @Int.one_mul
abbrev aqS:= @Int.pow_add
abbrev aqH:= @Int.pow_pos
abbrev aqT:= @Int.sign_eq_neg_one_of_neg
abbrev aqI:= @Int.sign_eq_one_of_pos
abbrev bzN:= @Int.tdiv_eq_ediv_of_dvd
abbrev bz3:= @Int.tmod_eq_emod_of_nonneg
abbrev bxW:= @Int.toNat_of_nonneg
abbrev bxA:= @Int.zero_add
abbrev bxB:= @Int.zero_mul
abbrev byJ:= @List.all_append
abbrev bz4:= @List.cons_append
abbrev bz5:= @List.dropWhile_cons
abbrev azY:= @List.drop_length
abbrev bxL:= @List.drop_replicate
abbrev bz6:= @List.drop_succ_cons
abbrev azZ:= @List.drop_zero
abbrev byK:= @List.eq_of_mem_replicate
abbrev bzO:= @List.ext_getElem
abbrev aq6:= @List.ext_getElem?
abbrev byL:= @List.flatten_append
abbrev aqU:= @List.flatten_cons
abbrev bxX:= @List.getD_cons_succ
abbrev byM:= @List.getD_cons_zero
abbrev aqM:= @List.getElem?_drop
abbrev byN:= @List.getElem?_range
abbrev aq0:= @List.getElem_mem
abbrev bz7:= @List.getLast?_append
abbrev bxY:= @List.getLast?_cons_cons
abbrev byO:= @List.getLast?_eq_getElem?
abbrev byP:= @List.getLast?_eq_some_getLast
abbrev azS:= @List.length_nil
abbrev bxZ:= @List.length_range
abbrev aq7:= @List.map_append
abbrev by3:= @List.map_congr_left
abbrev aqJ:= @List.map_nil
abbrev bxC:= @List.map_toArray
abbrev bzP:= @List.mem_append_left
abbrev bzQ:= @List.mem_append_right
abbrev bxD:= @List.mem_of_mem_drop
abbrev bz8:= @List.mem_or_eq_of_mem_set
abbrev by4:= @List.mem_singleton
abbrev bz9:= @List.replicate_append_replicate
abbrev aqV:= @List.replicate_succ
abbrev aqW:= @List.replicate_succ'
abbrev aq8:= @List.replicate_zero
abbrev bzR:= @List.set_append_right
abbrev bzS:= @List.set_cons_zero
abbrev bxM:= @List.set_set
abbrev bzA:= @List.size_toArray
abbrev bzT:= @List.takeWhile_append_dropWhile
abbrev bzB:= @List.takeWhile_cons
abbrev bzU:= @List.take_append_of_le_length
abbrev aq9:= @List.take_length
abbrev bq4:= @List.take_succ_eq_append_getElem
abbrev bxE:= @Nat.add_assoc
abbrev aq1:= @Nat.add_comm
abbrev by5:= @Nat.add_le_add
abbrev aqA:= @Nat.add_mul
abbrev bzC:= @Nat.add_sub_cancel_left
abbrev aqB:= @Nat.div_div_eq_div_mul
abbrev azT:= @Nat.div_eq_of_lt
abbrev azK:= @Nat.div_le_self
abbrev by6:= @Nat.div_lt_self
abbrev bzD:= @Nat.div_mul_le_self
abbrev bzE:= @Nat.dvd_mul_left_of_dvd
abbrev bzF:= @Nat.dvd_trans
abbrev azD:= @Nat.gcd_comm
abbrev aqX:= @Nat.gcd_dvd_left
abbrev azU:= @Nat.gcd_dvd_right
abbrev bzV:= @Nat.gcd_pos_of_pos_left
abbrev bxN:= @Nat.gcd_zero_right
abbrev byR:= @Nat.le_add_right
abbrev byS:= @Nat.le_antisymm
abbrev bzW:= @Nat.le_div_iff_mul_le
abbrev byT:= @Nat.le_mul_of_pos_left
abbrev by7:= @Nat.le_mul_of_pos_right
abbrev aqY:= @Nat.le_of_dvd
abbrev bqM:= @Nat.lt_of_mul_lt_mul_left
abbrev bq5:= @Nat.lt_of_mul_lt_mul_right
abbrev bzG:= @Nat.lt_succ_of_lt
abbrev aqC:= @Nat.lt_succ_self
abbrev by8:= @Nat.lt_trans
abbrev bzH:= @Nat.lt_trichotomy
abbrev bxO:= @Nat.mod_add_div
abbrev bxP:= @Nat.mod_le
abbrev byU:= @Nat.mul_add_div
abbrev aqK:= @Nat.mul_le_mul
abbrev byV:= @Nat.mul_lt_mul''
abbrev bxF:= @Nat.mul_lt_mul_of_pos_right
abbrev az9:= @Nat.mul_one
abbrev aqZ:= @Nat.mul_pos
abbrev azP:= @Nat.mul_zero
abbrev bxQ:= @Nat.ne_of_lt
abbrev aqD:= @Nat.one_mul
abbrev bzI:= @Nat.pos_of_ne_zero
abbrev KF:= @Nat.pow_add
abbrev aqN:= @Nat.pow_le_pow_left
abbrev by9:= @Nat.pow_lt_pow_right
abbrev azL:= @Nat.pow_mul
abbrev bxG:= @Nat.pow_one
abbrev bx0:= @Nat.pow_zero
abbrev bxR:= @Nat.sub_le
abbrev azV:= @Nat.sub_self
abbrev byA:= @Nat.sub_zero
abbrev aq2:= @Nat.succ_mul
abbrev azW:= @Nat.zero_mul
abbrev bzX:= @Option.map_some
abbrev aqO:= @Option.toList_some
abbrev bx3:= @Rat.add_zero
abbrev azE:= @Rat.div_def
abbrev aqE:= @Rat.intCast_add
abbrev aq3:= @Rat.intCast_natCast
abbrev bx4:= @Rat.intCast_neg
abbrev bxS:= @Rat.intCast_one
abbrev aq4:= @Rat.intCast_zero
abbrev az6:= @Rat.le_of_lt
abbrev byB:= @Rat.le_refl
abbrev byC:= @Rat.mkRat_self
abbrev azC:= @Rat.mul_assoc
abbrev byD:= @Rat.mul_comm
abbrev aqP:= @Rat.mul_one
abbrev azA:= @Rat.mul_pos
abbrev azF:= @Rat.one_mul
abbrev azH:= @Rat.pow_succ
abbrev azM:= @Rat.pow_zero
abbrev bxT:= @Rat.zero_add
abbrev aqQ:= @Rat.zero_mul
end Sos
namespace Sos
variable{b z:Int}{xs ys zs:List Int}
def aF(b:Int):List Int->Int
 |[]=>0
 |z :: zs=>z+b*aF b zs
def InR(b:Int)(zs:List Int):Prop:=∀z∈zs,0<=z∧z<b
def InR.nil:InR b []:=fun _ h=>by cases h
def InR.cons(c:0<=z)(d:z<b)(h:InR b zs):InR b (z :: zs):=by
 intro x a;rcases List.mem_cons.1 a with rfl|a
 ·exact⟨c,d⟩
 ·exact h x a
def InR.head(h:InR b (z :: zs)):0<=z∧z<b:=h z (iC ..)
def InR.tail(h:InR b (z :: zs)):InR b zs:=fun x a=>h x (j8 _ a)
def InR.append(h:InR b xs)(c:InR b ys):InR b (xs++ys):=by
 intro x a;rcases List.mem_append.1 a with a|a
 ·exact h x a
 ·exact c x a
def InR.left(h:InR b (xs++ys)):InR b xs:=fun x a=>h x (bzP _ a)
def InR.right(h:InR b (xs++ys)):InR b ys:=fun x a=>h x (bzQ _ a)
def InR.take(h:InR b xs)(n:Nat):InR b (xs.take n):=fun x a=>h x (lH a)
def InR.drop(h:InR b xs)(n:Nat):InR b (xs.drop n):=fun x a=>h x (bxD a)
def InR.getD(h:InR b xs)(c:0<b)(i:Nat):0<=xs.getD i 0∧xs.getD i 0<b:=by
 rw[eE];rcases dE i xs.length with a|a
 ·rw[aR a];exact h _ (aq0 a)
 ·rw[fU a];exact⟨by simp,by simpa using c⟩
def InR.replicate(a:0<b)(n:Nat):InR b (List.replicate n 0):=by
 intro x c;have:=byK c;subst this;exact⟨aq5 _,a⟩
def InR.set(h:InR b xs)(c:0<=z)(d:z<b)(i:Nat):InR b (xs.set i z):=by
 intro x a;rcases bz8 a with a|rfl
 ·exact h x a
 ·exact⟨c,d⟩
@[simp] theorem val_nil (b:Int):aF b []=0:=rfl
@[simp] theorem val_cons (b z:Int) (zs:List Int):aF b (z :: zs)=z+b*aF b zs:=rfl
def vY(b z:Int):aF b [z]=z:=by simp[aF]
def kV(b:Int)(xs ys:List Int):aF b (xs++ys)=aF b xs+b^xs.length*aF b ys:=by
 induction xs with
 |nil=>simp
 |cons x xs a=>simp only[bz4,val_cons,a,eG];grind
def mL(b:Int)(n:Nat):aF b (List.replicate n 0)=0:=by
 induction n with
 |zero=>rfl
 |succ n a=>simp[aqV,a]
def y9(c:0<b)(h:InR b zs):0<=aF b zs:=by
 induction zs with
 |nil=>simp
 |cons z zs d=>
  have e:=h.head;have a:=d h.tail;have f:=gB (fP c) a;simp only[val_cons];omega
def iO(d:0<b)(h:InR b zs):aF b zs<b^zs.length:=by
 induction zs with
 |nil=>simp
 |cons z zs e=>
  have f:=h.head;have g:=e h.tail;have a:b*aF b zs<=b*(b^zs.length-1):=gK (by omega) (fP d);have c:b^(z :: zs).length=b*b^zs.length:=by simp[gR,fD]
  rw[c,val_cons];rw[Int.mul_sub] at a;omega
def nW(a:0<b)(n:Nat):0<b^n:=aqH a
def vZ(c:1<=b){m n:Nat}(h:m<=n):b^m<=b^n:=by
 induction n with
 |zero=>have:m=0:=by omega
        subst this;exact aq5 _
 |succ n d=>
  rcases dE m (n+1) with a|a
  ·have e:=d (by omega);have f:0<b^n:=aqH (by omega);have g:b^n*1<=b^n*b:=gK c (by omega);rw[gR];omega
  ·have:m=n+1:=by omega
   subst this;exact aq5 _
def gF(b:Int)(xs:List Int)(n:Nat)(hn:n<=xs.length):aF b xs=aF b (xs.take n)+b^n*aF b (xs.drop n):=by
 conv=>lhs;rw[<-List.take_append_drop n xs]
 rw[kV,bK,y8 hn]
def jV(b:Int)(xs:List Int)(n:Nat)(hn:n<xs.length):aF b (xs.take (n+1))=aF b (xs.take n)+b^n*xs.getD n 0:=by
 rw[bq4 hn,kV,bK,y8 (iE hn),vY];rw[eE,aR hn];rfl
def nD(b:Int)(xs:List Int)(n:Nat)(hn:n<xs.length):aF b (xs.drop n)=xs.getD n 0+b*aF b (xs.drop (n+1)):=by
 rw[j5 hn,val_cons,eE,aR hn];rfl
def nY(b:Int)(xs:List Int)(i:Nat)(v:Int)(hi:i<xs.length):aF b (xs.set i v)=aF b xs+b^i*(v-xs.getD i 0):=by
 induction xs generalizing i with
 |nil=>simp at hi
 |cons x xs a=>
  cases i with
  |zero=>simp;omega
  |succ i=>
   simp only[List.set_cons_succ,val_cons,bxX];rw[a i (by simpa using hi)];grind
def kH(zs:List Int):Prop:=zs.getLast?≠some 0
def trimL:List Int->List Int
 |[]=>[]
 |z :: zs=>match trimL zs with
  |[]=>if z=0 then [] else [z]
  |y :: ys=>z :: y :: ys
def P3(b:Int)(zs:List Int):aF b (trimL zs)=aF b zs:=by
 induction zs with
 |nil=>rfl
 |cons z zs a=>
  rw[trimL];split
  ·rename_i h;rw[h] at a;split
   ·rename_i c;subst c;simp only[val_cons,<-a];simp
   ·simp only[val_cons,<-a]
  ·rename_i y d h;rw[h] at a;rw[val_cons b z (y :: d),val_cons b z zs,a]
def P4(zs:List Int):kH (trimL zs):=by
 unfold kH;induction zs with
 |nil=>simp[trimL]
 |cons z zs a=>
  rw[trimL];split
  ·split
   ·simp
   ·rename_i b;simpa using b
  ·rename_i y c h;rw[h] at a;rw[bxY];exact a
def oF(zs:List Int):(trimL zs).length<=zs.length:=by
 induction zs with
 |nil=>simp[trimL]
 |cons z zs a=>
  rw[trimL];split
  ·split<;>simp
  ·rename_i y b h;rw[h] at a;simp at a⊢;omega
def qI(zs:List Int):trimL zs=zs.take (trimL zs).length∧∀i,(trimL zs).length<=i->zs.getD i 0=0:=by
 induction zs with
 |nil=>simp[trimL]
 |cons z zs a=>
  rw[trimL];split
  ·rename_i h;rw[h] at a;split
   ·rename_i c;subst c;refine⟨by simp,fun i _=> ?_⟩;cases i with
    |zero=>rfl
    |succ i=>rw[bxX];exact a.2 i (dC _)
   ·refine⟨by simp,fun i b=> ?_⟩;cases i with
    |zero=>simp at b
    |succ i=>rw[bxX];exact a.2 i (dC _)
  ·rename_i y d h;rw[h] at a;refine⟨?_,fun i b=> ?_⟩
   ·rw[eG,List.take_succ_cons,<-a.1]
   ·cases i with
    |zero=>simp at b
    |succ i=>rw[bxX];exact a.2 i (by simpa using b)
def InR.trimL(h:InR b zs):InR b (trimL zs):=by
 rw[(qI zs).1];exact h.take _
def FQ{n:Nat}(hn:n<=zs.length)(c:n=0∨zs.getD (n-1) 0≠0)(a:∀i,n<=i->zs.getD i 0=0):trimL zs=zs.take n:=by
 induction zs generalizing n with
 |nil=>simp[Sos.trimL]
 |cons z zs b=>
  cases n with
  |zero=>
   have e:=a 0 aE;have g:z=0:=e;have:=b (n:=0) (dC _) (.inl rfl) (fun i _=>by have:=a (i+1) (dC _);rwa [bxX] at this);subst g;rw[Sos.trimL,this];simp
  |succ n=>
   have f:∀i,n<=i->zs.getD i 0=0:=fun i k=>by have:=a (i+1) (by omega);rwa [bxX] at this
   cases n with
   |zero=>
    have:=b (n:=0) (dC _) (.inl rfl) f;have j:z≠0:=by simpa using c
    rw[Sos.trimL,this];simp[j]
   |succ n=>
    have d:n+1<=zs.length:=by simpa using hn
    have:=b (n:=n+1) d (.inr (by rcases c with h|h;· omega
                                 ·simpa using h)) f
    rw[Sos.trimL,this,List.take_succ_cons];cases zs with
    |nil=>simp at d
    |cons y l=>rw[List.take_succ_cons]
def AJ(n:1<b)(h:InR b zs)(c:kH zs)(g:zs≠[]):b^(zs.length-1)<=aF b zs:=by
 induction zs with
 |nil=>exact absurd rfl g
 |cons z zs i=>
  cases zs with
  |nil=>
   have j:z≠0:=by intro e;subst e;exact c rfl
   have:=h.head;simp;omega
  |cons y a=>
   have d:kH (y :: a):=by
    unfold kH at c⊢;rwa [bxY] at c
   have f:=i h.tail d (by simp);have k:=h.head;rw[val_cons];have l:b*b^((y :: a).length-1)<=b*aF b (y :: a):=gK f (by omega);have m:b^((z :: y :: a).length-1)=b*b^((y :: a).length-1):=by simp[gR,fD]
   omega
def Canon(b:Int)(zs:List Int):Prop:=InR b zs∧kH zs
def PA(h:InR b zs):Canon b (trimL zs):=⟨h.trimL,P4 zs⟩
def Canon.nil:Canon b []:=⟨InR.nil,by simp[kH]⟩
def FR(d:1<b)(c:Canon b xs)(g:InR b ys)(h:aF b xs<=aF b ys):xs.length<=ys.length:=by
 rcases dE ys.length xs.length with a|a
 ·have f:xs≠[]:=by intro e;subst e;simp at a
  have i:=AJ d c.1 c.2 f;have j:=iO (by omega) g;have k:b^ys.length<=b^(xs.length-1):=vZ (by omega) (by omega);omega
 ·exact a
def PB{x y p q:Int}(d:0<=x)(e:x<b)(f:0<=y)(g:y<b)(h:x+b*p=y+b*q):x=y∧p=q:=by
 have i:b≠0:=by omega
 have a:(x+b*p)%b=x:=by rw[bzJ];exact bz1 d e
 have c:(y+b*q)%b=y:=by rw[bzJ];exact bz1 f g
 have j:x=y:=by rw[<-a,<-c,h]
 subst j;exact⟨rfl,bzK i (by omega)⟩
def PC(e:InR b xs)(f:InR b ys)(a:xs.length=ys.length)(h:aF b xs=aF b ys):xs=ys:=by
 induction xs generalizing ys with
 |nil=>cases ys with
  |nil=>rfl
  |cons y ys=>simp at a
 |cons x xs i=>
  cases ys with
  |nil=>simp at a
  |cons y ys=>
   simp only[val_cons] at h;have c:=e.head;have d:=f.head
   obtain⟨rfl,g⟩:=PB c.1 c.2 d.1 d.2 h;rw[i e.tail f.tail (by simpa using a) g]
def PD(d:1<b)(a:Canon b xs)(c:Canon b ys)(h:aF b xs=aF b ys):xs=ys:=
 PC a.1 c.1 (byS (FR d a c.1 (by omega)) (FR d c a.1 (by omega))) h
def jW(b:Nat)(n:Nat):List Int:=
 if _h:n=0∨b<2 then [] else ((n%b:Nat):Int) :: jW b (n/b)
termination_by n
decreasing_by
 have:n/b<n:=by6 (by omega) (by omega)
 exact this
def FT(b:Nat):jW b 0=[]:=by rw[jW];simp
def AK(b n:Nat)(d:2<=b):aF b (jW b n)=n:=by
 induction n using Nat.strongRecOn with
 |ind n c=>
  rw[jW];split
  ·rename_i h;rcases h with h|h
   ·subst h;rfl
   ·omega
  ·rename_i h;have a:n/b<n:=by6 (by omega) (by omega);rw[val_cons,c _ a,<-az8,<-Int.natCast_add,bxO]
def PE(b n:Nat)(d:2<=b):InR b (jW b n):=by
 induction n using Nat.strongRecOn with
 |ind n c=>
  rw[jW];split
  ·exact InR.nil
  ·rename_i h;have a:n/b<n:=by6 (by omega) (by omega);refine InR.cons (by omega) ?_ (c _ a);have:=dI n (show 0<b by omega);omega
def FU(b n:Nat)(c:2<=b):Canon b (jW b n):=by
 refine⟨PE b n c,?_⟩;unfold kH;induction n using Nat.strongRecOn with
 |ind n e=>
  rw[jW];split
  ·simp
  ·rename_i h;have d:n/b<n:=by6 (by omega) (by omega);have:=e _ d;cases hd:jW b (n/b) with
   |nil=>
    have hv:=AK b (n/b) c;rw[hd] at hv;have f:n/b=0:=by
     have:((n/b:Nat):Int)=0:=by rw[<-hv];rfl
     omega
    have a:n<b:=by
     rcases dE n b with a|a
     ·exact a
     ·have:=Nat.div_pos a (by omega);omega
    rw[jJ a];simp;omega
   |cons y g=>rw[bxY,<-hd];exact this
def PF{b:Nat}(a:2<=b)(h:Canon b zs):jW b (aF b zs).toNat=zs:=by
 have c:=y9 (show(0:Int)<(b:Int) by omega) h.1;exact PD (by omega) (FU b _ a) h (by rw[AK b _ a];omega)
end Sos
namespace Go.Proofs.YtjgbleapffgbcaaGreatDoor
open Sos Lib
variable{d l m s t:List UInt8}{n w:Nat}
def Digs(l:List UInt8):Prop:=∀c∈l,48<=c.toNat∧c.toNat<=57
def aO(l:List UInt8):Nat:=l.foldl (fun a c=>10*a+(c.toNat-48)) 0
def Digs.nil:Digs []:=fun _ h=>by cases h
def Digs.append(h:Digs l)(b:Digs m):Digs (l++m):=by
 intro c a;rcases List.mem_append.1 a with a|a
 ·exact h c a
 ·exact b c a
def Digs.left(h:Digs (l++m)):Digs l:=fun c a=>h c (bzP _ a)
def Digs.right(h:Digs (l++m)):Digs m:=fun c a=>h c (bzQ _ a)
def Digs.take(h:Digs l)(n:Nat):Digs (l.take n):=fun c a=>h c (lH a)
def Digs.drop(h:Digs l)(n:Nat):Digs (l.drop n):=fun c a=>h c (bxD a)
def Digs.zeros(n:Nat):Digs (List.replicate n 48):=by
 intro c a;obtain⟨_,rfl⟩:=List.mem_replicate.1 a;exact⟨by decide,by decide⟩
def BG:aO []=0:=rfl
def oK(l:List UInt8)(c:UInt8):aO (l++[c])=10*aO l+(c.toNat-48):=by
 unfold aO;rw[List.foldl_append];rfl
def BH{α:Type}{P:List α->Prop}(b:P [])(c:∀l a,P l->P (l++[a]))(l:List α):P l:=by
 have:∀m:List α,P m.reverse:=by
  intro m;induction m with
  |nil=>exact b
  |cons a m d=>rw[List.reverse_cons];exact c _ _ d
 have h:=this l.reverse;rwa [List.reverse_reverse] at h
def pF(l m:List UInt8):aO (l++m)=aO l*10^m.length+aO m:=by
 refine BH (P:=fun m=>aO (l++m)=aO l*10^m.length+aO m) ?_ ?_ m
 ·simp[BG]
 ·intro m a b;rw[<-eK,oK,oK,b,dA,iJ,dH];grind
def tI(h:Digs l):aO l<10^l.length:=by
 revert h;refine BH (P:=fun l=>Digs l->aO l<10^l.length) ?_ ?_ l
 ·intro _;decide
 ·intro m a b h;have c:=b h.left;have d:=h.right a (by simp);rw[oK,dA,iJ,dH];omega
def GW(n:Nat):aO (List.replicate n 48)=0:=by
 induction n with
 |zero=>rfl
 |succ n a=>rw[aqW,oK,a];rfl
def GX(h:Digs l)(d:Digs m)(c:l.length=m.length)(hv:aO l=aO m):l=m:=by
 revert m h;refine BH (P:=fun l=>∀{m:List UInt8},Digs l->Digs m->l.length=m.length->aO l=aO m->l=m) ?_ ?_ l
 ·intro m _ _ c _;exact(bX c.symm).symm
 ·intro l a i m h d c hv;rcases List.eq_nil_or_concat m with rfl|⟨j,b,rfl⟩
  ·simp at c
  ·rw[List.concat_eq_append] at *;rw[oK,oK] at hv;have k:=h.right a (by simp);have n:=d.right b (by simp);have e:aO l=aO j:=by omega
   have f:a.toNat=b.toNat:=by omega
   have g:=i h.left d.left (by simpa using c) e;rw[g,UInt8.toNat_inj.1 f]
def tJ{d:Nat}(h:d<10):(UInt8.ofNat (48+d)).toNat=48+d:=by
 rw[UInt8.toNat_ofNat'];omega
def mQ(n:Nat):aO (decDigits n)=n:=by
 induction n using Nat.strongRecOn with
 |ind n a=>
  rw[decDigits];split
  ·rename_i h;show 10*0+((UInt8.ofNat (48+n)).toNat-48)=n
   rw[tJ h];omega
  ·rename_i h;rw[oK,a (n/10) (by omega),tJ (dI _ (by decide))];omega
def oL(n:Nat):Digs (decDigits n):=by
 induction n using Nat.strongRecOn with
 |ind n b=>
  rw[decDigits];split
  ·rename_i h;intro c a;rw[by4] at a;subst a;rw[tJ h];omega
  ·rename_i h;refine(b (n/10) (by omega)).append ?_;intro c a;rw[by4] at a;subst a;have:=dI n (show 0<10 by decide);rw[tJ this];omega
def BI(h:n≠0):10^(nDigits n-1)<=n:=by
 induction n using Nat.strongRecOn with
 |ind n b=>
  by_cases a:n<10
  ·rw[nDigits_small a];simp;omega
  ·rw[nDigits_big a];have c:=b (n/10) (by omega) (by omega);have d:=nDigits_pos (n/10);have e:nDigits (n/10)+1-1=(nDigits (n/10)-1)+1:=by omega
   rw[e,dH];omega
def rS{k:Nat}(h:n<10^k)(e:1<=k):nDigits n<=k:=by
 rcases dE k (nDigits n) with a|a
 ·exfalso;rcases iB n with b|b
  ·subst b;rw[nDigits_small (by decide)] at a;omega
  ·have c:=BI (n:=n) (by omega);have d:10^k<=10^(nDigits n-1):=cO (by decide) (by omega);omega
 ·exact a
def dJ(w n:Nat):List UInt8:=List.replicate (w-(if n=0 then 0 else nDigits n)) 48++(if n=0 then [] else decDigits n)
def BJ(w n:Nat):aO (dJ w n)=n:=by
 unfold dJ;rw[pF,GW,azW,bA];split
 ·rename_i h;rw[h];rfl
 ·exact mQ n
def BK(w n:Nat):Digs (dJ w n):=by
 unfold dJ;refine(Digs.zeros _).append ?_;split
 ·exact Digs.nil
 ·exact oL n
def cyI(w n:Nat):(dJ w n).length=max w (if n=0 then 0 else nDigits n):=by
 unfold dJ;rw[dA,dB];split
 ·simp
 ·rw[decDigits_length];omega
def GY(h:Digs l)(hv:aO l=n)(a:l.length=max w (if n=0 then 0 else nDigits n)):l=dJ w n:=
 GX h (BK w n) (by rw[a,cyI]) (by rw[hv,BJ])
def SN(h:n≠0):dJ 0 n=decDigits n:=by
 unfold dJ;rw[if_neg h,if_neg h];simp
def SO(w:Nat):dJ w 0=List.replicate w 48:=by
 unfold dJ;simp
def SQ{hi lo d:Nat}(a:hi≠0)(g:lo<10^d):nDigits (hi*10^d+lo)=nDigits hi+d:=by
 have b:=BI a;have c:=lt_pow_nDigits hi;have f:=nDigits_pos hi;have h:0<10^d:=d7 (by decide);have e:nDigits hi+d=(nDigits hi-1+d)+1:=by omega
 rw[e];refine nDigits_unique _ _ ?_ ?_
 ·rw[KF];have:=dK (10^d) b;omega
 ·rw[show nDigits hi-1+d+1=nDigits hi+d by omega,KF];have:(hi+1)*10^d<=10^nDigits hi*10^d:=dK _ c;rw[aqA] at this;omega
def GZ{hi lo d:Nat}(c:lo<10^d)(h:hi≠0∨d<=w):dJ w (hi*10^d+lo)=dJ (w-d) hi++dJ d lo:=by
 symm;have g:(if lo=0 then 0 else nDigits lo)<=d:=by
  split
  ·omega
  ·rename_i a;rcases iB d with b|b
   ·subst b;simp at c;omega
   ·exact rS c b
 have e:(dJ d lo).length=d:=by rw[cyI];omega
 refine GY ((BK _ _).append (BK _ _)) ?_ ?_
 ·rw[pF,BJ,BJ,e]
 ·rw[dA,e,cyI];by_cases a:hi=0
  ·subst a;simp only[azW,bA,if_pos];have:d<=w:=by rcases h with h|h;exact absurd rfl h;exact h
   omega
  ·have f:¬(hi*10^d+lo=0):=by
    have:0<hi*10^d:=aqZ (by omega) (d7 (by decide));omega
   rw[if_neg a,if_neg f,SQ a c];omega
def pG(h:Digs l)(g:l≠[])(a:l.length=1∨l.head?≠some 48):decDigits (aO l)=l:=by
 refine GX (oL _) h ?_ (mQ _);rw[decDigits_length];have d:=tI h;obtain⟨c,m,rfl⟩:∃c m,l=c :: m:=by
  cases l with
  |nil=>exact absurd rfl g
  |cons c m=>exact⟨c,m,rfl⟩
 have i:=h c (iC ..);by_cases b:m.length=0
 ·have:m=[]:=bX b;subst this;rw[nDigits_small (by simpa using d)];rfl
 ·have f:c≠48:=by
   rcases a with a|a
   ·simp at a;exact absurd a (by intro e;subst e;exact b rfl)
   ·intro e;subst e;exact a rfl
  have j:c.toNat≠48:=by
   intro e;exact f (UInt8.toNat_inj.1 e)
  refine nDigits_unique m.length _ ?_ (by simpa using d);have e:aO (c :: m)=(c.toNat-48)*10^m.length+aO m:=by
   have:=pF [c] m;rw[List.singleton_append] at this;rw[this];show(10*0+(c.toNat-48))*_+_=_
   rw[azP,bA]
  rw[e];have:1*10^m.length<=(c.toNat-48)*10^m.length:=dK _ (by omega);omega
def tK(n:Nat):decDigits n≠[]:=by
 intro h;have:=decDigits_length n;rw[h] at this;have:=nDigits_pos n;simp at *;omega
def H2{m:Nat}(h:decDigits m=decDigits n):m=n:=by rw[<-mQ m,h,mQ]
def H4(h:n≠0):(decDigits n).head?≠some 48:=by
 intro e;obtain⟨m,g⟩:∃m,decDigits n=48 :: m:=by
  cases a:decDigits n with
  |nil=>rw[a] at e;cases e
  |cons c m=>rw[a] at e;injection e with e;subst e;exact⟨m,rfl⟩
 have hv:=mQ n;have b:=decDigits_length n;have a:=oL n;rw[g] at hv b a;have i:aO (48 :: m)=aO m:=by
  have:=pF [48] m;rw[List.singleton_append] at this;rw[this];simp[aO]
 have j:=tI (l:=m) (fun c f=>a c (j8 _ f));have d:=BI h;simp at b;rw[<-b,mD] at d;omega
def bO(c:UInt8):Bool:=decide (48<=c.toNat∧c.toNat<=57)
def cW(q:Rat):List UInt8:=(if q.num<0 then [45] else [])++decDigits q.num.natAbs++(if q.den=1 then [] else 47 :: decDigits q.den)
def iA(s:List UInt8):Option (Bool×List UInt8×List UInt8):=
 let a:=s.head?==some 45
 let r:=if a then s.tail else s
 let n:=r.takeWhile bO
 let t:=r.dropWhile bO
 if n=[48] then (if a=false∧t=[] then some (a,n,[]) else none)
 else if n=[]∨n.head?=some 48 then none
 else if t=[] then some (a,n,[])
 else if t.head?≠some 47 then none
 else
  let d:=t.tail.takeWhile bO
  let u:=t.tail.dropWhile bO
  if u=[]∧d≠[]∧d.head?≠some 48∧d≠[49] then some (a,n,d) else none
def fO(a:Bool)(n:Nat):Int:=if a then -(n:Int) else n
def cL(s:List UInt8):Option Rat:=
 match iA s with
 |none=>none
 |some (neg,n,d)=>if d=[] then some ((fO neg (aO n):Int):Rat) else if Nat.gcd (aO n) (aO d)=1 then some (mkRat (fO neg (aO n)) (aO d)) else none
structure Parts(neg:Bool)(n d:List UInt8):Prop where
 n_digs:Digs n
 d_digs:Digs d
 n_ne:n≠[]
 zero:n=[48]->neg=false∧d=[]
 n_head:n≠[48]->n.head?≠some 48
 d_head:d.head?≠some 48
 d_one:d≠[49]
def jM(a:Bool)(n d:List UInt8):List UInt8:=(if a then [45] else [])++n++(if d=[] then [] else 47 :: d)
def H9(l:List UInt8):Digs (l.takeWhile bO):=by
 intro c a;have:=List.all_takeWhile (p:=bO) (l:=l);have:=List.all_eq_true.1 this c a;simpa [bO] using this
def I0(h:Digs l)(b:t.head?.all (fun c=> !bO c)):(l++t).takeWhile bO=l∧(l++t).dropWhile bO=t:=by
 induction l with
 |nil=>
  cases t with
  |nil=>exact⟨rfl,rfl⟩
  |cons c m=>simp at b;simp[bzB,bz5,b]
 |cons a l i=>
  have f:bO a=true:=by have:=h a (iC ..);simpa [bO] using this
  obtain⟨d,e⟩:=i (fun c g=>h c (j8 _ g));simp[bzB,bz5,f,d,e]
def I1{l:Bool}{n:List UInt8}(h:iA s=some (l,n,d)):Parts l n d∧s=jM l n d:=by
 unfold iA at h;simp only at h;have k:s=(if (s.head?==some 45)=true then [45] else [])++(if (s.head?==some 45)=true then s.tail else s):=by
  cases s with
  |nil=>rfl
  |cons c m=>
   by_cases e:c=45
   ·subst e;simp
   ·simp[e]
 generalize (s.head?==some 45)=x at *;generalize (if x=true then s.tail else s)=r at *;have j:r=r.takeWhile bO++r.dropWhile bO:=(bzT).symm;have i:=H9 r;generalize r.takeWhile bO=N at *;generalize r.dropWhile bO=T at *;by_cases b:N=[48]
 ·rw[if_pos b] at h;split at h
  ·rename_i a;injection h with h;injection h with h1 h;injection h with h2 h3;subst h1 h2 h3;refine⟨⟨i,fun c g=>(by cases g),by rw[b];simp,fun _=>⟨a.1,rfl⟩,fun h=>absurd b h,by simp,by simp⟩,?_⟩;rw[k,j,a.2,jM,if_pos rfl,fH,fH]
  ·cases h
 ·rw[if_neg b] at h;split at h
  ·cases h
  ·rename_i q;have t:N≠[]:=fun e=>q (.inl e);have u:N.head?≠some 48:=fun e=>q (.inr e);split at h
   ·rename_i p;injection h with h;injection h with h1 h;injection h with h2 h3;subst h1 h2 h3;refine⟨⟨i,fun c g=>(by cases g),t,fun h=>absurd h b,fun _=>u,by simp,by simp⟩,?_⟩;rw[k,j,p,jM,if_pos rfl,fH,fH]
   ·rename_i p;split at h
    ·cases h
    ·rename_i f;have f:T.head?=some 47:=Decidable.not_not.1 f;obtain⟨m,o⟩:∃m,T=47 :: m:=by
      cases T with
      |nil=>simp at f
      |cons c m=>simp at f;exact⟨m,by rw[f]⟩
     rw[o,List.tail_cons] at h;have w:m=m.takeWhile bO++m.dropWhile bO:=(bzT).symm;have v:=H9 m;generalize m.takeWhile bO=D at *;generalize m.dropWhile bO=U at *;split at h
     ·rename_i a;injection h with h;injection h with h1 h;injection h with h2 h3;subst h1 h2 h3;refine⟨⟨i,v,t,fun h=>absurd h b,fun _=>u,a.2.2.1,a.2.2.2⟩,?_⟩;rw[k,j,o,w,a.1,jM,if_neg a.2.1,fH,eK]
     ·cases h
def SS{b:Bool}{n:List UInt8}(h:Parts b n d):iA (jM b n d)=some (b,n,d):=by
 obtain⟨a,j,hn⟩:∃a j,n=a :: j:=by
  cases n with
  |nil=>exact absurd rfl h.n_ne
  |cons a m=>exact⟨a,m,rfl⟩
 have s:a≠45:=by
  intro e;have:=h.n_digs a (by rw[hn];exact iC ..);rw[e] at this;exact absurd this (by decide)
 have o:((jM b n d).head?==some 45)=b:=by
  cases b
  ·simp[jM,hn,s]
  ·simp[jM]
 have p:(if b=true then (jM b n d).tail else jM b n d)=n++(if d=[] then [] else 47 :: d):=by
  cases b<;>simp[jM]
 obtain⟨q,r⟩:=I0 (l:=n) (t:=if d=[] then [] else 47 :: d) h.n_digs (by
  by_cases e:d=[]
  ·simp[e]
  ·simp[e,bO])
 unfold iA;simp only[o,p,q,r];by_cases c:n=[48]
 ·obtain⟨k,f⟩:=h.zero c;rw[if_pos c,if_pos ⟨k,by rw[if_pos f]⟩,f]
 ·rw[if_neg c,if_neg (by rintro (e|e);exact h.n_ne e;exact h.n_head c e)];by_cases e:d=[]
  ·rw[if_pos e,if_pos rfl,e]
  ·obtain⟨g,i⟩:=I0 (l:=d) (t:=[]) h.d_digs (by simp);rw[fH] at g i;rw[if_neg e,if_neg (by simp),if_neg (by simp),List.tail_cons,g,i,if_pos ⟨rfl,e,h.d_head,h.d_one⟩]
def wP(h:Digs l)(g:l≠[])(a:l.head?≠some 48):aO l≠0:=by
 intro e;have:=pG h g (.inr a);rw[e] at this;have b:=pG (l:=[48]) (fun c d=>by simp at d;subst d;decide) (by simp) (.inl rfl);have f:aO [48]=0:=by decide
 rw[f] at b;rw[b] at this;rw[<-this] at a;exact a rfl
def BM:decDigits 0=[48]:=by
 have a:=pG (l:=[48]) (fun c b=>by simp at b;subst b;decide) (by simp) (.inl rfl);have d:aO [48]=0:=by decide
 rw[d] at a;exact a
def decDigits_one:decDigits 1=[49]:=by
 have a:=pG (l:=[49]) (fun c b=>by simp at b;subst b;decide) (by simp) (.inl rfl);have d:aO [49]=1:=by decide
 rw[d] at a;exact a
def rU(a:Bool)(n:Nat):(fO a n).natAbs=n:=by cases a<;>simp[fO]
def ST(a:Bool)(h:n≠0):(fO a n<0)↔a=true:=by cases a<;>simp[fO]<;>omega
def tL{q:Rat}(h:cL s=some q):cW q=s:=by
 unfold cL at h;split at h
 ·cases h
 ·rename_i b n d p;obtain⟨a,k⟩:=I1 p
  have hn:decDigits (aO n)=n:=pG a.n_digs a.n_ne (by
   by_cases e:n=[48]
   ·left;rw[e];rfl
   ·exact .inr (a.n_head e))
  have f:(fO b (aO n)<0)↔b=true:=by
   by_cases e:n=[48]
   ·rw[(a.zero e).1,e];simp[fO]
   ·exact ST b (wP a.n_digs a.n_ne (a.n_head e))
  by_cases c:d=[]
  ·rw[if_pos c] at h;injection h with h;subst h;rw[k,cW,jM,if_pos c];show(if fO b (aO n)<0 then _ else _)++decDigits (fO b (aO n)).natAbs++_=_
   rw[rU,hn,if_pos (show((fO b (aO n):Int):Rat).den=1 from rfl)];congr 2;by_cases e:b=true
   ·rw[if_pos (f.2 e),if_pos e]
   ·rw[if_neg (fun h=>e (f.1 h)),if_neg e]
  ·rw[if_neg c] at h;split at h
   ·rename_i j;injection h with h;have g:decDigits (aO d)=d:=pG a.d_digs c (.inr a.d_head);have i:aO d≠0:=wP a.d_digs c a.d_head;have l:aO d≠1:=by intro e;rw[e,decDigits_one] at g;exact a.d_one g.symm
    have m:q.num=fO b (aO n):=by rw[<-h,Rat.num_mkRat,if_neg i,rU,azD,j];simp
    have o:q.den=aO d:=by rw[<-h,Rat.den_mkRat,if_neg i,rU,azD,j];simp
    rw[k,cW,jM,if_neg c,m,o,if_neg l,rU,hn,g];congr 2;by_cases e:b=true
    ·rw[if_pos (f.2 e),if_pos e]
    ·rw[if_neg (fun h=>e (f.1 h)),if_neg e]
   ·cases h
def SU(q:Rat):cL (cW q)=some q:=by
 have g:Parts (decide (q.num<0)) (decDigits q.num.natAbs) (if q.den=1 then [] else decDigits q.den):=by
  have b:∀{m},decDigits m=[48]->m=0:=fun {m} h=>H2 (h.trans BM.symm);refine⟨oL _,?_,tK _,?_,?_,?_,?_⟩
  ·by_cases e:q.den=1
   ·rw[if_pos e];intro c d;cases d
   ·rw[if_neg e];exact oL _
  ·intro h;have j:=b h;have a:q=0:=Rat.num_eq_zero.1 (by omega);subst a;exact⟨by decide,by simp⟩
  ·intro h;exact H4 (fun e=>h (by rw[e];exact BM))
  ·by_cases e:q.den=1
   ·rw[if_pos e];simp
   ·rw[if_neg e];exact H4 q.den_nz
  ·by_cases e:q.den=1
   ·rw[if_pos e];simp
   ·rw[if_neg e];exact fun h=>e (H2 (h.trans decDigits_one.symm))
 have f:cW q=jM (decide (q.num<0)) (decDigits q.num.natAbs) (if q.den=1 then [] else decDigits q.den):=by
  unfold cW jM;by_cases e:q.den=1
  ·simp[e]
  ·simp[e,tK]
 have i:fO (decide (q.num<0)) q.num.natAbs=q.num:=by
  unfold fO;by_cases h:q.num<0<;>simp[h]<;>omega
 unfold cL;rw[f,SS g];simp only[mQ,i];by_cases e:q.den=1
 ·rw[if_pos (by rw[if_pos e])];congr 1;exact Rat.ext rfl e.symm
 ·rw[if_neg (by rw[if_neg e];exact tK _),if_neg e,mQ,if_pos q.reduced,byC]
def cyH(c:UInt8):Bool:=c != 47
end Go.Proofs.YtjgbleapffgbcaaGreatDoor
namespace Go.Proofs.YtjgbleapffgbcaaGreatDoor
open Go.RowKit Sos Tryz
variable{a b w w' w1:World}{B c c' dCap dLen g i j k m n n' sCap sLen u0 u1 x:Nat}{d e s:Option Nat}{xs ys zs:List Int}{cs cur vs:List Value}{sT t:TypeId}{A dp sp:Option Addr}{P:Program}{f:FuncId}{v:Value}{C L T u2 y:Int}
def Cells(k:IntKind)(w:World)(g off:Nat)(zs:List Int):Prop:=∀i,i<zs.length->w.cell? ⟨g,off+i,none⟩=some (.int k (zs.getD i 0))
def Soft(w:World)(g:Nat):Prop:=∃cur t,w.heap[g]? =some (.cells cur t (0,0))
def VC(w:World)(g off:Nat)(cs:List Value):Prop:=∀i v,cs[i]? =some v->w.cell? ⟨g,off+i,none⟩=some v
def Rd(k:IntKind)(w:World)(A:Option Addr)(zs:List Int):Prop:=
 zs=[]∨∃b off,A=some ⟨b,off,none⟩∧b<w.1.size∧Cells k w b off zs
section
variable {k:IntKind}{w w':World}{A:Option Addr}{zs:List Int}{g off:Nat}
def Rd.nil:Rd k w A []:= .inl rfl
def Rd.at_(h:Rd k w A zs)(a:0<zs.length):∃b off,A=some ⟨b,off,none⟩∧b<w.1.size∧Cells k w b off zs:=by
 rcases h with h|h
 ·subst h;simp at a
 ·exact h
def Rd.lt_of(h:Rd k w A zs){b o:Nat}(e:A=some ⟨b,o,none⟩)(c:0<zs.length):b≠w.1.size:=by
 obtain⟨d,i,a,f,_⟩:=h.at_ c;rw[e] at a;injection a with a;injection a;omega
def Rd.mk{b off:Nat}(a:b<w.1.size)(h:Cells k w b off zs):Rd k w (some ⟨b,off,none⟩) zs:= .inr ⟨b,off,rfl,a,h⟩
def Cells.ke(h:Cells k w g off zs)(b:w'.heap[g]? =w.heap[g]?):Cells k w' g off zs:=
 fun i c=>(World.cell?_of_block (w:=w) (w':=w') (a:=⟨g,off+i,none⟩) b).trans (h i c)
def Cells.be(h:Cells k w g off zs)(a:Below B w w')(b:g<B):Cells k w' g off zs:=h.ke (a.block g b)
def Rd.be(h:Rd k w A zs)(a:Below w.1.size w w'):Rd k w' A zs:=by
 rcases h with h|⟨b,off,rfl,c,d⟩
 ·exact .inl h
 ·exact .inr ⟨b,off,rfl,aZ c a.size,d.be a c⟩
def Old(w:World)(A:Option Addr):Prop:=∀a,A=some a->a.block<w.1.size
def Old.mk{b off:Nat}(h:b<w.1.size):Old w (some ⟨b,off,s⟩):=by rintro a e;injection e with e;subst e;exact h
def Old.none:Old w none:=by rintro a e;cases e
def Old.mono(h:Old w A)(b:w.1.size<=w'.1.size):Old w' A:=fun a e=>aZ (h a e) b
def Old.ne(h:Old w A){g:Nat}(b:w.1.size<=g):(Value.slice A n c).ownBlock≠some g:=by
 cases A with
 |none=>simp[Value.ownBlock]
 |some a=>
  have:=h a rfl;simp[Value.ownBlock];omega
def Rd.drew(h:Rd k w A zs):Rd k w.drew A zs:=h
def Rd.drewN(h:Rd k w A zs)(n:Nat):Rd k (w.drewN n) A zs:=h
def AH{g:Nat}(h:(Value.slice A n c).ownBlock≠some g):∀b o,A=some ⟨b,o,none⟩->0<n->b≠g:=by
 rintro b o rfl _ rfl;exact h (by simp[Value.ownBlock])
def Rd.grown(h:Rd k w A zs)(c:w.grownBy w' e)(a:zs=[]∨∀b off,A=some ⟨b,off,none⟩->some b≠e):Rd k w' A zs:=by
 rcases h with h|⟨b,off,rfl,d,f⟩
 ·exact .inl h
 ·rcases a with a|a
  ·exact .inl a
  ·exact .inr ⟨b,off,rfl,aZ d c.size,f.ke (c.block b d (a b off rfl))⟩
def Cells.take(h:Cells k w g off zs)(n:Nat):Cells k w g off (zs.take n):=by
 intro i a;rw[bK] at a;rw[h i (by omega)];simp only[eE,fC,if_pos (show i<n by omega)]
def Cells.drop(h:Cells k w g off zs)(n:Nat):Cells k w g (off+n) (zs.drop n):=by
 intro i a;rw[eP] at a;rw[bxE,h (n+i) (by omega)];simp only[eE,aqM]
def Rd.take(h:Rd k w A zs)(n:Nat):Rd k w A (zs.take n):=by
 rcases h with h|⟨b,off,rfl,c,a⟩
 ·subst h;exact .inl (by simp)
 ·exact .inr ⟨b,off,rfl,c,a.take n⟩
def Cells.append(h:Cells k w g off zs)(b:Cells k w g (off+zs.length) ys):Cells k w g off (zs++ys):=by
 intro i c;rw[dA] at c;by_cases a:i<zs.length
 ·rw[h i a];simp[gA a]
 ·have:=b (i-zs.length) (by omega);rw[show off+zs.length+(i-zs.length)=off+i by omega] at this;rw[this];simp[fK (show zs.length<=i by omega)]
def Cells.set(h:Cells k w g off zs)(hi:i<zs.length)(v:Int):Cells k (w.setCell ⟨g,off+i,none⟩ (.int k v)) g off (zs.set i v):=by
 intro j a;rw[eM] at a;by_cases e:j=i
 ·subst e;rw[World.cell?_setCell_same _ _ _ (h j a)];simp[gP hi]
 ·rw[World.cell?_setCell_other _ _ _ _ (by simp<;>omega),h j a];simp only[eE,lI (show i≠j by omega)]
def Cells.far(h:Cells k w g off zs){a:Addr}(b:a.block≠g∨a.off<off∨off+zs.length<=a.off)(v:Value):Cells k (w.setCell a v) g off zs:=by
 intro j c;rw[World.cell?_setCell_other _ _ _ _ (by intro e;subst e;simp at b;omega),h j c]
def Cells.lt(h:Cells k w g off zs)(a:0<zs.length):g<w.1.size:=block_lt_of_cell (h 0 a)
def Cells.alloc(h:Cells k w g off zs)(a:g<w.1.size)(o:Obj):Cells k (w.alloc o) g off zs:=h.ke (Below.heap_alloc w o g a)
def Soft.lt(h:Soft w g):g<w.1.size:=by
 obtain⟨a,t,h⟩:=h;exact(Array.getElem?_eq_some_iff.1 h).1
def Soft.free(h:Soft w g)(j:Nat):w.frozen? ⟨g,j,none⟩=false:=by
 obtain⟨a,t,h⟩:=h;exact frozen_of_row w g j a t h
def Soft.ke(h:Soft w g)(b:w'.heap[g]? =w.heap[g]?):Soft w' g:=by
 obtain⟨a,t,h⟩:=h;exact⟨a,t,b.trans h⟩
def Soft.be(h:Soft w g)(a:Below B w w')(b:g<B):Soft w' g:=h.ke (a.block g b)
def Soft.alloc(h:Soft w g)(o:Obj):Soft (w.alloc o) g:=h.ke (Below.heap_alloc w o g h.lt)
def Soft.set(h:Soft w g)(a:Addr)(v:Value):Soft (w.setCell a v) g:=by
 obtain⟨b,t,h⟩:=h;unfold Soft;by_cases e:a.block=g
 ·subst e;exact⟨if a.spot.isSome then b else b.setIfInBounds a.off v,t,by simp[World.setCell,byY,h]⟩
 ·exact⟨b,t,(Below.heap_setCell w a v g (fun c=>e c.symm)).trans h⟩
def VC.cells(h:VC w g off (zs.map (Value.int k))):Cells k w g off zs:=by
 intro i a;refine h i _ ?_;simp[aR a]
def Cells.vc(h:Cells k w g off zs):VC w g off (zs.map (Value.int k)):=by
 intro i v hv;rw[iK] at hv;rcases dE i zs.length with a|a
 ·rw[aR a] at hv;have e:=h i a;rw[e];simpa [aR a] using hv
 ·rw[fU a] at hv;simp at hv
def VC.ke(h:VC w g off cs)(b:w'.heap[g]? =w.heap[g]?):VC w' g off cs:=
 fun i v hv=>(World.cell?_of_block (w:=w) (w':=w') (a:=⟨g,off+i,none⟩) b).trans (h i v hv)
def VC.be(h:VC w g off cs)(a:Below B w w')(b:g<B):VC w' g off cs:=h.ke (a.block g b)
def VC.drop(h:VC w g off cs)(n:Nat):VC w g (off+n) (cs.drop n):=by
 intro i v hv;rw[bxE];exact h _ _ (by rw[aqM] at hv;exact hv)
def VC.take(h:VC w g off cs)(n:Nat):VC w g off (cs.take n):=by
 intro i v hv;rw[fC] at hv;split at hv
 ·exact h _ _ hv
 ·cases hv
def nU(w:World)(a:Addr)(v:Value):(w.setCell a v).1.size=w.1.size:=by simp[World.setCell]
end
def Shape(w:World)(g:Nat)(t:TypeId)(n:Nat):Prop:=∃cur,w.heap[g]? =some (.cells cur t (0,0))∧cur.size=n
def Shape.lt(h:Shape w g t n):g<w.1.size:=by
 obtain⟨a,h,_⟩:=h;exact(Array.getElem?_eq_some_iff.1 h).1
def Shape.soft(h:Shape w g t n):Soft w g:=by
 obtain⟨a,h,_⟩:=h;exact⟨a,t,h⟩
def Shape.ke(h:Shape w g t n)(b:w'.heap[g]? =w.heap[g]?):Shape w' g t n:=by
 obtain⟨a,h,hn⟩:=h;exact⟨a,b.trans h,hn⟩
def Shape.alloc(h:Shape w g t n)(o:Obj):Shape (w.alloc o) g t n:=h.ke (Below.heap_alloc w o g h.lt)
def Shape.set(h:Shape w g t n)(a:Addr)(v:Value):Shape (w.setCell a v) g t n:=by
 obtain⟨b,h,hn⟩:=h;by_cases e:a.block=g
 ·subst e;refine⟨if a.spot.isSome then b else b.setIfInBounds a.off v,by simp[World.setCell,byY,h],?_⟩;split
  ·exact hn
  ·simpa using hn
 ·exact⟨b,(Below.heap_setCell w a v g (fun c=>e c.symm)).trans h,hn⟩
structure Only(g off n:Nat)(w w':World):Prop where
 grown:w.grownBy w' (some g)
 rest:∀j,j<off∨off+n<=j->w'.cell? ⟨g,j,none⟩=w.cell? ⟨g,j,none⟩
 soft:Soft w g->Soft w' g
 shape:∀t m,Shape w g t m->Shape w' g t m
def AI{c:World}(h:a.grownBy b d)(k:b.grownBy c d):a.grownBy c d:=
 ⟨k.os.trans h.os,k.tape.trans h.tape,k.output.trans h.output,aH h.size k.size,fun i e f=>(k.block i (aZ e h.size) f).trans (h.block i e f)⟩
def rL(h:Below a.1.size a b)(c:Option Nat):a.grownBy b c:=⟨h.os,h.tape,h.output,h.size,fun i hi _=>h.block i hi⟩
def nV(a:Addr)(v:Value):w.grownBy (w.setCell a v) (some a.block):=
 ⟨rfl,rfl,rfl,by simp[World.setCell],fun i _ b=>Below.heap_setCell w a v i (by rintro rfl;exact b rfl)⟩
def Only.refl(g off n:Nat)(w:World):Only g off n w w:=⟨World.grownBy.refl _ _,fun _ _=>rfl,id,fun _ _ h=>h⟩
def Only.trans{off:Nat}{c:World}(h:Only g off n a b)(k:Only g off n b c):Only g off n a c:=
 ⟨AI h.grown k.grown,fun j d=>(k.rest j d).trans (h.rest j d),fun s=>k.soft (h.soft s),fun t m s=>k.shape t m (h.shape t m s)⟩
def Only.set{off:Nat}(h:Only g off n a b)(hi:i<n)(v:Value):Only g off n a (b.setCell ⟨g,off+i,none⟩ v):=
 h.trans ⟨nV (w:=b) ⟨g,off+i,none⟩ v,fun j c=>World.cell?_setCell_other _ _ _ _ (by simp<;>omega),fun s=>s.set _ _,fun _ _ s=>s.set _ _⟩
def Only.drew{off:Nat}(h:Only g off n a b):Only g off n a b.drew:=⟨⟨h.grown.os,h.grown.tape,h.grown.output,h.grown.size,h.grown.block⟩,h.rest,h.soft,h.shape⟩
def Only.drewN{off:Nat}(h:Only g off n a b)(m:Nat):Only g off n a (b.drewN m):=⟨⟨h.grown.os,h.grown.tape,h.grown.output,h.grown.size,h.grown.block⟩,h.rest,h.soft,h.shape⟩
def Only.be{off:Nat}(h:Only g off n a b)(c:B<=a.1.size)(d:B<=g):Below B a b:=
 ⟨h.grown.os,h.grown.tape,h.grown.output,h.grown.size,fun k f=>h.grown.block k (by omega) (by intro e;injection e;omega)⟩
def Only.cells{off:Nat}(h:Only g off n a b){k:IntKind}{g':Nat}(d:Cells k a g' c zs)(l:g'<a.1.size)
  (m:g'≠g∨c+zs.length<=off∨off+n<=c):Cells k b g' c zs:=by
 by_cases e:g'=g
 ·subst e;intro i j;rw[h.rest _ (by omega)];exact d i j
 ·exact d.ke (h.grown.block g' l (by intro f;injection f;omega))
def Only.rd{off:Nat}(h:Only g off n a b){k:IntKind}(f:Rd k a A zs)
  (l:∀c d,A=some ⟨c,d,none⟩->0<zs.length->c≠g):Rd k b A zs:=by
 rcases f with f|⟨c,d,rfl,i,j⟩
 ·exact .inl f
 ·rcases iB zs.length with e|e
  ·exact .inl (bX e)
  ·exact .inr ⟨c,d,rfl,aZ i h.grown.size,h.cells j i (.inl (l c d rfl e))⟩
def vX{args:Array Value}
  (h:Calls P f args (w.drewN n) fun e w'=>e= .returned v∧w.drewN n=w'):Calls P f args (w.drewN n) fun e c=>e= .returned v∧∃m,c=w.drewN m:=
 h.mono fun _ _ ⟨a,b⟩=>⟨a,n,b.symm⟩
def FP{args:Array Value}{a:Nat}
  (h:Calls P f args (w.drewN (a+n)) fun e w'=>e= .returned v∧w.drewN (a+n)=w'):Calls P f args (w.drewN (a+n)) fun e d=>e= .returned v∧∃m,d=w.drewN (a+m):=
 h.mono fun _ _ ⟨b,c⟩=>⟨b,n,c.symm⟩
def aC(h:Below w.1.size w a)(k:Below a.1.size a b):Below w.1.size w b:=h.trans (k.mono h.size)
def eN(h:Below B a w)(n:Nat):Below B a (w.drewN n):=⟨h.os,h.tape,h.output,h.size,h.block⟩
section
variable {P:Program}{w:World}{ops:Array Oper}{rest:List Oper}{o:Oper}{a:Act}{Q:Exit->Act->World->Prop}
def OS(A:o.guard=none){l c:Operand}(E:o.op=Op.makeSlice t l c)(e:TypeId)(z:Value)(k b:Nat)
  (m:P.underlying t=some (.slice e))(hi:(P.info? e).map (fun i=>(i.zero,i.size,i.bytes))=some (some z,k,b))(n:Nat){g f:IntKind}
  (D:a.eval l= .int g L)(y:a.eval c= .int f C)(s:L=(n:Int))(p:C=(n:Int))(H:b*n<=281474976710656)(I:n<=9223372036854775807)
  (q:∀w',w.1.size<w'.1.size->Soft w' w.1.size->VC w' w.1.size 0 (madeCells z.cells (n*k)).toList->Below w.1.size w w'->
   wpList P ops Q rest (a.put o.dst (.slice (some ⟨w.1.size,0,none⟩) n n)) w'):wpList P ops Q (o :: rest) a w:=by
 obtain⟨i,B,G,F,x⟩:=info_parts hi;subst F x s p;have u:(i.bytes:Int)*(n:Int)<=281474976710656:=by
  have h:((i.bytes*n:Nat):Int)<=281474976710656:=by omega
  rwa [az8] at h
 have d:=run_make (P:=P) w t e i z m B G g f n n (by omega) (by omega) u (by omega);simp only[j9] at d;refine wpList_plain A fun K r=> ?_;unfold Oper.wp;simp[execOp,E,D,y,d,Result.andThen];refine r _ _ (q _ ?_ ?_ ?_ ?_)
 ·simp
 ·exact⟨_,_,heap_alloc_new w _⟩
 ·intro j v hv;rw[cell_of_row (w.alloc _) w.1.size (0+j) _ _ _ (heap_alloc_new w _),bA];rw[Array.getElem?_toList] at hv;exact hv
 ·exact(aG _ _).alloc aE _
def OT(k:IntKind)(n:Nat):(madeCells (Value.int k 0).cells (n*1)).toList=(List.replicate n (0:Int)).map (Value.int k):=by
 rw[az9,List.map_replicate];exact toList_madeCells_one _ _
def kG(u:o.guard=none){l c:Operand}(y:o.op=Op.makeSlice t l c)(k:IntKind)(e:TypeId)(b:Nat)
  (f:P.underlying t=some (.slice e))(hi:(P.info? e).map (fun i=>(i.zero,i.size,i.bytes))=some (some (.int k 0),1,b))(n:Nat){A z:IntKind}
  (v:a.eval l= .int A L)(s:a.eval c= .int z C)(q:L=(n:Int))(m:C=(n:Int))(r:b*n<=281474976710656)(x:n<=9223372036854775807)
  (p:∀w',w.1.size<w'.1.size->Soft w' w.1.size->Cells k w' w.1.size 0 (List.replicate n 0)->Below w.1.size w w'->
   wpList P ops Q rest (a.put o.dst (.slice (some ⟨w.1.size,0,none⟩) n n)) w'):wpList P ops Q (o :: rest) a w:=
 OS u y e _ 1 b f hi n v s q m r x fun w' g h d j=>p w' g h (by rw[OT] at d;exact d.cells) j
def d8{α:Type}(xs ys:List α):List α:=ys.take xs.length++xs.drop ys.length
def lN{α:Type}(xs ys:List α):(d8 xs ys).length=xs.length:=by simp[d8];omega
def OU{α β:Type}(f:α->β)(xs ys:List α):d8 (xs.map f) (ys.map f)=(d8 xs ys).map f:=by simp[d8,List.map_take,List.map_drop]
def OV{off:Nat}(b:w.heap[g]? =some (.cells cur.toArray t (0,0)))(p:cs.length<=n)(l:off+cs.length<=cur.length):
  Only g off n w (w.setRow g (cur.take off++(cs++cur.drop (off+cs.length))).toArray):=by
 refine⟨⟨rfl,rfl,rfl,by simp[World.setRow],fun i _ f=>setRow_other w g i _ (fun e=>f (by rw[e]))⟩,fun j c=> ?_,fun _=>⟨_,_,setRow_heap w g _ _ t _ b⟩,fun q m h=> ?_⟩
 ·rw[cell_of_row _ g j _ _ _ (setRow_heap w g _ _ t _ b),cell_of_row w g j _ _ _ b];simp only[List.getElem?_toArray];rcases c with c|c
  ·rw[gA (by simp;omega),fC,if_pos c]
  ·rw[fK (by simp;omega),bK,fK (by omega),aqM];congr 1;omega
 ·obtain⟨k,d,hn⟩:=h;rw[b] at d;simp only[Option.some.injEq,Obj.cells.injEq] at d;obtain⟨rfl,rfl, -⟩:=d;refine⟨_,setRow_heap w g _ _ t _ b,?_⟩;simp only[bzA] at hn;simp only[bzA,dA,bK,eP];omega
def OW{K:Act->World->Prop}{d s:Operand}{dT:TypeId}(C:o.op= .call { callee:= .builtin .copy,args:= #[d,s],argTypes:= #[dT,sT] })(e:TypeId)
  (G:P.underlying dT=some (.slice e))(F:(P.info? e).map (·.size)=some 1)
  (A:a.eval d= .slice dp dLen dCap)(E:a.eval s= .slice sp sLen sCap)(g off:Nat)(xs ys:List Value)(I:xs.length=dLen)(O:ys.length=sLen)
  (J:0<dLen->dp=some ⟨g,off,none⟩)(u:VC w g off xs)(R:Soft w g)(S:0<sLen->∃b q,sp=some ⟨b,q,none⟩∧VC w b q ys)(N:∀v∈ys,v.oneCell'=true)
  (h:∀w',VC w' g off (d8 xs ys)->Only g off xs.length w w'->K (a.put o.dst (goInt ((Nat.min sLen dLen:Nat):Int))) w'):o.wp P a w K Q:=by
 subst I O;by_cases p:Nat.min ys.length xs.length=0
 ·have r:=run_copy_none (P:=P) w dT sT o.type e dp sp xs.length dCap ys.length sCap G F p;unfold Oper.wp;simp[execOp,C,resolve,invoke,builtin,A,E,r,Result.andThen]
  have y:=h w (by
   have H:ys=[]∨xs=[]:=by
    rcases iB ys.length with c|c
    ·exact .inl (bX c)
    ·right;rcases iB xs.length with m|m
     ·exact bX m
     ·have:0<Nat.min ys.length xs.length:=Nat.lt_min.2 ⟨c,m⟩;omega
   rcases H with rfl|rfl
   ·simpa [d8] using u
   ·intro i v hv;simp[d8] at hv) (Only.refl _ _ _ _)
  rw[p] at y;exact y
 ·have U:0<ys.length:=by
   rcases iB ys.length with c|c
   ·exact absurd (by rw[c];exact Nat.zero_min _) p
   ·exact c
  have m:0<xs.length:=by
   rcases iB xs.length with c|c
   ·exact absurd (by rw[c];exact Nat.min_zero _) p
   ·exact c
  obtain⟨b,q,rfl,V⟩:=S U;obtain rfl:=J m;obtain⟨cur,t,f⟩:=R;have X:off+xs.length<=cur.size:=by
   have:=u (xs.length-1) (xs[xs.length-1]'(by omega)) (aR (by omega));rw[cell_of_row w g _ _ _ _ f] at this;have:=(Array.getElem?_eq_some_iff.1 this).1;omega
  have z:(ys.take xs.length).length=Nat.min ys.length xs.length:=by rw[bK];exact Nat.min_comm _ _
  have r:=run_copy_row (P:=P) w dT sT o.type e g off xs.length dCap ⟨b,q,none⟩ ys.length sCap cur t (ys.take xs.length) G F f z
   (fun j v hv=>by
    have T:ys[j]? =some v:=by
     rw[fC] at hv;split at hv
     ·exact hv
     ·cases hv
    have:=V j v T;unfold Addr.add;split
    ·rename_i k;subst k;simpa using this
    ·exact this)
   (by rw[bK];omega) (fun v hv=>N v (lH hv))
  unfold Oper.wp;simp only[execOp,C,resolve,invoke,builtin,Sem.run_bind,Sem.run_pure,Result.andThen_ok,bxC,fM,aqJ,A,E,r];rw[show(goInt ((ys.take xs.length).length:Int))=goInt ((Nat.min ys.length xs.length:Nat):Int) by rw[z]];refine h _ ?_ ?_
  ·have M:=setRow_heap w g cur (cur.toList.take off++ys.take xs.length++cur.toList.drop (off+(ys.take xs.length).length)).toArray t (0,0) f;intro j v hv;rw[cell_of_row _ g (off+j) _ _ _ M];simp only[List.getElem?_toArray];unfold d8 at hv;have D:(cur.toList.take off).length=off:=by rw[bK,Array.length_toList];omega
   rw[eK,fK (by rw[D];omega),D,bzC];by_cases k:j<(ys.take xs.length).length
   ·rw[gA k] at hv⊢;exact hv
   ·rw[fK (by omega)] at hv⊢;rw[aqM] at hv⊢;have B:(ys.take xs.length).length=min xs.length ys.length:=bK;rcases dE xs.length ys.length with Y|L
    ·rw[B,y8 (by omega)] at hv k;rw[fU (by omega)] at hv;cases hv
    ·rw[B,Nat.min_eq_right L] at hv k⊢;have x:ys.length+(j-ys.length)=j:=by omega
     rw[x] at hv;have:=u j v hv;rw[cell_of_row w g _ _ _ _ f] at this;rw[Array.getElem?_toList,<-this];congr 1;omega
  ·have:=OV (w:=w) (cur:=cur.toList) (cs:=ys.take xs.length) (t:=t) (g:=g) (off:=off) (n:=xs.length) (by simpa using f) (by rw[bK];omega) (by have x:=bK (i:=xs.length) (l:=ys);have W:cur.toList.length=cur.size:=Array.length_toList;omega);rw[eK];exact this
def FN{K:Act->World->Prop}{d s:Operand}{dT:TypeId}(n:o.op= .call { callee:= .builtin .copy,args:= #[d,s],argTypes:= #[dT,sT] })(k:IntKind)(e:TypeId)
  (u:P.underlying dT=some (.slice e))(t:(P.info? e).map (·.size)=some 1)
  (j:a.eval d= .slice dp dLen dCap)(p:a.eval s= .slice sp sLen sCap)(g off:Nat)(xs ys:List Int)(l:xs.length=dLen)(q:ys.length=sLen)
  (m:0<dLen->dp=some ⟨g,off,none⟩)(v:Cells k w g off xs)(r:Soft w g)(x:Rd k w sp ys)
  (h:∀w',Cells k w' g off (d8 xs ys)->Only g off xs.length w w'->K (a.put o.dst (goInt ((Nat.min sLen dLen:Nat):Int))) w'):o.wp P a w K Q:=by
 refine OW n e u t j p g off (xs.map (Value.int k)) (ys.map (Value.int k)) (by simpa using l) (by simpa using q) m v.vc r ?_ (ints_oneCell k ys) ?_
 ·intro z;obtain⟨b,y,rfl,_,i⟩:=x.at_ (by omega);exact⟨b,y,rfl,i.vc⟩
 ·intro w' c f;rw[OU] at c;rw[cH] at f;exact h w' c.cells f
def mK(m:o.guard=none){d s:Operand}{dT:TypeId}(n:o.op= .call { callee:= .builtin .copy,args:= #[d,s],argTypes:= #[dT,sT] })(k:IntKind)(e:TypeId)
  (u:P.underlying dT=some (.slice e))(t:(P.info? e).map (·.size)=some 1)
  (i:a.eval d= .slice dp dLen dCap)(p:a.eval s= .slice sp sLen sCap)(g off:Nat)(xs ys:List Int)(j:xs.length=dLen)(q:ys.length=sLen)
  (l:0<dLen->dp=some ⟨g,off,none⟩)(v:Cells k w g off xs)(r:Soft w g)(x:Rd k w sp ys)
  (h:∀w',Cells k w' g off (d8 xs ys)->Only g off xs.length w w'->wpList P ops Q rest (a.put o.dst (goInt ((Nat.min sLen dLen:Nat):Int))) w'):wpList P ops Q (o :: rest) a w:=
 wpList_plain m fun _ f=>FN n k e u t i p g off xs ys j q l v r x fun w' b c=>f _ _ (h w' b c)
def OX{K:Act->World->Prop}{E:Prop}(i:o.guard=none){d s:Operand}{dT:TypeId}(j:o.op= .call { callee:= .builtin .copy,args:= #[d,s],argTypes:= #[dT,sT] })(k:IntKind)(e:TypeId)
  (q:P.underlying dT=some (.slice e))(p:(P.info? e).map (·.size)=some 1)
  (b:a.eval d= .slice dp dLen dCap)(l:a.eval s= .slice sp sLen sCap)(g off:Nat)(xs ys:List Int)(c:xs.length=dLen)(m:ys.length=sLen)
  (f:0<dLen->dp=some ⟨g,off,none⟩)(t:Cells k w g off xs)(n:Soft w g)(u:Rd k w sp ys)
  (h:∀w',Cells k w' g off (d8 xs ys)->Only g off xs.length w w'->K (a.put o.dst (goInt ((Nat.min sLen dLen:Nat):Int))) w'):if Region.wanted o (yielded ops a.tmps)=true then Oper.wp P o a w K Q else E:=by
 have r:Region.wanted o (yielded ops a.tmps)=true:=by simp[Region.wanted,i]
 rw[if_pos r];exact FN j k e q p b l g off xs ys c m f t n u h
def OY(d:Nat)(t k e:TypeId)(i:TypeInfo)(j:Nat)(b:P.underlying t=some (.slice e))(hi:P.info? e=some i)
  (v:Value)(n:Nat)(xs:List Value)(h:w.ownsRow d e j v n xs)(c:Nat):(Builtin.append_ #[t,t] k #[v,.slice none 0 c]).run P w= .ok v w:=by
 rcases h.2 with ⟨rfl,rfl⟩|⟨g,l,m,rfl,_,_,f,_⟩
 ·simp[Builtin.append_,run_underlying b,sizeOf,typeInfo,hi,Builtin.lenOf,Builtin.firstCells]
 ·simp[Builtin.append_,run_underlying b,sizeOf,typeInfo,hi,Builtin.lenOf,Builtin.firstCells,f,storeCells]
def Src(w:World)(sp:Option Addr)(cs:List Value):Prop:=cs=[]∨∃b off,sp=some ⟨b,off,none⟩∧VC w b off cs
def OZ{b off:Nat}(h:VC w b off cs):∀j u,cs[j]? =some u->w.cell? ((⟨b,off,none⟩:Addr).add j)=some u:=by
 intro j u d;have:=h j u d;unfold Addr.add;split
 ·rename_i c;subst c;simpa using this
 ·exact this
def gM(S:o.guard=none){s x:Operand}(U:o.op= .call { callee:= .builtin .append,args:= #[s,x],argTypes:= #[t,t] })
  (e:TypeId)(z:Value)(f p:Nat)(D:P.underlying t=some (.slice e))(hi:(P.info? e).map (fun i=>(i.zero,i.size,i.bytes))=some (some z,f,p))(L:z.cells.size=f)(C:0<f)
  (g:Nat)(v:Value)(n:Nat)(xs:List Value)(W:a.eval s=v)(q:w.ownsRow g e f v n xs)
  (ys:List Value)(X:a.eval x= .slice sp m c)(B:ys.length=m*f)(Y:Src w sp ys)(V:∀u∈ys,u.oneCell'=true)
  (E:n+m<=9223372036854775807)(H:(n+m)*p<=140737488355328)(F:g<=w.1.size)
  (h:∀d w',w'.ownsRow g e f d (n+m) (xs++ys)->w.grownBy w' v.ownBlock->(d.ownBlock=v.ownBlock∨d.ownBlock=some w.1.size)->wpList P ops Q rest (a.put o.dst d) w'):
  wpList P ops Q (o :: rest) a w:=by
 obtain⟨i,A,J,I,G⟩:=info_parts hi
 have Z:∃d w',(Builtin.append_ #[t,t] o.type #[v,.slice sp m c]).run P w= .ok d w'∧w'.ownsRow g e f d (n+m) (xs++ys)∧w.grownBy w' v.ownBlock∧
   (d.ownBlock=v.ownBlock∨d.ownBlock=some w.1.size):=by
  rcases Y with rfl|⟨b,ac,rfl,R⟩
  ·have T:m=0:=by
    rcases iB m with r|r
    ·exact r
    ·have:=aqZ r C;simp at B;omega
   subst T;cases sp with
   |none=>exact⟨v,w,OY g t o.type e i f D A v n xs q c,by simpa using q,World.grownBy.refl w _,.inl rfl⟩
   |some M=>
    obtain⟨d,w',l,j,k,_,y⟩:=run_append_own_at (P:=P) w g t o.type e i z f p D A J I G L C v n xs q M 0 c [] B (by simp) (by simp) E H F;exact⟨d,w',l,j,k,y⟩
  ·obtain⟨d,w',l,j,k,_,y⟩:=run_append_own_at (P:=P) w g t o.type e i z f p D A J I G L C v n xs q ⟨b,ac,none⟩ m c ys B (OZ R) V E H F;exact⟨d,w',l,j,k,y⟩
 obtain⟨d,w',l,j,k,N⟩:=Z;refine wpList_plain S fun K O=> ?_;unfold Oper.wp execOp;simp only[U,resolve,invoke,builtin,Sem.run_bind,Sem.run_pure,Result.andThen_ok,bxC,fM,aqJ,W,X,l];exact O _ _ (h d w' j k N)
def FO(k:IntKind)(w:World)(b:Nat)(v:Value)(zs:List Int):Prop:=
 ∃A c,v= .slice A zs.length c∧zs.length<=c∧(zs=[]∨∃g,A=some ⟨g,0,none⟩∧b<=g∧Soft w g∧Cells k w g 0 zs)
def P0{k:IntKind}{e:TypeId}(h:w.ownsRow c e 1 v zs.length (zs.map (Value.int k))):FO k w c v zs:=by
 rcases h.2 with ⟨rfl,l⟩|⟨g,j,d,rfl,m,f,hn,_,p,n⟩
 ·have:zs=[]:=bX l;subst this;exact⟨none,0,rfl,aE,.inl rfl⟩
 ·refine⟨_,j,rfl,hn,.inr ⟨g,rfl,m,⟨d,e,f⟩,?_⟩⟩;refine VC.cells (fun i u b=> ?_);rw[cell_of_row w g (0+i) d e (0,0) f,bA,<-Array.getElem?_toList];rw[<-n,fC] at b;split at b
  ·exact b
  ·cases b
end
def aA:Int:=18446744073709551616
def eC(x:Int):Int:=x%18446744073709551616
def gY(x:Int):Int:=x/18446744073709551616
def jC(x y:Int):Int:=if x<y then 1 else 0
def AO(x:Int):eC x+aA*gY x=x:=by unfold eC gY aA;omega
def V0(x:Int):0<=eC x∧eC x<aA:=by unfold eC aA;omega
def sS{x:Int}(a:0<=x){m:Int}(h:x<aA*m):0<=gY x∧gY x<m:=by
 unfold gY;unfold aA at h;have b:x/18446744073709551616<m:=byH (by decide) (by rw[fD];exact h);omega
def FY(x y:Int):0<=jC x y∧jC x y<=1:=by unfold jC;split<;>decide
def AQ{x:Int}(a:0<=x)(b:x<aA)(c:0<=y)(d:y<=aA):eC (x-y)=x-y+aA*jC x y:=by
 unfold eC jC;unfold aA at *;split<;>omega
def wB(x y c:Int)(b:0<=x)(f:0<=y)(a:0<=c)(h:c<=1)(d:x<aA)(g:y<aA)(w:World):(callFunc 162 #[.int .u64 x,.int .u64 y,.int .u64 c]).run prog w=
  .ok (.value (.tuple #[.int .u64 (eC (x+y+c)),.int .u64 (gY (x+y+c))])) w:=by
 unfold eC gY;unfold aA at d g;obtain⟨x,rfl⟩:=j7 b;obtain⟨y,rfl⟩:=j7 f;obtain⟨c,rfl⟩:=j7 a;rw[run_callFunc_extern func162 (by kernel_rfl) (by kernel_rfl) (by kernel_rfl) (e:=add64Entry) (by kernel_rfl),run_add64 x y c (by omega) (by omega) (by omega) (by omega)];simp only[Result.andThen]
def PL(x y:Int)(a:0<=x)(c:0<=y)(b:x<aA)(d:y<aA)(w:World):(callFunc 162 #[.int .u64 x,.int .u64 y,.int .u64 0]).run prog w=
  .ok (.value (.tuple #[.int .u64 (eC (x+y)),.int .u64 (gY (x+y))])) w:=by
 simpa using wB x y 0 a c (aq5 0) (by decide) b d w
def PM(x c:Int)(d:0<=x)(b:0<=c)(a:c<=1)(e:x<aA)(w:World):(callFunc 162 #[.int .u64 x,.int .u64 0,.int .u64 c]).run prog w=
  .ok (.value (.tuple #[.int .u64 (eC (x+c)),.int .u64 (gY (x+c))])) w:=by
 simpa using wB x 0 c d (aq5 0) b a e (by unfold aA;decide) w
def wC(x y b:Int)(f:0<=x)(h:0<=y)(d:0<=b)(j:b<=1)(g:x<aA)(i:y<aA)(w:World):(callFunc 157 #[.int .u64 x,.int .u64 y,.int .u64 b]).run prog w=
  .ok (.value (.tuple #[.int .u64 (eC (x-y-b)),.int .u64 (jC x (y+b))])) w:=by
 unfold eC jC;unfold aA at g i;obtain⟨x,rfl⟩:=j7 f;obtain⟨y,rfl⟩:=j7 h;obtain⟨b,rfl⟩:=j7 d;have a:(((x+18446744073709551616-y-b)%18446744073709551616:Nat):Int)=((x:Int)-y-b)%18446744073709551616:=by omega
 have c:((if x<y+b then 1 else 0:Nat):Int)=if (x:Int)<y+b then 1 else 0:=by split<;>split<;>omega
 rw[<-a,<-c];rw[run_callFunc_extern func157 (by kernel_rfl) (by kernel_rfl) (by kernel_rfl) (e:=sub64Entry) (by kernel_rfl),run_sub64 x y b (by omega)];rfl
def PN(x y:Int)(a:0<=x)(c:0<=y)(b:x<aA)(d:y<aA)(w:World):(callFunc 157 #[.int .u64 x,.int .u64 y,.int .u64 0]).run prog w=
  .ok (.value (.tuple #[.int .u64 (eC (x-y)),.int .u64 (jC x y)])) w:=by
 simpa using wC x y 0 a c (aq5 0) (by decide) b d w
def PO(x c:Int)(d:0<=x)(b:0<=c)(a:c<=1)(e:x<aA)(w:World):(callFunc 157 #[.int .u64 x,.int .u64 0,.int .u64 c]).run prog w=
  .ok (.value (.tuple #[.int .u64 (eC (x-c)),.int .u64 (jC x c)])) w:=by
 simpa using wC x 0 c d (aq5 0) b a e (by unfold aA;decide) w
def PK(A:Option Addr)(zs:List Int)(c:Nat)(w:World)(k:Rd .u64 w A zs)(p:zs.length<=c)(r:zs.length*8<=281474976710656):
  Calls prog 123 #[.slice A zs.length c] w fun e w'=>e= .returned (.slice A (trimL zs).length c)∧w=w':=by
 go_enter func123,ntmps123;go_wp2;go_loop [3] (fun i=>∃n:Nat,n<=zs.length∧i= .int .i64 n∧∀j,n<=j->zs.getD j 0=0) (fun i=>(intOf i).toNat)
 case atStart=>exact⟨zs.length,aE,rfl,fun j g=>by simp[g]⟩
 case round=>
  obtain⟨n,hn,rfl,h⟩:=hrel;have a:=aB h;clear h;by_cases m:0<n
  ·obtain⟨b,s,rfl,o,f⟩:=k.at_ (by omega);have q:=f (n-1) (by omega);have l:=aB f;clear f;go_wp2
   ·have d:(zs[n-1]?.getD 0==0)=true:=by assumption
    go_round
    case rel=>
     refine⟨n-1,by omega,by go_num,fun j g=> ?_⟩;by_cases e:j=n-1
     ·subst e;simpa using d
     ·exact a.out j (by omega)
    case measure=>simp[intOf];omega
   ·have d:(zs[n-1]?.getD 0==0)=false:=by assumption
    go_ret;refine⟨?_,rfl⟩;have e:trimL zs=zs.take n:=FQ hn (.inr (by simpa using d)) a.out;rw[e,bK,y8 hn];rfl
  ·obtain rfl:n=0:=by omega
   go_wp2;go_ret;refine⟨?_,rfl⟩;have e:trimL zs=zs.take 0:=FQ (dC _) (.inl rfl) a.out;rw[e];rfl
def gC(A:Option Addr)(zs:List Int)(n c:Nat)(w:World)(hn:zs.length=n)(b:Rd .u64 w A zs)(a:n<=c)(d:n*8<=281474976710656):
  Calls prog 123 #[.slice A n c] w fun e w'=>e= .returned (.slice A (trimL zs).length c)∧w=w':=by
 subst hn;exact PK A zs c w b a (by omega)
def aQ:(0:Int)<aA:=by decide
def AM:(1:Int)<aA:=by decide
def n8(zs:List Int)(i j:Nat)(v:Int)(h:i≠j):(zs.set i v).getD j 0=zs.getD j 0:=by
 simp only[eE,lI h]
def AN{c:Int}(a:k<zs.length)(h:aF aA zs+c*aA^k=T):
  aF aA (zs.set k (eC (zs.getD k 0+y+c)))+gY (zs.getD k 0+y+c)*aA^(k+1)=T+aA^k*y:=by
 have e:=AO (zs.getD k 0+y+c);rw[nY _ _ _ _ a,<-h,gR];generalize eC (zs.getD k 0+y+c)=l at *;generalize gY (zs.getD k 0+y+c)=m at *;generalize zs.getD k 0=z at *;generalize aA^k=p at *;generalize aF aA zs=s at *;generalize aA=b at *;have d:p*(l+b*m)=p*(z+y+c):=by rw[e]
 grind
def FW{c:Int}(b:k<zs.length)(d:InR aA zs)(i:0<=y)(j:y<aA)(f:0<=c)(g:c<=1)(h:aF aA zs-c*aA^k=T):
  aF aA (zs.set k (eC (zs.getD k 0-y-c)))-jC (zs.getD k 0) (y+c)*aA^(k+1)=T-aA^k*y:=by
 have a:=d.getD aQ k;have e:=AQ a.1 a.2 (show 0<=y+c by omega) (show y+c<=aA by omega);rw[show zs.getD k 0-y-c=zs.getD k 0-(y+c) by omega,nY _ _ _ _ b,<-h,gR,e];generalize jC (zs.getD k 0) (y+c)=m;grind
def PG{c:Int}(b:InR aA zs)(f:0<=c)(g:c<=1)(h:aF aA zs+c*aA^zs.length=T)(e:T<aA^zs.length):aF aA zs=T:=by
 have d:=y9 aQ b;have a:c=0∨c=1:=by omega
 rcases a with rfl|rfl
 ·simpa using h
 ·omega
def PH{c:Int}(b:InR aA zs)(f:0<=c)(g:c<=1)(h:aF aA zs-c*aA^zs.length=T)(e:0<=T):aF aA zs=T:=by
 have d:=iO aQ b;have a:c=0∨c=1:=by omega
 rcases a with rfl|rfl
 ·simpa using h
 ·omega
def PI(g off:Nat)(xs:List Int)(J:Nat)(A:Option Addr)(ys:List Int)(W:Nat)(w:World)
  (hx:Cells .u64 w g off xs)(M:Soft w g)(af:xs.length<=J)(hb:xs.length*8<=281474976710656)(O:Rd .u64 w A ys)
  (s:∀b o,A=some ⟨b,o,none⟩->0<ys.length->b≠g)(ag:ys.length<=xs.length)(Y:InR aA xs)(Z:InR aA ys)(H:aF aA xs+aF aA ys<aA^xs.length):
  Calls prog 135 #[.slice (some ⟨g,off,none⟩) xs.length J,.slice A ys.length W] w fun e w'=>e= .returned (.tuple #[])∧
   ∃zs,zs.length=xs.length∧InR aA zs∧aF aA zs=aF aA xs+aF aA ys∧Cells .u64 w' g off zs∧Only g off xs.length w w':=by
 go_enter func135,ntmps135;go_wp2
 go_loopw [4,10] (fun t i wr=>∃(k:Nat) (zs:List Int) (c:Int),k<=ys.length∧i= .int .i64 k∧t= .int .u64 c∧0<=c∧c<=1∧zs.length=xs.length∧InR aA zs∧
   Hid (aF aA zs+c*aA^k=aF aA xs+aF aA (ys.take k))∧Cells .u64 wr g off zs∧Only g off xs.length w wr) (fun _ i _=>ys.length-(intOf i).toNat)
 case atStart=>exact⟨0,xs,0,dC _,rfl,rfl,by decide,by decide,rfl,Y,by simp[Hid],hx,Only.refl _ _ _ _⟩
 case round=>
  obtain⟨k,zs,c,hk,rfl,rfl,l,n,h,f,j,d,a⟩:=hrel;by_cases G:k<ys.length
  ·obtain⟨b,o,rfl,ae,P⟩:=(a.rd O s).at_ (by omega);have h1:=P k G;have X:=d k (by omega);have hf:=(a.soft M).free (off+k);have C:=f.getD aQ k;have T:=Z.getD aQ k;have u:=aB d;have HN:=aB s;have z:=aB a;have q:=AN (y:=ys.getD k 0) (show k<zs.length by omega) j.out;have N:=jV aA ys k G;generalize r:zs.getD k 0=x at *;generalize Q:ys.getD k 0=y at *;have S:=aB r;have ad:=aB Q;have B:=aB q;have R:=aB N;obtain⟨D,E⟩:=C;obtain⟨U,V⟩:=T;clear d P s a r Q q N;go_wp2_with (simp only[wB x y c D U l n E V]);go_roundw
   case rel=>
    have p:=V0 (x+y+c);have F:=sS (x:=x+y+c) (m:=2) (by omega) (by omega);refine⟨k+1,zs.set k (eC (x+y+c)),gY (x+y+c),by omega,by go_num,rfl,F.1,by omega,by simpa using h,f.set p.1 p.2 k,?_,u.out.set (by omega) _,z.out.set (by omega) _⟩;have:=B.out;have:=R.out;unfold Hid;omega
   case measure=>simp[intOf];omega
  ·obtain rfl:k=ys.length:=by omega
   rw[aq9] at j;clear O s;go_wp2
   go_loopw [4,7] (fun t i wr=>∃(k:Nat) (zs:List Int) (c:Int),k<=xs.length∧i= .int .i64 k∧t= .int .u64 c∧0<=c∧c<=1∧zs.length=xs.length∧InR aA zs∧
     Hid (aF aA zs+c*aA^k=aF aA xs+aF aA ys)∧Cells .u64 wr g off zs∧Only g off xs.length w wr) (fun _ i _=>xs.length-(intOf i).toNat)
   case atStart=>exact⟨ys.length,zs,c,by omega,rfl,rfl,l,n,h,f,j,d,a⟩
   case round=>
    clear l n h f j d a;obtain⟨k,zs,c,hk,rfl,rfl,l,n,h,f,j,d,a⟩:=hrel;have L:c=0∨k=xs.length->aF aA zs=aF aA xs+aF aA ys:=by
     rintro (rfl|rfl)
     ·simpa using j.out
     ·exact PG f l n (by rw[h];exact j.out) (by rw[h];exact H)
    have I:=aB L;have ac:=aB H;clear L H;by_cases K:c=0
    ·have v:=aB (I.out (.inl K));subst K;go_wp2;go_end0;exact⟨rfl,zs,h,f,v.out,d,a⟩
    ·obtain rfl:c=1:=by omega
     by_cases G:k<xs.length
     ·have X:=d k (by omega);have hf:=(a.soft M).free (off+k);have C:=f.getD aQ k;have u:=aB d;have z:=aB a;have q:=AN (y:=0) (show k<zs.length by omega) j.out;generalize r:zs.getD k 0=x at *;have S:=aB r;have B:=aB q;obtain⟨D,E⟩:=C;clear d a r q;go_wp2_with (simp only[PM x 1 D (by decide) (by decide) E]);go_roundw
      case rel=>
       have p:=V0 (x+1);have F:=sS (x:=x+1) (m:=2) (by omega) (by have:=AM;omega);refine⟨k+1,zs.set k (eC (x+1)),gY (x+1),by omega,by go_num,rfl,F.1,by omega,by simpa using h,f.set p.1 p.2 k,?_,u.out.set (by omega) _,z.out.set (by omega) _⟩;have:=B.out;unfold Hid;simpa using this
      case measure=>simp[intOf];omega
     ·obtain rfl:k=xs.length:=by omega
      have v:=aB (I.out (.inr rfl));go_wp2;go_end0;exact⟨rfl,zs,h,f,v.out,d,a⟩
def PJ(g off:Nat)(xs:List Int)(I:Nat)(A:Option Addr)(ys:List Int)(V:Nat)(w:World)
  (hx:Cells .u64 w g off xs)(L:Soft w g)(af:xs.length<=I)(hb:xs.length*8<=281474976710656)(O:Rd .u64 w A ys)
  (r:∀b o,A=some ⟨b,o,none⟩->0<ys.length->b≠g)(ag:ys.length<=xs.length)(X:InR aA xs)(Y:InR aA ys)(M:aF aA ys<=aF aA xs):
  Calls prog 163 #[.slice (some ⟨g,off,none⟩) xs.length I,.slice A ys.length V] w fun e w'=>e= .returned (.tuple #[])∧
   ∃zs,zs.length=xs.length∧InR aA zs∧aF aA zs=aF aA xs-aF aA ys∧Cells .u64 w' g off zs∧Only g off xs.length w w':=by
 go_enter func163,ntmps163;go_wp2
 go_loopw [4,10] (fun t i wr=>∃(k:Nat) (zs:List Int) (c:Int),k<=ys.length∧i= .int .i64 k∧t= .int .u64 c∧0<=c∧c<=1∧zs.length=xs.length∧InR aA zs∧
   Hid (aF aA zs-c*aA^k=aF aA xs-aF aA (ys.take k))∧Cells .u64 wr g off zs∧Only g off xs.length w wr) (fun _ i _=>ys.length-(intOf i).toNat)
 case atStart=>exact⟨0,xs,0,dC _,rfl,rfl,by decide,by decide,rfl,X,by simp[Hid],hx,Only.refl _ _ _ _⟩
 case round=>
  obtain⟨k,zs,c,hk,rfl,rfl,l,m,j,d,h,f,a⟩:=hrel;by_cases G:k<ys.length
  ·obtain⟨b,o,rfl,ae,P⟩:=(a.rd O r).at_ (by omega);have h1:=P k G;have W:=f k (by omega);have Z:=(a.soft L).free (off+k);have B:=d.getD aQ k;have E:=Y.getD aQ k;have s:=aB f;have HN:=aB r;have v:=aB a;have p:=FW (y:=ys.getD k 0) (show k<zs.length by omega) d E.1 E.2 l m h.out;have N:=jV aA ys k G;generalize q:zs.getD k 0=x at *;generalize Q:ys.getD k 0=y at *;have S:=aB q;have ad:=aB Q;have z:=aB p;have R:=aB N;obtain⟨C,D⟩:=B;obtain⟨T,U⟩:=E;clear f P r a q Q p N;go_wp2_with (simp only[wC x y c C T l m D U]);go_roundw
   case rel=>
    have n:=V0 (x-y-c);have F:=FY x (y+c);refine⟨k+1,zs.set k (eC (x-y-c)),jC x (y+c),by omega,by go_num,rfl,F.1,by omega,by simpa using j,d.set n.1 n.2 k,?_,s.out.set (by omega) _,v.out.set (by omega) _⟩;have:=z.out;have:=R.out;unfold Hid;omega
   case measure=>simp[intOf];omega
  ·obtain rfl:k=ys.length:=by omega
   rw[aq9] at h;clear O r;go_wp2
   go_loopw [4,7] (fun t i wr=>∃(k:Nat) (zs:List Int) (c:Int),k<=xs.length∧i= .int .i64 k∧t= .int .u64 c∧0<=c∧c<=1∧zs.length=xs.length∧InR aA zs∧
     Hid (aF aA zs-c*aA^k=aF aA xs-aF aA ys)∧Cells .u64 wr g off zs∧Only g off xs.length w wr) (fun _ i _=>xs.length-(intOf i).toNat)
   case atStart=>exact⟨ys.length,zs,c,by omega,rfl,rfl,l,m,j,d,h,f,a⟩
   case round=>
    clear l m j d h f a;obtain⟨k,zs,c,hk,rfl,rfl,l,m,j,d,h,f,a⟩:=hrel;have K:c=0∨k=xs.length->aF aA zs=aF aA xs-aF aA ys:=by
     rintro (rfl|rfl)
     ·simpa using h.out
     ·exact PH d l m (by rw[j];exact h.out) (by omega)
    have H:=aB K;have ac:=aB M;clear K M;by_cases J:c=0
    ·have u:=aB (H.out (.inl J));subst J;go_wp2;go_end0;exact⟨rfl,zs,j,d,u.out,f,a⟩
    ·obtain rfl:c=1:=by omega
     by_cases G:k<xs.length
     ·have W:=f k (by omega);have Z:=(a.soft L).free (off+k);have B:=d.getD aQ k;have s:=aB f;have v:=aB a;have p:=FW (y:=0) (show k<zs.length by omega) d (by decide) (by decide) (by decide) (by decide) h.out;generalize q:zs.getD k 0=x at *;have S:=aB q;have z:=aB p;obtain⟨C,D⟩:=B;clear f a q p;go_wp2_with (simp only[PO x 1 C (by decide) (by decide) D]);go_roundw
      case rel=>
       have n:=V0 (x-1);have F:=FY x 1;refine⟨k+1,zs.set k (eC (x-1)),jC x 1,by omega,by go_num,rfl,F.1,by omega,by simpa using j,d.set n.1 n.2 k,?_,s.out.set (by omega) _,v.out.set (by omega) _⟩;have:=z.out;unfold Hid;simpa using this
      case measure=>simp[intOf];omega
     ·obtain rfl:k=xs.length:=by omega
      have u:=aB (H.out (.inr rfl));go_wp2;go_end0;exact⟨rfl,zs,j,d,u.out,f,a⟩
def wA(g off n:Nat)(xs:List Int)(a:Nat)(A:Option Addr)(m:Nat)(ys:List Int)(c:Nat)(w:World)(hn:xs.length=n)(k:ys.length=m)
  (r:Cells .u64 w g off xs)(p:Soft w g)(i:n<=a)(h:n*8<=281474976710656)(s:Rd .u64 w A ys)
  (l:∀b o,A=some ⟨b,o,none⟩->0<m->b≠g)(j:m<=n)(d:InR aA xs)(f:InR aA ys)(q:aF aA xs+aF aA ys<aA^n):
  Calls prog 135 #[.slice (some ⟨g,off,none⟩) n a,.slice A m c] w fun e w'=>e= .returned (.tuple #[])∧
   ∃zs,zs.length=n∧InR aA zs∧aF aA zs=aF aA xs+aF aA ys∧Cells .u64 w' g off zs∧Only g off n w w':=by
 subst hn k;exact PI g off xs a A ys c w r p i h s l j d f q
def FX(g off n:Nat)(xs:List Int)(a:Nat)(A:Option Addr)(m:Nat)(ys:List Int)(c:Nat)(w:World)(hn:xs.length=n)(k:ys.length=m)
  (r:Cells .u64 w g off xs)(p:Soft w g)(i:n<=a)(h:n*8<=281474976710656)(s:Rd .u64 w A ys)
  (l:∀b o,A=some ⟨b,o,none⟩->0<m->b≠g)(j:m<=n)(d:InR aA xs)(f:InR aA ys)(q:aF aA ys<=aF aA xs):
  Calls prog 163 #[.slice (some ⟨g,off,none⟩) n a,.slice A m c] w fun e w'=>e= .returned (.tuple #[])∧
   ∃zs,zs.length=n∧InR aA zs∧aF aA zs=aF aA xs-aF aA ys∧Cells .u64 w' g off zs∧Only g off n w w':=by
 subst hn k;exact PJ g off xs a A ys c w r p i h s l j d f q
def BN:Nat:=18446744073709551616
def kU:(BN:Int)=aA:=rfl
def kN:2<=BN:=by decide
def dg(n:Nat):List Int:=jW BN n
def nl(n:Nat):Nat:=(dg n).length
def aK(n:Nat):(dg n).length=nl n:=rfl
def cU(n:Nat):aF aA (dg n)=n:=by rw[<-kU];exact AK BN n kN
def vV(n:Nat):Canon aA (dg n):=by rw[<-kU];exact FU BN n kN
def cI(n:Nat):InR aA (dg n):=(vV n).1
def FM(h:Canon aA zs):dg (aF aA zs).toNat=zs:=by
 unfold dg;rw[<-kU] at h⊢;exact PF kN h
def sR:dg 0=[]:=FT BN
def dO:nl 0=0:=by unfold nl;rw[sR];rfl
def oE(h:InR aA zs)(hv:aF aA zs=n):trimL zs=dg n:=by
 rw[<-FM (PA h),P3,hv,j9]
def vW(h:Canon aA zs)(hv:aF aA zs=n):zs=dg n:=by
 rw[<-FM h,hv,j9]
def iX(m:Nat):((BN^m:Nat):Int)=aA^m:=by rw[bx9,kU]
def cyD(n:Nat):n<BN^nl n:=by
 have h:=iO aQ (cI n);rw[cU,aK,<-iX] at h;omega
def cJ(h:n<BN^m):nl n<=m:=by
 rcases dE m (nl n) with a|a
 ·have c:dg n≠[]:=by intro e;rw[<-aK,e] at a;simp at a
  have b:=AJ AM (cI n) (vV n).2 c;rw[cU,aK,<-iX] at b;have d:BN^m<=BN^(nl n-1):=cO (by decide) (by omega);omega
 ·exact a
def AG(h:n≠0):BN^(nl n-1)<=n:=by
 have b:dg n≠[]:=by
  intro e;have:=cU n;rw[e] at this;have c:(n:Int)=0:=this.symm;omega
 have a:=AJ AM (cI n) (vV n).2 b;rw[cU,aK,<-iX] at a;omega
def gS(h:n≠0):0<nl n:=by
 rcases iB (nl n) with a|a
 ·have:=cyD n;rw[a] at this;simp at this;omega
 ·exact a
def p9(h:nl n=0):n=0:=by
 rcases iB n with a|a
 ·exact a
 ·have:=gS (n:=n) (by omega);omega
def cK(h:m<=n):nl m<=nl n:=cJ (jI h (cyD n))
def rK(m n:Nat):nl (m+n)<=max (nl m) (nl n)+1:=by
 refine cJ ?_;have a:=cyD m;have b:=cyD n;have c:BN^nl m<=BN^max (nl m) (nl n):=cO (by decide) (by omega);have d:BN^nl n<=BN^max (nl m) (nl n):=cO (by decide) (by omega);rw[dH];generalize BN^max (nl m) (nl n)=p at *;have:p*2<=p*BN:=eV _ kN;omega
def fI(m n:Nat):nl (m*n)<=nl m+nl n:=by
 rcases iB m with a|a
 ·subst a;rw[azW,dO];omega
 ·refine cJ ?_;rw[KF];exact byV (cyD m) (cyD n)
def mJ(a:n≠0)(h:n<BN):nl n=1:=by
 have b:=gS a;have c:=cJ (n:=n) (m:=1) (by simpa using h);omega
def pC(a:n≠0)(h:n<BN):dg n=[(n:Int)]:=by
 unfold dg;rw[jW,dif_neg (by have:=kN;omega),jJ h,azT h,FT]
def NatAt(w:World)(v:Value)(n:Nat):Prop:=∃A c,v= .slice A (nl n) c∧nl n<=c∧Rd .u64 w A (dg n)∧Old w A
def From(w:World)(vs:List Value)(v:Value):Prop:=∀b,v.ownBlock=some b->b<w.1.size->∃u∈vs,u.ownBlock=some b
def From.mem(h:v∈vs):From w vs v:=fun _ a _=>⟨v,h,a⟩
def From.new{off:Nat}(h:w.1.size<=g):From w vs (.slice (some ⟨g,off,s⟩) n c):=by
 intro b a d;have:g=b:=by simpa [Value.ownBlock] using a
 omega
def From.none:From w vs (.slice none n c):=by
 intro b a;simp[Value.ownBlock] at a
def From.trans{us:List Value}(h:From w1 us v)(g:w.1.size<=w1.1.size)(e:∀u∈us,From w vs u):From w vs v:=by
 intro b a c;obtain⟨u,d,f⟩:=h b a (by omega);exact e u d b f c
def From.same(h:From w vs (.slice A n c)):From w vs (.slice A n' c'):=by
 intro b d e;refine h b ?_ e;cases A with
 |none=>simp[Value.ownBlock] at d
 |some a=>simpa [Value.ownBlock] using d
def From.shift{b off f:Nat}{g:Option Nat}(h:From w vs (.slice (some ⟨b,off,s⟩) n c)):From w vs (.slice (some ⟨b,f,g⟩) n' c'):=by
 intro a d e;exact h a (by simpa [Value.ownBlock] using d) e
def From.ne(h:From w vs v)(b:g<w.1.size)(hn:∀u∈vs,u.ownBlock≠some g):v.ownBlock≠some g:=by
 intro e;obtain⟨u,c,a⟩:=h g e b;exact hn u c a
def From.ne2{a b:Value}(h:From w [a,b] v)(f:g<w.1.size)(d:a.ownBlock≠some g)(e:b.ownBlock≠some g):v.ownBlock≠some g:=
 h.ne f (fun u c=>by
  rcases List.mem_cons.1 c with rfl|c
  ·exact d
  ·rcases List.mem_cons.1 c with rfl|c
   ·exact e
   ·cases c)
def From.swap{a b:Value}(h:From w [a,b] v):From w [b,a] v:=by
 intro g e f;obtain⟨u,c,d⟩:=h g e f;refine⟨u,?_,d⟩;rcases List.mem_cons.1 c with rfl|c
 ·exact j8 _ (iC ..)
 ·rcases List.mem_cons.1 c with rfl|c
  ·exact iC ..
  ·cases c
def jK(w:World)(vs:List Value)(n:Nat)(e:Ending)(w':World):Prop:=∃v,e= .returned v∧NatAt w' v n∧From w vs v∧Below w.1.size w w'
def NatAt.be(h:NatAt w v n)(a:Below w.1.size w w'):NatAt w' v n:=by
 obtain⟨A,c,hv,b,e,d⟩:=h;exact⟨A,c,hv,b,e.be a,d.mono a.size⟩
def NatAt.drewN(h:NatAt w v n)(k:Nat):NatAt (w.drewN k) v n:=h
def NatAt.drew(h:NatAt w v n):NatAt w.drew v n:=h
def NatAt.nil(w:World):NatAt w (.slice none 0 0) 0:=⟨none,0,by rw[dO],by rw[dO];exact aE,by rw[sR];exact Rd.nil,Old.none⟩
def NatAt.of(d:Rd .u64 w A zs)(f:Canon aA zs)(hv:aF aA zs=n)(a:zs.length<=c)(b:Old w A):NatAt w (.slice A zs.length c) n:=by
 have e:=vW f hv;subst e;exact⟨A,c,rfl,a,d,b⟩
def NatAt.trim(b:Rd .u64 w A zs)(f:InR aA zs)(hv:aF aA zs=n)(g:zs.length<=c)(a:Old w A):NatAt w (.slice A (trimL zs).length c) n:=by
 have e:=oE f hv;have d:=(qI zs).1;refine⟨A,c,?_,?_,?_,a⟩
 ·rw[<-aK,<-e]
 ·rw[<-aK,<-e];have:=oF zs;omega
 ·rw[<-e,d];exact b.take _
def Only.belowOf{off:Nat}{c:World}(h:Only g off n a b)(d:Below c.1.size c a)(e:c.1.size<=g):Below c.1.size c b:=
 d.trans (h.be d.size e)
structure Sim(A B f t u1 u2 v1 v2 g:Int):Prop where
 hf:f=g*(u1*A-v1*B)
 ht:t=g*(v2*B-u2*A)
 hd:u1*v2-u2*v1=g
 hg:g=1∨g= -1
 ht0:0<=t
 htf:t<=f
 hu1:0<=u1
 hu2:0<=u2
 hv1:0<=v1
 hv2:1<=v2
 huv:u2<=v2
 hst:(v1=0∧u1=1∧u2=0∧v2=1)∨(u1<=v1∧1<=v1∧1<=u2)
def Sim.sum{A B f t u1 a b g:Int}(h:Sim A B f t u1 u2 a b g):b*f+a*t=A:=by
 have c:=h.hd;rcases h.hg with e|e<;>rw[h.hf,h.ht]<;>subst e<;>grind
def Sim.start{A B:Int}(a:0<=B)(h:B<=A):Sim A B A B 1 0 0 1 1:=
 ⟨by omega,by omega,by decide,.inl rfl,a,h,by decide,by decide,by decide,by decide,by decide,.inl ⟨rfl,rfl,rfl,rfl⟩⟩
structure Prev(A B u0 u1 v0 v1 g:Int):Prop where
 hd:u0*v1-u1*v0= -g
 hg:g=1∨g= -1
 hu0:0<=u0
 hu1:1<=u1
 hv0:1<=v0
 huv0:u0<=v0
 huv1:u1<=v1
 h1:v1<=g*(u1*A-v1*B)
 h0:v0+v1<=-g*(u0*A-v0*B)-g*(u1*A-v1*B)
def Sim.step{A B f t u1 b a g q:Int}(h:Sim A B f t u1 u2 b a g)(m:q=f/t)(u:a<=t)(v:b+a<=f-t):
  Sim A B t (f%t) u2 (u1+q*u2) a (b+q*a) (-g)∧(b=0∨Prev A B u1 u2 b a (-g))∧1<=q∧0<=q*u2∧0<=q*a∧u1+q*u2<=b+q*a∧b+q*a<=A:=by
 have n:0<t:=by have:=h.hv2;omega
 have k:1<=q:=by rw[m];exact Int.le_ediv_of_mul_le n (by have:=h.htf;omega)
 have p:f%t=f-q*t:=by rw[Int.emod_def,m,fD t]
 have r:0<=q*u2:=gB (by omega) h.hu2;have s:0<=q*a:=gB (by omega) (by have:=h.hv2;omega);have C:q*u2<=q*a:=gK h.huv (by omega);have z:1*a<=q*a:=eH k (by have:=h.hv2;omega);have o:u1+q*u2<=b+q*a:=by
  rcases h.hst with ⟨c,d,i,j⟩|⟨c,d,i⟩
  ·subst c d i j;omega
  ·omega
 have l:Sim A B t (f%t) u2 (u1+q*u2) a (b+q*a) (-g):=by
  refine⟨?_,?_,?_,?_,aqG _ (by omega),fP (aqF _ n),h.hu2,by have:=h.hu1;omega,by have:=h.hv2;omega,by have:=h.hv1;have:=h.hv2;omega,o,?_⟩
  ·have:=h.ht;rw[this];grind
  ·rw[p];have c:=h.hf;have d:=h.ht;rw[c,d];grind
  ·have:=h.hd;grind
  ·have:=h.hg;omega
  ·refine .inr ⟨h.huv,h.hv2,?_⟩;rcases h.hst with ⟨c,d,i,j⟩|⟨c,d,i⟩
   ·subst d;omega
   ·have:1*u2<=q*u2:=eH k h.hu2;have:=h.hu1;omega
 refine⟨l,?_,k,r,s,o,?_⟩
 ·rcases h.hst with ⟨c,d,i,j⟩|⟨c,d,i⟩
  ·exact .inl c
  ·refine .inr ⟨?_,?_,h.hu1,i,d,c,h.huv,?_,?_⟩
   ·have:=h.hd;omega
   ·have:=h.hg;omega
   ·have:=h.ht;have e: -g*(u2*A-a*B)=t:=by rw[this];grind
    omega
   ·have w: - -g*(u1*A-b*B)=f:=by rw[h.hf];grind
    have e: -g*(u2*A-a*B)=t:=by rw[h.ht];grind
    omega
 ·have D:=l.sum;have x:(b+q*a)*1<=(b+q*a)*t:=gK (by omega) (by have:=h.hv1;omega);have y:0<=a*(f%t):=gB (by have:=h.hv2;omega) l.ht0;omega
def Sim.room{A B f t u1 a b g:Int}(h:Sim A B f t u1 u2 a b g):(b<=t->a+b<=A)∧a<=b*f+a*t+a:=by
 refine⟨fun c=> ?_,?_⟩
 ·have i:=h.sum;have d:b*1<=b*f:=gK (by have:=h.hv2;have:=h.htf;omega) (by have:=h.hv2;omega);have e:a*1<=a*t:=gK (by have:=h.hv2;omega) h.hv1;omega
 ·have d:0<=b*f:=gB (by have:=h.hv2;omega) (by have:=h.ht0;have:=h.htf;omega);have e:0<=a*t:=gB h.hv1 h.ht0;omega
structure Leh(a b u0 u1 v0 v1:Nat)(odd:Bool)(na nb:Nat):Prop where
 hle:nb<=na
 ha:a=v1*na+v0*nb
 hb:b=u1*na+u0*nb
 h0:1<=v0
 h1:1<=v1
 h2:1<=u1
 hna:(na:Int)=(if odd then -1 else 1)*((v0:Int)*b-u0*a)
 hnb:(nb:Int)=(if odd then -1 else 1)*((u1:Int)*a-v1*b)
def Leh.small{a b e f d:Nat}{g:Bool}(h:Leh a b u0 u1 e f g c d):c+d<=a∧c<=b:=by
 have i:1*c<=f*c:=dK _ h.h1;have j:1*d<=e*d:=dK _ h.h0;have k:1*c<=u1*c:=dK _ h.h2;have:=h.ha;have:=h.hb;omega
def Leh.gcd{a b l d:Nat}{m:Bool}(h:Leh a b u0 u1 k l m c d):Nat.gcd a b=Nat.gcd c d:=by
 refine Nat.dvd_antisymm ?_ ?_
 ·have f:=aqX a b;have g:=azU a b;have i:((Nat.gcd a b:Nat):Int)∣(a:Int):=Int.natCast_dvd_natCast.2 f;have j:((Nat.gcd a b:Nat):Int)∣(b:Int):=Int.natCast_dvd_natCast.2 g;refine Nat.dvd_gcd (Int.natCast_dvd_natCast.1 ?_) (Int.natCast_dvd_natCast.1 ?_)
  ·rw[h.hna];exact bxJ (Int.dvd_sub (bxJ j) (bxJ i))
  ·rw[h.hnb];exact bxJ (Int.dvd_sub (bxJ i) (bxJ j))
 ·have f:=aqX c d;have g:=azU c d;refine Nat.dvd_gcd ?_ ?_
  ·have e:=h.ha;have:Nat.gcd c d∣l*c+k*d:=Nat.dvd_add (bzE f _) (bzE g _);rwa [<-e] at this
  ·have e:=h.hb;have:Nat.gcd c d∣u1*c+u0*d:=Nat.dvd_add (bzE f _) (bzE g _);rwa [<-e] at this
def FL{u v a b P:Int}(g:0<=u)(h:u<=v)(c:0<=a)(k:a<P)(f:0<=b)(l:b<P):u*a-v*b<=v*P-v∧v*b-u*a<=v*P-v:=by
 have d:u*a<=v*(P-1):=Int.mul_le_mul h (by omega) c (by omega);have e:v*b<=v*(P-1):=gK (by omega) (by omega);have i:0<=u*a:=gB g c;have j:0<=v*b:=gB (by omega) f;rw[Int.mul_sub,bx7] at d e;omega
def OQ{d A P:Nat}{t:Bool}(h:Prev A B u0 u1 d c (if t then -1 else 1))(J:i<P)(K:j<P):
  ∃C D,Leh (A*P+i) (B*P+j) u0 u1 d c t C D:=by
 obtain⟨g,r⟩:∃g:Int,g=if t then -1 else 1:=⟨_,rfl⟩;rw[<-r] at h;obtain⟨a,n⟩:∃a:Int,a=A*P+i:=⟨_,rfl⟩;obtain⟨b,o⟩:∃b:Int,b=B*P+j:=⟨_,rfl⟩;have I:(0:Int)<P:=by omega
 have Q:=FL (u:=u1) (v:=c) (a:=i) (b:=j) (P:=P) (by omega) h.huv1 (by omega) (by omega) (by omega) (by omega);have O:=FL (u:=u0) (v:=d) (a:=i) (b:=j) (P:=P) (by omega) h.huv0 (by omega) (by omega) (by omega) (by omega);have N:(1:Int)<=c:=by have:=h.hu1;have:=h.huv1;omega
 have M:=h.hv0;obtain⟨k,p⟩:∃k:Int,k=g*(d*b-u0*a):=⟨_,rfl⟩;obtain⟨f,q⟩:∃f:Int,f=g*(u1*a-c*b):=⟨_,rfl⟩;obtain⟨m,x⟩:∃m:Int,m=g*(d*B-u0*A):=⟨_,rfl⟩;obtain⟨l,s⟩:∃l:Int,l=g*(u1*A-c*B):=⟨_,rfl⟩;have F:k=m*P+g*(d*j-u0*i):=by rw[p,x,n,o];grind
 have G:f=l*P+g*(u1*i-c*j):=by rw[q,s,n,o];grind
 have z:(c:Int)<=l:=by have:=h.h1;rw[<-s] at this;exact this
 have y:(d:Int)+c<=m-l:=by
  have:=h.h0;have e: -g*((u0:Int)*A-d*B)=m:=by rw[x];grind
  rw[e,<-s] at this;exact this
 have R:(c:Int)*P<=l*P:=eH z (by omega);have E:((d:Int)+c)*P<=(m-l)*P:=eH y (by omega);rw[azG,Int.sub_mul] at E;have w:0<=f:=by
  rcases h.hg with e|e<;>subst e<;>omega
 have H:f<=k:=by
  rcases h.hg with e|e<;>subst e<;>omega
 have L:=h.hd;refine⟨k.toNat,f.toNat,?_,?_,?_,by omega,by omega,by have:=h.hu1;omega,?_,?_⟩
 ·omega
 ·have:((A*P+i:Nat):Int)=((c*k.toNat+d*f.toNat:Nat):Int):=by
   push_cast;rw[bxW (by omega),bxW w,<-n,p,q];rcases h.hg with e|e<;>subst e<;>grind
  exact Int.ofNat.inj this
 ·have:((B*P+j:Nat):Int)=((u1*k.toNat+u0*f.toNat:Nat):Int):=by
   push_cast;rw[bxW (by omega),bxW w,<-o,p,q];rcases h.hg with e|e<;>subst e<;>grind
  exact Int.ofNat.inj this
 ·rw[bxW (by omega),p,r];push_cast;rw[n,o]
 ·rw[bxW (by omega),q,r];push_cast;rw[n,o]
/-! The binary method -/
def OR(a:x%2=1):Nat.Coprime 2 x:=by
 show Nat.gcd 2 x=1
 rw[Nat.gcd_rec,a];rfl
def vT{y:Nat}(a:x%2=1)(k:Nat):Nat.gcd x (2^k*y)=Nat.gcd x y:=
 Nat.Coprime.gcd_mul_left_cancel_right y (Nat.Coprime.pow_left k (OR a))
def Tz(x k:Nat):Prop:=∃m,x=2^k*(2*m+1)
def vU(a:x≠0)(h:x<BN):Tz x (Lib.ctz 64 x)∧Lib.ctz 64 x<64:=by
 unfold Lib.ctz;rw[if_neg a];obtain⟨m,c,b⟩:=Lib.ctzFrom_spec 64 x (by omega) h;exact⟨⟨m,c⟩,b⟩
def Tz.bits(h:Tz x k):x.testBit k=true∧∀t,t<k->x.testBit t=false:=by
 obtain⟨m,rfl⟩:=h;refine⟨?_,fun t a=> ?_⟩
 ·rw[Nat.testBit_two_pow_mul];simp[Nat.testBit_zero]
 ·rw[Nat.testBit_two_pow_mul];simp;omega
def Tz.or{y z:Nat}(d:Tz x i)(e:Tz y j)(f:Tz z k)(h:z=x ||| y):k=min i j:=by
 obtain⟨g,l⟩:=d.bits;obtain⟨m,n⟩:=e.bits;obtain⟨o,z2⟩:=f.bits;have a:∀t,z.testBit t=(x.testBit t||y.testBit t):=fun t=>by rw[h,Nat.testBit_or]
 rcases bzH k (min i j) with b|b|b
 ·have:=a k;rw[o,l k (by omega),n k (by omega)] at this;simp at this
 ·exact b
 ·rcases Nat.le_total i j with c|c
  ·have:=a i;rw[z2 i (by omega),g] at this;simp at this
  ·have:=a j;rw[z2 j (by omega),m] at this;simp at this
def Tz.gcd{y a:Nat}(e:Tz y j)(c:x=2^i*a)(b:a%2=1):2^min i j*Nat.gcd a y=Nat.gcd x y:=by
 obtain⟨n,rfl⟩:=e;rw[vT b];subst c;rcases Nat.le_total i j with h|h
 ·obtain⟨d,rfl⟩:∃d,j=i+d:=⟨j-i,by omega⟩;rw[y8 h,KF,iW,Nat.gcd_mul_left,vT b]
 ·obtain⟨d,rfl⟩:∃d,i=j+d:=⟨i-j,by omega⟩;rw[Nat.min_eq_right h,KF,iW,Nat.gcd_mul_left,azD (2^d*a),vT (by omega),azD]
def gZ:(Tryz.prog.info? 119).map (fun i=>(i.zero,i.size,i.bytes))=some (some (.int .u64 0),1,8):=by kernel_rfl
def V5:(Tryz.prog.info? 119).map (·.size)=some 1:=by kernel_rfl
def sX(n:Nat)(hn:n<BN)(w:World):Calls prog 91 #[.int .u64 n] w (jK w [] n):=by
 by_cases a:n=0
 ·subst a;go_enter func91,ntmps91;go_wp2;go_ret;exact⟨_,rfl,NatAt.nil _,From.none,aG _ _⟩
 ·have c:((n:Int)==0)=false:=by simp;omega
  go_enter func91,ntmps91;go_wp2;go_ret;refine⟨_,rfl,⟨_,1,by rw[mJ a hn];rfl,by rw[mJ a hn];exact aE,?_,Old.mk (by simp)⟩,From.new aE,(aG _ _).alloc aE _⟩;rw[pC a hn];refine Rd.mk (by simp) ?_;intro i b;obtain rfl:i=0:=by simpa using b
  simp[go_sem]
def bZ(x y:Int):Int:=if x<y then -1 else if y<x then 1 else 0
def jL{x:Int}(h:x<y):bZ x y= -1:=by unfold bZ;rw[if_pos h]
def mO{x:Int}(h:y<x):bZ x y=1:=by unfold bZ;rw[if_neg (by omega),if_pos h]
def wE(x:Int):bZ x x=0:=by unfold bZ;rw[if_neg (by omega),if_neg (by omega)]
def kJ(x y:Int):(x<y∧bZ x y= -1)∨(x=y∧bZ x y=0)∨(y<x∧bZ x y=1):=by
 rcases aqL x y with h|h|h
 ·exact .inl ⟨h,jL h⟩
 ·subst h;exact .inr (.inl ⟨rfl,wE x⟩)
 ·exact .inr (.inr ⟨h,mO h⟩)
def G2(x y:Int)(w:World):Calls prog 151 #[.int .i64 x,.int .i64 y] w fun e w'=>e= .returned (.int .i64 (bZ x y))∧w=w':=by
 rcases kJ x y with ⟨a,e⟩|⟨a,e⟩|⟨a,e⟩
 ·rw[e];clear e;go_enter func151,ntmps151;go_wp2;go_ret;exact⟨rfl,rfl⟩
 ·rw[e];clear e;subst a;go_enter func151,ntmps151;go_wp2;go_ret;exact⟨rfl,rfl⟩
 ·rw[e];clear e;have b:¬x<y:=by omega
  go_enter func151,ntmps151;go_wp2;go_ret;exact⟨rfl,rfl⟩
def QA(x y:Int)(w:World):Calls prog 152 #[.int .u64 x,.int .u64 y] w fun e w'=>e= .returned (.int .i64 (bZ x y))∧w=w':=by
 rcases kJ x y with ⟨a,e⟩|⟨a,e⟩|⟨a,e⟩
 ·rw[e];clear e;go_enter func152,ntmps152;go_wp2;go_ret;exact⟨rfl,rfl⟩
 ·rw[e];clear e;subst a;go_enter func152,ntmps152;go_wp2;go_ret;exact⟨rfl,rfl⟩
 ·rw[e];clear e;have b:¬x<y:=by omega
  go_enter func152,ntmps152;go_wp2;go_ret;exact⟨rfl,rfl⟩
def G3(e:InR aA xs)(f:InR aA ys)(h:xs.length=ys.length)(d:k<xs.length)(c:xs.drop (k+1)=ys.drop (k+1))
  (i:xs.getD k 0<ys.getD k 0):aF aA xs<aF aA ys:=by
 rw[gF aA xs k (by omega),gF aA ys k (by omega),nD aA xs k d,nD aA ys k (by omega),c];have a:=iO aQ (e.take k);have g:=y9 aQ (f.take k);rw[bK,y8 (by omega)] at a
 have b:aA^k*(xs.getD k 0+aA*aF aA (ys.drop (k+1))+1)<=aA^k*(ys.getD k 0+aA*aF aA (ys.drop (k+1))):=
  gK (by omega) (fP (nW aQ k))
 rw[bx6 _ _ 1,bx7] at b;omega
def eO(w:World)(n:Int)(e:Ending)(w':World):Prop:=e= .returned (.int .i64 n)∧Below w.1.size w w'
def hO(x y:Nat)(Q R:Value)(w:World)(hx:NatAt w Q x)(hy:NatAt w R y)(bx:nl x<=17592186044416)(bY:nl y<=17592186044416):
  Calls prog 118 #[Q,R] w (eO w (bZ x y)):=by
 obtain⟨A,c,rfl,hc,ad,_⟩:=hx;obtain⟨B,d,rfl,hd,ae,_⟩:=hy;rcases bzH (nl x) (nl y) with D|D|D
 ·have C:(nl x:Int)<nl y:=by omega
  have G:((nl x:Int) != (nl y:Int))=true:=by simp;omega
  have X:x<y:=by
   rcases dE x y with h|h
   ·exact h
   ·have:=cK h;omega
  go_enter func118,ntmps118;go_wp2_with fail;refine(G2 _ _ _).mono ?_;rintro e w' ⟨rfl,rfl⟩;go_wp2;go_ret;exact⟨by rw[jL C,jL (show(x:Int)<y by omega)];rfl,aG _ _⟩
 ·have G:((nl x:Int) != (nl y:Int))=false:=by simp;omega
  have H:=cI x;have I:=cI y;have v:=cU x;have z:=cU y;have t:=aK x;have u:=aK y;generalize dg x=f at *;generalize dg y=g at *;generalize nl x=n at *;generalize nl y=m at *;subst D;have E:=aB v;have F:=aB z;have k:=aB t;have l:=aB u;clear v z t u;go_enter func118,ntmps118;go_wp2;go_loopw [5] (fun i wr=>∃q:Int, -1<=q∧q<n∧i= .int .i64 q∧Hid (f.drop (q+1).toNat=g.drop (q+1).toNat)∧Below w.1.size w wr) (fun i _=>(intOf i+1).toNat)
  case atStart=>exact⟨(n:Int)-1,by omega,by omega,rfl,by
   have Z:=k.out;have h2:=l.out;rw[show((n:Int)-1+1).toNat=n by omega];unfold Hid;rw[gO (by omega),gO (by omega)],aG _ _⟩
  case round=>
   obtain⟨q,ag,ah,rfl,s,r⟩:=hrel;by_cases Y:0<=q
   ·obtain⟨j,rfl⟩:=j7 Y;obtain⟨b,ai,rfl,hb,K⟩:=(ad.be r).at_ (by have:=k.out;omega);obtain⟨b',aj,rfl,af,L⟩:=(ae.be r).at_ (by have:=l.out;omega);have Z:=K j (by have:=k.out;omega);have h2:=L j (by have:=l.out;omega);clear K L;have P:((j:Int)+1).toNat=j+1:=by omega
    rw[P] at s;have N:=fun (h:f.getD j 0<g.getD j 0)=>G3 H I (by have:=k.out;have:=l.out;omega) (by have:=k.out;omega) s.out h;have O:=fun (h:g.getD j 0<f.getD j 0)=>G3 I H (by have:=k.out;have:=l.out;omega) (by have:=l.out;omega) s.out.symm h;have M:f.getD j 0=g.getD j 0->f.drop j=g.drop j:=fun h=>by
     have t:j<f.length:=by have:=k.out;omega
     have u:j<g.length:=by have:=l.out;omega
     rw[j5 t,j5 u,s.out];rw[eE,eE,aR t,aR u] at h;simp only[Option.getD_some] at h;rw[h]
    generalize f.getD j 0=a at *;generalize g.getD j 0=p at *;have V:=aB N;have W:=aB O;have T:=aB M;clear N O M P;by_cases o:a=p
    ·have ac:(a != p)=false:=by simp[o]
     have U:=aB (T.out o);subst o;go_wp2;go_quiet (fail);go_wp2;go_roundw
     case rel=>exact⟨(j:Int)-1,by omega,by omega,rfl,by
      rw[show((j:Int)-1+1).toNat=j by omega];exact U,eN r _⟩
     case measure=>simp[intOf]
    ·have ac:(a != p)=true:=by simp[o]
     have J:bZ a p=bZ x y:=by
      have v:=E.out;have z:=F.out;rcases aqL a p with h|h|h
      ·have:=V.out h;rw[jL h,jL (by omega)]
      ·exact absurd h o
      ·have:=W.out h;rw[mO h,mO (by omega)]
     have S:=aB J;clear J o;go_wp2;go_quiet (fail);go_wp2;go_quiet ((go_at_call 152;exact FP (QA _ _ _)));go_wp2;go_ret;exact⟨by rw[<-S.out];rfl,eN (eN r _) _⟩
   ·obtain rfl:q= -1:=by omega
    go_wp2;go_ret;refine⟨?_,r⟩;have v:=E.out;have z:=F.out;have e:f=g:=by simpa using s.out
    rw[show(x:Int)=y by rw[<-v,<-z,e],wE];rfl
 ·have C:(nl y:Int)<nl x:=by omega
  have G:((nl x:Int) != (nl y:Int))=true:=by simp;omega
  have X:y<x:=by
   rcases dE y x with h|h
   ·exact h
   ·have:=cK h;omega
  go_enter func118,ntmps118;go_wp2_with fail;refine(G2 _ _ _).mono ?_;rintro e w' ⟨rfl,rfl⟩;go_wp2;go_ret;exact⟨by rw[mO C,mO (show(y:Int)<x by omega)];rfl,aG _ _⟩
def Q6(w:World)(zs:List Int)(e:Ending)(w':World):Prop:=∃v,e= .returned v∧FO .u64 w' w.1.size v zs∧Below w.1.size w w'
def Rd.src{k:IntKind}(h:Rd k w A zs):Src w A (zs.map (Value.int k)):=by
 rcases h with rfl|⟨b,c,rfl,_,a⟩
 ·exact .inl rfl
 ·exact .inr ⟨b,c,rfl,a.vc⟩
def AT(w:World)(e:TypeId)(a:Nat):(w.alloc (.cells #[] e)).ownsRow w.1.size e a (.slice (some ⟨w.1.size,0,none⟩) 0 0) 0 []:=
 ⟨by simp,.inr ⟨w.1.size,0,#[],rfl,aE,heap_alloc_new w _,aE,dC _,by simp,by simp⟩⟩
def Q7(A:Option Addr)(zs:List Int)(c:Nat)(w:World)(b:Rd .u64 w A zs)(n:zs.length*8<=140737488355328):
  Calls prog 119 #[.slice A zs.length c] w (Q6 w zs):=by
 cases A with
 |none=>
  have d:zs=[]:=by
   rcases b with h|⟨_,_,h,_⟩
   ·exact h
   ·cases h
  subst d;have j:∀w:World,(binOp .eql 58 (.slice none 0 c) (.slice none 0 0)).run prog w= .ok (.bool true) w:=fun w=>Lib.run_eql_slice_nil w _ 119 none 0 c 0 0 underlying58;go_enter func119,ntmps119;go_wp2;go_ret;exact⟨_,rfl,⟨none,0,rfl,aE,.inl rfl⟩,aG _ _⟩
 |some a=>
  have j:∀w:World,(binOp .eql 58 (.slice (some a) zs.length c) (.slice none 0 0)).run prog w= .ok (.bool false) w:=fun w=>Lib.run_eql_slice_nil w _ 119 (some a) zs.length c 0 0 underlying58;go_enter func119,ntmps119;have k:Src (w.alloc (.cells #[] 119)) (some a) (zs.map (Value.int .u64)):=(b.be ((aG _ _).alloc aE _)).src;have i:=AT w 119 1;go_wp2_with (at_builtin;refine gM rfl rfl 119 _ 1 8 underlying58 gZ rfl (by decide) w.1.size (.slice (some ⟨w.1.size,0,none⟩) 0 0) 0 [] rfl i (zs.map (Value.int .u64)) rfl (by simp) k (ints_oneCell _ _) (by omega) (by omega) (by simp) ?_;intro l o g f m);go_ret;refine⟨l,rfl,P0 (e:=119) (by simpa using g),?_⟩;exact((aG w.1.size w).alloc aE _).grown f (by simp) (by simp[Value.ownBlock])
def mN(n:Nat)(ys:List Int)(h:ys.length<=n):aF aA (d8 (List.replicate n 0) ys)=aF aA ys:=by
 unfold d8;rw[dB,cZ h,bxL,kV,mL];simp
def sW(a:InR aA xs)(b:InR aA ys):InR aA (d8 xs ys):=(b.take _).append (a.drop _)
def G1{a b:Int}(d:a<aA^n)(e:b<aA^n):a+b<aA^(n+1):=by
 rw[gR];have c:=nW aQ n;have:aA^n*2<=aA^n*aA:=gK (by decide) (by omega);omega
def rP(x y:Nat)(I J:Value)(w:World)(R:NatAt w I x)(S:NatAt w J y)(X:nl x<=17592186044415)(W:nl y<=17592186044415):
  Calls prog 133 #[I,J] w (jK w [I,J] (x+y)):=by
 obtain⟨A,c,rfl,N,t,P⟩:=R;obtain⟨B,d,rfl,O,u,Q⟩:=S;by_cases Y:nl x<nl y
 ·by_cases D:nl x=0
  ·obtain rfl:=p9 D;rw[bA];have z:((nl 0:Nat):Int)<nl y:=by omega
   have C:(((nl 0:Nat):Int)==0)=true:=by simp[dO]
   go_enter func133,ntmps133;go_wp2;go_ret;exact⟨_,rfl,⟨B,d,rfl,O,u,Q⟩,From.mem (by simp),aG _ _⟩
  ·have z:((nl x:Nat):Int)<nl y:=by omega
   have C:(((nl x:Nat):Int)==0)=false:=by simp;omega
   go_enter func133,ntmps133
   go_wp2_with (first
    |(at_make;refine kG rfl rfl .u64 119 8 underlying58 gZ (nl y+1) rfl rfl (by omega) (by omega) (by omega) (by omega) ?_;intro U H p E k)
    |(with_reducible refine mK rfl rfl .u64 119 underlying58 V5 rfl rfl w.1.size 0 (List.replicate (nl y+1) 0) (dg y) (by simp) rfl (fun _=>rfl) E p (u.be k) ?_;intro r F a))
   rw[dB] at a;have l:Below w.1.size w r:=a.belowOf k aE;refine(wA w.1.size 0 (nl y+1) _ (nl y+1) A (nl x) (dg x) c r (by rw[lN];simp) rfl F (a.soft p) aE (by omega) (t.be l) ?hn (by omega) (sW (InR.replicate aQ _) (cI y)) (cI x) ?hv).mono ?_
   case hn=>
    rintro b o rfl h;obtain⟨L,T,e,M,_⟩:=t.at_ h;injection e with e;injection e;omega
   case hv=>
    rw[mN _ _ (by rw[aK];omega)];have i:=iO aQ (cI y);have j:=iO aQ (cI x);rw[aK] at i j;exact G1 i (Int.lt_of_lt_of_le j (vZ (by decide) (by omega)))
   rintro e s ⟨rfl,K,q,G,hv,m,n⟩;rw[mN _ _ (by rw[aK];omega),cU,cU] at hv;have v:=aB hv;have g:=aB q;clear hv q;have f:w.1.size<s.1.size:=aZ H (aH a.grown.size n.grown.size);go_wp2_with fail;refine(gC _ K (nl y+1) (nl y+1) s g.out (Rd.mk f m) aE (by omega)).mono ?_;rintro e V ⟨rfl,rfl⟩;go_wp2;go_ret;exact⟨_,rfl,NatAt.trim (Rd.mk f m) G (by rw[v.out];omega) (by rw[g.out];exact aE) (Old.mk f),From.new aE,n.belowOf l aE⟩
 ·by_cases D:nl y=0
  ·obtain rfl:=p9 D;rw[gQ];have z:¬((nl x:Nat):Int)<((nl 0:Nat):Int):=by omega
   have C:(((nl 0:Nat):Int)==0)=true:=by simp[dO]
   go_enter func133,ntmps133;go_wp2;go_ret;exact⟨_,rfl,⟨A,c,rfl,N,t,P⟩,From.mem (by simp),aG _ _⟩
  ·have z:¬((nl x:Nat):Int)<nl y:=by omega
   have C:(((nl y:Nat):Int)==0)=false:=by simp;omega
   go_enter func133,ntmps133
   go_wp2_with (first
    |(at_make;refine kG rfl rfl .u64 119 8 underlying58 gZ (nl x+1) rfl rfl (by omega) (by omega) (by omega) (by omega) ?_;intro U H p E k)
    |(with_reducible refine mK rfl rfl .u64 119 underlying58 V5 rfl rfl w.1.size 0 (List.replicate (nl x+1) 0) (dg x) (by simp) rfl (fun _=>rfl) E p (t.be k) ?_;intro r F a))
   rw[dB] at a;have l:Below w.1.size w r:=a.belowOf k aE;refine(wA w.1.size 0 (nl x+1) _ (nl x+1) B (nl y) (dg y) d r (by rw[lN];simp) rfl F (a.soft p) aE (by omega) (u.be l) ?hn (by omega) (sW (InR.replicate aQ _) (cI x)) (cI y) ?hv).mono ?_
   case hn=>
    rintro b o rfl h;obtain⟨L,T,e,M,_⟩:=u.at_ h;injection e with e;injection e;omega
   case hv=>
    rw[mN _ _ (by rw[aK];omega)];have i:=iO aQ (cI x);have j:=iO aQ (cI y);rw[aK] at i j;exact G1 i (Int.lt_of_lt_of_le j (vZ (by decide) (by omega)))
   rintro e s ⟨rfl,K,q,G,hv,m,n⟩;rw[mN _ _ (by rw[aK];omega),cU,cU] at hv;have v:=aB hv;have g:=aB q;clear hv q;have f:w.1.size<s.1.size:=aZ H (aH a.grown.size n.grown.size);go_wp2_with fail;refine(gC _ K (nl x+1) (nl x+1) s g.out (Rd.mk f m) aE (by omega)).mono ?_;rintro e V ⟨rfl,rfl⟩;go_wp2;go_ret;exact⟨_,rfl,NatAt.trim (Rd.mk f m) G (by rw[v.out];omega) (by rw[g.out];exact aE) (Old.mk f),From.new aE,n.belowOf l aE⟩
def qM(x y:Nat)(j k:Value)(w:World)(K:NatAt w j x)(L:NatAt w k y)(R:nl x<=17592186044415)(H:y<=x):
  Calls prog 134 #[j,k] w (jK w [j,k] (x-y)):=by
 obtain⟨A,c,rfl,F,s,J⟩:=K;obtain⟨B,d,rfl,T,t,U⟩:=L;have I:=cK H;by_cases E:nl y=0
 ·obtain rfl:=p9 E;have D:(((nl 0:Nat):Int)==0)=true:=by simp[dO]
  go_enter func134,ntmps134;go_wp2;go_ret;exact⟨_,rfl,⟨A,c,rfl,F,s,J⟩,From.mem (by simp),aG _ _⟩
 ·have D:(((nl y:Nat):Int)==0)=false:=by simp;omega
  go_enter func134,ntmps134;go_wp2_with fail;refine(Q7 A (dg x) c w s (by rw[aK];omega)).mono ?_;rintro e N ⟨W,rfl,⟨P,m,rfl,a,i⟩,n⟩;rcases i with i|⟨g,rfl,q,u,G⟩
  ·have:=congrArg List.length i;rw[aK] at this;simp at this;omega
  go_wp2_with fail;refine(FX g 0 (nl x) (dg x) m B (nl y) (dg y) d N rfl rfl G u a (by omega) (t.be n) ?hn I (cI x) (cI y) ?hv).mono ?_
  case hn=>
   rintro b o rfl h;obtain⟨Q,V,e,S,_⟩:=t.at_ h;injection e with e;injection e;omega
  case hv=>rw[cU,cU];omega
  rintro e z ⟨rfl,O,v,M,hv,p,r⟩;rw[cU,cU] at hv;have C:=aB hv;have l:=aB v;clear hv v;have f:g<z.1.size:=aZ u.lt r.grown.size;go_wp2_with fail;refine(gC _ O (nl x) m z l.out (Rd.mk f p) a (by omega)).mono ?_;rintro e X ⟨rfl,rfl⟩;go_wp2;go_ret;exact⟨_,rfl,NatAt.trim (Rd.mk f p) M (by rw[C.out];omega) (by rw[l.out];exact a) (Old.mk f),From.new q,r.belowOf n q⟩
end Go.Proofs.YtjgbleapffgbcaaGreatDoor
namespace Go.Proofs
open Go.Shelf
def Tryz.lays125_ren:Go.Shelf.Ren:=⟨fun|125=>144|128=>168|129=>169|n=>n,fun|46=>80|3=>3|51=>190|53=>119|4=>4|5=>5|9=>9|n=>n,fun|n=>n⟩
def Tryz.lays125:Go.Proofs.Lays.n125 prog Tryz.lays125_ren:={
 mixed:=by kernel_rfl
 f125:=Tryz.func144.trans (congrArg some (by kernel_rfl))
 f128:=Tryz.func168.trans (congrArg some (by kernel_rfl))
 f129:=Tryz.func169.trans (congrArg some (by kernel_rfl))
 t3:=underlying3
 a3:=Tryz.isAgg3
 z3:=Tryz.sizeOf3
 v3:=Tryz.zeroValue3
 t4:=underlying4
 a4:=Tryz.isAgg4
 z4:=Tryz.sizeOf4
 v4:=Tryz.zeroValue4
 t5:=underlying5
 a5:=Tryz.isAgg5
 z5:=Tryz.sizeOf5
 v5:=Tryz.zeroValue5
 t9:=underlying9
 a9:=Tryz.isAgg9
 z9:=Tryz.sizeOf9
 v9:=Tryz.zeroValue9
 t46:=underlying80
 a46:=Tryz.isAgg80
 z46:=Tryz.sizeOf80
 v46:=Tryz.zeroValue80
 t51:=underlying190
 a51:=Tryz.isAgg190
 z51:=Tryz.sizeOf190
 v51:=Tryz.zeroValue190
 t53:=underlying119
 a53:=Tryz.isAgg119
 z53:=Tryz.sizeOf119
 v53:=Tryz.zeroValue119 }
def Tryz.bits_Len(x:Int)(w:World)(a:0<=x)(b:x<=18446744073709551615):
  Calls prog 144 #[.int .u64 x] w fun e w'=>e= .returned (.int .i64 (Lib.bitLen x.toNat))∧w'=w:=Any.bits_Len Tryz.lays125 x w a b
def Tryz.lays134_ren:Go.Shelf.Ren:=⟨fun|134=>153|129=>169|n=>n,fun|53=>119|3=>3|4=>4|46=>80|5=>5|9=>9|n=>n,fun|n=>n⟩
def Tryz.lays134:Go.Proofs.Lays.n134 prog Tryz.lays134_ren:={
 mixed:=by kernel_rfl
 f129:=Tryz.func169.trans (congrArg some (by kernel_rfl))
 f134:=Tryz.func153.trans (congrArg some (by kernel_rfl))
 t3:=underlying3
 a3:=Tryz.isAgg3
 z3:=Tryz.sizeOf3
 v3:=Tryz.zeroValue3
 t4:=underlying4
 a4:=Tryz.isAgg4
 z4:=Tryz.sizeOf4
 v4:=Tryz.zeroValue4
 t5:=underlying5
 a5:=Tryz.isAgg5
 z5:=Tryz.sizeOf5
 v5:=Tryz.zeroValue5
 t9:=underlying9
 a9:=Tryz.isAgg9
 z9:=Tryz.sizeOf9
 v9:=Tryz.zeroValue9
 t46:=underlying80
 a46:=Tryz.isAgg80
 z46:=Tryz.sizeOf80
 v46:=Tryz.zeroValue80
 t53:=underlying119
 a53:=Tryz.isAgg119
 z53:=Tryz.sizeOf119
 v53:=Tryz.zeroValue119 }
def Tryz.bits_LeadingZeros64(x:Int)(w:World)(a:0<=x)(b:x<=18446744073709551615):
  Calls prog 153 #[.int .u64 x] w fun e w'=>e= .returned (.int .i64 (64-(Lib.bitLen x.toNat:Int)))∧w'=w:=Any.bits_LeadingZeros64 Tryz.lays134 x w a b
def Tryz.lays103_ren:Go.Shelf.Ren:=⟨fun|103=>71|210=>116|206=>149|n=>n,fun|9=>9|4=>4|24=>113|3=>3|n=>n,fun|n=>n⟩
def Tryz.lays103:Go.Proofs.Lays.n103 prog Tryz.lays103_ren:={
 mixed:=by kernel_rfl
 f103:=Tryz.func71.trans (congrArg some (by kernel_rfl))
 f206:=Tryz.func149.trans (congrArg some (by kernel_rfl))
 f210:=Tryz.func116.trans (congrArg some (by kernel_rfl))
 t3:=underlying3
 a3:=Tryz.isAgg3
 z3:=Tryz.sizeOf3
 v3:=Tryz.zeroValue3
 t4:=underlying4
 a4:=Tryz.isAgg4
 z4:=Tryz.sizeOf4
 v4:=Tryz.zeroValue4
 t9:=underlying9
 a9:=Tryz.isAgg9
 z9:=Tryz.sizeOf9
 v9:=Tryz.zeroValue9
 t24:=underlying113
 a24:=Tryz.isAgg113
 z24:=Tryz.sizeOf113
 v24:=Tryz.zeroValue113 }
open Go.RowKit in
def Tryz.strings_CutPrefix(s p:ByteArray)(w:World):
  Calls prog 71 #[.string s,.string p] w fun e w'=>e= .returned (.tuple #[.string ⟨(Lib.trimPrefix s.data.toList p.data.toList).toArray⟩,.bool (Lib.hasPrefix s.data.toList p.data.toList)])∧w'=w:=Any.strings_CutPrefix Tryz.lays103 s p w
def Tryz.lays283_ren:Go.Shelf.Ren:=⟨fun|283=>170|n=>n,fun|3=>3|9=>9|4=>4|n=>n,fun|n=>n⟩
def Tryz.lays283:Go.Proofs.Lays.n283 prog Tryz.lays283_ren:={
 mixed:=by kernel_rfl
 f283:=Tryz.func170.trans (congrArg some (by kernel_rfl))
 t3:=underlying3
 a3:=Tryz.isAgg3
 z3:=Tryz.sizeOf3
 v3:=Tryz.zeroValue3
 t4:=underlying4
 a4:=Tryz.isAgg4
 z4:=Tryz.sizeOf4
 v4:=Tryz.zeroValue4
 t9:=underlying9
 a9:=Tryz.isAgg9
 z9:=Tryz.sizeOf9
 v9:=Tryz.zeroValue9 }
open Go.Lib in
def Tryz.internal_strconv_small(i:Nat)(h:i<100)(w:World):
  Calls prog 170 #[.int .i64 i] w fun e w'=>e= .returned (.string ⟨(Lib.decDigits i).toArray⟩)∧w'=w:=Any.internal_strconv_small Tryz.lays283 i h w
def Tryz.laysM284_ren:Go.Shelf.Ren:=⟨fun|284=>171|129=>169|317=>186|318=>187|n=>n,fun|53=>119|3=>3|212=>209|0=>0|4=>4|46=>80|5=>5|9=>9|n=>n,fun|17=>3|n=>n⟩
def Tryz.laysM284:Go.Proofs.LaysM.n284 prog Tryz.laysM284_ren:={
 mixed:=by kernel_rfl
 f129:=Tryz.func169.trans (congrArg some (by kernel_rfl))
 f284:=Tryz.func171.trans (congrArg some (by kernel_rfl))
 f317:=Tryz.func186.trans (congrArg some (by kernel_rfl))
 f318:=Tryz.func187.trans (congrArg some (by kernel_rfl))
 t0:=underlying0
 a0:=Tryz.isAgg0
 z0:=Tryz.sizeOf0
 v0:=Tryz.zeroValue0
 t3:=underlying3
 a3:=Tryz.isAgg3
 z3:=Tryz.sizeOf3
 v3:=Tryz.zeroValue3
 t4:=underlying4
 a4:=Tryz.isAgg4
 z4:=Tryz.sizeOf4
 v4:=Tryz.zeroValue4
 t5:=underlying5
 a5:=Tryz.isAgg5
 z5:=Tryz.sizeOf5
 v5:=Tryz.zeroValue5
 t9:=underlying9
 a9:=Tryz.isAgg9
 z9:=Tryz.sizeOf9
 v9:=Tryz.zeroValue9
 t46:=underlying80
 a46:=Tryz.isAgg80
 z46:=Tryz.sizeOf80
 v46:=Tryz.zeroValue80
 t53:=underlying119
 a53:=Tryz.isAgg119
 z53:=Tryz.sizeOf119
 v53:=Tryz.zeroValue119
 t212:=underlying209
 a212:=Tryz.isAgg209
 z212:=Tryz.sizeOf209
 v212:=Tryz.zeroValue209
 g17:=by kernel_rfl
 i0:=by kernel_rfl
 i3:=by kernel_rfl
 i4:=by kernel_rfl
 i5:=by kernel_rfl
 i9:=by kernel_rfl
 i46:=by kernel_rfl
 i53:=by kernel_rfl
 i212:=by kernel_rfl
 m17:=by kernel_rfl }
open Go.Lib in
def Tryz.internal_strconv_numDigits(u:Nat)(a:1<=u)(b:u<18446744073709551616)(w:World)(c:Lib.TabIs prog w "internal/strconv.uint64pow10" .u64 Lib.pow10Tab):
  Calls prog 171 #[.int .u64 u] w fun e w'=>e= .returned (.int .i64 (Lib.nDigits u))∧w'=w:=Any.internal_strconv_numDigits Tryz.laysM284 u a b w c
def Tryz.lays285_ren:Go.Shelf.Ren:=⟨fun|285=>172|n=>n,fun|37=>145|53=>119|3=>3|4=>4|51=>190|9=>9|5=>5|0=>0|n=>n,fun|n=>n⟩
def Tryz.lays285:Go.Proofs.Lays.n285 prog Tryz.lays285_ren:={
 mixed:=by kernel_rfl
 f285:=Tryz.func172.trans (congrArg some (by kernel_rfl))
 t0:=underlying0
 a0:=Tryz.isAgg0
 z0:=Tryz.sizeOf0
 v0:=Tryz.zeroValue0
 t3:=underlying3
 a3:=Tryz.isAgg3
 z3:=Tryz.sizeOf3
 v3:=Tryz.zeroValue3
 t4:=underlying4
 a4:=Tryz.isAgg4
 z4:=Tryz.sizeOf4
 v4:=Tryz.zeroValue4
 t5:=underlying5
 a5:=Tryz.isAgg5
 z5:=Tryz.sizeOf5
 v5:=Tryz.zeroValue5
 t9:=underlying9
 a9:=Tryz.isAgg9
 z9:=Tryz.sizeOf9
 v9:=Tryz.zeroValue9
 t37:=underlying145
 a37:=Tryz.isAgg145
 z37:=Tryz.sizeOf145
 v37:=Tryz.zeroValue145
 t51:=underlying190
 a51:=Tryz.isAgg190
 z51:=Tryz.sizeOf190
 v51:=Tryz.zeroValue190
 t53:=underlying119
 a53:=Tryz.isAgg119
 z53:=Tryz.sizeOf119
 v53:=Tryz.zeroValue119 }
open Go.RowKit Go.Sort Go.Lib in
def Tryz.internal_strconv_formatBase10(a off c:Nat)(u:Nat)(d:Array UInt8)(w:World)(g:Holds (fun (b:UInt8)=>Value.int .u8 (b.toNat:Int)) w a off d)(i:u<10^d.size)(j:u<18446744073709551616)(h:d.size<4611686018427387904):
  Calls prog 172 #[.slice (some ⟨a,off,none⟩) d.size c,.int .u64 u] w fun e w'=>
   e= .returned (.tuple #[])∧∃(n k:Nat) (f:Array UInt8),w'=(putRow (fun (b:UInt8)=>Value.int .u8 (b.toNat:Int)) w a off f).drewN n∧FmtInv d.size u 0 k f:=Any.internal_strconv_formatBase10 Tryz.lays285 a off c u d w g i j h
def Tryz.laysM173_ren:Go.Shelf.Ren:=⟨fun|173=>112|246=>147|283=>170|284=>171|285=>172|286=>173|129=>169|317=>186|318=>187|319=>188|320=>189|337=>191|338=>158|n=>n,fun|2=>2|3=>3|9=>9|4=>4|171=>192|0=>0|53=>119|37=>145|5=>5|173=>194|212=>209|51=>190|20=>20|213=>210|46=>80|232=>212|233=>203|n=>n,fun|17=>3|18=>4|19=>0|n=>n⟩
def Tryz.laysM173:Go.Proofs.LaysM.n173 prog Tryz.laysM173_ren:={
 mixed:=by kernel_rfl
 f129:=Tryz.func169.trans (congrArg some (by kernel_rfl))
 f173:=Tryz.func112.trans (congrArg some (by kernel_rfl))
 f246:=Tryz.func147.trans (congrArg some (by kernel_rfl))
 f283:=Tryz.func170.trans (congrArg some (by kernel_rfl))
 f284:=Tryz.func171.trans (congrArg some (by kernel_rfl))
 f285:=Tryz.func172.trans (congrArg some (by kernel_rfl))
 f286:=Tryz.func173.trans (congrArg some (by kernel_rfl))
 f317:=Tryz.func186.trans (congrArg some (by kernel_rfl))
 f318:=Tryz.func187.trans (congrArg some (by kernel_rfl))
 f319:=Tryz.func188.trans (congrArg some (by kernel_rfl))
 f320:=Tryz.func189.trans (congrArg some (by kernel_rfl))
 f337:=Tryz.func191.trans (congrArg some (by kernel_rfl))
 f338:=Tryz.func158.trans (congrArg some (by kernel_rfl))
 t0:=underlying0
 a0:=Tryz.isAgg0
 z0:=Tryz.sizeOf0
 v0:=Tryz.zeroValue0
 t2:=underlying2
 a2:=Tryz.isAgg2
 z2:=Tryz.sizeOf2
 v2:=Tryz.zeroValue2
 t3:=underlying3
 a3:=Tryz.isAgg3
 z3:=Tryz.sizeOf3
 v3:=Tryz.zeroValue3
 t4:=underlying4
 a4:=Tryz.isAgg4
 z4:=Tryz.sizeOf4
 v4:=Tryz.zeroValue4
 t5:=underlying5
 a5:=Tryz.isAgg5
 z5:=Tryz.sizeOf5
 v5:=Tryz.zeroValue5
 t9:=underlying9
 a9:=Tryz.isAgg9
 z9:=Tryz.sizeOf9
 v9:=Tryz.zeroValue9
 t20:=underlying20
 a20:=Tryz.isAgg20
 z20:=Tryz.sizeOf20
 v20:=Tryz.zeroValue20
 t37:=underlying145
 a37:=Tryz.isAgg145
 z37:=Tryz.sizeOf145
 v37:=Tryz.zeroValue145
 t46:=underlying80
 a46:=Tryz.isAgg80
 z46:=Tryz.sizeOf80
 v46:=Tryz.zeroValue80
 t51:=underlying190
 a51:=Tryz.isAgg190
 z51:=Tryz.sizeOf190
 v51:=Tryz.zeroValue190
 t53:=underlying119
 a53:=Tryz.isAgg119
 z53:=Tryz.sizeOf119
 v53:=Tryz.zeroValue119
 t171:=underlying192
 a171:=Tryz.isAgg192
 z171:=Tryz.sizeOf192
 v171:=Tryz.zeroValue192
 t173:=underlying194
 a173:=Tryz.isAgg194
 z173:=Tryz.sizeOf194
 v173:=Tryz.zeroValue194
 t212:=underlying209
 a212:=Tryz.isAgg209
 z212:=Tryz.sizeOf209
 v212:=Tryz.zeroValue209
 t213:=underlying210
 a213:=Tryz.isAgg210
 z213:=Tryz.sizeOf210
 t232:=underlying212
 a232:=Tryz.isAgg212
 z232:=Tryz.sizeOf212
 v232:=Tryz.zeroValue212
 t233:=underlying203
 a233:=Tryz.isAgg203
 z233:=Tryz.sizeOf203
 v233:=Tryz.zeroValue203
 g17:=by kernel_rfl
 g18:=by kernel_rfl
 g19:=by kernel_rfl
 i0:=by kernel_rfl
 i2:=by kernel_rfl
 i3:=by kernel_rfl
 i4:=by kernel_rfl
 i5:=by kernel_rfl
 i9:=by kernel_rfl
 i20:=by kernel_rfl
 i37:=by kernel_rfl
 i46:=by kernel_rfl
 i51:=by kernel_rfl
 i53:=by kernel_rfl
 i171:=by kernel_rfl
 i173:=by kernel_rfl
 i212:=by kernel_rfl
 i232:=by kernel_rfl
 i233:=by kernel_rfl
 m17:=by kernel_rfl
 m18:=by kernel_rfl
 m19:=by kernel_rfl }
open Go.RowKit Go.Sort Go.Lib in
def Tryz.strconv_FormatInt_10(n:Int)(a: -9223372036854775808<=n)(b:n<=9223372036854775807)(w:World)(c:Lib.TabIs prog w "internal/strconv.uint64pow10" .u64 Lib.pow10Tab):
  Calls prog 112 #[.int .i64 n,.int .i64 10] w fun e w'=>e= .returned (.string ⟨(Lib.itoa n).toArray⟩)∧∃k os,w'=grow (w.drewN k) os:=Any.strconv_FormatInt_10 Tryz.laysM173 n a b w c
def Tryz.lays264_ren:Go.Shelf.Ren:=⟨fun|264=>164|n=>n,fun|53=>119|46=>80|n=>n,fun|n=>n⟩
def Tryz.lays264:Go.Proofs.Lays.n264 prog Tryz.lays264_ren:={
 mixed:=by kernel_rfl
 f264:=Tryz.func164.trans (congrArg some (by kernel_rfl))
 t46:=underlying80
 a46:=Tryz.isAgg80
 z46:=Tryz.sizeOf80
 v46:=Tryz.zeroValue80
 t53:=underlying119
 a53:=Tryz.isAgg119
 z53:=Tryz.sizeOf119
 v53:=Tryz.zeroValue119 }
open Go.RowKit Go.Lib in
def Tryz.bits_Mul64(x y:Nat)(a:x<18446744073709551616)(b:y<18446744073709551616)(w:World):
  Calls prog 164 #[.int .u64 x,.int .u64 y] w fun e w'=>e= .returned (.tuple #[.int .u64 ((x*y/18446744073709551616:Nat):Int),.int .u64 ((x*y%18446744073709551616:Nat):Int)])∧w'=w:=Any.bits_Mul64 Tryz.lays264 x y a b w
def Tryz.lays212_ren:Go.Shelf.Ren:=⟨fun|212=>193|263=>194|264=>164|n=>n,fun|46=>80|51=>190|146=>215|53=>119|148=>183|n=>n,fun|n=>n⟩
def Tryz.lays212:Go.Proofs.Lays.n212 prog Tryz.lays212_ren:={
 mixed:=by kernel_rfl
 f212:=Tryz.func193.trans (congrArg some (by kernel_rfl))
 f263:=Tryz.func194.trans (congrArg some (by kernel_rfl))
 f264:=Tryz.func164.trans (congrArg some (by kernel_rfl))
 t46:=underlying80
 a46:=Tryz.isAgg80
 z46:=Tryz.sizeOf80
 v46:=Tryz.zeroValue80
 t51:=underlying190
 a51:=Tryz.isAgg190
 z51:=Tryz.sizeOf190
 v51:=Tryz.zeroValue190
 t53:=underlying119
 a53:=Tryz.isAgg119
 z53:=Tryz.sizeOf119
 v53:=Tryz.zeroValue119
 t146:=underlying215
 a146:=Tryz.isAgg215
 z146:=Tryz.sizeOf215
 v146:=Tryz.zeroValue215
 t148:=underlying183
 a148:=Tryz.isAgg183
 z148:=Tryz.sizeOf183
 v148:=Tryz.zeroValue183 }
open Go.RowKit Go.Lib in
def Tryz.bits_Mul(x y:Nat)(a:x<18446744073709551616)(b:y<18446744073709551616)(w:World):
  Calls prog 193 #[.int .u64 x,.int .u64 y] w fun e w'=>e= .returned (.tuple #[.int .u64 ((x*y/18446744073709551616:Nat):Int),.int .u64 ((x*y%18446744073709551616:Nat):Int)])∧w'=w:=Any.bits_Mul Tryz.lays212 x y a b w
def Tryz.lays7n29_ren:Go.Shelf.Ren:=⟨fun|29=>158|n=>n,fun|22=>119|3=>3|4=>4|25=>80|54=>203|0=>0|5=>5|n=>n,fun|1=>0|n=>n⟩
def Tryz.lays7n29:Go.Proofs.Lays7.n29 prog Tryz.lays7n29_ren:={
 mixed:=by kernel_rfl
 f29:=Tryz.func158.trans (congrArg some (by kernel_rfl))
 t0:=underlying0
 a0:=Tryz.isAgg0
 z0:=Tryz.sizeOf0
 v0:=Tryz.zeroValue0
 i0:=by kernel_rfl
 t3:=underlying3
 a3:=Tryz.isAgg3
 z3:=Tryz.sizeOf3
 v3:=Tryz.zeroValue3
 i3:=by kernel_rfl
 t4:=underlying4
 a4:=Tryz.isAgg4
 z4:=Tryz.sizeOf4
 v4:=Tryz.zeroValue4
 i4:=by kernel_rfl
 t5:=underlying5
 a5:=Tryz.isAgg5
 z5:=Tryz.sizeOf5
 v5:=Tryz.zeroValue5
 i5:=by kernel_rfl
 t22:=underlying119
 a22:=Tryz.isAgg119
 z22:=Tryz.sizeOf119
 v22:=Tryz.zeroValue119
 i22:=by kernel_rfl
 t25:=underlying80
 a25:=Tryz.isAgg80
 z25:=Tryz.sizeOf80
 v25:=Tryz.zeroValue80
 i25:=by kernel_rfl
 t54:=underlying203
 a54:=Tryz.isAgg203
 z54:=Tryz.sizeOf203
 g1:=by kernel_rfl }
end Go.Proofs
namespace Go.Proofs.YtjgbleapffgbcaaGreatDoor
open Go.RowKit Sos Tryz
variable{H L T c d m s t u x y z:Int}{g k n:Nat}{ts xs zs:List Int}{a b f:World}
def Split(t s c:Int):Prop:=s+aA*c=t∧0<=s∧s<aA
def iT(t:Int):∃s c,Split t s c:=⟨eC t,gY t,AO t,(V0 t).1,(V0 t).2⟩
def Split.lo(h:Split t s c):eC t=s:=by
 obtain⟨a,b,d⟩:=h;unfold eC;unfold aA at *;omega
def Split.hi(h:Split t s c):gY t=c:=by
 obtain⟨a,b,d⟩:=h;unfold gY;unfold aA at *;omega
def Split.hi_bd(h:Split t s c)(a:0<=t)(b:t<aA*m):0<=c∧c<m:=by
 rw[<-h.hi];exact sS a b
def rO(x y s k:Int)(a:0<=x∧x<aA)(b:0<=y∧y<aA)(h:Split (x+y) s k)(w:World):
  (callFunc 162 #[.int .u64 x,.int .u64 y,.int .u64 0]).run prog w= .ok (.value (.tuple #[.int .u64 s,.int .u64 k])) w:=by
 rw[PL x y a.1 b.1 a.2 b.2,h.lo,h.hi]
def Diff(t u d k:Int):Prop:=d=t-u+aA*k∧0<=d∧d<aA∧(k=0∨k=1)
def sV(a:0<=t)(b:t<aA)(c:0<=u)(e:u<=aA):∃d k,Diff t u d k:=
 ⟨eC (t-u),jC t u,AQ a b c e,(V0 _).1,(V0 _).2,by unfold jC;split<;>simp⟩
def Diff.lo{k:Int}(h:Diff t u d k)(f:0<=t)(g:t<aA)(i:0<=u)(j:u<=aA):eC (t-u)=d:=by
 obtain⟨a,b,c,e⟩:=h;rw[AQ f g i j,a];unfold jC;unfold aA at *;split<;>omega
def Diff.bo{k:Int}(h:Diff t u d k)(f:0<=t)(g:t<aA)(i:0<=u)(j:u<=aA):jC t u=k:=by
 obtain⟨a,b,c,e⟩:=h;unfold jC;unfold aA at *;split<;>omega
def wD(x y c d k:Int)(a:0<=x∧x<aA)(e:0<=y∧y<aA)(b:0<=c∧c<=1)(h:Diff x (y+c) d k)(w:World):
  (callFunc 157 #[.int .u64 x,.int .u64 y,.int .u64 c]).run prog w= .ok (.value (.tuple #[.int .u64 d,.int .u64 k])) w:=by
 rw[wC x y c a.1 e.1 b.1 b.2 a.2 e.2,show x-y-c=x-(y+c) by omega,h.lo a.1 a.2 (by omega) (by omega),h.bo a.1 a.2 (by omega) (by omega)]
def Q4(x y d k:Int)(a:0<=x∧x<aA)(b:0<=y∧y<aA)(h:Diff x y d k)(w:World):
  (callFunc 157 #[.int .u64 x,.int .u64 y,.int .u64 0]).run prog w= .ok (.value (.tuple #[.int .u64 d,.int .u64 k])) w:=by
 rw[PN x y a.1 b.1 a.2 b.2,h.lo a.1 a.2 (by omega) (by omega),h.bo a.1 a.2 (by omega) (by omega)]
def oG(x y s k:Int)(b:0<=x∧x<aA)(c:0<=y∧y<aA)(h:Split (x*y) s k)(w:World):
  Calls prog 164 #[.int .u64 x,.int .u64 y] w fun e w'=>e= .returned (.tuple #[.int .u64 k,.int .u64 s])∧w=w':=by
 rw[<-h.lo,<-h.hi];unfold eC gY;unfold aA at b c;obtain⟨x,rfl⟩:=j7 b.1;obtain⟨y,rfl⟩:=j7 c.1;refine(Tryz.bits_Mul64 x y (by omega) (by omega) w).mono fun e w' a=>⟨?_,a.2.symm⟩;rw[a.1,<-az8];rfl
def mM{n:Int}(b:0<=x)(c:x<=m)(a:0<=y)(d:y<=n):0<=x*y∧x*y<=m*n:=
 ⟨gB b a,Int.mul_le_mul c d a (by omega)⟩
def n9(a:0<=x∧x<aA)(b:0<=y∧y<aA)(d:0<=c∧c<aA)(f:0<=z∧z<aA):0<=z+x*y+c∧z+x*y+c<aA*aA:=by
 have:=mM a.1 (show x<=aA-1 by omega) b.1 (show y<=aA-1 by omega);have e:(aA-1)*(aA-1)=aA*aA-2*aA+1:=by rfl
 omega
def PV{C1 S1 C2 a:Int}(i:k<zs.length)(j:k<xs.length)(e:Split (xs.getD k 0*y) L H)(f:Split (L+c) S1 C1)(g:Split (zs.getD k 0+S1) a C2)
  (h:aF aA zs+c*aA^k=T+aF aA (xs.take k)*y):
  aF aA (zs.set k a)+(H+C1+C2)*aA^(k+1)=T+aF aA (xs.take (k+1))*y:=by
 have l:=e.1;have m:=f.1;have n:=g.1;rw[nY _ _ _ _ i,jV _ _ _ j,gR];generalize zs.getD k 0=z at *;generalize xs.getD k 0=x at *;generalize aA^k=p at *;generalize aF aA zs=s at *;generalize aF aA (xs.take k)=u at *;generalize aA=b at *;have d:a+b*(H+C1+C2)=z+x*y+c:=by grind
 have o:p*(a+b*(H+C1+C2))=p*(z+x*y+c):=by rw[d]
 grind
def PW{C1 S1 C2 g:Int}(e:0<=x∧x<aA)(f:0<=y∧y<aA)(h:0<=c∧c<aA)(i:0<=z∧z<aA)(a:Split (x*y) L H)(b:Split (L+c) S1 C1)(d:Split (z+S1) g C2):
  0<=H∧H<aA∧0<=C1∧C1<=1∧0<=C2∧C2<=1∧H+C1<aA∧H+C1+C2<aA:=by
 have s:=n9 e f h i;have n:=a.1;have o:=b.1;have q:=d.1;have j:=a.2;have k:=b.2;have l:=d.2
 have m:=mM e.1 (show x<=aA-1 by omega) f.1 (show y<=aA-1 by omega);generalize x*y=p at *;have t:aA*aA=aA*18446744073709551616:=rfl;have r:(aA-1)*(aA-1)=aA*aA-2*aA+1:=by rfl
 unfold aA at *;omega
def G0(g off:Nat)(zs:List Int)(Z:Nat)(A:Option Addr)(xs:List Int)(Y n:Nat)(y:Int)(w:World)(O:zs.length=n)(K:xs.length=n)
  (hz:Cells .u64 w g off zs)(ad:Soft w g)(hb:n*8<=281474976710656)(hx:Rd .u64 w A xs)
  (u:∀b o,A=some ⟨b,o,none⟩->0<n->b≠g)(hZ:InR aA zs)(hX:InR aA xs)(M:0<=y∧y<aA):
  Calls prog 131 #[.slice (some ⟨g,off,none⟩) n Z,.slice A n Y,.int .u64 y] w fun e w'=>
   ∃ts c,e= .returned (.int .u64 c)∧0<=c∧c<aA∧ts.length=n∧InR aA ts∧aF aA ts+c*aA^n=aF aA zs+aF aA xs*y∧Cells .u64 w' g off ts∧Only g off n w w':=by
 have X:=aB O;have a:=aB K;clear O K;go_enter func131,ntmps131;go_wp2
 go_loopw [7,16] (fun t i wr=>∃(k:Nat) (ts:List Int) (c:Int),k<=n∧i= .int .i64 k∧t= .int .u64 c∧0<=c∧c<aA∧Hid (ts.length=n)∧InR aA ts∧
   Hid (aF aA ts+c*aA^k=aF aA zs+aF aA (xs.take k)*y)∧Cells .u64 wr g off ts∧Only g off n w wr) (fun _ i _=>n-(intOf i).toNat)
 case atStart=>exact⟨0,zs,0,dC _,rfl,rfl,by decide,by decide,X,hZ,by simp[Hid],hz,Only.refl _ _ _ _⟩
 case round=>
  obtain⟨k,ts,c,hk,rfl,rfl,r,s,m,v,G,p,d⟩:=hrel;by_cases ag:k<n
  ·obtain⟨b,o,rfl,af,I⟩:=(d.rd hx (fun b o e h=>u b o e (by have:=a.out;omega))).at_ (by have:=a.out;omega);have q:=I k (by have:=a.out;omega);have h2:=p k (by have:=m.out;omega);have hf:=(d.soft ad).free (off+k);have C:=v.getD aQ k;have D:=hX.getD aQ k;have Q:=aB p;have HN:=aB u;have R:=aB d;obtain⟨L,H,f⟩:=iT (xs.getD k 0*y);obtain⟨S1,C1,j⟩:=iT (L+c);obtain⟨B,C2,l⟩:=iT (ts.getD k 0+S1);have F:=PV (T:=aF aA zs) (show k<ts.length by have:=m.out;omega) (show k<xs.length by have:=a.out;omega) f j l G.out;have ac:=PW D M ⟨r,s⟩ C f j l;generalize J:xs.getD k 0=x at *;generalize N:ts.getD k 0=z at *;have HX:=aB J;have ae:=aB N;have S:=aB F;have U:=aB f;have V:=aB j;have W:=aB l;have d1:=f.2;have d2:=j.2;have E:=l.2
   obtain⟨q0,q1,q2,q3,q4,q5,q6,P⟩:=ac;have q8:H+C1<=18446744073709551615:=by unfold aA at q6;omega
   have q9:H+C1+C2<=18446744073709551615:=by unfold aA at P;omega
   clear p I u d J N F f j l
   go_wp2_with (first
    |(go_at_call 164;refine(oG x y L H D M U.out _).mono ?_;rintro e w' ⟨rfl,rfl⟩)
    |simp only[rO L c S1 C1 d1 ⟨r,s⟩ V.out]
    |simp only[rO z S1 B C2 C d2 W.out])
   go_roundw
   case rel=>
    refine⟨k+1,ts.set k B,H+C1+C2,by omega,by go_num,rfl,by omega,P,?_,v.set E.1 E.2 k,S,Q.out.set (by have:=m.out;omega) _,R.out.set (by omega) _⟩;have:=m.out;simpa [Hid] using this
   case measure=>simp[intOf];omega
  ·obtain rfl:k=n:=by omega
   go_wp2;go_ret;refine⟨ts,c,rfl,r,s,m.out,v,?_,p,d⟩;have q:=G.out;rw[cZ (by have:=a.out;omega)] at q;exact q
def PY{C1 S1 C2 a:Int}(i:k<zs.length)(j:k<xs.length)(e:Split (xs.getD k 0*y) L H)(f:Split (L+c) S1 C1)(g:Diff (zs.getD k 0) S1 a C2)
  (h:aF aA zs-c*aA^k=T-aF aA (xs.take k)*y):
  aF aA (zs.set k a)-(H+C1+C2)*aA^(k+1)=T-aF aA (xs.take (k+1))*y:=by
 have l:=e.1;have m:=f.1;have n:=g.1;rw[nY _ _ _ _ i,jV _ _ _ j,gR];generalize zs.getD k 0=z at *;generalize xs.getD k 0=x at *;generalize aA^k=p at *;generalize aF aA zs=s at *;generalize aF aA (xs.take k)=u at *;generalize aA=b at *;have d:a-b*(H+C1+C2)=z-x*y-c:=by grind
 have o:p*(a-b*(H+C1+C2))=p*(z-x*y-c):=by rw[d]
 grind
def PZ{C1 S1 C2 e:Int}(f:0<=x∧x<aA)(g:0<=y∧y<aA)(q:0<=c∧c<aA)(r:0<=z∧z<aA)(a:Split (x*y) L H)(b:Split (L+c) S1 C1)(d:Diff z S1 e C2):
  0<=H∧H<aA∧0<=C1∧C1<=1∧0<=C2∧C2<=1∧H+C1<aA∧H+C1+C2<aA:=by
 have k:=a.1;have l:=b.1;have n:=d.1;have h:=a.2;have i:=b.2;have j:=d.2
 have m:=mM f.1 (show x<=aA-1 by omega) g.1 (show y<=aA-1 by omega);generalize x*y=p at *;have o:(aA-1)*(aA-1)=aA*18446744073709551616-2*aA+1:=by rfl
 unfold aA at *;omega
def Q3(g off:Nat)(zs:List Int)(Z:Nat)(A:Option Addr)(xs:List Int)(Y n:Nat)(y:Int)(w:World)(O:zs.length=n)(K:xs.length=n)
  (hz:Cells .u64 w g off zs)(ad:Soft w g)(hb:n*8<=281474976710656)(hx:Rd .u64 w A xs)
  (B:∀b o,A=some ⟨b,o,none⟩->0<n->b≠g)(hZ:InR aA zs)(hX:InR aA xs)(M:0<=y∧y<aA):
  Calls prog 184 #[.slice (some ⟨g,off,none⟩) n Z,.slice A n Y,.int .u64 y] w fun e w'=>
   ∃ts c,e= .returned (.int .u64 c)∧0<=c∧c<aA∧ts.length=n∧InR aA ts∧aF aA ts-c*aA^n=aF aA zs-aF aA xs*y∧Cells .u64 w' g off ts∧Only g off n w w':=by
 have X:=aB O;have f:=aB K;clear O K;go_enter func184,ntmps184;go_wp2
 go_loopw [7,16] (fun t i wr=>∃(k:Nat) (ts:List Int) (c:Int),k<=n∧i= .int .i64 k∧t= .int .u64 c∧0<=c∧c<aA∧Hid (ts.length=n)∧InR aA ts∧
   Hid (aF aA ts-c*aA^k=aF aA zs-aF aA (xs.take k)*y)∧Cells .u64 wr g off ts∧Only g off n w wr) (fun _ i _=>n-(intOf i).toNat)
 case atStart=>exact⟨0,zs,0,dC _,rfl,rfl,by decide,by decide,X,hZ,by simp[Hid],hz,Only.refl _ _ _ _⟩
 case round=>
  obtain⟨k,ts,c,hk,rfl,rfl,u,v,m,C,G,r,j⟩:=hrel;by_cases ag:k<n
  ·obtain⟨b,o,rfl,af,I⟩:=(j.rd hx (fun b o e h=>B b o e (by have:=f.out;omega))).at_ (by have:=f.out;omega);have s:=I k (by have:=f.out;omega);have h2:=r k (by have:=m.out;omega);have hf:=(j.soft ad).free (off+k);have q:=C.getD aQ k;have D:=hX.getD aQ k;have Q:=aB r;have HN:=aB B;have R:=aB j;obtain⟨L,H,l⟩:=iT (xs.getD k 0*y);obtain⟨S1,C1,a⟩:=iT (L+c);obtain⟨p,C2,d⟩:=sV q.1 q.2 a.2.1 (fP a.2.2);have F:=PY (T:=aF aA zs) (show k<ts.length by have:=m.out;omega) (show k<xs.length by have:=f.out;omega) l a d G.out;have ac:=PZ D M ⟨u,v⟩ q l a d;generalize J:xs.getD k 0=x at *;generalize N:ts.getD k 0=z at *;have HX:=aB J;have ae:=aB N;have S:=aB F;have U:=aB l;have V:=aB a;have W:=aB d;have d1:=l.2;have d2:=a.2;have E:0<=p∧p<aA:=⟨d.2.1,d.2.2.1⟩
   obtain⟨q0,q1,q2,q3,q4,q5,q6,P⟩:=ac;have q8:H+C1<=18446744073709551615:=by unfold aA at q6;omega
   have q9:H+C1+C2<=18446744073709551615:=by unfold aA at P;omega
   clear r I B j J N F l a d
   go_wp2_with (first
    |(go_at_call 164;refine(oG x y L H D M U.out _).mono ?_;rintro e w' ⟨rfl,rfl⟩)
    |simp only[rO L c S1 C1 d1 ⟨u,v⟩ V.out]
    |simp only[Q4 z S1 p C2 q d2 W.out])
   go_roundw
   case rel=>
    refine⟨k+1,ts.set k p,H+C1+C2,by omega,by go_num,rfl,by omega,P,?_,C.set E.1 E.2 k,S,Q.out.set (by have:=m.out;omega) _,R.out.set (by omega) _⟩;have:=m.out;simpa [Hid] using this
   case measure=>simp[intOf];omega
  ·obtain rfl:k=n:=by omega
   go_wp2;go_ret;refine⟨ts,c,rfl,u,v,m.out,C,?_,r,j⟩;have s:=G.out;rw[cZ (by have:=f.out;omega)] at s;exact s
def qJ(n k:Nat):aF aA ((dg n).take k)=(n%BN^k:Nat):=by
 rcases dE k (nl n) with a|a
 ·have h:=gF aA (dg n) k (by rw[aK];omega);rw[cU] at h;have c:=y9 aQ ((cI n).take k);have b:=iO aQ ((cI n).take k);rw[bK,aK,y8 (by omega)] at b;rw[bx8,iX,h,bzJ,bz1 c b]
 ·rw[cZ (by rw[aK];exact a),cU,jJ];exact aZ (cyD n) (cO (by decide) a)
def sU(n k:Nat):aF aA ((dg n).drop k)=(n/BN^k:Nat):=by
 rcases dE k (nl n) with a|a
 ·have h:=gF aA (dg n) k (by rw[aK];omega);rw[cU] at h;have c:=y9 aQ ((cI n).take k);have b:=iO aQ ((cI n).take k);rw[bK,aK,y8 (by omega)] at b;have d:=nW aQ k;rw[azR,iX,h,Int.add_mul_ediv_left _ _ (by omega),byG c b,bxA]
 ·rw[gO (by rw[aK];exact a),azT]
  ·rfl
  ·exact aZ (cyD n) (cO (by decide) a)
def PP(h:kH zs)(k:Nat):kH (zs.drop k):=by
 unfold kH at *;rw[List.getLast?_drop];split
 ·simp
 ·exact h
def rM(n k:Nat):(dg n).drop k=dg (n/BN^k):=vW ⟨(cI n).drop k,PP (vV n).2 k⟩ (sU n k)
def PR(n k:Nat):trimL ((dg n).take k)=dg (n%BN^k):=oE ((cI n).take k) (qJ n k)
def S4(n k:Nat):nl (n/BN^k)=nl n-k:=by rw[<-aK,<-rM,eP,aK]
def qK(n k:Nat):nl (n%BN^k)<=min k (nl n):=by
 rw[<-aK,<-PR];have:=oF ((dg n).take k);rw[bK,aK] at this;exact this
def PS(p s b:Nat)(j:0<b):
  p*s=(p%b)*(s%b)+b*((p%b+p/b)*(s%b+s/b)-(p%b)*(s%b)-(p/b)*(s/b))+b*b*((p/b)*(s/b))∧
   (p%b)*(s%b)<=(p%b+p/b)*(s%b+s/b)∧(p/b)*(s/b)<=(p%b+p/b)*(s%b+s/b)-(p%b)*(s%b):=by
 have f:=bxO p b;have g:=bxO s b;generalize p%b=a at *;generalize p/b=c at *;generalize s%b=d at *;generalize s/b=e at *;have i:(a+c)*(d+e)=a*d+c*e+(a*e+c*d):=by grind
 have h:(a+c)*(d+e)-a*d-c*e=a*e+c*d:=by omega
 rw[h];refine⟨?_,by omega,by omega⟩;rw[<-f,<-g];grind
def FZ{z:Int}(zs:List Int)(d:InR aA zs)(b:k<=zs.length)(hn:zs.length=n)(hv:aF aA zs+aA^k*m=t)(c:t<aA^n):aF aA (zs.drop k)+m<aA^(n-k):=by
 rw[gF aA zs k b] at hv;have f:=y9 aQ (d.take k);have g:=nW aQ k;have e:aA^n=aA^k*aA^(n-k):=by rw[<-aqS];congr 1;omega
 rw[e] at c;have a:aA^k*(aF aA (zs.drop k)+m)<aA^k*aA^(n-k):=by rw[bx6];omega
 exact bzL a (by omega)
def patch(zs ts:List Int)(k:Nat):List Int:=zs.take k++(ts++zs.drop (k+ts.length))
def RB(h:k+ts.length<=zs.length):(patch zs ts k).length=zs.length:=by simp[patch];omega
def qL{b:Int}(a:InR b zs)(c:InR b ts)(k:Nat):InR b (patch zs ts k):=(a.take k).append (c.append (a.drop _))
def AR{j:Nat}(h:k+ts.length<=zs.length)(b:k+ts.length<=j):(patch zs ts k).getD j 0=zs.getD j 0:=by
 unfold patch;have a:(zs.take k).length=k:=by rw[bK];omega
 simp only[eE];rw[fK (by omega),a,fK (by omega),aqM];congr 2;omega
def rN(h:k+ts.length<=zs.length):aF aA (patch zs ts k)=aF aA zs+aA^k*(aF aA ts-aF aA ((zs.drop k).take ts.length)):=by
 unfold patch;have a:(zs.take k).length=k:=by rw[bK];omega
 rw[kV,kV,a,gF aA zs k (by omega),gF aA (zs.drop k) ts.length (by rw[eP];omega),List.drop_drop];grind
def Only.patch{m:Nat}(e:Only g k m f b)(c:Cells .u64 f g 0 zs)(j:ts.length=m)(h:Cells .u64 b g k ts)(l:k+m<=zs.length):
  Cells .u64 b g 0 (patch zs ts k):=by
 subst j;have d:(zs.take k).length=k:=by rw[bK];omega
 refine Cells.append (fun i a=> ?_) (Cells.append (by rw[d,bA];exact h) (fun i a=> ?_))
 ·rw[e.rest (0+i) (.inl (by omega))];exact c.take k i a
 ·rw[d,bA,e.rest _ (.inr (by omega))];have:=c.drop (k+ts.length) i a;rwa [bA] at this
def PT{m:Nat}{P:Int}(f:zs.length=n)(b:k+m<n)(d:ts.length=m)(g:aF aA ts+c*aA^m=aF aA ((zs.drop k).take m)+P*y)(a:zs.getD (k+m) 0=0):
  aF aA ((patch zs ts k).set (k+m) c)=aF aA zs+aA^k*(P*y):=by
 subst f d;rw[nY _ _ _ _ (by rw[RB (by omega)];exact b),rN (by omega),AR (by omega) aE,a];have e:aA^(k+ts.length)=aA^k*aA^ts.length:=aqS _ _ _;rw[e];grind
def AS(n:Nat)(ys:List Int)(h:ys.length<=n):d8 (List.replicate n 0) ys=ys++List.replicate (n-ys.length) 0:=by
 unfold d8;rw[dB,cZ h,bxL]
def PU{lo hi h:Nat}(f:nl lo<=2*h)(k:2*h<=n)(l:nl hi<=n-2*h):
  let zs:=d8 (List.replicate n 0) (dg lo)
  let us:=d8 (zs.drop (2*h)) (dg hi)
  us.length=n-2*h∧InR aA us∧InR aA zs∧zs.length=n∧aF aA (patch zs us (2*h))=lo+aA^(2*h)*hi:=by
 intro zs us;have e:zs=dg lo++List.replicate (n-nl lo) 0:=AS n (dg lo) (by rw[aK];omega);have a:zs.drop (2*h)=List.replicate (n-2*h) 0:=by
  rw[e,List.drop_append,gO (by rw[aK];exact f),aK,iM,bxL];congr 1;omega
 have c:zs.length=n:=by show(d8 _ _).length=n;rw[lN,dB]
 have d:us.length=n-2*h:=by show(d8 _ _).length=_;rw[lN,eP,c]
 have b:InR aA zs:=(cI lo).take _ |>.append ((InR.replicate aQ _).drop _);have g:InR aA us:=((cI hi).take _).append ((b.drop _).drop _);refine⟨d,g,b,c,?_⟩;have i:aF aA zs=lo:=by show aF aA (d8 _ _)=_;rw[mN _ _ (by rw[aK];omega),cU]
 have j:aF aA us=hi:=by
  show aF aA (d8 (zs.drop (2*h)) (dg hi))=_
  rw[a,mN _ _ (by rw[aK];omega),cU]
 rw[rN (by omega),d,a,i,j];rw[cZ (by simp),mL];simp
def aJ:Nat:=17592186044416
def MulOK(N:Nat):Prop:=∀(x y:Nat) (a b:Value) (w:World),nl x+nl y<N->nl x+nl y<=aJ->NatAt w a x->NatAt w b y->Calls prog 82 #[a,b] w (jK w [a,b] (x*y))
def dzD(x s e:Nat)(h:s<=e):x%BN^e=x%BN^s+BN^s*(x/BN^s%BN^(e-s)):=by
 have a:BN^e=BN^s*BN^(e-s):=by rw[<-KF];congr 1;omega
 rw[a,Nat.mod_mul]
def Only.join(f:Only g k (n-k) b a)(c:Cells .u64 b g 0 zs)(l:zs.length=n)(j:k<=n)(h:Cells .u64 a g k ts):
  Cells .u64 a g 0 (zs.take k++ts):=by
 have e:(zs.take k).length=k:=by rw[bK];omega
 refine Cells.append (fun i d=> ?_) (by rw[e,bA];exact h);rw[f.rest (0+i) (.inl (by omega))];exact c.take k i d
def QG(x y k e:Nat)(b:e=k+nl y∨e=nl x)(a:e<=k+nl y):x%BN^(k+nl y)=x%BN^e:=by
 rcases b with rfl|rfl
 ·rfl
 ·rw[jJ (cyD x),jJ (aZ (cyD x) (cO (by decide) a))]
def QH(x y:Nat)(v C:Value)(w:World)(hx:NatAt w v x)(hy:NatAt w C y)(h0:0<nl y)(an:nl x+nl y<=aJ)(bi:nl y<=nl x)(ih:MulOK (2*nl y+1)):
  Calls prog 132 #[v,C] w (jK w [v,C] (x*y)):=by
 unfold aJ at an;obtain⟨A,c,rfl,hc,aw,bf⟩:=hx;obtain⟨B,d,rfl,hd,ax,I⟩:=hy;obtain⟨p,u,rfl,r,ai⟩:=aw.at_ (by rw[aK];omega);obtain⟨n,ba,bb,U⟩:∃n,nl x+nl y<=n∧n<=nl x+nl y∧Hid (nl x+nl y=n):=⟨_,aE,aE,rfl⟩;go_enter func132,ntmps132;go_wp2_with (at_make;refine kG rfl rfl .u64 119 8 underlying58 gZ (n) rfl rfl (by omega) (by omega) (by omega) (by omega) ?_;intro w1 a0 ay ae ac)
 go_loopw [6] (fun i wr=>∃(k:Nat) (a:List Int),k<=n∧i= .int .i64 k∧Hid (a.length=n)∧InR aA a∧Hid (aF aA a=((x%BN^k*y:Nat):Int))∧Cells .u64 wr w.1.size 0 a∧
   Soft wr w.1.size∧Below w.1.size w wr∧w.1.size<wr.1.size) (fun i _=>n-(intOf i).toNat)
 case atStart=>exact⟨0,_,dC _,rfl,by simp[Hid],InR.replicate aQ _,by simp[Hid,mL,Nat.mod_one],ae,ay,ac,a0⟩
 case round=>
  obtain⟨k,a,hk,rfl,h,l,O,m,az,f,b⟩:=hrel;by_cases a7:k<nl x
  ·obtain⟨e,a4,a5,aj,ak,a8⟩:∃e:Nat,k<e∧e<=nl x∧e<=k+nl y∧Hid (e=k+nl y∨e=nl x)∧min ((k:Int)+nl y) (nl x)=(e:Int):=by
    by_cases a6:k+nl y<=nl x
    ·exact⟨k+nl y,by omega,by omega,by omega,.inl rfl,by omega⟩
    ·exact⟨nl x,by omega,by omega,by omega,.inr rfl,by omega⟩
   have F:(((dg x).drop k).take (e-k)).length=e-k:=by rw[bK,eP,aK];omega
   have K:Rd .u64 wr.drew (some ⟨p,u+k,none⟩) (((dg x).drop k).take (e-k)):=Rd.mk (aZ r f.size) (((ai.be f r).drop k).take (e-k));have am:InR aA (((dg x).drop k).take (e-k)):=((cI x).drop k).take (e-k)
   have ap:NatAt wr.drew (.slice (some ⟨p,u+k,none⟩) (trimL (((dg x).drop k).take (e-k))).length (c-k)) (x/BN^k%BN^(e-k)):=
    NatAt.trim K am (by rw[rM,qJ]) (by omega) (Old.mk (aZ r f.size))
   have ar:(Value.slice (some ⟨p,u+k,none⟩) (trimL (((dg x).drop k).take (e-k))).length (c-k)).ownBlock≠some w.1.size:=by simp[Value.ownBlock];omega
   have ag:Cells .u64 wr.drew w.1.size k (a.drop k):=by have:=m.drop k;rwa [bA] at this
   have L:Soft wr.drew w.1.size:=az;have G:Below w.1.size w wr.drew:=f.drew;have ah:Cells .u64 wr.drew w.1.size 0 a:=m;have aq:NatAt wr.drew (.slice B (nl y) d) y:=⟨B,d,rfl,hd,Rd.drew (ax.be f),I.mono f.size⟩;have bg:=qK (x/BN^k) (e-k);have s:=dzD x k e (by omega);generalize J:x/BN^k%BN^(e-k)=q at *;generalize N:((dg x).drop k).take (e-k)=us at *;have a9:=fI q y;have T:=aB F;have a2:=aB s;have HQ:=aB J;have HU:=aB N;have P:(a.drop k).length=n-k:=by rw[eP,h.out]
   have Y:=aB P;have t:aF aA a+aA^k*((q*y:Nat):Int)=((x%BN^e*y:Nat):Int):=by
    rw[O.out,s,aqA,iW];simp only[Int.natCast_add,az8,bx9];rw[show((BN:Nat):Int)=aA from rfl]
   have j:((x%BN^e*y:Nat):Int)<aA^(n):=by
    rw[<-U.out,<-iX,KF];have E:x%BN^e<=x:=bxP _ _;have h2:=byV (jI E (cyD x)) (cyD y);omega
   have H:=FZ (z:=0) a l (by have:=h.out;omega) h.out t j;have X:=aB t;have S:=aB H;have ao:nl (q*y)<=n-k:=by
    refine cJ ?_;have h0:=y9 aQ (l.drop k);have:((q*y:Nat):Int)<((BN^(n-k):Nat):Int):=by rw[iX];omega
    omega
   clear F s J N P t j H;have au:(Value.slice B (nl y) d).ownBlock≠some w.1.size:=I.ne aE;have i1:(0:Int)<=(k:Int):=by omega
   have i2:(k:Int)<=((n:Nat):Int):=by omega
   have i3:(k:Int)<=(e:Int):=by omega
   have i4:(e:Int)<=(c:Int):=by omega
   have i5:¬n=k:=by omega
   have i7:k<=n:=by omega
   have i8:e<=c:=by omega
   have i9:k<=e:=by omega
   have i6:¬c=k:=by omega
   go_wp2
   go_region_held3 (fun _=>True) (trivial) (first
    |(go_at_call 123;refine(gC _ us (e-k) (c-k) _ T.out K (by omega) (by omega)).mono ?_;rintro D w' ⟨rfl,rfl⟩)
    |(go_at_call 82;refine(ih q y _ _ _ (by omega) (by unfold aJ;omega) ap aq).mono ?_;rintro D Q ⟨v2,rfl,⟨R,Z,rfl,a3,av,bc⟩,al,g⟩)
    |(go_at_call 135;refine(wA w.1.size k (n-k) (a.drop k) (n-k) R (nl (q*y)) (dg (q*y)) Z Q Y.out rfl (ag.be g b) (L.be g b) aE (by omega) av (AH (al.ne2 b ar au)) ao (l.drop k) (cI _) (by rw[cU];exact S.out)).mono ?_;rintro D w3 ⟨rfl,ts,j,ht,M,af,o⟩))
   have V:=aB j;have W:=aB M;clear j M;have ad:Below w.1.size w Q:=aC G g;go_wp2;go_roundw
   case rel=>
    have a1:=h.out;have bh:=V.out;refine⟨k+nl y,a.take k++ts,by omega,by go_num,?_,(l.take k).append ht,?_,o.join (ah.be g b) a1 (by omega) af,o.soft (L.be g b),o.belowOf ad aE,?_⟩
    ·unfold Hid;rw[dA,bK];omega
    ·unfold Hid;rw[QG x y k e ak.out aj,<-X.out,kV,bK,y8 (by omega),W.out,cU,gF aA a k (by omega),bx6,Int.add_assoc]
    ·have E:=o.grown.size;have h2:=g.size;have h3:w.1.size<wr.drew.1.size:=b;omega
   case measure=>simp[intOf];omega
  ·go_wp2_with fail;refine(gC _ a (n) (n) wr h.out (Rd.mk b m) aE (by omega)).mono ?_;rintro e w4 ⟨rfl,rfl⟩;go_wp2;go_ret;refine⟨_,rfl,NatAt.trim (Rd.mk b m) l ?_ (by rw[h.out];exact aE) (Old.mk b),From.new aE,f⟩;rw[O.out,jJ];exact aZ (cyD x) (cO (by decide) (by omega))
