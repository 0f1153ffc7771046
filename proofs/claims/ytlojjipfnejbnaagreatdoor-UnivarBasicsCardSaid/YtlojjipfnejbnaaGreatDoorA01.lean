/-
  Contracts of functions that the statement reaches, and plain laws: Digits, PolyP, PolyL, NumP, NumQ.
-/
set_option linter.unusedVariables false
set_option linter.unusedSimpArgs false
set_option maxHeartbeats 8000000
set_option maxRecDepth 100000
namespace Sos
def val (b:Int):List Int→Int
 |[]=>0
 |z :: zs=>z+b*val b zs
def InR (b:Int) (zs:List Int):Prop:=∀z∈zs,0≤z∧z<b
theorem InR.nil {b:Int}:InR b []:=fun _ h=>by cases h
theorem InR.cons {b z:Int} {zs:List Int} (h0:0≤z) (h1:z<b) (h:InR b zs):InR b (z :: zs):=by
 intro x hx
 rcases List.mem_cons.1 hx with rfl|hx
 ·exact⟨h0,h1⟩
 ·exact h x hx
theorem InR.head {b z:Int} {zs:List Int} (h:InR b (z :: zs)):0≤z∧z<b:=h z (List.mem_cons_self ..)
theorem InR.tail {b z:Int} {zs:List Int} (h:InR b (z :: zs)):InR b zs:=fun x hx=>h x (List.mem_cons_of_mem _ hx)
theorem InR.append {b:Int} {xs ys:List Int} (h:InR b xs) (h':InR b ys):InR b (xs++ys):=by
 intro x hx
 rcases List.mem_append.1 hx with hx|hx
 ·exact h x hx
 ·exact h' x hx
theorem InR.left {b:Int} {xs ys:List Int} (h:InR b (xs++ys)):InR b xs:=fun x hx=>h x (List.mem_append_left _ hx)
theorem InR.right {b:Int} {xs ys:List Int} (h:InR b (xs++ys)):InR b ys:=fun x hx=>h x (List.mem_append_right _ hx)
theorem InR.take {b:Int} {xs:List Int} (h:InR b xs) (n:Nat):InR b (xs.take n):=fun x hx=>h x (List.mem_of_mem_take hx)
theorem InR.drop {b:Int} {xs:List Int} (h:InR b xs) (n:Nat):InR b (xs.drop n):=fun x hx=>h x (List.mem_of_mem_drop hx)
theorem InR.getD {b:Int} {xs:List Int} (h:InR b xs) (hb:0<b) (i:Nat):0≤xs.getD i 0∧xs.getD i 0<b:=by
 rw[List.getD_eq_getElem?_getD]
 rcases Nat.lt_or_ge i xs.length with hi|hi
 ·rw[List.getElem?_eq_getElem hi];exact h _ (List.getElem_mem hi)
 ·rw[List.getElem?_eq_none hi];exact⟨by simp,by simpa using hb⟩
theorem InR.replicate {b:Int} (hb:0<b) (n:Nat):InR b (List.replicate n 0):=by
 intro x hx
 have:=List.eq_of_mem_replicate hx
 subst this;exact⟨Int.le_refl _,hb⟩
theorem InR.set {b z:Int} {xs:List Int} (h:InR b xs) (h0:0≤z) (h1:z<b) (i:Nat):InR b (xs.set i z):=by
 intro x hx
 rcases List.mem_or_eq_of_mem_set hx with hx|rfl
 ·exact h x hx
 ·exact⟨h0,h1⟩
@[simp] theorem val_nil (b:Int):val b []=0:=rfl
@[simp] theorem val_cons (b z:Int) (zs:List Int):val b (z :: zs)=z+b*val b zs:=rfl
theorem val_one (b z:Int):val b [z]=z:=by simp[val]
theorem val_append (b:Int) (xs ys:List Int):val b (xs++ys)=val b xs+b^xs.length*val b ys:=by
 induction xs with
 |nil=>simp
 |cons x xs ih=>simp only[List.cons_append,val_cons,ih,List.length_cons];grind
theorem val_replicate (b:Int) (n:Nat):val b (List.replicate n 0)=0:=by
 induction n with
 |zero=>rfl
 |succ n ih=>simp[List.replicate_succ,ih]
theorem val_nonneg {b:Int} {zs:List Int} (hb:0<b) (h:InR b zs):0≤val b zs:=by
 induction zs with
 |nil=>simp
 |cons z zs ih=>
  have h1:=h.head
  have h2:=ih h.tail
  have h3:=Int.mul_nonneg (Int.le_of_lt hb) h2
  simp only[val_cons];omega
theorem val_lt {b:Int} {zs:List Int} (hb:0<b) (h:InR b zs):val b zs<b^zs.length:=by
 induction zs with
 |nil=>simp
 |cons z zs ih=>
  have h1:=h.head
  have h2:=ih h.tail
  have h3:b*val b zs≤b*(b^zs.length-1):=Int.mul_le_mul_of_nonneg_left (by omega) (Int.le_of_lt hb)
  have h4:b^(z :: zs).length=b*b^zs.length:=by simp[Int.pow_succ,Int.mul_comm]
  rw[h4,val_cons]
  rw[Int.mul_sub] at h3
  omega
theorem pow_pos' {b:Int} (hb:0<b) (n:Nat):0<b^n:=Int.pow_pos hb
theorem ipow_mono {b:Int} (hb:1≤b) {m n:Nat} (h:m≤n):b^m≤b^n:=by
 induction n with
 |zero=>have:m=0:=by omega
        subst this;exact Int.le_refl _
 |succ n ih=>
  rcases Nat.lt_or_ge m (n+1) with h1|h1
  ·have h2:=ih (by omega)
   have h3:0<b^n:=Int.pow_pos (by omega)
   have h4:b^n*1≤b^n*b:=Int.mul_le_mul_of_nonneg_left hb (by omega)
   rw[Int.pow_succ];omega
  ·have:m=n+1:=by omega
   subst this;exact Int.le_refl _
theorem val_take_drop (b:Int) (xs:List Int) (n:Nat) (hn:n≤xs.length):val b xs=val b (xs.take n)+b^n*val b (xs.drop n):=by
 conv=>lhs;rw[←List.take_append_drop n xs]
 rw[val_append,List.length_take,Nat.min_eq_left hn]
theorem val_take_succ (b:Int) (xs:List Int) (n:Nat) (hn:n<xs.length):val b (xs.take (n+1))=val b (xs.take n)+b^n*xs.getD n 0:=by
 rw[List.take_succ_eq_append_getElem hn,val_append,List.length_take,Nat.min_eq_left (Nat.le_of_lt hn),val_one]
 rw[List.getD_eq_getElem?_getD,List.getElem?_eq_getElem hn];rfl
theorem val_drop_cons (b:Int) (xs:List Int) (n:Nat) (hn:n<xs.length):val b (xs.drop n)=xs.getD n 0+b*val b (xs.drop (n+1)):=by
 rw[List.drop_eq_getElem_cons hn,val_cons,List.getD_eq_getElem?_getD,List.getElem?_eq_getElem hn];rfl
theorem val_set (b:Int) (xs:List Int) (i:Nat) (v:Int) (hi:i<xs.length):val b (xs.set i v)=val b xs+b^i*(v-xs.getD i 0):=by
 induction xs generalizing i with
 |nil=>simp at hi
 |cons x xs ih=>
  cases i with
  |zero=>simp;omega
  |succ i=>
   simp only[List.set_cons_succ,val_cons,List.getD_cons_succ]
   rw[ih i (by simpa using hi)]
   grind
def NoZ (zs:List Int):Prop:=zs.getLast?≠some 0
def trimL:List Int→List Int
 |[]=>[]
 |z :: zs=>match trimL zs with
  |[]=>if z=0 then [] else [z]
  |y :: ys=>z :: y :: ys
theorem val_trimL (b:Int) (zs:List Int):val b (trimL zs)=val b zs:=by
 induction zs with
 |nil=>rfl
 |cons z zs ih=>
  rw[trimL]
  split
  ·rename_i h
   rw[h] at ih
   split
   ·rename_i h0;subst h0;simp only[val_cons,←ih];simp
   ·simp only[val_cons,←ih]
  ·rename_i y ys h
   rw[h] at ih
   rw[val_cons b z (y :: ys),val_cons b z zs,ih]
theorem trimL_noZ (zs:List Int):NoZ (trimL zs):=by
 unfold NoZ
 induction zs with
 |nil=>simp[trimL]
 |cons z zs ih=>
  rw[trimL]
  split
  ·split
   ·simp
   ·rename_i h0;simpa using h0
  ·rename_i y ys h
   rw[h] at ih
   rw[List.getLast?_cons_cons];exact ih
theorem trimL_len (zs:List Int):(trimL zs).length≤zs.length:=by
 induction zs with
 |nil=>simp[trimL]
 |cons z zs ih=>
  rw[trimL]
  split
  ·split<;>simp
  ·rename_i y ys h
   rw[h] at ih;simp at ih⊢;omega
theorem trimL_take (zs:List Int):trimL zs=zs.take (trimL zs).length∧∀i,(trimL zs).length≤i→zs.getD i 0=0:=by
 induction zs with
 |nil=>simp[trimL]
 |cons z zs ih=>
  rw[trimL]
  split
  ·rename_i h
   rw[h] at ih
   split
   ·rename_i h0
    subst h0
    refine⟨by simp,fun i _=> ?_⟩
    cases i with
    |zero=>rfl
    |succ i=>rw[List.getD_cons_succ];exact ih.2 i (Nat.zero_le _)
   ·refine⟨by simp,fun i hi=> ?_⟩
    cases i with
    |zero=>simp at hi
    |succ i=>rw[List.getD_cons_succ];exact ih.2 i (Nat.zero_le _)
  ·rename_i y ys h
   rw[h] at ih
   refine⟨?_,fun i hi=> ?_⟩
   ·rw[List.length_cons,List.take_succ_cons,←ih.1]
   ·cases i with
    |zero=>simp at hi
    |succ i=>rw[List.getD_cons_succ];exact ih.2 i (by simpa using hi)
theorem trimL_of_noZ {zs:List Int} (h:NoZ zs):trimL zs=zs:=by
 induction zs with
 |nil=>rfl
 |cons z zs ih=>
  cases zs with
  |nil=>
   have h0:z≠0:=by intro e;subst e;exact h rfl
   simp[trimL,h0]
  |cons y ys=>
   have h1:NoZ (y :: ys):=by
    unfold NoZ at h⊢
    rwa [List.getLast?_cons_cons] at h
   rw[trimL,ih h1]
theorem InR.trimL {b:Int} {zs:List Int} (h:InR b zs):InR b (trimL zs):=by
 rw[(trimL_take zs).1];exact h.take _
theorem noZ_take_of {zs:List Int} {n:Nat} (hn:n≤zs.length) (h0:n=0∨zs.getD (n-1) 0≠0) (hz:∀i,n≤i→zs.getD i 0=0):trimL zs=zs.take n:=by
 induction zs generalizing n with
 |nil=>simp[Sos.trimL]
 |cons z zs ih=>
  cases n with
  |zero=>
   have e:=hz 0 (Nat.le_refl _)
   have e':z=0:=e
   have:=ih (n:=0) (Nat.zero_le _) (.inl rfl) (fun i _=>by have:=hz (i+1) (Nat.zero_le _);rwa [List.getD_cons_succ] at this)
   subst e'
   rw[Sos.trimL,this];simp
  |succ n=>
   have hz':∀i,n≤i→zs.getD i 0=0:=fun i hi=>by have:=hz (i+1) (by omega);rwa [List.getD_cons_succ] at this
   cases n with
   |zero=>
    have:=ih (n:=0) (Nat.zero_le _) (.inl rfl) hz'
    have hne:z≠0:=by simpa using h0
    rw[Sos.trimL,this];simp[hne]
   |succ n=>
    have hl:n+1≤zs.length:=by simpa using hn
    have:=ih (n:=n+1) hl (.inr (by rcases h0 with h|h;· omega
                                   ·simpa using h)) hz'
    rw[Sos.trimL,this,List.take_succ_cons]
    cases zs with
    |nil=>simp at hl
    |cons y ys=>rw[List.take_succ_cons]
theorem val_lower {b:Int} {zs:List Int} (hb:1<b) (h:InR b zs) (hz:NoZ zs) (hne:zs≠[]):b^(zs.length-1)≤val b zs:=by
 induction zs with
 |nil=>exact absurd rfl hne
 |cons z zs ih=>
  cases zs with
  |nil=>
   have h0:z≠0:=by intro e;subst e;exact hz rfl
   have:=h.head
   simp;omega
  |cons y ys=>
   have h1:NoZ (y :: ys):=by
    unfold NoZ at hz⊢
    rwa [List.getLast?_cons_cons] at hz
   have h2:=ih h.tail h1 (by simp)
   have h3:=h.head
   rw[val_cons]
   have h4:b*b^((y :: ys).length-1)≤b*val b (y :: ys):=Int.mul_le_mul_of_nonneg_left h2 (by omega)
   have h5:b^((z :: y :: ys).length-1)=b*b^((y :: ys).length-1):=by simp[Int.pow_succ,Int.mul_comm]
   omega
def Canon (b:Int) (zs:List Int):Prop:=InR b zs∧NoZ zs
theorem canon_trimL {b:Int} {zs:List Int} (h:InR b zs):Canon b (trimL zs):=⟨h.trimL,trimL_noZ zs⟩
theorem Canon.nil {b:Int}:Canon b []:=⟨InR.nil,by simp[NoZ]⟩
theorem canon_len_mono {b:Int} {xs ys:List Int} (hb:1<b) (hx:Canon b xs) (hy:InR b ys) (h:val b xs≤val b ys):xs.length≤ys.length:=by
 rcases Nat.lt_or_ge ys.length xs.length with hl|hl
 ·have hne:xs≠[]:=by intro e;subst e;simp at hl
  have h1:=val_lower hb hx.1 hx.2 hne
  have h2:=val_lt (by omega) hy
  have h3:b^ys.length≤b^(xs.length-1):=ipow_mono (by omega) (by omega)
  omega
 ·exact hl
theorem mod_unique {b x y p q:Int} (h0:0≤x) (h1:x<b) (h2:0≤y) (h3:y<b) (h:x+b*p=y+b*q):x=y∧p=q:=by
 have hb:b≠0:=by omega
 have e1:(x+b*p)%b=x:=by rw[Int.add_mul_emod_self_left];exact Int.emod_eq_of_lt h0 h1
 have e2:(y+b*q)%b=y:=by rw[Int.add_mul_emod_self_left];exact Int.emod_eq_of_lt h2 h3
 have hxy:x=y:=by rw[←e1,←e2,h]
 subst hxy
 exact⟨rfl,Int.eq_of_mul_eq_mul_left hb (by omega)⟩
theorem val_inj_len {b:Int} {xs ys:List Int} (hx:InR b xs) (hy:InR b ys) (hl:xs.length=ys.length) (h:val b xs=val b ys):xs=ys:=by
 induction xs generalizing ys with
 |nil=>cases ys with
  |nil=>rfl
  |cons y ys=>simp at hl
 |cons x xs ih=>
  cases ys with
  |nil=>simp at hl
  |cons y ys=>
   simp only[val_cons] at h
   have h1:=hx.head;have h2:=hy.head
   obtain⟨rfl,h'⟩:=mod_unique h1.1 h1.2 h2.1 h2.2 h
   rw[ih hx.tail hy.tail (by simpa using hl) h']
theorem canon_inj {b:Int} {xs ys:List Int} (hb:1<b) (hx:Canon b xs) (hy:Canon b ys) (h:val b xs=val b ys):xs=ys:=
 val_inj_len hx.1 hy.1 (Nat.le_antisymm (canon_len_mono hb hx hy.1 (by omega)) (canon_len_mono hb hy hx.1 (by omega))) h
theorem canon_val_zero {b:Int} {xs:List Int} (hb:1<b) (hx:Canon b xs) (h:val b xs=0):xs=[]:=canon_inj hb hx Canon.nil (by simpa using h)
def dig (b:Nat) (n:Nat):List Int:=
 if _h:n=0∨b<2 then [] else ((n%b:Nat):Int) :: dig b (n/b)
termination_by n
decreasing_by
 have:n/b<n:=Nat.div_lt_self (by omega) (by omega)
 exact this
theorem dig_zero (b:Nat):dig b 0=[]:=by rw[dig];simp
theorem val_dig (b n:Nat) (hb:2≤b):val b (dig b n)=n:=by
 induction n using Nat.strongRecOn with
 |ind n ih=>
  rw[dig]
  split
  ·rename_i h;rcases h with h|h
   ·subst h;rfl
   ·omega
  ·rename_i h
   have hlt:n/b<n:=Nat.div_lt_self (by omega) (by omega)
   rw[val_cons,ih _ hlt,←Int.natCast_mul,←Int.natCast_add,Nat.mod_add_div]
theorem inR_dig (b n:Nat) (hb:2≤b):InR b (dig b n):=by
 induction n using Nat.strongRecOn with
 |ind n ih=>
  rw[dig]
  split
  ·exact InR.nil
  ·rename_i h
   have hlt:n/b<n:=Nat.div_lt_self (by omega) (by omega)
   refine InR.cons (by omega) ?_ (ih _ hlt)
   have:=Nat.mod_lt n (show 0<b by omega)
   omega
theorem canon_dig (b n:Nat) (hb:2≤b):Canon b (dig b n):=by
 refine⟨inR_dig b n hb,?_⟩
 unfold NoZ
 induction n using Nat.strongRecOn with
 |ind n ih=>
  rw[dig]
  split
  ·simp
  ·rename_i h
   have hlt:n/b<n:=Nat.div_lt_self (by omega) (by omega)
   have:=ih _ hlt
   cases hd:dig b (n/b) with
   |nil=>
    have hv:=val_dig b (n/b) hb
    rw[hd] at hv
    have h0:n/b=0:=by
     have:((n/b:Nat):Int)=0:=by rw[←hv];rfl
     omega
    have h1:n<b:=by
     rcases Nat.lt_or_ge n b with h1|h1
     ·exact h1
     ·have:=Nat.div_pos h1 (by omega);omega
    rw[Nat.mod_eq_of_lt h1]
    simp;omega
   |cons y ys=>rw[List.getLast?_cons_cons,←hd];exact this
theorem dig_of_canon {b:Nat} (hb:2≤b) {zs:List Int} (h:Canon b zs):dig b (val b zs).toNat=zs:=by
 have h0:=val_nonneg (show(0:Int)<(b:Int) by omega) h.1
 exact canon_inj (by omega) (canon_dig b _ hb) h (by rw[val_dig b _ hb];omega)
end Sos
namespace Go.Proofs.YtlojjipfnejbnaaGreatDoor
class CR (R:Type) [Add R] [Mul R] [Sub R] [OfNat R 0]:Prop where
 add_comm:∀a b:R,a+b=b+a
 add_assoc:∀a b c:R,a+b+c=a+(b+c)
 add_zero:∀a:R,a+0=a
 mul_comm:∀a b:R,a*b=b*a
 mul_assoc:∀a b c:R,a*b*c=a*(b*c)
 mul_zero:∀a:R,a*0=0
 mul_add:∀a b c:R,a*(b+c)=a*b+a*c
 add_sub:∀a b:R,a+(b-a)=b
instance:CR Int:=⟨Int.add_comm,Int.add_assoc,Int.add_zero,Int.mul_comm,Int.mul_assoc,Int.mul_zero,Int.mul_add,fun a b=>by omega⟩
instance:CR Rat:=⟨Rat.add_comm,Rat.add_assoc,Rat.add_zero,Rat.mul_comm,Rat.mul_assoc,Rat.mul_zero,Rat.mul_add,fun a b=>by grind⟩
section
variable {R:Type} [Add R] [OfNat R 0]
def sumTo (f:Nat→R):Nat→R
 |0=>0
 |n+1=>sumTo f n+f n
theorem sumTo_congr {f g:Nat→R} {n:Nat} (h:∀k,k<n→f k=g k):sumTo f n=sumTo g n:=by
 induction n with
 |zero=>rfl
 |succ n ih=>rw[sumTo,sumTo,ih (fun k hk=>h k (by omega)),h n (by omega)]
variable [Mul R]
def conv (p q:Nat→R):Nat→R:=fun i=>sumTo (fun k=>p k*q (i-k)) (i+1)
theorem conv_congr {p p' q q':Nat→R} (h:∀i,p i=p' i) (h':∀i,q i=q' i) (i:Nat):conv p q i=conv p' q' i:=
 sumTo_congr (fun k _=>by rw[h,h'])
variable [Sub R] [CR R]
theorem zero_add' (a:R):0+a=a:=by rw[CR.add_comm,CR.add_zero]
theorem zero_mul' (a:R):0*a=0:=by rw[CR.mul_comm,CR.mul_zero]
theorem add_mul' (a b c:R):(a+b)*c=a*c+b*c:=by rw[CR.mul_comm,CR.mul_add,CR.mul_comm c a,CR.mul_comm c b]
theorem add_four (a b c d:R):a+b+(c+d)=a+c+(b+d):=by
 rw[CR.add_assoc,←CR.add_assoc b c d,CR.add_comm b c,CR.add_assoc c b d,←CR.add_assoc]
theorem sumTo_add (f g:Nat→R) (n:Nat):sumTo (fun k=>f k+g k) n=sumTo f n+sumTo g n:=by
 induction n with
 |zero=>simp only[sumTo];exact(CR.add_zero 0).symm
 |succ n ih=>simp only[sumTo,ih];exact add_four _ _ _ _
theorem sumTo_mul (c:R) (f:Nat→R) (n:Nat):sumTo (fun k=>c*f k) n=c*sumTo f n:=by
 induction n with
 |zero=>simp only[sumTo];exact(CR.mul_zero c).symm
 |succ n ih=>simp only[sumTo,ih];exact(CR.mul_add _ _ _).symm
theorem sumTo_zero {f:Nat→R} {n:Nat} (h:∀k,k<n→f k=0):sumTo f n=0:=by
 induction n with
 |zero=>rfl
 |succ n ih=>rw[sumTo,ih (fun k hk=>h k (by omega)),h n (by omega)];exact CR.add_zero 0
theorem sumTo_split (f:Nat→R) (m n:Nat):sumTo f (m+n)=sumTo f m+sumTo (fun k=>f (m+k)) n:=by
 induction n with
 |zero=>simp only[sumTo,Nat.add_zero];exact(CR.add_zero _).symm
 |succ n ih=>rw[←Nat.add_assoc,sumTo,sumTo,ih];exact CR.add_assoc _ _ _
theorem sumTo_one {f:Nat→R} {n j:Nat} (hj:j<n) (h:∀k,k<n→k≠j→f k=0):sumTo f n=f j:=by
 induction n with
 |zero=>omega
 |succ n ih=>
  rw[sumTo]
  by_cases e:j=n
  ·subst e;rw[sumTo_zero (fun k hk=>h k (by omega) (by omega))];exact zero_add' _
  ·rw[ih (by omega) (fun k hk hne=>h k (by omega) hne),h n (by omega) (fun e'=>e e'.symm)];exact CR.add_zero _
theorem sumTo_front (f:Nat→R) (n:Nat):sumTo f (n+1)=f 0+sumTo (fun k=>f (k+1)) n:=by
 rw[Nat.add_comm n 1,sumTo_split]
 simp only[sumTo,Nat.add_comm 1]
 rw[zero_add']
theorem sumTo_rev (f:Nat→R) (n:Nat):sumTo f n=sumTo (fun k=>f (n-1-k)) n:=by
 induction n with
 |zero=>rfl
 |succ n ih=>
  rw[sumTo_front (fun k=>f (n+1-1-k)),sumTo,ih]
  have:sumTo (fun k=>f (n+1-1-(k+1))) n=sumTo (fun k=>f (n-1-k)) n:=sumTo_congr (fun k hk=>by congr 1;omega)
  rw[this]
  simp only[Nat.add_sub_cancel,Nat.sub_zero]
  exact CR.add_comm _ _
theorem sumTo_swap (f:Nat→Nat→R) (m n:Nat):sumTo (fun i=>sumTo (fun j=>f i j) n) m=sumTo (fun j=>sumTo (fun i=>f i j) m) n:=by
 induction m with
 |zero=>simp only[sumTo];exact(sumTo_zero (fun _ _=>rfl)).symm
 |succ m ih=>simp only[sumTo,ih,sumTo_add]
theorem conv_add_left (p p' q:Nat→R) (i:Nat):conv (fun k=>p k+p' k) q i=conv p q i+conv p' q i:=by
 unfold conv
 rw[←sumTo_add]
 exact sumTo_congr (fun k _=>add_mul' _ _ _)
theorem conv_mul_left (c:R) (p q:Nat→R) (i:Nat):conv (fun k=>c*p k) q i=c*conv p q i:=by
 unfold conv
 rw[←sumTo_mul]
 exact sumTo_congr (fun k _=>CR.mul_assoc _ _ _)
theorem conv_comm (p q:Nat→R) (i:Nat):conv p q i=conv q p i:=by
 unfold conv
 rw[sumTo_rev]
 refine sumTo_congr (fun k hk=> ?_)
 rw[show i+1-1-k=i-k by omega,show i-(i-k)=k by omega]
 exact CR.mul_comm _ _
theorem conv_add_right (p q q':Nat→R) (i:Nat):conv p (fun k=>q k+q' k) i=conv p q i+conv p q' i:=by
 rw[conv_comm,conv_add_left,conv_comm q,conv_comm q']
theorem conv_mul_right (c:R) (p q:Nat→R) (i:Nat):conv p (fun k=>c*q k) i=c*conv p q i:=by
 rw[conv_comm,conv_mul_left,conv_comm q]
theorem conv_zero_left {p q:Nat→R} (h:∀i,p i=0) (i:Nat):conv p q i=0:=
 sumTo_zero (fun k _=>by rw[h];exact zero_mul' _)
theorem conv_mono (c:R) (j:Nat) (q:Nat→R) (i:Nat):conv (fun k=>if k=j then c else 0) q i=if j≤i then c*q (i-j) else 0:=by
 unfold conv
 by_cases h:j≤i
 ·rw[if_pos h,sumTo_one (j:=j) (by omega) (fun k _ hne=>by simp only[if_neg hne];exact zero_mul' _)]
  simp only[if_true]
 ·rw[if_neg h]
  exact sumTo_zero (fun k hk=>by simp only[if_neg (show¬k=j by omega)];exact zero_mul' _)
theorem conv_top {p q:Nat→R} {m n:Nat} (hp:∀i,m≤i→p i=0) (hq:∀i,n≤i→q i=0) {i:Nat} (hi:m+n≤i+1):conv p q i=0:=by
 refine sumTo_zero (fun k hk=> ?_)
 by_cases h:m≤k
 ·rw[hp k h];exact zero_mul' _
 ·rw[hq (i-k) (by omega)];exact CR.mul_zero _
theorem conv_lead {p q:Nat→R} {m n:Nat} (hp:∀i,m<i→p i=0) (hq:∀i,n<i→q i=0):conv p q (m+n)=p m*q n:=by
 unfold conv
 rw[sumTo_one (j:=m) (by omega) (fun k hk hne=> ?_),show m+n-m=n by omega]
 by_cases h:m<k
 ·rw[hp k h];exact zero_mul' _
 ·rw[hq (m+n-k) (by omega)];exact CR.mul_zero _
theorem pqr_step (m:R) (w q v rest:Nat→R) (n k:Nat) (hn:0<n) (hv:∀i,n≤i→v i=0) (hr:∀i,n+k≤i→rest i=0)
  (hid:∀i,m*w i=conv q v i+rest i) (i:Nat):
  (m*v (n-1))*w i=conv (fun j=>q j*v (n-1)+(if j=k then rest (n-1+k) else 0)) v i+(if i<n-1+k then rest i*v (n-1)-(if k≤i then rest (n-1+k)*v (i-k) else 0) else 0):=by
 have h1:conv (fun j=>q j*v (n-1)+(if j=k then rest (n-1+k) else 0)) v i=v (n-1)*conv q v i+(if k≤i then rest (n-1+k)*v (i-k) else 0):=by
  rw[conv_add_left,conv_mono]
  congr 1
  rw[←conv_mul_left]
  exact conv_congr (fun j=>CR.mul_comm _ _) (fun _=>rfl) i
 rw[h1]
 have h2:=hid i
 have h3:m*v (n-1)*w i=v (n-1)*conv q v i+v (n-1)*rest i:=by
  rw[CR.mul_comm m,CR.mul_assoc,h2,CR.mul_add]
 rw[h3]
 by_cases hlt:i<n-1+k
 ·rw[if_pos hlt,CR.add_assoc,CR.add_sub,CR.mul_comm (rest i)]
 ·rw[if_neg hlt,if_pos (by omega),CR.add_zero]
  by_cases he:i=n-1+k
  ·subst he
   rw[show n-1+k-k=n-1 by omega,CR.mul_comm (rest _)]
  ·rw[hv (i-k) (by omega),hr i (by omega),CR.mul_zero,CR.mul_zero]
end
section
variable {α:Type}
def trimG (z:α→Bool):List α→List α
 |[]=>[]
 |a :: l=>match trimG z l with
  |[]=>if z a then [] else [a]
  |b :: m=>a :: b :: m
theorem trimG_snoc (z:α→Bool) (l:List α) (a:α):trimG z (l++[a])=if z a then trimG z l else l++[a]:=by
 induction l with
 |nil=>simp[trimG]
 |cons b l ih=>
  rw[List.cons_append,trimG,ih]
  by_cases h:z a=true
  ·simp only[if_pos h];rfl
  ·simp only[if_neg h]
   cases l with
   |nil=>rfl
   |cons c m=>rfl
theorem trimG_ends (z:α→Bool) (l:List α):∃m,l=trimG z l++m∧(∀a∈m,z a=true)∧∀a,(trimG z l).getLast?=some a→z a=false:=by
 induction l with
 |nil=>exact⟨[],rfl,(fun _ h=>by cases h),(fun a h=>by simp[trimG] at h)⟩
 |cons b l ih=>
  obtain⟨m,h1,h2,h3⟩:=ih
  rw[trimG]
  cases ht:trimG z l with
  |nil=>
   rw[ht,List.nil_append] at h1
   by_cases h:z b=true
   ·refine⟨b :: m,by simp[h,h1],fun a ha=> ?_,fun a ha=>by simp[h] at ha⟩
    rcases List.mem_cons.1 ha with rfl|ha
    ·exact h
    ·exact h2 a ha
   ·refine⟨m,by simp[h,h1],h2,fun a ha=> ?_⟩
    simp[h] at ha
    subst ha;simpa using h
  |cons c k=>
   refine⟨m,by rw[ht] at h1;simp[h1],h2,fun a ha=>h3 a ?_⟩
   rw[ht]
   rw[List.getLast?_cons_cons] at ha
   exact ha
theorem trimG_len (z:α→Bool) (l:List α):(trimG z l).length≤l.length:=by
 obtain⟨m,h,_⟩:=trimG_ends z l
 have:=congrArg List.length h
 rw[List.length_append] at this
 omega
theorem trimG_take (z:α→Bool) (l:List α):trimG z l=l.take (trimG z l).length:=by
 obtain⟨m,h,_⟩:=trimG_ends z l
 have:(trimG z l++m).take (trimG z l).length=trimG z l:=by simp
 rw[←h] at this
 exact this.symm
theorem trimG_self {z:α→Bool} {l:List α} (h:∀a,l.getLast?=some a→z a=false):trimG z l=l:=by
 obtain⟨m,h1,h2,_⟩:=trimG_ends z l
 by_cases hm:m=[]
 ·rw[hm,List.append_nil] at h1;exact h1.symm
 ·exfalso
  have hl:=List.getLast?_eq_some_getLast hm
  have:l.getLast?=some (m.getLast hm):=by
   rw[h1,List.getLast?_append,hl];rfl
  have e:=h _ this
  rw[h2 _ (List.getLast_mem hm)] at e
  cases e
theorem trimG_down (z:α→Bool) (l:List α) {n:Nat} {a:α} (h:l[n]? =some a) (hz:z a=true):trimG z (l.take (n+1))=trimG z (l.take n):=by
 rw[List.take_add_one,h,Option.toList_some,trimG_snoc,if_pos hz]
theorem trimG_stop (z:α→Bool) (l:List α) {n:Nat} {a:α} (h:l[n]? =some a) (hz:z a=false):trimG z (l.take (n+1))=l.take (n+1):=by
 rw[List.take_add_one,h,Option.toList_some,trimG_snoc,if_neg (by rw[hz];simp)]
theorem trimG_mem {z:α→Bool} {l:List α} {a:α} (h:a∈trimG z l):a∈l:=by
 rw[trimG_take] at h;exact List.mem_of_mem_take h
end
section
variable {α:Type} [OfNat α 0]
def cf (l:List α) (i:Nat):α:=l.getD i 0
def Trimmed (l:List α):Prop:=∀a,l.getLast?=some a→a≠0
theorem cf_nil (i:Nat):cf ([]:List α) i=0:=by simp[cf]
theorem cf_of {l:List α} {i:Nat} {a:α} (h:l[i]? =some a):cf l i=a:=by simp[cf,h]
theorem cf_get {l:List α} {i:Nat} (h:i<l.length):cf l i=l[i]:=by simp[cf,h]
theorem cf_top {l:List α} {i:Nat} (h:l.length≤i):cf l i=0:=by simp[cf,h]
theorem cf_map {β:Type} [OfNat β 0] (f:β→α) (h:f 0=0) (l:List β) (i:Nat):cf (l.map f) i=f (cf l i):=by
 unfold cf
 rw[List.getD_eq_getElem?_getD,List.getD_eq_getElem?_getD,List.getElem?_map]
 cases l[i]? <;>simp[h]
theorem cf_range (f:Nat→α) (n i:Nat):cf ((List.range n).map f) i=if i<n then f i else 0:=by
 unfold cf
 rw[List.getD_eq_getElem?_getD,List.getElem?_map]
 by_cases h:i<n
 ·rw[if_pos h,List.getElem?_range h];rfl
 ·rw[if_neg h,List.getElem?_eq_none (by simpa using h)];rfl
theorem cf_last {l:List α} {a:α} (h:l.getLast?=some a):cf l (l.length-1)=a:=by
 rw[List.getLast?_eq_getElem?] at h
 exact cf_of h
theorem trim_ext {a b:List α} (ha:Trimmed a) (hb:Trimmed b) (h:∀i,cf a i=cf b i):a=b:=by
 have key:∀{a b:List α},Trimmed a→(∀i,cf a i=cf b i)→a.length≤b.length:=by
  intro a b ha h
  rcases Nat.lt_or_ge b.length a.length with hl|hl
  ·exfalso
   have hne:a≠[]:=by intro e;rw[e] at hl;simp at hl
   have h1:=List.getLast?_eq_some_getLast hne
   have h2:=cf_last h1
   rw[h,cf_top (by omega)] at h2
   exact ha _ h1 h2.symm
  ·exact hl
 have hl:a.length=b.length:=Nat.le_antisymm (key ha h) (key hb (fun i=>(h i).symm))
 refine List.ext_getElem hl (fun i h1 h2=> ?_)
 have:=h i
 rw[cf_get h1,cf_get h2] at this
 exact this
variable [DecidableEq α]
def isZ (a:α):Bool:=decide (a=0)
theorem trimmed_trim (l:List α):Trimmed (trimG isZ l):=by
 intro a ha
 obtain⟨m,_,_,h⟩:=trimG_ends isZ l
 have:=h a ha
 simpa [isZ] using this
theorem trim_self {l:List α} (h:Trimmed l):trimG isZ l=l:=trimG_self (fun a ha=>by simpa [isZ] using h a ha)
theorem cf_trim (l:List α) (i:Nat):cf (trimG isZ l) i=cf l i:=by
 obtain⟨m,h1,h2,_⟩:=trimG_ends isZ l
 by_cases h:i<(trimG isZ l).length
 ·unfold cf
  conv=>rhs;rw[h1]
  simp[List.getElem?_append_left h]
 ·rw[cf_top (by omega)]
  by_cases hi:i<l.length
  ·rw[cf_get hi]
   have hm:l[i]∈m:=by
    have e:l[i]? =m[i-(trimG isZ l).length]? :=by
     conv=>lhs;rw[h1]
     rw[List.getElem?_append_right (by omega)]
    rw[List.getElem?_eq_getElem hi] at e
    exact List.mem_of_getElem? e.symm
   have:=h2 _ hm
   exact(by simpa [isZ] using this:l[i]=0).symm
  ·rw[cf_top (by omega)]
end
def timesL (a b:List Int):List Int:=if a=[]∨b=[] then [] else (List.range (a.length+b.length-1)).map (conv (cf a) (cf b))
theorem cf_times (a b:List Int) (i:Nat):cf (timesL a b) i=conv (cf a) (cf b) i:=by
 unfold timesL
 by_cases h:a=[]∨b=[]
 ·rw[if_pos h,cf_nil]
  rcases h with h|h
  ·rw[h,conv_zero_left (fun i=>cf_nil i)]
  ·rw[h,conv_comm,conv_zero_left (fun i=>cf_nil i)]
 ·rw[if_neg h,cf_range]
  split
  ·rfl
  ·have ha:a.length≠0:=fun e=>h (.inl (List.eq_nil_of_length_eq_zero e))
   have hb:b.length≠0:=fun e=>h (.inr (List.eq_nil_of_length_eq_zero e))
   exact(conv_top (fun i hi=>cf_top hi) (fun i hi=>cf_top hi) (by omega)).symm
theorem cast_sum (f:Nat→Int) (n:Nat):((sumTo f n:Int):Rat)=sumTo (fun k=>(f k:Rat)) n:=by
 induction n with
 |zero=>rfl
 |succ n ih=>rw[sumTo,sumTo,Rat.intCast_add,ih]
theorem cast_conv (p q:Nat→Int) (i:Nat):((conv p q i:Int):Rat)=conv (fun k=>(p k:Rat)) (fun k=>(q k:Rat)) i:=by
 unfold conv
 rw[cast_sum]
 exact sumTo_congr (fun k _=>by rw[Rat.intCast_mul])
theorem div_law {A B:Nat→Rat} {x y q r:Nat→Int} {xd yd m:Int} (hx:∀i,(x i:Rat)=A i*xd) (hy:∀i,(y i:Rat)=B i*yd) (hxd:xd≠0) (hyd:yd≠0) (hm:m≠0)
  (h:∀i,m*x i=conv q y i+r i) (i:Nat):
  conv (fun k=>(q k*yd:Rat)/(xd*m)) B i+(r i:Rat)/(xd*m)=A i:=by
 have hxd':(xd:Rat)≠0:=fun e=>hxd (Rat.intCast_inj.1 e)
 have hyd':(yd:Rat)≠0:=fun e=>hyd (Rat.intCast_inj.1 e)
 have hm':(m:Rat)≠0:=fun e=>hm (Rat.intCast_inj.1 e)
 have h1:=congrArg (fun z:Int=>(z:Rat)) (h i)
 simp only[Rat.intCast_mul,Rat.intCast_add,cast_conv] at h1
 have h2:conv (fun k=>(q k:Rat)) (fun k=>(y k:Rat)) i=yd*conv (fun k=>(q k:Rat)) B i:=by
  rw[←conv_mul_right]
  exact conv_congr (fun _=>rfl) (fun j=>by rw[hy];grind) i
 have h3:conv (fun k=>(q k*yd:Rat)/(xd*m)) B i=(yd/(xd*m))*conv (fun k=>(q k:Rat)) B i:=by
  rw[←conv_mul_left]
  exact conv_congr (fun j=>by grind) (fun _=>rfl) i
 rw[h3]
 rw[h2,hx] at h1
 grind
def W32:Nat:=4294967296
theorem W32_pos:0<W32:=by decide
def nv:List Nat→Nat
 |[]=>0
 |d :: l=>d+W32*nv l
def Dg (l:List Nat):Prop:=∀d∈l,d<W32
theorem nv_nil:nv []=0:=rfl
theorem nv_append (l m:List Nat):nv (l++m)=nv l+W32^l.length*nv m:=by
 induction l with
 |nil=>simp[nv]
 |cons d l ih=>
  rw[List.cons_append,nv,nv,ih,List.length_cons,Nat.pow_succ,Nat.mul_add,Nat.mul_comm (W32^l.length) W32,Nat.mul_assoc]
  omega
theorem nv_zeros (n:Nat):nv (List.replicate n 0)=0:=by
 induction n with
 |zero=>rfl
 |succ n ih=>rw[List.replicate_succ,nv,ih];rfl
theorem nv_lt {l:List Nat} (h:Dg l):nv l<W32^l.length:=by
 induction l with
 |nil=>simp[nv]
 |cons d l ih=>
  have h1:=ih (fun x hx=>h x (List.mem_cons_of_mem _ hx))
  have h2:=h d List.mem_cons_self
  rw[nv,List.length_cons,Nat.pow_succ,Nat.mul_comm]
  have h3:(nv l+1)*W32≤W32^l.length*W32:=Nat.mul_le_mul_right _ h1
  rw[Nat.add_mul] at h3
  omega
theorem nv_take {l:List Nat} {i d:Nat} (h:l[i]? =some d):nv (l.take (i+1))=nv (l.take i)+W32^i*d:=by
 have hi:=(List.getElem?_eq_some_iff.1 h).1
 rw[List.take_succ_eq_append_getElem hi,nv_append,nv,nv_nil,Nat.mul_zero,Nat.add_zero,List.length_take,Nat.min_eq_left (Nat.le_of_lt hi)]
 rw[List.getElem?_eq_getElem hi] at h
 injection h with h
 rw[h]
theorem nv_drop {l:List Nat} {i d:Nat} (h:l[i]? =some d):nv (l.drop i)=d+W32*nv (l.drop (i+1)):=by
 have hi:=(List.getElem?_eq_some_iff.1 h).1
 rw[List.drop_eq_getElem_cons hi,nv]
 rw[List.getElem?_eq_getElem hi] at h
 injection h with h
 rw[h]
theorem nv_set {l:List Nat} {i d:Nat} (x:Nat) (h:l[i]? =some d):nv (l.set i x)+W32^i*d=nv l+W32^i*x:=by
 induction l generalizing i with
 |nil=>simp at h
 |cons e l ih=>
  cases i with
  |zero=>
   simp at h
   subst h
   rw[List.set_cons_zero,nv,nv,Nat.pow_zero]
   omega
  |succ i=>
   rw[List.set_cons_succ,nv,nv,Nat.pow_succ,Nat.mul_comm (W32^i) W32,Nat.mul_assoc,Nat.mul_assoc]
   have h1:=ih (i:=i) (by simpa using h)
   have h2:W32*nv (l.set i x)+W32*(W32^i*d)=W32*nv l+W32*(W32^i*x):=by rw[←Nat.mul_add,←Nat.mul_add,h1]
   omega
theorem Dg.set {l:List Nat} (h:Dg l) (i:Nat) {x:Nat} (hx:x<W32):Dg (l.set i x):=fun d hd=>by
 rcases List.mem_or_eq_of_mem_set hd with h1|h1
 ·exact h d h1
 ·rw[h1];exact hx
theorem Dg.zeros (n:Nat):Dg (List.replicate n 0):=fun d hd=>by rw[(List.mem_replicate.1 hd).2];exact W32_pos
theorem Dg.take {l:List Nat} (h:Dg l) (n:Nat):Dg (l.take n):=fun d hd=>h d (List.mem_of_mem_take hd)
theorem Dg.get {l:List Nat} (h:Dg l) {i d:Nat} (hi:l[i]? =some d):d<W32:=h d (List.mem_of_getElem? hi)
theorem Dg.trim {l:List Nat} (h:Dg l):Dg (trimG isZ l):=fun d hd=>h d (trimG_mem hd)
theorem nv_trim (l:List Nat):nv (trimG isZ l)=nv l:=by
 obtain⟨m,h1,h2, -⟩:=trimG_ends isZ l
 have hz:nv m=0:=by
  clear h1
  induction m with
  |nil=>rfl
  |cons d m ih=>
   have h:=h2 d List.mem_cons_self
   have h0:d=0:=by simpa [isZ] using h
   rw[nv,ih (fun a ha=>h2 a (List.mem_cons_of_mem _ ha)),h0];rfl
 have h3:=nv_append (trimG isZ l) m
 rw[←h1,hz,Nat.mul_zero,Nat.add_zero] at h3
 exact h3.symm
theorem nv_ge {l:List Nat} (ht:Trimmed l) (h0:l≠[]):W32^(l.length-1)≤nv l:=by
 obtain⟨m,d,rfl⟩:∃m d,l=m++[d]:=⟨l.dropLast,l.getLast h0,(List.dropLast_concat_getLast h0).symm⟩
 have hd:d≠0:=ht d (by simp)
 rw[nv_append,nv,nv_nil,Nat.mul_zero,Nat.add_zero,List.length_append,List.length_singleton,Nat.add_sub_cancel]
 have:W32^m.length*1≤W32^m.length*d:=Nat.mul_le_mul_left _ (by omega)
 omega
theorem nv_short {a b:List Nat} (ha:Dg a) (tb:Trimmed b) (h:a.length<b.length):nv a<nv b:=by
 have b0:b≠[]:=fun e=>by rw[e] at h;simp at h
 have h1:=nv_lt ha
 have h2:=nv_ge tb b0
 have h3:W32^a.length≤W32^(b.length-1):=Nat.pow_le_pow_right W32_pos (by omega)
 omega
theorem nv_zero {l:List Nat} (ht:Trimmed l) (h:nv l=0):l=[]:=by
 by_cases h0:l=[]
 ·exact h0
 ·have:=nv_ge ht h0
  have h1:0<W32^(l.length-1):=Nat.pow_pos W32_pos
  omega
theorem nv_eq_len {a b:List Nat} (ha:Dg a) (hb:Dg b) (hl:a.length=b.length) (h:nv a=nv b):a=b:=by
 induction a generalizing b with
 |nil=>exact(List.eq_nil_of_length_eq_zero hl.symm).symm
 |cons d a ih=>
  cases b with
  |nil=>simp at hl
  |cons e b=>
   rw[nv,nv] at h
   have h1:=ha d List.mem_cons_self
   have h2:=hb e List.mem_cons_self
   have hde:d=e:=by
    have h3:(d+W32*nv a)%W32=(e+W32*nv b)%W32:=by rw[h]
    rwa [Nat.add_mul_mod_self_left,Nat.add_mul_mod_self_left,Nat.mod_eq_of_lt h1,Nat.mod_eq_of_lt h2] at h3
   subst hde
   have h4:W32*nv a=W32*nv b:=by omega
   rw[ih (fun x hx=>ha x (List.mem_cons_of_mem _ hx)) (fun x hx=>hb x (List.mem_cons_of_mem _ hx)) (by simpa using hl) (Nat.eq_of_mul_eq_mul_left W32_pos h4)]
theorem nv_inj {a b:List Nat} (ha:Dg a) (hb:Dg b) (ta:Trimmed a) (tb:Trimmed b) (h:nv a=nv b):a=b:=by
 rcases Nat.lt_trichotomy a.length b.length with hl|hl|hl
 ·have:=nv_short ha tb hl;omega
 ·exact nv_eq_len ha hb hl h
 ·have:=nv_short hb ta hl;omega
theorem nv_cmp {a b:List Nat} (ha:Dg a) (hb:Dg b) {i x y:Nat} (hx:a[i]? =some x) (hy:b[i]? =some y) (hl:a.length=b.length) (hd:a.drop (i+1)=b.drop (i+1)) (h:x<y):nv a<nv b:=by
 have hi:=(List.getElem?_eq_some_iff.1 hx).1
 have e1:nv a=nv (a.take i)+W32^i*(x+W32*nv (a.drop (i+1))):=by
  rw[←nv_drop hx]
  conv=>lhs;rw[←List.take_append_drop i a,nv_append,List.length_take,Nat.min_eq_left (Nat.le_of_lt hi)]
 have e2:nv b=nv (b.take i)+W32^i*(y+W32*nv (b.drop (i+1))):=by
  rw[←nv_drop hy]
  conv=>lhs;rw[←List.take_append_drop i b,nv_append,List.length_take,Nat.min_eq_left (by omega)]
 have h1:=nv_lt (ha.take i)
 rw[List.length_take,Nat.min_eq_left (Nat.le_of_lt hi)] at h1
 rw[e1,e2,hd]
 have h2:W32^i*(x+W32*nv (b.drop (i+1)))+W32^i≤W32^i*(y+W32*nv (b.drop (i+1))):=by
  rw[←Nat.mul_succ]
  exact Nat.mul_le_mul_left _ (by omega)
 omega
theorem nat_or_add {x y s:Nat} (hx:x<2^s):2^s*y ||| x=2^s*y+x:=(Nat.two_pow_add_eq_or_of_lt hx y).symm
section
variable {α:Type} {P Q:List α} {x y:α} {i:Nat}
theorem mid_get (h:P.length=i):(P++x :: Q)[i]? =some x:=by subst h;rw[List.getElem?_append_right (Nat.le_refl _),Nat.sub_self];rfl
theorem mid_set (h:P.length=i):(P++x :: Q).set i y=(P++[y])++Q:=by
 subst h
 rw[List.set_append_right _ _ (Nat.le_refl _),Nat.sub_self,List.set_cons_zero,List.append_assoc];rfl
theorem snoc_len (h:P.length=i):(P++[x]).length=i+1:=by rw[List.length_append,h];rfl
end
theorem nv_pad (l:List Nat) (k:Nat):nv (l++List.replicate k 0)=nv l:=by rw[nv_append,nv_zeros,Nat.mul_zero,Nat.add_zero]
theorem nv_snoc {l:List Nat} {i:Nat} (x:Nat) (h:l.length=i):nv (l++[x])=nv l+W32^i*x:=by subst h;rw[nv_append,nv,nv_nil,Nat.mul_zero,Nat.add_zero]
theorem Dg.app {l m:List Nat} (h:Dg l) (k:Dg m):Dg (l++m):=fun d hd=>(List.mem_append.1 hd).elim (h d) (k d)
theorem Dg.snoc {l:List Nat} (h:Dg l) {x:Nat} (hx:x<W32):Dg (l++[x]):=h.app (fun d hd=>by rw[List.mem_singleton.1 hd];exact hx)
theorem Dg.drop {l:List Nat} (h:Dg l) (n:Nat):Dg (l.drop n):=fun d hd=>h d (List.mem_of_mem_drop hd)
theorem nv_end {l:List Nat} {i:Nat} (h:l.length≤i):nv (l.take i)=nv l:=by rw[List.take_of_length_le h]
def dgt (l:List Nat) (i:Nat):Nat:=l.getD i 0
theorem dgt_of {l:List Nat} {i d:Nat} (h:l[i]? =some d):dgt l i=d:=by unfold dgt;rw[List.getD_eq_getElem?_getD,h];rfl
theorem dgt_top {l:List Nat} {i:Nat} (h:l.length≤i):dgt l i=0:=by unfold dgt;rw[List.getD_eq_getElem?_getD,List.getElem?_eq_none h];rfl
theorem dgt_lt {l:List Nat} (h:Dg l) (i:Nat):dgt l i<W32:=by
 by_cases hi:i<l.length
 ·rw[dgt_of (List.getElem?_eq_getElem hi)];exact h _ (List.getElem_mem hi)
 ·rw[dgt_top (by omega)];exact W32_pos
theorem nv_next (l:List Nat) (i:Nat):nv (l.take (i+1))=nv (l.take i)+W32^i*dgt l i:=by
 by_cases hi:i<l.length
 ·rw[dgt_of (List.getElem?_eq_getElem hi)];exact nv_take (List.getElem?_eq_getElem hi)
 ·rw[dgt_top (by omega),nv_end (by omega),nv_end (by omega),Nat.mul_zero,Nat.add_zero]
theorem nv_split (l:List Nat) (i:Nat):nv l=nv (l.take i)+W32^i*nv (l.drop i):=by
 by_cases h:i≤l.length
 ·conv=>lhs;rw[←List.take_append_drop i l,nv_append,List.length_take,Nat.min_eq_left h]
 ·rw[List.drop_of_length_le (by omega),nv_end (by omega),nv_nil,Nat.mul_zero,Nat.add_zero]
theorem step_up {l:List Nat} {i A c s q:Nat} (hl:l.length=i) (h:nv l+W32^i*c=A) (hs:s=c+q):nv (l++[s%W32])+W32^(i+1)*(s/W32)=A+W32^i*q:=by
 rw[nv_snoc _ hl,Nat.pow_succ,Nat.mul_assoc,Nat.add_assoc,←Nat.mul_add,Nat.mod_add_div,hs,Nat.mul_add,←h,Nat.add_assoc]
theorem step_down {l:List Nat} {i A B b x u p c:Nat} (hl:l.length=i) (h:A+W32^i*b=nv l+B) (hu:u+W32*c=x+p+b):A+W32^i*u+W32^(i+1)*c=nv (l++[x])+(B+W32^i*p):=by
 have h1:W32^i*u+W32^(i+1)*c=W32^i*x+W32^i*p+W32^i*b:=by rw[Nat.pow_succ,Nat.mul_assoc,←Nat.mul_add,hu,Nat.mul_add,Nat.mul_add]
 rw[nv_snoc _ hl]
 omega
theorem mul_fit {a b c x:Nat} (ha:a<W32) (hb:b<W32) (hc:c<W32) (hx:x<W32):c+(a*b+x)<W32*W32∧(c+(a*b+x))/W32<W32:=by
 have h1:a*b≤(W32-1)*(W32-1):=Nat.mul_le_mul (by omega) (by omega)
 have h2:(W32-1)*(W32-1)+2*W32≤W32*W32+1:=by decide
 have h3:c+(a*b+x)<W32*W32:=by omega
 exact⟨h3,Nat.div_lt_of_lt_mul h3⟩
theorem small_step {a d r q r' o:Nat} (h:q*d+r'=r*W32+a):d*(q+W32*o)+r'=a+W32*(d*o+r):=by
 rw[Nat.mul_add,Nat.mul_add,←Nat.mul_assoc,←Nat.mul_assoc,Nat.mul_comm d q,Nat.mul_comm d W32,Nat.mul_comm W32 r]
 omega
theorem est_n1 {P U V V2 W qt h:Nat} (hP:0<P) (hV:V2*P≤V) (hU:U<(W+1)*P) (hq:qt*V≤U) (hc:W<h*V2):qt<h:=by
 have h1:qt*V2*P≤qt*V:=by rw[Nat.mul_assoc];exact Nat.mul_le_mul_left _ hV
 have h2:qt*V2<W+1:=Nat.lt_of_mul_lt_mul_right (a:=P) (by omega)
 exact Nat.lt_of_mul_lt_mul_right (a:=V2) (by omega)
theorem est_n2 {P U V V2 W qt h:Nat} (hP:0<P) (hV:V<(V2+1)*P) (hU:W*P≤U) (hq:U<(qt+1)*V) (hc:h*V2≤W) (hh:h≤V2):h≤qt+1:=by
 rcases Nat.lt_or_ge (qt+1) h with hl|hl
 ·obtain⟨g,rfl⟩:∃g,h=g+1:=⟨h-1,by omega⟩
  have h1:(qt+1)*V≤g*V:=Nat.mul_le_mul_right _ (by omega)
  have h2:g*V≤g*((V2+1)*P):=Nat.mul_le_mul_left _ (by omega)
  have h3:(g+1)*V2*P≤W*P:=Nat.mul_le_mul_right _ hc
  have h4:(g+1)*V2*P<g*(V2+1)*P:=by rw[Nat.mul_assoc g];omega
  have h5:(g+1)*V2<g*(V2+1):=Nat.lt_of_mul_lt_mul_right h4
  rw[Nat.add_mul,Nat.mul_add] at h5
  omega
 ·exact hl
structure Est (u2 u1 v1 qt h r:Nat):Prop where
 eq:h*v1+r=u2*W32+u1
 lo:qt≤h
 hi:h≤W32+1
theorem top2d {l:List Nat} {p:Nat} (h:l.length=p+2):nv l=nv (l.take p)+W32^p*(dgt l (p+1)*W32+dgt l p):=by
 rw[←nv_end (l:=l) (i:=p+2) (by omega),nv_next,nv_next,Nat.pow_succ,Nat.mul_assoc,Nat.add_assoc,←Nat.mul_add,Nat.add_comm (dgt l p),Nat.mul_comm W32]
theorem top2d_lo {l:List Nat} {p:Nat} (h:l.length=p+2):(dgt l (p+1)*W32+dgt l p)*W32^p≤nv l:=by rw[top2d h,Nat.mul_comm];omega
theorem top2d_hi {l:List Nat} {p:Nat} (hd:Dg l) (h:l.length=p+2):nv l<(dgt l (p+1)*W32+dgt l p+1)*W32^p:=by
 have h1:=nv_lt (hd.take p)
 rw[List.length_take,Nat.min_eq_left (by omega)] at h1
 rw[top2d h,Nat.add_mul _ 1,Nat.one_mul,Nat.mul_comm (W32^p)];omega
theorem Est.start {u2 u1 v1 v0 u0 qt P U V:Nat} (hV:(v1*W32+v0)*P≤V) (hU:U<((u2*W32+u1)*W32+u0+1)*P) (hq:qt*V≤U) (hn:W32≤2*v1) (hu:u2≤v1) (h1:u1<W32) (h0:u0<W32) (hv:v1<W32):
  Est u2 u1 v1 qt ((u2*W32+u1)/v1) ((u2*W32+u1)%v1)∧(u2*W32+u1)%v1<W32:=by
 have hv0:0<v1:=by unfold W32 at hn;omega
 have e:=Nat.div_add_mod (u2*W32+u1) v1
 have hr:=Nat.mod_lt (u2*W32+u1) hv0
 refine⟨⟨by rw[Nat.mul_comm];exact e,?_,Nat.le_of_lt_succ (Nat.div_lt_of_lt_mul ?_)⟩,by omega⟩
 ·rw[Nat.le_div_iff_mul_le hv0]
  have h2:qt*(v1*W32*P)≤qt*V:=Nat.mul_le_mul_left _ (Nat.le_trans (Nat.mul_le_mul_right _ (Nat.le_add_right _ v0)) hV)
  have h3:qt*v1*(W32*P)<(u2*W32+u1+1)*(W32*P):=by
   have h4:((u2*W32+u1)*W32+u0+1)*P≤((u2*W32+u1+1)*W32)*P:=Nat.mul_le_mul_right _ (by rw[Nat.add_mul _ 1];omega)
   rw[Nat.mul_assoc (u2*W32+u1+1)] at h4
   rw[Nat.mul_assoc,←Nat.mul_assoc v1]
   omega
  have:=Nat.lt_of_mul_lt_mul_right h3
  omega
 ·have h2:u2*W32≤v1*W32:=Nat.mul_le_mul_right _ hu
  rw[show v1*(W32+1).succ=v1*W32+2*v1 by rw[show(W32+1).succ=W32+2 from rfl,Nat.mul_add];omega]
  omega
section
variable {u2 u1 u0 v1 v0 qt h r P U V:Nat}
theorem Est.more (e:Est u2 u1 v1 qt h r) (hP:0<P) (hV:(v1*W32+v0)*P≤V) (hU:U<((u2*W32+u1)*W32+u0+1)*P) (hq:qt*V≤U) (hqt:qt<W32) (hc:W32≤h∨r*W32+u0<h*v0):Est u2 u1 v1 qt (h-1) (r+v1)∧1≤h:=by
 have hl:qt<h:=by
  rcases hc with hc|hc
  ·omega
  ·refine est_n1 hP hV hU hq ?_
   rw[←e.eq,Nat.add_mul,Nat.mul_add,←Nat.mul_assoc];omega
 have h1:=e.eq
 have h2:=e.hi
 obtain⟨g,rfl⟩:∃g,h=g+1:=⟨h-1,by omega⟩
 rw[Nat.add_mul,Nat.one_mul] at h1
 exact⟨⟨by rw[Nat.add_sub_cancel];omega,by omega,by omega⟩,by omega⟩
theorem Est.fin (e:Est u2 u1 v1 qt h r) (hP:0<P) (hV:V<(v1*W32+v0+1)*P) (hU:((u2*W32+u1)*W32+u0)*P≤U) (hq:U<(qt+1)*V) (h0:0<v1) (hw:h<W32) (hc:h*v0≤r*W32+u0):qt≤h∧h≤qt+1:=by
 refine⟨e.lo,est_n2 hP hV hU hq ?_ ?_⟩
 ·rw[←e.eq,Nat.add_mul,Nat.mul_add,←Nat.mul_assoc];omega
 ·have:1*W32≤v1*W32:=Nat.mul_le_mul_right _ h0
  omega
theorem Est.out (e:Est u2 u1 v1 qt h r) (hu:u2≤v1) (h1:u1<W32) (hv0:v0<W32) (hr:W32≤r):h<W32∧h*v0≤r*W32+u0:=by
 have hw:h<W32:=by
  have h2:=e.eq
  have h3:u2*W32≤v1*W32:=Nat.mul_le_mul_right _ hu
  refine Nat.lt_of_mul_lt_mul_right (a:=v1) ?_
  rw[Nat.mul_comm W32];omega
 refine⟨hw,?_⟩
 have h4:h*v0≤W32*W32:=Nat.mul_le_mul (by omega) (by omega)
 have h5:W32*W32≤r*W32:=Nat.mul_le_mul_right _ hr
 omega
end
theorem sub_cases {B X Y V U t h qt rt k:Nat} (hU:X+B*t=U) (hq:qt*V+rt=U) (hr:rt<V) (hV:V<B) (hl:qt≤h) (hh:h≤qt+1) (hs:X+B*k=Y+h*V) (hY:Y<B):
  h=qt∧t=k∧Y=rt∨h=qt+1∧k=t+1∧Y+V=rt+B:=by
 rcases(show h=qt∨h=qt+1 by omega) with rfl|rfl
 ·left
  rcases Nat.lt_trichotomy t k with hc|hc|hc
  ·have:B*(t+1)≤B*k:=Nat.mul_le_mul_left _ hc
   rw[Nat.mul_add] at this;omega
  ·subst hc;exact⟨rfl,rfl,by omega⟩
  ·have:B*(k+1)≤B*t:=Nat.mul_le_mul_left _ hc
   rw[Nat.mul_add] at this;omega
 ·right
  rw[Nat.add_mul,Nat.one_mul] at hs
  rcases Nat.lt_trichotomy (t+1) k with hc|hc|hc
  ·have:B*(t+2)≤B*k:=Nat.mul_le_mul_left _ hc
   rw[Nat.mul_add] at this;omega
  ·subst hc;rw[Nat.mul_add] at hs;exact⟨rfl,rfl,by omega⟩
  ·have:B*k≤B*t:=Nat.mul_le_mul_left _ (by omega)
   omega
theorem div_step {lo xs zs rs:List Nat} {t V j n qt rt X:Nat} (hj:lo.length=j) (hn:xs.length=n) (hU:nv xs+W32^n*t=qt*V+rt) (hz:nv zs=rt) (hi:nv (lo++(xs++[t]))+V*W32^(j+1)*nv rs=X):
  nv (lo++zs)+V*W32^j*nv (qt :: rs)=X:=by
 rw[←hi,nv_append,nv_append,nv_snoc t hn,hU,hz,hj,nv,Nat.pow_succ]
 grind
theorem div_below {lo zs:List Nat} {V j:Nat} (hd:Dg lo) (hj:lo.length=j) (hz:nv zs<V):nv (lo++zs)<V*W32^j:=by
 have h1:=nv_lt hd
 have h2:(nv zs+1)*W32^j≤V*W32^j:=Nat.mul_le_mul_right _ hz
 rw[nv_append,hj]
 rw[hj] at h1
 rw[Nat.add_mul,Nat.one_mul,Nat.mul_comm] at h2
 omega
theorem div_top {lo xs:List Nat} {V j:Nat} (hj:lo.length=j) (h:nv (lo++xs)<V*W32^(j+1)):nv xs<W32*V:=by
 rw[nv_append,hj,Nat.pow_succ,show V*(W32^j*W32)=W32^j*(W32*V) by grind] at h
 exact Nat.lt_of_mul_lt_mul_left (a:=W32^j) (by omega)
theorem win_lo {xs:List Nat} {t p:Nat} (h:xs.length=p+2):((t*W32+dgt xs (p+1))*W32+dgt xs p)*W32^p≤nv (xs++[t]):=by
 have h1:=top2d_lo h
 rw[nv_snoc t h,Nat.pow_add,show W32^p*W32^2*t=t*W32*W32*W32^p by grind]
 rw[show((t*W32+dgt xs (p+1))*W32+dgt xs p)*W32^p=t*W32*W32*W32^p+(dgt xs (p+1)*W32+dgt xs p)*W32^p by grind]
 omega
theorem win_hi {xs:List Nat} {t p:Nat} (hd:Dg xs) (h:xs.length=p+2):nv (xs++[t])<((t*W32+dgt xs (p+1))*W32+dgt xs p+1)*W32^p:=by
 have h1:=top2d_hi hd h
 rw[nv_snoc t h,Nat.pow_add,show W32^p*W32^2*t=t*W32*W32*W32^p by grind]
 rw[show((t*W32+dgt xs (p+1))*W32+dgt xs p+1)*W32^p=t*W32*W32*W32^p+(dgt xs (p+1)*W32+dgt xs p+1)*W32^p by grind]
 omega
theorem win_top {xs vs:List Nat} {t p:Nat} (hd:Dg vs) (h:xs.length=p+2) (hv:vs.length=p+2) (hU:nv (xs++[t])<W32*nv vs):t≤dgt vs (p+1):=by
 have h1:=top2d_hi hd hv
 have h0:=dgt_lt hd p
 rw[nv_snoc t h,show W32^(p+2)*t=t*(W32*W32*W32^p) by rw[Nat.pow_add,show W32^2=W32*W32 from Nat.pow_two _];ac_rfl] at hU
 have h2:(dgt vs (p+1)*W32+dgt vs p+1)*W32^p≤((dgt vs (p+1)+1)*W32)*W32^p:=Nat.mul_le_mul_right _ (by rw[Nat.add_mul _ 1];omega)
 have h3:t*(W32*W32*W32^p)<(dgt vs (p+1)+1)*(W32*W32*W32^p):=by
  rw[show(dgt vs (p+1)+1)*(W32*W32*W32^p)=W32*(((dgt vs (p+1)+1)*W32)*W32^p) by ac_rfl]
  have:W32*nv vs≤W32*(((dgt vs (p+1)+1)*W32)*W32^p):=Nat.mul_le_mul_left _ (by omega)
  omega
 have:=Nat.lt_of_mul_lt_mul_right h3
 omega
theorem norm_div {Z Y:List Nat} {n y s:Nat} (dY:Dg Y) (dZ:Dg Z) (hn:Y.length=n+1) (hZ:Z.length=n+2) (hy:dgt Y n=y) (h1:2147483648≤y*2^s) (h2:y*2^s<4294967296) (hs:s<32) (hv:nv Z=2^s*nv Y):
  ∃vs,Z=vs++[0]∧trimG isZ Z=vs∧vs.length=n+1∧Dg vs∧nv vs=2^s*nv Y∧W32≤2*dgt vs n∧nv vs<W32^(n+1):=by
 have hp:0<2^s:=Nat.pow_pos (by decide)
 have h3:(4294967296:Nat)=2^(32-s)*2^s:=by rw[←Nat.pow_add,show 32-s+s=32 by omega]
 have h4:(y+1)*2^s≤W32:=by
  unfold W32
  rw[h3] at h2⊢
  exact Nat.mul_le_mul_right _ (Nat.lt_of_mul_lt_mul_right h2)
 have hY:=nv_next Y n
 rw[nv_end (i:=n+1) (by omega),hy] at hY
 have hYt:=nv_lt (dY.take n)
 rw[List.length_take,Nat.min_eq_left (by omega)] at hYt
 have hlt:nv Z<W32^(n+1):=by
  have e1:2^s*nv Y<2^s*(W32^n*(y+1)):=Nat.mul_lt_mul_of_pos_left (by rw[hY,Nat.mul_add,Nat.mul_one];omega) hp
  have e2:W32^n*((y+1)*2^s)≤W32^n*W32:=Nat.mul_le_mul_left _ h4
  rw[hv,Nat.pow_succ]
  have e3:2^s*(W32^n*(y+1))=W32^n*((y+1)*2^s):=by ac_rfl
  omega
 have hge:W32^n*(y*2^s)≤nv Z:=by
  rw[hv,hY,show W32^n*(y*2^s)=2^s*(W32^n*y) by ac_rfl]
  exact Nat.mul_le_mul_left _ (by omega)
 have hz1:=nv_next Z (n+1)
 rw[nv_end (i:=n+1+1) (by omega)] at hz1
 have hz0:dgt Z (n+1)=0:=by
  rcases Nat.eq_zero_or_pos (dgt Z (n+1)) with h|h
  ·exact h
  ·have:W32^(n+1)*1≤W32^(n+1)*dgt Z (n+1):=Nat.mul_le_mul_left _ h
   omega
 have hz2:=nv_next Z n
 have hzt:=nv_lt (dZ.take n)
 rw[List.length_take,Nat.min_eq_left (by omega)] at hzt
 have htop:W32≤2*dgt Z n:=by
  have e1:W32^n*(y*2^s)<W32^n*(dgt Z n+1):=by
   rw[hz0,Nat.mul_zero,Nat.add_zero] at hz1
   rw[Nat.mul_add,Nat.mul_one]
   omega
  have:=Nat.lt_of_mul_lt_mul_left e1
  unfold W32;omega
 have hi:n+1<Z.length:=by omega
 have e0:Z=Z.take (n+1)++[0]:=by
  have e1:Z[n+1]=0:=by rw[←hz0,dgt_of (List.getElem?_eq_getElem hi)]
  have:=List.take_succ_eq_append_getElem hi
  rw[e1,List.take_of_length_le (by omega)] at this
  exact this
 have el:(Z.take (n+1)).length=n+1:=by rw[List.length_take];omega
 have ed:dgt (Z.take (n+1)) n=dgt Z n:=by rw[dgt_of (List.getElem?_eq_getElem (by omega)),dgt_of (List.getElem?_eq_getElem (show n<Z.length by omega)),List.getElem_take]
 refine⟨Z.take (n+1),e0,?_,el,dZ.take _,?_,by rw[ed];exact htop,?_⟩
 ·rw[show trimG isZ Z=trimG isZ (Z.take (n+1)++[0]) from congrArg _ e0,trimG_snoc,if_pos (show isZ 0=true from rfl)]
  refine trim_self (fun a ha=> ?_)
  have e2:(Z.take (n+1)).getLast?=some (dgt (Z.take (n+1)) n):=by
   rw[List.getLast?_eq_getElem?,el,Nat.add_sub_cancel,dgt_of (List.getElem?_eq_getElem (show n<(Z.take (n+1)).length by omega))]
   exact List.getElem?_eq_getElem _
  rw[e2] at ha
  injection ha with ha
  rw[←ha,ed]
  intro h0
  unfold W32 at htop
  omega
 ·rw[←hv]
  rw[hz0,Nat.mul_zero,Nat.add_zero] at hz1
  exact hz1.symm
 ·rw[hz1,hz0,Nat.mul_zero,Nat.add_zero] at hlt;exact hlt
theorem div_start {vs X:List Nat} {p M s:Nat} (dX:Dg X) (hv:vs.length=p+2) (hX:X.length=M+(p+2)) (ht:W32≤2*dgt vs (p+1)) (hs:s<32):2^s*nv X<nv vs*W32^(M+1):=by
 have h1:=nv_lt dX
 have h2:=nv_next vs (p+1)
 rw[nv_end (by omega)] at h2
 have h3:W32^(p+1)*W32≤W32^(p+1)*(2*dgt vs (p+1)):=Nat.mul_le_mul_left _ ht
 rw[show W32^(p+1)*(2*dgt vs (p+1))=2*(W32^(p+1)*dgt vs (p+1)) by ac_rfl] at h3
 have h4:2^s≤2147483648:=Nat.pow_le_pow_right (by decide) (show s≤31 by omega)
 have h5:2^s*nv X≤2147483648*nv X:=Nat.mul_le_mul_right _ h4
 have h6:W32^(p+2)*W32^(M+1)≤2*nv vs*W32^(M+1):=Nat.mul_le_mul_right _ (by rw[Nat.pow_succ];omega)
 have h7:W32^(p+2)*W32^(M+1)=W32*W32^X.length:=by rw[hX,←Nat.pow_add,←Nat.pow_succ'];congr 1;omega
 rw[Nat.mul_assoc] at h6
 unfold W32 at h6 h7 h1⊢
 omega
theorem split3 {l:List Nat} {k n:Nat} (h:l.length=n+(k+1)):∃lo xs t,l=lo++(xs++[t])∧lo.length=k∧xs.length=n:=by
 have hi:n<(l.drop k).length:=by rw[List.length_drop];omega
 refine⟨l.take k,(l.drop k).take n,(l.drop k)[n],?_,by rw[List.length_take];omega,by rw[List.length_take];omega⟩
 have e:=List.take_succ_eq_append_getElem hi
 rw[List.take_of_length_le (by rw[List.length_drop];omega)] at e
 rw[←e,List.take_append_drop]
theorem win_get {lo xs zs:List Nat} {t k i:Nat} (hk:lo.length=k) (hi:i<xs.length):(lo++(xs++[t])++zs)[k+i]? =some (dgt xs i):=by
 rw[List.append_assoc,List.getElem?_append_right (by omega),hk,Nat.add_sub_cancel_left,List.append_assoc,List.getElem?_append_left hi,dgt_of (List.getElem?_eq_getElem hi)]
 exact List.getElem?_eq_getElem hi
theorem win_last {lo xs zs:List Nat} {t k n:Nat} (hk:lo.length=k) (hn:xs.length=n):(lo++(xs++[t])++zs)[k+n]? =some t:=by
 rw[show lo++(xs++[t])++zs=(lo++xs)++t :: zs by simp]
 exact mid_get (by rw[List.length_append,hk,hn])
theorem shift_of {y:Nat} (h0:y≠0) (h:y<4294967296):∃s,s<32∧2147483648≤y*2^s∧y*2^s<4294967296:=by
 have key:∀k,∀y:Nat,y≠0→y<4294967296→4294967296≤y*2^(k+1)→∃s,s≤k∧2147483648≤y*2^s∧y*2^s<4294967296:=by
  intro k
  induction k with
  |zero=>intro y h0 h hk;exact⟨0,Nat.le_refl _,by omega,by omega⟩
  |succ k ih=>
   intro y h0 h hk
   rcases Nat.lt_or_ge y 2147483648 with hl|hl
   ·obtain⟨s,h1,h2,h3⟩:=ih (y*2) (by omega) (by omega) (by rw[Nat.pow_succ] at hk;grind)
    refine⟨s+1,by omega,?_,?_⟩<;>(rw[Nat.pow_succ,Nat.mul_comm (2^s),←Nat.mul_assoc];assumption)
   ·exact⟨0,by omega,by omega,by omega⟩
 obtain⟨s,h1,h2⟩:=key 31 y h0 h (by omega)
 exact⟨s,by omega,h2⟩
theorem shrN_step {P:List Nat} {i x y s A R:Nat} (hs:s<32) (hP:P.length=i) (h:2^s*nv P+R=A+W32^i*(x%2^s)):
  2^s*nv (P++[x/2^s+2^(32-s)*(y%2^s)])+R=A+W32^i*x+W32^(i+1)*(y%2^s):=by
 have h3:W32=2^s*2^(32-s):=by rw[←Nat.pow_add,show s+(32-s)=32 by omega];rfl
 have h4:=Nat.mod_add_div x (2^s)
 rw[nv_snoc _ hP,Nat.pow_succ]
 generalize y%2^s=m at *
 have h5:2^s*(W32^i*(x/2^s+2^(32-s)*m))=W32^i*(2^s*(x/2^s))+W32^i*W32*m:=by rw[Nat.mul_assoc (W32^i),h3];grind
 rw[Nat.mul_add,h5]
 have h6:W32^i*x=W32^i*(x%2^s)+W32^i*(2^s*(x/2^s)):=by rw[←Nat.mul_add,h4]
 omega
theorem shrN_end {p r s a R:Nat} (h:2^s*p+r%2^s=a) (ha:a=2^s*R):p=R:=by
 have hp:0<2^s:=Nat.pow_pos (by decide)
 have h1:=Nat.mod_lt r hp
 have h2:2^s*p<2^s*(R+1):=by rw[Nat.mul_add];omega
 have h3:2^s*R<2^s*(p+1):=by rw[Nat.mul_add];omega
 have h4:=Nat.lt_of_mul_lt_mul_left h2
 have h5:=Nat.lt_of_mul_lt_mul_left h3
 omega
theorem div_done {a b u r s:Nat} (hb:0<b) (h:u+2^s*b*r=2^s*a) (hu:u<2^s*b):r=a/b∧u=2^s*(a%b):=by
 have hp:0<2^s:=Nat.pow_pos (by decide)
 have e1:2^s*b*r=2^s*(b*r):=Nat.mul_assoc _ _ _
 have h1:b*r≤a:=Nat.le_of_mul_le_mul_left (show 2^s*(b*r)≤2^s*a by omega) hp
 have h2:a<b*(r+1):=Nat.lt_of_mul_lt_mul_left (a:=2^s) (by rw[Nat.mul_add,Nat.mul_one,Nat.mul_add];omega)
 have hr:r=a/b:=(Nat.div_eq_of_lt_le (by rw[Nat.mul_comm];exact h1) (by rw[Nat.mul_comm];exact h2)).symm
 refine⟨hr,?_⟩
 have h3:=Nat.div_add_mod a b
 rw[←hr] at h3
 rw[←h3,Nat.mul_add] at h
 omega
structure Dvs (vs:List Nat) (n p:Nat):Prop where
 hn:n=p+1+1
 len:vs.length=n
 dg:Dg vs
 top:W32≤2*dgt vs (p+1)
 lt:nv vs<W32^n
structure DvX (us vs lo xs:List Nat) (k n t u1 u0 v1 v0 qt rt:Nat):Prop where
 us_:us=lo++(xs++[t])
 lo_:lo.length=k
 xs_:xs.length=n
 dlo:Dg lo
 dxs:Dg xs
 c2:∀zs,(us++zs)[k+n]? =some t
 c1:∀zs,(us++zs)[k+n-1]? =some u1
 c0:∀zs,(us++zs)[k+n-2]? =some u0
 d1:(vs++[0])[n-1]? =some v1
 d0:(vs++[0])[n-2]? =some v0
 u_:nv xs+W32^n*t=qt*nv vs+rt
 r_:rt<nv vs
 first:Est t u1 v1 qt ((t*W32+u1)/v1) ((t*W32+u1)%v1)
 more:∀h r,Est t u1 v1 qt h r→(W32≤h∨r*W32+u0<h*v0)→Est t u1 v1 qt (h-1) (r+v1)∧1≤h
 fin:∀h r,Est t u1 v1 qt h r→(h<W32∧h*v0≤r*W32+u0∨W32≤r)→qt≤h∧h≤qt+1∧h<W32
theorem dv_facts {us vs:List Nat} {k n p:Nat} (V:Dvs vs n p) (hl:us.length=n+(k+1)) (hd:Dg us) (hlt:nv us<nv vs*W32^(k+1)):
  ∃lo xs t u1 u0 v1 v0 qt rt,DvX us vs lo xs k n t u1 u0 v1 v0 qt rt∧t<W32∧u1<W32∧u0<W32∧v1<W32∧v0<W32∧0<v1∧qt<W32:=by
 obtain⟨hn,hvl,dV,hvt,hVlt⟩:=V
 obtain⟨lo,xs,t,rfl,hlo,hxs⟩:=split3 hl
 have hU:=div_top hlo hlt
 have dlo:Dg lo:=fun d hd'=>hd d (List.mem_append_left _ hd')
 have dxt:Dg (xs++[t]):=fun d hd'=>hd d (List.mem_append_right _ hd')
 have dxs:Dg xs:=fun d hd'=>dxt d (List.mem_append_left _ hd')
 have t32:=dxt t (by simp)
 have hxp:xs.length=p+2:=by rw[hxs,hn]
 have hvp:vs.length=p+2:=by rw[hvl,hn]
 have h1:=dgt_lt dxs (p+1)
 have h0:=dgt_lt dxs p
 have hv1:=dgt_lt dV (p+1)
 have hv0:=dgt_lt dV p
 have hvp0:0<dgt vs (p+1):=by unfold W32 at hvt;omega
 have hP:0<W32^p:=Nat.pow_pos W32_pos
 have hV0:0<nv vs:=by
  have h2:=top2d_lo hvp
  have:1*1≤(dgt vs (p+1)*W32+dgt vs p)*W32^p:=Nat.mul_le_mul (by unfold W32;omega) hP
  omega
 have hq0:=Nat.div_add_mod (nv (xs++[t])) (nv vs)
 have hr:=Nat.mod_lt (nv (xs++[t])) hV0
 have hq1:nv (xs++[t])/nv vs<W32:=Nat.div_lt_of_lt_mul (by rw[Nat.mul_comm];exact hU)
 generalize nv (xs++[t])/nv vs=qt at *
 generalize nv (xs++[t])%nv vs=rt at *
 rw[Nat.mul_comm] at hq0
 have htv:=win_top dV hxp hvp hU
 have wl:=win_lo hxp (t:=t)
 have wh:=win_hi dxs hxp (t:=t)
 have vl':=top2d_lo hvp
 have vh:=top2d_hi dV hvp
 obtain⟨e0, -⟩:=Est.start vl' wh (show qt*nv vs≤nv (xs++[t]) by omega) hvt htv h1 h0 hv1
 refine⟨lo,xs,t,_,_,_,_,qt,rt,⟨rfl,hlo,hxs,dlo,dxs,fun zs=>win_last hlo hxs,fun zs=> ?_,fun zs=> ?_,?_,?_,?_,hr,e0,fun h r e hc=>e.more hP vl' wh (show qt*nv vs≤nv (xs++[t]) by omega) hq1 hc,fun h r e hc=> ?_⟩,t32,h1,h0,hv1,hv0,hvp0,hq1⟩
 ·rw[show k+n-1=k+(p+1) by omega];exact win_get hlo (by omega)
 ·rw[show k+n-2=k+p by omega];exact win_get hlo (by omega)
 ·rw[hn,List.getElem?_append_left (by omega),dgt_of (List.getElem?_eq_getElem (show p+1<vs.length by omega))];exact List.getElem?_eq_getElem _
 ·rw[hn,List.getElem?_append_left (by omega),dgt_of (List.getElem?_eq_getElem (show p<vs.length by omega))];exact List.getElem?_eq_getElem _
 ·rw[←hq0.symm,nv_snoc t hxs] at *
 ·have hc':h<W32∧h*dgt vs p≤r*W32+dgt xs p:=by
   rcases hc with hc|hc
   ·exact hc
   ·exact e.out htv h1 hv0 hc
  have:=e.fin hP vh wl (by rw[Nat.add_mul,Nat.one_mul];omega) hvp0 hc'.1 hc'.2
  exact⟨this.1,this.2,hc'.1⟩
end Go.Proofs.YtlojjipfnejbnaaGreatDoor
