/-
  Contracts of functions that the statement reaches, and plain laws: Digits, PolyP, PolyL, NumP, NumQ.
-/
set_option linter.unusedVariables false
set_option linter.unusedSimpArgs false
set_option maxHeartbeats 8000000
set_option maxRecDepth 100000
namespace Sos
def aD (b:Int):List Int→Int
 |[]=>0
 |z :: zs=>z+b*aD b zs
def InR (b:Int) (zs:List Int):Prop:=∀z∈zs,0≤z∧z<b
theorem InR.nil {b:Int}:InR b []:=fun _ h=>by cases h
theorem InR.cons {b z:Int} {zs:List Int} (h0:0≤z) (h1:z<b) (h:InR b zs):InR b (z :: zs):=by
 intro x hx;rcases List.mem_cons.1 hx with rfl|hx
 ·exact⟨h0,h1⟩
 ·exact h x hx
theorem InR.head {b z:Int} {zs:List Int} (h:InR b (z :: zs)):0≤z∧z<b:=h z (List.mem_cons_self ..)
theorem InR.tail {b z:Int} {zs:List Int} (h:InR b (z :: zs)):InR b zs:=fun x hx=>h x (List.mem_cons_of_mem _ hx)
theorem InR.append {b:Int} {xs ys:List Int} (h:InR b xs) (h':InR b ys):InR b (xs++ys):=by
 intro x hx;rcases List.mem_append.1 hx with hx|hx
 ·exact h x hx
 ·exact h' x hx
theorem InR.left {b:Int} {xs ys:List Int} (h:InR b (xs++ys)):InR b xs:=fun x hx=>h x (List.mem_append_left _ hx)
theorem InR.right {b:Int} {xs ys:List Int} (h:InR b (xs++ys)):InR b ys:=fun x hx=>h x (List.mem_append_right _ hx)
theorem InR.take {b:Int} {xs:List Int} (h:InR b xs) (n:Nat):InR b (xs.take n):=fun x hx=>h x (List.mem_of_mem_take hx)
theorem InR.drop {b:Int} {xs:List Int} (h:InR b xs) (n:Nat):InR b (xs.drop n):=fun x hx=>h x (List.mem_of_mem_drop hx)
theorem InR.getD {b:Int} {xs:List Int} (h:InR b xs) (hb:0<b) (i:Nat):0≤xs.getD i 0∧xs.getD i 0<b:=by
 rw[List.getD_eq_getElem?_getD];rcases Nat.lt_or_ge i xs.length with hi|hi
 ·rw[List.getElem?_eq_getElem hi];exact h _ (List.getElem_mem hi)
 ·rw[List.getElem?_eq_none hi];exact⟨by simp,by simpa using hb⟩
theorem InR.replicate {b:Int} (hb:0<b) (n:Nat):InR b (List.replicate n 0):=by
 intro x hx;have:=List.eq_of_mem_replicate hx;subst this;exact⟨Int.le_refl _,hb⟩
theorem InR.set {b z:Int} {xs:List Int} (h:InR b xs) (h0:0≤z) (h1:z<b) (i:Nat):InR b (xs.set i z):=by
 intro x hx;rcases List.mem_or_eq_of_mem_set hx with hx|rfl
 ·exact h x hx
 ·exact⟨h0,h1⟩
@[simp] theorem val_nil (b:Int):aD b []=0:=rfl
@[simp] theorem val_cons (b z:Int) (zs:List Int):aD b (z :: zs)=z+b*aD b zs:=rfl
theorem sJ (b z:Int):aD b [z]=z:=by simp[aD]
theorem gV (b:Int) (xs ys:List Int):aD b (xs++ys)=aD b xs+b^xs.length*aD b ys:=by
 induction xs with
 |nil=>simp
 |cons x xs ih=>simp only[List.cons_append,val_cons,ih,List.length_cons];grind
theorem iU (b:Int) (n:Nat):aD b (List.replicate n 0)=0:=by
 induction n with
 |zero=>rfl
 |succ n ih=>simp[List.replicate_succ,ih]
theorem dM {b:Int} {zs:List Int} (hb:0<b) (h:InR b zs):0≤aD b zs:=by
 induction zs with
 |nil=>simp
 |cons z zs ih=>
  have h1:=h.head;have h2:=ih h.tail;have h3:=Int.mul_nonneg (Int.le_of_lt hb) h2;simp only[val_cons];omega
theorem fE {b:Int} {zs:List Int} (hb:0<b) (h:InR b zs):aD b zs<b^zs.length:=by
 induction zs with
 |nil=>simp
 |cons z zs ih=>
  have h1:=h.head;have h2:=ih h.tail;have h3:b*aD b zs≤b*(b^zs.length-1):=Int.mul_le_mul_of_nonneg_left (by omega) (Int.le_of_lt hb);have h4:b^(z :: zs).length=b*b^zs.length:=by simp[Int.pow_succ,Int.mul_comm]
  rw[h4,val_cons];rw[Int.mul_sub] at h3;omega
theorem kM {b:Int} (hb:0<b) (n:Nat):0<b^n:=Int.pow_pos hb
theorem sK {b:Int} (hb:1≤b) {m n:Nat} (h:m≤n):b^m≤b^n:=by
 induction n with
 |zero=>have:m=0:=by omega
        subst this;exact Int.le_refl _
 |succ n ih=>
  rcases Nat.lt_or_ge m (n+1) with h1|h1
  ·have h2:=ih (by omega);have h3:0<b^n:=Int.pow_pos (by omega);have h4:b^n*1≤b^n*b:=Int.mul_le_mul_of_nonneg_left hb (by omega);rw[Int.pow_succ];omega
  ·have:m=n+1:=by omega
   subst this;exact Int.le_refl _
theorem iF (b:Int) (xs:List Int) (n:Nat) (hn:n≤xs.length):aD b xs=aD b (xs.take n)+b^n*aD b (xs.drop n):=by
 conv=>lhs;rw[←List.take_append_drop n xs]
 rw[gV,List.length_take,Nat.min_eq_left hn]
theorem gF (b:Int) (xs:List Int) (n:Nat) (hn:n<xs.length):aD b (xs.take (n+1))=aD b (xs.take n)+b^n*xs.getD n 0:=by
 rw[List.take_succ_eq_append_getElem hn,gV,List.length_take,Nat.min_eq_left (Nat.le_of_lt hn),sJ];rw[List.getD_eq_getElem?_getD,List.getElem?_eq_getElem hn];rfl
theorem iG (b:Int) (xs:List Int) (n:Nat) (hn:n<xs.length):aD b (xs.drop n)=xs.getD n 0+b*aD b (xs.drop (n+1)):=by
 rw[List.drop_eq_getElem_cons hn,val_cons,List.getD_eq_getElem?_getD,List.getElem?_eq_getElem hn];rfl
theorem kO (b:Int) (xs:List Int) (i:Nat) (v:Int) (hi:i<xs.length):aD b (xs.set i v)=aD b xs+b^i*(v-xs.getD i 0):=by
 induction xs generalizing i with
 |nil=>simp at hi
 |cons x xs ih=>
  cases i with
  |zero=>simp;omega
  |succ i=>
   simp only[List.set_cons_succ,val_cons,List.getD_cons_succ];rw[ih i (by simpa using hi)];grind
def gO (zs:List Int):Prop:=zs.getLast?≠some 0
def trimL:List Int→List Int
 |[]=>[]
 |z :: zs=>match trimL zs with
  |[]=>if z=0 then [] else [z]
  |y :: ys=>z :: y :: ys
theorem K6 (b:Int) (zs:List Int):aD b (trimL zs)=aD b zs:=by
 induction zs with
 |nil=>rfl
 |cons z zs ih=>
  rw[trimL];split
  ·rename_i h;rw[h] at ih;split
   ·rename_i h0;subst h0;simp only[val_cons,←ih];simp
   ·simp only[val_cons,←ih]
  ·rename_i y ys h;rw[h] at ih;rw[val_cons b z (y :: ys),val_cons b z zs,ih]
theorem K7 (zs:List Int):gO (trimL zs):=by
 unfold gO;induction zs with
 |nil=>simp[trimL]
 |cons z zs ih=>
  rw[trimL];split
  ·split
   ·simp
   ·rename_i h0;simpa using h0
  ·rename_i y ys h;rw[h] at ih;rw[List.getLast?_cons_cons];exact ih
theorem m6 (zs:List Int):(trimL zs).length≤zs.length:=by
 induction zs with
 |nil=>simp[trimL]
 |cons z zs ih=>
  rw[trimL];split
  ·split<;>simp
  ·rename_i y ys h;rw[h] at ih;simp at ih⊢;omega
theorem nK (zs:List Int):trimL zs=zs.take (trimL zs).length∧∀i,(trimL zs).length≤i→zs.getD i 0=0:=by
 induction zs with
 |nil=>simp[trimL]
 |cons z zs ih=>
  rw[trimL];split
  ·rename_i h;rw[h] at ih;split
   ·rename_i h0;subst h0;refine⟨by simp,fun i _=> ?_⟩;cases i with
    |zero=>rfl
    |succ i=>rw[List.getD_cons_succ];exact ih.2 i (Nat.zero_le _)
   ·refine⟨by simp,fun i hi=> ?_⟩;cases i with
    |zero=>simp at hi
    |succ i=>rw[List.getD_cons_succ];exact ih.2 i (Nat.zero_le _)
  ·rename_i y ys h;rw[h] at ih;refine⟨?_,fun i hi=> ?_⟩
   ·rw[List.length_cons,List.take_succ_cons,←ih.1]
   ·cases i with
    |zero=>simp at hi
    |succ i=>rw[List.getD_cons_succ];exact ih.2 i (by simpa using hi)
theorem InR.trimL {b:Int} {zs:List Int} (h:InR b zs):InR b (trimL zs):=by
 rw[(nK zs).1];exact h.take _
theorem BY {zs:List Int} {n:Nat} (hn:n≤zs.length) (h0:n=0∨zs.getD (n-1) 0≠0) (hz:∀i,n≤i→zs.getD i 0=0):trimL zs=zs.take n:=by
 induction zs generalizing n with
 |nil=>simp[Sos.trimL]
 |cons z zs ih=>
  cases n with
  |zero=>
   have e:=hz 0 (Nat.le_refl _);have e':z=0:=e;have:=ih (n:=0) (Nat.zero_le _) (.inl rfl) (fun i _=>by have:=hz (i+1) (Nat.zero_le _);rwa [List.getD_cons_succ] at this);subst e';rw[Sos.trimL,this];simp
  |succ n=>
   have hz':∀i,n≤i→zs.getD i 0=0:=fun i hi=>by have:=hz (i+1) (by omega);rwa [List.getD_cons_succ] at this
   cases n with
   |zero=>
    have:=ih (n:=0) (Nat.zero_le _) (.inl rfl) hz';have hne:z≠0:=by simpa using h0
    rw[Sos.trimL,this];simp[hne]
   |succ n=>
    have hl:n+1≤zs.length:=by simpa using hn
    have:=ih (n:=n+1) hl (.inr (by rcases h0 with h|h;· omega
                                   ·simpa using h)) hz'
    rw[Sos.trimL,this,List.take_succ_cons];cases zs with
    |nil=>simp at hl
    |cons y ys=>rw[List.take_succ_cons]
theorem vR {b:Int} {zs:List Int} (hb:1<b) (h:InR b zs) (hz:gO zs) (hne:zs≠[]):b^(zs.length-1)≤aD b zs:=by
 induction zs with
 |nil=>exact absurd rfl hne
 |cons z zs ih=>
  cases zs with
  |nil=>
   have h0:z≠0:=by intro e;subst e;exact hz rfl
   have:=h.head;simp;omega
  |cons y ys=>
   have h1:gO (y :: ys):=by
    unfold gO at hz⊢;rwa [List.getLast?_cons_cons] at hz
   have h2:=ih h.tail h1 (by simp);have h3:=h.head;rw[val_cons];have h4:b*b^((y :: ys).length-1)≤b*aD b (y :: ys):=Int.mul_le_mul_of_nonneg_left h2 (by omega);have h5:b^((z :: y :: ys).length-1)=b*b^((y :: ys).length-1):=by simp[Int.pow_succ,Int.mul_comm]
   omega
def Canon (b:Int) (zs:List Int):Prop:=InR b zs∧gO zs
theorem K8 {b:Int} {zs:List Int} (h:InR b zs):Canon b (trimL zs):=⟨h.trimL,K7 zs⟩
theorem Canon.nil {b:Int}:Canon b []:=⟨InR.nil,by simp[gO]⟩
theorem BZ {b:Int} {xs ys:List Int} (hb:1<b) (hx:Canon b xs) (hy:InR b ys) (h:aD b xs≤aD b ys):xs.length≤ys.length:=by
 rcases Nat.lt_or_ge ys.length xs.length with hl|hl
 ·have hne:xs≠[]:=by intro e;subst e;simp at hl
  have h1:=vR hb hx.1 hx.2 hne;have h2:=fE (by omega) hy;have h3:b^ys.length≤b^(xs.length-1):=sK (by omega) (by omega);omega
 ·exact hl
theorem K9 {b x y p q:Int} (h0:0≤x) (h1:x<b) (h2:0≤y) (h3:y<b) (h:x+b*p=y+b*q):x=y∧p=q:=by
 have hb:b≠0:=by omega
 have e1:(x+b*p)%b=x:=by rw[Int.add_mul_emod_self_left];exact Int.emod_eq_of_lt h0 h1
 have e2:(y+b*q)%b=y:=by rw[Int.add_mul_emod_self_left];exact Int.emod_eq_of_lt h2 h3
 have hxy:x=y:=by rw[←e1,←e2,h]
 subst hxy;exact⟨rfl,Int.eq_of_mul_eq_mul_left hb (by omega)⟩
theorem KC {b:Int} {xs ys:List Int} (hx:InR b xs) (hy:InR b ys) (hl:xs.length=ys.length) (h:aD b xs=aD b ys):xs=ys:=by
 induction xs generalizing ys with
 |nil=>cases ys with
  |nil=>rfl
  |cons y ys=>simp at hl
 |cons x xs ih=>
  cases ys with
  |nil=>simp at hl
  |cons y ys=>
   simp only[val_cons] at h;have h1:=hx.head;have h2:=hy.head
   obtain⟨rfl,h'⟩:=K9 h1.1 h1.2 h2.1 h2.2 h;rw[ih hx.tail hy.tail (by simpa using hl) h']
theorem KD {b:Int} {xs ys:List Int} (hb:1<b) (hx:Canon b xs) (hy:Canon b ys) (h:aD b xs=aD b ys):xs=ys:=
 KC hx.1 hy.1 (Nat.le_antisymm (BZ hb hx hy.1 (by omega)) (BZ hb hy hx.1 (by omega))) h
def gG (b:Nat) (n:Nat):List Int:=
 if _h:n=0∨b<2 then [] else ((n%b:Nat):Int) :: gG b (n/b)
termination_by n
decreasing_by
 have:n/b<n:=Nat.div_lt_self (by omega) (by omega)
 exact this
theorem C0 (b:Nat):gG b 0=[]:=by rw[gG];simp
theorem vU (b n:Nat) (hb:2≤b):aD b (gG b n)=n:=by
 induction n using Nat.strongRecOn with
 |ind n ih=>
  rw[gG];split
  ·rename_i h;rcases h with h|h
   ·subst h;rfl
   ·omega
  ·rename_i h;have hlt:n/b<n:=Nat.div_lt_self (by omega) (by omega);rw[val_cons,ih _ hlt,←Int.natCast_mul,←Int.natCast_add,Nat.mod_add_div]
theorem KE (b n:Nat) (hb:2≤b):InR b (gG b n):=by
 induction n using Nat.strongRecOn with
 |ind n ih=>
  rw[gG];split
  ·exact InR.nil
  ·rename_i h;have hlt:n/b<n:=Nat.div_lt_self (by omega) (by omega);refine InR.cons (by omega) ?_ (ih _ hlt);have:=Nat.mod_lt n (show 0<b by omega);omega
theorem wT (b n:Nat) (hb:2≤b):Canon b (gG b n):=by
 refine⟨KE b n hb,?_⟩;unfold gO;induction n using Nat.strongRecOn with
 |ind n ih=>
  rw[gG];split
  ·simp
  ·rename_i h;have hlt:n/b<n:=Nat.div_lt_self (by omega) (by omega);have:=ih _ hlt;cases hd:gG b (n/b) with
   |nil=>
    have hv:=vU b (n/b) hb;rw[hd] at hv;have h0:n/b=0:=by
     have:((n/b:Nat):Int)=0:=by rw[←hv];rfl
     omega
    have h1:n<b:=by
     rcases Nat.lt_or_ge n b with h1|h1
     ·exact h1
     ·have:=Nat.div_pos h1 (by omega);omega
    rw[Nat.mod_eq_of_lt h1];simp;omega
   |cons y ys=>rw[List.getLast?_cons_cons,←hd];exact this
theorem KG {b:Nat} (hb:2≤b) {zs:List Int} (h:Canon b zs):gG b (aD b zs).toNat=zs:=by
 have h0:=dM (show(0:Int)<(b:Int) by omega) h.1;exact KD (by omega) (wT b _ hb) h (by rw[vU b _ hb];omega)
end Sos
namespace Go.Proofs.YtbhplgdbfmifkaaGreatDoor
class CR (R:Type) [Add R] [Mul R] [Sub R] [OfNat R 0]:Prop where
 add_comm:∀a b:R,a+b=b+a
 add_assoc:∀a b c:R,a+b+c=a+(b+c)
 add_zero:∀a:R,a+0=a
 mul_comm:∀a b:R,a*b=b*a
 mul_assoc:∀a b c:R,a*b*c=a*(b*c)
 mul_zero:∀a:R,a*0=0
 mul_add:∀a b c:R,a*(b+c)=a*b+a*c
 add_sub:∀a b:R,a+(b-a)=b
instance:CR Int:=⟨Int.add_comm,Int.add_assoc,Int.add_zero,Int.mul_comm,Int.mul_assoc,Int.mul_zero,Int.mul_add,fun a b=>by omega⟩
instance:CR Rat:=⟨Rat.add_comm,Rat.add_assoc,Rat.add_zero,Rat.mul_comm,Rat.mul_assoc,Rat.mul_zero,Rat.mul_add,fun a b=>by grind⟩
section
variable {R:Type} [Add R] [OfNat R 0]
def aU (f:Nat→R):Nat→R
 |0=>0
 |n+1=>aU f n+f n
theorem jQ {f g:Nat→R} {n:Nat} (h:∀k,k<n→f k=g k):aU f n=aU g n:=by
 induction n with
 |zero=>rfl
 |succ n ih=>rw[aU,aU,ih (fun k hk=>h k (by omega)),h n (by omega)]
variable [Mul R]
def conv (p q:Nat→R):Nat→R:=fun i=>aU (fun k=>p k*q (i-k)) (i+1)
theorem cO {p p' q q':Nat→R} (h:∀i,p i=p' i) (h':∀i,q i=q' i) (i:Nat):conv p q i=conv p' q' i:=
 jQ (fun k _=>by rw[h,h'])
variable [Sub R] [CR R]
theorem xK (a:R):0+a=a:=by rw[CR.add_comm,CR.add_zero]
theorem oY (a:R):0*a=0:=by rw[CR.mul_comm,CR.mul_zero]
theorem NS (a b c:R):(a+b)*c=a*c+b*c:=by rw[CR.mul_comm,CR.mul_add,CR.mul_comm c a,CR.mul_comm c b]
theorem NT (a b c d:R):a+b+(c+d)=a+c+(b+d):=by
 rw[CR.add_assoc,←CR.add_assoc b c d,CR.add_comm b c,CR.add_assoc c b d,←CR.add_assoc]
theorem DO (f g:Nat→R) (n:Nat):aU (fun k=>f k+g k) n=aU f n+aU g n:=by
 induction n with
 |zero=>simp only[aU];exact(CR.add_zero 0).symm
 |succ n ih=>simp only[aU,ih];exact NT _ _ _ _
theorem xL (c:R) (f:Nat→R) (n:Nat):aU (fun k=>c*f k) n=c*aU f n:=by
 induction n with
 |zero=>simp only[aU];exact(CR.mul_zero c).symm
 |succ n ih=>simp only[aU,ih];exact(CR.mul_add _ _ _).symm
theorem mH {f:Nat→R} {n:Nat} (h:∀k,k<n→f k=0):aU f n=0:=by
 induction n with
 |zero=>rfl
 |succ n ih=>rw[aU,ih (fun k hk=>h k (by omega)),h n (by omega)];exact CR.add_zero 0
theorem qH (f:Nat→R) (m n:Nat):aU f (m+n)=aU f m+aU (fun k=>f (m+k)) n:=by
 induction n with
 |zero=>simp only[aU,Nat.add_zero];exact(CR.add_zero _).symm
 |succ n ih=>rw[←Nat.add_assoc,aU,aU,ih];exact CR.add_assoc _ _ _
theorem DP {f:Nat→R} {n j:Nat} (hj:j<n) (h:∀k,k<n→k≠j→f k=0):aU f n=f j:=by
 induction n with
 |zero=>omega
 |succ n ih=>
  rw[aU];by_cases e:j=n
  ·subst e;rw[mH (fun k hk=>h k (by omega) (by omega))];exact xK _
  ·rw[ih (by omega) (fun k hk hne=>h k (by omega) hne),h n (by omega) (fun e'=>e e'.symm)];exact CR.add_zero _
theorem NU (f:Nat→R) (n:Nat):aU f (n+1)=f 0+aU (fun k=>f (k+1)) n:=by
 rw[Nat.add_comm n 1,qH];simp only[aU,Nat.add_comm 1];rw[xK]
theorem NV (f:Nat→R) (n:Nat):aU f n=aU (fun k=>f (n-1-k)) n:=by
 induction n with
 |zero=>rfl
 |succ n ih=>
  rw[NU (fun k=>f (n+1-1-k)),aU,ih];have:aU (fun k=>f (n+1-1-(k+1))) n=aU (fun k=>f (n-1-k)) n:=jQ (fun k hk=>by congr 1;omega);rw[this];simp only[Nat.add_sub_cancel,Nat.sub_zero];exact CR.add_comm _ _
theorem NW (f:Nat→Nat→R) (m n:Nat):aU (fun i=>aU (fun j=>f i j) n) m=aU (fun j=>aU (fun i=>f i j) m) n:=by
 induction m with
 |zero=>simp only[aU];exact(mH (fun _ _=>rfl)).symm
 |succ m ih=>simp only[aU,ih,DO]
theorem j7 (p p' q:Nat→R) (i:Nat):conv (fun k=>p k+p' k) q i=conv p q i+conv p' q i:=by
 unfold conv
 rw[←DO];exact jQ (fun k _=>NS _ _ _)
theorem fF (c:R) (p q:Nat→R) (i:Nat):conv (fun k=>c*p k) q i=c*conv p q i:=by
 unfold conv
 rw[←xL];exact jQ (fun k _=>CR.mul_assoc _ _ _)
theorem jR (p q:Nat→R) (i:Nat):conv p q i=conv q p i:=by
 unfold conv
 rw[NV];refine jQ (fun k hk=> ?_);rw[show i+1-1-k=i-k by omega,show i-(i-k)=k by omega];exact CR.mul_comm _ _
theorem kZ (c:R) (p q:Nat→R) (i:Nat):conv p (fun k=>c*q k) i=c*conv p q i:=by
 rw[jR,fF,jR q]
theorem eR {p q:Nat→R} (h:∀i,p i=0) (i:Nat):conv p q i=0:=
 mH (fun k _=>by rw[h];exact oY _)
theorem mY (c:R) (j:Nat) (q:Nat→R) (i:Nat):conv (fun k=>if k=j then c else 0) q i=if j≤i then c*q (i-j) else 0:=by
 unfold conv
 by_cases h:j≤i
 ·rw[if_pos h,DP (j:=j) (by omega) (fun k _ hne=>by simp only[if_neg hne];exact oY _)];simp only[if_true]
 ·rw[if_neg h];exact mH (fun k hk=>by simp only[if_neg (show¬k=j by omega)];exact oY _)
theorem o6 {p q:Nat→R} {m n:Nat} (hp:∀i,m≤i→p i=0) (hq:∀i,n≤i→q i=0) {i:Nat} (hi:m+n≤i+1):conv p q i=0:=by
 refine mH (fun k hk=> ?_);by_cases h:m≤k
 ·rw[hp k h];exact oY _
 ·rw[hq (i-k) (by omega)];exact CR.mul_zero _
theorem mZ {p q:Nat→R} {m n:Nat} (hp:∀i,m<i→p i=0) (hq:∀i,n<i→q i=0):conv p q (m+n)=p m*q n:=by
 unfold conv
 rw[DP (j:=m) (by omega) (fun k hk hne=> ?_),show m+n-m=n by omega];by_cases h:m<k
 ·rw[hp k h];exact oY _
 ·rw[hq (m+n-k) (by omega)];exact CR.mul_zero _
theorem NY (m:R) (w q v rest:Nat→R) (n k:Nat) (hn:0<n) (hv:∀i,n≤i→v i=0) (hr:∀i,n+k≤i→rest i=0)
  (hid:∀i,m*w i=conv q v i+rest i) (i:Nat):
  (m*v (n-1))*w i=conv (fun j=>q j*v (n-1)+(if j=k then rest (n-1+k) else 0)) v i+(if i<n-1+k then rest i*v (n-1)-(if k≤i then rest (n-1+k)*v (i-k) else 0) else 0):=by
 have h1:conv (fun j=>q j*v (n-1)+(if j=k then rest (n-1+k) else 0)) v i=v (n-1)*conv q v i+(if k≤i then rest (n-1+k)*v (i-k) else 0):=by
  rw[j7,mY];congr 1;rw[←fF];exact cO (fun j=>CR.mul_comm _ _) (fun _=>rfl) i
 rw[h1];have h2:=hid i;have h3:m*v (n-1)*w i=v (n-1)*conv q v i+v (n-1)*rest i:=by
  rw[CR.mul_comm m,CR.mul_assoc,h2,CR.mul_add]
 rw[h3];by_cases hlt:i<n-1+k
 ·rw[if_pos hlt,CR.add_assoc,CR.add_sub,CR.mul_comm (rest i)]
 ·rw[if_neg hlt,if_pos (by omega),CR.add_zero];by_cases he:i=n-1+k
  ·subst he;rw[show n-1+k-k=n-1 by omega,CR.mul_comm (rest _)]
  ·rw[hv (i-k) (by omega),hr i (by omega),CR.mul_zero,CR.mul_zero]
end
section
variable {α:Type}
def aH (z:α→Bool):List α→List α
 |[]=>[]
 |a :: l=>match aH z l with
  |[]=>if z a then [] else [a]
  |b :: m=>a :: b :: m
theorem xI (z:α→Bool) (l:List α) (a:α):aH z (l++[a])=if z a then aH z l else l++[a]:=by
 induction l with
 |nil=>simp[aH]
 |cons b l ih=>
  rw[List.cons_append,aH,ih];by_cases h:z a=true
  ·simp only[if_pos h];rfl
  ·simp only[if_neg h];cases l with
   |nil=>rfl
   |cons c m=>rfl
theorem nW (z:α→Bool) (l:List α):∃m,l=aH z l++m∧(∀a∈m,z a=true)∧∀a,(aH z l).getLast?=some a→z a=false:=by
 induction l with
 |nil=>exact⟨[],rfl,(fun _ h=>by cases h),(fun a h=>by simp[aH] at h)⟩
 |cons b l ih=>
  obtain⟨m,h1,h2,h3⟩:=ih;rw[aH];cases ht:aH z l with
  |nil=>
   rw[ht,List.nil_append] at h1;by_cases h:z b=true
   ·refine⟨b :: m,by simp[h,h1],fun a ha=> ?_,fun a ha=>by simp[h] at ha⟩;rcases List.mem_cons.1 ha with rfl|ha
    ·exact h
    ·exact h2 a ha
   ·refine⟨m,by simp[h,h1],h2,fun a ha=> ?_⟩;simp[h] at ha;subst ha;simpa using h
  |cons c k=>
   refine⟨m,by rw[ht] at h1;simp[h1],h2,fun a ha=>h3 a ?_⟩;rw[ht];rw[List.getLast?_cons_cons] at ha;exact ha
theorem cK (z:α→Bool) (l:List α):(aH z l).length≤l.length:=by
 obtain⟨m,h,_⟩:=nW z l;have:=congrArg List.length h;rw[List.length_append] at this;omega
theorem DL (z:α→Bool) (l:List α):aH z l=l.take (aH z l).length:=by
 obtain⟨m,h,_⟩:=nW z l;have:(aH z l++m).take (aH z l).length=aH z l:=by simp
 rw[←h] at this;exact this.symm
theorem NO {z:α→Bool} {l:List α} (h:∀a,l.getLast?=some a→z a=false):aH z l=l:=by
 obtain⟨m,h1,h2,_⟩:=nW z l;by_cases hm:m=[]
 ·rw[hm,List.append_nil] at h1;exact h1.symm
 ·exfalso;have hl:=List.getLast?_eq_some_getLast hm;have:l.getLast?=some (m.getLast hm):=by
   rw[h1,List.getLast?_append,hl];rfl
  have e:=h _ this;rw[h2 _ (List.getLast_mem hm)] at e;cases e
theorem tH (z:α→Bool) (l:List α) {n:Nat} {a:α} (h:l[n]? =some a) (hz:z a=true):aH z (l.take (n+1))=aH z (l.take n):=by
 rw[List.take_add_one,h,Option.toList_some,xI,if_pos hz]
theorem tI (z:α→Bool) (l:List α) {n:Nat} {a:α} (h:l[n]? =some a) (hz:z a=false):aH z (l.take (n+1))=l.take (n+1):=by
 rw[List.take_add_one,h,Option.toList_some,xI,if_neg (by rw[hz];simp)]
theorem fQ {z:α→Bool} {l:List α} {a:α} (h:a∈aH z l):a∈l:=by
 rw[DL] at h;exact List.mem_of_mem_take h
end
section
variable {α:Type} [OfNat α 0]
def cf (l:List α) (i:Nat):α:=l.getD i 0
def aN (l:List α):Prop:=∀a,l.getLast?=some a→a≠0
theorem bS (i:Nat):cf ([]:List α) i=0:=by simp[cf]
theorem oW {l:List α} {i:Nat} {a:α} (h:l[i]? =some a):cf l i=a:=by simp[cf,h]
theorem dO {l:List α} {i:Nat} (h:i<l.length):cf l i=l[i]:=by simp[cf,h]
theorem aP {l:List α} {i:Nat} (h:l.length≤i):cf l i=0:=by simp[cf,h]
theorem nY {β:Type} [OfNat β 0] (f:β→α) (h:f 0=0) (l:List β) (i:Nat):cf (l.map f) i=f (cf l i):=by
 unfold cf;rw[List.getD_eq_getElem?_getD,List.getD_eq_getElem?_getD,List.getElem?_map];cases l[i]? <;>simp[h]
theorem oX (f:Nat→α) (n i:Nat):cf ((List.range n).map f) i=if i<n then f i else 0:=by
 unfold cf;rw[List.getD_eq_getElem?_getD,List.getElem?_map];by_cases h:i<n
 ·rw[if_pos h,List.getElem?_range h];rfl
 ·rw[if_neg h,List.getElem?_eq_none (by simpa using h)];rfl
theorem tJ {l:List α} {a:α} (h:l.getLast?=some a):cf l (l.length-1)=a:=by
 rw[List.getLast?_eq_getElem?] at h;exact oW h
theorem iJ {a b:List α} (ha:aN a) (hb:aN b) (h:∀i,cf a i=cf b i):a=b:=by
 have key:∀{a b:List α},aN a→(∀i,cf a i=cf b i)→a.length≤b.length:=by
  intro a b ha h;rcases Nat.lt_or_ge b.length a.length with hl|hl
  ·exfalso;have hne:a≠[]:=by intro e;rw[e] at hl;simp at hl
   have h1:=List.getLast?_eq_some_getLast hne;have h2:=tJ h1;rw[h,aP (by omega)] at h2;exact ha _ h1 h2.symm
  ·exact hl
 have hl:a.length=b.length:=Nat.le_antisymm (key ha h) (key hb (fun i=>(h i).symm));refine List.ext_getElem hl (fun i h1 h2=> ?_);have:=h i;rw[dO h1,dO h2] at this;exact this
variable [DecidableEq α]
def aG (a:α):Bool:=decide (a=0)
theorem fC (l:List α):aN (aH aG l):=by
 intro a ha;obtain⟨m,_,_,h⟩:=nW aG l;have:=h a ha;simpa [aG] using this
theorem nZ {l:List α} (h:aN l):aH aG l=l:=NO (fun a ha=>by simpa [aG] using h a ha)
theorem dS (l:List α) (i:Nat):cf (aH aG l) i=cf l i:=by
 obtain⟨m,h1,h2,_⟩:=nW aG l;by_cases h:i<(aH aG l).length
 ·unfold cf;conv=>rhs;rw[h1]
  simp[List.getElem?_append_left h]
 ·rw[aP (by omega)];by_cases hi:i<l.length
  ·rw[dO hi];have hm:l[i]∈m:=by
    have e:l[i]? =m[i-(aH aG l).length]? :=by
     conv=>lhs;rw[h1]
     rw[List.getElem?_append_right (by omega)]
    rw[List.getElem?_eq_getElem hi] at e;exact List.mem_of_getElem? e.symm
   have:=h2 _ hm;exact(by simpa [aG] using this:l[i]=0).symm
  ·rw[aP (by omega)]
end
def aY (a b:List Int):List Int:=if a=[]∨b=[] then [] else (List.range (a.length+b.length-1)).map (conv (cf a) (cf b))
theorem xJ (a b:List Int) (i:Nat):cf (aY a b) i=conv (cf a) (cf b) i:=by
 unfold aY;by_cases h:a=[]∨b=[]
 ·rw[if_pos h,bS];rcases h with h|h
  ·rw[h,eR (fun i=>bS i)]
  ·rw[h,jR,eR (fun i=>bS i)]
 ·rw[if_neg h,oX];split
  ·rfl
  ·have ha:a.length≠0:=fun e=>h (.inl (List.eq_nil_of_length_eq_zero e));have hb:b.length≠0:=fun e=>h (.inr (List.eq_nil_of_length_eq_zero e));exact(o6 (fun i hi=>aP hi) (fun i hi=>aP hi) (by omega)).symm
theorem NP (f:Nat→Int) (n:Nat):((aU f n:Int):Rat)=aU (fun k=>(f k:Rat)) n:=by
 induction n with
 |zero=>rfl
 |succ n ih=>rw[aU,aU,Rat.intCast_add,ih]
theorem o5 (p q:Nat→Int) (i:Nat):((conv p q i:Int):Rat)=conv (fun k=>(p k:Rat)) (fun k=>(q k:Rat)) i:=by
 unfold conv
 rw[NP];exact jQ (fun k _=>by rw[Rat.intCast_mul])
def aC:Nat:=4294967296
theorem jV:0<aC:=by decide
def nv:List Nat→Nat
 |[]=>0
 |d :: l=>d+aC*nv l
def Dg (l:List Nat):Prop:=∀d∈l,d<aC
theorem pL:nv []=0:=rfl
theorem jG (l m:List Nat):nv (l++m)=nv l+aC^l.length*nv m:=by
 induction l with
 |nil=>simp[nv]
 |cons d l ih=>
  rw[List.cons_append,nv,nv,ih,List.length_cons,Nat.pow_succ,Nat.mul_add,Nat.mul_comm (aC^l.length) aC,Nat.mul_assoc];omega
theorem Dg.set {l:List Nat} (h:Dg l) (i:Nat) {x:Nat} (hx:x<aC):Dg (l.set i x):=fun d hd=>by
 rcases List.mem_or_eq_of_mem_set hd with h1|h1
 ·exact h d h1
 ·rw[h1];exact hx
theorem Dg.zeros (n:Nat):Dg (List.replicate n 0):=fun d hd=>by rw[(List.mem_replicate.1 hd).2];exact jV
theorem Dg.take {l:List Nat} (h:Dg l) (n:Nat):Dg (l.take n):=fun d hd=>h d (List.mem_of_mem_take hd)
theorem Dg.get {l:List Nat} (h:Dg l) {i d:Nat} (hi:l[i]? =some d):d<aC:=h d (List.mem_of_getElem? hi)
theorem Dg.trim {l:List Nat} (h:Dg l):Dg (aH aG l):=fun d hd=>h d (fQ hd)
theorem yW {l:List Nat} (ht:aN l) (h0:l≠[]):aC^(l.length-1)≤nv l:=by
 obtain⟨m,d,rfl⟩:∃m d,l=m++[d]:=⟨l.dropLast,l.getLast h0,(List.dropLast_concat_getLast h0).symm⟩;have hd:d≠0:=ht d (by simp);rw[jG,nv,pL,Nat.mul_zero,Nat.add_zero,List.length_append,List.length_singleton,Nat.add_sub_cancel];have:aC^m.length*1≤aC^m.length*d:=Nat.mul_le_mul_left _ (by omega);omega
theorem TE {l:List Nat} (ht:aN l) (h:nv l=0):l=[]:=by
 by_cases h0:l=[]
 ·exact h0
 ·have:=yW ht h0;have h1:0<aC^(l.length-1):=Nat.pow_pos jV;omega
section
variable {α:Type} {P Q:List α} {x y:α} {i:Nat}
theorem yQ (h:P.length=i):(P++x :: Q)[i]? =some x:=by subst h;rw[List.getElem?_append_right (Nat.le_refl _),Nat.sub_self];rfl
theorem SM (h:P.length=i):(P++x :: Q).set i y=(P++[y])++Q:=by
 subst h;rw[List.set_append_right _ _ (Nat.le_refl _),Nat.sub_self,List.set_cons_zero,List.append_assoc];rfl
end
theorem Dg.drop {l:List Nat} (h:Dg l) (n:Nat):Dg (l.drop n):=fun d hd=>h d (List.mem_of_mem_drop hd)
def aV (l:List Nat) (i:Nat):Nat:=l.getD i 0
theorem SR {P U V V2 W qt h:Nat} (hP:0<P) (hV:V2*P≤V) (hU:U<(W+1)*P) (hq:qt*V≤U) (hc:W<h*V2):qt<h:=by
 have h1:qt*V2*P≤qt*V:=by rw[Nat.mul_assoc];exact Nat.mul_le_mul_left _ hV
 have h2:qt*V2<W+1:=Nat.lt_of_mul_lt_mul_right (a:=P) (by omega);exact Nat.lt_of_mul_lt_mul_right (a:=V2) (by omega)
theorem SS {P U V V2 W qt h:Nat} (hP:0<P) (hV:V<(V2+1)*P) (hU:W*P≤U) (hq:U<(qt+1)*V) (hc:h*V2≤W) (hh:h≤V2):h≤qt+1:=by
 rcases Nat.lt_or_ge (qt+1) h with hl|hl
 ·obtain⟨g,rfl⟩:∃g,h=g+1:=⟨h-1,by omega⟩;have h1:(qt+1)*V≤g*V:=Nat.mul_le_mul_right _ (by omega);have h2:g*V≤g*((V2+1)*P):=Nat.mul_le_mul_left _ (by omega);have h3:(g+1)*V2*P≤W*P:=Nat.mul_le_mul_right _ hc;have h4:(g+1)*V2*P<g*(V2+1)*P:=by rw[Nat.mul_assoc g];omega
  have h5:(g+1)*V2<g*(V2+1):=Nat.lt_of_mul_lt_mul_right h4;rw[Nat.add_mul,Nat.mul_add] at h5;omega
 ·exact hl
structure Est (u2 u1 v1 qt h r:Nat):Prop where
 eq:h*v1+r=u2*aC+u1
 lo:qt≤h
 hi:h≤aC+1
theorem Est.start {u2 u1 v1 v0 u0 qt P U V:Nat} (hV:(v1*aC+v0)*P≤V) (hU:U<((u2*aC+u1)*aC+u0+1)*P) (hq:qt*V≤U) (hn:aC≤2*v1) (hu:u2≤v1) (h1:u1<aC) (h0:u0<aC) (hv:v1<aC):
  Est u2 u1 v1 qt ((u2*aC+u1)/v1) ((u2*aC+u1)%v1)∧(u2*aC+u1)%v1<aC:=by
 have hv0:0<v1:=by unfold aC at hn;omega
 have e:=Nat.div_add_mod (u2*aC+u1) v1;have hr:=Nat.mod_lt (u2*aC+u1) hv0;refine⟨⟨by rw[Nat.mul_comm];exact e,?_,Nat.le_of_lt_succ (Nat.div_lt_of_lt_mul ?_)⟩,by omega⟩
 ·rw[Nat.le_div_iff_mul_le hv0];have h2:qt*(v1*aC*P)≤qt*V:=Nat.mul_le_mul_left _ (Nat.le_trans (Nat.mul_le_mul_right _ (Nat.le_add_right _ v0)) hV);have h3:qt*v1*(aC*P)<(u2*aC+u1+1)*(aC*P):=by
   have h4:((u2*aC+u1)*aC+u0+1)*P≤((u2*aC+u1+1)*aC)*P:=Nat.mul_le_mul_right _ (by rw[Nat.add_mul _ 1];omega);rw[Nat.mul_assoc (u2*aC+u1+1)] at h4;rw[Nat.mul_assoc,←Nat.mul_assoc v1];omega
  have:=Nat.lt_of_mul_lt_mul_right h3;omega
 ·have h2:u2*aC≤v1*aC:=Nat.mul_le_mul_right _ hu;rw[show v1*(aC+1).succ=v1*aC+2*v1 by rw[show(aC+1).succ=aC+2 from rfl,Nat.mul_add];omega];omega
section
variable {u2 u1 u0 v1 v0 qt h r P U V:Nat}
theorem Est.more (e:Est u2 u1 v1 qt h r) (hP:0<P) (hV:(v1*aC+v0)*P≤V) (hU:U<((u2*aC+u1)*aC+u0+1)*P) (hq:qt*V≤U) (hqt:qt<aC) (hc:aC≤h∨r*aC+u0<h*v0):Est u2 u1 v1 qt (h-1) (r+v1)∧1≤h:=by
 have hl:qt<h:=by
  rcases hc with hc|hc
  ·omega
  ·refine SR hP hV hU hq ?_;rw[←e.eq,Nat.add_mul,Nat.mul_add,←Nat.mul_assoc];omega
 have h1:=e.eq;have h2:=e.hi;obtain⟨g,rfl⟩:∃g,h=g+1:=⟨h-1,by omega⟩;rw[Nat.add_mul,Nat.one_mul] at h1;exact⟨⟨by rw[Nat.add_sub_cancel];omega,by omega,by omega⟩,by omega⟩
theorem Est.fin (e:Est u2 u1 v1 qt h r) (hP:0<P) (hV:V<(v1*aC+v0+1)*P) (hU:((u2*aC+u1)*aC+u0)*P≤U) (hq:U<(qt+1)*V) (h0:0<v1) (hw:h<aC) (hc:h*v0≤r*aC+u0):qt≤h∧h≤qt+1:=by
 refine⟨e.lo,SS hP hV hU hq ?_ ?_⟩
 ·rw[←e.eq,Nat.add_mul,Nat.mul_add,←Nat.mul_assoc];omega
 ·have:1*aC≤v1*aC:=Nat.mul_le_mul_right _ h0;omega
theorem Est.out (e:Est u2 u1 v1 qt h r) (hu:u2≤v1) (h1:u1<aC) (hv0:v0<aC) (hr:aC≤r):h<aC∧h*v0≤r*aC+u0:=by
 have hw:h<aC:=by
  have h2:=e.eq;have h3:u2*aC≤v1*aC:=Nat.mul_le_mul_right _ hu;refine Nat.lt_of_mul_lt_mul_right (a:=v1) ?_;rw[Nat.mul_comm aC];omega
 refine⟨hw,?_⟩;have h4:h*v0≤aC*aC:=Nat.mul_le_mul (by omega) (by omega);have h5:aC*aC≤r*aC:=Nat.mul_le_mul_right _ hr;omega
end
structure Dvs (vs:List Nat) (n p:Nat):Prop where
 hn:n=p+1+1
 len:vs.length=n
 dg:Dg vs
 top:aC≤2*aV vs (p+1)
 lt:nv vs<aC^n
structure DvX (us vs lo xs:List Nat) (k n t u1 u0 v1 v0 qt rt:Nat):Prop where
 us_:us=lo++(xs++[t])
 lo_:lo.length=k
 xs_:xs.length=n
 dlo:Dg lo
 dxs:Dg xs
 c2:∀zs,(us++zs)[k+n]? =some t
 c1:∀zs,(us++zs)[k+n-1]? =some u1
 c0:∀zs,(us++zs)[k+n-2]? =some u0
 d1:(vs++[0])[n-1]? =some v1
 d0:(vs++[0])[n-2]? =some v0
 u_:nv xs+aC^n*t=qt*nv vs+rt
 r_:rt<nv vs
 first:Est t u1 v1 qt ((t*aC+u1)/v1) ((t*aC+u1)%v1)
 more:∀h r,Est t u1 v1 qt h r→(aC≤h∨r*aC+u0<h*v0)→Est t u1 v1 qt (h-1) (r+v1)∧1≤h
 fin:∀h r,Est t u1 v1 qt h r→(h<aC∧h*v0≤r*aC+u0∨aC≤r)→qt≤h∧h≤qt+1∧h<aC
end Go.Proofs.YtbhplgdbfmifkaaGreatDoor
