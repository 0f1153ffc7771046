/-
  Contracts of functions that the statement reaches, and plain laws: Digits, PolyP, PolyL.
-/
set_option linter.unusedVariables false
set_option linter.unusedSimpArgs false
set_option maxHeartbeats 8000000
namespace Sos
def val (b : Int) : List Int → Int
 | [] => 0
 | z :: zs => z + b * val b zs
def InR (b : Int) (zs : List Int) : Prop := ∀ z ∈ zs, 0 ≤ z ∧ z < b
theorem InR.nil {b : Int} : InR b [] := fun _ h => by cases h
theorem InR.cons {b z : Int} {zs : List Int} (h0 : 0 ≤ z) (h1 : z < b) (h : InR b zs) : InR b (z :: zs) := by
 intro x hx
 rcases List.mem_cons.1 hx with rfl | hx
 ·exact ⟨h0, h1⟩
 ·exact h x hx
theorem InR.head {b z : Int} {zs : List Int} (h : InR b (z :: zs)) : 0 ≤ z ∧ z < b := h z (List.mem_cons_self ..)
theorem InR.tail {b z : Int} {zs : List Int} (h : InR b (z :: zs)) : InR b zs := fun x hx => h x (List.mem_cons_of_mem _ hx)
theorem InR.append {b : Int} {xs ys : List Int} (h : InR b xs) (h' : InR b ys) : InR b (xs ++ ys) := by
 intro x hx
 rcases List.mem_append.1 hx with hx | hx
 ·exact h x hx
 ·exact h' x hx
theorem InR.left {b : Int} {xs ys : List Int} (h : InR b (xs ++ ys)) : InR b xs := fun x hx => h x (List.mem_append_left _ hx)
theorem InR.right {b : Int} {xs ys : List Int} (h : InR b (xs ++ ys)) : InR b ys := fun x hx => h x (List.mem_append_right _ hx)
theorem InR.take {b : Int} {xs : List Int} (h : InR b xs) (n : Nat) : InR b (xs.take n) := fun x hx => h x (List.mem_of_mem_take hx)
theorem InR.drop {b : Int} {xs : List Int} (h : InR b xs) (n : Nat) : InR b (xs.drop n) := fun x hx => h x (List.mem_of_mem_drop hx)
theorem InR.getD {b : Int} {xs : List Int} (h : InR b xs) (hb : 0 < b) (i : Nat) : 0 ≤ xs.getD i 0 ∧ xs.getD i 0 < b := by
 rw [List.getD_eq_getElem?_getD]
 rcases Nat.lt_or_ge i xs.length with hi | hi
 ·rw [List.getElem?_eq_getElem hi]; exact h _ (List.getElem_mem hi)
 ·rw [List.getElem?_eq_none hi]; exact ⟨by simp, by simpa using hb⟩
theorem InR.replicate {b : Int} (hb : 0 < b) (n : Nat) : InR b (List.replicate n 0) := by
 intro x hx
 have := List.eq_of_mem_replicate hx
 subst this; exact ⟨Int.le_refl _, hb⟩
theorem InR.set {b z : Int} {xs : List Int} (h : InR b xs) (h0 : 0 ≤ z) (h1 : z < b) (i : Nat) : InR b (xs.set i z) := by
 intro x hx
 rcases List.mem_or_eq_of_mem_set hx with hx | rfl
 ·exact h x hx
 ·exact ⟨h0, h1⟩
@[simp] theorem val_nil (b : Int) : val b [] = 0 := rfl
@[simp] theorem val_cons (b z : Int) (zs : List Int) : val b (z :: zs) = z + b * val b zs := rfl
theorem val_one (b z : Int) : val b [z] = z := by simp [val]
theorem val_append (b : Int) (xs ys : List Int) : val b (xs ++ ys) = val b xs + b ^ xs.length * val b ys := by
 induction xs with
 | nil => simp
 | cons x xs ih => simp only [List.cons_append, val_cons, ih, List.length_cons]; grind
theorem val_replicate (b : Int) (n : Nat) : val b (List.replicate n 0) = 0 := by
 induction n with
 | zero => rfl
 | succ n ih => simp [List.replicate_succ, ih]
theorem val_nonneg {b : Int} {zs : List Int} (hb : 0 < b) (h : InR b zs) : 0 ≤ val b zs := by
 induction zs with
 | nil => simp
 | cons z zs ih =>
  have h1 := h.head
  have h2 := ih h.tail
  have h3 := Int.mul_nonneg (Int.le_of_lt hb) h2
  simp only [val_cons]; omega
theorem val_lt {b : Int} {zs : List Int} (hb : 0 < b) (h : InR b zs) : val b zs < b ^ zs.length := by
 induction zs with
 | nil => simp
 | cons z zs ih =>
  have h1 := h.head
  have h2 := ih h.tail
  have h3 : b * val b zs ≤ b * (b ^ zs.length - 1) := Int.mul_le_mul_of_nonneg_left (by omega) (Int.le_of_lt hb)
  have h4 : b ^ (z :: zs).length = b * b ^ zs.length := by simp [Int.pow_succ, Int.mul_comm]
  rw [h4, val_cons]
  rw [Int.mul_sub] at h3
  omega
theorem pow_pos' {b : Int} (hb : 0 < b) (n : Nat) : 0 < b ^ n := Int.pow_pos hb
theorem ipow_mono {b : Int} (hb : 1 ≤ b) {m n : Nat} (h : m ≤ n) : b ^ m ≤ b ^ n := by
 induction n with
 | zero => have : m = 0 := by omega
           subst this; exact Int.le_refl _
 | succ n ih =>
  rcases Nat.lt_or_ge m (n + 1) with h1 | h1
  ·have h2 := ih (by omega)
   have h3 : 0 < b ^ n := Int.pow_pos (by omega)
   have h4 : b ^ n * 1 ≤ b ^ n * b := Int.mul_le_mul_of_nonneg_left hb (by omega)
   rw [Int.pow_succ]; omega
  ·have : m = n + 1 := by omega
   subst this; exact Int.le_refl _
theorem val_take_drop (b : Int) (xs : List Int) (n : Nat) (hn : n ≤ xs.length) : val b xs = val b (xs.take n) + b ^ n * val b (xs.drop n) := by
 conv => lhs; rw [← List.take_append_drop n xs]
 rw [val_append, List.length_take, Nat.min_eq_left hn]
theorem val_take_succ (b : Int) (xs : List Int) (n : Nat) (hn : n < xs.length) : val b (xs.take (n + 1)) = val b (xs.take n) + b ^ n * xs.getD n 0 := by
 rw [List.take_succ_eq_append_getElem hn, val_append, List.length_take, Nat.min_eq_left (Nat.le_of_lt hn), val_one]
 rw [List.getD_eq_getElem?_getD, List.getElem?_eq_getElem hn]; rfl
theorem val_drop_cons (b : Int) (xs : List Int) (n : Nat) (hn : n < xs.length) : val b (xs.drop n) = xs.getD n 0 + b * val b (xs.drop (n + 1)) := by
 rw [List.drop_eq_getElem_cons hn, val_cons, List.getD_eq_getElem?_getD, List.getElem?_eq_getElem hn]; rfl
theorem val_set (b : Int) (xs : List Int) (i : Nat) (v : Int) (hi : i < xs.length) : val b (xs.set i v) = val b xs + b ^ i * (v - xs.getD i 0) := by
 induction xs generalizing i with
 | nil => simp at hi
 | cons x xs ih =>
  cases i with
  | zero => simp; omega
  | succ i =>
   simp only [List.set_cons_succ, val_cons, List.getD_cons_succ]
   rw [ih i (by simpa using hi)]
   grind
def NoZ (zs : List Int) : Prop := zs.getLast? ≠ some 0
def trimL : List Int → List Int
 | [] => []
 | z :: zs => match trimL zs with
  | [] => if z = 0 then [] else [z]
  | y :: ys => z :: y :: ys
theorem val_trimL (b : Int) (zs : List Int) : val b (trimL zs) = val b zs := by
 induction zs with
 | nil => rfl
 | cons z zs ih =>
  rw [trimL]
  split
  ·rename_i h
   rw [h] at ih
   split
   ·rename_i h0; subst h0; simp only [val_cons, ← ih]; simp
   ·simp only [val_cons, ← ih]
  ·rename_i y ys h
   rw [h] at ih
   rw [val_cons b z (y :: ys), val_cons b z zs, ih]
theorem trimL_noZ (zs : List Int) : NoZ (trimL zs) := by
 unfold NoZ
 induction zs with
 | nil => simp [trimL]
 | cons z zs ih =>
  rw [trimL]
  split
  ·split
   ·simp
   ·rename_i h0; simpa using h0
  ·rename_i y ys h
   rw [h] at ih
   rw [List.getLast?_cons_cons]; exact ih
theorem trimL_len (zs : List Int) : (trimL zs).length ≤ zs.length := by
 induction zs with
 | nil => simp [trimL]
 | cons z zs ih =>
  rw [trimL]
  split
  ·split <;> simp
  ·rename_i y ys h
   rw [h] at ih; simp at ih ⊢; omega
theorem trimL_take (zs : List Int) : trimL zs = zs.take (trimL zs).length ∧ ∀ i, (trimL zs).length ≤ i → zs.getD i 0 = 0 := by
 induction zs with
 | nil => simp [trimL]
 | cons z zs ih =>
  rw [trimL]
  split
  ·rename_i h
   rw [h] at ih
   split
   ·rename_i h0
    subst h0
    refine ⟨by simp, fun i _ => ?_⟩
    cases i with
    | zero => rfl
    | succ i => rw [List.getD_cons_succ]; exact ih.2 i (Nat.zero_le _)
   ·refine ⟨by simp, fun i hi => ?_⟩
    cases i with
    | zero => simp at hi
    | succ i => rw [List.getD_cons_succ]; exact ih.2 i (Nat.zero_le _)
  ·rename_i y ys h
   rw [h] at ih
   refine ⟨?_, fun i hi => ?_⟩
   ·rw [List.length_cons, List.take_succ_cons, ← ih.1]
   ·cases i with
    | zero => simp at hi
    | succ i => rw [List.getD_cons_succ]; exact ih.2 i (by simpa using hi)
theorem trimL_of_noZ {zs : List Int} (h : NoZ zs) : trimL zs = zs := by
 induction zs with
 | nil => rfl
 | cons z zs ih =>
  cases zs with
  | nil =>
   have h0 : z ≠ 0 := by intro e; subst e; exact h rfl
   simp [trimL, h0]
  | cons y ys =>
   have h1 : NoZ (y :: ys) := by
    unfold NoZ at h ⊢
    rwa [List.getLast?_cons_cons] at h
   rw [trimL, ih h1]
theorem InR.trimL {b : Int} {zs : List Int} (h : InR b zs) : InR b (trimL zs) := by
 rw [(trimL_take zs).1]; exact h.take _
theorem noZ_take_of {zs : List Int} {n : Nat} (hn : n ≤ zs.length) (h0 : n = 0 ∨ zs.getD (n - 1) 0 ≠ 0) (hz : ∀ i, n ≤ i → zs.getD i 0 = 0) : trimL zs = zs.take n := by
 induction zs generalizing n with
 | nil => simp [Sos.trimL]
 | cons z zs ih =>
  cases n with
  | zero =>
   have e := hz 0 (Nat.le_refl _)
   have e' : z = 0 := e
   have := ih (n := 0) (Nat.zero_le _) (.inl rfl) (fun i _ => by have := hz (i + 1) (Nat.zero_le _); rwa [List.getD_cons_succ] at this)
   subst e'
   rw [Sos.trimL, this]; simp
  | succ n =>
   have hz' : ∀ i, n ≤ i → zs.getD i 0 = 0 := fun i hi => by have := hz (i + 1) (by omega); rwa [List.getD_cons_succ] at this
   cases n with
   | zero =>
    have := ih (n := 0) (Nat.zero_le _) (.inl rfl) hz'
    have hne : z ≠ 0 := by simpa using h0
    rw [Sos.trimL, this]; simp [hne]
   | succ n =>
    have hl : n + 1 ≤ zs.length := by simpa using hn
    have := ih (n := n + 1) hl (.inr (by rcases h0 with h | h; · omega
                                         ·simpa using h)) hz'
    rw [Sos.trimL, this, List.take_succ_cons]
    cases zs with
    | nil => simp at hl
    | cons y ys => rw [List.take_succ_cons]
theorem val_lower {b : Int} {zs : List Int} (hb : 1 < b) (h : InR b zs) (hz : NoZ zs) (hne : zs ≠ []) : b ^ (zs.length - 1) ≤ val b zs := by
 induction zs with
 | nil => exact absurd rfl hne
 | cons z zs ih =>
  cases zs with
  | nil =>
   have h0 : z ≠ 0 := by intro e; subst e; exact hz rfl
   have := h.head
   simp; omega
  | cons y ys =>
   have h1 : NoZ (y :: ys) := by
    unfold NoZ at hz ⊢
    rwa [List.getLast?_cons_cons] at hz
   have h2 := ih h.tail h1 (by simp)
   have h3 := h.head
   rw [val_cons]
   have h4 : b * b ^ ((y :: ys).length - 1) ≤ b * val b (y :: ys) := Int.mul_le_mul_of_nonneg_left h2 (by omega)
   have h5 : b ^ ((z :: y :: ys).length - 1) = b * b ^ ((y :: ys).length - 1) := by simp [Int.pow_succ, Int.mul_comm]
   omega
def Canon (b : Int) (zs : List Int) : Prop := InR b zs ∧ NoZ zs
theorem canon_trimL {b : Int} {zs : List Int} (h : InR b zs) : Canon b (trimL zs) := ⟨h.trimL, trimL_noZ zs⟩
theorem Canon.nil {b : Int} : Canon b [] := ⟨InR.nil, by simp [NoZ]⟩
theorem canon_len_mono {b : Int} {xs ys : List Int} (hb : 1 < b) (hx : Canon b xs) (hy : InR b ys) (h : val b xs ≤ val b ys) : xs.length ≤ ys.length := by
 rcases Nat.lt_or_ge ys.length xs.length with hl | hl
 ·have hne : xs ≠ [] := by intro e; subst e; simp at hl
  have h1 := val_lower hb hx.1 hx.2 hne
  have h2 := val_lt (by omega) hy
  have h3 : b ^ ys.length ≤ b ^ (xs.length - 1) := ipow_mono (by omega) (by omega)
  omega
 ·exact hl
theorem mod_unique {b x y p q : Int} (h0 : 0 ≤ x) (h1 : x < b) (h2 : 0 ≤ y) (h3 : y < b) (h : x + b * p = y + b * q) : x = y ∧ p = q := by
 have hb : b ≠ 0 := by omega
 have e1 : (x + b * p) % b = x := by rw [Int.add_mul_emod_self_left]; exact Int.emod_eq_of_lt h0 h1
 have e2 : (y + b * q) % b = y := by rw [Int.add_mul_emod_self_left]; exact Int.emod_eq_of_lt h2 h3
 have hxy : x = y := by rw [← e1, ← e2, h]
 subst hxy
 exact ⟨rfl, Int.eq_of_mul_eq_mul_left hb (by omega)⟩
theorem val_inj_len {b : Int} {xs ys : List Int} (hx : InR b xs) (hy : InR b ys) (hl : xs.length = ys.length) (h : val b xs = val b ys) : xs = ys := by
 induction xs generalizing ys with
 | nil => cases ys with
  | nil => rfl
  | cons y ys => simp at hl
 | cons x xs ih =>
  cases ys with
  | nil => simp at hl
  | cons y ys =>
   simp only [val_cons] at h
   have h1 := hx.head; have h2 := hy.head
   obtain ⟨rfl, h'⟩ := mod_unique h1.1 h1.2 h2.1 h2.2 h
   rw [ih hx.tail hy.tail (by simpa using hl) h']
theorem canon_inj {b : Int} {xs ys : List Int} (hb : 1 < b) (hx : Canon b xs) (hy : Canon b ys) (h : val b xs = val b ys) : xs = ys :=
 val_inj_len hx.1 hy.1 (Nat.le_antisymm (canon_len_mono hb hx hy.1 (by omega)) (canon_len_mono hb hy hx.1 (by omega))) h
theorem canon_val_zero {b : Int} {xs : List Int} (hb : 1 < b) (hx : Canon b xs) (h : val b xs = 0) : xs = [] := canon_inj hb hx Canon.nil (by simpa using h)
def dig (b : Nat) (n : Nat) : List Int :=
 if _h : n = 0 ∨ b < 2 then [] else ((n % b : Nat) : Int) :: dig b (n / b)
termination_by n
decreasing_by
 have : n / b < n := Nat.div_lt_self (by omega) (by omega)
 exact this
theorem dig_zero (b : Nat) : dig b 0 = [] := by rw [dig]; simp
theorem val_dig (b n : Nat) (hb : 2 ≤ b) : val b (dig b n) = n := by
 induction n using Nat.strongRecOn with
 | ind n ih =>
  rw [dig]
  split
  ·rename_i h; rcases h with h | h
   ·subst h; rfl
   ·omega
  ·rename_i h
   have hlt : n / b < n := Nat.div_lt_self (by omega) (by omega)
   rw [val_cons, ih _ hlt, ← Int.natCast_mul, ← Int.natCast_add, Nat.mod_add_div]
theorem inR_dig (b n : Nat) (hb : 2 ≤ b) : InR b (dig b n) := by
 induction n using Nat.strongRecOn with
 | ind n ih =>
  rw [dig]
  split
  ·exact InR.nil
  ·rename_i h
   have hlt : n / b < n := Nat.div_lt_self (by omega) (by omega)
   refine InR.cons (by omega) ?_ (ih _ hlt)
   have := Nat.mod_lt n (show 0 < b by omega)
   omega
theorem canon_dig (b n : Nat) (hb : 2 ≤ b) : Canon b (dig b n) := by
 refine ⟨inR_dig b n hb, ?_⟩
 unfold NoZ
 induction n using Nat.strongRecOn with
 | ind n ih =>
  rw [dig]
  split
  ·simp
  ·rename_i h
   have hlt : n / b < n := Nat.div_lt_self (by omega) (by omega)
   have := ih _ hlt
   cases hd : dig b (n / b) with
   | nil =>
    have hv := val_dig b (n / b) hb
    rw [hd] at hv
    have h0 : n / b = 0 := by
     have : ((n / b : Nat) : Int) = 0 := by rw [← hv]; rfl
     omega
    have h1 : n < b := by
     rcases Nat.lt_or_ge n b with h1 | h1
     ·exact h1
     ·have := Nat.div_pos h1 (by omega); omega
    rw [Nat.mod_eq_of_lt h1]
    simp; omega
   | cons y ys => rw [List.getLast?_cons_cons, ← hd]; exact this
theorem dig_of_canon {b : Nat} (hb : 2 ≤ b) {zs : List Int} (h : Canon b zs) : dig b (val b zs).toNat = zs := by
 have h0 := val_nonneg (show (0 : Int) < (b : Int) by omega) h.1
 exact canon_inj (by omega) (canon_dig b _ hb) h (by rw [val_dig b _ hb]; omega)
end Sos
namespace Go.Proofs.YtoimnlnaaklinaaGreatDoor
class CR (R : Type) [Add R] [Mul R] [Sub R] [OfNat R 0] : Prop where
 add_comm : ∀ a b : R, a + b = b + a
 add_assoc : ∀ a b c : R, a + b + c = a + (b + c)
 add_zero : ∀ a : R, a + 0 = a
 mul_comm : ∀ a b : R, a * b = b * a
 mul_assoc : ∀ a b c : R, a * b * c = a * (b * c)
 mul_zero : ∀ a : R, a * 0 = 0
 mul_add : ∀ a b c : R, a * (b + c) = a * b + a * c
 add_sub : ∀ a b : R, a + (b - a) = b
instance : CR Int := ⟨Int.add_comm, Int.add_assoc, Int.add_zero, Int.mul_comm, Int.mul_assoc, Int.mul_zero, Int.mul_add, fun a b => by omega⟩
instance : CR Rat := ⟨Rat.add_comm, Rat.add_assoc, Rat.add_zero, Rat.mul_comm, Rat.mul_assoc, Rat.mul_zero, Rat.mul_add, fun a b => by grind⟩
section
variable {R : Type} [Add R] [OfNat R 0]
def sumTo (f : Nat → R) : Nat → R
 | 0 => 0
 | n + 1 => sumTo f n + f n
theorem sumTo_congr {f g : Nat → R} {n : Nat} (h : ∀ k, k < n → f k = g k) : sumTo f n = sumTo g n := by
 induction n with
 | zero => rfl
 | succ n ih => rw [sumTo, sumTo, ih (fun k hk => h k (by omega)), h n (by omega)]
variable [Mul R]
def conv (p q : Nat → R) : Nat → R := fun i => sumTo (fun k => p k * q (i - k)) (i + 1)
theorem conv_congr {p p' q q' : Nat → R} (h : ∀ i, p i = p' i) (h' : ∀ i, q i = q' i) (i : Nat) : conv p q i = conv p' q' i :=
 sumTo_congr (fun k _ => by rw [h, h'])
variable [Sub R] [CR R]
theorem zero_add' (a : R) : 0 + a = a := by rw [CR.add_comm, CR.add_zero]
theorem zero_mul' (a : R) : 0 * a = 0 := by rw [CR.mul_comm, CR.mul_zero]
theorem add_mul' (a b c : R) : (a + b) * c = a * c + b * c := by rw [CR.mul_comm, CR.mul_add, CR.mul_comm c a, CR.mul_comm c b]
theorem add_four (a b c d : R) : a + b + (c + d) = a + c + (b + d) := by
 rw [CR.add_assoc, ← CR.add_assoc b c d, CR.add_comm b c, CR.add_assoc c b d, ← CR.add_assoc]
theorem sumTo_add (f g : Nat → R) (n : Nat) : sumTo (fun k => f k + g k) n = sumTo f n + sumTo g n := by
 induction n with
 | zero => simp only [sumTo]; exact (CR.add_zero 0).symm
 | succ n ih => simp only [sumTo, ih]; exact add_four _ _ _ _
theorem sumTo_mul (c : R) (f : Nat → R) (n : Nat) : sumTo (fun k => c * f k) n = c * sumTo f n := by
 induction n with
 | zero => simp only [sumTo]; exact (CR.mul_zero c).symm
 | succ n ih => simp only [sumTo, ih]; exact (CR.mul_add _ _ _).symm
theorem sumTo_zero {f : Nat → R} {n : Nat} (h : ∀ k, k < n → f k = 0) : sumTo f n = 0 := by
 induction n with
 | zero => rfl
 | succ n ih => rw [sumTo, ih (fun k hk => h k (by omega)), h n (by omega)]; exact CR.add_zero 0
theorem sumTo_split (f : Nat → R) (m n : Nat) : sumTo f (m + n) = sumTo f m + sumTo (fun k => f (m + k)) n := by
 induction n with
 | zero => simp only [sumTo, Nat.add_zero]; exact (CR.add_zero _).symm
 | succ n ih => rw [← Nat.add_assoc, sumTo, sumTo, ih]; exact CR.add_assoc _ _ _
theorem sumTo_one {f : Nat → R} {n j : Nat} (hj : j < n) (h : ∀ k, k < n → k ≠ j → f k = 0) : sumTo f n = f j := by
 induction n with
 | zero => omega
 | succ n ih =>
  rw [sumTo]
  by_cases e : j = n
  ·subst e; rw [sumTo_zero (fun k hk => h k (by omega) (by omega))]; exact zero_add' _
  ·rw [ih (by omega) (fun k hk hne => h k (by omega) hne), h n (by omega) (fun e' => e e'.symm)]; exact CR.add_zero _
theorem sumTo_front (f : Nat → R) (n : Nat) : sumTo f (n + 1) = f 0 + sumTo (fun k => f (k + 1)) n := by
 rw [Nat.add_comm n 1, sumTo_split]
 simp only [sumTo, Nat.add_comm 1]
 rw [zero_add']
theorem sumTo_rev (f : Nat → R) (n : Nat) : sumTo f n = sumTo (fun k => f (n - 1 - k)) n := by
 induction n with
 | zero => rfl
 | succ n ih =>
  rw [sumTo_front (fun k => f (n + 1 - 1 - k)), sumTo, ih]
  have : sumTo (fun k => f (n + 1 - 1 - (k + 1))) n = sumTo (fun k => f (n - 1 - k)) n := sumTo_congr (fun k hk => by congr 1; omega)
  rw [this]
  simp only [Nat.add_sub_cancel, Nat.sub_zero]
  exact CR.add_comm _ _
theorem sumTo_swap (f : Nat → Nat → R) (m n : Nat) : sumTo (fun i => sumTo (fun j => f i j) n) m = sumTo (fun j => sumTo (fun i => f i j) m) n := by
 induction m with
 | zero => simp only [sumTo]; exact (sumTo_zero (fun _ _ => rfl)).symm
 | succ m ih => simp only [sumTo, ih, sumTo_add]
theorem conv_add_left (p p' q : Nat → R) (i : Nat) : conv (fun k => p k + p' k) q i = conv p q i + conv p' q i := by
 unfold conv
 rw [← sumTo_add]
 exact sumTo_congr (fun k _ => add_mul' _ _ _)
theorem conv_mul_left (c : R) (p q : Nat → R) (i : Nat) : conv (fun k => c * p k) q i = c * conv p q i := by
 unfold conv
 rw [← sumTo_mul]
 exact sumTo_congr (fun k _ => CR.mul_assoc _ _ _)
theorem conv_comm (p q : Nat → R) (i : Nat) : conv p q i = conv q p i := by
 unfold conv
 rw [sumTo_rev]
 refine sumTo_congr (fun k hk => ?_)
 rw [show i + 1 - 1 - k = i - k by omega, show i - (i - k) = k by omega]
 exact CR.mul_comm _ _
theorem conv_add_right (p q q' : Nat → R) (i : Nat) : conv p (fun k => q k + q' k) i = conv p q i + conv p q' i := by
 rw [conv_comm, conv_add_left, conv_comm q, conv_comm q']
theorem conv_mul_right (c : R) (p q : Nat → R) (i : Nat) : conv p (fun k => c * q k) i = c * conv p q i := by
 rw [conv_comm, conv_mul_left, conv_comm q]
theorem conv_zero_left {p q : Nat → R} (h : ∀ i, p i = 0) (i : Nat) : conv p q i = 0 :=
 sumTo_zero (fun k _ => by rw [h]; exact zero_mul' _)
theorem conv_mono (c : R) (j : Nat) (q : Nat → R) (i : Nat) : conv (fun k => if k = j then c else 0) q i = if j ≤ i then c * q (i - j) else 0 := by
 unfold conv
 by_cases h : j ≤ i
 ·rw [if_pos h, sumTo_one (j := j) (by omega) (fun k _ hne => by simp only [if_neg hne]; exact zero_mul' _)]
  simp only [if_true]
 ·rw [if_neg h]
  exact sumTo_zero (fun k hk => by simp only [if_neg (show ¬ k = j by omega)]; exact zero_mul' _)
theorem conv_top {p q : Nat → R} {m n : Nat} (hp : ∀ i, m ≤ i → p i = 0) (hq : ∀ i, n ≤ i → q i = 0) {i : Nat} (hi : m + n ≤ i + 1) : conv p q i = 0 := by
 refine sumTo_zero (fun k hk => ?_)
 by_cases h : m ≤ k
 ·rw [hp k h]; exact zero_mul' _
 ·rw [hq (i - k) (by omega)]; exact CR.mul_zero _
theorem conv_lead {p q : Nat → R} {m n : Nat} (hp : ∀ i, m < i → p i = 0) (hq : ∀ i, n < i → q i = 0) : conv p q (m + n) = p m * q n := by
 unfold conv
 rw [sumTo_one (j := m) (by omega) (fun k hk hne => ?_), show m + n - m = n by omega]
 by_cases h : m < k
 ·rw [hp k h]; exact zero_mul' _
 ·rw [hq (m + n - k) (by omega)]; exact CR.mul_zero _
theorem pqr_step (m : R) (w q v rest : Nat → R) (n k : Nat) (hn : 0 < n) (hv : ∀ i, n ≤ i → v i = 0) (hr : ∀ i, n + k ≤ i → rest i = 0)
  (hid : ∀ i, m * w i = conv q v i + rest i) (i : Nat) :
  (m * v (n - 1)) * w i = conv (fun j => q j * v (n - 1) + (if j = k then rest (n - 1 + k) else 0)) v i + (if i < n - 1 + k then rest i * v (n - 1) - (if k ≤ i then rest (n - 1 + k) * v (i - k) else 0) else 0) := by
 have h1 : conv (fun j => q j * v (n - 1) + (if j = k then rest (n - 1 + k) else 0)) v i = v (n - 1) * conv q v i + (if k ≤ i then rest (n - 1 + k) * v (i - k) else 0) := by
  rw [conv_add_left, conv_mono]
  congr 1
  rw [← conv_mul_left]
  exact conv_congr (fun j => CR.mul_comm _ _) (fun _ => rfl) i
 rw [h1]
 have h2 := hid i
 have h3 : m * v (n - 1) * w i = v (n - 1) * conv q v i + v (n - 1) * rest i := by
  rw [CR.mul_comm m, CR.mul_assoc, h2, CR.mul_add]
 rw [h3]
 by_cases hlt : i < n - 1 + k
 ·rw [if_pos hlt, CR.add_assoc, CR.add_sub, CR.mul_comm (rest i)]
 ·rw [if_neg hlt, if_pos (by omega), CR.add_zero]
  by_cases he : i = n - 1 + k
  ·subst he
   rw [show n - 1 + k - k = n - 1 by omega, CR.mul_comm (rest _)]
  ·rw [hv (i - k) (by omega), hr i (by omega), CR.mul_zero, CR.mul_zero]
end
section
variable {α : Type}
def trimG (z : α → Bool) : List α → List α
 | [] => []
 | a :: l => match trimG z l with
  | [] => if z a then [] else [a]
  | b :: m => a :: b :: m
theorem trimG_snoc (z : α → Bool) (l : List α) (a : α) : trimG z (l ++ [a]) = if z a then trimG z l else l ++ [a] := by
 induction l with
 | nil => simp [trimG]
 | cons b l ih =>
  rw [List.cons_append, trimG, ih]
  by_cases h : z a = true
  ·simp only [if_pos h]; rfl
  ·simp only [if_neg h]
   cases l with
   | nil => rfl
   | cons c m => rfl
theorem trimG_ends (z : α → Bool) (l : List α) : ∃ m, l = trimG z l ++ m ∧ (∀ a ∈ m, z a = true) ∧ ∀ a, (trimG z l).getLast? = some a → z a = false := by
 induction l with
 | nil => exact ⟨[], rfl, (fun _ h => by cases h), (fun a h => by simp [trimG] at h)⟩
 | cons b l ih =>
  obtain ⟨m, h1, h2, h3⟩ := ih
  rw [trimG]
  cases ht : trimG z l with
  | nil =>
   rw [ht, List.nil_append] at h1
   by_cases h : z b = true
   ·refine ⟨b :: m, by simp [h, h1], fun a ha => ?_, fun a ha => by simp [h] at ha⟩
    rcases List.mem_cons.1 ha with rfl | ha
    ·exact h
    ·exact h2 a ha
   ·refine ⟨m, by simp [h, h1], h2, fun a ha => ?_⟩
    simp [h] at ha
    subst ha; simpa using h
  | cons c k =>
   refine ⟨m, by rw [ht] at h1; simp [h1], h2, fun a ha => h3 a ?_⟩
   rw [ht]
   rw [List.getLast?_cons_cons] at ha
   exact ha
theorem trimG_len (z : α → Bool) (l : List α) : (trimG z l).length ≤ l.length := by
 obtain ⟨m, h, _⟩ := trimG_ends z l
 have := congrArg List.length h
 rw [List.length_append] at this
 omega
theorem trimG_take (z : α → Bool) (l : List α) : trimG z l = l.take (trimG z l).length := by
 obtain ⟨m, h, _⟩ := trimG_ends z l
 have : (trimG z l ++ m).take (trimG z l).length = trimG z l := by simp
 rw [← h] at this
 exact this.symm
theorem trimG_self {z : α → Bool} {l : List α} (h : ∀ a, l.getLast? = some a → z a = false) : trimG z l = l := by
 obtain ⟨m, h1, h2, _⟩ := trimG_ends z l
 by_cases hm : m = []
 ·rw [hm, List.append_nil] at h1; exact h1.symm
 ·exfalso
  have hl := List.getLast?_eq_some_getLast hm
  have : l.getLast? = some (m.getLast hm) := by
   rw [h1, List.getLast?_append, hl]; rfl
  have e := h _ this
  rw [h2 _ (List.getLast_mem hm)] at e
  cases e
theorem trimG_down (z : α → Bool) (l : List α) {n : Nat} {a : α} (h : l[n]? = some a) (hz : z a = true) : trimG z (l.take (n + 1)) = trimG z (l.take n) := by
 rw [List.take_add_one, h, Option.toList_some, trimG_snoc, if_pos hz]
theorem trimG_stop (z : α → Bool) (l : List α) {n : Nat} {a : α} (h : l[n]? = some a) (hz : z a = false) : trimG z (l.take (n + 1)) = l.take (n + 1) := by
 rw [List.take_add_one, h, Option.toList_some, trimG_snoc, if_neg (by rw [hz]; simp)]
theorem trimG_mem {z : α → Bool} {l : List α} {a : α} (h : a ∈ trimG z l) : a ∈ l := by
 rw [trimG_take] at h; exact List.mem_of_mem_take h
end
section
variable {α : Type} [OfNat α 0]
def cf (l : List α) (i : Nat) : α := l.getD i 0
def Trimmed (l : List α) : Prop := ∀ a, l.getLast? = some a → a ≠ 0
theorem cf_nil (i : Nat) : cf ([] : List α) i = 0 := by simp [cf]
theorem cf_of {l : List α} {i : Nat} {a : α} (h : l[i]? = some a) : cf l i = a := by simp [cf, h]
theorem cf_get {l : List α} {i : Nat} (h : i < l.length) : cf l i = l[i] := by simp [cf, h]
theorem cf_top {l : List α} {i : Nat} (h : l.length ≤ i) : cf l i = 0 := by simp [cf, h]
theorem cf_map {β : Type} [OfNat β 0] (f : β → α) (h : f 0 = 0) (l : List β) (i : Nat) : cf (l.map f) i = f (cf l i) := by
 unfold cf
 rw [List.getD_eq_getElem?_getD, List.getD_eq_getElem?_getD, List.getElem?_map]
 cases l[i]? <;> simp [h]
theorem cf_range (f : Nat → α) (n i : Nat) : cf ((List.range n).map f) i = if i < n then f i else 0 := by
 unfold cf
 rw [List.getD_eq_getElem?_getD, List.getElem?_map]
 by_cases h : i < n
 ·rw [if_pos h, List.getElem?_range h]; rfl
 ·rw [if_neg h, List.getElem?_eq_none (by simpa using h)]; rfl
theorem cf_last {l : List α} {a : α} (h : l.getLast? = some a) : cf l (l.length - 1) = a := by
 rw [List.getLast?_eq_getElem?] at h
 exact cf_of h
theorem trim_ext {a b : List α} (ha : Trimmed a) (hb : Trimmed b) (h : ∀ i, cf a i = cf b i) : a = b := by
 have key : ∀ {a b : List α}, Trimmed a → (∀ i, cf a i = cf b i) → a.length ≤ b.length := by
  intro a b ha h
  rcases Nat.lt_or_ge b.length a.length with hl | hl
  ·exfalso
   have hne : a ≠ [] := by intro e; rw [e] at hl; simp at hl
   have h1 := List.getLast?_eq_some_getLast hne
   have h2 := cf_last h1
   rw [h, cf_top (by omega)] at h2
   exact ha _ h1 h2.symm
  ·exact hl
 have hl : a.length = b.length := Nat.le_antisymm (key ha h) (key hb (fun i => (h i).symm))
 refine List.ext_getElem hl (fun i h1 h2 => ?_)
 have := h i
 rw [cf_get h1, cf_get h2] at this
 exact this
variable [DecidableEq α]
def isZ (a : α) : Bool := decide (a = 0)
theorem trimmed_trim (l : List α) : Trimmed (trimG isZ l) := by
 intro a ha
 obtain ⟨m, _, _, h⟩ := trimG_ends isZ l
 have := h a ha
 simpa [isZ] using this
theorem trim_self {l : List α} (h : Trimmed l) : trimG isZ l = l := trimG_self (fun a ha => by simpa [isZ] using h a ha)
theorem cf_trim (l : List α) (i : Nat) : cf (trimG isZ l) i = cf l i := by
 obtain ⟨m, h1, h2, _⟩ := trimG_ends isZ l
 by_cases h : i < (trimG isZ l).length
 ·unfold cf
  conv => rhs; rw [h1]
  simp [List.getElem?_append_left h]
 ·rw [cf_top (by omega)]
  by_cases hi : i < l.length
  ·rw [cf_get hi]
   have hm : l[i] ∈ m := by
    have e : l[i]? = m[i - (trimG isZ l).length]? := by
     conv => lhs; rw [h1]
     rw [List.getElem?_append_right (by omega)]
    rw [List.getElem?_eq_getElem hi] at e
    exact List.mem_of_getElem? e.symm
   have := h2 _ hm
   exact (by simpa [isZ] using this : l[i] = 0).symm
  ·rw [cf_top (by omega)]
end
def timesL (a b : List Int) : List Int := if a = [] ∨ b = [] then [] else (List.range (a.length + b.length - 1)).map (conv (cf a) (cf b))
theorem cf_times (a b : List Int) (i : Nat) : cf (timesL a b) i = conv (cf a) (cf b) i := by
 unfold timesL
 by_cases h : a = [] ∨ b = []
 ·rw [if_pos h, cf_nil]
  rcases h with h | h
  ·rw [h, conv_zero_left (fun i => cf_nil i)]
  ·rw [h, conv_comm, conv_zero_left (fun i => cf_nil i)]
 ·rw [if_neg h, cf_range]
  split
  ·rfl
  ·have ha : a.length ≠ 0 := fun e => h (.inl (List.eq_nil_of_length_eq_zero e))
   have hb : b.length ≠ 0 := fun e => h (.inr (List.eq_nil_of_length_eq_zero e))
   exact (conv_top (fun i hi => cf_top hi) (fun i hi => cf_top hi) (by omega)).symm
theorem cast_sum (f : Nat → Int) (n : Nat) : ((sumTo f n : Int) : Rat) = sumTo (fun k => (f k : Rat)) n := by
 induction n with
 | zero => rfl
 | succ n ih => rw [sumTo, sumTo, Rat.intCast_add, ih]
theorem cast_conv (p q : Nat → Int) (i : Nat) : ((conv p q i : Int) : Rat) = conv (fun k => (p k : Rat)) (fun k => (q k : Rat)) i := by
 unfold conv
 rw [cast_sum]
 exact sumTo_congr (fun k _ => by rw [Rat.intCast_mul])
theorem div_law {A B : Nat → Rat} {x y q r : Nat → Int} {xd yd m : Int} (hx : ∀ i, (x i : Rat) = A i * xd) (hy : ∀ i, (y i : Rat) = B i * yd) (hxd : xd ≠ 0) (hyd : yd ≠ 0) (hm : m ≠ 0)
  (h : ∀ i, m * x i = conv q y i + r i) (i : Nat) :
  conv (fun k => (q k * yd : Rat) / (xd * m)) B i + (r i : Rat) / (xd * m) = A i := by
 have hxd' : (xd : Rat) ≠ 0 := fun e => hxd (Rat.intCast_inj.1 e)
 have hyd' : (yd : Rat) ≠ 0 := fun e => hyd (Rat.intCast_inj.1 e)
 have hm' : (m : Rat) ≠ 0 := fun e => hm (Rat.intCast_inj.1 e)
 have h1 := congrArg (fun z : Int => (z : Rat)) (h i)
 simp only [Rat.intCast_mul, Rat.intCast_add, cast_conv] at h1
 have h2 : conv (fun k => (q k : Rat)) (fun k => (y k : Rat)) i = yd * conv (fun k => (q k : Rat)) B i := by
  rw [← conv_mul_right]
  exact conv_congr (fun _ => rfl) (fun j => by rw [hy]; grind) i
 have h3 : conv (fun k => (q k * yd : Rat) / (xd * m)) B i = (yd / (xd * m)) * conv (fun k => (q k : Rat)) B i := by
  rw [← conv_mul_left]
  exact conv_congr (fun j => by grind) (fun _ => rfl) i
 rw [h3]
 rw [h2, hx] at h1
 grind
end Go.Proofs.YtoimnlnaaklinaaGreatDoor
