/-
  Contracts of functions that the statement reaches, and plain laws: AppA, AppB, AppC.
-/
import Derived.Test.YtoimnlnaaklinaaGreatDoorA18
import Derived.Deep.AppendSrc
import Derived.Shelf.Strconv.AppendUint10
set_option linter.unusedVariables false
set_option linter.unusedSimpArgs false
set_option maxHeartbeats 8000000
namespace Go.Proofs.YtoimnlnaaklinaaGreatDoor
open Go.RowKit Sos Go.Sort
theorem wpList_append_run {P : Program} {ops : Array Oper} {rest : List Oper} {o : Oper} {a : Act} {w w' : World} {Q : Exit → Act → World → Prop} {v' : Value} (hgd : o.guard = none) {s x : Operand} {t tx ty : TypeId}
  (ho : o.op = .call { callee := .builtin .append, args := #[s, x], argTypes := #[t, tx] }) (hty : o.type = ty) {vs vx : Value} (hs : a.eval s = vs) (hx : a.eval x = vx) (hrun : (Builtin.append_ #[t, tx] ty #[vs, vx]).run P w = .ok v' w')
  (h : wpList P ops Q rest (a.put o.dst v') w') : wpList P ops Q (o :: rest) a w := by
 subst hty
 refine wpList_plain hgd fun K hK => ?_
 unfold Oper.wp execOp
 simp only [ho, resolve, invoke, builtin, Sem.run_bind, Sem.run_pure, Result.andThen_ok, List.map_toArray, List.map_cons, List.map_nil, hs, hx, hrun]
 exact hK _ _ h
def Apps (w : World) (dst : Value) (l : List UInt8) (Post : Value → World → Prop) : Prop :=
 (∀ w1 : World, Below w.heap.size w w1 → ∃ v' w', (Builtin.append_ #[114, 9] 114 #[dst, .string ⟨l.toArray⟩]).run Tryz.prog w1 = .ok v' w' ∧ Post v' w') ∧
 (∀ (w1 : World) (a : Addr) (c : Nat), Below w.heap.size w w1 → (∀ j u, (Lib.byteCells l)[j]? = some u → w1.cell? (a.add j) = some u) → ∃ v' w', (Builtin.append_ #[114, 114] 114 #[dst, .slice (some a) l.length c]).run Tryz.prog w1 = .ok v' w' ∧ Post v' w')
theorem bytes_oneCell (l : List UInt8) : ∀ u ∈ Lib.byteCells l, u.oneCell' = true := by
 intro u hu
 simp only [Lib.byteCells, List.mem_map] at hu
 obtain ⟨b, _, rfl⟩ := hu
 rfl
theorem apps_of_src (w : World) (dst : Value) (l : List UInt8) (Post : Value → World → Prop)
  (h : ∀ (w1 : World) (tx : TypeId) (x : Value), Below w.heap.size w w1 → Go.Src Tryz.prog 1 tx x l.length (Lib.byteCells l) w1 → ∃ v' w', (Builtin.append_ #[114, tx] 114 #[dst, x]).run Tryz.prog w1 = .ok v' w' ∧ Post v' w') : Apps w dst l Post := by
 have hsz : (⟨l.toArray⟩ : ByteArray).size = l.length := by simp [ByteArray.size]
 refine ⟨fun w1 hb => h w1 _ _ hb ?_, fun w1 a c hb hc => h w1 _ _ hb ?_⟩
 ·have := Go.Src.ofString (P := Tryz.prog) w1 Tryz.underlying9 ⟨l.toArray⟩
  rw [hsz] at this
  exact this
 ·exact Go.Src.ofSlice w1 Tryz.underlying114 _ _ _ _ (by rw [Lib.byteCells_length, Nat.mul_one]) hc (bytes_oneCell l)
theorem dec_len20 {u : Nat} (hu : u < BN) : (Lib.decDigits u).length ≤ 20 := by
 rw [Lib.decDigits_length]
 exact nDigits_le (by unfold BN at hu; omega) (by decide)
set_option maxRecDepth 100000 in
theorem appUint_small (dst : Value) (u : Nat) (w : World) (Post : Value → World → Prop) (hu : u < 100) (happ : Apps w dst (Lib.decDigits u) Post) :
  Calls Tryz.prog 152 #[dst, .int .u64 u, .int .i64 10] w fun e w' => ∃ v', e = .returned v' ∧ Post v' w' := by
 obtain ⟨v1, w1, hrun, hpost⟩ := happ.1 w (Below.refl _ _)
 have HR := Lib.hid hrun
 clear hrun happ
 have iu : (u : Int) < 100 := by omega
 go_enter Tryz.func152, Tryz.ntmps152
 go_wp2_with fail
 ((with_reducible refine (Tryz.internal_strconv_small u hu _).mono ?_))
 rintro e w' ⟨rfl, rfl⟩
 go_wp2_with (at_builtin; refine wpList_append_run rfl rfl rfl rfl rfl HR.out ?_)
 go_ret
 exact ⟨v1, rfl, hpost⟩
set_option maxRecDepth 100000 in
theorem appUint_big (dst : Value) (u : Nat) (w : World) (Post : Value → World → Prop) (hu : 100 ≤ u) (hu64 : u < BN) (hG : Glob w) (happ : Apps w dst (Lib.decDigits u) Post) :
  Calls Tryz.prog 152 #[dst, .int .u64 u, .int .i64 10] w fun e w' => ∃ v', e = .returned v' ∧ Post v' w' := by
 have hu1 : 1 ≤ u := by omega
 have hu64' : u < 18446744073709551616 := hu64
 have hnd20 : Lib.nDigits u ≤ 20 := by have := dec_len20 hu64; rwa [Lib.decDigits_length] at this
 have hal : Tryz.prog.arrayLen 163 = 24 := by simp [Program.arrayLen, Tryz.underlying163]
 have hsl : ∀ W, (Instr.sliceAt 163 (.pointer (some ⟨w.heap.size, 0, none⟩)) none (some (.int .i64 (Lib.nDigits u : Int))) none).run Tryz.prog W = .ok (.slice (some ⟨w.heap.size, 0, none⟩) (Lib.nDigits u) 24) W := fun W => by
  rw [run_sliceAt_array_h W 163 ⟨w.heap.size, 0, none⟩ (by simp [Program.arrayLen, Program.elem, Tryz.underlying163]) .i64 (Lib.nDigits u : Int) (by omega) (by rw [hal]; omega)]
  go_simp
 have hH0 := Lib.holds_zero0 w 163 (Lib.nDigits u) (by omega)
 have hfmt := Tryz.internal_strconv_formatBase10 w.heap.size 0 24 u (Array.replicate (Lib.nDigits u) 0) (w.alloc (.cells Lib.zeros24 163)) hH0 (by rw [Array.size_replicate]; exact Lib.lt_pow_nDigits u) hu64' (by rw [Array.size_replicate]; omega)
 rw [Array.size_replicate] at hfmt
 have HH0 := Lib.hid hH0
 have iu : (100 : Int) ≤ (u : Int) := by omega
 clear hH0 hal
 go_enter Tryz.func152, Tryz.ntmps152
 go_wp2_with fail
 refine (Tryz.internal_strconv_numDigits u hu1 hu64' _ (Lib.tabIs_alloc hG.pow _)).mono ?_
 rintro e w' ⟨rfl, rfl⟩
 go_wp2_with fail
 refine hfmt.mono ?_
 rintro e w' ⟨rfl, k, v', dk, rfl, hF⟩
 have hcells : ∀ j u', (Lib.byteCells (Lib.decDigits u))[j]? = some u' → ((putRow (fun (b : UInt8) => Value.int .u8 (b.toNat : Int)) (w.alloc (.cells Lib.zeros24 163)) w.heap.size 0 dk).drewN k).cell? ((⟨w.heap.size, 0, none⟩ : Addr).add j) = some u' := by
  intro j u' hj
  have hjl : j < (Lib.decDigits u).length := by
   have h5 := (List.getElem?_eq_some_iff.1 hj).1
   rwa [Lib.byteCells_length] at h5
  have e5 : (Lib.byteCells (Lib.decDigits u))[j]? = some (Value.int .u8 ((Lib.decDigits u)[j].toNat : Int)) := by simp [Lib.byteCells, hjl]
  rw [e5] at hj
  cases hj
  rw [Lib.row_is_numeral hF j hjl, Lib.add_plain, World.cell?_drewN]
  exact cell?_putRow (fun (b : UInt8) => Value.int .u8 (b.toNat : Int)) _ w.heap.size 0 _ dk HH0.out (by rw [hF.size, Array.size_replicate]) j (by rw [hF.size]; rw [Lib.decDigits_length] at hjl; exact hjl)
 obtain ⟨os, eo⟩ := Lib.fin_at w (.cells Lib.zeros24 163) dk k 0
 have hnx2 : Below w.heap.size w ((putRow (fun (b : UInt8) => Value.int .u8 (b.toNat : Int)) (w.alloc (.cells Lib.zeros24 163)) w.heap.size 0 dk).drewN k) := by rw [eo]; exact Lib.below_grow w.heap.size w (Nat.le_refl _) k os
 generalize (putRow (fun (b : UInt8) => Value.int .u8 (b.toNat : Int)) (w.alloc (.cells Lib.zeros24 163)) w.heap.size 0 dk).drewN k = W2 at hcells hnx2 ⊢
 clear eo HH0 hfmt
 obtain ⟨v2, w3, hrun, hpost⟩ := happ.2 W2 ⟨w.heap.size, 0, none⟩ 24 hnx2 hcells
 rw [Lib.decDigits_length] at hrun
 have HR := Lib.hid hrun
 clear hrun happ hcells
 go_wp2_with (at_builtin; refine wpList_append_run rfl rfl rfl rfl rfl HR.out ?_)
 go_ret
 exact ⟨v2, rfl, hpost⟩
theorem appUint_any (dst : Value) (u : Nat) (w : World) (Post : Value → World → Prop) (hu : u < BN) (hG : Glob w) (happ : Apps w dst (Lib.decDigits u) Post) :
  Calls Tryz.prog 133 #[dst, .int .u64 u, .int .i64 10] w fun e w' => ∃ v', e = .returned v' ∧ Post v' w' := by
 have h : Calls Tryz.prog 152 #[dst, .int .u64 u, .int .i64 10] w fun e w' => ∃ v', e = .returned v' ∧ Post v' w' := by
  by_cases h : u < 100
  ·exact appUint_small dst u w Post h happ
  ·exact appUint_big dst u w Post (by omega) hu hG happ
 clear happ
 go_enter Tryz.func133, Tryz.ntmps133
 go_wp2_with fail
 refine h.mono ?_
 rintro e w1 ⟨v1, rfl, hp⟩
 go_wp2
 go_ret
 exact ⟨v1, rfl, hp⟩
end Go.Proofs.YtoimnlnaaklinaaGreatDoor
namespace Go.Proofs.YtoimnlnaaklinaaGreatDoor
open Go.RowKit Sos
def TxtAt (w : World) (B : Nat) (v : Value) (bs : List UInt8) : Prop := w.ownsRow B 5 1 v bs.length (Lib.byteCells bs)
def GlobB (B : Nat) (w : World) : Prop := ∀ w', Below B w w' → Glob w'
theorem GlobB.on {B : Nat} {w w' : World} (h : GlobB B w) (hb : Below B w w') : GlobB B w' := fun w2 h2 => h w2 (hb.trans h2)
theorem GlobB.here {B : Nat} {w : World} (h : GlobB B w) : Glob w := h w (Below.refl _ _)
theorem Glob.globB {w : World} (h : Glob w) : GlobB w.heap.size w := fun _ hb => h.below hb
theorem TxtAt.lt {w : World} {B : Nat} {v : Value} {bs : List UInt8} (h : TxtAt w B v bs) : ∀ g, v.ownBlock = some g → B ≤ g ∧ g < w.heap.size := World.ownsRow.lt h
theorem TxtAt.below {w w' : World} {B : Nat} {v : Value} {bs : List UInt8} (h : TxtAt w B v bs) (hb : Below w.heap.size w w') : TxtAt w' B v bs := by
 refine World.ownsRow.kept h (grownBy_of_below hb none) ?_
 cases v.ownBlock with
 | none => exact .inl rfl
 | some g => exact .inr (by simp)
theorem TxtAt.slice {w : World} {B : Nat} {v : Value} {bs : List UInt8} (h : TxtAt w B v bs) : ∃ A c, v = .slice A bs.length c := by
 rcases h.2 with ⟨rfl, e⟩ | ⟨g, cap, cur, rfl, _⟩
 ·exact ⟨none, 0, by rw [e]⟩
 ·exact ⟨_, cap, rfl⟩
theorem byteCells_append (a b : List UInt8) : Lib.byteCells (a ++ b) = Lib.byteCells a ++ Lib.byteCells b := by simp [Lib.byteCells]
theorem byteCells_one (l : List UInt8) : ∀ u ∈ Lib.byteCells l, u.oneCell' = true := by
 intro u hu
 simp only [Lib.byteCells, List.mem_map] at hu
 obtain ⟨b, _, rfl⟩ := hu
 rfl
theorem info8 : (Tryz.prog.info? 5).map (fun i => (i.zero, i.size, i.bytes)) = some (some (.int .u8 0), 1, 1) := by kernel_rfl
def E19 : Nat := 10000000000000000000
theorem E19_pow : E19 = 10 ^ 19 := by decide
theorem E19_lt : E19 < BN := by decide
def cval (cs : List Nat) : Nat := cs.foldr (fun c a => c + E19 * a) 0
theorem cval_append (cs : List Nat) (c : Nat) : cval (cs ++ [c]) = cval cs + E19 ^ cs.length * c := by
 induction cs with
 | nil => simp [cval]
 | cons d cs ih =>
  have h1 : cval (d :: (cs ++ [c])) = d + E19 * cval (cs ++ [c]) := rfl
  have h2 : cval (d :: cs) = d + E19 * cval cs := rfl
  rw [List.cons_append, h1, h2, ih, List.length_cons, Nat.pow_succ]; grind
theorem cval_drop (cs : List Nat) (i : Nat) (h : i < cs.length) : cval (cs.drop i) = cs.getD i 0 + E19 * cval (cs.drop (i + 1)) := by
 rw [List.drop_eq_getElem_cons h]
 show cs[i] + E19 * cval (cs.drop (i + 1)) = _
 simp [List.getElem?_eq_getElem h]
def ofN (cs : List Nat) : List Int := cs.map (fun (c : Nat) => (c : Int))
theorem ofN_len (cs : List Nat) : (ofN cs).length = cs.length := by simp [ofN]
theorem ofN_snoc (cs : List Nat) (c : Nat) : ofN (cs ++ [c]) = ofN cs ++ [(c : Int)] := by simp [ofN]
theorem ofN_get (cs : List Nat) (i : Nat) : (ofN cs).getD i 0 = ((cs.getD i 0 : Nat) : Int) := by
 simp only [ofN, List.getD_eq_getElem?_getD, List.getElem?_map]
 cases cs[i]? <;> rfl
theorem pow_E19 {k x : Nat} (h : E19 ^ k ≤ x) : k ≤ 2 * nl x := by
 rcases Nat.lt_or_ge (2 * nl x) k with hk | hk
 ·exfalso
  have h1 := lt_pow_nl x
  have h2 : BN ^ nl x ≤ (E19 ^ 2) ^ nl x := Nat.pow_le_pow_left (by decide) _
  rw [← Nat.pow_mul] at h2
  have h3 : E19 ^ (2 * nl x) ≤ E19 ^ k := Nat.pow_le_pow_right (by decide) (by omega)
  omega
 ·exact hk
theorem setCells_grown (g : Nat) : ∀ (vs : List Value) (o : Nat) (w : World), w.grownBy (w.setCells g o vs) (some g)
 | [], _, w => World.grownBy.refl w _
 | v :: r, o, w => grownBy_trans (grownBy_setCell (w := w) ⟨g, o, none⟩ v) (setCells_grown g r (o + 1) _)
theorem Shape.setCells {g n : Nat} {t : TypeId} (b : Nat) : ∀ (vs : List Value) (o : Nat) (w : World), Shape w g t n → Shape (w.setCells b o vs) g t n
 | [], _, _, h => h
 | v :: r, o, w, h => Shape.setCells b r (o + 1) _ (h.set ⟨b, o, none⟩ v)
theorem Shape.isSome {w : World} {g n : Nat} {t : TypeId} (h : Shape w g t n) {j : Nat} (hj : j < n) : (w.cell? ⟨g, j, none⟩).isSome = true := by
 obtain ⟨cur, hh, hn⟩ := h
 rw [cell_of_row w g j cur _ (0, 0) hh]
 simp; omega
theorem Shape.below {w w' : World} {B g n : Nat} {t : TypeId} (h : Shape w g t n) (hb : Below B w w') (hg : g < B) : Shape w' g t n := h.keep (hb.block g hg)
theorem apps_buf (bb : Nat) (w : World) (t : TypeId) (hs : Shape w bb t 20) (l : List UInt8) (hl : l.length ≤ 20) :
  Apps w (.slice (some ⟨bb, 0, none⟩) 0 20) l (fun v' w' => v' = .slice (some ⟨bb, 0, none⟩) l.length 20 ∧ VC w' bb 0 (Lib.byteCells l) ∧ w.grownBy w' (some bb) ∧ Shape w' bb t 20) := by
 refine apps_of_src _ _ _ _ ?_
 intro w1 tx x hb hsrc
 obtain ⟨i, hi0, hz, hs1, hby⟩ := info_parts info8
 have hsh := hs.below hb hs.lt
 have hrun := run_append_room_src (P := Tryz.prog) w1 114 tx 114 5 i Tryz.underlying114 hi0 bb 0 0 20 x l.length (Lib.byteCells l) (by rw [hs1]; exact hsrc) (by omega)
  (fun j hj => by rw [Lib.byteCells_length] at hj; rw [show 0 + 0 * i.size + j = j by omega]; exact hsh.isSome (by omega)) (fun j _ => hsh.soft.free _)
 rw [show 0 + 0 * i.size = 0 by omega, Nat.zero_add] at hrun
 refine ⟨_, _, hrun, rfl, ?_, grownBy_trans (grownBy_of_below hb _) (setCells_grown bb _ 0 w1), Shape.setCells bb _ 0 w1 hsh⟩
 intro j v hv
 have hj : j < (Lib.byteCells l).length := (List.getElem?_eq_some_iff.1 hv).1
 have := World.cell?_setCells_in bb (Lib.byteCells l) 0 w1 (fun j hj => by rw [Lib.byteCells_length] at hj; rw [Nat.zero_add]; exact hsh.isSome (by omega)) j hj
 rw [this, ← hv, List.getElem?_eq_getElem hj]
theorem pad_first {wd c : Nat} (hc : c ≠ 0) : List.replicate (max (Lib.decDigits c).length wd - (Lib.decDigits c).length) 48 ++ Lib.decDigits c = padDec wd c := by
 unfold padDec
 rw [if_neg hc, if_neg hc, Lib.decDigits_length]
 congr 2 <;> omega
theorem pad_next {c : Nat} (hc : c < E19) : List.replicate (19 - (Lib.decDigits c).length) 48 ++ Lib.decDigits c = padDec 19 c := by
 refine padDec_of ((Digs.zeros _).append (decDigits_digs c)) (by rw [decVal_append, decVal_zeros, decDigits_val]; omega) ?_
 have h1 : Lib.nDigits c ≤ 19 := nDigits_le (by rw [← E19_pow]; exact hc) (by decide)
 rw [List.length_append, List.length_replicate, Lib.decDigits_length]
 split <;> omega
theorem pad_step {width k H c : Nat} (hH : H ≠ 0) (hc : c < E19) : padDec (width - 19 * (k + 1)) H ++ padDec 19 c = padDec (width - 19 * k) (c + E19 * H) := by
 have := padDec_split (w := width - 19 * k) (hi := H) (lo := c) (d := 19) (by rw [← E19_pow]; exact hc) (.inl hH)
 rw [show c + E19 * H = H * 10 ^ 19 + c by rw [E19_pow]; grind, this]
 congr 2 <;> omega
theorem nDigits_nl (n : Nat) : Lib.nDigits n ≤ 20 * nl n + 1 := by
 refine nDigits_le ?_ (by omega)
 have h1 := lt_pow_nl n
 have h2 : BN ^ nl n ≤ (10 ^ 20) ^ nl n := Nat.pow_le_pow_left (by decide) _
 rw [← Nat.pow_mul] at h2
 have h3 : 10 ^ (20 * nl n) ≤ 10 ^ (20 * nl n + 1) := Nat.pow_le_pow_right (by decide) (by omega)
 omega
theorem padDec_len_le (w n : Nat) : (padDec w n).length ≤ w + 20 * nl n + 1 := by
 rw [padDec_len]
 have := nDigits_nl n
 split <;> omega
theorem cval_drop_le {cs : List Nat} (i : Nat) : cval (cs.drop i) ≤ cval cs := by
 induction i generalizing cs with
 | zero => exact Nat.le_refl _
 | succ i ih =>
  cases cs with
  | nil => simp
  | cons c cs =>
   rw [List.drop_succ_cons]
   have h1 : cval (c :: cs) = c + E19 * cval cs := rfl
   have h2 : 1 * cval cs ≤ E19 * cval cs := Nat.mul_le_mul_right _ (by decide)
   have := ih (cs := cs)
   omega
theorem cval_pos {cs : List Nat} (h : cs.getLast? ≠ some 0) {i : Nat} (hi : i < cs.length) : cval (cs.drop i) ≠ 0 := by
 induction cs generalizing i with
 | nil => simp at hi
 | cons c cs ih =>
  cases i with
  | succ i =>
   rw [List.drop_succ_cons]
   cases cs with
   | nil => simp at hi
   | cons d cs => exact ih (by simpa using h) (by simpa using hi)
  | zero =>
   have h1 : cval (c :: cs) = c + E19 * cval cs := rfl
   rw [List.drop_zero, h1]
   cases cs with
   | nil =>
    simp at h
    simp [cval]; exact h
   | cons d cs =>
    have := ih (i := 0) (by simpa using h) (by simp)
    rw [List.drop_zero] at this
    have h3 : 0 < E19 * cval (d :: cs) := Nat.mul_pos (by decide) (by omega)
    omega
theorem TxtAt.more {w w' : World} {B : Nat} {v v' : Value} {bs l : List UInt8} {o : Obj} (ho : w'.ownsRow B 5 1 v' (bs.length + l.length) (Lib.byteCells bs ++ Lib.byteCells l)) (hg : (w.alloc o).grownBy w' v.ownBlock) (hat : v'.ownBlock = v.ownBlock ∨ v'.ownBlock = some (w.alloc o).heap.size) :
  TxtAt w' B v' (bs ++ l) ∧ TxtTo w v w' v' := by
 refine ⟨by unfold TxtAt; rw [byteCells_append, List.length_append]; exact ho, ⟨hg.os, hg.tape, hg.output, Nat.le_trans (by simp) hg.size, fun i hi hne => (hg.block i (by simp; omega) hne).trans (Below.heap_alloc w o i hi)⟩, fun g e => ?_⟩
 rcases hat with h | h
 ·left; rw [← h]; exact e
 ·right; rw [h] at e; simp at e; omega
theorem TxtAt.more' {w w' : World} {B : Nat} {v v' : Value} {bs l : List UInt8} (ho : w'.ownsRow B 5 1 v' (bs.length + l.length) (Lib.byteCells bs ++ Lib.byteCells l)) (hg : w.grownBy w' v.ownBlock) (hat : v'.ownBlock = v.ownBlock ∨ v'.ownBlock = some w.heap.size) :
  TxtAt w' B v' (bs ++ l) ∧ TxtTo w v w' v' := by
 refine ⟨by unfold TxtAt; rw [byteCells_append, List.length_append]; exact ho, hg, fun g e => ?_⟩
 rcases hat with h | h
 ·left; rw [← h]; exact e
 ·right; rw [h] at e; simp at e; omega
theorem TxtTo.beside {w w' : World} {a b cv : Value} {B bb n : Nat} {t : TypeId} {zs : List Int} (h : TxtTo w a w' b) (ho : OwnN w B cv zs) (hs : Shape w bb t n) (hap : Apart a cv) (hab : a.ownBlock ≠ some bb) :
  OwnN w' B cv zs ∧ Shape w' bb t n ∧ Apart b cv ∧ b.ownBlock ≠ some bb := by
 refine ⟨ho.grown h.1 hap, hs.grown h.1 hab, h.apart hap (fun g e => (ho.lt g e).2), fun e => ?_⟩
 rcases h.2 bb e with h' | h'
 ·exact hab h'
 ·have := hs.lt; omega
def OutRel (w : World) (B bb : Nat) (tv cv : Value) (bs : List UInt8) (cs : List Nat) (width k : Nat) (p f : Value) (wr : World) : Prop :=
 ∃ bs', ((k = cs.length ∧ f = .bool true ∧ bs' = bs) ∨ (k < cs.length ∧ f = .bool false ∧ bs' = bs ++ padDec (width - 19 * k) (cval (cs.drop k)))) ∧ TxtAt wr B p bs' ∧ TxtTo w tv wr p ∧ OwnN wr w.heap.size cv (ofN cs) ∧ Shape wr bb 174 20 ∧
  Apart p cv ∧ p.ownBlock ≠ some bb ∧ k ≤ cs.length
set_option maxRecDepth 100000 in
theorem appendSimple_any (B : Nat) (tv : Value) (bs : List UInt8) (x width : Nat) (vx : Value) (w : World) (hG : GlobB B w) (hB : B ≤ w.heap.size) (ht : TxtAt w B tv bs) (hx : NatAt w vx x) (hxl : nl x ≤ 1099511627776) (hwl : width ≤ 17592186044416) (hbl : bs.length ≤ 17592186044416) :
  Calls Tryz.prog 153 #[tv, vx, .int .i64 width] w fun e w' => ∃ v, e = .returned v ∧ TxtAt w' B v (bs ++ padDec width x) ∧ TxtTo w tv w' v := by
 go_enter Tryz.func153, Tryz.ntmps153
 go_wp2_with fail
 ((with_reducible refine (clone64_row x _ _ hx (by unfold LIM; omega)).mono ?_))
 rintro e w1 ⟨vw, rfl, hvw, hb1⟩
 go_wp2_with fail
 go_loopg [7, 8] x (fun k p q wr => ∃ (n : Nat) (cs : List Nat), Hid (n = k) ∧ OwnN wr w.heap.size p (dg n) ∧ OwnN wr w.heap.size q (ofN cs) ∧ Apart p q ∧ (∀ c ∈ cs, c < E19) ∧ Hid (x = cval cs + E19 ^ cs.length * n) ∧ Hid (n ≠ 0 ∨ cs = [] ∨ cs.getLast? ≠ some 0) ∧ n ≤ x ∧ cs.length ≤ 2 * nl x + 1 ∧ Below w.heap.size w wr)
 case atStart =>
  exact ⟨x, [], rfl, hvw, OwnN.nil _ _, (fun g _ h => by cases h), (fun c hc => by cases hc), (by simp [Hid, cval]), Or.inr (Or.inl rfl), Nat.le_refl _, Nat.zero_le _, hb1⟩
 case round =>
  obtain ⟨n, cs, HK, hp, hq, hap, hcs, HX, HZ, hnx, hcsl, hbel⟩ := hrel
  clear hvw hb1
  have hnl := nl_mono hnx
  by_cases hn0 : n = 0
  ·subst hn0
   have hx0 := HX.out
   rw [Nat.mul_zero, Nat.add_zero] at hx0
   have hz0 : cs = [] ∨ cs.getLast? ≠ some 0 := by rcases HZ.out with h | h; exact absurd rfl h; exact h
   have HX0 := Lib.hid hx0
   have HZ0 := Lib.hid hz0
   clear hx0 hz0 HX HZ HK
   obtain ⟨Aw, cw, hpe⟩ := hp.slice
   rw [dg_len, nl_zero] at hpe
   subst hpe
   obtain ⟨Aq, cq, hqe⟩ := hq.slice
   rw [ofN_len] at hqe
   subst hqe
   have hwr := hbel.size
   have hqlt := hq.lt
   obtain ⟨bb, hbb⟩ : ∃ bb, bb = wr.heap.size := ⟨_, rfl⟩
   have hbbw : w.heap.size ≤ bb := by omega
   have hcb : ∀ a, (Value.slice Aq cs.length cq).ownBlock = some a → a ≠ bb := fun a ha => by have := (hqlt a ha).2; omega
   have htv := ht.lt
   have hrel0 : OutRel w B bb tv (.slice Aq cs.length cq) bs cs width cs.length tv (.bool true) (wr.alloc (.cells (Array.replicate 20 (Value.int .u8 0)) 174)) := by
    have hba := hbel.alloc hbel.size (.cells (Array.replicate 20 (Value.int .u8 0)) 174)
    refine ⟨bs, .inl ⟨rfl, rfl, rfl⟩, ht.below hba, TxtTo.below hba, World.ownsRow.alloc hq _, ⟨_, by rw [hbb]; exact heap_alloc_new wr _, by simp⟩, ?_, ?_, Nat.le_refl _⟩
    ·intro a ha e
     have := (htv a ha).2
     have := (hqlt a e).1
     omega
    ·intro e
     have := (htv _ e).2
     omega
   have HTV := Lib.hid htv
   clear hp hq hap hqlt htv ht
   go_wp2_with fail
   rw [← hbb] at *
   clear hbb
   go_loopg [0, 12, 13] cs.length (fun k p f i wr => i = .int .i64 ((k : Int) - 1) ∧ OutRel w B bb tv (.slice Aq cs.length cq) bs cs width k p f wr)
   case atStart => exact ⟨rfl, hrel0⟩
   case round =>
    obtain ⟨rfl, bs', hcase, htx, hto, hoq, hsh, hapq, hpb, hkm⟩ := hrel
    clear hrel0
    cases gk with
    | zero =>
     have hi0 : ((0 : Nat) : Int) - 1 = -1 := by omega
     simp only [hi0]
     clear hi0
     rcases hcase with ⟨hk, rfl, hbs⟩ | ⟨hk, rfl, rfl⟩
     ·have hbs' := hbs.symm
      subst hbs'
      have hcs0 : cs = [] := List.eq_nil_of_length_eq_zero hk.symm
      have hx0 : x = 0 := by rw [HX0.out, hcs0]; rfl
      subst hx0
      have hB3 : B ≤ wr.heap.size := Nat.le_trans hB hto.1.size
      clear hoq hcs0 hk
      go_wp2_with fail
      generalize u0 = tx at *
      go_loopg [0, 82] width (fun k' p i wx => ∃ j, Hid (j + k' = width) ∧ i = .int .i64 j ∧ TxtAt wx B p (bs ++ List.replicate j 48) ∧ TxtTo wr tx wx p)
      case atStart => exact ⟨0, by unfold Hid; omega, rfl, by simpa using htx, TxtTo.refl _ _⟩
      case round =>
       obtain ⟨j, HJ, rfl, hta, htt⟩ := hrel
       have hjd : j ≤ width := by have := HJ.out; omega
       have hln : (bs ++ List.replicate j (48 : UInt8)).length = bs.length + j := by rw [List.length_append, List.length_replicate]
       have hB2 : B ≤ wr.heap.size := Nat.le_trans hB3 htt.1.size
       cases gk with
       | succ k' =>
        have hj : (j : Int) < width := by have := HJ.out; omega
        have hta' : wr.ownsRow B 5 1 u0 (bs.length + j) (Lib.byteCells (bs ++ List.replicate j 48)) := by
         have := hta
         unfold TxtAt at this
         rw [hln] at this
         exact this
        have HLN := Lib.hid hln
        clear hln
        go_wp2_with (at_builtin; refine wpList_append rfl rfl 5 _ 1 1 Tryz.underlying114 info8 rfl (by decide) B u0 (bs.length + j) _ rfl (hta'.alloc _) [Value.int .u8 48] rfl (by simp) (src_one _ _ _) (by simp [Value.oneCell']) (by omega) (by omega) (by simp; omega) ?_; intro q1 w6 ho1 hg1 hat1)
        have hm := TxtAt.more (bs := bs ++ List.replicate j 48) (l := [48]) (by rw [HLN.out]; exact ho1) hg1 hat1
        go_wp2_with fail
        go_roundg k'
        case measure => omega
        case rel =>
         refine ⟨j + 1, by have := HJ.out; unfold Hid; omega, by go_num, ?_, htt.trans hm.2⟩
         rw [List.replicate_succ', ← List.append_assoc]; exact hm.1
       | zero =>
        obtain rfl : j = width := by have := HJ.out; omega
        clear hln
        go_wp2_with fail
        go_ret
        exact ⟨_, rfl, by rw [padDec_zero]; exact hta, hto.trans htt⟩
     ·have hx1 : Hid (cval (cs.drop 0) = x) := by unfold Hid; rw [HX0.out]; rfl
      go_wp2_with fail
      go_ret
      refine ⟨_, rfl, ?_, hto⟩
      have := htx
      rw [Nat.mul_zero, Nat.sub_zero, hx1.out] at this
      exact this
    | succ k =>
     obtain ⟨gc, rfl, hgcB, -, -, hshc, hclc⟩ := hoq.parts (by rw [ofN_len]; omega)
     have g1 := hclc k (by rw [ofN_len]; omega)
     rw [Nat.zero_add, ofN_get] at g1
     have hcE : cs.getD k 0 < E19 := hcs _ (by rw [List.getD_eq_getElem?_getD, List.getElem?_eq_getElem (by omega)]; exact List.getElem_mem _)
     have HCD := Lib.hid (cval_drop cs k (by omega))
     generalize hce : cs.getD k 0 = ch at *
     have hki : ((k + 1 : Nat) : Int) - 1 = (k : Int) := by omega
     simp only [hki]
     have hgcb : gc ≠ bb := hcb gc rfl
     have hchB : ch < BN := Nat.lt_trans hcE E19_lt
     have hBel : Below B w wr := hto.belowB hB (fun a ha => (HTV.out a ha).1)
     have hGr : Glob wr.drew := hG _ hBel.drew
     have happ := apps_buf bb wr.drew 174 hsh (Lib.decDigits ch) (dec_len20 hchB)
     have hau := appUint_any _ ch wr.drew _ hchB hGr happ
     have hgcl : gc < wr.drew.heap.size := hshc.lt
     have hk0 : (0 : Int) ≤ (k : Int) := by omega
     have hk1 : (k : Int) < (cs.length : Int) := by omega
     have hsl : ∀ W, (Instr.sliceAt 174 (.pointer (some ⟨bb, 0, none⟩)) none (some (.int .i64 0)) none).run Tryz.prog W = .ok (.slice (some ⟨bb, 0, none⟩) 0 20) W := fun W => by kernel_rfl
     have HCE := Lib.hid hce
     have hL := dec_len20 hchB
     have HPF := Lib.hid (fun (hc : ch ≠ 0) (wd : Nat) => pad_first (wd := wd) hc)
     have HPN := Lib.hid (pad_next hcE)
     have hL1 : 1 ≤ (Lib.decDigits ch).length := by rw [Lib.decDigits_length]; exact Lib.nDigits_pos ch
     clear hki happ hce hclc hBel hGr
     generalize Lib.decDigits ch = ds at *
     go_wp2_with fail
     go_region_held3 (fun w' => w'.cell? ⟨gc, k, none⟩ = some (.int .u64 ch)) (first | go_keep | (exact (World.cell?_of_block (a := ⟨gc, k, none⟩) (hg5.block gc hgcl (fun e => hgcb (by injection e)))).trans g1)) (first
      | (go_at_call 133; (with_reducible refine hau.mono ?_); rintro e5 w5 ⟨v5, rfl, rfl, hvc5, hg5, hsh5⟩))
     clear hau hsl
     have htx5 : TxtAt w5 B u0 bs' := World.ownsRow.kept (w := wr.drew) htx hg5 (.inr hpb)
     have hoq5 : OwnN w5 w.heap.size (.slice (some ⟨gc, 0, none⟩) cs.length cq) (ofN cs) := OwnN.grown (w := wr.drew) hoq hg5 (fun g e => by injection e with e; subst e; intro e2; exact hgcb (by simpa [Value.ownBlock] using e2))
     have hto5 : TxtTo w tv w5 u0 := hto.step (w1 := wr) ⟨hg5.os, hg5.tape, hg5.output, hg5.size, hg5.block⟩ hbbw
     have hB5 : B ≤ w5.heap.size := Nat.le_trans hB (Nat.le_trans hto.1.size hg5.size)
     obtain ⟨L, HDS⟩ : ∃ L, Hid (ds.length = L) := ⟨_, rfl⟩
     simp only [HDS.out] at hL hL1 HPF HPN ⊢
     clear htx hoq hto hg5 g1 hsh hshc
     rcases hcase with ⟨hk, rfl, hbs⟩ | ⟨hk, rfl, rfl⟩
     ·have hbs' := hbs.symm
      subst hbs'
      obtain ⟨sz, hsze, HSZ⟩ : ∃ sz : Nat, max (L : Int) ((width : Int) - 19 * (k : Int)) = (sz : Int) ∧ Hid (sz = max L (width - 19 * k)) := ⟨max L (width - 19 * k), by omega, rfl⟩
      have hch0 : ch ≠ 0 := by
       have h1 := HZ0.out
       rcases h1 with h1 | h1
       ·rw [h1] at hk; simp at hk
       ·rw [← HCE.out]
        intro e
        apply h1
        rw [List.getLast?_eq_getElem?, show cs.length - 1 = k by omega, List.getElem?_eq_getElem (by omega)]
        rw [List.getD_eq_getElem?_getD, List.getElem?_eq_getElem (by omega)] at e
        simpa using e
      have HFIN : Hid (cval (cs.drop k) = ch) := by
       unfold Hid
       rw [HCD.out, List.drop_of_length_le (by omega)]; simp [cval]
      have hL2 : L ≤ sz := by have := HSZ.out; omega
      obtain ⟨d, hdd, HD⟩ : ∃ d : Nat, (sz : Int) - (L : Int) = (d : Int) ∧ Hid (d = sz - L) := ⟨sz - L, by omega, rfl⟩
      have hd1 : d ≤ 17592186044436 := by have := HD.out; have := HSZ.out; omega
      go_wp2_with fail
      generalize u0 = tx at *
      go_loopg [0, 71] d (fun k' p i wx => ∃ j, Hid (j + k' = d) ∧ i = .int .i64 j ∧ TxtAt wx B p (bs ++ List.replicate j 48) ∧ TxtTo w5 tx wx p)
      case atStart => exact ⟨0, by unfold Hid; omega, rfl, by simpa using htx5, TxtTo.refl _ _⟩
      case round =>
       obtain ⟨j, HJ, rfl, hta, htt⟩ := hrel
       have hjd : j ≤ d := by have := HJ.out; omega
       have hln : (bs ++ List.replicate j (48 : UInt8)).length = bs.length + j := by rw [List.length_append, List.length_replicate]
       have hB2 : B ≤ wr.heap.size := Nat.le_trans hB5 htt.1.size
       cases gk with
       | succ k' =>
        have hj : (j : Int) < d := by have := HJ.out; omega
        have hta' : wr.ownsRow B 5 1 u0 (bs.length + j) (Lib.byteCells (bs ++ List.replicate j 48)) := by
         have := hta
         unfold TxtAt at this
         rw [hln] at this
         exact this
        have HLN := Lib.hid hln
        clear hln
        go_wp2_with (at_builtin; refine wpList_append rfl rfl 5 _ 1 1 Tryz.underlying114 info8 rfl (by decide) B u0 (bs.length + j) _ rfl (hta'.alloc _) [Value.int .u8 48] rfl (by simp) (src_one _ _ _) (by simp [Value.oneCell']) (by omega) (by omega) (by simp; omega) ?_; intro q1 w6 ho1 hg1 hat1)
        have hm := TxtAt.more (bs := bs ++ List.replicate j 48) (l := [48]) (by rw [HLN.out]; exact ho1) hg1 hat1
        go_wp2_with fail
        go_roundg k'
        case measure => omega
        case rel =>
         refine ⟨j + 1, by have := HJ.out; unfold Hid; omega, by go_num, ?_, htt.trans hm.2⟩
         rw [List.replicate_succ', ← List.append_assoc]; exact hm.1
       | zero =>
        obtain rfl : j = d := by have := HJ.out; omega
        have hbes := htt.beside hoq5 hsh5 hapq hpb
        have hvcx := hvc5.grown htt.1 hsh5.lt hpb
        have hta' : wr.ownsRow B 5 1 u0 (bs.length + j) (Lib.byteCells (bs ++ List.replicate j 48)) := by
         have := hta
         unfold TxtAt at this
         rw [hln] at this
         exact this
        have HLN := Lib.hid hln
        clear hln
        have hsrc : Src wr (some ⟨bb, 0, none⟩) (Lib.byteCells ds) := .inr ⟨bb, 0, rfl, hvcx⟩
        go_wp2_with (at_builtin; refine wpList_append rfl rfl 5 _ 1 1 Tryz.underlying114 info8 rfl (by decide) B u0 (bs.length + j) _ rfl hta' (Lib.byteCells ds) rfl (by rw [Lib.byteCells_length, HDS.out, Nat.mul_one]) hsrc (byteCells_one ds) (by omega) (by omega) hB2 ?_; intro q1 w6 ho1 hg1 hat1)
        have hm := TxtAt.more' (bs := bs ++ List.replicate j 48) (l := ds) (by rw [HLN.out, HDS.out]; exact ho1) hg1 hat1
        have hbes2 := hm.2.beside hbes.1 hbes.2.1 hbes.2.2.1 hbes.2.2.2
        have hto6 := (hto5.trans htt).trans hm.2
        go_wp2_with fail
        go_roundg k
        case measure => omega
        case rel =>
         refine ⟨rfl, _, .inr ⟨by omega, rfl, rfl⟩, ?_, hto6, hbes2.1, hbes2.2.1, hbes2.2.2.1, hbes2.2.2.2, by omega⟩
         have := hm.1
         rw [HD.out] at this
         rw [HSZ.out, List.append_assoc, HPF.out hch0] at this
         rw [HFIN.out]; exact this
     ·obtain ⟨sz, hsze, HSZ⟩ : ∃ sz : Nat, (19 : Int) = (sz : Int) ∧ Hid (sz = 19) := ⟨19, rfl, rfl⟩
      have hH : cval (cs.drop (k + 1)) ≠ 0 := by
       rcases HZ0.out with h1 | h1
       ·rw [h1] at hk; simp at hk
       ·exact cval_pos h1 hk
      have hHx : cval (cs.drop (k + 1)) ≤ x := by rw [HX0.out]; exact cval_drop_le _
      have hL19 : L ≤ 19 := by
       have h1 := congrArg List.length HPN.out
       have h2 : Lib.nDigits ch ≤ 19 := nDigits_le (by rw [← E19_pow]; exact hcE) (by decide)
       rw [padDec_len, List.length_append, List.length_replicate, HDS.out] at h1
       split at h1 <;> omega
      generalize cval (cs.drop (k + 1)) = H at *
      obtain ⟨bl, HBL, hbl2⟩ : ∃ bl, Hid ((bs ++ padDec (width - 19 * (k + 1)) H).length = bl) ∧ bl ≤ 57174604644353 := by
       refine ⟨_, rfl, ?_⟩
       have h1 := padDec_len_le (width - 19 * (k + 1)) H
       have h2 := nl_mono hHx
       rw [List.length_append]; omega
      clear hsze HSZ
      clear sz
      have HSZ : Hid ((19 : Nat) = 19) := rfl
      have hL2 : L ≤ 19 := by have := HSZ.out; omega
      obtain ⟨d, hdd, HD⟩ : ∃ d : Nat, (19 : Int) - (L : Int) = (d : Int) ∧ Hid (d = 19 - L) := ⟨19 - L, by omega, rfl⟩
      have hd1 : d ≤ 17592186044436 := by have := HD.out; have := HSZ.out; omega
      go_wp2_with fail
      generalize u0 = tx at *
      go_loopg [0, 71] d (fun k' p i wx => ∃ j, Hid (j + k' = d) ∧ i = .int .i64 j ∧ TxtAt wx B p ((bs ++ padDec (width - 19 * (k + 1)) H) ++ List.replicate j 48) ∧ TxtTo w5 tx wx p)
      case atStart => exact ⟨0, by unfold Hid; omega, rfl, by simpa using htx5, TxtTo.refl _ _⟩
      case round =>
       obtain ⟨j, HJ, rfl, hta, htt⟩ := hrel
       have hjd : j ≤ d := by have := HJ.out; omega
       have hln : ((bs ++ padDec (width - 19 * (k + 1)) H) ++ List.replicate j (48 : UInt8)).length = bl + j := by rw [List.length_append, List.length_replicate, HBL.out]
       have hB2 : B ≤ wr.heap.size := Nat.le_trans hB5 htt.1.size
       cases gk with
       | succ k' =>
        have hj : (j : Int) < d := by have := HJ.out; omega
        have hta' : wr.ownsRow B 5 1 u0 (bl + j) (Lib.byteCells ((bs ++ padDec (width - 19 * (k + 1)) H) ++ List.replicate j 48)) := by
         have := hta
         unfold TxtAt at this
         rw [hln] at this
         exact this
        have HLN := Lib.hid hln
        clear hln
        go_wp2_with (at_builtin; refine wpList_append rfl rfl 5 _ 1 1 Tryz.underlying114 info8 rfl (by decide) B u0 (bl + j) _ rfl (hta'.alloc _) [Value.int .u8 48] rfl (by simp) (src_one _ _ _) (by simp [Value.oneCell']) (by omega) (by omega) (by simp; omega) ?_; intro q1 w6 ho1 hg1 hat1)
        have hm := TxtAt.more (bs := (bs ++ padDec (width - 19 * (k + 1)) H) ++ List.replicate j 48) (l := [48]) (by rw [HLN.out]; exact ho1) hg1 hat1
        go_wp2_with fail
        go_roundg k'
        case measure => omega
        case rel =>
         refine ⟨j + 1, by have := HJ.out; unfold Hid; omega, by go_num, ?_, htt.trans hm.2⟩
         rw [List.replicate_succ', ← List.append_assoc]; exact hm.1
       | zero =>
        obtain rfl : j = d := by have := HJ.out; omega
        have hbes := htt.beside hoq5 hsh5 hapq hpb
        have hvcx := hvc5.grown htt.1 hsh5.lt hpb
        have hta' : wr.ownsRow B 5 1 u0 (bl + j) (Lib.byteCells ((bs ++ padDec (width - 19 * (k + 1)) H) ++ List.replicate j 48)) := by
         have := hta
         unfold TxtAt at this
         rw [hln] at this
         exact this
        have HLN := Lib.hid hln
        clear hln
        have hsrc : Src wr (some ⟨bb, 0, none⟩) (Lib.byteCells ds) := .inr ⟨bb, 0, rfl, hvcx⟩
        go_wp2_with (at_builtin; refine wpList_append rfl rfl 5 _ 1 1 Tryz.underlying114 info8 rfl (by decide) B u0 (bl + j) _ rfl hta' (Lib.byteCells ds) rfl (by rw [Lib.byteCells_length, HDS.out, Nat.mul_one]) hsrc (byteCells_one ds) (by omega) (by omega) hB2 ?_; intro q1 w6 ho1 hg1 hat1)
        have hm := TxtAt.more' (bs := (bs ++ padDec (width - 19 * (k + 1)) H) ++ List.replicate j 48) (l := ds) (by rw [HLN.out, HDS.out]; exact ho1) hg1 hat1
        have hbes2 := hm.2.beside hbes.1 hbes.2.1 hbes.2.2.1 hbes.2.2.2
        have hto6 := (hto5.trans htt).trans hm.2
        go_wp2_with fail
        go_roundg k
        case measure => omega
        case rel =>
         refine ⟨rfl, _, .inr ⟨by omega, rfl, rfl⟩, ?_, hto6, hbes2.1, hbes2.2.1, hbes2.2.2.1, hbes2.2.2.2, by omega⟩
         have := hm.1
         rw [HD.out] at this
         rw [List.append_assoc, HPN.out, List.append_assoc, pad_step hH hcE] at this
         rw [HCD.out]; exact this
  ·have hn1 := nl_pos hn0
   obtain ⟨g, cap, rfl, hgB, hnc, hcm, hsh, hcl⟩ := hp.at_ (by rw [dg_len]; exact hn1)
   simp only [dg_len] at hp hnc hap ⊢
   have i1 : (0 : Int) < (nl n : Int) := by omega
   have hcl2 : cs.length ≤ 2 * nl x := by
    refine pow_E19 ?_
    have h1 := HX.out
    have h2 : E19 ^ cs.length * 1 ≤ E19 ^ cs.length * n := Nat.mul_le_mul_left _ (by omega)
    omega
   obtain ⟨Aq, cq, hqe⟩ := hq.slice
   rw [ofN_len] at hqe
   subst hqe
   have dt : decide (0 < nl n) = true := by simpa using hn1
   go_wp2_with fail
   go_loopg [9, 10] (nl n) (fun k t i wx => ∃ (r : Int) (zs : List Int), i = .int .i64 ((k : Int) - 1) ∧ t = .int .u64 r ∧ k ≤ nl n ∧ 0 ≤ r ∧ r < 10000000000000000000 ∧ Hid (zs.length = nl n) ∧ InR B64 zs ∧ Hid (zs.take k = (dg n).take k) ∧ Hid (val B64 (zs.drop k) * 10000000000000000000 + r = val B64 ((dg n).drop k)) ∧
    OwnN wx w.heap.size (.slice (some ⟨g, 0, none⟩) (nl n) cap) zs ∧ OwnN wx w.heap.size (.slice Aq cs.length cq) (ofN cs) ∧ Below w.heap.size w wx)
   case atStart =>
    refine ⟨0, dg n, rfl, rfl, Nat.le_refl _, by decide, by decide, dg_len n, inR_dg n, rfl, ?_, hp, hq, hbel⟩
    unfold Hid
    rw [List.drop_of_length_le (by rw [dg_len]; exact Nat.le_refl _)]; simp
   case round =>
    obtain ⟨r, zs, rfl, rfl, hkn, hr0, hr1, HZL, hz, HTK, HV, ho, hoq, hbx⟩ := hrel
    clear hp hq hcl hsh
    cases gk with
    | succ k =>
     have HO := Lib.hid ho
     obtain ⟨g', eg, -, -, -, hsh, hcl⟩ := ho.parts (by rw [HZL.out]; omega)
     simp only [Option.some.injEq, Addr.mk.injEq] at eg
     obtain ⟨rfl, -, -⟩ := eg
     have g1 := hcl k (by rw [HZL.out]; omega)
     have hzk : zs.getD k 0 = (dg n).getD k 0 := by
      have h1 := congrArg (fun l => l.getD k (0 : Int)) HTK.out
      simp only [List.getD_eq_getElem?_getD, List.getElem?_take, if_pos (Nat.lt_succ_self k)] at h1
      simpa [List.getD_eq_getElem?_getD] using h1
     rw [Nat.zero_add, hzk] at g1
     have hxb := (inR_dg n).getD B64_pos k
     have hst := fun q r' h => div_round (zs := zs) (xs := dg n) (j := k) (q := q) (r' := r') (y := 10000000000000000000) (by rw [dg_len]; omega) (by rw [HZL.out]; omega) h HV.out
     have hgl : g < wr.heap.size := hsh.lt
     generalize (dg n).getD k 0 = xd at *
     have HST := Lib.hid hst
     have hki : ((k + 1 : Nat) : Int) - 1 = (k : Int) := by omega
     simp only [hki]
     have HQ := Lib.hid hoq
     clear hst hcl hzk hki ho hoq
     go_wp2_with fail
     refine (div64_any r xd 10000000000000000000 hr0 hr1 hxb.1 hxb.2 (by decide) _).mono ?_
     rintro e w2 ⟨q, r', rfl, hd0, hd1, hr0', hr1', heq, nd, rfl⟩
     have hb2 : Below wr.heap.size wr (wr.drewN nd) := below_drewN (Below.refl _ _) _
     have hbx2 : Below w.heap.size w (wr.drewN nd) := below_drewN hbx _
     generalize wr.drewN nd = w2 at *
     have HEQ := Lib.hid heq
     clear heq
     have g3 : w2.cell? ⟨g, k, none⟩ = _ := (hb2.cell (p := ⟨g, k, none⟩) hgl).trans g1
     have hs2 := hsh.soft.below hb2 hgl
     have hf2 := fun j => hs2.free j
     clear g1
     have hqne : ∀ a, (Value.slice Aq cs.length cq).ownBlock = some a → a ≠ g := fun a ha e => hap g rfl (by rw [← e]; exact ha)
     go_wp2_with fail
     go_roundg k
     case measure => omega
     case rel =>
      refine ⟨r', zs.set k q, rfl, rfl, by omega, hr0', hr1', ?_, hz.set hd0 hd1 k, ?_, HST.out q r' HEQ.out, (HO.out.below hb2).set (by rw [HZL.out]; omega) q, ?_, hbx2.setCell (by simpa using hgB) _⟩
      ·unfold Hid; rw [List.length_set]; exact HZL.out
      ·unfold Hid
       rw [List.take_set_of_le (Nat.le_refl _)]
       have h1 := congrArg (List.take k) HTK.out
       rw [List.take_take, List.take_take, Nat.min_eq_left (by omega)] at h1
       exact h1
      ·refine World.ownsRow.kept (HQ.out.below hb2) (grownBy_setCell (w := w2) ⟨g, k, none⟩ _) (.inr (fun e => hqne g e rfl))
    | zero =>
     have hv := HV.out
     simp only [List.drop_zero, val_dg] at hv
     have hde := div_end hv hr0 hr1
     obtain ⟨rn, rfl⟩ := Int.eq_ofNat_of_zero_le hr0
     have hrn : rn = n % E19 := by
      have := hde.2
      have e : ((n % E19 : Nat) : Int) = (n : Int) % 10000000000000000000 := by push_cast; rfl
      omega
     have hzv : val B64 zs = ((n / E19 : Nat) : Int) := by rw [hde.1]; push_cast; rfl
     have hrE : rn < E19 := by unfold E19; omega
     obtain ⟨g', eg, -, -, -, hsh, hcl⟩ := ho.parts (by rw [HZL.out]; omega)
     simp only [Option.some.injEq, Addr.mk.injEq] at eg
     obtain ⟨rfl, -, -⟩ := eg
     have HZV := Lib.hid hzv
     have HRN := Lib.hid hrn
     clear hv hde hzv hrn HV HTK
     go_wp2_with fail
     ((with_reducible refine (trim_at _ zs (nl n) cap _ HZL.out (Rd.mk hsh.lt hcl) hnc (by omega)).mono ?_))
     rintro e w3 ⟨rfl, rfl⟩
     have k1 := dg_trim hz HZV.out
     have r1 : Cells .u64 wr g 0 (dg (n / E19)) := by rw [← k1, (trimL_take zs).1]; exact hcl.take _
     have l1 : (dg (n / E19)).length ≤ cap := by rw [← k1]; have := trimL_len zs; have := HZL.out; omega
     have o1 : OwnN wr w.heap.size (.slice (some ⟨g, 0, none⟩) (trimL zs).length cap) (dg (n / E19)) := by rw [k1]; exact OwnN.of hsh r1 hgB l1 hcm
     clear k1 r1 l1
     have hq' : wr.ownsRow w.heap.size 105 1 (.slice Aq cs.length cq) cs.length ((ofN cs).map (Value.int .u64)) := by
      have := hoq
      unfold OwnN at this
      rw [ofN_len] at this
      exact this
     have hws := hbx.size
     have hgl := hsh.lt
     generalize (trimL zs).length = tl at *
     go_wp2_with (at_builtin; refine wpList_append rfl rfl 105 _ 1 8 Tryz.underlying47 info64 rfl (by decide) w.heap.size (.slice Aq cs.length cq) cs.length _ rfl (hq'.alloc _) [Value.int .u64 rn] rfl (by simp) (src_one _ _ _) (by simp [Value.oneCell']) (by omega) (by omega) (by simp; omega) ?_; intro q1 w4 ho1 hg1 hat1)
     have hb4 : Below w.heap.size w w4 := (hbx.alloc (by omega) _).grown hg1 (by simp; omega) (fun a ha => (hoq.lt a ha).1)
     go_wp2_with fail
     go_roundg (n / E19)
     case measure =>
      have := HK.out
      have := Nat.div_lt_self (show 0 < n by omega) (show 1 < E19 by decide)
      omega
     case rel =>
      refine ⟨n / E19, cs ++ [rn], rfl, ?_, ?_, ?_, ?_, ?_, ?_, Nat.le_trans (Nat.div_le_self _ _) hnx, by rw [List.length_append, List.length_singleton]; omega, hb4⟩
      ·exact World.ownsRow.kept (World.ownsRow.alloc o1 _) hg1 (.inr (fun e => hap g rfl e.symm))
      ·unfold OwnN
       rw [ofN_snoc, List.map_append, List.length_append, ofN_len]; exact ho1
      ·intro a ha e
       have : g = a := by simpa [Value.ownBlock] using ha
       subst this
       rcases hat1 with h | h
       ·rw [h] at e; exact hap g rfl e
       ·rw [h] at e; simp at e; omega
      ·intro c hc
       rcases List.mem_append.1 hc with h | h
       ·exact hcs c h
       ·rw [List.mem_singleton] at h; subst h; exact hrE
      ·unfold Hid
       rw [cval_append, List.length_append, List.length_singleton, Nat.pow_succ, HRN.out]
       have h1 := Nat.div_add_mod n E19
       have h2 := HX.out
       generalize E19 ^ cs.length = Q at *
       have h3 : Q * n = Q * (E19 * (n / E19) + n % E19) := by rw [h1]
       rw [h2, h3]; grind
      ·unfold Hid
       by_cases h0 : n / E19 = 0
       ·right; right
        rw [List.getLast?_append]
        simp
        have h1 := Nat.div_add_mod n E19
        have h2 := HRN.out
        rw [h0] at h1
        omega
       ·exact .inl h0
def PowA (w : World) (v : Value) (us : List Value) : Prop := ∃ A c, v = .slice A us.length c ∧ us.length ≤ c ∧ Old w A ∧ (us.length = 0 ∨ ∃ b off, A = some ⟨b, off, none⟩ ∧ VC w b off us) ∧ ∀ i u, us[i]? = some u → NatAt w u (10 ^ (19 * 2 ^ i))
def PowFree (tv v : Value) (us : List Value) : Prop := Apart tv v ∧ ∀ u ∈ us, Apart tv u
theorem Old.block {w : World} {A : Option Addr} {n c g : Nat} (h : Old w A) (e : (Value.slice A n c).ownBlock = some g) : g < w.heap.size := by
 cases A with
 | none => simp [Value.ownBlock] at e
 | some a => have := h a rfl; simp [Value.ownBlock] at e; omega
theorem PowA.below {w w' : World} {v : Value} {us : List Value} (h : PowA w v us) (hb : Below w.heap.size w w') : PowA w' v us := by
 obtain ⟨A, c, hv, hc, ho, hA, hu⟩ := h
 refine ⟨A, c, hv, hc, ho.mono hb.size, ?_, fun i u h => (hu i u h).below hb⟩
 rcases hA with h | ⟨b, off, rfl, hc'⟩
 ·exact .inl h
 ·exact .inr ⟨b, off, rfl, hc'.below hb (ho _ rfl)⟩
theorem PowA.txt {w w' : World} {v a b : Value} {us : List Value} (h : PowA w v us) (ht : TxtTo w a w' b) (hf : PowFree a v us) : PowA w' v us ∧ PowFree b v us := by
 obtain ⟨A, c, rfl, hc, ho, hA, hu⟩ := h
 refine ⟨⟨A, c, rfl, hc, ho.mono ht.1.size, ?_, fun i u h => (hu i u h).txt ht (hf.2 u (List.mem_of_getElem? h))⟩, ?_, fun u hm => ?_⟩
 ·rcases hA with h | ⟨b', off, rfl, hc'⟩
  ·exact .inl h
  ·exact .inr ⟨b', off, rfl, hc'.grown ht.1 (ho _ rfl) (fun e => hf.1 b' e rfl)⟩
 ·exact ht.apart hf.1 (fun g e => ho.block e)
 ·obtain ⟨i, hi⟩ := List.getElem?_of_mem hm
  exact ht.apart (hf.2 u hm) (fun g e => (hu i u hi).block e)
theorem PowA.cut {w : World} {A : Option Addr} {c k : Nat} {us : List Value} (h : PowA w (.slice A k c) us) (hk : us.length = k) {j : Nat} (hj : j ≤ k) : PowA w (.slice A j c) (us.take j) := by
 obtain ⟨A', c', hv, hc, ho, hA, hu⟩ := h
 simp only [Value.slice.injEq] at hv
 obtain ⟨rfl, -, rfl⟩ := hv
 have hl : (us.take j).length = j := by rw [List.length_take]; omega
 refine ⟨A, c, by rw [hl], by omega, ho, ?_, fun i u h => hu i u (by rw [List.getElem?_take] at h; split at h; exact h; cases h)⟩
 rcases hA with h | ⟨b, off, rfl, hc'⟩
 ·exact .inl (by omega)
 ·exact .inr ⟨b, off, rfl, hc'.take j⟩
theorem Apart.same {tv : Value} {A : Option Addr} {n c n' c' : Nat} (h : Apart tv (.slice A n c)) : Apart tv (.slice A n' c') := by
 intro g hg e
 refine h g hg ?_
 cases A with
 | none => simp [Value.ownBlock] at e
 | some a => simpa [Value.ownBlock] using e
theorem PowFree.cut {tv : Value} {A : Option Addr} {n c n' c' j : Nat} {us : List Value} (h : PowFree tv (.slice A n c) us) : PowFree tv (.slice A n' c') (us.take j) :=
 ⟨h.1.same, fun u hu => h.2 u (List.mem_of_mem_take hu)⟩
theorem nl_pow19 (j : Nat) (hj : 1 ≤ j) : nl (10 ^ (19 * j)) ≤ j := by
 refine nl_le ?_
 rw [Nat.pow_mul]
 exact Nat.pow_lt_pow_left (by decide) (by omega)
def AppOK (N : Nat) : Prop := ∀ (k B : Nat) (tv : Value) (bs : List UInt8) (x width : Nat) (vx vp : Value) (us : List Value) (w : World), k < N → k ≤ 36 → us.length = k → GlobB B w → B ≤ w.heap.size → TxtAt w B tv bs → NatAt w vx x → PowA w vp us → Apart tv vx → PowFree tv vp us →
 nl x ≤ 274877906944 → bs.length + (padDec width x).length ≤ 8796093022208 → (width = 0 ∨ width = 19 * 2 ^ k) →
 Calls Tryz.prog 134 #[tv, vx, .int .i64 width, vp] w fun e w' => ∃ v, e = .returned v ∧ TxtAt w' B v (bs ++ padDec width x) ∧ TxtTo w tv w' v
set_option maxRecDepth 100000 in
theorem app_step (N : Nat) (ih : AppOK N) : AppOK (N + 1) := by
 intro k B tv bs x width vx vp us w hN hk36 hk hG hB ht hx hp hax hfp hxl hT hw
 have hwp : width ≤ (padDec width x).length := by rw [padDec_len]; omega
 have hsimple := appendSimple_any B tv bs x width vx w hG hB ht hx (by omega) (by omega) (by omega)
 have HP := Lib.hid hp
 have HHK := Lib.hid hk
 obtain ⟨A, c, hve, hc, ho, hA, hu⟩ := hp
 rw [hk] at hve hc hA
 subst hve
 by_cases hs : k = 0 ∨ nl x ≤ 30
 ·obtain ⟨Ax, cx, hxe, _, _, _⟩ := id hx
  subst hxe
  clear hk
  rcases hs with rfl | hs
  ·go_enter Tryz.func134, Tryz.ntmps134
   go_wp2_with fail
   refine hsimple.mono ?_
   rintro e w1 ⟨v1, rfl, h1, h2⟩
   go_wp2
   go_ret
   exact ⟨_, rfl, h1, h2⟩
  ·have hs' : (nl x : Int) ≤ 30 := by omega
   by_cases hk0 : k = 0
   ·subst hk0
    go_enter Tryz.func134, Tryz.ntmps134
    go_wp2_with fail
    refine hsimple.mono ?_
    rintro e w1 ⟨v1, rfl, h1, h2⟩
    go_wp2
    go_ret
    exact ⟨_, rfl, h1, h2⟩
   ·go_enter Tryz.func134, Tryz.ntmps134
    go_wp2_with fail
    refine hsimple.mono ?_
    rintro e w1 ⟨v1, rfl, h1, h2⟩
    go_wp2
    go_ret
    exact ⟨_, rfl, h1, h2⟩
 ·obtain ⟨l, rfl⟩ : ∃ l, k = l + 1 := ⟨k - 1, by omega⟩
  have hs30 : ¬ (nl x : Int) ≤ 30 := by omega
  obtain ⟨b, off, rfl, hvc⟩ := hA.resolve_left (by omega)
  obtain ⟨u, hlu⟩ : ∃ u, us[l]? = some u := ⟨_, List.getElem?_eq_getElem (by omega)⟩
  have g := hvc l u hlu
  have hnu := hu l u hlu
  have hau : Apart tv u := hfp.2 u (List.mem_of_getElem? hlu)
  have hnl := nl_pow19 (2 ^ l) (Nat.pow_pos (by decide))
  have hl36 : 2 ^ l ≤ 2 ^ 36 := Nat.pow_le_pow_right (by decide) (by omega)
  have hl36' : (2 : Nat) ^ 36 = 68719476736 := by decide
  obtain ⟨S, hSe, HS, hS1, hS2⟩ := shl19 l (by omega)
  rw [← HS.out] at hnu hnl
  have hnl' : nl (10 ^ S) ≤ 68719476736 := by omega
  have hP0 : 0 < 10 ^ S := Nat.pow_pos (by decide)
  have HDM := Lib.hid (Nat.div_add_mod x (10 ^ S))
  have hlo : x % 10 ^ S < 10 ^ S := Nat.mod_lt _ hP0
  have hqn : nl (x / 10 ^ S) ≤ nl x := nl_mono (Nat.div_le_self _ _)
  have hrn : nl (x % 10 ^ S) ≤ nl x := nl_mono (Nat.mod_le _ _)
  have hwS : width = 0 ∨ width = S + S := by
   rcases hw with h | h
   ·exact .inl h
   ·right; rw [h, Nat.pow_succ, HS.out]; omega
  have HSPL : Hid (x / 10 ^ S ≠ 0 ∨ S ≤ width → padDec width x = padDec (width - S) (x / 10 ^ S) ++ padDec S (x % 10 ^ S)) := by
   intro h
   have := padDec_split (w := width) (hi := x / 10 ^ S) (lo := x % 10 ^ S) (d := S) hlo h
   rw [Nat.mul_comm, Nat.div_add_mod] at this
   exact this
  have hXP : (10 ^ S : Nat) ≠ 0 := by omega
  generalize hQ : 10 ^ S = P at *
  have HQ := Lib.hid hQ
  obtain ⟨Ax, cx, hxe, _, _, hox⟩ := id hx
  have HW := Lib.hid hw
  clear hQ hu hvc hs hlu hA hl36 hw
  subst hxe
  have htl := ht.lt
  have hdw := divideWords_any x P _ _ _ hx hnu hXP (by unfold LIM; omega)
  go_enter Tryz.func134, Tryz.ntmps134
  go_wp2_with fail
  ((with_reducible refine hdw.mono ?_))
  rintro e w1 ⟨vq, vr, rfl, hq, hr, fq, fr, hb1⟩
  have haq : Apart tv vq := fun g hg => fq.ne2 (htl g hg).2 (hax g hg) (hau g hg)
  have har : Apart tv vr := fun g hg => fr.ne2 (htl g hg).2 (hax g hg) (hau g hg)
  have hG1 : GlobB B w1 := hG.on (hb1.mono hB)
  have hB1 : B ≤ w1.heap.size := Nat.le_trans hB hb1.size
  have ht1 := ht.below hb1
  have hp1 := (HP.out.below hb1).cut HHK.out (show l ≤ l + 1 by omega)
  have hf1 : PowFree tv (.slice (some ⟨b, off, none⟩) l c) (us.take l) := hfp.cut
  have htl1 : (us.take l).length = l := by rw [List.length_take]; have := HHK.out; omega
  have hto1 : TxtTo w tv w1 tv := TxtTo.below hb1
  have hlc : l ≤ c := by omega
  obtain ⟨Aq, cq, hqe, _, _, _⟩ := id hq
  subst hqe
  have HHQ := Lib.hid hq
  clear hdw hq hsimple hx
  have hSw : S = 19 * 2 ^ l := HS.out
  have key : (x / P ≠ 0 ∨ S ≤ width) → Calls Tryz.prog 134 #[tv, .slice Aq (nl (x / P)) cq, .int .i64 ((width - S : Nat) : Int), .slice (some ⟨b, off, none⟩) l c] w1 (fun e w' => ∃ v, e = .returned v ∧ TxtAt w' B v (bs ++ padDec (width - S) (x / P)) ∧ TxtTo w1 tv w' v) := by
   intro h
   have hs := HSPL.out h
   have hsl := congrArg List.length hs
   rw [List.length_append] at hsl
   exact ih l B tv bs (x / P) (width - S) _ _ (us.take l) w1 (by omega) (by omega) htl1 hG1 hB1 ht1 HHQ.out hp1 haq hf1 (by omega) (by omega) (by rcases hwS with h | h <;> omega)
  have key2 : (x / P ≠ 0 ∨ S ≤ width) → ∀ v2 w2, TxtAt w2 B v2 (bs ++ padDec (width - S) (x / P)) → TxtTo w1 tv w2 v2 → Calls Tryz.prog 134 #[v2, vr, .int .i64 S, .slice (some ⟨b, off, none⟩) l c] w2 (fun e w' => ∃ v, e = .returned v ∧ TxtAt w' B v (bs ++ padDec width x) ∧ TxtTo w2 v2 w' v) := by
   intro h v2 w2 h2 hto
   have hs := HSPL.out h
   have hsl := congrArg List.length hs
   rw [List.length_append] at hsl
   obtain ⟨hp2, hf2⟩ := hp1.txt hto hf1
   have := ih l B v2 (bs ++ padDec (width - S) (x / P)) (x % P) S vr _ (us.take l) w2 (by omega) (by omega) htl1 (hG1.on (hto.belowB hB1 (fun g hg => (htl g hg).1))) (Nat.le_trans hB1 hto.1.size) h2 (hr.txt hto har) hp2 (hto.apart har (fun g e => hr.block e)) hf2 (by omega) (by rw [List.length_append]; omega) (.inr hSw)
   rw [List.append_assoc, ← hs] at this
   exact this
  have HK1 := Lib.hid key
  have HK2 := Lib.hid key2
  have HSw := Lib.hid hSw
  clear key key2 hSw
  by_cases h0 : x / P = 0
  ·have q0 : ((nl (x / P) : Int) == 0) = true := by rw [h0, nl_zero]; rfl
   rcases hwS with rfl | hwS
   ·have hxx : x % P = x := by have := HDM.out; rw [h0] at this; omega
    have hcall := ih l B tv bs (x % P) 0 vr (.slice (some ⟨b, off, none⟩) l c) (us.take l) w1 (by omega) (by omega) htl1 hG1 hB1 ht1 hr hp1 har hf1 (by omega) (by rw [hxx]; exact hT) (.inl rfl)
    rw [hxx] at hcall
    simp only [Int.natCast_zero] at hcall
    have HC := Lib.hid hcall
    clear hcall hxx h0
    go_wp2_with fail
    ((with_reducible refine HC.out.mono ?_))
    rintro e w2 ⟨v2, rfl, h2, h3⟩
    go_wp2
    go_ret
    exact ⟨_, rfl, h2, hto1.trans h3⟩
   ·have hw1 : ((width : Int) == 0) = false := by simp; omega
    have hge : S ≤ width := by omega
    clear hwS
    have hmx : max ((width : Int) - (S : Int)) 0 = ((width - S : Nat) : Int) := by omega
    have HC1 := Lib.hid (HK1.out (.inr (by omega)))
    have HC2 := Lib.hid (HK2.out (.inr (by omega)))
    clear h0
    generalize width - S = w0 at *
    go_wp2_with fail
    ((with_reducible refine HC1.out.mono ?_))
    rintro e w2 ⟨v2, rfl, h2, h3⟩
    go_wp2_with fail
    ((with_reducible refine (HC2.out v2 w2 h2 h3).mono ?_))
    rintro e w3 ⟨v3, rfl, h4, h5⟩
    go_wp2
    go_ret
    exact ⟨_, rfl, h4, (hto1.trans h3).trans h5⟩
  ·have q0 : ((nl (x / P) : Int) == 0) = false := by have := nl_pos h0; simp; omega
   have hmx : max ((width : Int) - (S : Int)) 0 = ((width - S : Nat) : Int) := by omega
   have HC1 := Lib.hid (HK1.out (.inl h0))
   have HC2 := Lib.hid (HK2.out (.inl h0))
   clear h0
   generalize width - S = w0 at *
   go_wp2_with fail
   ((with_reducible refine HC1.out.mono ?_))
   rintro e w2 ⟨v2, rfl, h2, h3⟩
   go_wp2_with fail
   ((with_reducible refine (HC2.out v2 w2 h2 h3).mono ?_))
   rintro e w3 ⟨v3, rfl, h4, h5⟩
   go_wp2
   go_ret
   exact ⟨_, rfl, h4, (hto1.trans h3).trans h5⟩
theorem appOK (N : Nat) : AppOK N := by
 induction N with
 | zero => intro k B tv bs x width vx vp us w h; omega
 | succ N ih => exact app_step N ih
theorem appendSplit_any (B : Nat) (tv : Value) (bs : List UInt8) (x : Nat) (vx vp : Value) (us : List Value) (w : World) (hk : us.length ≤ 36) (hG : GlobB B w) (hB : B ≤ w.heap.size) (ht : TxtAt w B tv bs) (hx : NatAt w vx x) (hp : PowA w vp us) (hax : Apart tv vx) (hfp : PowFree tv vp us)
  (hxl : nl x ≤ 274877906944) (hT : bs.length + (padDec 0 x).length ≤ 8796093022208) :
  Calls Tryz.prog 134 #[tv, vx, .int .i64 0, vp] w fun e w' => ∃ v, e = .returned v ∧ TxtAt w' B v (bs ++ padDec 0 x) ∧ TxtTo w tv w' v := by
 have := appOK (us.length + 1) us.length B tv bs x 0 vx vp us w (Nat.lt_succ_self _) hk rfl hG hB ht hx hp hax hfp hxl hT (.inl rfl)
 simpa only [Int.natCast_zero] using this
end Go.Proofs.YtoimnlnaaklinaaGreatDoor
