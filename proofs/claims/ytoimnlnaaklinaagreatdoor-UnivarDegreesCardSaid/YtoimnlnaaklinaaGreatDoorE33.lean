/-
  Contracts of functions that the statement reaches, and plain laws: PlusA, PlusB, CmpP, LawA, UniG, MonP, CmpA, SqfA, AwkP, DegP, AwkR, AwkA.
-/
import Derived.Test.YtoimnlnaaklinaaGreatDoorA20
import Derived.Test.YtoimnlnaaklinaaGreatDoorA28
import Derived.Test.YtoimnlnaaklinaaGreatDoorA30
import Derived.Test.YtoimnlnaaklinaaGreatDoorA31
set_option linter.unusedVariables false
set_option linter.unusedSimpArgs false
set_option maxHeartbeats 8000000
namespace Go.Proofs.YtoimnlnaaklinaaGreatDoor
open Go.RowKit Sos
theorem natAt_setRow' {w : World} {g : Nat} {cur cs : Array Value} {e : TypeId} (hg : w.heap[g]? = some (.cells cur e (0, 0))) (hn : ∀ u ∈ cur.toList, NoInt u) {u : Value} {n : Nat} (h : NatAt w u n) : NatAt (w.setRow g cs) u n := by
 obtain ⟨A, c, hv, hc, hr, ho⟩ := h
 have hsz : (w.setRow g cs).heap.size = w.heap.size := by simp [World.setRow]
 refine ⟨A, c, hv, hc, ?_, ho.mono (by rw [hsz]; exact Nat.le_refl _)⟩
 rcases hr with hr | ⟨b, off, rfl, hlt, hcs⟩
 ·exact .inl hr
 ·by_cases hz : dg n = []
  ·exact .inl hz
  ·have hbg : b ≠ g := fun eb => by
    subst eb
    have h0 := hcs 0 (List.length_pos_iff.2 hz)
    rw [cell_of_row w b (off + 0) cur e (0, 0) hg, ← Array.getElem?_toList] at h0
    exact hn _ (List.mem_of_getElem? h0) _ _ rfl
   refine .inr ⟨b, off, rfl, by rw [hsz]; exact hlt, fun i hi => ?_⟩
   exact (World.cell?_of_block (setRow_other w g b cs hbg)).trans (hcs i hi)
section
variable {P : Program} {ops : Array Oper} {rest : List Oper} {o : Oper} {a : Act} {Q : Exit → Act → World → Prop} {w : World}
theorem run_copy_k (dT sT ty elem : TypeId) (k g dLen dCap : Nat) (sp : Option Addr) (sLen sCap : Nat) (cur : Array Value) (t : TypeId) (cs : List Value)
  (hu : P.underlying dT = some (.slice elem)) (hs : (P.info? elem).map (·.size) = some k) (hk : 0 < k)
  (hg : w.heap[g]? = some (.cells cur t (0, 0))) (hn : cs.length = sLen * k) (hle : sLen ≤ dLen)
  (hsrc : Src w sp cs) (hfit : cs.length ≤ cur.size) (h1 : ∀ v ∈ cs, v.oneCell' = true) :
  (Builtin.copy_ #[dT, sT] ty #[.slice (some ⟨g, 0, none⟩) dLen dCap, .slice sp sLen sCap]).run P w = .ok (goInt sLen) (w.setRow g (cs ++ cur.toList.drop cs.length).toArray) := by
 have hst := run_storeCells_at P g 0 t cs 0 cur w hg (by simpa using hfit) h1
 have hm : Nat.min sLen dLen = sLen := Nat.min_eq_left hle
 simp only [Nat.zero_add, List.take_zero, List.nil_append] at hst
 cases hq : P.info? elem with
 | none => simp [hq] at hs
 | some i =>
  have hi : i.size = k := by simpa [hq] using hs
  cases sp with
  | none =>
   have h0 : cs = [] := by
    rcases hsrc with h | ⟨b, off, e, _⟩
    ·exact h
    ·cases e
   subst h0
   have hs0 : sLen = 0 := by
    rcases Nat.eq_zero_or_pos sLen with h | h
    ·exact h
    ·have := Nat.mul_pos h hk; simp at hn; omega
   subst hs0
   simp [Builtin.copy_, run_underlying hu, Builtin.lenOf, Builtin.firstCells, sizeOf, typeInfo, hq, hi, storeCells, setRow_self w g cur t (0, 0) hg]
  | some ad =>
   have hl := run_loadCells_list (P := P) w ad cs (fun j v hv => by
    rcases hsrc with h | ⟨b, off, e, hc⟩
    ·rw [h] at hv; simp at hv
    ·injection e with e
     subst e
     have := hc j v hv
     unfold Addr.add
     split
     ·rename_i hj; subst hj; simpa using this
     ·exact this)
   rw [hn] at hl
   simp [Builtin.copy_, run_underlying hu, Builtin.lenOf, Builtin.firstCells, sizeOf, typeInfo, hq, hi, hm, hl, hst]
theorem wpList_copyK (hgd : o.guard = none) {d s : Operand} {dT sT : TypeId} (ho : o.op = .call { callee := .builtin .copy, args := #[d, s], argTypes := #[dT, sT] }) (elem : TypeId) (k g dLen dCap : Nat) (sp : Option Addr) (sLen sCap : Nat) (cur : Array Value) (t : TypeId) (cs : List Value)
  (hu : P.underlying dT = some (.slice elem)) (hs : (P.info? elem).map (·.size) = some k) (hk : 0 < k) (hd : a.eval d = .slice (some ⟨g, 0, none⟩) dLen dCap) (hx : a.eval s = .slice sp sLen sCap)
  (hg : w.heap[g]? = some (.cells cur t (0, 0))) (hn : cs.length = sLen * k) (hle : sLen ≤ dLen) (hsrc : Src w sp cs) (hfit : cs.length ≤ cur.size) (h1 : ∀ v ∈ cs, v.oneCell' = true)
  (h : wpList P ops Q rest (a.put o.dst (goInt sLen)) (w.setRow g (cs ++ cur.toList.drop cs.length).toArray)) : wpList P ops Q (o :: rest) a w := by
 refine wpList_plain hgd fun K hK => ?_
 have hrun := run_copy_k (P := P) (w := w) dT sT o.type elem k g dLen dCap sp sLen sCap cur t cs hu hs hk hg hn hle hsrc hfit h1
 unfold Oper.wp execOp
 simp only [ho, resolve, invoke, builtin, Sem.run_bind, Sem.run_pure, Result.andThen_ok, List.map_toArray, List.map_cons, List.map_nil, hd, hx, hrun]
 exact hK _ _ h
end
theorem rep_drop {α : Type} (z : List α) (k l M : Nat) (hz : z.length = k) (hl : l ≤ M) : (List.replicate M z).flatten.drop (l * k) = (List.replicate (M - l) z).flatten := by
 have e : List.replicate M z = List.replicate l z ++ List.replicate (M - l) z := by rw [List.replicate_append_replicate]; congr 1; omega
 have hlen : (List.replicate l z).flatten.length = l * k := by rw [flat_len (k := k) (fun r hr => by rw [(List.mem_replicate.1 hr).2]; exact hz), List.length_replicate]
 rw [e, List.flatten_append, ← hlen, List.drop_left]
theorem OwnW.copied {w : World} {g M : Nat} {rows : List (List Value)} {ns : List Int} (hr : Rw w g 2 (List.replicate M [.bool false, .slice none 0 0]) 49) (hk : ∀ r ∈ rows, r.length = 2) (hl : rows.length = ns.length) (hM : ns.length ≤ M) (hi : IRow w rows ns) :
  let W := w.setRow g (rows.flatten ++ (List.replicate M ([.bool false, .slice none 0 0] : List Value)).flatten.drop rows.flatten.length).toArray
  OwnW W g (ns ++ List.replicate (M - ns.length) 0) ∧ StepAt g w W := by
 have hg : w.heap[g]? = some (.cells (List.replicate M ([.bool false, .slice none 0 0] : List Value)).flatten.toArray 49 (0, 0)) := hr.1
 have hkeep : Keep w (w.setRow g (rows.flatten ++ (List.replicate M ([.bool false, .slice none 0 0] : List Value)).flatten.drop rows.flatten.length).toArray) := fun x n hx => natAt_setRow' hg (fun u hu => by
  have hu' : u ∈ (List.replicate M ([.bool false, .slice none 0 0] : List Value)).flatten := hu
  obtain ⟨r, hr1, hr2⟩ := List.mem_flatten.1 hu'
  rw [(List.mem_replicate.1 hr1).2] at hr2
  simp at hr2
  rcases hr2 with rfl | rfl
  ·exact NoInt.bool _
  ·exact NoInt.slice _ _ _) hx
 have hlen : rows.flatten.length = ns.length * 2 := by rw [flat_len hk, hl]
 have hfl : rows.flatten ++ (List.replicate M ([.bool false, .slice none 0 0] : List Value)).flatten.drop rows.flatten.length = (rows ++ List.replicate (M - ns.length) [Value.bool false, Value.slice none 0 0]).flatten := by
  rw [hlen, rep_drop _ 2 _ _ rfl hM, List.flatten_append]
 refine ⟨⟨rows ++ List.replicate (M - ns.length) [.bool false, .slice none 0 0], ⟨?_, fun r hr => ?_⟩, by simp [hl], fun i n hn => ?_⟩, hkeep, fun b hb => setRow_other w g b _ hb, by simp [World.setRow], rfl, rfl, rfl⟩
 ·unfold Bx
  rw [← hfl]
  exact setRow_heap w g _ _ _ _ hg
 ·rcases List.mem_append.1 hr with h | h
  ·exact hk r h
  ·rw [(List.mem_replicate.1 h).2]; rfl
 ·rcases Nat.lt_or_ge i ns.length with h | h
  ·rw [List.getElem?_append_left h] at hn
   obtain ⟨s, A, l, c, e1, e2⟩ := hi i n hn
   exact ⟨s, A, l, c, by rw [List.getElem?_append_left (by omega)]; exact e1, e2.keep hkeep⟩
  ·rw [List.getElem?_append_right h] at hn
   have hlt := (List.getElem?_eq_some_iff.1 hn).1
   rw [List.length_replicate] at hlt
   rw [List.getElem?_replicate, if_pos hlt] at hn
   injection hn with hn
   subst hn
   exact ⟨false, none, 0, 0, by rw [List.getElem?_append_right (by omega), hl, List.getElem?_replicate, if_pos hlt], IntAt.zero _⟩
def plusL (xs ys : List Int) (y : Int) : List Int := (List.range (max xs.length ys.length)).map (fun i => cf xs i + cf ys i * y)
theorem plusL_len (xs ys : List Int) (y : Int) : (plusL xs ys y).length = max xs.length ys.length := by unfold plusL; rw [List.length_map, List.length_range]
def plusJ (xs ys : List Int) (y : Int) (j : Nat) : List Int := (List.range (max xs.length ys.length)).map (fun i => cf xs i + (if i < j then cf ys i * y else 0))
theorem plusJ_len (xs ys : List Int) (y : Int) (j : Nat) : (plusJ xs ys y j).length = max xs.length ys.length := by unfold plusJ; rw [List.length_map, List.length_range]
theorem plusJ_get (xs ys : List Int) (y : Int) (j : Nat) {i : Nat} (h : i < max xs.length ys.length) : (plusJ xs ys y j)[i]? = some (cf xs i + (if i < j then cf ys i * y else 0)) := by unfold plusJ; rw [List.getElem?_map, List.getElem?_range h]; rfl
theorem plusJ_zero (xs ys : List Int) (y : Int) : plusJ xs ys y 0 = xs ++ List.replicate (max xs.length ys.length - xs.length) 0 := by
 refine List.ext_getElem? (fun i => ?_)
 by_cases h : i < max xs.length ys.length
 ·rw [plusJ_get _ _ _ _ h, if_neg (by omega), Int.add_zero]
  by_cases hi : i < xs.length
  ·rw [List.getElem?_append_left hi, List.getElem?_eq_getElem hi, cf_get hi]
  ·rw [List.getElem?_append_right (by omega), List.getElem?_replicate, if_pos (by omega), cf_top (by omega)]
 ·rw [List.getElem?_eq_none (by rw [plusJ_len]; omega), List.getElem?_eq_none (by rw [List.length_append, List.length_replicate]; omega)]
theorem plusJ_end (xs ys : List Int) (y : Int) : plusJ xs ys y ys.length = plusL xs ys y := by
 unfold plusJ plusL
 refine List.map_congr_left (fun i _ => ?_)
 by_cases h : i < ys.length
 ·rw [if_pos h]
 ·rw [if_neg h, cf_top (l := ys) (by omega), Int.zero_mul]
theorem plusJ_set (xs ys : List Int) (y : Int) (j : Nat) (h : j < max xs.length ys.length) : (plusJ xs ys y j).set j (cf xs j + cf ys j * y) = plusJ xs ys y (j + 1) := by
 refine List.ext_getElem? (fun i => ?_)
 by_cases hi : i < max xs.length ys.length
 ·rw [plusJ_get _ _ _ _ hi]
  by_cases e : i = j
  ·subst e
   rw [List.getElem?_set_self (by rw [plusJ_len]; exact hi), if_pos (by omega)]
  ·rw [List.getElem?_set_ne (by omega), plusJ_get _ _ _ _ hi]
   by_cases h2 : i < j
   ·rw [if_pos h2, if_pos (by omega)]
   ·rw [if_neg h2, if_neg (by omega)]
 ·rw [List.getElem?_eq_none (by rw [List.length_set, plusJ_len]; omega), List.getElem?_eq_none (by rw [plusJ_len]; omega)]
theorem plus_nl {xs ys : List Int} {y : Int} {K : Nat} (hx : ∀ n ∈ xs, nl n.natAbs ≤ 2 * K) (hy : ∀ n ∈ ys, nl n.natAbs ≤ K) (hk : nl y.natAbs ≤ K) : ∀ n ∈ plusL xs ys y, nl n.natAbs ≤ 2 * K + 1 := fun n hn => by
 unfold plusL at hn
 obtain ⟨i, _, rfl⟩ := List.mem_map.1 hn
 exact nl_add_int _ _ _ (cf_nl hx i) (Nat.le_trans (nl_mul_int _ _ _ _ (cf_nl hy i) hk) (by omega))
theorem WholeAt.rows' {w : World} {A : Option Addr} {c : Nat} {ns : List Int} (h : WholeAt w (.slice A ns.length c) ns) :
  ∃ rows : List (List Value), rows.length = ns.length ∧ (∀ r ∈ rows, r.length = 2) ∧ Src w A rows.flatten ∧ IRow w rows ns ∧ ∀ u ∈ rows.flatten, u.oneCell' = true := by
 by_cases h0 : ns = []
 ·subst h0
  exact ⟨[], rfl, (fun r hr => by cases hr), .inl rfl, (fun i n hn => by simp at hn), (fun u hu => by simp at hu)⟩
 ·obtain ⟨rows, h1, h2, h3, h4, h5, h6⟩ := h.rows h0
  exact ⟨rows, h1, h3, h4, h5, h6⟩
theorem size_Int : (Tryz.prog.info? 49).map (·.size) = some 2 := by kernel_rfl
set_option maxRecDepth 100000 in
theorem plus_whole (xs ys : List Int) (y : Int) (vx vy vn : Value) (w : World) (hx : WholeAt w vx xs) (hy : WholeAt w vy ys) (hn : IntAt w vn y) (K : Nat) (hKx : ∀ n ∈ xs, nl n.natAbs ≤ 2 * K) (hKy : ∀ n ∈ ys, nl n.natAbs ≤ K) (hKn : nl y.natAbs ≤ K) (hK2 : 2 * K + 4 ≤ 17592186044416) (hlx : xs.length ≤ 1073741824) (hly : ys.length ≤ 1073741824) :
  Calls Tryz.prog 46 #[vx, vy, vn] w fun e w' => ∃ g c, e = .returned (.slice (some ⟨g, 0, none⟩) (trimG isZ (plusL xs ys y)).length c) ∧ w.heap.size < g ∧ WholeAt w' (.slice (some ⟨g, 0, none⟩) (trimG isZ (plusL xs ys y)).length c) (trimG isZ (plusL xs ys y)) ∧ Below w.heap.size w w' := by
 obtain ⟨A, c, rfl, hc⟩ := hx.form
 obtain ⟨A', c', rfl, hc'⟩ := hy.form
 obtain ⟨sn, An, kn, cn, rfl⟩ := hn.form
 obtain ⟨M, hM⟩ : ∃ M, max xs.length ys.length = M := ⟨_, rfl⟩
 have hMi : max (xs.length : Int) (ys.length : Int) = (M : Int) := by omega
 have hM1 : xs.length ≤ M := by omega
 have hM2 : ys.length ≤ M := by omega
 have hM3 : M ≤ 1073741824 := by omega
 have B1 : Bx (w.alloc (.cells #[.bool sn, .slice An kn cn] 49)) (w.heap.size) [.bool sn, .slice An kn cn] 49 := Bx.newAt w [.bool sn, .slice An kn cn] 49 (w.heap.size) (by simp)
 have hb : Below w.heap.size w (w.alloc (.cells #[.bool sn, .slice An kn cn] 49)) := (Below.refl _ _).alloc (by simp) _
 go_enter Tryz.func46, Tryz.ntmps46
 obtain ⟨rows, hrl, hrk, hsrc, hir, hone⟩ := hx.rows'
 have hfit : rows.flatten.length ≤ (List.replicate M ([.bool false, .slice none 0 0] : List Value)).flatten.toArray.size := by
  rw [flat_len hrk, hrl, List.size_toArray, flat_len (k := 2) (fun r hr => by rw [(List.mem_replicate.1 hr).2]; rfl), List.length_replicate]; omega
 have hrn : rows.flatten.length = xs.length * 2 := by rw [flat_len hrk, hrl]
 have HFIT := Lib.hid hfit
 have HRN := Lib.hid hrn
 clear hfit hrn
 go_wp2_with (first
  | (at_make; refine wpList_makeR rfl rfl 49 _ 2 32 Tryz.underlying46 infoInt rfl (by decide) M rfl rfl (by first | rfl | omega) (by first | rfl | omega) (by omega) (by omega) ?_; intro w1 hz1 hr1 hb1; rw [World.size_alloc] at hr1; have hrb : w1.heap[w.heap.size + 1]? = some (.cells (List.replicate M ([.bool false, .slice none 0 0] : List Value)).flatten.toArray 49 (0, 0)) := hr1.1; have hsb := hsrc.below (hb.trans (hb1.mono hb.size)); have HRB := Lib.hid hrb; clear hrb)
  | (with_reducible refine wpList_copyK rfl (d := .tmp 16) (s := .tmp 17) rfl 49 2 (w.heap.size + 1) M M A xs.length c _ 49 rows.flatten Tryz.underlying46 size_Int (by decide) rfl rfl HRB.out HRN.out hM1 hsb HFIT.out hone ?_; generalize hW2 : World.setRow w1 (w.heap.size + 1) (rows.flatten ++ (List.replicate M ([.bool false, .slice none 0 0] : List Value)).flatten.drop rows.flatten.length).toArray = w2; have HW2 := Lib.hid hW2; clear hW2))
 have hbw := hb.trans (hb1.mono hb.size)
 obtain ⟨R0, hst⟩ := OwnW.copied (w := w1) (g := w.heap.size + 1) (M := M) hr1 hrk hrl hM1 (hir.keep (Keep.below hbw))
 rw [HW2.out] at R0 hst
 have B1' := B1.below hb1
 have B2 : Bx _ w.heap.size [.bool sn, .slice An kn cn] 49 := (hst.2.1 w.heap.size (by omega)).trans B1'
 have hb2 := below_step hbw hst (by omega)
 rw [← hM, ← plusJ_zero xs ys y] at R0
 have hLen := plusL_len xs ys y
 have HML := Lib.hid hM
 have HLL : Hid ((plusL xs ys y).length = M) := by unfold Hid; rw [hLen]; exact hM
 have HJL : Hid (∀ j, (plusJ xs ys y j).length = M) := fun j => by rw [plusJ_len]; exact hM
 have HJG : Hid (∀ j i, i < M → (plusJ xs ys y j)[i]? = some (cf xs i + (if i < j then cf ys i * y else 0))) := fun j i hi => plusJ_get _ _ _ _ (by rw [hM]; exact hi)
 have HJS : Hid (∀ j, j < M → (plusJ xs ys y j).set j (cf xs j + cf ys j * y) = plusJ xs ys y (j + 1)) := fun j hj => plusJ_set _ _ _ _ (by rw [hM]; exact hj)
 have HJE : Hid (plusJ xs ys y ys.length = plusL xs ys y) := plusJ_end _ _ _
 have HKL : Hid (∀ n ∈ plusL xs ys y, nl n.natAbs ≤ 2 * K + 1) := plus_nl hKx hKy hKn
 clear hM hLen hMi hr1 hz1 hb1 hst B1' hb B1 hrl hrk hsrc hir hone hbw HRB HRN HFIT hsb HW2
 go_wp2_with fail
 go_loopg [21] ys.length (fun k i wr => ∃ j, Hid (j + k = ys.length) ∧ i = .int .i64 j ∧ OwnW wr (w.heap.size + 1) (plusJ xs ys y j) ∧ Bx wr w.heap.size [.bool sn, .slice An kn cn] 49 ∧ Below w.heap.size w wr)
 case atStart => exact ⟨0, by unfold Hid; omega, rfl, R0, B2, hb2⟩
 case round =>
  clear R0 B2 hb2
  obtain ⟨j, HJ, rfl, S, N, hb⟩ := hrel
  generalize wr = wx at *
  have hj0 : (0 : Int) ≤ (j : Int) := by omega
  cases gk with
  | zero =>
   have hj : j = ys.length := HJ.out
   subst hj
   rw [HJE.out] at S
   have hwl := S.whole M (by rw [HLL.out]; exact Nat.le_refl _)
   have htr := trim_whole (plusL xs ys y) (some ⟨w.heap.size + 1, 0, none⟩) M wx hwl (2 * K + 1) HKL.out (by omega) (by rw [HLL.out]; omega)
   rw [HLL.out] at htr
   go_wp2_with fail
   ((with_reducible refine htr.mono ?_))
   rintro e5 w5 ⟨rfl, h5, hb5⟩
   go_wp2_with fail
   go_ret
   exact ⟨w.heap.size + 1, M, rfl, by omega, h5, hb.trans (hb5.mono hb.size)⟩
  | succ k =>
   have hjy : j < ys.length := by have := HJ.out; omega
   have hjM : j < M := by omega
   have hj1 : (j : Int) < (ys.length : Int) := by omega
   have hj2 : (j : Int) < (M : Int) := by omega
   have hgt := HJG.out j j hjM
   rw [if_neg (Nat.lt_irrefl j), Int.add_zero] at hgt
   have hlr : j < (plusJ xs ys y j).length := by rw [HJL.out]; exact hjM
   have hset := HJS.out j hjM
   obtain ⟨b, s, B, l, d, rfl, hbl, y0, y1, hyi, hym⟩ := (hy.below hb).get (i := j) hjy
   have bY := hKy _ hym
   have bX := cf_nl hKx j
   have bmu := nl_mul_int (cf ys j) y _ _ bY hKn
   have hmul := fun W v u h1 h2 => mul_any (cf ys j) y v u W h1 h2 (by omega)
   have hadd := fun W v u h1 h2 => add_any (cf xs j) (cf ys j * y) v u W h1 h2 (by omega) (by omega)
   unfold RetInt at hmul hadd
   have HSET := Lib.hid hset
   clear hset hym bmu
   generalize cf xs j + cf ys j * y = nv at *
   generalize cf ys j * y = mv at *
   generalize cf xs j = ov at *
   generalize cf ys j = yv at *
   obtain ⟨st, At, kt, ct, g0, g1, hov⟩ := S.at_ hgt
   have hwl := S.lt
   have hnl := N.lt
   have hgc : wx.heap.size ≠ w.heap.size + 1 := by omega
   have hC0 : Below wx.heap.size wx (wx.alloc (.cells #[.bool s, .slice B l d] 49)) := (Below.refl _ _).alloc (Nat.le_refl _) _
   have C := Bx.new wx [.bool s, .slice B l d] 49
   have C_0 := C.cell 0 rfl
   have C_1 := C.cell 1 rfl
   have N_0 := (N.below hC0).cell 0 rfl
   have N_1 := (N.below hC0).cell 1 rfl
   replace g0 := (hC0.cell (p := ⟨w.heap.size + 1, j * 2, none⟩) hwl).trans g0
   replace g1 := (hC0.cell (p := ⟨w.heap.size + 1, j * 2 + 1, none⟩) hwl).trans g1
   have hov' := (hov.below hC0).drew
   have hn' := ((hn.below hb).below hC0).drew
   have hyi' := (hyi.below hC0).drew
   have hS' := (S.below hC0).drew
   have hN' := (N.below hC0).drew
   have hb' := (hb.trans (hC0.mono hb.size)).drew
   replace hwl := Nat.lt_of_lt_of_le hwl hC0.size
   replace hnl := Nat.lt_of_lt_of_le hnl hC0.size
   have hcl := C.lt
   clear hgt S N hb hyi hov
   go_wp2_with fail
   clear C hC0
   generalize hgcz : wx.heap.size = gc at *
   generalize wx.alloc (.cells #[.bool s, .slice B l d] 49) = wz at *
   go_region_with (first
     | (go_at_call 27; (with_reducible refine (hmul _ _ _ hyi' hn').mono ?_); rintro e6 w6 ⟨v6, rfl, h6, hb6⟩; replace hov' := hov'.below hb6; replace hS' := hS'.below hb6; replace hN' := hN'.below hb6; replace hb' := hb'.trans (hb6.mono hb'.size); replace g0 := (hb6.cell (p := ⟨w.heap.size + 1, j * 2, none⟩) hwl).trans g0; replace g1 := (hb6.cell (p := ⟨w.heap.size + 1, j * 2 + 1, none⟩) hwl).trans g1; replace N_0 := (hb6.cell (p := ⟨w.heap.size, 0, none⟩) hnl).trans N_0; replace N_1 := (hb6.cell (p := ⟨w.heap.size, 1, none⟩) hnl).trans N_1; replace C_0 := (hb6.cell (p := ⟨gc, 0, none⟩) hcl).trans C_0; replace C_1 := (hb6.cell (p := ⟨gc, 1, none⟩) hcl).trans C_1; replace hwl := Nat.lt_of_lt_of_le hwl hb6.size; replace hnl := Nat.lt_of_lt_of_le hnl hb6.size; replace hcl := Nat.lt_of_lt_of_le hcl hb6.size)
     | (go_at_call 64; (with_reducible refine (hadd _ _ _ hov' h6).mono ?_); rintro e7 w7 ⟨v7, rfl, h7, hb7⟩; obtain ⟨s7, A7, k7, c7, rfl⟩ := h7.form; replace hov' := hov'.below hb7; replace hS' := hS'.below hb7; replace hN' := hN'.below hb7; replace hb' := hb'.trans (hb7.mono hb'.size); replace g0 := (hb7.cell (p := ⟨w.heap.size + 1, j * 2, none⟩) hwl).trans g0; replace g1 := (hb7.cell (p := ⟨w.heap.size + 1, j * 2 + 1, none⟩) hwl).trans g1; replace N_0 := (hb7.cell (p := ⟨w.heap.size, 0, none⟩) hnl).trans N_0; replace N_1 := (hb7.cell (p := ⟨w.heap.size, 1, none⟩) hnl).trans N_1; replace C_0 := (hb7.cell (p := ⟨gc, 0, none⟩) hcl).trans C_0; replace C_1 := (hb7.cell (p := ⟨gc, 1, none⟩) hcl).trans C_1; replace hwl := Nat.lt_of_lt_of_le hwl hb7.size; replace hnl := Nat.lt_of_lt_of_le hnl hb7.size; replace hcl := Nat.lt_of_lt_of_le hcl hb7.size; have f0 := hS'.free (j * 2); have f1 := hS'.free (j * 2 + 1)))
   all_goals (
    go_wp2_with fail
    have hst := (hS'.stored hlr h7).2
    have zS := (hS'.stored hlr h7).1
    rw [HSET.out] at zS
    have zN : Bx _ w.heap.size [.bool sn, .slice An kn cn] 49 := (hst.2.1 w.heap.size (by omega)).trans hN'
    have zb := below_step hb' hst (by omega)
    go_roundg k
    case rel => exact ⟨j + 1, by have := HJ.out; unfold Hid; omega, by go_num, zS, zN, zb⟩
    case measure => omega)
end Go.Proofs.YtoimnlnaaklinaaGreatDoor
namespace Go.Proofs.YtoimnlnaaklinaaGreatDoor
open Sos
def hornS (inner res : List Int) (c pw : Int) : List Int := trimG isZ (plusL (timesL res inner) (trimG isZ [c]) pw)
def hornR (outer inner : List Int) (E : Int) : Nat → List Int
 | 0 => []
 | k + 1 => hornS inner (hornR outer inner E k) (cf outer (outer.length - 1 - k)) (E ^ k)
theorem hornS_len (inner res : List Int) (c pw : Int) : (hornS inner res c pw).length ≤ res.length + inner.length + 1 := by
 unfold hornS
 refine Nat.le_trans (trimG_len _ _) ?_
 rw [plusL_len]
 have h1 : (timesL res inner).length ≤ res.length + inner.length := by
  unfold timesL
  split
  ·simp
  ·rw [List.length_map, List.length_range]; omega
 have h2 := trimG_len isZ [c]
 rw [List.length_singleton] at h2
 omega
theorem hornR_len (outer inner : List Int) (E : Int) (hi : inner.length ≤ 65) : ∀ k, (hornR outer inner E k).length ≤ 66 * k
 | 0 => Nat.le_refl _
 | k + 1 => by
  have h1 := hornS_len inner (hornR outer inner E k) (cf outer (outer.length - 1 - k)) (E ^ k)
  have h2 := hornR_len outer inner E hi k
  show (hornS _ _ _ _).length ≤ _
  omega
theorem one_nl {c : Int} {K : Nat} (h : nl c.natAbs ≤ K) : ∀ n ∈ trimG isZ [c], nl n.natAbs ≤ K := fun n hn => by
 have := trimG_mem hn
 rw [List.mem_singleton] at this
 subst this; exact h
theorem times_nl2 {xs ys : List Int} {a b : Nat} (hx : ∀ n ∈ xs, nl n.natAbs ≤ a) (hy : ∀ n ∈ ys, nl n.natAbs ≤ b) (hl : xs.length + ys.length ≤ 1073741824) : ∀ n ∈ timesL xs ys, nl n.natAbs ≤ a + b + 1 := fun n hn => by
 unfold timesL at hn
 split at hn
 ·cases hn
 ·obtain ⟨i, hi, rfl⟩ := List.mem_map.1 hn
  exact conv_nl (cf_nl hx) (cf_nl hy) (by have := List.mem_range.1 hi; omega)
theorem plus_nl2 {xs ys : List Int} {y : Int} {a b c : Nat} (hx : ∀ n ∈ xs, nl n.natAbs ≤ a) (hy : ∀ n ∈ ys, nl n.natAbs ≤ b) (hk : nl y.natAbs ≤ c) (h : b + c ≤ a) : ∀ n ∈ plusL xs ys y, nl n.natAbs ≤ a + 1 := fun n hn => by
 unfold plusL at hn
 obtain ⟨i, _, rfl⟩ := List.mem_map.1 hn
 exact nl_add_int _ _ _ (cf_nl hx i) (Nat.le_trans (nl_mul_int _ _ _ _ (cf_nl hy i) hk) h)
theorem pow_nl_int (E : Int) (k K : Nat) (h : nl E.natAbs ≤ K) : nl (E ^ k).natAbs ≤ k * K + 1 := by
 rw [Int.natAbs_pow]
 exact Nat.le_trans (nl_pow _ _) (Nat.add_le_add_right (Nat.mul_le_mul_left _ h) 1)
theorem hornR_nl {outer inner : List Int} {E : Int} {K : Nat} (ho : ∀ n ∈ outer, nl n.natAbs ≤ K) (hi : ∀ n ∈ inner, nl n.natAbs ≤ K) (hE : nl E.natAbs ≤ K) (hl : inner.length ≤ 65) : ∀ k, k ≤ 65 → ∀ n ∈ hornR outer inner E k, nl n.natAbs ≤ k * (2 * K + 4)
 | 0, _, n, hn => by cases hn
 | k + 1, hk, n, hn => by
  have ih := hornR_nl ho hi hE hl k (by omega)
  have hlen := hornR_len outer inner E hl k
  have h1 := times_nl2 ih hi (by omega)
  have h2 := pow_nl_int E k K hE
  have e : (k + 1) * (2 * K + 4) = k * (2 * K + 4) + 2 * K + 4 := by rw [Nat.succ_mul]; omega
  have e2 : k * (2 * K + 4) = 2 * (k * K) + 4 * k := by rw [Nat.mul_add, Nat.mul_left_comm]; omega
  have h3 := plus_nl2 (a := k * (2 * K + 4) + 2 * K + 2) (fun n hn => Nat.le_trans (h1 n hn) (by omega)) (one_nl (cf_nl ho (outer.length - 1 - k))) h2 (by omega)
  have h4 := h3 n (trimG_mem hn)
  omega
end Go.Proofs.YtoimnlnaaklinaaGreatDoor
namespace Go.Proofs.YtoimnlnaaklinaaGreatDoor
open Sos Lib
theorem RL_zero {K : Nat} (h : 1 ≤ K) : RL K 0 := ⟨by show nl 0 ≤ K; rw [nl_zero]; omega, by show nl 1 ≤ K; exact Nat.le_trans (nl_le (by decide)) h⟩
theorem RL_neg {K : Nat} {q : Rat} (h : RL K q) : RL K (-q) := ⟨by rw [show (-q).num = -q.num from rfl, Int.natAbs_neg]; exact h.1, h.2⟩
theorem RL_mono {K L : Nat} {q : Rat} (h : RL K q) (hl : K ≤ L) : RL L q := ⟨Nat.le_trans h.1 hl, Nat.le_trans h.2 hl⟩
theorem dig_small {n k : Nat} (h : (decDigits n).length ≤ k) (hk : k ≤ 18) : nl n ≤ 1 := by
 refine nl_le ?_
 have h1 := decVal_lt (decDigits_digs n)
 rw [decDigits_val] at h1
 have h2 : 10 ^ (decDigits n).length ≤ 10 ^ 18 := Nat.pow_le_pow_right (by decide) (by omega)
 have h3 : 10 ^ 18 < BN ^ 1 := by decide
 omega
theorem RL_text {t : List UInt8} {q : Rat} (h : readL t = some q) (hl : t.length ≤ 18) : RL 1 q := by
 have e := txt_read h
 have hlen : (ratTxt q).length ≤ 18 := by rw [e]; exact hl
 unfold ratTxt at hlen
 rw [List.length_append, List.length_append] at hlen
 refine ⟨dig_small (k := 18) (by omega) (by decide), ?_⟩
 by_cases h1 : q.den = 1
 ·rw [h1]; exact nl_le (by decide)
 ·rw [if_neg h1, List.length_cons] at hlen
  exact dig_small (k := 18) (by omega) (by decide)
theorem RL_short {ls : List (List UInt8)} (h : ∀ l ∈ ls, l.length ≤ 18) : ∀ q ∈ ratsOf ls, RL 1 q := fun q hq => by
 obtain ⟨l, hl, rfl⟩ := List.mem_map.1 hq
 cases hr : readL l with
 | none => exact RL_zero (Nat.le_refl 1)
 | some q => exact RL_text hr (h l hl)
theorem txt_len {q : Rat} {K : Nat} (h : RL K q) : (ratTxt q).length ≤ 40 * K + 4 := by
 have h1 := digits_len q.num.natAbs K h.1
 have h2 := digits_len q.den K h.2
 unfold ratTxt
 rw [List.length_append, List.length_append]
 have h3 : (if q.num < 0 then [(45 : UInt8)] else []).length ≤ 1 := by split <;> simp
 have h4 : (if q.den = 1 then [] else (47 : UInt8) :: decDigits q.den).length ≤ (decDigits q.den).length + 1 := by split <;> simp
 omega
theorem rats_txt (Q : List Rat) : ratsOf (Q.map ratTxt) = Q := by
 unfold ratsOf
 rw [List.map_map]
 have : ((fun l => (readL l).getD 0) ∘ ratTxt) = id := funext (fun q => by show (readL (ratTxt q)).getD 0 = q; rw [read_txt]; rfl)
 rw [this, List.map_id]
theorem all_txt (Q : List Rat) : (Q.map ratTxt).all rd = true := by
 rw [List.all_eq_true]
 intro l hl
 obtain ⟨q, _, rfl⟩ := List.mem_map.1 hl
 unfold rd; rw [read_txt]; rfl
theorem vl_txt {Q : List Rat} (h : Q.length ≤ 65) (ht : Trimmed Q) : vl (Q.map ratTxt) = true := by
 unfold vl
 rw [decide_eq_true_iff, rats_txt, List.length_map]
 exact ⟨h, all_txt Q, (trimmed_iff Q).1 ht⟩
theorem txt_rats {ls : List (List UInt8)} (h : ls.all rd = true) : (ratsOf ls).map ratTxt = ls := by
 unfold ratsOf
 rw [List.map_map]
 refine (List.map_congr_left (g := id) (fun l hl => ?_)).trans (List.map_id _)
 have hr : rd l = true := List.all_eq_true.1 h l hl
 obtain ⟨q, hq⟩ := Option.isSome_iff_exists.1 hr
 show ratTxt ((readL l).getD 0) = l
 rw [hq]
 exact txt_read hq
end Go.Proofs.YtoimnlnaaklinaaGreatDoor
namespace Go.Proofs.YtoimnlnaaklinaaGreatDoor
open Go.RowKit Sos
theorem rd_zero : readL [48] = some 0 := by decide
theorem txt_zero : ratTxt 0 = [48] := txt_read rd_zero
theorem rats_last {ls : List (List UInt8)} {t : List UInt8} (h : ls.getLast? = some t) : (ratsOf ls).getLast? = some ((readL t).getD 0) := by
 unfold ratsOf
 rw [List.getLast?_map, h]; rfl
theorem vl_long {ls : List (List UInt8)} (h : ¬ ls.length ≤ 65) : vl ls = false := by unfold vl; rw [decide_eq_false_iff_not]; exact fun h' => h h'.1
theorem vl_zero {ls : List (List UInt8)} (h : ls.getLast? = some [48]) : vl ls = false := by
 unfold vl; rw [decide_eq_false_iff_not, rats_last h, rd_zero]; exact fun h' => h'.2.2 rfl
theorem vl_other {ls : List (List UInt8)} {t : List UInt8} (h65 : ls.length ≤ 65) (h : ls.getLast? = some t) (ht : t ≠ [48]) : vl ls = ls.all rd := by
 unfold vl
 rw [Bool.eq_iff_iff, decide_eq_true_iff, rats_last h]
 refine ⟨fun h' => h'.2.1, fun h' => ⟨h65, h', fun e => ht ?_⟩⟩
 injection e with e
 have hr : rd t = true := List.all_eq_true.1 h' t (List.mem_of_getLast? h)
 obtain ⟨q, hq⟩ := Option.isSome_iff_exists.1 hr
 rw [hq] at e
 have e : q = 0 := e
 rw [← txt_read hq, e, txt_zero]
theorem vl_nil : vl [] = true := by decide
theorem rats_len (ls : List (List UInt8)) : (ratsOf ls).length = ls.length := List.length_map _
def RetRs (w : World) (ls : List (List UInt8)) (e : Ending) (w' : World) : Prop :=
 ∃ v', e = .returned (.tuple #[v', .bool (vl ls)]) ∧ (vl ls = true → ∃ g, v' = .slice (some ⟨g, 0, none⟩) ls.length ls.length ∧ w.heap.size ≤ g ∧ OwnR w' g (ratsOf ls)) ∧ Below w.heap.size w w'
set_option maxRecDepth 100000 in
theorem readRatios_any (ls : List (List UInt8)) (v : Value) (w : World) (hG : Glob w) (hv : StrsAt w v ls) (hl : ls.length ≤ 1073741824) (hll : ls.length ≤ 65 → ∀ l ∈ ls, l.length ≤ 1073741824) :
  Calls Tryz.prog 33 #[v] w (RetRs w ls) := by
 obtain ⟨A, c, rfl, hc⟩ := hv.form
 go_enter Tryz.func33, Tryz.ntmps33
 go_wp2_with fail
 ((with_reducible refine (fits_any ls.length c A _ hl).mono ?_))
 rintro e3 w3 ⟨rfl, rfl⟩
 by_cases h65 : ls.length ≤ 65
 ·have hd : decide (ls.length ≤ 65) = true := decide_eq_true h65
  rw [hd]
  clear hd
  have hra := readAll_own ls (.slice A ls.length c) w3 hG hv hl (hll h65)
  by_cases h0 : ls.length = 0
  ·have hn : ls = [] := List.eq_nil_of_length_eq_zero h0
   have HV : Hid (vl ls = ls.all rd) := by unfold Hid; rw [hn, vl_nil]; rfl
   have h0' : ¬ 0 < ls.length := by omega
   clear hn h0
   go_wp2_with fail
   ((with_reducible refine hra.mono ?_))
   rintro e4 w4 ⟨v4, rfl, h4, hb4⟩
   go_wp2_with fail
   go_ret2
   unfold RetRs
   rw [HV.out]
   exact ⟨_, rfl, h4, hb4⟩
  ·obtain ⟨m, hm⟩ : ∃ m, ls.length = m + 1 := ⟨ls.length - 1, by omega⟩
   have h0' : 0 < ls.length := by omega
   have e1 : (ls.length : Int) - 1 = (m : Int) := by omega
   have i0 : (0 : Int) ≤ (m : Int) := by omega
   have i1 : (m : Int) < (ls.length : Int) := by omega
   obtain ⟨t, ht⟩ : ∃ t, ls[m]? = some t := ⟨_, List.getElem?_eq_getElem (by omega)⟩
   obtain ⟨b, off, rfl, hbl, g0⟩ := hv.at_ ht
   have hla : ls.getLast? = some t := by rw [List.getLast?_eq_getElem?, hm]; exact ht
   by_cases hz : t = [48]
   ·have HV : Hid (vl ls = false) := vl_zero (by rw [hla, hz])
    subst hz
    clear hra hla ht hm h0
    go_wp2_with fail
    go_ret2
    unfold RetRs
    rw [HV.out]
    exact ⟨_, rfl, (fun h => by cases h), Below.refl _ _⟩
   ·have HV : Hid (vl ls = ls.all rd) := vl_other h65 hla hz
    have hne : (t == [48]) = false := beq_eq_false_iff_ne.2 hz
    clear hla ht hm h0 hz
    go_wp2_with fail
    ((with_reducible refine hra.mono ?_))
    rintro e4 w4 ⟨v4, rfl, h4, hb4⟩
    go_wp2_with fail
    go_ret2
    unfold RetRs
    rw [HV.out]
    exact ⟨_, rfl, h4, hb4⟩
 ·have hd : decide (ls.length ≤ 65) = false := decide_eq_false h65
  have HV : Hid (vl ls = false) := vl_long h65
  rw [hd]
  clear hd
  go_wp2_with fail
  go_ret2
  unfold RetRs
  rw [HV.out]
  exact ⟨_, rfl, (fun h => by cases h), Below.refl _ _⟩
set_option maxRecDepth 100000 in
theorem valid_any (ls : List (List UInt8)) (v : Value) (w : World) (hG : Glob w) (hv : StrsAt w v ls) (hl : ls.length ≤ 1073741824) (hll : ls.length ≤ 65 → ∀ l ∈ ls, l.length ≤ 1073741824) :
  Calls Tryz.prog 14 #[v] w fun e w' => e = .returned (.bool (vl ls)) ∧ Below w.heap.size w w' := by
 obtain ⟨A, c, rfl, hc⟩ := hv.form
 go_enter Tryz.func14, Tryz.ntmps14
 go_wp2_with fail
 ((with_reducible refine (readRatios_any ls _ _ hG hv hl hll).mono ?_))
 rintro e3 w3 ⟨v3, rfl, -, hb3⟩
 go_wp2_with fail
 go_ret
 exact ⟨rfl, hb3⟩
end Go.Proofs.YtoimnlnaaklinaaGreatDoor
namespace Go.Proofs.YtoimnlnaaklinaaGreatDoor
open Sos
def mono {α : Type} [OfNat α 0] (n : Nat) (c : α) : List α := List.replicate n 0 ++ [c]
section
variable {α : Type} [OfNat α 0]
theorem mono_len (n : Nat) (c : α) : (mono n c).length = n + 1 := by unfold mono; rw [List.length_append, List.length_replicate, List.length_singleton]
theorem mono_last (n : Nat) (c : α) : (mono n c).getLast? = some c := by unfold mono; rw [List.getLast?_append]; simp
theorem mono_trim {n : Nat} {c : α} (h : c ≠ 0) : Trimmed (mono n c) := fun a ha => by
 rw [mono_last] at ha
 injection ha with ha
 subst ha; exact h
theorem cf_mono (n : Nat) (c : α) (i : Nat) : cf (mono n c) i = if i = n then c else 0 := by
 unfold mono
 rcases Nat.lt_trichotomy i n with h | h | h
 ·rw [if_neg (by omega)]
  exact cf_of (by rw [List.getElem?_append_left (by rw [List.length_replicate]; exact h), List.getElem?_replicate, if_pos h])
 ·subst h
  rw [if_pos rfl]
  exact cf_of (by rw [List.getElem?_append_right (by rw [List.length_replicate]; exact Nat.le_refl _), List.length_replicate, Nat.sub_self]; rfl)
 ·rw [if_neg (by omega), cf_top]
  rw [List.length_append, List.length_replicate, List.length_singleton]; omega
theorem mono_ne (n : Nat) (c : α) : mono n c ≠ [] := fun h => by
 have := mono_len n c
 rw [h] at this
 simp at this
end
def monoT (n : Nat) (t : List UInt8) : List (List UInt8) := List.replicate n [48] ++ [t]
theorem monoT_len (n : Nat) (t : List UInt8) : (monoT n t).length = n + 1 := by unfold monoT; rw [List.length_append, List.length_replicate, List.length_singleton]
theorem monoT_mem {n : Nat} {t l : List UInt8} (h : l ∈ monoT n t) : l = [48] ∨ l = t := by
 unfold monoT at h
 rcases List.mem_append.1 h with h | h
 ·exact .inl (List.mem_replicate.1 h).2
 ·rw [List.mem_singleton] at h; exact .inr h
theorem rats_monoT {n : Nat} {t : List UInt8} {q : Rat} (h : readL t = some q) : ratsOf (monoT n t) = mono n q := by
 unfold ratsOf monoT mono
 rw [List.map_append, List.map_replicate, rd_zero, List.map_singleton, h]
 rfl
theorem vl_monoT {n : Nat} {t : List UInt8} {q : Rat} (hn : n ≤ 64) (h : readL t = some q) (h0 : q ≠ 0) : vl (monoT n t) = true := by
 unfold vl
 rw [decide_eq_true_iff, monoT_len, rats_monoT h]
 refine ⟨by omega, ?_, (trimmed_iff _).1 (mono_trim h0)⟩
 rw [List.all_eq_true]
 intro l hl
 rcases monoT_mem hl with rfl | rfl
 ·unfold rd; rw [rd_zero]; rfl
 ·unfold rd; rw [h]; rfl
theorem times_mono {p q : Nat} {x y : Rat} : timesR (mono p x) (mono q y) = mono (p + q) (x * y) := by
 unfold timesR
 rw [if_neg (by rintro (h | h); exact mono_ne _ _ h; exact mono_ne _ _ h), mono_len, mono_len]
 refine List.ext_getElem? (fun i => ?_)
 have hl : (mono (p + q) (x * y)).length = p + q + 1 := mono_len _ _
 by_cases hi : i < p + q + 1
 ·rw [List.getElem?_map, List.getElem?_range (by omega), List.getElem?_eq_getElem (by rw [hl]; exact hi), ← cf_get (by rw [hl]; exact hi), cf_mono]
  have e : (cf (mono p x)) = fun k => if k = p then x else 0 := funext (fun k => cf_mono p x k)
  rw [e]
  show some (conv _ _ i) = _
  rw [conv_mono, cf_mono]
  congr 1
  by_cases h1 : p ≤ i
  ·rw [if_pos h1]
   by_cases h2 : i = p + q
   ·rw [if_pos (by omega), if_pos h2]
   ·rw [if_neg (by omega), if_neg h2, Rat.mul_zero]
  ·rw [if_neg h1, if_neg (by omega)]
 ·rw [List.getElem?_eq_none (by rw [List.length_map, List.length_range]; omega), List.getElem?_eq_none (by omega)]
theorem timesL_mono {p q : Nat} {x y : Int} : timesL (mono p x) (mono q y) = mono (p + q) (x * y) := by
 unfold timesL
 rw [if_neg (by rintro (h | h); exact mono_ne _ _ h; exact mono_ne _ _ h), mono_len, mono_len]
 refine List.ext_getElem? (fun i => ?_)
 have hl : (mono (p + q) (x * y)).length = p + q + 1 := mono_len _ _
 by_cases hi : i < p + q + 1
 ·rw [List.getElem?_map, List.getElem?_range (by omega), List.getElem?_eq_getElem (by rw [hl]; exact hi), ← cf_get (by rw [hl]; exact hi), cf_mono]
  have e : (cf (mono p x)) = fun k => if k = p then x else 0 := funext (fun k => cf_mono p x k)
  rw [e]
  show some (conv _ _ i) = _
  rw [conv_mono, cf_mono]
  congr 1
  by_cases h1 : p ≤ i
  ·rw [if_pos h1]
   by_cases h2 : i = p + q
   ·rw [if_pos (by omega), if_pos h2]
   ·rw [if_neg (by omega), if_neg h2, Int.mul_zero]
  ·rw [if_neg h1, if_neg (by omega)]
 ·rw [List.getElem?_eq_none (by rw [List.length_map, List.length_range]; omega), List.getElem?_eq_none (by omega)]
theorem nums_mono {n : Nat} {q : Rat} {D : Int} : numsL (mono n q) D = mono n (q.num * D.tdiv (q.den : Int)) := by
 unfold numsL mono
 rw [List.map_append, List.map_replicate, List.map_singleton]
 congr 2
 show (0 : Rat).num * _ = 0
 rw [show (0 : Rat).num = 0 from rfl, Int.zero_mul]
theorem nums_mono_ne {q : Rat} {D : Int} (h : q ≠ 0) (hD : 0 < D) (hd : (q.den : Int) ∣ D) : q.num * D.tdiv (q.den : Int) ≠ 0 := fun e => by
 rcases Int.mul_eq_zero.1 e with h1 | h1
 ·exact h (Rat.num_eq_zero.1 h1)
 ·have h2 := Int.tdiv_mul_cancel hd
  rw [h1, Int.zero_mul] at h2
  omega
theorem horn_mono {p q : Nat} {N E F : Int} (hN : N ≠ 0) (hE : E ≠ 0) (hF : F ≠ 0) : ∀ k, k ≤ q → ∃ M, M ≠ 0 ∧ hornR (mono q N) (mono p F) E (k + 1) = mono (p * k) M
 | 0, _ => by
  refine ⟨N, hN, ?_⟩
  show hornS (mono p F) [] (cf (mono q N) ((mono q N).length - 1 - 0)) (E ^ 0) = _
  rw [mono_len, cf_mono, if_pos (by omega), Int.pow_zero, Nat.mul_zero]
  unfold hornS
  have h1 : timesL ([] : List Int) (mono p F) = [] := by unfold timesL; rw [if_pos (.inl rfl)]
  rw [h1, trim_self (l := [N]) (fun a h => by simp at h; subst h; exact hN)]
  have h2 : plusL [] [N] 1 = [N] := by
   unfold plusL
   show [cf [] 0 + cf [N] 0 * 1] = [N]
   rw [cf_nil, Int.zero_add, Int.mul_one]; rfl
  rw [h2]
  exact trim_self (fun a h => by simp at h; subst h; exact hN)
 | k + 1, hk => by
  obtain ⟨M, hM, e⟩ := horn_mono (p := p) (q := q) hN hE hF k (by omega)
  refine ⟨M * F, fun h => by rcases Int.mul_eq_zero.1 h with h | h; exact hM h; exact hF h, ?_⟩
  show hornS (mono p F) (hornR (mono q N) (mono p F) E (k + 1)) (cf (mono q N) ((mono q N).length - 1 - (k + 1))) (E ^ (k + 1)) = _
  rw [e, mono_len, cf_mono, if_neg (show ¬ (q + 1 - 1 - (k + 1) = q) by omega)]
  unfold hornS
  have h1 : trimG isZ [(0 : Int)] = [] := rfl
  rw [timesL_mono, h1]
  have h2 : plusL (mono (p * k + p) (M * F)) [] (E ^ (k + 1)) = mono (p * k + p) (M * F) := by
   refine List.ext_getElem? (fun i => ?_)
   unfold plusL
   rw [List.length_nil, Nat.max_zero]
   by_cases hi : i < (mono (p * k + p) (M * F)).length
   ·rw [List.getElem?_map, List.getElem?_range hi, List.getElem?_eq_getElem hi]
    show some (cf _ i + cf [] i * _) = _
    rw [cf_nil, Int.zero_mul, Int.add_zero, cf_get hi]
   ·rw [List.getElem?_eq_none (by rw [List.length_map, List.length_range]; omega), List.getElem?_eq_none (by omega)]
  rw [h2, trim_self (mono_trim (fun h => by rcases Int.mul_eq_zero.1 h with h | h; exact hM h; exact hF h)), Nat.mul_succ]
end Go.Proofs.YtoimnlnaaklinaaGreatDoor
namespace Go.Proofs.YtoimnlnaaklinaaGreatDoor
open Go.RowKit Sos
def degOK (n m : Nat) : Bool := decide (((n : Int) - 1) * ((m : Int) - 1) ≤ 64)
theorem deg_prod {n m : Nat} (h0 : n ≠ 0) (hn : n ≤ 65) (hm : m ≤ 65) : -65 ≤ ((n : Int) - 1) * ((m : Int) - 1) ∧ ((n : Int) - 1) * ((m : Int) - 1) ≤ 4096 := by
 obtain ⟨p, rfl⟩ : ∃ p, n = p + 1 := ⟨n - 1, by omega⟩
 have e : ((p + 1 : Nat) : Int) - 1 = (p : Int) := by omega
 rw [e]
 rcases Nat.eq_zero_or_pos m with h | h
 ·subst h
  have e2 : (p : Int) * (((0 : Nat) : Int) - 1) = -(p : Int) := by omega
  rw [e2]; omega
 ·obtain ⟨q, rfl⟩ : ∃ q, m = q + 1 := ⟨m - 1, by omega⟩
  have e2 : ((q + 1 : Nat) : Int) - 1 = (q : Int) := by omega
  rw [e2, ← Int.natCast_mul]
  have h1 : p * q ≤ 64 * 64 := Nat.mul_le_mul (by omega) (by omega)
  omega
def RetCmp (w : World) (a b : List (List UInt8)) (K0 : Nat) (e : Ending) (w' : World) : Prop :=
 ∃ v n T, e = .returned (.tuple #[v, .int .i64 n]) ∧ StrsAt w' v T ∧ Below w.heap.size w w' ∧
  (¬ (vl a = true ∧ vl b = true) → n = 1 ∧ T = []) ∧ (vl a = true → vl b = true → a = [] → n = 0 ∧ T = []) ∧ (vl a = true → vl b = true → a ≠ [] → degOK a.length b.length = false → n = 2 ∧ T = []) ∧
  (vl a = true → vl b = true → a ≠ [] → degOK a.length b.length = true → n = 0 ∧ ∃ D E, ComDen (ratsOf a) D K0 ∧ ComDen (ratsOf b) E K0 ∧ T = (ratios (hornR (numsL (ratsOf a) D) (numsL (ratsOf b) E) E a.length) (D * E ^ (a.length - 1))).map ratTxt)
set_option maxRecDepth 100000 in
theorem compose_poly (a b : List (List UInt8)) (va vb : Value) (w : World) (hG : Glob w) (ha : StrsAt w va a) (hb' : StrsAt w vb b) (hla : a.length ≤ 1073741824) (hlb : b.length ≤ 1073741824) (K : Nat)
  (hca : a.length ≤ 65 → ∀ l ∈ a, l.length ≤ 1073741824) (hcb : b.length ≤ 65 → ∀ l ∈ b, l.length ≤ 1073741824) (hKa : a.length ≤ 65 → ∀ q ∈ ratsOf a, RL K q) (hKb : b.length ≤ 65 → ∀ q ∈ ratsOf b, RL K q) (hK : K ≤ 1024) :
  Calls Tryz.prog 19 #[va, vb] w (RetCmp w a b (1 + 65 * K)) := by
 obtain ⟨A, c, rfl, hc⟩ := ha.form
 obtain ⟨A', c', rfl, hc'⟩ := hb'.form
 go_enter Tryz.func19, Tryz.ntmps19
 go_wp2_with fail
 ((with_reducible refine (uniRead_any a _ _ hG ha hla hca K (1 + 65 * K) hKa (Nat.le_refl _) (by unfold LIM; omega)).mono ?_))
 rintro e1 w1 ⟨v1, vd1, xs, D, rfl, hx, hD, hvx, hb1⟩
 obtain ⟨A1, c1, rfl, hc1⟩ := hx.form
 obtain ⟨s1, B1, k1, d1, rfl⟩ := hD.form
 go_wp2_with fail
 have hbX : Below w1.heap.size w1 (w1.alloc (.cells #[.bool s1, .slice B1 k1 d1] 49)) := (Below.refl _ _).alloc (Nat.le_refl _) _
 have X := Bx.new w1 [.bool s1, .slice B1 k1 d1] 49
 replace hx := hx.below hbX
 replace hD := hD.below hbX
 have hb := hb1.trans (hbX.mono hb1.size)
 clear hbX
 generalize hgx : w1.heap.size = gx at *
 generalize w1.alloc (.cells #[.bool s1, .slice B1 k1 d1] 49) = w2 at *
 ((with_reducible refine (uniRead_any b _ _ (hG.below hb) (hb'.below hb) hlb hcb K (1 + 65 * K) hKb (Nat.le_refl _) (by unfold LIM; omega)).mono ?_))
 rintro e3 w3 ⟨v3, vd3, ys, E, rfl, hy, hE, hvy, hb3⟩
 obtain ⟨A3, c3, rfl, hc3⟩ := hy.form
 obtain ⟨s3, B3, k3, d3, rfl⟩ := hE.form
 replace X := X.below hb3
 replace hx := hx.below hb3
 replace hD := hD.below hb3
 replace hb := hb.trans (hb3.mono hb.size)
 have gxl := X.lt
 cases hva : vl a with
 | false =>
  have HV : Hid (vl a = false) := hva
  clear hva hvx hvy
  generalize vl b = ok
  go_wp2_with fail
  all_goals (
   go_ret2
   refine ⟨_, 1, [], rfl, StrsAt.nil _ _ _, hb.alloc hb.size _, (fun _ => ⟨rfl, rfl⟩), (fun h => ?_), (fun h => ?_), (fun h => ?_)⟩
   ·rw [HV.out] at h; cases h
   ·rw [HV.out] at h; cases h
   ·rw [HV.out] at h; cases h)
 | true =>
  cases hvb : vl b with
  | false =>
   have HV : Hid (vl b = false) := hvb
   clear hva hvb hvx hvy
   go_wp2_with fail
   go_ret2
   refine ⟨_, 1, [], rfl, StrsAt.nil _ _ _, hb.alloc hb.size _, (fun _ => ⟨rfl, rfl⟩), (fun _ h => ?_), (fun _ h => ?_), (fun _ h => ?_)⟩
   ·rw [HV.out] at h; cases h
   ·rw [HV.out] at h; cases h
   ·rw [HV.out] at h; cases h
  | true =>
   obtain ⟨rfl, hcx⟩ := hvx hva
   obtain ⟨rfl, hcy⟩ := hvy hvb
   obtain ⟨p1, -, t1⟩ := vl_parts hva
   obtain ⟨p2, -, t2⟩ := vl_parts hvb
   have HVV : Hid (vl a = true ∧ vl b = true) := ⟨hva, hvb⟩
   have lx : (numsL (ratsOf a) D).length = a.length := by rw [nums_len]; unfold ratsOf; rw [List.length_map]
   have ly : (numsL (ratsOf b) E).length = b.length := by rw [nums_len]; unfold ratsOf; rw [List.length_map]
   have bx := nums_nl _ D K _ (hKa p1) hcx.nl_
   have bY := nums_nl _ E K _ (hKb p2) hcy.nl_
   have bD := hcx.nl_
   have bE := hcy.nl_
   have HC : Hid (ComDen (ratsOf a) D (1 + 65 * K) ∧ ComDen (ratsOf b) E (1 + 65 * K)) := ⟨hcx, hcy⟩
   have HNA : Hid (∀ T, T = (ratios (hornR (numsL (ratsOf a) D) (numsL (ratsOf b) E) E a.length) (D * E ^ (a.length - 1))).map ratTxt → ∃ D E, ComDen (ratsOf a) D (1 + 65 * K) ∧ ComDen (ratsOf b) E (1 + 65 * K) ∧ T = (ratios (hornR (numsL (ratsOf a) D) (numsL (ratsOf b) E) E a.length) (D * E ^ (a.length - 1))).map ratTxt) := fun T h => ⟨D, E, hcx, hcy, h⟩
   by_cases ha0 : a = []
   ·have q0 : (((numsL (ratsOf a) D).length : Int) == 0) = true := by rw [lx, ha0]; rfl
    have HA := Lib.hid ha0
    clear hva hvb hvx hvy hcx hcy lx ly ha0 ha bx bY
    go_wp2_with fail
    go_ret2
    exact ⟨_, 0, [], rfl, StrsAt.nil _ _ _, hb.alloc hb.size _, (fun h => absurd HVV.out h), (fun _ _ _ => ⟨rfl, rfl⟩), (fun _ _ h => absurd HA.out h), (fun _ _ h => absurd HA.out h)⟩
   ·have hal : a.length ≠ 0 := fun e => ha0 (List.eq_nil_of_length_eq_zero e)
    have HA := Lib.hid ha0
    have q0 : (((numsL (ratsOf a) D).length : Int) == 0) = false := by rw [lx]; simp; omega
    obtain ⟨pb1, pb2⟩ := deg_prod hal p1 p2
    rw [← lx, ← ly] at pb1 pb2
    have HDY : Hid ((((numsL (ratsOf a) D).length : Int) - 1) * (((numsL (ratsOf b) E).length : Int) - 1) ≤ 64 → degOK a.length b.length = true) := fun h => by unfold degOK; rw [← lx, ← ly]; exact decide_eq_true h
    have HDN : Hid (¬ (((numsL (ratsOf a) D).length : Int) - 1) * (((numsL (ratsOf b) E).length : Int) - 1) ≤ 64 → degOK a.length b.length = false) := fun h => by unfold degOK; rw [← lx, ← ly]; exact decide_eq_false h
    have HOUT : Hid (∀ T, T = (ratios (hornR (numsL (ratsOf a) D) (numsL (ratsOf b) E) E (numsL (ratsOf a) D).length) (D * E ^ ((numsL (ratsOf a) D).length - 1))).map ratTxt → ∃ D E, ComDen (ratsOf a) D (1 + 65 * K) ∧ ComDen (ratsOf b) E (1 + 65 * K) ∧ T = (ratios (hornR (numsL (ratsOf a) D) (numsL (ratsOf b) E) E a.length) (D * E ^ (a.length - 1))).map ratTxt) := fun T h => HNA.out T (by rw [h, lx])
    have p1' : (numsL (ratsOf a) D).length ≤ 65 := by rw [lx]; exact p1
    have p2' : (numsL (ratsOf b) E).length ≤ 65 := by rw [ly]; exact p2
    have hal' : (numsL (ratsOf a) D).length ≠ 0 := by rw [lx]; exact hal
    clear hva hvb hvx hvy hcx hcy lx ly ha0 ha hb' t1 t2 hKa hKb hca hcb hla hlb HNA HC p1 p2 hal hc hc' hb1 hgx
    generalize numsL (ratsOf a) D = NA at *
    generalize numsL (ratsOf b) E = NB at *
    obtain ⟨Pd, hPd⟩ : ∃ Pd, Pd = ((NA.length : Int) - 1) * ((NB.length : Int) - 1) := ⟨_, rfl⟩
    have hwr : IntKind.i64.wrap (((NA.length : Int) - 1) * ((NB.length : Int) - 1)) = Pd := by rw [hPd]; exact IntWalk.i64_in _ ⟨by omega, by omega⟩
    have hwr2 : wrap64 (((NA.length : Int) - 1) * ((NB.length : Int) - 1)) = Pd := by rw [hPd]; unfold wrap64; omega
    rw [← hPd] at pb1 pb2 HDY HDN
    have HPd := Lib.hid hPd
    clear hPd
    have Y := Bx.new w3 [.bool s3, .slice B3 k3 d3] 49
    by_cases hdg : Pd ≤ 64
    ·have hdg' : ¬ (64 : Int) < Pd := by omega
     have HOK := Lib.hid (HDY.out hdg)
     clear HDY HDN
     go_wp2_with (first
      | (go_at_call 43; (with_reducible refine (degree_any NA.length c1 A1 _ (by omega)).mono ?_); rintro e4 w4 ⟨rfl, rfl⟩)
      | (go_at_call 43; (with_reducible refine (degree_any NB.length c3 A3 _ (by omega)).mono ?_); rintro e4 w4 ⟨rfl, rfl⟩))
     have hbY : Below w3.heap.size w3 (w3.alloc (.cells #[.bool s3, .slice B3 k3 d3] 49)) := (Below.refl _ _).alloc (Nat.le_refl _) _
     replace hx := hx.below hbY
     replace hy := hy.below hbY
     replace hD := hD.below hbY
     replace hE := hE.below hbY
     replace X := X.below hbY
     replace hb := hb.trans (hbY.mono hb.size)
     clear hbY hwr hwr2 pb1 pb2 hdg hdg' hb3
     generalize hgy : w3.heap.size = gy at *
     generalize w3.alloc (.cells #[.bool s3, .slice B3 k3 d3] 49) = w5 at *
     ((with_reducible refine (new_any 1 w5 (by decide) (by decide)).mono ?_))
     rintro e6 w6 ⟨v6, rfl, h6, hb6⟩
     obtain ⟨s6, A6, k6, c6, rfl⟩ := h6.form
     replace hx := hx.below hb6
     replace hy := hy.below hb6
     replace hD := hD.below hb6
     replace hE := hE.below hb6
     replace X := X.below hb6
     replace Y := Y.below hb6
     replace hb := hb.trans (hb6.mono hb.size)
     have gxl6 := X.lt
     have gyl6 := Y.lt
     clear hb6 hgy gxl
     have P0 := bx_new0 h6
     have hbP : Below w6.heap.size w6 (w6.alloc (.cells #[.bool s6, .slice A6 k6 c6] 49)) := (Below.refl _ _).alloc (Nat.le_refl _) _
     have hRN := hornR_nl (E := E) (K := K + (1 + 65 * K)) bx bY (Nat.le_trans bE (by omega)) p2'
     have hRL := hornR_len NA NB E p2'
     have HRN : Hid (∀ j, j ≤ 65 → ∀ n ∈ hornR NA NB E j, nl n.natAbs ≤ 9000000) := fun j hj n hn => Nat.le_trans (hRN j hj n hn) (Nat.le_trans (Nat.mul_le_mul_right _ hj) (by omega))
     have HRL := Lib.hid hRL
     have HPN : Hid (∀ j, j ≤ 65 → nl (E ^ j).natAbs ≤ 9000000) := fun j hj => Nat.le_trans (pow_nl_int E j (1 + 65 * K) bE) (by have : j * (1 + 65 * K) ≤ 65 * (1 + 65 * K) := Nat.mul_le_mul_right _ hj; omega)
     have HST : Hid (∀ k j, j + (k + 1) = NA.length → trimG isZ (plusL (timesL (hornR NA NB E j) NB) (trimG isZ [cf NA k]) (E ^ j)) = hornR NA NB E (j + 1)) := fun k j h => by
      show _ = hornS NB (hornR NA NB E j) (cf NA (NA.length - 1 - j)) (E ^ j)
      rw [show NA.length - 1 - j = k by omega]; rfl
     clear hRN hRL
     go_wp2_with (go_at_call 43; (with_reducible refine (degree_any NA.length c1 A1 _ (by omega)).mono ?_); rintro e4 w4 ⟨rfl, rfl⟩)
     go_loopg [12, 14] NA.length (fun k rv iv wr => ∃ j Ar cr, Hid (j + k = NA.length) ∧ rv = .slice Ar (hornR NA NB E j).length cr ∧ iv = .int .i64 ((k : Int) - 1) ∧ WholeAt wr (.slice Ar (hornR NA NB E j).length cr) (hornR NA NB E j) ∧ (∀ b, Ar = some ⟨b, 0, none⟩ → b ≠ w6.heap.size) ∧ IntBx wr w6.heap.size (E ^ (min j (NA.length - 1))) ∧ Below w6.heap.size w6 wr)
     case atStart => exact ⟨0, none, 0, by unfold Hid; omega, rfl, rfl, WholeAt.nil _ _ _, (fun b h => by cases h), by rw [Nat.zero_min, Int.pow_zero]; exact P0, hbP⟩
     case round =>
      clear P0 hbP
      obtain ⟨j, Ar, cr, HJ, rfl, rfl, hR, hRb, P, hbw⟩ := hrel
      generalize wr = wx at *
      cases gk with
      | zero =>
       have hj : j = NA.length := HJ.out
       subst hj
       have e1 : min NA.length (NA.length - 1) = NA.length - 1 := by omega
       rw [e1] at P
       obtain ⟨sp, Ap, kp, cp, PB, hP⟩ := P
       have bP := HPN.out (NA.length - 1) (by omega)
       have bR := HRN.out NA.length p1'
       have lR := HRL.out NA.length
       have hmu := fun W h1 h2 => mul_any D (E ^ (NA.length - 1)) (.agg #[.bool s1, .slice B1 k1 d1]) (.agg #[.bool sp, .slice Ap kp cp]) W h1 h2 (by omega)
       have bM := nl_mul_int D (E ^ (NA.length - 1)) _ _ bD bP
       have hws := fun W u (hG : Glob W) h1 h2 => wholeStrings_any (hornR NA NB E NA.length) (D * E ^ (NA.length - 1)) (.slice Ar (hornR NA NB E NA.length).length cr) u W hG h1 h2 9100000 (fun n hn => Nat.le_trans (bR n hn) (by decide)) (by omega) (by decide) (by decide) (by omega)
       have HOU := Lib.hid (HOUT.out _ rfl)
       have X_0 := (X.below hbw).cell 0 rfl
       have X_1 := (X.below hbw).cell 1 rfl
       have P_0 := PB.cell 0 rfl
       have P_1 := PB.cell 1 rfl
       have hDx := hD.below hbw
       replace hb := hb.trans (hbw.mono hb.size)
       have hm1 : ¬ (0 : Int) ≤ ((0 : Nat) : Int) - 1 := by omega
       have hm2 : ((0 : Nat) : Int) - 1 = -1 := by omega
       rw [hm2]
       clear bR bM bP HOUT HST HRN HPN HRL e1 hm1 hm2 hRb
       generalize E ^ (NA.length - 1) = EP at *
       go_wp2_with fail
       ((with_reducible refine (hmu _ hDx hP).mono ?_))
       rintro e7 w7 ⟨v7, rfl, h7, hb7⟩
       obtain ⟨s7, A7, k7, c7, rfl⟩ := h7.form
       replace hR := hR.below hb7
       replace hb := hb.trans (hb7.mono hb.size)
       go_wp2_with fail
       ((with_reducible refine (hws _ _ (hG.below hb) hR h7).mono ?_))
       rintro e8 w8 ⟨v8, rfl, h8, hb8⟩
       go_wp2_with fail
       go_ret2
       refine ⟨_, 0, _, rfl, h8, hb.trans (hb8.mono hb.size), (fun h => absurd HVV.out h), (fun _ _ h => absurd h HA.out), (fun _ _ _ h => ?_), (fun _ _ _ _ => ⟨rfl, HOU.out⟩)⟩
       rw [HOK.out] at h; cases h
      | succ k =>
       have hjk : j + (k + 1) = NA.length := HJ.out
       have hkl : k < NA.length := by omega
       have e0 : ((k + 1 : Nat) : Int) - 1 = (k : Int) := by omega
       have k0 : (0 : Int) ≤ (k : Int) := by omega
       have kl1 : (k : Int) < (NA.length : Int) := by omega
       have e1 : min j (NA.length - 1) = j := by omega
       rw [e1] at P
       rw [e0]
       have hst := HST.out k j hjk
       have HSTk := Lib.hid hst
       obtain ⟨bo, s, B, l, d, rfl, hbl, y0, y1, hci, hcm⟩ := (hx.below hbw).get (i := k) hkl
       have bC := bx _ hcm
       have bP := HPN.out j (by omega)
       have bR := HRN.out j (by omega)
       have lR := HRL.out j
       have htr := fun A c W (h : WholeAt W (.slice A 1 c) [cf NA k]) => show Calls Tryz.prog 45 #[.slice A 1 c] W (fun e w' => e = .returned (.slice A (trimG isZ [cf NA k]).length c) ∧ WholeAt w' (.slice A (trimG isZ [cf NA k]).length c) (trimG isZ [cf NA k]) ∧ Below W.heap.size W w') from trim_whole [cf NA k] A c W h (K + (1 + 65 * K)) (fun n hn => by rw [List.mem_singleton] at hn; subst hn; exact bC) (by omega) (by simp)
       have htm := fun W h1 h2 => times_whole (hornR NA NB E j) NB (.slice Ar (hornR NA NB E j).length cr) (.slice A3 NB.length c3) W h1 h2 9000000 bR (fun n hn => Nat.le_trans (bY n hn) (by omega)) (by unfold LIM; omega) (by omega) (by omega)
       have bT := times_nl2 bR bY (by omega)
       have lT : (timesL (hornR NA NB E j) NB).length ≤ 1073741824 := by
        unfold timesL
        split
        ·simp
        ·rw [List.length_map, List.length_range]; omega
       obtain ⟨sp, Ap, kp, cp, PB, hP⟩ := P
       have hpl := fun W v Ac cc h1 h2 h3 => plus_whole (timesL (hornR NA NB E j) NB) (trimG isZ [cf NA k]) (E ^ j) v (.slice Ac (trimG isZ [cf NA k]).length cc) (.agg #[.bool sp, .slice Ap kp cp]) W h1 h2 h3 9100000 (fun n hn => Nat.le_trans (bT n hn) (by omega)) (one_nl (Nat.le_trans bC (by omega))) (by omega) (by omega) lT (Nat.le_trans (trimG_len _ _) (by simp))
       rw [hst] at hpl
       have hmp := fun W h1 h2 => mul_any (E ^ j) E (.agg #[.bool sp, .slice Ap kp cp]) (.agg #[.bool s3, .slice B3 k3 d3]) W h1 h2 (by omega)
       have hpw : E ^ j * E = E ^ (j + 1) := (Int.pow_succ E j).symm
       rw [hpw] at hmp
       have hgp := PB.lt
       have hC0 : Below wx.heap.size wx (wx.alloc (.cells #[.bool s, .slice B l d] 49)) := (Below.refl _ _).alloc (Nat.le_refl _) _
       have hS := WholeAt.single hci
       clear hst bT bR bP bC hcm HST HRN HPN HRL hpw lT e1 HSTk hci
       generalize hrj : hornR NA NB E j = RJ at *
       generalize hrk : hornR NA NB E (j + 1) = RK at *
       have HRK := Lib.hid hrk
       clear hrj hrk
       generalize timesL RJ NB = TJ at *
       generalize hcf : trimG isZ [cf NA k] = CK at *
       clear hcf
       go_wp2_with fail
       replace hS := hS
       ((with_reducible refine (htr _ _ _ hS).mono ?_))
       rintro e7 w7 ⟨rfl, hC, hb7⟩
       have hb70 := hC0.trans (hb7.mono hC0.size)
       replace hbw := hbw.trans (hb70.mono hbw.size)
       replace hR := hR.below hb70
       have hyx := hy.below hbw
       replace hP := hP.below hb70
       replace PB := PB.below hb70
       have P_0 := PB.cell 0 rfl
       have P_1 := PB.cell 1 rfl
       replace hgp := PB.lt
       clear hC0 hb7 hb70 hS htr y0 y1 hbl
       by_cases hk0 : k = 0
       ·have hk1 : ¬ (0 : Int) < (k : Int) := by omega
        go_wp2_with fail
        have PB_ltw7 := PB.lt
        have KS := Lib.hid (show ∀ w', Below w7.heap.size w7 w' → (w'.cell? ⟨w6.heap.size, 0, none⟩ = some (.bool sp) ∧ w'.cell? ⟨w6.heap.size, 1, none⟩ = some (.slice Ap kp cp)) from fun w' hU => ⟨(hU.cell (p := ⟨w6.heap.size, 0, none⟩) PB_ltw7).trans (PB.cell 0 rfl), (hU.cell (p := ⟨w6.heap.size, 1, none⟩) PB_ltw7).trans (PB.cell 1 rfl)⟩)
        go_region_held3 (fun w' => w'.cell? ⟨w6.heap.size, 0, none⟩ = some (.bool sp) ∧ w'.cell? ⟨w6.heap.size, 1, none⟩ = some (.slice Ap kp cp))
         (exact KS.out _ (by with_reducible (repeat (first | exact Below.refl _ _ | refine ua ?_ | refine ud ?_ | refine ut ?_ hb8 | refine ut ?_ hb9 | refine us ?_ (by omega)))))
         (first
          | (go_at_call 25; (with_reducible refine (htm _ (hR.below (by with_reducible (repeat (first | exact Below.refl _ _ | refine ua ?_ | refine ud ?_ | refine ut ?_ hb8 | refine ut ?_ hb9 | refine us ?_ (by omega))))) (hyx.below (by with_reducible (repeat (first | exact Below.refl _ _ | refine ua ?_ | refine ud ?_ | refine ut ?_ hb8 | refine ut ?_ hb9 | refine us ?_ (by omega)))))).mono ?_); rintro e8 w8 ⟨v8, rfl, h8, hb8⟩; have l8 := hb8.size; (try simp at l8); have TT8 : Below w7.heap.size w7 w8 := (by with_reducible (repeat (first | exact Below.refl _ _ | refine ua ?_ | refine ud ?_ | refine ut ?_ hb8 | refine ut ?_ hb9 | refine us ?_ (by omega)))); have ll8 := TT8.size; obtain ⟨A8, c8, rfl, -⟩ := h8.form)
          | (go_at_call 46; (with_reducible refine (hpl _ _ _ _ (h8.below (by with_reducible (repeat (first | exact Below.refl _ _ | refine ua ?_ | refine ud ?_ | refine ut ?_ hb8 | refine ut ?_ hb9 | refine us ?_ (by omega))))) (hC.below (by with_reducible (repeat (first | exact Below.refl _ _ | refine ua ?_ | refine ud ?_ | refine ut ?_ hb8 | refine ut ?_ hb9 | refine us ?_ (by omega))))) (hP.below (by with_reducible (repeat (first | exact Below.refl _ _ | refine ua ?_ | refine ud ?_ | refine ut ?_ hb8 | refine ut ?_ hb9 | refine us ?_ (by omega)))))).mono ?_); rintro e9 w9 ⟨g9, c9, rfl, hg9, h9, hb9⟩; have l9 := hb9.size; (try simp at l9); have TT9 : Below w7.heap.size w7 w9 := (by with_reducible (repeat (first | exact Below.refl _ _ | refine ua ?_ | refine ud ?_ | refine ut ?_ hb8 | refine ut ?_ hb9 | refine us ?_ (by omega)))); have ll9 := TT9.size; have hU9 : Below w7.heap.size w7 w9 := (by with_reducible (repeat (first | exact Below.refl _ _ | refine ua ?_ | refine ud ?_ | refine ut ?_ hb8 | refine ut ?_ hb9 | refine us ?_ (by omega)))); have Z9 := PB.below hU9; skip))
        go_wp2_with fail
        have zP : IntBx w9 w6.heap.size (E ^ j) := ⟨_, _, _, _, Z9, hP.below hU9⟩
        have zb := hbw.trans (hU9.mono hbw.size)
        have e2 : min (j + 1) (NA.length - 1) = j := by omega
        go_roundg k
        case rel => exact ⟨j + 1, some ⟨g9, 0, none⟩, c9, by unfold Hid; omega, by rw [HRK.out], by rw [hk0]; rfl, by rw [HRK.out]; exact h9, (fun b e => by injection e with e; injection e with e; omega), by rw [e2]; exact zP, zb⟩
        case measure => omega
       ·have hk1 : (0 : Int) < (k : Int) := by omega
        go_wp2_with fail
        have PB_ltw7 := PB.lt
        have KS := Lib.hid (show ∀ w', Below w7.heap.size w7 w' → (w'.cell? ⟨w6.heap.size, 0, none⟩ = some (.bool sp) ∧ w'.cell? ⟨w6.heap.size, 1, none⟩ = some (.slice Ap kp cp)) from fun w' hU => ⟨(hU.cell (p := ⟨w6.heap.size, 0, none⟩) PB_ltw7).trans (PB.cell 0 rfl), (hU.cell (p := ⟨w6.heap.size, 1, none⟩) PB_ltw7).trans (PB.cell 1 rfl)⟩)
        go_region_held3 (fun w' => w'.cell? ⟨w6.heap.size, 0, none⟩ = some (.bool sp) ∧ w'.cell? ⟨w6.heap.size, 1, none⟩ = some (.slice Ap kp cp))
         (exact KS.out _ (by with_reducible (repeat (first | exact Below.refl _ _ | refine ua ?_ | refine ud ?_ | refine ut ?_ hb8 | refine ut ?_ hb9 | refine us ?_ (by omega)))))
         (first
          | (go_at_call 25; (with_reducible refine (htm _ (hR.below (by with_reducible (repeat (first | exact Below.refl _ _ | refine ua ?_ | refine ud ?_ | refine ut ?_ hb8 | refine ut ?_ hb9 | refine us ?_ (by omega))))) (hyx.below (by with_reducible (repeat (first | exact Below.refl _ _ | refine ua ?_ | refine ud ?_ | refine ut ?_ hb8 | refine ut ?_ hb9 | refine us ?_ (by omega)))))).mono ?_); rintro e8 w8 ⟨v8, rfl, h8, hb8⟩; have l8 := hb8.size; (try simp at l8); have TT8 : Below w7.heap.size w7 w8 := (by with_reducible (repeat (first | exact Below.refl _ _ | refine ua ?_ | refine ud ?_ | refine ut ?_ hb8 | refine ut ?_ hb9 | refine us ?_ (by omega)))); have ll8 := TT8.size; obtain ⟨A8, c8, rfl, -⟩ := h8.form)
          | (go_at_call 46; (with_reducible refine (hpl _ _ _ _ (h8.below (by with_reducible (repeat (first | exact Below.refl _ _ | refine ua ?_ | refine ud ?_ | refine ut ?_ hb8 | refine ut ?_ hb9 | refine us ?_ (by omega))))) (hC.below (by with_reducible (repeat (first | exact Below.refl _ _ | refine ua ?_ | refine ud ?_ | refine ut ?_ hb8 | refine ut ?_ hb9 | refine us ?_ (by omega))))) (hP.below (by with_reducible (repeat (first | exact Below.refl _ _ | refine ua ?_ | refine ud ?_ | refine ut ?_ hb8 | refine ut ?_ hb9 | refine us ?_ (by omega)))))).mono ?_); rintro e9 w9 ⟨g9, c9, rfl, hg9, h9, hb9⟩; have l9 := hb9.size; (try simp at l9); have TT9 : Below w7.heap.size w7 w9 := (by with_reducible (repeat (first | exact Below.refl _ _ | refine ua ?_ | refine ud ?_ | refine ut ?_ hb8 | refine ut ?_ hb9 | refine us ?_ (by omega)))); have ll9 := TT9.size; have hU9 : Below w7.heap.size w7 w9 := (by with_reducible (repeat (first | exact Below.refl _ _ | refine ua ?_ | refine ud ?_ | refine ut ?_ hb8 | refine ut ?_ hb9 | refine us ?_ (by omega)))); have Z9 := PB.below hU9; skip))
        have hbw9 := hbw.trans (hU9.mono hbw.size)
        have Y9 := Y.below hbw9
        have Y_0 := Y9.cell 0 rfl
        have Y_1 := Y9.cell 1 rfl
        have Z_0 := Z9.cell 0 rfl
        have Z_1 := Z9.cell 1 rfl
        have hP9 := hP.below hU9
        have hE9 := hE.below hbw9
        go_wp2_with fail
        ((with_reducible refine (hmp _ hP9 hE9).mono ?_))
        rintro e10 w10 ⟨v10, rfl, h10, hb10⟩
        obtain ⟨s10, A10, k10, c10, rfl⟩ := h10.form
        have Z10 := Z9.below hb10
        replace Z_0 := Z10.cell 0 rfl
        replace Z_1 := Z10.cell 1 rfl
        have Z_f0 := Z10.free 0
        have Z_f1 := Z10.free 1
        have hgs := hb10.size
        go_wp2_with fail
        obtain ⟨zP, hst⟩ := IntBx.stored (w := w10) (b := w6.heap.size) ⟨_, _, _, _, Z10, hP9.below hb10⟩ h10
        have zR := (h9.below hb10).step hst (fun b e => by injection e with e; injection e with e; omega)
        have zb := below_step (hbw9.trans (hb10.mono hbw9.size)) hst (Nat.le_refl _)
        have e2 : min (j + 1) (NA.length - 1) = j + 1 := by omega
        go_roundg k
        case rel => exact ⟨j + 1, some ⟨g9, 0, none⟩, c9, by unfold Hid; omega, by rw [HRK.out], rfl, by rw [HRK.out]; exact zR, (fun b e => by injection e with e; injection e with e; omega), by rw [e2]; exact zP, zb⟩
        case measure => omega
    ·have hdg' : (64 : Int) < Pd := by omega
     have HNO := Lib.hid (HDN.out hdg)
     clear HDY HDN
     go_wp2_with (first
      | (go_at_call 43; (with_reducible refine (degree_any NA.length c1 A1 _ (by omega)).mono ?_); rintro e4 w4 ⟨rfl, rfl⟩)
      | (go_at_call 43; (with_reducible refine (degree_any NB.length c3 A3 _ (by omega)).mono ?_); rintro e4 w4 ⟨rfl, rfl⟩))
     go_ret2
     refine ⟨_, 2, [], rfl, StrsAt.nil _ _ _, hb.alloc hb.size _, (fun h => absurd HVV.out h), (fun _ _ h => absurd h HA.out), (fun _ _ _ _ => ⟨rfl, rfl⟩), (fun _ _ _ h => ?_)⟩
     rw [HNO.out] at h; cases h
structure QuoOf (x c Q : List Int) : Prop where
 trim : Trimmed Q
 ne : c ≠ []
 tc : Trimmed c
 id_ : ∀ i, cf x i = conv (cf Q) (cf c) i
inductive Sqf (B : Nat) : List Int → List Int → List (List Int) → Prop
 | done {p r : List Int} (h : p.length ≤ 1) : Sqf B p r []
 | step {p r c Qp Qr : List Int} {l : List (List Int)} (h : 1 < p.length) (hg : GcdTr B p r c) (hp : QuoOf p c Qp) (hr : QuoOf r c Qr) (t : Sqf B c Qr l) : Sqf B p r (Qp :: l)
structure GcdFit (K B : Nat) (xs ys : List Int) : Prop where
 tx : Trimmed xs
 ty : Trimmed ys
 kx : ∀ n ∈ xs, nl n.natAbs ≤ K
 ky : ∀ n ∈ ys, nl n.natAbs ≤ K
 b1 : xs.length < ys.length → (K + 1) * (ys.length - xs.length + 2) * 3 ^ xs.length ≤ B
 b2 : ¬ xs.length < ys.length → (K + 1) * (xs.length - ys.length + 2) * 3 ^ ys.length ≤ B
 lx : xs.length ≤ 1073741824
 ly : ys.length ≤ 1073741824
structure SqfInv (K B : Nat) (Inv : Nat → List Int → List Int → Prop) : Prop where
 fit : ∀ n p r, Inv n p r → GcdFit K B p r
 go : ∀ n p r c, Inv n p r → 1 < p.length → GcdTr B p r c → ∃ Qp Qr n', n' < n ∧ QuoOf p c Qp ∧ QuoOf r c Qr ∧ (∀ x ∈ c, nl x.natAbs ≤ K) ∧ (∀ x ∈ Qp, nl x.natAbs ≤ K) ∧ (∀ x ∈ Qr, nl x.natAbs ≤ K) ∧ c.length ≤ 1073741824 ∧ Inv n' c Qr
theorem gcd_fit {K B : Nat} {xs ys : List Int} (h : GcdFit K B xs ys) (vx vy : Value) (w : World) (hG : Glob w) (hx : WholeAt w vx xs) (hy : WholeAt w vy ys) (hK1 : 1 ≤ K) (hB2 : 5 * B + 8 ≤ LIM) :
  Calls Tryz.prog 32 #[vx, vy] w fun e w' => ∃ v' g, e = .returned v' ∧ WholeAt w' v' g ∧ GcdTr B xs ys g ∧ Below w.heap.size w w' :=
 gcd_whole xs ys vx vy w hG hx hy h.tx h.ty K B h.kx h.ky hK1 h.b1 h.b2 hB2 h.lx h.ly
def RetSqf (w : World) (B : Nat) (ns : List Int) (e : Ending) (w' : World) : Prop :=
 ∃ v g Q l, e = .returned v ∧ WsAt w' w.heap.size 46 v l ∧ GcdTr B (primL ns) (deriveL (primL ns)) g ∧ QuoOf (primL ns) g Q ∧ Sqf B Q g l ∧ Below w.heap.size w w'
set_option maxRecDepth 100000 in
theorem sqf_whole (ns : List Int) (v : Value) (w : World) (hG : Glob w) (hv : WholeAt w v ns) (ht : Trimmed ns) (K B : Nat) (hK : ∀ n ∈ ns, nl n.natAbs ≤ K) (hK1 : 1 ≤ K) (hK2 : 7 * K + 8 ≤ LIM) (hB2 : 5 * B + 8 ≤ LIM) (hl : ns.length ≤ 1073741824)
  (Inv : Nat → List Int → List Int → Prop) (hI : SqfInv K B Inv) (hfit : GcdFit K B (primL ns) (deriveL (primL ns)))
  (hst : ∀ g, GcdTr B (primL ns) (deriveL (primL ns)) g → ∃ Q n, QuoOf (primL ns) g Q ∧ (∀ x ∈ g, nl x.natAbs ≤ K) ∧ (∀ x ∈ Q, nl x.natAbs ≤ K) ∧ g.length ≤ 1073741824 ∧ n ≤ 1073741824 ∧ Inv n Q g) :
  Calls Tryz.prog 28 #[v] w (RetSqf w B ns) := by
 obtain ⟨A, c, rfl, hc⟩ := hv.form
 have hpr := primitive_whole ns _ w hG hv ht K hK (by omega) (by omega)
 have hpl := primL_len ns
 have hpk := primL_nl hK
 have htp := prim_trimmed ht
 unfold RetSqf
 generalize primL ns = p at *
 have hlp : p.length ≤ 1073741824 := by omega
 have hder := fun W v h => derive_whole p v W h K hpk (by unfold LIM at hK2 ⊢; omega) hlp
 clear hpl
 generalize deriveL p = d at *
 go_enter Tryz.func28, Tryz.ntmps28
 go_wp2_with fail
 ((with_reducible refine hpr.mono ?_))
 rintro e1 w1 ⟨v1, rfl, h1, hb⟩
 obtain ⟨A1, c1, rfl, hc1⟩ := h1.form
 clear hpr
 go_wp2_with fail
 ((with_reducible refine (hder _ _ h1).mono ?_))
 rintro e2 w2 ⟨v2, rfl, h2, hb2⟩
 obtain ⟨A2, c2, rfl, hc2⟩ := h2.form
 replace h1 := h1.below hb2
 replace hb := hb.trans (hb2.mono hb.size)
 clear hder
 go_wp2_with fail
 ((with_reducible refine (gcd_fit hfit _ _ _ (hG.below hb) h1 h2 hK1 hB2).mono ?_))
 rintro e3 w3 ⟨v3, g, rfl, h3, hgt, hb3⟩
 obtain ⟨A3, c3, rfl, hc3⟩ := h3.form
 replace h1 := h1.below hb3
 replace hb := hb.trans (hb3.mono hb.size)
 obtain ⟨Q, n, hQ, kg, kQ, lg, ln, hin⟩ := hst g hgt
 have HGT := Lib.hid hgt
 have HQ := Lib.hid hQ
 have hqw := fun W h1 h2 => quo_whole Q p g (.slice A1 p.length c1) (.slice A3 g.length c3) W h1 h2 hQ.ne hQ.trim htp hQ.tc hQ.id_ K kQ kg hK2 hlp lg
 clear hgt hQ hst hfit h2
 go_wp2_with fail
 ((with_reducible refine (hqw _ h1 h3).mono ?_))
 rintro e4 w4 ⟨v4, rfl, h4, hb4⟩
 obtain ⟨A4, c4, rfl, hc4⟩ := h4.form
 replace h3 := h3.below hb4
 replace hb := hb.trans (hb4.mono hb.size)
 clear hqw h1
 go_wp2_with fail
 go_loopg [4, 5, 6] n (fun k vr vp vf wr => ∃ r p Ar cr Ap cp ls, vr = .slice Ar r.length cr ∧ vp = .slice Ap p.length cp ∧ WholeAt wr (.slice Ar r.length cr) r ∧ WholeAt wr (.slice Ap p.length cp) p ∧ WsAt wr w.heap.size 46 vf ls ∧ Inv k p r ∧ k ≤ 1073741824 ∧ ls.length + k ≤ n ∧ Hid (∀ l, Sqf B p r l → Sqf B Q g (ls ++ l)) ∧ Below w.heap.size w wr)
 case atStart => exact ⟨g, Q, A3, c3, A4, c4, [], rfl, rfl, h3, h4, RowsAt.nil _ _ _ _, hin, ln, by simp, fun l h => h, hb⟩
 case round =>
  clear h3 h4 hb hin
  obtain ⟨r, p, Ar, cr, Ap, cp, ls, rfl, rfl, hr, hp, hf, hin, hk, hln, HS, hb⟩ := hrel
  generalize wr = wy at *
  have hF := hI.fit _ _ _ hin
  have hlp := hF.lx
  obtain ⟨Af, cf', rfl, hcf⟩ := hf.form
  have hdg := fun W => degree_any p.length cp Ap W (by omega)
  go_wp2_with fail
  ((with_reducible refine (hdg _).mono ?_))
  rintro e5 w5 ⟨rfl, rfl⟩
  by_cases h1 : p.length ≤ 1
  ·have q1 : ¬ (0 : Int) < (p.length : Int) - 1 := by omega
   have hE := HS.out [] (Sqf.done h1)
   rw [List.append_nil] at hE
   have HE := Lib.hid hE
   clear hE h1
   go_wp2_with fail
   go_ret
   exact ⟨_, g, Q, ls, rfl, hf, HGT.out, HQ.out, HE.out, hb⟩
  ·have q1 : (0 : Int) < (p.length : Int) - 1 := by omega
   have hp1 : 1 < p.length := by omega
   clear h1
   go_wp2_with fail
   ((with_reducible refine (gcd_fit hF _ _ _ (hG.below hb) hp hr hK1 hB2).mono ?_))
   rintro e6 w6 ⟨v6, c, rfl, h6, hgt, hb6⟩
   obtain ⟨A6, c6, rfl, hc6⟩ := h6.form
   obtain ⟨Qp, Qr, n', hn', hQp, hQr, kc, kQp, kQr, lc, hin'⟩ := hI.go _ _ _ c hin hp1 hgt
   have hE : ∀ l, Sqf B c Qr l → Sqf B Q g (ls ++ (Qp :: l)) := fun l t => HS.out _ (Sqf.step hp1 hgt hQp hQr t)
   have HE := Lib.hid hE
   have hq1 := fun W h1 h2 => quo_whole Qp p c (.slice Ap p.length cp) (.slice A6 c.length c6) W h1 h2 hQp.ne hQp.trim hF.tx hQp.tc hQp.id_ K kQp kc hK2 hlp lc
   have hq2 := fun W h1 h2 => quo_whole Qr r c (.slice Ar r.length cr) (.slice A6 c.length c6) W h1 h2 hQr.ne hQr.trim hF.ty hQr.tc hQr.id_ K kQr kc hK2 hF.ly lc
   replace hr := hr.below hb6
   replace hp := hp.below hb6
   replace hf := hf.below hb6
   replace hb := hb.trans (hb6.mono hb.size)
   clear hE hQp hQr hgt HS
   go_wp2_with fail
   ((with_reducible refine (hq1 _ hp h6).mono ?_))
   rintro e7 w7 ⟨v7, rfl, h7, hb7⟩
   obtain ⟨A7, c7, rfl, hc7⟩ := h7.form
   replace hr := hr.below hb7
   replace h6 := h6.below hb7
   replace hf := hf.below hb7
   replace hb := hb.trans (hb7.mono hb.size)
   clear hq1
   have hbX : Below w7.heap.size w7 (w7.alloc (.cells #[.slice A7 Qp.length c7] 46)) := (Below.refl _ _).alloc (Nat.le_refl _) _
   replace hr := hr.below hbX
   replace h6 := h6.below hbX
   replace h7 := h7.below hbX
   replace hf := hf.below hbX
   replace hb := hb.trans (hbX.mono hb.size)
   have X := Bx.new w7 [.slice A7 Qp.length c7] 46
   have X_0 := X.cell 0 rfl
   obtain ⟨vals, hpw, hvl, hvs⟩ := id hf
   go_wp2_with (at_builtin; refine wpList_push rfl rfl 46 24 Tryz.underlying57 infoWhole w.heap.size _ vals rfl hpw w7.heap.size (.slice A7 Qp.length c7) rfl X_0 ⟨_, _, _, rfl⟩ (by rw [hvl]; omega) (by rw [hvl]; unfold maxLen; omega) hb.size ?_; intro v8 w8 hp8 hk8 hg8)
   have zf := WsAt.push hpw hvl hvs h7 hp8 hk8 hg8
   have zr := hr.grown hpw hk8 hg8
   have z6 := h6.grown hpw hk8 hg8
   have zb := below_grown hb hg8 hpw (Nat.le_refl _)
   obtain ⟨A8, c8, rfl, hc8⟩ := zf.form
   have hll : (ls ++ [Qp]).length = ls.length + 1 := by rw [List.length_append]; rfl
   clear hp8 hk8 hg8 hpw hvl hvs hf h7 hr h6 hb X X_0 hbX
   generalize hls : ls ++ [Qp] = LS at *
   have HLS := Lib.hid hls
   have HLL := Lib.hid hll
   clear hls hll
   go_wp2_with fail
   ((with_reducible refine (hq2 _ zr z6).mono ?_))
   rintro e9 w9 ⟨v9, rfl, h9, hb9⟩
   obtain ⟨A9, c9, rfl, hc9⟩ := h9.form
   replace z6 := z6.below hb9
   replace zf := zf.below hb9
   replace zb := zb.trans (hb9.mono zb.size)
   go_wp2_with fail
   go_roundg n'
   case rel => exact ⟨Qr, c, A9, c9, A6, c6, LS, rfl, rfl, h9, z6, zf, hin', by omega, by have := HLL.out; omega, fun l t => by have := HE.out l t; rw [← HLS.out, List.append_assoc]; exact this, zb⟩
   case measure => omega
def monicT (ns : List Int) : List (List UInt8) := (ratios ns (cf ns (ns.length - 1))).map ratTxt
def RetSqT (w : World) (B : Nat) (ns : List Int) (e : Ending) (w' : World) : Prop :=
 ∃ v g Q l, e = .returned (.tuple #[v, .int .i64 0]) ∧ TsAt w' w.heap.size 22 v (l.map monicT) ∧ GcdTr B (primL ns) (deriveL (primL ns)) g ∧ QuoOf (primL ns) g Q ∧ Sqf B Q g l ∧ Below w.heap.size w w'
theorem WsAt.mono {w : World} {B B' : Nat} {v : Value} {ls : List (List Int)} (h : WsAt w B 46 v ls) (hB : B' ≤ B) : WsAt w B' 46 v ls := by
 obtain ⟨vals, h1, h2, h3⟩ := h
 refine ⟨vals, ?_, h2, h3⟩
 rcases h1 with h | ⟨g, cap, cur, hv, hb, h⟩
 ·exact .inl h
 ·exact .inr ⟨g, cap, cur, hv, Nat.le_trans hB hb, h⟩
theorem WsAt.grown {w w' : World} {B B' : Nat} {v u : Value} {vals : List Value} {ls : List (List Int)} (h : WsAt w B' 46 u ls) (hr : PRow w B 22 v vals) (hk : Keep w w') (hg : w.grownBy w' v.ownBlock) : WsAt w' B' 46 u ls := by
 have hne : ∀ (b : Nat) (cs : Array Value) (t : TypeId), w.heap[b]? = some (Obj.cells cs t (0, 0)) → t ≠ 22 → w'.heap[b]? = w.heap[b]? := fun b cs t hb ht => by
  refine hg.block b (Array.getElem?_eq_some_iff.1 hb).1 (fun e => ?_)
  rcases hr with ⟨rfl, _⟩ | ⟨g, cap, cur, rfl, _, hgg, _⟩
  ·simp [Value.ownBlock] at e
  ·simp [Value.ownBlock] at e
   subst e
   rw [hgg] at hb
   injection hb with hb
   injection hb with _ hb
   exact ht hb.symm
 obtain ⟨us, h1, h2, h3⟩ := h
 refine ⟨us, ?_, h2, fun i x l hx hl => ?_⟩
 ·rcases h1 with h | ⟨g, cap, cur, hv, hb, hgg, h⟩
  ·exact .inl h
  ·exact .inr ⟨g, cap, cur, hv, hb, (hne g cur 46 hgg (by decide)).trans hgg, h⟩
 ·obtain ⟨A, c, e, hc, h⟩ := h3 i x l hx hl
  refine ⟨A, c, e, hc, ?_⟩
  rcases h with h | ⟨b, rows, e', hr', hi⟩
  ·exact .inl h
  ·exact .inr ⟨b, rows, e', ⟨(hne b _ 49 hr'.1 (by decide)).trans hr'.1, hr'.2⟩, hi.keep hk⟩
set_option maxRecDepth 100000 in
theorem squarefree_poly (a : List (List UInt8)) (va : Value) (w : World) (hG : Glob w) (ha : StrsAt w va a) (hla : a.length ≤ 1073741824) (KA : Nat) (hca : a.length ≤ 65 → ∀ l ∈ a, l.length ≤ 1073741824) (hKa : a.length ≤ 65 → ∀ q ∈ ratsOf a, RL KA q) (hKA : KA ≤ 1024)
  (hv : vl a = true) (h0 : a ≠ []) (K B : Nat) (hK1 : 1 ≤ K) (hK2 : K ≤ 1073741824) (hB2 : 5 * B + 8 ≤ LIM) (Inv : Nat → List Int → List Int → Prop) (hI : SqfInv K B Inv)
  (hst : ∀ D, ComDen (ratsOf a) D (1 + 65 * KA) → (∀ n ∈ numsL (ratsOf a) D, nl n.natAbs ≤ K) ∧ GcdFit K B (primL (numsL (ratsOf a) D)) (deriveL (primL (numsL (ratsOf a) D))) ∧
   ∀ g, GcdTr B (primL (numsL (ratsOf a) D)) (deriveL (primL (numsL (ratsOf a) D))) g → ∃ Q n, QuoOf (primL (numsL (ratsOf a) D)) g Q ∧ (∀ x ∈ g, nl x.natAbs ≤ K) ∧ (∀ x ∈ Q, nl x.natAbs ≤ K) ∧ g.length ≤ 1073741824 ∧ n ≤ 1073741824 ∧ Inv n Q g)
  (hfac : ∀ D Q g l, ComDen (ratsOf a) D (1 + 65 * KA) → GcdTr B (primL (numsL (ratsOf a) D)) (deriveL (primL (numsL (ratsOf a) D))) g → QuoOf (primL (numsL (ratsOf a) D)) g Q → Sqf B Q g l → l.length ≤ 1073741824 ∧ ∀ f ∈ l, f ≠ [] ∧ f.length ≤ 1073741824 ∧ ∀ n ∈ f, nl n.natAbs ≤ K) :
  Calls Tryz.prog 10 #[va] w fun e w' => ∃ D, ComDen (ratsOf a) D (1 + 65 * KA) ∧ RetSqT w B (numsL (ratsOf a) D) e w' := by
 obtain ⟨A, c, rfl, hc⟩ := ha.form
 go_enter Tryz.func10, Tryz.ntmps10
 go_wp2_with fail
 ((with_reducible refine (uniRead_any a _ _ hG ha hla hca KA (1 + 65 * KA) hKa (Nat.le_refl _) (by unfold LIM; omega)).mono ?_))
 rintro e1 w1 ⟨v1, vd1, xs, D, rfl, hx, hD, hvx, hb⟩
 obtain ⟨A1, c1, rfl, hc1⟩ := hx.form
 obtain ⟨s1, B1, k1, d1, rfl⟩ := hD.form
 obtain ⟨rfl, hcx⟩ := hvx hv
 obtain ⟨p1, -, t1⟩ := vl_parts hv
 obtain ⟨kn, hfit, hgo⟩ := hst D hcx
 have hfc := fun Q g l => hfac D Q g l hcx
 have htx := nums_trimmed hcx.pos hcx.dvd t1
 have lx0 : (numsL (ratsOf a) D).length = a.length := by rw [nums_len]; unfold ratsOf; rw [List.length_map]
 have lx : (numsL (ratsOf a) D).length ≤ 65 := by rw [lx0]; exact p1
 have ln : (numsL (ratsOf a) D).length ≠ 0 := by rw [lx0]; exact fun e => h0 (List.eq_nil_of_length_eq_zero e)
 have q0 : (((numsL (ratsOf a) D).length : Int) == 0) = false := by rw [beq_eq_false_iff_ne]; omega
 rw [hv]
 have HCX := Lib.hid hcx
 clear hst hfac hvx hcx lx0 t1 p1 ha hKa hca
 have hsq := fun W h => fun hb : Below w.heap.size w W => sqf_whole (numsL (ratsOf a) D) (.slice A1 (numsL (ratsOf a) D).length c1) W (hG.below hb) h htx K B kn hK1 (by unfold LIM; omega) hB2 (by omega) Inv hI hfit hgo
 unfold RetSqf at hsq
 go_wp2_with fail
 have hbX : Below w1.heap.size w1 (w1.alloc (.cells #[.bool s1, .slice B1 k1 d1] 49)) := (Below.refl _ _).alloc (Nat.le_refl _) _
 replace hx := hx.below hbX
 replace hb := hb.trans (hbX.mono hb.size)
 clear hbX
 generalize w1.alloc (.cells #[.bool s1, .slice B1 k1 d1] 49) = w2 at *
 ((with_reducible refine (hsq _ hx hb).mono ?_))
 rintro e3 w3 ⟨v3, g, Q, l, rfl, h3, hgt, hQ, hS, hb3⟩
 obtain ⟨A3, c3, rfl, hc3⟩ := h3.form
 obtain ⟨ll, hll⟩ := hfc Q g l hgt hQ hS
 have HH := Lib.hid (And.intro hgt (And.intro hQ hS))
 replace hb := hb.trans (hb3.mono hb.size)
 clear hgt hQ hS hfc hsq hgo hfit
 go_wp2_with fail
 go_loopg [7, 24] l.length (fun k vf i wr => ∃ j, Hid (j + k = l.length) ∧ i = .int .i64 j ∧ WsAt wr w2.heap.size 46 (.slice A3 l.length c3) l ∧ TsAt wr w.heap.size 22 vf ((l.take j).map monicT) ∧ Below w.heap.size w wr)
 case atStart => exact ⟨0, by unfold Hid; omega, rfl, h3, RowsAt.nil _ _ _ _, hb⟩
 case round =>
  clear h3 hb
  obtain ⟨j, HJ, rfl, h3, hf, hb⟩ := hrel
  generalize wr = wy at *
  have hj0 : (0 : Int) ≤ (j : Int) := by omega
  obtain ⟨Af, cf', rfl, hcf⟩ := hf.form
  cases gk with
  | zero =>
   have hj : j = l.length := HJ.out
   subst hj
   rw [List.take_length] at hf
   go_wp2_with fail
   refine bodyPost_ret (v := .tuple #[.slice Af (l.map monicT).length cf', .int .i64 0]) (by simp [results, Tryz.results10, go_sem]) rfl ⟨D, HCX.out, _, g, Q, l, rfl, hf, HH.out.1, HH.out.2.1, HH.out.2.2, hb⟩
  | succ k =>
   have hjl : j < l.length := by have := HJ.out; omega
   have hj1 : (j : Int) < (l.length : Int) := by omega
   obtain ⟨f, hfj⟩ : ∃ f, l[j]? = some f := ⟨_, List.getElem?_eq_getElem hjl⟩
   obtain ⟨b, u, rfl, hbl, hu, hfu⟩ := h3.at_ hfj
   obtain ⟨Au, cu, rfl, hcu⟩ := hfu.form
   obtain ⟨f0, fl, fk⟩ := hll f (List.mem_of_getElem? hfj)
   have htk : (l.take (j + 1)).map monicT = (l.take j).map monicT ++ [monicT f] := by
    rw [List.take_add_one, hfj, List.map_append]; rfl
   have HTK := Lib.hid htk
   have hlt : ((l.take j).map monicT).length ≤ 1073741824 := by rw [List.length_map, List.length_take]; omega
   clear htk hfj
   generalize (l.take j).map monicT = TS at *
   go_wp2_with fail
   ((with_reducible refine (monic_whole f _ _ (hG.below hb) hfu f0 K fk hK1 hK2 fl).mono ?_))
   rintro e5 w5 ⟨v5, rfl, h5, hb5⟩
   obtain ⟨MT, HMT⟩ : ∃ MT, Hid (monicT f = MT) := ⟨_, rfl⟩
   have h5' : StrsAt w5 v5 MT := by rw [← HMT.out]; exact h5
   clear h5
   rw [HMT.out] at HTK
   obtain ⟨A5, c5, rfl, hc5⟩ := h5'.form
   have hbX : Below w5.heap.size w5 (w5.alloc (.cells #[.slice A5 MT.length c5] 22)) := (Below.refl _ _).alloc (Nat.le_refl _) _
   replace h3 := (h3.below hb5).below hbX
   replace hf := (hf.below hb5).below hbX
   replace h5' := h5'.below hbX
   replace hb := hb.trans (hb5.mono hb.size)
   replace hb := hb.trans (hbX.mono hb.size)
   have X := Bx.new w5 [.slice A5 MT.length c5] 22
   have X_0 := X.cell 0 rfl
   obtain ⟨vals, hpw, hvl, hvs⟩ := id hf
   go_wp2_with (at_builtin; refine wpList_push rfl rfl 22 24 Tryz.underlying28 infoStrs w.heap.size _ vals rfl hpw w5.heap.size (.slice A5 MT.length c5) rfl X_0 ⟨_, _, _, rfl⟩ (by rw [hvl]; omega) (by rw [hvl]; unfold maxLen; omega) hb.size ?_; intro v8 w8 hp8 hk8 hg8)
   have zf := TsAt.push hpw hvl hvs h5' hp8 hg8
   have z3 := WsAt.grown h3 hpw hk8 hg8
   have zb := below_grown hb hg8 hpw (Nat.le_refl _)
   rw [← HTK.out] at zf
   go_roundg k
   case rel => exact ⟨j + 1, by have := HJ.out; unfold Hid; omega, by go_num, z3, zf, zb⟩
   case measure => omega
theorem rd_m1 : readL [45, 49] = some (-1) := by decide
theorem rd_0 : readL [48] = some 0 := by decide
theorem rd_1 : readL [49] = some 1 := by decide
theorem rd_2 : readL [50] = some 2 := by decide
theorem rd_m2 : readL [45, 50] = some (-2) := by decide
theorem rd_m3 : readL [45, 51] = some (-3) := by decide
theorem rd_m14 : readL [45, 49, 47, 52] = some (mkRat (-1) 4) := by
 unfold readL
 rw [show splitL [45, 49, 47, 52] = some (true, [49], [52]) by decide]
 simp only []
 rw [if_neg (by decide), if_pos (by decide)]
 rfl
theorem rd_12 : readL [49, 47, 50] = some (mkRat 1 2) := by
 unfold readL
 rw [show splitL [49, 47, 50] = some (false, [49], [50]) by decide]
 simp only []
 rw [if_neg (by decide), if_pos (by decide)]
 rfl
theorem rd_14 : readL [49, 47, 52] = some (mkRat 1 4) := by
 unfold readL
 rw [show splitL [49, 47, 52] = some (false, [49], [52]) by decide]
 simp only []
 rw [if_neg (by decide), if_pos (by decide)]
 rfl
theorem rat_m14 : mkRat (-1) 4 = -1 / 4 := by rw [Rat.mkRat_eq_div]; rfl
theorem rat_12 : mkRat 1 2 = 1 / 2 := by rw [Rat.mkRat_eq_div]; rfl
theorem rat_14 : mkRat 1 4 = 1 / 4 := by rw [Rat.mkRat_eq_div]; rfl
theorem rats_1 : ratsOf [[48], [48], [49]] = [0, 0, 1] := by unfold ratsOf; simp only [List.map, rd_0, rd_1]; rfl
theorem rats_2 : ratsOf [[49], [50]] = [1, 2] := by unfold ratsOf; simp only [List.map, rd_1, rd_2]; rfl
theorem rats_3 : ratsOf [[45, 49], [49]] = [-1, 1] := by unfold ratsOf; simp only [List.map, rd_m1, rd_1]; rfl
theorem rats_4 : ratsOf [[45, 51], [49]] = [-3, 1] := by unfold ratsOf; simp only [List.map, rd_m3, rd_1]; rfl
theorem rats_5 : ratsOf [[48], [48], [45, 50], [50]] = [0, 0, -2, 2] := by unfold ratsOf; simp only [List.map, rd_0, rd_m2, rd_2]; rfl
theorem vl_by {ls : List (List UInt8)} {qs : List Rat} (h : ratsOf ls = qs) (h1 : ls.length ≤ 65) (h2 : ls.all rd = true) (h3 : qs.getLast? ≠ some 0) : vl ls = true := by
 unfold vl
 rw [decide_eq_true_iff, h]
 exact ⟨h1, h2, h3⟩
theorem vl_1 : vl [[48], [48], [49]] = true := vl_by rats_1 (by decide) (by simp [rd, rd_0, rd_1]) (by decide)
theorem vl_2 : vl [[49], [50]] = true := vl_by rats_2 (by decide) (by simp [rd, rd_1, rd_2]) (by decide)
theorem vl_3 : vl [[45, 49], [49]] = true := vl_by rats_3 (by decide) (by simp [rd, rd_m1, rd_1]) (by decide)
theorem vl_4 : vl [[45, 51], [49]] = true := vl_by rats_4 (by decide) (by simp [rd, rd_m3, rd_1]) (by decide)
theorem vl_5 : vl [[48], [48], [45, 50], [50]] = true := vl_by rats_5 (by decide) (by simp [rd, rd_0, rd_m2, rd_2]) (by decide)
theorem RL_int {n : Int} (h : n.natAbs < BN) : RL 1 (n : Rat) := ⟨nl_le (by rw [Nat.pow_one]; exact h), nl_le (by rw [Nat.pow_one]; show 1 < BN; decide)⟩
theorem RL_all {qs : List Rat} (h : ∀ q ∈ qs, ∃ n : Int, q = n ∧ n.natAbs < BN) : ∀ q ∈ qs, RL 1 q := fun q hq => by
 obtain ⟨n, rfl, hn⟩ := h q hq
 exact RL_int hn
theorem RL_1 : ∀ q ∈ ([0, 0, 1] : List Rat), RL 1 q := RL_all (fun q hq => by
 simp at hq
 rcases hq with rfl | rfl
 ·exact ⟨0, rfl, by decide⟩
 ·exact ⟨1, rfl, by decide⟩)
theorem RL_2 : ∀ q ∈ ([1, 2] : List Rat), RL 1 q := RL_all (fun q hq => by
 simp at hq
 rcases hq with rfl | rfl
 ·exact ⟨1, rfl, by decide⟩
 ·exact ⟨2, rfl, by decide⟩)
theorem RL_3 : ∀ q ∈ ([-1, 1] : List Rat), RL 1 q := RL_all (fun q hq => by
 simp at hq
 rcases hq with rfl | rfl
 ·exact ⟨-1, rfl, by decide⟩
 ·exact ⟨1, rfl, by decide⟩)
theorem RL_4 : ∀ q ∈ ([-3, 1] : List Rat), RL 1 q := RL_all (fun q hq => by
 simp at hq
 rcases hq with rfl | rfl
 ·exact ⟨-3, rfl, by decide⟩
 ·exact ⟨1, rfl, by decide⟩)
theorem RL_5 : ∀ q ∈ ([0, 0, -2, 2] : List Rat), RL 1 q := RL_all (fun q hq => by
 simp at hq
 rcases hq with rfl | rfl | rfl
 ·exact ⟨0, rfl, by decide⟩
 ·exact ⟨-2, rfl, by decide⟩
 ·exact ⟨2, rfl, by decide⟩)
theorem div_ex1 {Q R : List Rat} {K : Nat} (h : DivRes [0, 0, 1] [1, 2] Q R K) : Q = [mkRat (-1) 4, mkRat 1 2] ∧ R = [mkRat 1 4] := by
 have hq := h.q_len
 have hr := h.r_lt
 have z : ∀ i, 3 ≤ i → cf Q i = 0 := fun i hi => cf_top (by simp at hq; omega)
 have zr : ∀ i, 1 ≤ i → cf R i = 0 := fun i hi => cf_top (by simp at hr; omega)
 have h3 := h.id_ 3
 have h2 := h.id_ 2
 have h1 := h.id_ 1
 have h0 := h.id_ 0
 have b0 : cf ([1, 2] : List Rat) 0 = 1 := rfl
 have b1 : cf ([1, 2] : List Rat) 1 = 2 := rfl
 have b2 : cf ([1, 2] : List Rat) 2 = 0 := rfl
 have b3 : cf ([1, 2] : List Rat) 3 = 0 := rfl
 have a0 : cf ([0, 0, 1] : List Rat) 0 = 0 := rfl
 have a1 : cf ([0, 0, 1] : List Rat) 1 = 0 := rfl
 have a2 : cf ([0, 0, 1] : List Rat) 2 = 1 := rfl
 have a3 : cf ([0, 0, 1] : List Rat) 3 = 0 := rfl
 simp only [conv, sumTo, Nat.sub_zero, Nat.sub_self, Nat.reduceSub, Nat.reduceAdd, b0, b1, b2, b3, a0, a1, a2, a3, z 3 (by omega), zr 3 (by omega), zr 2 (by omega), zr 1 (by omega)] at h3 h2 h1 h0
 rw [rat_m14, rat_12, rat_14]
 have q2 : cf Q 2 = 0 := by grind
 have q1 : cf Q 1 = 1 / 2 := by grind
 have q0 : cf Q 0 = -1 / 4 := by grind
 have r0 : cf R 0 = 1 / 4 := by grind
 refine ⟨trim_ext h.q_trim (fun a ha => ?_) (fun i => ?_), trim_ext h.r_trim (fun a ha => ?_) (fun i => ?_)⟩
 ·simp at ha; rw [← ha]; grind
 ·match i with
  | 0 => exact q0
  | 1 => exact q1
  | 2 => exact q2
  | i + 3 => rw [z (i + 3) (by omega), cf_top (by simp)]
 ·simp at ha; rw [← ha]; grind
 ·match i with
  | 0 => exact r0
  | i + 1 => rw [zr (i + 1) (by omega), cf_top (by simp)]
theorem nums_ex (D : Int) (x : Int) : numsL [(x : Rat), 1] D = [x * D, D] := by
 unfold numsL
 show [x * D.tdiv (1 : Int), 1 * D.tdiv (1 : Int)] = _
 rw [Int.tdiv_one, Int.one_mul]
theorem nums_ex5 (D : Int) : numsL [0, 0, -2, 2] D = [0, 0, -2 * D, 2 * D] := by
 unfold numsL
 show [0 * D.tdiv (1 : Int), 0 * D.tdiv (1 : Int), -2 * D.tdiv (1 : Int), 2 * D.tdiv (1 : Int)] = _
 rw [Int.tdiv_one, Int.zero_mul]
theorem prim_ex5' {D : Int} (hD : 0 < D) : primL [0, 0, -2 * D, 2 * D] = [0, 0, -1, 1] := by
 have hg : (gcdAll [0, 0, -2 * D, 2 * D] : Int) = 2 * D := by
  rw [gcdAll_cons, gcdAll_cons, gcdAll_cons, gcdAll_cons, gcdAll_nil, Nat.gcd_zero_left, Int.natAbs_mul, Int.natAbs_mul]
  show ((Nat.gcd (Nat.gcd (Nat.gcd (2 * D.natAbs) (2 * D.natAbs)) 0) 0 : Nat) : Int) = _
  rw [Nat.gcd_self, Nat.gcd_zero_right, Nat.gcd_zero_right]
  omega
 unfold primL divL
 rw [hg]
 show [(0 : Int).tdiv (2 * D), (0 : Int).tdiv (2 * D), (-2 * D).tdiv (2 * D), (2 * D).tdiv (2 * D)] = _
 rw [Int.zero_tdiv, Int.tdiv_self (by omega), show -2 * D = -(2 * D) by omega, Int.neg_tdiv, Int.tdiv_self (by omega)]
def InvEx (n : Nat) (p r : List Int) : Prop := (n = 2 ∧ p = [0, 1, -1] ∧ r = [0, -1]) ∨ (n = 1 ∧ p = [0, -1] ∧ r = [1]) ∨ (n = 0 ∧ p = [1] ∧ r = [1])
theorem small_all {l : List Int} {K : Nat} (hK : 1 ≤ K) (h : l.all (fun n => decide (n.natAbs < BN)) = true) : ∀ n ∈ l, nl n.natAbs ≤ K := fun n hn => by
 have := List.all_eq_true.1 h n hn
 exact Nat.le_trans (nl_le (by rw [Nat.pow_one]; exact of_decide_eq_true this)) hK
theorem invEx : SqfInv 100 1000000 InvEx := by
 refine ⟨fun n p r h => ?_, fun n p r c h hp hg => ?_⟩
 ·rcases h with ⟨rfl, rfl, rfl⟩ | ⟨rfl, rfl, rfl⟩ | ⟨rfl, rfl, rfl⟩
  all_goals exact ⟨trimmed_by rfl, trimmed_by rfl, small_all (by decide) (by decide), small_all (by decide) (by decide), by decide, by decide, by decide, by decide⟩
 ·rcases h with ⟨rfl, rfl, rfl⟩ | ⟨rfl, rfl, rfl⟩ | ⟨rfl, rfl, rfl⟩
  ·rw [gcd_ex2 hg]
   exact ⟨[-1, 1], [1], 1, by decide, ⟨trimmed_by rfl, by decide, trimmed_by rfl, quo_by (n := 6) (by decide) (by decide) (by decide)⟩, ⟨trimmed_by rfl, by decide, trimmed_by rfl, quo_by (n := 6) (by decide) (by decide) (by decide)⟩, small_all (by decide) (by decide), small_all (by decide) (by decide), small_all (by decide) (by decide), by decide, .inr (.inl ⟨rfl, rfl, rfl⟩)⟩
  ·rw [gcd_ex3 hg]
   exact ⟨[0, -1], [1], 0, by decide, ⟨trimmed_by rfl, by decide, trimmed_by rfl, quo_by (n := 6) (by decide) (by decide) (by decide)⟩, ⟨trimmed_by rfl, by decide, trimmed_by rfl, quo_by (n := 6) (by decide) (by decide) (by decide)⟩, small_all (by decide) (by decide), small_all (by decide) (by decide), small_all (by decide) (by decide), by decide, .inr (.inr ⟨rfl, rfl, rfl⟩)⟩
  ·exact absurd hp (by decide)
theorem quo_unique {x c Q Q' : List Int} (h : QuoOf x c Q) (h' : QuoOf x c Q') : Q = Q' := by
 refine trim_ext h.trim h'.trim (fun i => ?_)
 have hz := conv_none (d := fun j => cf Q j + (-1) * cf Q' j) (L := Q.length + Q'.length) h.ne h.tc (fun i hi => by
  show cf Q i + (-1) * cf Q' i = 0
  rw [cf_top (by omega), cf_top (by omega)]; simp) (fun i _ => by
  rw [conv_add_left, conv_mul_left, ← h.id_, ← h'.id_]; omega) i
 have hz' : cf Q i + (-1) * cf Q' i = 0 := hz
 omega
theorem sqf_ex {Q g : List Int} {l : List (List Int)} (hg : GcdTr 1000000 [0, 0, -1, 1] [0, -2, 3] g) (hQ : QuoOf [0, 0, -1, 1] g Q) (h : Sqf 1000000 Q g l) : l = [[-1, 1], [0, -1]] := by
 have e1 := gcd_ex1 hg
 subst e1
 have e2 : Q = [0, 1, -1] := quo_unique hQ ⟨trimmed_by rfl, by decide, trimmed_by rfl, quo_by (n := 6) (by decide) (by decide) (by decide)⟩
 subst e2
 cases h with
 | done h => simp at h
 | step h1 hg1 hp1 hr1 t1 =>
  have e3 := gcd_ex2 hg1
  subst e3
  have e4 := quo_unique hp1 (Q' := [-1, 1]) ⟨trimmed_by rfl, by decide, trimmed_by rfl, quo_by (n := 6) (by decide) (by decide) (by decide)⟩
  have e5 := quo_unique hr1 (Q' := [1]) ⟨trimmed_by rfl, by decide, trimmed_by rfl, quo_by (n := 6) (by decide) (by decide) (by decide)⟩
  subst e4; subst e5
  cases t1 with
  | done h => simp at h
  | step h2 hg2 hp2 hr2 t2 =>
   have e6 := gcd_ex3 hg2
   subst e6
   have e7 := quo_unique hp2 (Q' := [0, -1]) ⟨trimmed_by rfl, by decide, trimmed_by rfl, quo_by (n := 6) (by decide) (by decide) (by decide)⟩
   have e8 := quo_unique hr2 (Q' := [1]) ⟨trimmed_by rfl, by decide, trimmed_by rfl, quo_by (n := 6) (by decide) (by decide) (by decide)⟩
   subst e7; subst e8
   cases t2 with
   | done => rfl
   | step h _ _ _ _ => simp at h
theorem monic_ex : monicT [0, -1] = [[48], [49]] := by
 unfold monicT ratios
 show [ratTxt (((0 : Int) : Rat) / ((-1 : Int) : Rat)), ratTxt (((-1 : Int) : Rat) / ((-1 : Int) : Rat))] = _
 rw [show ((0 : Int) : Rat) / ((-1 : Int) : Rat) = 0 by grind, show ((-1 : Int) : Rat) / ((-1 : Int) : Rat) = 1 by grind, txt_read rd_0, txt_read rd_1]
theorem ratios_len (ns : List Int) (d : Int) : (ratios ns d).length = ns.length := List.length_map _
theorem vl_bound {n : Nat} {t : List UInt8} (h : t.length ≤ 4) : ∀ l ∈ monoT n t, l.length ≤ 18 := fun l hl => by
 rcases monoT_mem hl with rfl | rfl
 ·decide
 ·omega
theorem mul_mono (n m : Nat) (t : List UInt8) (q : Rat) (va vb : Value) (w : World) (hG : Glob w) (hn : n ≤ 64) (hm : m ≤ 64) (ht : t.length ≤ 4) (hr : readL t = some q) (h0 : q ≠ 0) (ha : StrsAt w va (monoT n [49])) (hb : StrsAt w vb (monoT m t)) :
  Calls Tryz.prog 9 #[va, vb] w fun e w' => ∃ v T k, e = .returned (.tuple #[v, .int .i64 k]) ∧ StrsAt w' v T ∧ (n + m ≤ 64 ∧ k = 0 ∧ T.length = n + m + 1 ∧ T[n + m]? = some t ∨ ¬ n + m ≤ 64 ∧ k = 2) ∧ Below w.heap.size w w' := by
 have v1 := vl_monoT (n := n) hn rd_1 (by decide)
 have v2 := vl_monoT (n := m) hm hr h0
 have b1 := vl_bound (n := n) (t := [49]) (by decide)
 have b2 := vl_bound (n := m) ht
 refine (mul_poly (monoT n [49]) (monoT m t) va vb w hG ha hb (by rw [monoT_len]; omega) (by rw [monoT_len]; omega) 1 (fun _ l hl => Nat.le_trans (b1 l hl) (by decide)) (fun _ l hl => Nat.le_trans (b2 l hl) (by decide)) (fun _ => RL_short b1) (fun _ => RL_short b2) (by decide)).mono ?_
 intro e w' h
 unfold RetMul at h
 rw [if_pos ⟨v1, v2⟩, rats_monoT rd_1, rats_monoT hr, times_mono, Rat.one_mul, trim_self (mono_trim h0)] at h
 obtain ⟨v, he, hs, hB⟩ := h
 rw [mono_len] at he hs
 by_cases h64 : n + m ≤ 64
 ·rw [if_pos (by omega)] at he hs
  refine ⟨v, _, 0, he, hs, .inl ⟨h64, rfl, by rw [List.length_map, mono_len], ?_⟩, hB⟩
  rw [List.getElem?_map, show (mono (n + m) q)[n + m]? = some q from by unfold mono; rw [List.getElem?_append_right (by rw [List.length_replicate]; exact Nat.le_refl _), List.length_replicate, Nat.sub_self]; rfl]
  exact congrArg some (txt_read hr)
 ·rw [if_neg (by omega)] at he hs
  exact ⟨v, _, 2, he, hs, .inr ⟨h64, rfl⟩, hB⟩
theorem deg_mono (n m : Nat) : degOK (m + 1) (n + 1) = decide (n * m ≤ 64) := by
 unfold degOK
 have e : ((m + 1 : Nat) : Int) - 1 = (m : Int) := by omega
 have e2 : ((n + 1 : Nat) : Int) - 1 = (n : Int) := by omega
 rw [e, e2, ← Int.natCast_mul, Nat.mul_comm m n]
 refine decide_eq_decide.2 ⟨fun h => by omega, fun h => by omega⟩
theorem cmp_mono (n m : Nat) (t : List UInt8) (q : Rat) (va vb : Value) (w : World) (hG : Glob w) (hn : n ≤ 64) (hm : m ≤ 64) (ht : t.length ≤ 4) (hr : readL t = some q) (h0 : q ≠ 0) (ha : StrsAt w va (monoT n [49])) (hb : StrsAt w vb (monoT m t)) :
  Calls Tryz.prog 19 #[vb, va] w fun e w' => ∃ v T k, e = .returned (.tuple #[v, .int .i64 k]) ∧ StrsAt w' v T ∧ (n * m ≤ 64 ∧ k = 0 ∧ T.length = n * m + 1 ∨ ¬ n * m ≤ 64 ∧ k = 2) ∧ Below w.heap.size w w' := by
 have v1 := vl_monoT (n := n) hn rd_1 (by decide)
 have v2 := vl_monoT (n := m) hm hr h0
 have b1 := vl_bound (n := n) (t := [49]) (by decide)
 have b2 := vl_bound (n := m) ht
 have hne : monoT m t ≠ [] := fun e => by have := monoT_len m t; rw [e] at this; simp at this
 refine (compose_poly (monoT m t) (monoT n [49]) vb va w hG hb ha (by rw [monoT_len]; omega) (by rw [monoT_len]; omega) 1 (fun _ l hl => Nat.le_trans (b2 l hl) (by decide)) (fun _ l hl => Nat.le_trans (b1 l hl) (by decide)) (fun _ => RL_short b2) (fun _ => RL_short b1) (by decide)).mono ?_
 rintro e w' ⟨v, c, T, he, hs, hB, -, -, h1, h2⟩
 rw [monoT_len, monoT_len, deg_mono] at h1 h2
 by_cases h64 : n * m ≤ 64
 ·obtain ⟨rfl, D, E, hD, hE, rfl⟩ := h2 v2 v1 hne (decide_eq_true h64)
  refine ⟨v, _, 0, he, hs, .inl ⟨h64, rfl, ?_⟩, hB⟩
  clear hs
  rw [rats_monoT hr] at hD ⊢
  rw [rats_monoT rd_1] at hE ⊢
  rw [nums_mono, nums_mono]
  obtain ⟨M, -, hM⟩ := horn_mono (p := n) (q := m) (E := E) (nums_mono_ne h0 hD.pos (hD.dvd q (by unfold mono; simp))) (fun e => by have := hE.pos; omega) (nums_mono_ne (q := 1) (by decide) hE.pos (hE.dvd 1 (by unfold mono; simp))) m (Nat.le_refl _)
  rw [List.length_map, ratios_len, hM, mono_len]
 ·obtain ⟨rfl, -⟩ := h1 v2 v1 hne (decide_eq_false h64)
  exact ⟨v, T, 2, he, hs, .inr ⟨h64, rfl⟩, hB⟩
set_option maxRecDepth 100000 in
theorem resultant_poly_ex (va vb : Value) (w : World) (hG : Glob w) (ha : StrsAt w va [[45, 49], [49]]) (hb' : StrsAt w vb [[45, 51], [49]]) :
  Calls Tryz.prog 22 #[va, vb] w fun e w' => e = .returned (.tuple #[.string ⟨#[45, 50]⟩, .int .i64 0]) ∧ Below w.heap.size w w' := by
 obtain ⟨A, c, rfl, hc⟩ := ha.form
 obtain ⟨A', c', rfl, hc'⟩ := hb'.form
 replace ha : StrsAt w (.slice A 2 c) [[45, 49], [49]] := ha
 replace hb' : StrsAt w (.slice A' 2 c') [[45, 51], [49]] := hb'
 go_enter Tryz.func22, Tryz.ntmps22
 go_wp2_with fail
 ((with_reducible refine (uniRead_any [[45, 49], [49]] _ _ hG ha (by decide) (fun _ => by decide) 1 66 (fun _ => by rw [rats_3]; exact RL_3) (by decide) (by unfold LIM; decide)).mono ?_))
 rintro e1 w1 ⟨v1, vd1, xs, D, rfl, hx, hD, hvx, hb⟩
 obtain ⟨rfl, hcx⟩ := hvx vl_3
 rw [rats_3] at hx hcx
 have ex : numsL [-1, 1] D = [-1 * D, D] := nums_ex D (-1)
 rw [ex] at hx
 obtain ⟨A1, c1, rfl, hc1⟩ := hx.form
 replace hx : WholeAt w1 (.slice A1 2 c1) [-1 * D, D] := hx
 obtain ⟨s1, B1, k1, d1, rfl⟩ := hD.form
 rw [vl_3]
 clear hvx ex
 go_wp2_with fail
 have hbX : Below w1.heap.size w1 (w1.alloc (.cells #[.bool s1, .slice B1 k1 d1] 49)) := (Below.refl _ _).alloc (Nat.le_refl _) _
 have X := Bx.new w1 [.bool s1, .slice B1 k1 d1] 49
 replace hx := hx.below hbX
 replace hD := hD.below hbX
 replace hb := hb.trans (hbX.mono hb.size)
 clear hbX
 generalize w1.heap.size = gx at *
 generalize w1.alloc (.cells #[.bool s1, .slice B1 k1 d1] 49) = w2 at *
 ((with_reducible refine (uniRead_any [[45, 51], [49]] _ _ (hG.below hb) (hb'.below hb) (by decide) (fun _ => by decide) 1 66 (fun _ => by rw [rats_4]; exact RL_4) (by decide) (by unfold LIM; decide)).mono ?_))
 rintro e3 w3 ⟨v3, vd3, ys, E, rfl, hy, hE, hvy, hb3⟩
 obtain ⟨rfl, hcy⟩ := hvy vl_4
 rw [rats_4] at hy hcy
 have ey : numsL [-3, 1] E = [-3 * E, E] := nums_ex E (-3)
 rw [ey] at hy
 obtain ⟨A3, c3, rfl, hc3⟩ := hy.form
 replace hy : WholeAt w3 (.slice A3 2 c3) [-3 * E, E] := hy
 obtain ⟨s3, B3, k3, d3, rfl⟩ := hE.form
 rw [vl_4]
 clear hvy ey
 replace X := X.below hb3
 replace hx := hx.below hb3
 replace hD := hD.below hb3
 replace hb := hb.trans (hb3.mono hb.size)
 have X_c : ∀ o0 : Obj, (w3.alloc o0).cell? ⟨gx, 0, none⟩ = some (.bool s1) := fun o0 => (X.alloc o0).cell 0 rfl
 have X_d : ∀ o0 : Obj, (w3.alloc o0).cell? ⟨gx, 1, none⟩ = some (.slice B1 k1 d1) := fun o0 => (X.alloc o0).cell 1 rfl
 have hrs := fun W v u x y hG h1 h2 h3 h4 => resultant_ex D E hcx.pos hcy.pos (Nat.le_trans hcx.nl_ (by decide)) (Nat.le_trans hcy.nl_ (by decide)) v u x y W hG h1 h2 h3 h4
 unfold RetRat at hrs
 clear hcx hcy
 go_wp2_with fail
 have hbY : Below w3.heap.size w3 (w3.alloc (.cells #[.bool s3, .slice B3 k3 d3] 49)) := (Below.refl _ _).alloc (Nat.le_refl _) _
 replace hx := hx.below hbY
 replace hy := hy.below hbY
 replace hD := hD.below hbY
 replace hE := hE.below hbY
 replace hb := hb.trans (hbY.mono hb.size)
 clear hbY X X_c X_d
 generalize w3.alloc (.cells #[.bool s3, .slice B3 k3 d3] 49) = w4 at *
 refine (hrs _ _ _ _ _ (hG.below hb) hx hy hD hE).mono ?_
 rintro e5 w5 ⟨v5, rfl, h5, hb5⟩
 replace hb := hb.trans (hb5.mono hb.size)
 have hst := ratString_any _ _ _ (hG.below hb) h5 1 (RL_int (by decide)) (by decide)
 rw [show ratTxt ((-2 : Int) : Rat) = [45, 50] from txt_read rd_m2] at hst
 go_wp2_with fail
 refine hst.mono ?_
 rintro e6 w6 ⟨rfl, hb6⟩
 replace hb := hb.trans (hb6.mono hb.size)
 go_wp2_with fail
 exact bodyPost_ret (v := .tuple #[.string ⟨#[45, 50]⟩, .int .i64 0]) (by simp [results, Tryz.results22, go_sem]) rfl ⟨rfl, hb⟩
theorem StrsAt.built (w : World) (ls : List (List UInt8)) (t : TypeId) : StrsAt (w.alloc (.cells (ls.map (fun l => Value.string ⟨l.toArray⟩)).toArray t)) (.slice (some ⟨w.heap.size, 0, none⟩) ls.length ls.length) ls := by
 refine ⟨_, _, rfl, Nat.le_refl _, .inr ⟨w.heap.size, 0, rfl, by simp, fun i l hi => ?_⟩⟩
 have B := Bx.new w (ls.map (fun l => Value.string ⟨l.toArray⟩)) t
 rw [Nat.zero_add]
 exact B.cell i (by rw [List.getElem?_map, hi]; rfl)
theorem keepSame (a : List (List UInt8)) (va vb : Value) (w : World) (ha : StrsAt w va a) (hb : StrsAt w vb a) (hla : a.length ≤ 1099511627776) :
  Calls Tryz.prog 13 #[va, vb] w fun e w' => e = .returned (.bool true) ∧ Below w.heap.size w w' :=
 (keepStrings_any a a va vb w ha hb hla hla).mono (fun e w' h => ⟨by rw [h.1, decide_eq_true rfl], h.2⟩)
theorem sq_fit : GcdFit 100 1000000 [0, 0, -1, 1] [0, -2, 3] := ⟨trimmed_by rfl, trimmed_by rfl, small_all (by decide) (by decide), small_all (by decide) (by decide), by decide, by decide, by decide, by decide⟩
theorem sq_nums {D : Int} (hD : nl D.natAbs ≤ 66) : ∀ n ∈ [0, 0, -2 * D, 2 * D], nl n.natAbs ≤ 100 := fun n hn => by
 simp only [List.mem_cons, List.not_mem_nil, or_false] at hn
 have n2 : nl (2 : Int).natAbs ≤ 1 := nl_le (by decide)
 have n3 : nl (-2 : Int).natAbs ≤ 1 := nl_le (by decide)
 have n0 : nl (0 : Int).natAbs ≤ 1 := nl_le (by decide)
 rcases hn with rfl | rfl | rfl | rfl
 ·omega
 ·omega
 ·exact Nat.le_trans (nl_mul_int _ _ _ _ n3 hD) (by decide)
 ·exact Nat.le_trans (nl_mul_int _ _ _ _ n2 hD) (by decide)
theorem squarefree_ex (va : Value) (w : World) (hG : Glob w) (ha : StrsAt w va [[48], [48], [45, 50], [50]]) :
  Calls Tryz.prog 10 #[va] w fun e w' => ∃ v, e = .returned (.tuple #[v, .int .i64 0]) ∧ TsAt w' w.heap.size 22 v [monicT [-1, 1], [[48], [49]]] ∧ Below w.heap.size w w' := by
 refine (squarefree_poly [[48], [48], [45, 50], [50]] va w hG ha (by decide) 1 (fun _ => by decide) (fun _ => by rw [rats_5]; exact RL_5) (by decide) vl_5 (by decide) 100 1000000 (by decide) (by decide) (by unfold LIM; decide) InvEx invEx ?_ ?_).mono ?_
 ·intro D hD
  rw [rats_5] at hD ⊢
  rw [nums_ex5, prim_ex5' hD.pos, derive_ex]
  refine ⟨sq_nums (Nat.le_trans hD.nl_ (by decide)), sq_fit, fun g hg => ?_⟩
  rw [gcd_ex1 hg]
  exact ⟨[0, 1, -1], 2, ⟨trimmed_by rfl, by decide, trimmed_by rfl, quo_by (n := 6) (by decide) (by decide) (by decide)⟩, small_all (by decide) (by decide), small_all (by decide) (by decide), by decide, by decide, .inl ⟨rfl, rfl, rfl⟩⟩
 ·intro D Q g l hD hg hQ hS
  rw [rats_5] at hD hg hQ
  rw [nums_ex5, prim_ex5' hD.pos] at hg hQ
  rw [derive_ex] at hg
  rw [sqf_ex hg hQ hS]
  refine ⟨by decide, fun f hf => ?_⟩
  simp only [List.mem_cons, List.not_mem_nil, or_false] at hf
  rcases hf with rfl | rfl
  ·exact ⟨by decide, by decide, small_all (by decide) (by decide)⟩
  ·exact ⟨by decide, by decide, small_all (by decide) (by decide)⟩
 ·rintro e w' ⟨D, hD, v, g, Q, l, rfl, h3, hg, hQ, hS, hb⟩
  rw [rats_5] at hD hg hQ
  rw [nums_ex5, prim_ex5' hD.pos] at hg hQ
  rw [derive_ex] at hg
  rw [sqf_ex hg hQ hS] at h3
  refine ⟨v, rfl, ?_, hb⟩
  rw [← monic_ex]
  exact h3
set_option maxRecDepth 100000 in
theorem awake_any (w : World) (hG : Glob w) : Calls Tryz.prog 8 #[] w fun e w' => e = .returned (.bool true) ∧ Below w.heap.size w w' := by
 go_enter Tryz.func8, Tryz.ntmps8
 go_wp2_with fail
 have b1 : Below w.heap.size w (w.alloc (.cells #[.string ⟨#[48]⟩, .string ⟨#[48]⟩, .string ⟨#[49]⟩] 9)) := (Below.refl _ _).alloc (Nat.le_refl _) _
 have b2 : Below w.heap.size w ((w.alloc (.cells #[.string ⟨#[48]⟩, .string ⟨#[48]⟩, .string ⟨#[49]⟩] 9)).alloc (.cells #[.string ⟨#[49]⟩, .string ⟨#[50]⟩] 9)) := b1.alloc (by simp) _
 have x1 : StrsAt ((w.alloc (.cells #[.string ⟨#[48]⟩, .string ⟨#[48]⟩, .string ⟨#[49]⟩] 9)).alloc (.cells #[.string ⟨#[49]⟩, .string ⟨#[50]⟩] 9)) (.slice (some ⟨w.heap.size, 0, none⟩) 3 3) [[48], [48], [49]] := (StrsAt.built w [[48], [48], [49]] 9).below ((Below.refl _ _).alloc (Nat.le_refl _) _)
 have x2 : StrsAt ((w.alloc (.cells #[.string ⟨#[48]⟩, .string ⟨#[48]⟩, .string ⟨#[49]⟩] 9)).alloc (.cells #[.string ⟨#[49]⟩, .string ⟨#[50]⟩] 9)) (.slice (some ⟨w.heap.size + 1, 0, none⟩) 2 2) [[49], [50]] := by
  have := StrsAt.built (w.alloc (.cells #[.string ⟨#[48]⟩, .string ⟨#[48]⟩, .string ⟨#[49]⟩] 9)) [[49], [50]] 9
  rw [World.size_alloc] at this
  exact this
 have hb := b2
 clear b1 b2
 generalize (w.alloc (.cells #[.string ⟨#[48]⟩, .string ⟨#[48]⟩, .string ⟨#[49]⟩] 9)).alloc (.cells #[.string ⟨#[49]⟩, .string ⟨#[50]⟩] 9) = W at *
 ((with_reducible refine (quoRem_poly [[48], [48], [49]] [[49], [50]] _ _ _ (hG.below hb) x1 x2 (by decide) (by decide) 1 (fun _ => by decide) (fun _ => by decide) (fun _ => by rw [rats_1]; exact RL_1) (fun _ => by rw [rats_2]; exact RL_2) (by decide)).mono ?_))
 rintro e1 w1 ⟨v, u, n, Q, R, rfl, hv, hu, hb1, -, -, hdo⟩
 obtain ⟨rfl, hdr⟩ := hdo vl_1 vl_2 (by decide)
 rw [rats_1, rats_2] at hdr
 obtain ⟨rfl, rfl⟩ := div_ex1 hdr
 have hv' : StrsAt w1 v [[45, 49, 47, 52], [49, 47, 50]] := by
  have e : List.map ratTxt [mkRat (-1) 4, mkRat 1 2] = [[45, 49, 47, 52], [49, 47, 50]] := by
   show [ratTxt (mkRat (-1) 4), ratTxt (mkRat 1 2)] = _
   rw [txt_read rd_m14, txt_read rd_12]
  rw [e] at hv; exact hv
 have hu' : StrsAt w1 u [[49, 47, 52]] := by
  have e : List.map ratTxt [mkRat 1 4] = [[49, 47, 52]] := by
   show [ratTxt (mkRat 1 4)] = _
   rw [txt_read rd_14]
  rw [e] at hu; exact hu
 obtain ⟨Av, cv, rfl, -⟩ := hv'.form
 obtain ⟨Au, cu, rfl, -⟩ := hu'.form
 replace hv' : StrsAt w1 (.slice Av 2 cv) [[45, 49, 47, 52], [49, 47, 50]] := hv'
 replace hu' : StrsAt w1 (.slice Au 1 cu) [[49, 47, 52]] := hu'
 replace hb := hb.trans (hb1.mono hb.size)
 clear x1 x2 hv hu hdo hdr hb1
 go_wp2_with fail
 have b1 : Below w1.heap.size w1 (w1.alloc (.cells #[.string ⟨#[45, 49]⟩, .string ⟨#[49]⟩] 9)) := (Below.refl _ _).alloc (Nat.le_refl _) _
 have b2 : Below w1.heap.size w1 ((w1.alloc (.cells #[.string ⟨#[45, 49]⟩, .string ⟨#[49]⟩] 9)).alloc (.cells #[.string ⟨#[45, 51]⟩, .string ⟨#[49]⟩] 9)) := b1.alloc (by simp) _
 have x1 : StrsAt ((w1.alloc (.cells #[.string ⟨#[45, 49]⟩, .string ⟨#[49]⟩] 9)).alloc (.cells #[.string ⟨#[45, 51]⟩, .string ⟨#[49]⟩] 9)) (.slice (some ⟨w1.heap.size, 0, none⟩) 2 2) [[45, 49], [49]] := (StrsAt.built w1 [[45, 49], [49]] 9).below ((Below.refl _ _).alloc (Nat.le_refl _) _)
 have x2 : StrsAt ((w1.alloc (.cells #[.string ⟨#[45, 49]⟩, .string ⟨#[49]⟩] 9)).alloc (.cells #[.string ⟨#[45, 51]⟩, .string ⟨#[49]⟩] 9)) (.slice (some ⟨w1.heap.size + 1, 0, none⟩) 2 2) [[45, 51], [49]] := by
  have := StrsAt.built (w1.alloc (.cells #[.string ⟨#[45, 49]⟩, .string ⟨#[49]⟩] 9)) [[45, 51], [49]] 9
  rw [World.size_alloc] at this
  exact this
 replace hv' := hv'.below b2
 replace hu' := hu'.below b2
 replace hb := hb.trans (b2.mono hb.size)
 clear b1 b2
 generalize (w1.alloc (.cells #[.string ⟨#[45, 49]⟩, .string ⟨#[49]⟩] 9)).alloc (.cells #[.string ⟨#[45, 51]⟩, .string ⟨#[49]⟩] 9) = W at *
 ((with_reducible refine (resultant_poly_ex _ _ _ (hG.below hb) x1 x2).mono ?_))
 rintro e2 w2 ⟨rfl, hb2⟩
 replace hv' := hv'.below hb2
 replace hu' := hu'.below hb2
 replace hb := hb.trans (hb2.mono hb.size)
 clear x1 x2 hb2
 go_wp2_with fail
 have b1 : Below w2.heap.size w2 (w2.alloc (.cells #[.string ⟨#[48]⟩, .string ⟨#[48]⟩, .string ⟨#[45, 50]⟩, .string ⟨#[50]⟩] 9)) := (Below.refl _ _).alloc (Nat.le_refl _) _
 have x1 : StrsAt (w2.alloc (.cells #[.string ⟨#[48]⟩, .string ⟨#[48]⟩, .string ⟨#[45, 50]⟩, .string ⟨#[50]⟩] 9)) (.slice (some ⟨w2.heap.size, 0, none⟩) 4 4) [[48], [48], [45, 50], [50]] := StrsAt.built w2 [[48], [48], [45, 50], [50]] 9
 replace hv' := hv'.below b1
 replace hu' := hu'.below b1
 replace hb := hb.trans (b1.mono hb.size)
 clear b1
 generalize w2.alloc (.cells #[.string ⟨#[48]⟩, .string ⟨#[48]⟩, .string ⟨#[45, 50]⟩, .string ⟨#[50]⟩] 9) = W at *
 ((with_reducible refine (squarefree_ex _ _ (hG.below hb) x1).mono ?_))
 rintro e3 w3 ⟨v3, rfl, h3, hb3⟩
 obtain ⟨A3, c3, rfl, -⟩ := h3.form
 replace h3 : TsAt w3 W.heap.size 22 (.slice A3 2 c3) [monicT [-1, 1], [[48], [49]]] := h3
 replace hv' := hv'.below hb3
 replace hu' := hu'.below hb3
 replace hb := hb.trans (hb3.mono hb.size)
 clear x1 hb3
 go_wp2_with fail
 have b1 : Below w3.heap.size w3 (w3.alloc (.cells #[.string ⟨#[45, 49, 47, 52]⟩, .string ⟨#[49, 47, 50]⟩] 9)) := (Below.refl _ _).alloc (Nat.le_refl _) _
 have x1 : StrsAt (w3.alloc (.cells #[.string ⟨#[45, 49, 47, 52]⟩, .string ⟨#[49, 47, 50]⟩] 9)) (.slice (some ⟨w3.heap.size, 0, none⟩) 2 2) [[45, 49, 47, 52], [49, 47, 50]] := StrsAt.built w3 [[45, 49, 47, 52], [49, 47, 50]] 9
 (try replace hv' := hv'.below b1)
 (try replace hu' := hu'.below b1)
 (try replace h3 := h3.below b1)
 (try replace h4 := h4.below b1)
 replace hb := hb.trans (b1.mono hb.size)
 clear b1
 generalize w3.alloc (.cells #[.string ⟨#[45, 49, 47, 52]⟩, .string ⟨#[49, 47, 50]⟩] 9) = W5 at *
 ((with_reducible refine (keepSame _ _ _ _ hv' x1 (by decide)).mono ?_))
 rintro e5 w5 ⟨rfl, hb5⟩
 (try replace hv' := hv'.below hb5)
 (try replace hu' := hu'.below hb5)
 (try replace h3 := h3.below hb5)
 replace hb := hb.trans (hb5.mono hb.size)
 clear x1 hb5
 go_wp2_with fail
 have b1 : Below w5.heap.size w5 (w5.alloc (.cells #[.string ⟨#[49, 47, 52]⟩] 9)) := (Below.refl _ _).alloc (Nat.le_refl _) _
 have x1 : StrsAt (w5.alloc (.cells #[.string ⟨#[49, 47, 52]⟩] 9)) (.slice (some ⟨w5.heap.size, 0, none⟩) 1 1) [[49, 47, 52]] := StrsAt.built w5 [[49, 47, 52]] 9
 (try replace hv' := hv'.below b1)
 (try replace hu' := hu'.below b1)
 (try replace h3 := h3.below b1)
 (try replace h4 := h4.below b1)
 replace hb := hb.trans (b1.mono hb.size)
 clear b1
 generalize w5.alloc (.cells #[.string ⟨#[49, 47, 52]⟩] 9) = W6 at *
 ((with_reducible refine (keepSame _ _ _ _ hu' x1 (by decide)).mono ?_))
 rintro e6 w6 ⟨rfl, hb6⟩
 (try replace hv' := hv'.below hb6)
 (try replace hu' := hu'.below hb6)
 (try replace h3 := h3.below hb6)
 replace hb := hb.trans (hb6.mono hb.size)
 clear x1 hb6
 obtain ⟨b, u4, rfl, hbl, hc4, h4⟩ := h3.at_ (i := 1) (l := [[48], [49]]) rfl
 obtain ⟨A4, c4, rfl, -⟩ := h4.form
 replace h4 : StrsAt w6 (.slice A4 2 c4) [[48], [49]] := h4
 go_wp2_with fail
 have b1 : Below w6.heap.size w6 (w6.alloc (.cells #[.string ⟨#[48]⟩, .string ⟨#[49]⟩] 9)) := (Below.refl _ _).alloc (Nat.le_refl _) _
 have x1 : StrsAt (w6.alloc (.cells #[.string ⟨#[48]⟩, .string ⟨#[49]⟩] 9)) (.slice (some ⟨w6.heap.size, 0, none⟩) 2 2) [[48], [49]] := StrsAt.built w6 [[48], [49]] 9
 (try replace hv' := hv'.below b1)
 (try replace hu' := hu'.below b1)
 (try replace h3 := h3.below b1)
 (try replace h4 := h4.below b1)
 replace hb := hb.trans (b1.mono hb.size)
 clear b1
 generalize w6.alloc (.cells #[.string ⟨#[48]⟩, .string ⟨#[49]⟩] 9) = W7 at *
 ((with_reducible refine (keepSame _ _ _ _ h4 x1 (by decide)).mono ?_))
 rintro e7 w7 ⟨rfl, hb7⟩
 (try replace hv' := hv'.below hb7)
 (try replace hu' := hu'.below hb7)
 (try replace h3 := h3.below hb7)
 replace hb := hb.trans (hb7.mono hb.size)
 clear x1 hb7
 go_wp2_with fail
 go_ret
 exact ⟨rfl, hb⟩
end Go.Proofs.YtoimnlnaaklinaaGreatDoor
