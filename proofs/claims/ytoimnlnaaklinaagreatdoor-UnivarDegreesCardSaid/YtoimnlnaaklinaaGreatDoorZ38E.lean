/-
  sosoptlaw08.UnivarDegrees: for every two integers and every text the call returns true (the card 'UnivarDegreesCardSaid'; the condition: the three listed tables of Go's library hold what the program's text lays in them).
-/
import Derived.Test.YtoimnlnaaklinaaGreatDoorCards
import Derived.Test.YtoimnlnaaklinaaGreatDoorTie
import Derived.Test.YtoimnlnaaklinaaGreatDoorA35
import Derived.Test.YtoimnlnaaklinaaGreatDoorE37
import Derived.SevenTiedAt
import Derived.ChangeMaps5
set_option linter.unusedVariables false
set_option linter.unusedSimpArgs false
set_option maxHeartbeats 8000000
namespace Go.Proofs.YtoimnlnaaklinaaGreatDoor
open Go.ChangeMaps Go.ChangeShapes Go.WideShapes Go.ChangeAt Go.WideMaps Go.WideElems Go.RowKit
set_option maxRecDepth 100000 in
theorem degrees_lifted (os : Os) (started : os.Started) (H : Type) (enc : TypeId × Value → H) :
  ReturnsInHanded {} Tryz.checked os 5 .any (fun w args => (Rows.univarDegreesSpec.pre enc Tryz.prog Tryz.f5 [] false w args ∧ laidMetH Tryz.prog laid3 w) ∧ sizedMet enc Tryz.prog Tryz.f5 (OpenSpec.ofChange Rows.univarDegreesSpec) false w args)
   (Rows.univarDegreesSpec.post enc Tryz.prog Tryz.f5 false true false false) := by
 refine returnsInHanded_of_change_and (C := Tryz.checked) (X := fun w _ => laidMetH Tryz.prog laid3 w) (fun _ _ _ hh h => h.of_heap hh) own started (by kernel_rfl) Tryz.func5
  (ChangeSpec.witness_shaped (enc := enc) (C := Tryz.checked) (os := os) (X := fun w _ => laidMetH Tryz.prog laid3 w) false (World.doorLaid Tryz.prog 400 os) #[.int .i64 0, .int .i64 0, .string ⟨#[]⟩] 8 rfl (World.shaped_of_RefB (by kernel_rfl) (by kernel_rfl)) (by kernel_rfl) (by kernel_rfl) (by kernel_rfl) (door_met os _)) ?_
 intro W base args ds gs before hval0 hW _ _ hL _
 have hval : ∀ (j : Nat) t v, Tryz.f5.params[j]? = some t → args[j]? = some v → Value.okWide Tryz.prog W .any base t v := hval0
 have hW' := hW
 obtain ⟨p, q, hA0, hV, rfl, hfz, hnd⟩ := hW
 have hA : DataW.TrodAll enc Tryz.prog W 0 (fun _ => true) true Tryz.f5.params.toList args.toList ds p := hA0
 rw [Tryz.params5] at hA hval
 obtain ⟨v0, v1, v2, d0, d1, d2, p0, p1, p2, rfl, rfl, rfl, h0, h1, h2⟩ := trodAll_three hA
 obtain ⟨rfl, rfl⟩ := trodVars_none hV
 have h0k := h0
 have h1k := h1
 have h2k := h2
 obtain ⟨n, rfl, rfl, rfl, wn⟩ := open_int Tryz.underlying3 (hval 0 3 v0 rfl rfl) h0
 obtain ⟨m, rfl, rfl, rfl, wm⟩ := open_int Tryz.underlying3 (hval 1 3 v1 rfl rfl) h1
 obtain ⟨s, rfl, rfl, rfl, ws⟩ := open_string Tryz.underlying9 (hval 2 9 v2 rfl rfl) h2
 clear hA0 hval0
 simp only [List.append_nil] at hW'
 simp only [Lit.wf, Bool.and_eq_true, decide_eq_true_eq] at wn wm
 have n0 : -9223372036854775808 ≤ n := wn.1
 have n1 : n ≤ 9223372036854775807 := wn.2
 have m0 : -9223372036854775808 ≤ m := wm.1
 have m1 : m ≤ 9223372036854775807 := wm.2
 have hcall := degrees_any n m s.data.toList W (glob_of_laid hL) n0 n1 m0 m1
 rw [show (⟨s.data.toList.toArray⟩ : ByteArray) = s from by cases s; simp] at hcall
 refine hcall.mono fun e W' ⟨he, hb⟩ => ?_
 subst he
 refine ⟨_, rfl, law_post hW' rfl (by kernel_rfl) Tryz.underlying4 rfl (fun sp hsp => ?_) hb⟩
 have hri : Tryz.prog.readableRec 3 = true := by kernel_rfl
 have hni : 3 < Tryz.prog.types.size := by decide +kernel
 have hrs : Tryz.prog.readableRec 9 = true := by kernel_rfl
 have hns : 9 < Tryz.prog.types.size := by decide +kernel
 exact trodAll_mk3 (Trod_stays laidOut hri hni h0k (fun x hx => by cases hx) (fun x hx => by cases hx)) (Trod_stays laidOut hri hni h1k (fun x hx => by cases hx) (fun x hx => by cases hx)) (Trod_stays laidOut hrs hns h2k (fun x hx => by cases hx) (fun x hx => by cases hx))
theorem degrees_holds : Rows.UnivarDegreesSaid :=
 OpenClaim.holds_of_wide 5 Tryz.f5 rfl rfl rfl rfl rfl rfl rfl ⟨rfl, rfl, rfl, rfl, rfl⟩ rfl rfl rfl rfl rfl (by kernel_rfl) Tryz.func5 (by kernel_rfl)
  (of_decide_eq_true (by kernel_rfl)) (by unfold Func.isWrapper; first | (rw [if_pos (by decide +kernel)]; kernel_rfl) | (rw [if_neg (by decide +kernel)]; exact ⟨rfl, rfl⟩))
  (fun os started H enc _ => degrees_lifted os started H enc)
theorem degrees_card : Rows.UnivarDegreesCardSaid :=
 Claim7.holds_tied_plain_at .later [] [.data, .data, .data] true Rows.univarDegreesCard.stood.harness false
  degrees_holds (fun _ h => by cases h) (by kernel_rfl) (fun _ h => by cases h) univarDegrees_row_tie rfl ⟨rfl, rfl⟩ (by kernel_rfl) rfl
  (fun f fn hf hfn => by
   obtain rfl : f = 5 := Option.some.inj ((show Tryz.prog.funcNamed "sosopt/sosoptlaw08.UnivarDegrees" = some 5 by kernel_rfl).symm.trans hf) |>.symm
   obtain rfl : fn = Tryz.f5 := (Option.some.inj (Tryz.func5.symm.trans hfn)).symm
   exact ⟨by kernel_rfl, fun j t ht => by
    rw [Tryz.params5] at ht
    have hm : t ∈ [3, 3, 9] := by simpa using Array.mem_of_getElem? ht
    have hall : ([3, 3, 9].all fun u => !Tryz.prog.wantsStandIn u) = true := by kernel_rfl
    exact (show Tryz.prog.wantsStandIn t = false by simpa using List.all_eq_true.1 hall t hm)⟩)
  (by kernel_rfl)
#print axioms degrees_card
end Go.Proofs.YtoimnlnaaklinaaGreatDoor
