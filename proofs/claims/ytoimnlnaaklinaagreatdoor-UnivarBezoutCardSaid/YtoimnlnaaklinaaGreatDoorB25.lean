/-
  Contracts of functions that the statement reaches, and plain laws: RatD, RatE, PowA, RegA.
-/
import Derived.Test.YtoimnlnaaklinaaGreatDoorB07
import Derived.Test.YtoimnlnaaklinaaGreatDoorB19
set_option linter.unusedVariables false
set_option linter.unusedSimpArgs false
set_option maxHeartbeats 8000000
namespace Go.Proofs.YtoimnlnaaklinaaGreatDoor
open Go.RowKit Sos
theorem below_of_drew {w w' : World} (h : ∃ m, w' = w.drewN m) : Below w.heap.size w w' := by
 obtain ⟨m, rfl⟩ := h
 exact below_drewN (Below.refl _ _) m
theorem prefix_minus (l : List UInt8) : Lib.hasPrefix l [45] = (l.head? == some 45) ∧ Lib.trimPrefix l [45] = if (l.head? == some 45) = true then l.tail else l := by
 have h : Lib.hasPrefix l [45] = (l.head? == some 45) := by
  unfold Lib.hasPrefix
  cases l with
  | nil => rfl
  | cons a m =>
   show ([45] : List UInt8).isPrefixOf (a :: m) = (some a == some 45)
   rw [List.isPrefixOf]
   simp only [List.isPrefixOf, Bool.and_true]
   by_cases e : a = 45
   ·subst e; rfl
   ·have e1 : ((45 : UInt8) == a) = false := by simpa using fun h => e h.symm
    have e2 : (some a == some (45 : UInt8)) = false := by simpa using e
    rw [e1, e2]
 refine ⟨h, ?_⟩
 unfold Lib.trimPrefix
 rw [h]
 simp
def splitT (neg : Bool) (n t : List UInt8) : Option (Bool × List UInt8 × List UInt8) :=
 if n = [48] then (if neg = false ∧ t = [] then some (neg, n, []) else none)
 else if n = [] ∨ n.head? = some 48 then none
 else if t = [] then some (neg, n, [])
 else if t.head? ≠ some 47 then none
 else if t.tail.dropWhile isDig = [] ∧ t.tail.takeWhile isDig ≠ [] ∧ (t.tail.takeWhile isDig).head? ≠ some 48 ∧ t.tail.takeWhile isDig ≠ [49] then some (neg, n, t.tail.takeWhile isDig) else none
theorem splitL_eq (l : List UInt8) : splitL l = splitT (l.head? == some 45) ((if (l.head? == some 45) = true then l.tail else l).takeWhile isDig) ((if (l.head? == some 45) = true then l.tail else l).dropWhile isDig) := rfl
set_option maxRecDepth 100000 in
theorem split_any (l : List UInt8) (w : World) (hl : l.length ≤ 1099511627776) :
  Calls Tryz.prog 39 #[.string ⟨l.toArray⟩] w fun e w' => ∃ neg n d ok, e = .returned (.tuple #[.agg #[.bool neg, .string ⟨n.toArray⟩, .string ⟨d.toArray⟩], .bool ok]) ∧ (ok = true → splitL l = some (neg, n, d)) ∧ (ok = false → splitL l = none) ∧ Below w.heap.size w w' := by
 have hcp := fun W => Tryz.strings_CutPrefix ⟨l.toArray⟩ ⟨#[45]⟩ W
 obtain ⟨p1, p2⟩ := prefix_minus l
 have HS := Lib.hid (splitL_eq l)
 have hrl : (if (l.head? == some 45) = true then l.tail else l).length ≤ l.length := by split <;> simp
 simp only [p1, p2] at hcp
 generalize (l.head? == some 45) = ng at *
 generalize (if ng = true then l.tail else l) = r at *
 have hcd := fun W => cutDigits_any r W (by omega)
 obtain ⟨W, eW, hb, R, F⟩ := box2 w [.bool false, .string ⟨#[]⟩, .string ⟨#[]⟩] 77 [.bool false, .string ⟨#[]⟩, .string ⟨#[]⟩] 77
 have cM := aa R.g3 F.g3
 go_enter Tryz.func39, Tryz.ntmps39
 go_wp2_with fail
 (try rw [eW]); clear eW
 ((with_reducible refine (hcp _).mono ?_))
 rintro e1 w1 ⟨rfl, rfl⟩
 clear hcp p1 p2
 replace cM := aa R.g3 F.g3
 go_wp2_with fail
 obtain ⟨w2, ew2, F, hb, hk, ff⟩ := F.put1 hb (by omega) 0 (.bool ng) rfl
 replace R := ff R (by omega)
 rw [ew2]; clear ew2
 replace cM := aa R.g3 F.g3
 ((with_reducible refine (hcd _).mono ?_))
 rintro e3 w3 ⟨rfl, hw3⟩
 have hb3 := below_of_drew hw3
 clear hw3 hcd
 replace R := R.below hb3
 replace F := F.below hb3
 replace cM := aa R.g3 F.g3
 replace hb := hb.trans (hb3.mono hb.size)
 have htl : (r.dropWhile isDig).length ≤ r.length := by
  have := congrArg List.length (List.takeWhile_append_dropWhile (p := isDig) (l := r))
  rw [List.length_append] at this
  omega
 generalize r.takeWhile isDig = n at *
 generalize r.dropWhile isDig = t at *
 by_cases h48 : n = [48]
 ·have q1 : (n == [48]) = true := by rw [h48]; rfl
  cases ng with
  | true =>
   have hs : splitL l = none := by rw [HS.out, splitT, if_pos h48, if_neg (by simp)]
   have HN := Lib.hid hs
   clear HS hs h48
   go_wp2_with fail
   obtain ⟨U0, eU0, F, hb, hk, ff⟩ := F.put1 hb (by omega) 1 (.string ⟨n.toArray⟩) rfl
   replace R := ff R (by omega)
   obtain ⟨W6, eW6, R, hb, hk, ff⟩ := R.put3 hb (by omega) (.bool true) (.string ⟨n.toArray⟩) (.string ⟨#[]⟩) rfl rfl
   replace F := ff F (by omega)
   rw [eU0, eW6]; clear eU0 eW6
   replace cM := aa R.k3 F.k3
   exact bodyPost_ret (v := .tuple #[.agg #[.bool true, .string ⟨n.toArray⟩, .string ⟨#[]⟩], .bool false]) (by simp [results, Tryz.results39, go_sem, R.k3]) rfl ⟨_, _, _, _, rfl, (fun h => by cases h), (fun _ => HN.out), hb⟩
  | false =>
   by_cases ht : t = []
   ·have hs : splitL l = some (false, n, []) := by rw [HS.out, splitT, if_pos h48, if_pos ⟨rfl, ht⟩]
    have HN := Lib.hid hs
    have q2 : (t == []) = true := by rw [ht]; rfl
    clear HS hs h48 ht
    go_wp2_with fail
    obtain ⟨U0, eU0, F, hb, hk, ff⟩ := F.put1 hb (by omega) 1 (.string ⟨n.toArray⟩) rfl
    replace R := ff R (by omega)
    obtain ⟨W6, eW6, R, hb, hk, ff⟩ := R.put3 hb (by omega) (.bool false) (.string ⟨n.toArray⟩) (.string ⟨#[]⟩) rfl rfl
    replace F := ff F (by omega)
    rw [eU0, eW6]; clear eU0 eW6
    replace cM := aa R.k3 F.k3
    exact bodyPost_ret (v := .tuple #[.agg #[.bool false, .string ⟨n.toArray⟩, .string ⟨#[]⟩], .bool true]) (by simp [results, Tryz.results39, go_sem, R.k3]) rfl ⟨_, _, _, _, rfl, (fun _ => HN.out), (fun h => by cases h), hb⟩
   ·have hs : splitL l = none := by rw [HS.out, splitT, if_pos h48, if_neg (fun h => ht h.2)]
    have HN := Lib.hid hs
    have q2 : (t == []) = false := by simpa using ht
    clear HS hs h48 ht
    go_wp2_with fail
    obtain ⟨U0, eU0, F, hb, hk, ff⟩ := F.put1 hb (by omega) 1 (.string ⟨n.toArray⟩) rfl
    replace R := ff R (by omega)
    obtain ⟨W6, eW6, R, hb, hk, ff⟩ := R.put3 hb (by omega) (.bool false) (.string ⟨n.toArray⟩) (.string ⟨#[]⟩) rfl rfl
    replace F := ff F (by omega)
    rw [eU0, eW6]; clear eU0 eW6
    replace cM := aa R.k3 F.k3
    exact bodyPost_ret (v := .tuple #[.agg #[.bool false, .string ⟨n.toArray⟩, .string ⟨#[]⟩], .bool false]) (by simp [results, Tryz.results39, go_sem, R.k3]) rfl ⟨_, _, _, _, rfl, (fun h => by cases h), (fun _ => HN.out), hb⟩
 ·have q1 : (n == [48]) = false := by simpa using h48
  cases n with
  | nil =>
   have hs : splitL l = none := by rw [HS.out, splitT, if_neg h48, if_pos (.inl rfl)]
   have HN := Lib.hid hs
   clear HS hs h48
   go_wp2_with fail
   obtain ⟨U0, eU0, F, hb, hk, ff⟩ := F.put1 hb (by omega) 1 (.string ⟨#[]⟩) rfl
   replace R := ff R (by omega)
   obtain ⟨W6, eW6, R, hb, hk, ff⟩ := R.put3 hb (by omega) (.bool ng) (.string ⟨#[]⟩) (.string ⟨#[]⟩) rfl rfl
   replace F := ff F (by omega)
   rw [eU0, eW6]; clear eU0 eW6
   replace cM := aa R.k3 F.k3
   exact bodyPost_ret (v := .tuple #[.agg #[.bool ng, .string ⟨#[]⟩, .string ⟨#[]⟩], .bool false]) (by simp [results, Tryz.results39, go_sem, R.k3]) rfl ⟨_, _, _, _, rfl, (fun h => by cases h), (fun _ => HN.out), hb⟩
  | cons a n' =>
   have hix : ∀ h, ({ data := (a :: n').toArray } : ByteArray)[0]'h = a := fun _ => rfl
   by_cases ha : a = 48
   ·have hs : splitL l = none := by rw [HS.out, splitT, if_neg h48, if_pos (.inr (by rw [ha]; rfl))]
    have HN := Lib.hid hs
    clear HS hs h48
    subst ha
    go_wp2_with fail
    obtain ⟨U0, eU0, F, hb, hk, ff⟩ := F.put1 hb (by omega) 1 (.string ⟨(48 :: n').toArray⟩) rfl
    replace R := ff R (by omega)
    obtain ⟨W6, eW6, R, hb, hk, ff⟩ := R.put3 hb (by omega) (.bool ng) (.string ⟨(48 :: n').toArray⟩) (.string ⟨#[]⟩) rfl rfl
    replace F := ff F (by omega)
    rw [eU0, eW6]; clear eU0 eW6
    replace cM := aa R.k3 F.k3
    exact bodyPost_ret (v := .tuple #[.agg #[.bool ng, .string ⟨(48 :: n').toArray⟩, .string ⟨#[]⟩], .bool false]) (by simp [results, Tryz.results39, go_sem, R.k3]) rfl ⟨_, _, _, _, rfl, (fun h => by cases h), (fun _ => HN.out), hb⟩
   ·have qa : ((a.toNat : Int) == 48) = false := by
     have : a.toNat ≠ 48 := fun e => ha (UInt8.toNat_inj.1 e)
     simp; omega
    have hng : ¬ ((a :: n') = [] ∨ (a :: n').head? = some 48) := by simp [ha]
    by_cases ht : t = []
    ·have hs : splitL l = some (ng, a :: n', []) := by rw [HS.out, splitT, if_neg h48, if_neg hng, if_pos ht]
     have HN := Lib.hid hs
     have q2 : (t == []) = true := by rw [ht]; rfl
     clear HS hs h48 ht
     go_wp2_with fail
     obtain ⟨U0, eU0, F, hb, hk, ff⟩ := F.put1 hb (by omega) 1 (.string ⟨(a :: n').toArray⟩) rfl
     replace R := ff R (by omega)
     obtain ⟨W6, eW6, R, hb, hk, ff⟩ := R.put3 hb (by omega) (.bool ng) (.string ⟨(a :: n').toArray⟩) (.string ⟨#[]⟩) rfl rfl
     replace F := ff F (by omega)
     rw [eU0, eW6]; clear eU0 eW6
     replace cM := aa R.k3 F.k3
     exact bodyPost_ret (v := .tuple #[.agg #[.bool ng, .string ⟨(a :: n').toArray⟩, .string ⟨#[]⟩], .bool true]) (by simp [results, Tryz.results39, go_sem, R.k3]) rfl ⟨_, _, _, _, rfl, (fun _ => HN.out), (fun h => by cases h), hb⟩
    ·obtain ⟨b, t', rfl⟩ : ∃ b t', t = b :: t' := by
      cases t with
      | nil => exact absurd rfl ht
      | cons b t' => exact ⟨b, t', rfl⟩
     have hix2 : ∀ h, ({ data := (b :: t').toArray } : ByteArray)[0]'h = b := fun _ => rfl
     by_cases hb47 : b = 47
     ·subst hb47
      rw [splitT, if_neg h48, if_neg hng, if_neg ht, if_neg (by simp), List.tail_cons] at HS
      clear h48 hng ht
      have hex : ({ data := (47 :: t').toArray } : ByteArray).extract 1 (t'.length + 1) = ⟨t'.toArray⟩ := ba_eq (by rw [extract_list]; simp)
      have hcd2 := fun W => cutDigits_any t' W (by simp at htl; omega)
      generalize t'.takeWhile isDig = d at *
      generalize t'.dropWhile isDig = u at *
      go_wp2_with fail
      obtain ⟨w4, ew4, F, hb, hk, ff⟩ := F.put1 hb (by omega) 1 (.string ⟨(a :: n').toArray⟩) rfl
      replace R := ff R (by omega)
      rw [ew4]; clear ew4
      replace cM := aa R.g3 F.g3
      ((with_reducible refine (hcd2 _).mono ?_))
      rintro e5 w5 ⟨rfl, hw5⟩
      have hb5 := below_of_drew hw5
      clear hw5 hcd2 hex hix2
      replace R := R.below hb5
      replace F := F.below hb5
      replace cM := aa R.g3 F.g3
      replace hb := hb.trans (hb5.mono hb.size)
      by_cases hu : u = []
      ·have q3 : (u == []) = true := by rw [hu]; rfl
       cases d with
       | nil =>
        have hs : splitL l = none := by rw [HS.out, if_neg (by simp)]
        have HN := Lib.hid hs
        clear HS hs hu
        go_wp2_with fail
        obtain ⟨w6, ew6, F, hb, hk, ff⟩ := F.put1 hb (by omega) 2 (.string ⟨#[]⟩) rfl
        replace R := ff R (by omega)
        rw [ew6]; clear ew6
        replace cM := aa R.g3 F.g3
        go_region
        all_goals (go_wp2_with fail)
        obtain ⟨W6, eW6, R, hb, hk, ff⟩ := R.put3 hb (by omega) (.bool ng) (.string ⟨(a :: n').toArray⟩) (.string ⟨#[]⟩) rfl rfl
        replace F := ff F (by omega)
        rw [eW6]; clear eW6
        replace cM := aa R.k3 F.k3
        exact bodyPost_ret (v := .tuple #[.agg #[.bool ng, .string ⟨(a :: n').toArray⟩, .string ⟨#[]⟩], .bool false]) (by simp [results, Tryz.results39, go_sem, R.k3]) rfl ⟨_, _, _, _, rfl, (fun h => by cases h), (fun _ => HN.out), hb.drew⟩
       | cons e d' =>
        have hix3 : ∀ h, ({ data := (e :: d').toArray } : ByteArray)[0]'h = e := fun _ => rfl
        by_cases he : e = 48
        ·have hs : splitL l = none := by rw [HS.out, if_neg (by rw [he]; simp)]
         have HN := Lib.hid hs
         have qe : ((e.toNat : Int) != 48) = false := by rw [he]; rfl
         clear HS hs hu he
         go_wp2_with fail
         obtain ⟨w6, ew6, F, hb, hk, ff⟩ := F.put1 hb (by omega) 2 (.string ⟨(e :: d').toArray⟩) rfl
         replace R := ff R (by omega)
         rw [ew6]; clear ew6
         replace cM := aa R.g3 F.g3
         go_region
         all_goals (go_wp2_with fail)
         obtain ⟨W6, eW6, R, hb, hk, ff⟩ := R.put3 hb (by omega) (.bool ng) (.string ⟨(a :: n').toArray⟩) (.string ⟨(e :: d').toArray⟩) rfl rfl
         replace F := ff F (by omega)
         rw [eW6]; clear eW6
         replace cM := aa R.k3 F.k3
         exact bodyPost_ret (v := .tuple #[.agg #[.bool ng, .string ⟨(a :: n').toArray⟩, .string ⟨(e :: d').toArray⟩], .bool false]) (by simp [results, Tryz.results39, go_sem, R.k3]) rfl ⟨_, _, _, _, rfl, (fun h => by cases h), (fun _ => HN.out), hb.drew⟩
        ·have qe : ((e.toNat : Int) != 48) = true := by
          have : e.toNat ≠ 48 := fun h => he (UInt8.toNat_inj.1 h)
          simp; omega
         by_cases h49 : e :: d' = [49]
         ·have hs : splitL l = none := by rw [HS.out, if_neg (fun h => h.2.2.2 h49)]
          have HN := Lib.hid hs
          have q4 : (e :: d' != [49]) = false := by rw [h49]; rfl
          have q5 : e = 49 ∧ d' = [] := by simpa using h49
          clear HS hs hu he h49
          obtain ⟨rfl, rfl⟩ := q5
          clear qe q4 hix3
          have hix4 : ∀ h, ({ data := #[49] } : ByteArray)[0]'h = 49 := fun _ => rfl
          have q49 : (((49 : UInt8).toNat : Int) != 48) = true := by decide
          go_wp2_with fail
          obtain ⟨w6, ew6, F, hb, hk, ff⟩ := F.put1 hb (by omega) 2 (.string ⟨#[49]⟩) rfl
          replace R := ff R (by omega)
          rw [ew6]; clear ew6
          replace cM := aa R.g3 F.g3
          go_region
          all_goals (go_wp2_with fail)
          obtain ⟨W6, eW6, R, hb, hk, ff⟩ := R.put3 hb (by omega) (.bool ng) (.string ⟨(a :: n').toArray⟩) (.string ⟨#[49]⟩) rfl rfl
          replace F := ff F (by omega)
          rw [eW6]; clear eW6
          replace cM := aa R.k3 F.k3
          exact bodyPost_ret (v := .tuple #[.agg #[.bool ng, .string ⟨(a :: n').toArray⟩, .string ⟨#[49]⟩], .bool false]) (by simp [results, Tryz.results39, go_sem, R.k3]) rfl ⟨_, _, [49], _, rfl, (fun h => by cases h), (fun _ => HN.out), hb.drew⟩
         ·have hs : splitL l = some (ng, a :: n', e :: d') := by rw [HS.out, if_pos ⟨hu, by simp, by simpa using he, h49⟩]
          have HN := Lib.hid hs
          have q4 : (e :: d' != [49]) = true := by simpa using h49
          have q5 : e = 49 → ¬ d' = [] := by simpa using h49
          have q6 : ¬ e = 49 ∨ ¬ d' = [] := by
           by_cases h : e = 49
           ·exact .inr (q5 h)
           ·exact .inl h
          clear HS hs hu he h49 q5
          go_wp2_with fail
          obtain ⟨w6, ew6, F, hb, hk, ff⟩ := F.put1 hb (by omega) 2 (.string ⟨(e :: d').toArray⟩) rfl
          replace R := ff R (by omega)
          rw [ew6]; clear ew6
          replace cM := aa R.g3 F.g3
          go_region
          all_goals (go_wp2_with fail)
          obtain ⟨W6, eW6, R, hb, hk, ff⟩ := R.put3 hb (by omega) (.bool ng) (.string ⟨(a :: n').toArray⟩) (.string ⟨(e :: d').toArray⟩) rfl rfl
          replace F := ff F (by omega)
          rw [eW6]; clear eW6
          replace cM := aa R.k3 F.k3
          exact bodyPost_ret (v := .tuple #[.agg #[.bool ng, .string ⟨(a :: n').toArray⟩, .string ⟨(e :: d').toArray⟩], .bool true]) (by simp [results, Tryz.results39, go_sem, R.k3, q6]) rfl ⟨_, _, _, _, rfl, (fun _ => HN.out), (fun h => by cases h), hb.drew⟩
      ·have q3 : (u == []) = false := by simpa using hu
       have hs : splitL l = none := by rw [HS.out, if_neg (fun h => hu h.1)]
       have HN := Lib.hid hs
       clear HS hs hu
       go_wp2_with fail
       obtain ⟨w6, ew6, F, hb, hk, ff⟩ := F.put1 hb (by omega) 2 (.string ⟨d.toArray⟩) rfl
       replace R := ff R (by omega)
       rw [ew6]; clear ew6
       replace cM := aa R.g3 F.g3
       go_region
       all_goals (go_wp2_with fail)
       obtain ⟨W6, eW6, R, hb, hk, ff⟩ := R.put3 hb (by omega) (.bool ng) (.string ⟨(a :: n').toArray⟩) (.string ⟨d.toArray⟩) rfl rfl
       replace F := ff F (by omega)
       rw [eW6]; clear eW6
       replace cM := aa R.k3 F.k3
       exact bodyPost_ret (v := .tuple #[.agg #[.bool ng, .string ⟨(a :: n').toArray⟩, .string ⟨d.toArray⟩], .bool false]) (by simp [results, Tryz.results39, go_sem, R.k3]) rfl ⟨_, _, _, _, rfl, (fun h => by cases h), (fun _ => HN.out), hb.drew⟩
     ·have hs : splitL l = none := by rw [HS.out, splitT, if_neg h48, if_neg hng, if_neg ht, if_pos (by simpa using hb47)]
      have HN := Lib.hid hs
      have qb : ((b.toNat : Int) != 47) = true := by
       have : b.toNat ≠ 47 := fun e => hb47 (UInt8.toNat_inj.1 e)
       simp; omega
      clear HS hs h48 ht hng
      go_wp2_with fail
      obtain ⟨U0, eU0, F, hb, hk, ff⟩ := F.put1 hb (by omega) 1 (.string ⟨(a :: n').toArray⟩) rfl
      replace R := ff R (by omega)
      obtain ⟨W6, eW6, R, hb, hk, ff⟩ := R.put3 hb (by omega) (.bool ng) (.string ⟨(a :: n').toArray⟩) (.string ⟨#[]⟩) rfl rfl
      replace F := ff F (by omega)
      rw [eU0, eW6]; clear eU0 eW6
      replace cM := aa R.k3 F.k3
      exact bodyPost_ret (v := .tuple #[.agg #[.bool ng, .string ⟨(a :: n').toArray⟩, .string ⟨#[]⟩], .bool false]) (by simp [results, Tryz.results39, go_sem, R.k3]) rfl ⟨_, _, _, _, rfl, (fun h => by cases h), (fun _ => HN.out), hb⟩
def RetRead (w : World) (o : Option Rat) (e : Ending) (w' : World) : Prop := ∃ v, e = .returned (.tuple #[v, .bool o.isSome]) ∧ RatAt w' v (o.getD 0) ∧ Below w.heap.size w w'
theorem readL_none {l : List UInt8} (h : splitL l = none) : readL l = none := by unfold readL; rw [h]
theorem readL_whole {l n : List UInt8} {neg : Bool} (h : splitL l = some (neg, n, [])) : readL l = some ((sgn neg (decVal n) : Int) : Rat) := by unfold readL; rw [h]; simp
theorem readL_frac {l n d : List UInt8} {neg : Bool} (h : splitL l = some (neg, n, d)) (hd : d ≠ []) : readL l = if Nat.gcd (decVal n) (decVal d) = 1 then some (mkRat (sgn neg (decVal n)) (decVal d)) else none := by
 unfold readL; rw [h]; simp [hd]
theorem frac_of {x : Int} {n d : Nat} (h : x.natAbs = n) (hg : Nat.gcd n d = 1) (hd : d ≠ 0) (hd1 : d ≠ 1) : (mkRat x d).num = x ∧ denI (mkRat x d) = d := by
 have h1 : (mkRat x d).num = x := by rw [Rat.num_mkRat, if_neg hd, h, Nat.gcd_comm, hg]; simp
 have h2 : (mkRat x d).den = d := by rw [Rat.den_mkRat, if_neg hd, h, Nat.gcd_comm, hg]; simp
 exact ⟨h1, by unfold denI; rw [h2, if_neg hd1]⟩
theorem decVal_len {l n d : List UInt8} {neg : Bool} (h : l = joinL neg n d) : n.length ≤ l.length ∧ d.length ≤ l.length := by
 subst h
 unfold joinL
 by_cases e : d = [] <;> simp [e] <;> omega
set_option maxRecDepth 100000 in
theorem read_any (l : List UInt8) (w : World) (hG : Glob w) (hl : l.length ≤ 1073741824) :
  Calls Tryz.prog 85 #[.string ⟨l.toArray⟩] w (RetRead w (readL l)) := by
 have hsp := fun W => split_any l W (by omega)
 obtain ⟨W, eW, hb, R⟩ := box1 w [.bool false, .slice none 0 0, .bool false, .slice none 0 0] 71
 have cM := R.g4
 go_enter Tryz.func85, Tryz.ntmps85
 go_wp2_with fail
 (try rw [eW]); clear eW
 ((with_reducible refine (hsp _).mono ?_))
 rintro e1 w1 ⟨neg, n, d, ok, rfl, hok, hno, hb1⟩
 clear hsp
 replace R := R.below hb1
 replace cM := R.g4
 replace hb := hb.trans (hb1.mono hb.size)
 have R_c10 : ∀ o0 : Obj, (w1.alloc o0).cell? ⟨w.heap.size, 0, none⟩ = some (.bool false) := fun o0 => (R.alloc o0).cell 0 rfl
 have R_g10 : ∀ o0 : Obj, (w1.alloc o0).frozen? ⟨w.heap.size, 0, none⟩ = false := fun o0 => (R.alloc o0).free 0
 have R_c11 : ∀ o0 : Obj, (w1.alloc o0).cell? ⟨w.heap.size, 1, none⟩ = some (.slice none 0 0) := fun o0 => (R.alloc o0).cell 1 rfl
 have R_g11 : ∀ o0 : Obj, (w1.alloc o0).frozen? ⟨w.heap.size, 1, none⟩ = false := fun o0 => (R.alloc o0).free 1
 have R_c12 : ∀ o0 : Obj, (w1.alloc o0).cell? ⟨w.heap.size, 2, none⟩ = some (.bool false) := fun o0 => (R.alloc o0).cell 2 rfl
 have R_g12 : ∀ o0 : Obj, (w1.alloc o0).frozen? ⟨w.heap.size, 2, none⟩ = false := fun o0 => (R.alloc o0).free 2
 have R_c13 : ∀ o0 : Obj, (w1.alloc o0).cell? ⟨w.heap.size, 3, none⟩ = some (.slice none 0 0) := fun o0 => (R.alloc o0).cell 3 rfl
 have R_g13 : ∀ o0 : Obj, (w1.alloc o0).frozen? ⟨w.heap.size, 3, none⟩ = false := fun o0 => (R.alloc o0).free 3
 cases ok with
 | false =>
  have HRD := Lib.hid (readL_none (hno rfl))
  clear hok hno
  go_wp2_with fail
  have R_l := R.lt
  have hsz_ := hb.size
  obtain ⟨U0, eU0, hA, F⟩ := box1 w1 [.bool neg, .string ⟨n.toArray⟩, .string ⟨d.toArray⟩] 77
  replace R := R.below hA
  replace hk := Keep.below hA
  replace hb := hb.trans (hA.mono hb.size)
  obtain ⟨W6, eW6, R, hb, hk, ff⟩ := R.put4 hb (by omega) (.bool false) (.slice none 0 0) (.bool false) (.slice none 0 0) rfl rfl
  replace F := ff F (by omega)
  rw [eU0, eW6]; clear eU0 eW6
  replace cM := aa R.k4 F.k3
  exact bodyPost_ret (v := .tuple #[.agg #[.bool false, .slice none 0 0, .bool false, .slice none 0 0], .bool false]) (by simp [results, Tryz.results85, go_sem, R.k4]) rfl ⟨_, by rw [HRD.out]; rfl, by rw [HRD.out]; exact RatAt.of (IntAt.zero _) (IntAt.zero _) rfl rfl, hb⟩
 | true =>
  have hs := hok rfl
  obtain ⟨hp, hj⟩ := split_parts hs
  obtain ⟨hln, hld⟩ := decVal_len hj
  have hvn := decVal_nl hp.n_digs
  have hvd := decVal_nl hp.d_digs
  have hpn := fun W => parse_any ⟨n.toArray⟩ W hp.n_digs (by simp [ByteArray.size]; omega)
  have hpd := fun W => parse_any ⟨d.toArray⟩ W hp.d_digs (by simp [ByteArray.size]; omega)
  simp only [] at hpn hpd
  have HS := Lib.hid hs
  have HP := Lib.hid hp
  clear hok hno hs hp hj
  go_wp2_with fail
  have R_l := R.lt
  have hsz_ := hb.size
  obtain ⟨w2, ew2, hA, F⟩ := box1 w1 [.bool neg, .string ⟨n.toArray⟩, .string ⟨d.toArray⟩] 77
  replace R := R.below hA
  replace hk := Keep.below hA
  replace hb := hb.trans (hA.mono hb.size)
  rw [ew2]; clear ew2
  replace cM := aa R.g4 F.k3
  ((with_reducible refine (hpn _).mono ?_))
  rintro e3 w3 ⟨v3, rfl, h3, hb3⟩
  obtain ⟨s3, A3, k3, c3, rfl⟩ := h3.form
  replace R := R.below hb3
  replace F := F.below hb3
  replace cM := aa R.g4 F.k3
  replace hb := hb.trans (hb3.mono hb.size)
  have R_c10 : ∀ o0 : Obj, (w3.alloc o0).cell? ⟨w.heap.size, 0, none⟩ = some (.bool false) := fun o0 => (R.alloc o0).cell 0 rfl
  have R_g10 : ∀ o0 : Obj, (w3.alloc o0).frozen? ⟨w.heap.size, 0, none⟩ = false := fun o0 => (R.alloc o0).free 0
  have R_c11 : ∀ o0 : Obj, (w3.alloc o0).cell? ⟨w.heap.size, 1, none⟩ = some (.slice none 0 0) := fun o0 => (R.alloc o0).cell 1 rfl
  have R_g11 : ∀ o0 : Obj, (w3.alloc o0).frozen? ⟨w.heap.size, 1, none⟩ = false := fun o0 => (R.alloc o0).free 1
  have R_c12 : ∀ o0 : Obj, (w3.alloc o0).cell? ⟨w.heap.size, 2, none⟩ = some (.bool false) := fun o0 => (R.alloc o0).cell 2 rfl
  have R_g12 : ∀ o0 : Obj, (w3.alloc o0).frozen? ⟨w.heap.size, 2, none⟩ = false := fun o0 => (R.alloc o0).free 2
  have R_c13 : ∀ o0 : Obj, (w3.alloc o0).cell? ⟨w.heap.size, 3, none⟩ = some (.slice none 0 0) := fun o0 => (R.alloc o0).cell 3 rfl
  have R_g13 : ∀ o0 : Obj, (w3.alloc o0).frozen? ⟨w.heap.size, 3, none⟩ = false := fun o0 => (R.alloc o0).free 3
  have F_c10 : ∀ o0 : Obj, (w3.alloc o0).cell? ⟨w1.heap.size, 0, none⟩ = some (.bool neg) := fun o0 => (F.alloc o0).cell 0 rfl
  have F_g10 : ∀ o0 : Obj, (w3.alloc o0).frozen? ⟨w1.heap.size, 0, none⟩ = false := fun o0 => (F.alloc o0).free 0
  have F_c11 : ∀ o0 : Obj, (w3.alloc o0).cell? ⟨w1.heap.size, 1, none⟩ = some (.string ⟨n.toArray⟩) := fun o0 => (F.alloc o0).cell 1 rfl
  have F_g11 : ∀ o0 : Obj, (w3.alloc o0).frozen? ⟨w1.heap.size, 1, none⟩ = false := fun o0 => (F.alloc o0).free 1
  have F_c12 : ∀ o0 : Obj, (w3.alloc o0).cell? ⟨w1.heap.size, 2, none⟩ = some (.string ⟨d.toArray⟩) := fun o0 => (F.alloc o0).cell 2 rfl
  have F_g12 : ∀ o0 : Obj, (w3.alloc o0).frozen? ⟨w1.heap.size, 2, none⟩ = false := fun o0 => (F.alloc o0).free 2
  have hna : (sgn neg (decVal n)).natAbs = decVal n := sgn_natAbs _ _
  have hfin : ∀ W v, d = [] → IntAt W v (sgn neg (decVal n)) → readL l = some ((sgn neg (decVal n) : Int) : Rat) := fun _ _ h _ => readL_whole (by rw [← h]; exact HS.out)
  cases neg with
  | false =>
   have h3 : IntAt w3 _ (sgn false (decVal n)) := h3
   generalize hx : sgn false (decVal n) = x at *
   by_cases hd : d = []
   ·have q1 : (d == []) = true := by rw [hd]; rfl
    have HRD := Lib.hid (hfin _ _ hd h3)
    clear hfin hpd hpn HS HP hx
    go_wp2_with fail
    have R_l := R.lt
    have F_l := F.lt
    have hsz_ := hb.size
    obtain ⟨U0, eU0, hA, X⟩ := box1 w3 [.bool s3, .slice A3 k3 c3, .bool false, .slice none 0 0] 71
    replace R := R.below hA
    replace F := F.below hA
    replace hk := Keep.below hA
    replace hb := hb.trans (hA.mono hb.size)
    replace h3 := h3.keep hk
    obtain ⟨W6, eW6, R, hb, hk, ff⟩ := R.put4 hb (by omega) (.bool s3) (.slice A3 k3 c3) (.bool false) (.slice none 0 0) rfl rfl
    replace F := ff F (by omega)
    replace X := ff X (by omega)
    replace h3 := h3.keep hk
    rw [eU0, eW6]; clear eU0 eW6
    replace cM := aa R.k4 (aa F.k3 X.k4)
    exact bodyPost_ret (v := .tuple #[.agg #[.bool s3, .slice A3 k3 c3, .bool false, .slice none 0 0], .bool true]) (by simp [results, Tryz.results85, go_sem, R.k4]) rfl ⟨_, by rw [HRD.out]; rfl, by rw [HRD.out]; exact RatAt.of h3 (IntAt.zero _) rfl rfl, hb⟩
   ·have q1 : (d == []) = false := by simpa using hd
    have hrd := readL_frac HS.out hd
    have hd0 := decVal_pos HP.out.d_digs hd HP.out.d_head
    have hd1 : decVal d ≠ 1 := fun e => HP.out.d_one (by rw [← decDigits_of HP.out.d_digs hd (.inr HP.out.d_head), e, decDigits_one])
    rw [hx] at hrd
    have HRD0 := Lib.hid hrd
    clear hfin hpn HS HP hrd hx
    go_wp2_with fail
    have R_l := R.lt
    have F_l := F.lt
    have hsz_ := hb.size
    obtain ⟨w4, ew4, hA, X⟩ := box1 w3 [.bool s3, .slice A3 k3 c3, .bool false, .slice none 0 0] 71
    replace R := R.below hA
    replace F := F.below hA
    replace hk := Keep.below hA
    replace hb := hb.trans (hA.mono hb.size)
    replace h3 := h3.keep hk
    rw [ew4]; clear ew4
    replace cM := aa R.g4 (aa F.k3 X.g4)
    ((with_reducible refine (hpd _).mono ?_))
    rintro e5 w5 ⟨v5, rfl, h5, hb5⟩
    obtain ⟨s5, A5, k5, c5, rfl⟩ := h5.form
    replace R := R.below hb5
    replace F := F.below hb5
    replace X := X.below hb5
    replace cM := aa R.g4 (aa F.k3 X.g4)
    replace hk := Keep.below hb5
    replace h3 := h3.keep hk
    replace hb := hb.trans (hb5.mono hb.size)
    have hgc := fun W v u hG h1 h2 => gcd_any x ((decVal d : Nat) : Int) v u W hG h1 h2 1073741824 (by rw [hna]; omega) (by rw [Int.natAbs_natCast]; omega) (by decide)
    rw [hna, Int.natAbs_natCast] at hgc
    unfold RetInt at hgc
    clear hpd
    go_wp2_with fail
    have R_l := R.lt
    have F_l := F.lt
    have X_l := X.lt
    have hsz_ := hb.size
    obtain ⟨U0, eU0, X, hb, hk, ff⟩ := X.put1 hb (by omega) 2 (.bool s5) rfl
    replace R := ff R (by omega)
    replace F := ff F (by omega)
    replace h3 := h3.keep hk
    replace h5 := h5.keep hk
    obtain ⟨w6, ew6, X, hb, hk, ff⟩ := X.put1 hb (by omega) 3 (.slice A5 k5 c5) rfl
    replace R := ff R (by omega)
    replace F := ff F (by omega)
    replace h3 := h3.keep hk
    replace h5 := h5.keep hk
    rw [eU0, ew6]; clear eU0 ew6
    replace cM := aa R.g4 (aa F.k3 X.g4)
    ((with_reducible refine (hgc _ _ _ (hG.below hb) h3 h5).mono ?_))
    rintro e8 w8 ⟨v8, rfl, h8, hb8⟩
    obtain ⟨s8, A8, k8, c8, rfl⟩ := h8.form
    replace R := R.below hb8
    replace F := F.below hb8
    replace X := X.below hb8
    replace cM := aa R.g4 (aa F.k3 X.g4)
    replace hk := Keep.below hb8
    replace h3 := h3.keep hk
    replace h5 := h5.keep hk
    replace hb := hb.trans (hb8.mono hb.size)
    clear hgc
    have hgb : nl (Nat.gcd (decVal n) (decVal d)) ≤ 1073741824 := by
     refine Nat.le_trans (nl_mono (Nat.le_of_dvd (by omega) (Nat.gcd_dvd_right _ _))) (by omega)
    go_wp2_with fail
    ((with_reducible refine (isOne_any _ _ _ h8 (by rw [Int.natAbs_natCast]; omega)).mono ?_))
    rintro e9 w9 ⟨rfl, hb9⟩
    replace R := R.below hb9
    replace F := F.below hb9
    replace X := X.below hb9
    replace cM := aa R.g4 (aa F.k3 X.g4)
    replace hk := Keep.below hb9
    replace h3 := h3.keep hk
    replace h5 := h5.keep hk
    replace hb := hb.trans (hb9.mono hb.size)
    by_cases hg1 : Nat.gcd (decVal n) (decVal d) = 1
    ·have hdd : decide (((Nat.gcd (decVal n) (decVal d) : Nat) : Int) = 1) = true := by rw [decide_eq_true_iff]; omega
     obtain ⟨hq1, hq2⟩ := frac_of hna hg1 hd0 hd1
     have hrd := HRD0.out
     rw [if_pos hg1] at hrd
     have HRD := Lib.hid hrd
     rw [hdd]
     clear hdd hrd HRD0
     go_wp2_with fail
     have R_l := R.lt
     have F_l := F.lt
     have X_l := X.lt
     have hsz_ := hb.size
     obtain ⟨W6, eW6, R, hb, hk, ff⟩ := R.put4 hb (by omega) (.bool s3) (.slice A3 k3 c3) (.bool s5) (.slice A5 k5 c5) rfl rfl
     replace F := ff F (by omega)
     replace X := ff X (by omega)
     replace h3 := h3.keep hk
     replace h5 := h5.keep hk
     rw [eW6]; clear eW6
     replace cM := aa R.k4 (aa F.k3 X.k4)
     exact bodyPost_ret (v := .tuple #[.agg #[.bool s3, .slice A3 k3 c3, .bool s5, .slice A5 k5 c5], .bool true]) (by simp [results, Tryz.results85, go_sem, R.k4]) rfl ⟨_, by rw [HRD.out]; rfl, by rw [HRD.out]; exact RatAt.of h3 h5 hq1 hq2, hb⟩
    ·have hdd : decide (((Nat.gcd (decVal n) (decVal d) : Nat) : Int) = 1) = false := by rw [decide_eq_false_iff_not]; omega
     have hrd := HRD0.out
     rw [if_neg hg1] at hrd
     have HRD := Lib.hid hrd
     rw [hdd]
     clear hdd hrd HRD0
     go_wp2_with fail
     have R_l := R.lt
     have F_l := F.lt
     have X_l := X.lt
     have hsz_ := hb.size
     obtain ⟨W6, eW6, R, hb, hk, ff⟩ := R.put4 hb (by omega) (.bool false) (.slice none 0 0) (.bool false) (.slice none 0 0) rfl rfl
     replace F := ff F (by omega)
     replace X := ff X (by omega)
     rw [eW6]; clear eW6
     replace cM := aa R.k4 (aa F.k3 X.k4)
     exact bodyPost_ret (v := .tuple #[.agg #[.bool false, .slice none 0 0, .bool false, .slice none 0 0], .bool false]) (by simp [results, Tryz.results85, go_sem, R.k4]) rfl ⟨_, by rw [HRD.out]; rfl, by rw [HRD.out]; exact RatAt.of (IntAt.zero _) (IntAt.zero _) rfl rfl, hb⟩
  | true =>
   have h3 : IntAt w3 _ ((decVal n : Nat) : Int) := h3
   have hsn : sgn true (decVal n) = -((decVal n : Nat) : Int) := rfl
   rw [hsn] at hfin hna
   go_wp2_with fail
   have R_l := R.lt
   have F_l := F.lt
   have hsz_ := hb.size
   obtain ⟨w4, ew4, hA, X⟩ := box1 w3 [.bool s3, .slice A3 k3 c3, .bool false, .slice none 0 0] 71
   replace R := R.below hA
   replace F := F.below hA
   replace hk := Keep.below hA
   replace hb := hb.trans (hA.mono hb.size)
   replace h3 := h3.keep hk
   rw [ew4]; clear ew4
   replace cM := aa R.g4 (aa F.k3 X.g4)
   ((with_reducible refine (neg_any _ _ _ h3 (by simp; omega)).mono ?_))
   rintro e7 w7 ⟨v7, rfl, h7, hb7⟩
   obtain ⟨s7, A7, k7, c7, rfl⟩ := h7.form
   replace R := R.below hb7
   replace F := F.below hb7
   replace X := X.below hb7
   replace cM := aa R.g4 (aa F.k3 X.g4)
   replace hb := hb.trans (hb7.mono hb.size)
   generalize hx : -((decVal n : Nat) : Int) = x at *
   by_cases hd : d = []
   ·have q1 : (d == []) = true := by rw [hd]; rfl
    have HRD := Lib.hid (hfin _ _ hd h7)
    clear hfin hpd hpn HS HP hx hsn
    go_wp2_with fail
    have R_l := R.lt
    have F_l := F.lt
    have X_l := X.lt
    have hsz_ := hb.size
    obtain ⟨U0, eU0, X, hb, hk, ff⟩ := X.put1 hb (by omega) 0 (.bool s7) rfl
    replace R := ff R (by omega)
    replace F := ff F (by omega)
    replace h7 := h7.keep hk
    obtain ⟨U1, eU1, X, hb, hk, ff⟩ := X.put1 hb (by omega) 1 (.slice A7 k7 c7) rfl
    replace R := ff R (by omega)
    replace F := ff F (by omega)
    replace h7 := h7.keep hk
    obtain ⟨W6, eW6, R, hb, hk, ff⟩ := R.put4 hb (by omega) (.bool s7) (.slice A7 k7 c7) (.bool false) (.slice none 0 0) rfl rfl
    replace F := ff F (by omega)
    replace X := ff X (by omega)
    replace h7 := h7.keep hk
    rw [eU0, eU1, eW6]; clear eU0 eU1 eW6
    replace cM := aa R.k4 (aa F.k3 X.k4)
    exact bodyPost_ret (v := .tuple #[.agg #[.bool s7, .slice A7 k7 c7, .bool false, .slice none 0 0], .bool true]) (by simp [results, Tryz.results85, go_sem, R.k4]) rfl ⟨_, by rw [HRD.out]; rfl, by rw [HRD.out]; exact RatAt.of h7 (IntAt.zero _) rfl rfl, hb⟩
   ·have q1 : (d == []) = false := by simpa using hd
    have hrd := readL_frac HS.out hd
    rw [hsn] at hrd
    have hd0 := decVal_pos HP.out.d_digs hd HP.out.d_head
    have hd1 : decVal d ≠ 1 := fun e => HP.out.d_one (by rw [← decDigits_of HP.out.d_digs hd (.inr HP.out.d_head), e, decDigits_one])
    have HRD0 := Lib.hid hrd
    clear hfin hpn HS HP hrd hx hsn h3
    go_wp2_with fail
    have h3 := h7
    clear h7
    have R_l := R.lt
    have F_l := F.lt
    have X_l := X.lt
    have hsz_ := hb.size
    obtain ⟨U0, eU0, X, hb, hk, ff⟩ := X.put1 hb (by omega) 0 (.bool s7) rfl
    replace R := ff R (by omega)
    replace F := ff F (by omega)
    replace h3 := h3.keep hk
    obtain ⟨w4, ew4, X, hb, hk, ff⟩ := X.put1 hb (by omega) 1 (.slice A7 k7 c7) rfl
    replace R := ff R (by omega)
    replace F := ff F (by omega)
    replace h3 := h3.keep hk
    rw [eU0, ew4]; clear eU0 ew4
    replace cM := aa R.g4 (aa F.k3 X.g4)
    ((with_reducible refine (hpd _).mono ?_))
    rintro e5 w5 ⟨v5, rfl, h5, hb5⟩
    obtain ⟨s5, A5, k5, c5, rfl⟩ := h5.form
    replace R := R.below hb5
    replace F := F.below hb5
    replace X := X.below hb5
    replace cM := aa R.g4 (aa F.k3 X.g4)
    replace hk := Keep.below hb5
    replace h3 := h3.keep hk
    replace hb := hb.trans (hb5.mono hb.size)
    have hgc := fun W v u hG h1 h2 => gcd_any x ((decVal d : Nat) : Int) v u W hG h1 h2 1073741824 (by rw [hna]; omega) (by rw [Int.natAbs_natCast]; omega) (by decide)
    rw [hna, Int.natAbs_natCast] at hgc
    unfold RetInt at hgc
    clear hpd
    go_wp2_with fail
    have R_l := R.lt
    have F_l := F.lt
    have X_l := X.lt
    have hsz_ := hb.size
    obtain ⟨U0, eU0, X, hb, hk, ff⟩ := X.put1 hb (by omega) 2 (.bool s5) rfl
    replace R := ff R (by omega)
    replace F := ff F (by omega)
    replace h3 := h3.keep hk
    replace h5 := h5.keep hk
    obtain ⟨w6, ew6, X, hb, hk, ff⟩ := X.put1 hb (by omega) 3 (.slice A5 k5 c5) rfl
    replace R := ff R (by omega)
    replace F := ff F (by omega)
    replace h3 := h3.keep hk
    replace h5 := h5.keep hk
    rw [eU0, ew6]; clear eU0 ew6
    replace cM := aa R.g4 (aa F.k3 X.g4)
    ((with_reducible refine (hgc _ _ _ (hG.below hb) h3 h5).mono ?_))
    rintro e8 w8 ⟨v8, rfl, h8, hb8⟩
    obtain ⟨s8, A8, k8, c8, rfl⟩ := h8.form
    replace R := R.below hb8
    replace F := F.below hb8
    replace X := X.below hb8
    replace cM := aa R.g4 (aa F.k3 X.g4)
    replace hk := Keep.below hb8
    replace h3 := h3.keep hk
    replace h5 := h5.keep hk
    replace hb := hb.trans (hb8.mono hb.size)
    clear hgc
    have hgb : nl (Nat.gcd (decVal n) (decVal d)) ≤ 1073741824 := by
     refine Nat.le_trans (nl_mono (Nat.le_of_dvd (by omega) (Nat.gcd_dvd_right _ _))) (by omega)
    go_wp2_with fail
    ((with_reducible refine (isOne_any _ _ _ h8 (by rw [Int.natAbs_natCast]; omega)).mono ?_))
    rintro e9 w9 ⟨rfl, hb9⟩
    replace R := R.below hb9
    replace F := F.below hb9
    replace X := X.below hb9
    replace cM := aa R.g4 (aa F.k3 X.g4)
    replace hk := Keep.below hb9
    replace h3 := h3.keep hk
    replace h5 := h5.keep hk
    replace hb := hb.trans (hb9.mono hb.size)
    by_cases hg1 : Nat.gcd (decVal n) (decVal d) = 1
    ·have hdd : decide (((Nat.gcd (decVal n) (decVal d) : Nat) : Int) = 1) = true := by rw [decide_eq_true_iff]; omega
     obtain ⟨hq1, hq2⟩ := frac_of hna hg1 hd0 hd1
     have hrd := HRD0.out
     rw [if_pos hg1] at hrd
     have HRD := Lib.hid hrd
     rw [hdd]
     clear hdd hrd HRD0
     go_wp2_with fail
     have R_l := R.lt
     have F_l := F.lt
     have X_l := X.lt
     have hsz_ := hb.size
     obtain ⟨W6, eW6, R, hb, hk, ff⟩ := R.put4 hb (by omega) (.bool s7) (.slice A7 k7 c7) (.bool s5) (.slice A5 k5 c5) rfl rfl
     replace F := ff F (by omega)
     replace X := ff X (by omega)
     replace h3 := h3.keep hk
     replace h5 := h5.keep hk
     rw [eW6]; clear eW6
     replace cM := aa R.k4 (aa F.k3 X.k4)
     exact bodyPost_ret (v := .tuple #[.agg #[.bool s7, .slice A7 k7 c7, .bool s5, .slice A5 k5 c5], .bool true]) (by simp [results, Tryz.results85, go_sem, R.k4]) rfl ⟨_, by rw [HRD.out]; rfl, by rw [HRD.out]; exact RatAt.of h3 h5 hq1 hq2, hb⟩
    ·have hdd : decide (((Nat.gcd (decVal n) (decVal d) : Nat) : Int) = 1) = false := by rw [decide_eq_false_iff_not]; omega
     have hrd := HRD0.out
     rw [if_neg hg1] at hrd
     have HRD := Lib.hid hrd
     rw [hdd]
     clear hdd hrd HRD0
     go_wp2_with fail
     have R_l := R.lt
     have F_l := F.lt
     have X_l := X.lt
     have hsz_ := hb.size
     obtain ⟨W6, eW6, R, hb, hk, ff⟩ := R.put4 hb (by omega) (.bool false) (.slice none 0 0) (.bool false) (.slice none 0 0) rfl rfl
     replace F := ff F (by omega)
     replace X := ff X (by omega)
     rw [eW6]; clear eW6
     replace cM := aa R.k4 (aa F.k3 X.k4)
     exact bodyPost_ret (v := .tuple #[.agg #[.bool false, .slice none 0 0, .bool false, .slice none 0 0], .bool false]) (by simp [results, Tryz.results85, go_sem, R.k4]) rfl ⟨_, by rw [HRD.out]; rfl, by rw [HRD.out]; exact RatAt.of (IntAt.zero _) (IntAt.zero _) rfl rfl, hb⟩
theorem nl_pow (x m : Nat) : nl (x ^ m) ≤ m * nl x + 1 := by
 induction m with
 | zero => rw [Nat.pow_zero, nl_one (by decide) (by decide)]; omega
 | succ m ih =>
  rw [Nat.pow_succ, Nat.succ_mul]
  have := nl_mul (x ^ m) x
  omega
theorem and_one (Y : Int) (h0 : 0 ≤ Y) (h1 : Y < B64) : bits .and .u64 Y 1 = Y % 2 := by
 rw [u64_and Y 1 h0 (by unfold B64 at h1; omega) (by decide) (by decide)]
 obtain ⟨n, rfl⟩ := Int.eq_ofNat_of_zero_le h0
 rw [Int.toNat_natCast, show (1 : Int).toNat = 2 ^ 1 - 1 from rfl, Nat.and_two_pow_sub_one_eq_mod]
 rfl
theorem shr_and (n k : Nat) (hn : n < BN) : bits .and .u64 ((n : Int) / 2 ^ k) 1 = ((n / 2 ^ k % 2 : Nat) : Int) := by
 have e : (n : Int) / 2 ^ k = ((n / 2 ^ k : Nat) : Int) := by rw [Int.natCast_ediv, Int.natCast_pow]; rfl
 have : n / 2 ^ k ≤ n := Nat.div_le_self _ _
 rw [e, and_one _ (Int.natCast_nonneg _) (by unfold B64; unfold BN at hn; generalize n / 2 ^ k = m at *; omega)]
 rfl
theorem pow_sign (x : Int) (n : Nat) : x ^ n = if (decide (x < 0) && decide (n % 2 = 1)) then -((x.natAbs ^ n : Nat) : Int) else ((x.natAbs ^ n : Nat) : Int) := by
 by_cases h : x < 0
 ·have e : x = -(x.natAbs : Int) := by omega
  simp only [h, decide_true, Bool.true_and]
  generalize x.natAbs = a at *
  subst e
  clear h
  induction n with
  | zero => simp
  | succ n ih =>
   rw [Int.pow_succ, ih, Nat.pow_succ]
   by_cases h1 : n % 2 = 1
   ·rw [if_pos (by simpa using h1), if_neg (by simp; omega), Int.neg_mul_neg, Int.natCast_mul]
   ·rw [if_neg (by simpa using h1), if_pos (by simp; omega), Int.mul_neg, Int.natCast_mul]
 ·have e : x = (x.natAbs : Int) := by omega
  simp only [h, decide_false, Bool.false_and]
  rw [if_neg (by simp), Int.natCast_pow, ← e]
theorem pow_bit (x n k : Nat) : (x ^ (n / 2 ^ (k + 1)) * x ^ (n / 2 ^ (k + 1))) * (if n / 2 ^ k % 2 = 1 then x else 1) = x ^ (n / 2 ^ k) := by
 have e : n / 2 ^ (k + 1) = n / 2 ^ k / 2 := by rw [Nat.pow_succ, Nat.div_div_eq_div_mul]
 rw [e]
 generalize n / 2 ^ k = m
 rw [← Nat.pow_add]
 split
 ·rw [← Nat.pow_succ]; congr 1; omega
 ·rw [Nat.mul_one]; congr 1; omega
set_option maxRecDepth 100000 in
theorem powerWords_any (x n : Nat) (vx : Value) (w : World) (hx : NatAt w vx x) (hn : n < BN) (hlim : 2 * (n * nl x + 1) + nl x ≤ LIM) :
  Calls Tryz.prog 131 #[vx, .int .u64 n] w (RetNat w [vx] (x ^ n)) := by
 obtain ⟨A, c, rfl, hc, hr, ho⟩ := id hx
 have hnB : (n : Int) ≤ 18446744073709551615 := by unfold BN at hn; omega
 have hbl := bitLenAux_spec 64 n (by rw [BN_pow] at hn; exact hn)
 have hle : Lib.bitLenAux 64 n ≤ 64 := Lib.bitLenAux_le 64 n 64 (by rw [BN_pow] at hn; exact hn)
 have hl0 : n / 2 ^ Lib.bitLen n = 0 := Nat.div_eq_of_lt hbl.1
 have hle' : Lib.bitLen n ≤ 64 := hle
 clear hbl hle
 go_enter Tryz.func131, Tryz.ntmps131
 go_wp2_with fail
 have h1 : NatAt (w.alloc (.cells #[.int .u64 1] 105)) (.slice (some ⟨w.heap.size, 0, none⟩) 1 1) 1 := by
  refine ⟨_, 1, by rw [nl_one (by decide) (by decide)], by rw [nl_one (by decide) (by decide)]; exact Nat.le_refl _, ?_, Old.mk (by simp)⟩
  rw [dg_one (by decide) (by decide)]
  refine Rd.mk (by simp) ?_
  intro i hi
  obtain rfl : i = 0 := by simpa using hi
  simp [go_sem]
 have hb : Below w.heap.size w (w.alloc (.cells #[.int .u64 1] 105)) := (Below.refl _ _).alloc (Nat.le_refl _) _
 generalize w.alloc (.cells #[.int .u64 1] 105) = W at *
 ((with_reducible refine (Tryz.bits_Len n _ (by omega) hnB).mono ?_))
 rintro e1 w1 ⟨rfl, rfl⟩
 rw [Int.toNat_natCast]
 generalize Lib.bitLen n = L at *
 go_wp2_with fail
 go_loopg [5, 6] L (fun k v i wr => i = .int .i64 ((k : Int) - 1) ∧ k ≤ 64 ∧ NatAt wr v (x ^ (n / 2 ^ k)) ∧ From w [.slice A (nl x) c] v ∧ Below w.heap.size w wr)
 case atStart => exact ⟨by go_num, hle', by rw [hl0, Nat.pow_zero]; exact h1, From.new (Nat.le_refl _), hb⟩
 case round =>
  clear h1 hb
  obtain ⟨rfl, hk, hv, hf, hb⟩ := hrel
  generalize wr = wy at *
  cases gk with
  | zero =>
   rw [Nat.pow_zero, Nat.div_one] at hv
   obtain ⟨Av, cv, rfl, hcv, hrv, hov⟩ := id hv
   go_wp2_with fail
   go_ret
   exact ⟨_, rfl, hv, hf, hb⟩
  | succ k =>
   have hpb := pow_bit x n k
   have hnl := nl_pow x (n / 2 ^ (k + 1))
   have hdl : n / 2 ^ (k + 1) * nl x ≤ n * nl x := Nat.mul_le_mul_right _ (Nat.div_le_self _ _)
   have hnl2 := nl_mul (x ^ (n / 2 ^ (k + 1))) (x ^ (n / 2 ^ (k + 1)))
   generalize x ^ (n / 2 ^ (k + 1)) = P at *
   obtain ⟨Av, cv, rfl, hcv, hrv, hov⟩ := id hv
   have hk0 : (0 : Int) ≤ (k : Int) := by omega
   have HPB := Lib.hid hpb
   clear hpb
   unfold LIM at hlim
   go_wp2_with fail
   ((with_reducible refine (multiplyWords_any P P _ _ _ hv hv (by unfold LIM; omega)).mono ?_))
   rintro e2 w2 ⟨v2, rfl, h2, hf2, hb2⟩
   obtain ⟨A2, c2, rfl, hc2, hr2, ho2⟩ := id h2
   have hf2' := hf2.trans (vs := [.slice A (nl x) c]) hb.size (fun u hu => by
    rcases List.mem_cons.1 hu with rfl | hu
    ·exact hf
    ·rcases List.mem_cons.1 hu with rfl | hu
     ·exact hf
     ·cases hu)
   have hb' := hb.trans (hb2.mono hb.size)
   have hsh : IntKind.u64.wrap (k : Int) = (k : Int) := by rw [IntKind.wrap_u64]; omega
   have hand := shr_and n k hn
   by_cases hbit : n / 2 ^ k % 2 = 1
   ·rw [hbit] at hand
    rw [hbit] at HPB
    have HPP : Hid (P * P * x = x ^ (n / 2 ^ k)) := HPB.out
    clear hbit HPB
    have hnl3 := nl_mul P P
    go_wp2_with fail
    ((with_reducible refine (multiplyWords_any (P * P) x _ _ _ h2 (hx.below hb') (by unfold LIM; omega)).mono ?_))
    rintro e3 w3 ⟨v3, rfl, h3, hf3, hb3⟩
    obtain ⟨A3, c3, rfl, hc3, hr3, ho3⟩ := id h3
    have hf3' := hf3.trans (vs := [.slice A (nl x) c]) hb'.size (fun u hu => by
     rcases List.mem_cons.1 hu with rfl | hu
     ·exact hf2'
     ·rcases List.mem_cons.1 hu with rfl | hu
      ·exact From.mem (List.mem_cons_self ..)
      ·cases hu)
    go_wp2_with fail
    go_roundg k
    case rel => exact ⟨by go_num, by omega, by rw [← HPP.out]; exact h3, hf3', hb'.trans (hb3.mono hb'.size)⟩
    case measure => omega
   ·have hbit : n / 2 ^ k % 2 = 0 := by omega
    rw [hbit] at hand
    rw [hbit] at HPB
    have HPP : Hid (P * P = x ^ (n / 2 ^ k)) := by have := HPB.out; rw [if_neg (by decide), Nat.mul_one] at this; exact this
    clear hbit HPB
    go_wp2_with fail
    go_roundg k
    case rel => exact ⟨by go_num, by omega, by rw [← HPP.out]; exact h2, hf2', hb'⟩
    case measure => omega
set_option maxRecDepth 100000 in
theorem pow_any (x : Int) (n : Nat) (vx : Value) (w : World) (hx : IntAt w vx x) (hn : n < BN) (hlim : 2 * (n * nl x.natAbs + 1) + nl x.natAbs ≤ LIM) :
  Calls Tryz.prog 109 #[vx, .int .u64 n] w (RetInt w (x ^ n)) := by
 obtain ⟨ux, rfl, hux⟩ := hx
 obtain ⟨c0, c1, r0, r1, hfr, hsz, hb⟩ := box1_facts w (.bool (decide (x < 0))) ux 49
 have hsum := pow_sign x n
 have hna : (x ^ n).natAbs = x.natAbs ^ n := Int.natAbs_pow x n
 have hux1 := hux.below hb
 have hand := and_one (n : Int) (by omega) (by unfold B64; unfold BN at hn; omega)
 have hnl := nl_pow x.natAbs n
 obtain ⟨bt, hbt⟩ : ∃ bt : Bool, decide (n % 2 = 1) = bt := ⟨_, rfl⟩
 have hbb : (bits .and .u64 (n : Int) 1 == 1) = bt := by
  rw [hand, ← hbt]
  by_cases h : n % 2 = 1
  ·simp only [h, decide_true]; rw [beq_iff_eq]; omega
  ·simp only [h, decide_false]; rw [beq_eq_false_iff_ne]; omega
 rw [hbt] at hsum
 clear hand hbt
 have HS := Lib.hid hsum
 have HNA := Lib.hid hna
 have HSZ := Lib.hid hsz
 obtain ⟨sn, HSN⟩ : ∃ sn, Hid (decide (x ^ n < 0) = sn) := ⟨_, rfl⟩
 generalize decide (x < 0) = sx at *
 obtain ⟨A4, c4, rfl, hc4, hr4, ho4⟩ := id hux
 clear hsum hna hsz
 cases sx with
 | false =>
  rw [Bool.false_and] at HS
  go_enter Tryz.func109, Tryz.ntmps109
  go_wp2_with fail
  generalize (w.alloc (.cells #[.bool false, .slice A4 (nl x.natAbs) c4] 49)).alloc (.cells #[.bool false, .slice none 0 0] 49) = W at *
  ((with_reducible refine (powerWords_any x.natAbs n _ _ hux1 hn hlim).mono ?_))
  rintro e3 w3 ⟨v3, rfl, h3, hf3, hb3⟩
  obtain ⟨A3, c3, rfl, hc3, hr3, ho3⟩ := id h3
  have l2 : w.heap.size + 1 < W.heap.size := by have := HSZ.out; omega
  replace r0 := (hb3.cell (p := ⟨w.heap.size + 1, 0, none⟩) l2).trans r0
  replace r1 := (hb3.cell (p := ⟨w.heap.size + 1, 1, none⟩) l2).trans r1
  have f0 := (hb3.frozen (p := ⟨w.heap.size + 1, 0, none⟩) l2).trans (hfr 0)
  have f1 := (hb3.frozen (p := ⟨w.heap.size + 1, 1, none⟩) l2).trans (hfr 1)
  go_wp2_with fail
  ((with_reducible refine (signed_any false _ _ (x ^ n) _ h3 (by unfold LIM at hlim; omega) HS.out).mono ?_))
  rintro e5 w5 ⟨he, hb5⟩
  rw [HSN.out] at he
  subst he
  have l3 := Nat.lt_of_lt_of_le l2 hb3.size
  have r0' := (hb5.cell (p := ⟨w.heap.size + 1, 0, none⟩) l3).trans r0
  have r1' := (hb5.cell (p := ⟨w.heap.size + 1, 1, none⟩) l3).trans r1
  have f0' := (hb5.frozen (p := ⟨w.heap.size + 1, 0, none⟩) l3).trans f0
  have f1' := (hb5.frozen (p := ⟨w.heap.size + 1, 1, none⟩) l3).trans f1
  go_wp2_with fail
  have hst := stored2 (p := .bool sn) (q := .slice A3 (nl (x.natAbs ^ n)) c3) r0' r1'
  have hbw : Below w.heap.size w w5 := hb.trans ((hb3.trans (hb5.mono hb3.size)).mono hb.size)
  have hbz := (hbw.setCell (p := ⟨w.heap.size + 1, 0, none⟩) (by simp) (.bool sn)).setCell (p := ⟨w.heap.size + 1, 1, none⟩) (by simp) (.slice A3 (nl (x.natAbs ^ n)) c3)
  obtain ⟨z0, z1⟩ := hst
  have hn4 := hf3.ne l2 (fun u hu => by rw [List.mem_singleton.1 hu]; exact hux.ne (by omega))
  have hv6 : NatAt ((w5.setCell ⟨w.heap.size + 1, 0, none⟩ (.bool sn)).setCell ⟨w.heap.size + 1, 1, none⟩ (.slice A3 (nl (x.natAbs ^ n)) c3)) (.slice A3 (nl (x.natAbs ^ n)) c3) (x.natAbs ^ n) := ((h3.below hb5).set _ hn4).set _ hn4
  generalize (w5.setCell ⟨w.heap.size + 1, 0, none⟩ (.bool sn)).setCell ⟨w.heap.size + 1, 1, none⟩ (.slice A3 (nl (x.natAbs ^ n)) c3) = W6 at *
  exact bodyPost_ret (v := .agg #[.bool sn, .slice A3 (nl (x.natAbs ^ n)) c3]) (by simp [results, Tryz.results109, go_sem, z0, z1]) rfl ⟨_, rfl, ⟨_, by rw [HSN.out], by rw [HNA.out]; exact hv6⟩, hbz⟩
 | true =>
  rw [Bool.true_and] at HS
  go_enter Tryz.func109, Tryz.ntmps109
  go_wp2_with fail
  generalize (w.alloc (.cells #[.bool true, .slice A4 (nl x.natAbs) c4] 49)).alloc (.cells #[.bool false, .slice none 0 0] 49) = W at *
  ((with_reducible refine (powerWords_any x.natAbs n _ _ hux1 hn hlim).mono ?_))
  rintro e3 w3 ⟨v3, rfl, h3, hf3, hb3⟩
  obtain ⟨A3, c3, rfl, hc3, hr3, ho3⟩ := id h3
  have l2 : w.heap.size + 1 < W.heap.size := by have := HSZ.out; omega
  replace r0 := (hb3.cell (p := ⟨w.heap.size + 1, 0, none⟩) l2).trans r0
  replace r1 := (hb3.cell (p := ⟨w.heap.size + 1, 1, none⟩) l2).trans r1
  have f0 := (hb3.frozen (p := ⟨w.heap.size + 1, 0, none⟩) l2).trans (hfr 0)
  have f1 := (hb3.frozen (p := ⟨w.heap.size + 1, 1, none⟩) l2).trans (hfr 1)
  go_wp2_with fail
  ((with_reducible refine (signed_any bt _ _ (x ^ n) _ h3 (by unfold LIM at hlim; omega) HS.out).mono ?_))
  rintro e5 w5 ⟨he, hb5⟩
  rw [HSN.out] at he
  subst he
  have l3 := Nat.lt_of_lt_of_le l2 hb3.size
  have r0' := (hb5.cell (p := ⟨w.heap.size + 1, 0, none⟩) l3).trans r0
  have r1' := (hb5.cell (p := ⟨w.heap.size + 1, 1, none⟩) l3).trans r1
  have f0' := (hb5.frozen (p := ⟨w.heap.size + 1, 0, none⟩) l3).trans f0
  have f1' := (hb5.frozen (p := ⟨w.heap.size + 1, 1, none⟩) l3).trans f1
  go_wp2_with fail
  have hst := stored2 (p := .bool sn) (q := .slice A3 (nl (x.natAbs ^ n)) c3) r0' r1'
  have hbw : Below w.heap.size w w5 := hb.trans ((hb3.trans (hb5.mono hb3.size)).mono hb.size)
  have hbz := (hbw.setCell (p := ⟨w.heap.size + 1, 0, none⟩) (by simp) (.bool sn)).setCell (p := ⟨w.heap.size + 1, 1, none⟩) (by simp) (.slice A3 (nl (x.natAbs ^ n)) c3)
  obtain ⟨z0, z1⟩ := hst
  have hn4 := hf3.ne l2 (fun u hu => by rw [List.mem_singleton.1 hu]; exact hux.ne (by omega))
  have hv6 : NatAt ((w5.setCell ⟨w.heap.size + 1, 0, none⟩ (.bool sn)).setCell ⟨w.heap.size + 1, 1, none⟩ (.slice A3 (nl (x.natAbs ^ n)) c3)) (.slice A3 (nl (x.natAbs ^ n)) c3) (x.natAbs ^ n) := ((h3.below hb5).set _ hn4).set _ hn4
  generalize (w5.setCell ⟨w.heap.size + 1, 0, none⟩ (.bool sn)).setCell ⟨w.heap.size + 1, 1, none⟩ (.slice A3 (nl (x.natAbs ^ n)) c3) = W6 at *
  exact bodyPost_ret (v := .agg #[.bool sn, .slice A3 (nl (x.natAbs ^ n)) c3]) (by simp [results, Tryz.results109, go_sem, z0, z1]) rfl ⟨_, rfl, ⟨_, by rw [HSN.out], by rw [HNA.out]; exact hv6⟩, hbz⟩
section
variable {w w' w1 w2 : World} {g g' : Nat} {m n n' : Int} {s : Bool} {A : Option Addr} {l c : Nat}
theorem ua {o : Obj} (h : Below w.heap.size w w') : Below w.heap.size w (w'.alloc o) := h.alloc h.size o
theorem ud (h : Below w.heap.size w w') : Below w.heap.size w w'.drew := h.drew
theorem ut (h : Below w.heap.size w w1) (k : Below w1.heap.size w1 w2) : Below w.heap.size w w2 := h.trans (k.mono h.size)
theorem us {o : Nat} {v : Value} (h : Below w.heap.size w w') (hg : w.heap.size ≤ g) : Below w.heap.size w (w'.setCell ⟨g, o, none⟩ v) := h.setCell (p := ⟨g, o, none⟩) hg v
theorem bx_new (h : IntAt w (.agg #[.bool s, .slice A l c]) n) (hg : w.heap.size = g) : IntBx (w.alloc (.cells #[.bool s, .slice A l c] 49)) g n :=
 ⟨_, _, _, _, Bx.newAt w [.bool s, .slice A l c] 49 g hg, h.keep (Keep.alloc _ _)⟩
theorem bx_new0 (h : IntAt w (.agg #[.bool s, .slice A l c]) n) : IntBx (w.alloc (.cells #[.bool s, .slice A l c] 49)) w.heap.size n := bx_new h rfl
theorem bx_new1 {o : Obj} (h : IntAt (w.alloc o) (.agg #[.bool s, .slice A l c]) n) : IntBx ((w.alloc o).alloc (.cells #[.bool s, .slice A l c] 49)) (w.heap.size + 1) n := bx_new h (World.size_alloc _ _)
theorem bx_alloc {o : Obj} (h : IntBx w g n) : IntBx (w.alloc o) g n := h.below ((Below.refl _ _).alloc (Nat.le_refl _) _)
theorem bx_drew (h : IntBx w g n) : IntBx w.drew g n := h.below (Below.refl _ _).drew
theorem bx_same (h : IntBx w g m) (hn : IntAt w (.agg #[.bool s, .slice A l c]) n) : IntBx ((w.setCell ⟨g, 0, none⟩ (.bool s)).setCell ⟨g, 1, none⟩ (.slice A l c)) g n := (h.stored hn).1
theorem bx_other (h' : IntBx w g' m) (hn : IntAt w (.agg #[.bool s, .slice A l c]) n') (hne : g ≠ g') (h : IntBx w g n) : IntBx ((w.setCell ⟨g', 0, none⟩ (.bool s)).setCell ⟨g', 1, none⟩ (.slice A l c)) g n := h.step (h'.stored hn).2 hne
theorem zb (D : Bx w g [.bool false, .slice none 0 0] 49) : IntBx w g 0 := ⟨_, _, _, _, D, IntAt.zero _⟩
theorem late1 {W0 : World} (h : IntAt w (.agg #[.bool s, .slice A l c]) n) (hB : Below W0.heap.size W0 w) : IntBx (w.alloc (.cells #[.bool s, .slice A l c] 49)) w.heap.size n ∧ Below W0.heap.size W0 (w.alloc (.cells #[.bool s, .slice A l c] 49)) := ⟨bx_new0 h, ua hB⟩
theorem early1 {W0 : World} (I : IntBx w g m) (h : IntAt w (.agg #[.bool s, .slice A l c]) n) (hB : Below W0.heap.size W0 w) (hl : W0.heap.size ≤ g) :
  IntBx ((w.setCell ⟨g, 0, none⟩ (.bool s)).setCell ⟨g, 1, none⟩ (.slice A l c)) g n ∧ Below W0.heap.size W0 ((w.setCell ⟨g, 0, none⟩ (.bool s)).setCell ⟨g, 1, none⟩ (.slice A l c)) := ⟨bx_same I h, us (us hB hl) hl⟩
theorem at_put {v : Value} (h' : IntBx w g' m) (hn : IntAt w (.agg #[.bool s, .slice A l c]) n') (h : IntAt w v n) : IntAt ((w.setCell ⟨g', 0, none⟩ (.bool s)).setCell ⟨g', 1, none⟩ (.slice A l c)) v n := h.keep (h'.stored hn).2.1
theorem two_early {W0 : World} {m' : Int} {s' : Bool} {A' : Option Addr} {l' c' : Nat} (I : IntBx w g m) (J : IntBx w g' m') (h : IntAt w (.agg #[.bool s, .slice A l c]) n) (k : IntAt w (.agg #[.bool s', .slice A' l' c']) n') (hne : g ≠ g') (hB : Below W0.heap.size W0 w) (hl : W0.heap.size ≤ g) (hl' : W0.heap.size ≤ g') :
  IntBx ((((w.setCell ⟨g, 0, none⟩ (.bool s)).setCell ⟨g, 1, none⟩ (.slice A l c)).setCell ⟨g', 0, none⟩ (.bool s')).setCell ⟨g', 1, none⟩ (.slice A' l' c')) g n ∧
  IntBx ((((w.setCell ⟨g, 0, none⟩ (.bool s)).setCell ⟨g, 1, none⟩ (.slice A l c)).setCell ⟨g', 0, none⟩ (.bool s')).setCell ⟨g', 1, none⟩ (.slice A' l' c')) g' n' ∧
  Below W0.heap.size W0 ((((w.setCell ⟨g, 0, none⟩ (.bool s)).setCell ⟨g, 1, none⟩ (.slice A l c)).setCell ⟨g', 0, none⟩ (.bool s')).setCell ⟨g', 1, none⟩ (.slice A' l' c')) := by
 have a := bx_same I h
 have b := bx_other I h (fun e => hne e.symm) J
 have c := at_put I h k
 exact ⟨bx_other b c hne a, bx_same b c, us (us (us (us hB hl) hl) hl') hl'⟩
theorem late2 {W0 : World} {s' : Bool} {A' : Option Addr} {l' c' : Nat} (h : IntAt w (.agg #[.bool s, .slice A l c]) n) (k : IntAt w (.agg #[.bool s', .slice A' l' c']) n') (hB : Below W0.heap.size W0 w) :
  IntBx ((w.alloc (.cells #[.bool s, .slice A l c] 49)).alloc (.cells #[.bool s', .slice A' l' c'] 49)) w.heap.size n ∧
  IntBx ((w.alloc (.cells #[.bool s, .slice A l c] 49)).alloc (.cells #[.bool s', .slice A' l' c'] 49)) (w.heap.size + 1) n' ∧
  Below W0.heap.size W0 ((w.alloc (.cells #[.bool s, .slice A l c] 49)).alloc (.cells #[.bool s', .slice A' l' c'] 49)) :=
 ⟨bx_alloc (bx_new0 h), bx_new1 (k.keep (Keep.alloc _ _)), ua (ua hB)⟩
theorem late2' {W0 : World} {s' : Bool} {A' : Option Addr} {l' c' : Nat} (h : IntAt w (.agg #[.bool s, .slice A l c]) n) (k : IntAt w (.agg #[.bool s', .slice A' l' c']) n') (hB : Below W0.heap.size W0 w) :
  IntBx ((w.alloc (.cells #[.bool s', .slice A' l' c'] 49)).alloc (.cells #[.bool s, .slice A l c] 49)) (w.heap.size + 1) n ∧
  IntBx ((w.alloc (.cells #[.bool s', .slice A' l' c'] 49)).alloc (.cells #[.bool s, .slice A l c] 49)) w.heap.size n' ∧
  Below W0.heap.size W0 ((w.alloc (.cells #[.bool s', .slice A' l' c'] 49)).alloc (.cells #[.bool s, .slice A l c] 49)) := by
 obtain ⟨a, b, c⟩ := late2 k h hB
 exact ⟨b, a, c⟩
theorem late_early {W0 : World} {s' : Bool} {A' : Option Addr} {l' c' : Nat} (h : IntAt w (.agg #[.bool s, .slice A l c]) n) (k : IntAt w (.agg #[.bool s', .slice A' l' c']) n') (J : IntBx w g' m) (hB : Below W0.heap.size W0 w) (hl : W0.heap.size ≤ g') :
  IntBx (((w.alloc (.cells #[.bool s, .slice A l c] 49)).setCell ⟨g', 0, none⟩ (.bool s')).setCell ⟨g', 1, none⟩ (.slice A' l' c')) w.heap.size n ∧
  IntBx (((w.alloc (.cells #[.bool s, .slice A l c] 49)).setCell ⟨g', 0, none⟩ (.bool s')).setCell ⟨g', 1, none⟩ (.slice A' l' c')) g' n' ∧
  Below W0.heap.size W0 (((w.alloc (.cells #[.bool s, .slice A l c] 49)).setCell ⟨g', 0, none⟩ (.bool s')).setCell ⟨g', 1, none⟩ (.slice A' l' c')) :=
 ⟨bx_other (bx_alloc J) (k.keep (Keep.alloc _ _)) (by have := J.lt; omega) (bx_new0 h), bx_same (bx_alloc J) (k.keep (Keep.alloc _ _)), us (us (ua hB) hl) hl⟩
theorem early_late {W0 : World} {s' : Bool} {A' : Option Addr} {l' c' : Nat} (I : IntBx w g m) (h : IntAt w (.agg #[.bool s, .slice A l c]) n) (k : IntAt w (.agg #[.bool s', .slice A' l' c']) n') (hB : Below W0.heap.size W0 w) (hl : W0.heap.size ≤ g) :
  IntBx (((((w.alloc (.cells #[.bool false, .slice none 0 0] 49)).setCell ⟨g, 0, none⟩ (.bool s)).setCell ⟨g, 1, none⟩ (.slice A l c)).setCell ⟨w.heap.size, 0, none⟩ (.bool s')).setCell ⟨w.heap.size, 1, none⟩ (.slice A' l' c')) g n ∧
  IntBx (((((w.alloc (.cells #[.bool false, .slice none 0 0] 49)).setCell ⟨g, 0, none⟩ (.bool s)).setCell ⟨g, 1, none⟩ (.slice A l c)).setCell ⟨w.heap.size, 0, none⟩ (.bool s')).setCell ⟨w.heap.size, 1, none⟩ (.slice A' l' c')) w.heap.size n' ∧
  Below W0.heap.size W0 (((((w.alloc (.cells #[.bool false, .slice none 0 0] 49)).setCell ⟨g, 0, none⟩ (.bool s)).setCell ⟨g, 1, none⟩ (.slice A l c)).setCell ⟨w.heap.size, 0, none⟩ (.bool s')).setCell ⟨w.heap.size, 1, none⟩ (.slice A' l' c')) :=
 two_early (bx_alloc I) (bx_new0 (IntAt.zero _)) (h.keep (Keep.alloc _ _)) (k.keep (Keep.alloc _ _)) (by have := I.lt; omega) (ua hB) hl hB.size
end
end Go.Proofs.YtoimnlnaaklinaaGreatDoor
