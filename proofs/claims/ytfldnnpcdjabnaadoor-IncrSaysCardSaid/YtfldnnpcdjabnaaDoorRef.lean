/-
  skolemmake.Near, Right, Small, Free, CNF; skolemref's Abs, SameInts, SameClauses; skolemref1.Rename.
-/
import Derived.Test.YtfldnnpcdjabnaaDoorMake2
set_option linter.unusedVariables false
set_option linter.unusedSimpArgs false
namespace Go.Proofs.YtfldnnpcdjabnaaDoor
open Go
def nearB (x : Int) : Bool := decide (-1152921504606846976 ≤ x)
attribute [local irreducible] Yields Does Run RunL AnyL Ct Reads Peek PeekN Poke Pick Fits Sub Ent Still Arr RArr Cells el stars In
theorem near_ct (ρ : Frag) (c : SV) (xs : List Int) (hR : In (RArr KInt c.v xs) ρ) : Ct Tryd.prog 14 [c.v] ρ [] (fun r => [pu (r = .bool (xs.all nearB))]) := by
  have h64 := In.i64 hR
  (refine Ct.of_run Tryd.func14 rfl Tryd.ntmps14 rfl (Nat.le_of_ble_eq_true rfl) ?_)
  (repeat first | refine G1 ?_ | refine G2 ?_ | refine G3 ?_ | refine G4 ?_ | refine G5 rfl ?_ | refine G6 rfl ?_ | refine G7 rfl ?_)
  (focus (refine R0 ?_; refine lA ?_; refine R1 ?_; rotate_left))

  (repeat first | refine G1 ?_ | refine G2 ?_ | refine G3 ?_ | refine G4 ?_ | refine G5 rfl ?_ | refine G6 rfl ?_ | refine G7 rfl ?_)
  (focus (refine R0 ?_; refine lA ?_; refine R1 ?_; rotate_left))

  (repeat first | refine G1 ?_ | refine G2 ?_ | refine G3 ?_ | refine G4 ?_ | refine G5 rfl ?_ | refine G6 rfl ?_ | refine G7 rfl ?_)
  refine Run.loopI (X := Int) (fun i => [(0, c.v), (3, int i)]) (fun i => [pu (0 ≤ i ∧ i ≤ xs.length ∧ (xs.take i.toNat).all nearB = true)]) (fun i => (xs.length - i).toNat) 0 (by (repeat (first | exact Sub.nil _ | refine Sub.cons rfl ?_))) ?_ ?_
  · (focus ((repeat first | refine E1 ?_ ?_ | refine E2 ?_ | refine E3 ?_ | refine E4 ?_ | refine E5 ?_ | refine E6 ?_ | refine E7 ?_ | refine E8 ?_); exact E9; all_goals try first | rfl | assumption | omega))
    exact ⟨by omega, by omega, rfl⟩
  · intro i ih
    refine Run.unpu fun hi => ?_
    obtain ⟨i0, i1, i2⟩ := hi
    (repeat first | refine G1 ?_ | refine G2 ?_ | refine G3 ?_ | refine G4 ?_ | refine G5 rfl ?_ | refine G6 rfl ?_ | refine G7 rfl ?_)
    (focus (refine R0 ?_; refine lM ?_; refine lM ?_; refine lE ?_; refine lv (by exact Ylt) ?_; refine R1 ?_; rotate_left))

    (repeat first | refine G1 ?_ | refine G2 ?_ | refine G3 ?_ | refine G4 ?_ | refine G5 rfl ?_ | refine G6 rfl ?_ | refine G7 rfl ?_)
    refine Run.condP rfl (fun c1 => ?_) (fun c1 => ?_)
    · have hmem : rd xs i ∈ xs := List.mem_of_getElem? (rd_some i0 c1)
      (repeat first | refine G1 ?_ | refine G2 ?_ | refine G3 ?_ | refine G4 ?_ | refine G5 rfl ?_ | refine G6 rfl ?_ | refine G7 rfl ?_)
      (focus (refine R0 ?_; refine lM ?_; refine lM ?_; refine lX ?_; refine lL ?_; refine lv (by exact Ylt) ?_; refine R1 ?_; rotate_left))

      (repeat first | refine G1 ?_ | refine G2 ?_ | refine G3 ?_ | refine G4 ?_ | refine G5 rfl ?_ | refine G6 rfl ?_ | refine G7 rfl ?_)
      refine Run.condP rfl (fun c2 => ?_) (fun c2 => ?_)
      · (repeat first | refine G1 ?_ | refine G2 ?_ | refine G3 ?_ | refine G4 ?_ | refine G5 rfl ?_ | refine G6 rfl ?_ | refine G7 rfl ?_)
        (focus (refine R0 ?_; refine lA ?_; refine R1 ?_; rotate_left))

        (repeat first | refine G1 ?_ | refine G2 ?_ | refine G3 ?_ | refine G4 ?_ | refine G5 rfl ?_ | refine G6 rfl ?_ | refine G7 rfl ?_)
        (refine Run.ret1 Tryd.results14 (by rfl) ?_)
        (focus ((repeat first | refine E1 ?_ ?_ | refine E2 ?_ | refine E3 ?_ | refine E4 ?_ | refine E5 ?_ | refine E6 ?_ | refine E7 ?_ | refine E8 ?_); exact E9; all_goals try first | rfl | assumption | omega))
        have : xs.all nearB = false := List.all_eq_false.2 ⟨_, hmem, by simp [nearB]; omega⟩
        rw [this]
      · (repeat first | refine G1 ?_ | refine G2 ?_ | refine G3 ?_ | refine G4 ?_ | refine G5 rfl ?_ | refine G6 rfl ?_ | refine G7 rfl ?_)
        (focus (refine R0 ?_; refine lM ?_; refine lv (by exact Yad) ?_; refine lA ?_; refine R1 ?_; rotate_left))

        (repeat first | refine G1 ?_ | refine G2 ?_ | refine G3 ?_ | refine G4 ?_ | refine G5 rfl ?_ | refine G6 rfl ?_ | refine G7 rfl ?_)
        refine Run.weaken (by (repeat (first | exact Sub.nil _ | refine Sub.cons rfl ?_))) ?_ (ih (i + 1) (by omega))
        (focus ((repeat first | refine E1 ?_ ?_ | refine E2 ?_ | refine E3 ?_ | refine E4 ?_ | refine E5 ?_ | refine E6 ?_ | refine E7 ?_ | refine E8 ?_); exact E9; all_goals try first | rfl | assumption | omega))
        refine ⟨by omega, by omega, ?_⟩
        rw [take_snoc xs i i0 c1, List.all_append, i2]
        simp [nearB]; omega
    · (repeat first | refine G1 ?_ | refine G2 ?_ | refine G3 ?_ | refine G4 ?_ | refine G5 rfl ?_ | refine G6 rfl ?_ | refine G7 rfl ?_)
      (focus (refine R0 ?_; refine lA ?_; refine R1 ?_; rotate_left))

      (repeat first | refine G1 ?_ | refine G2 ?_ | refine G3 ?_ | refine G4 ?_ | refine G5 rfl ?_ | refine G6 rfl ?_ | refine G7 rfl ?_)
      (refine Run.ret1 Tryd.results14 (by rfl) ?_)
      (focus ((repeat first | refine E1 ?_ ?_ | refine E2 ?_ | refine E3 ?_ | refine E4 ?_ | refine E5 ?_ | refine E6 ?_ | refine E7 ?_ | refine E8 ?_); exact E9; all_goals try first | rfl | assumption | omega))
      rw [List.take_of_length_le (by omega)] at i2
      rw [i2]
theorem right_ct (ρ : Frag) (c : SV) (xs : List Int) (v : Int) (hv : 0 ≤ v) (hv' : v ≤ 1000000) (hR : In (RArr KInt c.v xs) ρ) : Ct Tryd.prog 19 [c.v, int v] ρ [] (fun r => [pu (r = .bool (rowOk v xs))]) := by
  have h64 := In.i64 hR
  (refine Ct.of_run Tryd.func19 rfl Tryd.ntmps19 rfl (Nat.le_of_ble_eq_true rfl) ?_)
  (repeat first | refine G1 ?_ | refine G2 ?_ | refine G3 ?_ | refine G4 ?_ | refine G5 rfl ?_ | refine G6 rfl ?_ | refine G7 rfl ?_)
  (focus (refine R0 ?_; refine lA ?_; refine R1 ?_; rotate_left))

  (repeat first | refine G1 ?_ | refine G2 ?_ | refine G3 ?_ | refine G4 ?_ | refine G5 rfl ?_ | refine G6 rfl ?_ | refine G7 rfl ?_)
  (focus (refine R0 ?_; refine lA ?_; refine R1 ?_; rotate_left))

  (repeat first | refine G1 ?_ | refine G2 ?_ | refine G3 ?_ | refine G4 ?_ | refine G5 rfl ?_ | refine G6 rfl ?_ | refine G7 rfl ?_)
  refine Run.loopI (X := Int) (fun i => [(0, c.v), (1, int v), (5, int i)]) (fun i => [pu (0 ≤ i ∧ i ≤ xs.length ∧ rowOk v (xs.take i.toNat) = true)]) (fun i => (xs.length - i).toNat) 0 (by (repeat (first | exact Sub.nil _ | refine Sub.cons rfl ?_))) ?_ ?_
  · (focus ((repeat first | refine E1 ?_ ?_ | refine E2 ?_ | refine E3 ?_ | refine E4 ?_ | refine E5 ?_ | refine E6 ?_ | refine E7 ?_ | refine E8 ?_); exact E9; all_goals try first | rfl | assumption | omega))
    exact ⟨by omega, by omega, rfl⟩
  · intro i ih
    refine Run.unpu fun hi => ?_
    obtain ⟨i0, i1, i2⟩ := hi
    (repeat first | refine G1 ?_ | refine G2 ?_ | refine G3 ?_ | refine G4 ?_ | refine G5 rfl ?_ | refine G6 rfl ?_ | refine G7 rfl ?_)
    (focus (refine R0 ?_; refine lM ?_; refine lM ?_; refine lE ?_; refine lv (by exact Ylt) ?_; refine R1 ?_; rotate_left))

    (repeat first | refine G1 ?_ | refine G2 ?_ | refine G3 ?_ | refine G4 ?_ | refine G5 rfl ?_ | refine G6 rfl ?_ | refine G7 rfl ?_)
    refine Run.condP rfl (fun c1 => ?_) (fun c1 => ?_)
    · have hmem : rd xs i ∈ xs := List.mem_of_getElem? (rd_some i0 c1)
      have hbad : isB (rd xs i) v = false → rowOk v xs = false := fun h => by
        simp only [rowOk, Bool.not_eq_false', List.any_eq_true]
        exact ⟨_, hmem, by rw [h]; rfl⟩
      have hstep : isB (rd xs i) v = true → rowOk v (xs.take (i + 1).toNat) = true := fun h => by
        rw [take_snoc xs i i0 c1]
        simp only [rowOk, List.any_append, Bool.not_eq_true', Bool.or_eq_false_iff] at i2 ⊢
        exact ⟨i2, by simp [h]⟩
      (repeat first | refine G1 ?_ | refine G2 ?_ | refine G3 ?_ | refine G4 ?_ | refine G5 rfl ?_ | refine G6 rfl ?_ | refine G7 rfl ?_)
      (focus (refine R0 ?_; refine lM ?_; refine lM ?_; refine lX ?_; refine lL ?_; refine lv (by exact Yeq) ?_; refine lM ?_; (first | refine RunL.knownP (t := 17) rfl (fun c17 => ?_) (fun c17 => ?_) | refine RunL.known (t := 17) rfl (fun c17 => ?_) (fun c17 => ?_)); refine lF ?_; refine lF ?_; refine lF ?_; refine lF ?_; refine lF ?_; refine lF ?_; refine lv (by first | exact YpT | exact YpF | exact Yields.pickB rfl rfl rfl) ?_; refine lM ?_; refine lF ?_; refine lF ?_; refine lF ?_; refine lF ?_; refine lF ?_; refine lF ?_; refine lF ?_; refine lv (by first | exact YpT | exact YpF | exact Yields.pickB rfl rfl rfl) ?_; refine R1 ?_; rotate_left; refine lT ?_; refine lM ?_; refine lT ?_; refine lM ?_; refine lT ?_; refine lX ?_; refine lT ?_; refine lL ?_; refine lT ?_; refine lM ?_; refine lT ?_; refine lv (by exact Ygt) ?_; refine lv (by first | exact YpT | exact YpF | exact Yields.pickB rfl rfl rfl) ?_; refine lM ?_; (first | refine RunL.knownP (t := 25) rfl (fun c25 => ?_) (fun c25 => ?_) | refine RunL.known (t := 25) rfl (fun c25 => ?_) (fun c25 => ?_)); refine lF ?_; refine lF ?_; refine lF ?_; refine lF ?_; refine lF ?_; refine lF ?_; refine lF ?_; refine lv (by first | exact YpT | exact YpF | exact Yields.pickB rfl rfl rfl) ?_; refine R1 ?_; rotate_left; refine lT ?_; refine lM ?_; refine lT ?_; refine lM ?_; refine lT ?_; refine lX ?_; refine lT ?_; refine lL ?_; refine lT ?_; refine lM ?_; refine lT ?_; refine lv (by exact Yng) ?_; refine lT ?_; refine lv (by exact Ylt) ?_; refine lv (by first | exact YpT | exact YpF | exact Yields.pickB rfl rfl rfl) ?_; refine R1 ?_; rotate_left))

      (repeat first | refine G1 ?_ | refine G2 ?_ | refine G3 ?_ | refine G4 ?_ | refine G5 rfl ?_ | refine G6 rfl ?_ | refine G7 rfl ?_)
      · (repeat first | refine G1 ?_ | refine G2 ?_ | refine G3 ?_ | refine G4 ?_ | refine G5 rfl ?_ | refine G6 rfl ?_ | refine G7 rfl ?_)
        (focus (refine R0 ?_; refine lA ?_; refine R1 ?_; rotate_left))

        (repeat first | refine G1 ?_ | refine G2 ?_ | refine G3 ?_ | refine G4 ?_ | refine G5 rfl ?_ | refine G6 rfl ?_ | refine G7 rfl ?_)
        (refine Run.ret1 Tryd.results19 (by rfl) ?_)
        (focus ((repeat first | refine E1 ?_ ?_ | refine E2 ?_ | refine E3 ?_ | refine E4 ?_ | refine E5 ?_ | refine E6 ?_ | refine E7 ?_ | refine E8 ?_); exact E9; all_goals try first | rfl | assumption | omega))
        rw [hbad]
        simp only [isB, decide_eq_false_iff_not]; omega
      · (repeat first | refine G1 ?_ | refine G2 ?_ | refine G3 ?_ | refine G4 ?_ | refine G5 rfl ?_ | refine G6 rfl ?_ | refine G7 rfl ?_)
        (focus (refine R0 ?_; refine lA ?_; refine R1 ?_; rotate_left))

        (repeat first | refine G1 ?_ | refine G2 ?_ | refine G3 ?_ | refine G4 ?_ | refine G5 rfl ?_ | refine G6 rfl ?_ | refine G7 rfl ?_)
        (refine Run.ret1 Tryd.results19 (by rfl) ?_)
        (focus ((repeat first | refine E1 ?_ ?_ | refine E2 ?_ | refine E3 ?_ | refine E4 ?_ | refine E5 ?_ | refine E6 ?_ | refine E7 ?_ | refine E8 ?_); exact E9; all_goals try first | rfl | assumption | omega))
        rw [hbad]
        simp only [isB, decide_eq_false_iff_not]; omega
      · refine Run.condP rfl (fun c2 => ?_) (fun c2 => ?_)
        · (repeat first | refine G1 ?_ | refine G2 ?_ | refine G3 ?_ | refine G4 ?_ | refine G5 rfl ?_ | refine G6 rfl ?_ | refine G7 rfl ?_)
          (focus (refine R0 ?_; refine lA ?_; refine R1 ?_; rotate_left))

          (repeat first | refine G1 ?_ | refine G2 ?_ | refine G3 ?_ | refine G4 ?_ | refine G5 rfl ?_ | refine G6 rfl ?_ | refine G7 rfl ?_)
          (refine Run.ret1 Tryd.results19 (by rfl) ?_)
          (focus ((repeat first | refine E1 ?_ ?_ | refine E2 ?_ | refine E3 ?_ | refine E4 ?_ | refine E5 ?_ | refine E6 ?_ | refine E7 ?_ | refine E8 ?_); exact E9; all_goals try first | rfl | assumption | omega))
          rw [hbad]
          simp only [isB, decide_eq_false_iff_not]; omega
        · (repeat first | refine G1 ?_ | refine G2 ?_ | refine G3 ?_ | refine G4 ?_ | refine G5 rfl ?_ | refine G6 rfl ?_ | refine G7 rfl ?_)
          (focus (refine R0 ?_; refine lM ?_; refine lv (by exact Yad) ?_; refine lA ?_; refine R1 ?_; rotate_left))

          (repeat first | refine G1 ?_ | refine G2 ?_ | refine G3 ?_ | refine G4 ?_ | refine G5 rfl ?_ | refine G6 rfl ?_ | refine G7 rfl ?_)
          refine Run.weaken (by (repeat (first | exact Sub.nil _ | refine Sub.cons rfl ?_))) ?_ (ih (i + 1) (by omega))
          (focus ((repeat first | refine E1 ?_ ?_ | refine E2 ?_ | refine E3 ?_ | refine E4 ?_ | refine E5 ?_ | refine E6 ?_ | refine E7 ?_ | refine E8 ?_); exact E9; all_goals try first | rfl | assumption | omega))
          exact ⟨by omega, by omega, hstep (by simp only [isB, decide_eq_true_eq]; omega)⟩
    · (repeat first | refine G1 ?_ | refine G2 ?_ | refine G3 ?_ | refine G4 ?_ | refine G5 rfl ?_ | refine G6 rfl ?_ | refine G7 rfl ?_)
      (focus (refine R0 ?_; refine lA ?_; refine R1 ?_; rotate_left))

      (repeat first | refine G1 ?_ | refine G2 ?_ | refine G3 ?_ | refine G4 ?_ | refine G5 rfl ?_ | refine G6 rfl ?_ | refine G7 rfl ?_)
      (refine Run.ret1 Tryd.results19 (by rfl) ?_)
      (focus ((repeat first | refine E1 ?_ ?_ | refine E2 ?_ | refine E3 ?_ | refine E4 ?_ | refine E5 ?_ | refine E6 ?_ | refine E7 ?_ | refine E8 ?_); exact E9; all_goals try first | rfl | assumption | omega))
      rw [List.take_of_length_le (by omega)] at i2
      rw [i2]
theorem abs_ct (ρ : Frag) (l : Int) (h : -9223372036854775807 ≤ l) (h' : l ≤ 9223372036854775807) : Ct Tryd.prog 31 [int l] ρ [] (fun r => [pu (r = int (max l (-l)))]) := by
  (refine Ct.of_run Tryd.func31 rfl Tryd.ntmps31 rfl (Nat.le_of_ble_eq_true rfl) ?_)
  (repeat first | refine G1 ?_ | refine G2 ?_ | refine G3 ?_ | refine G4 ?_ | refine G5 rfl ?_ | refine G6 rfl ?_ | refine G7 rfl ?_)
  (focus (refine R0 ?_; refine lA ?_; refine R1 ?_; rotate_left))

  (repeat first | refine G1 ?_ | refine G2 ?_ | refine G3 ?_ | refine G4 ?_ | refine G5 rfl ?_ | refine G6 rfl ?_ | refine G7 rfl ?_)
  (focus (refine R0 ?_; refine lM ?_; refine lv (by exact Ylt) ?_; refine R1 ?_; rotate_left))

  (repeat first | refine G1 ?_ | refine G2 ?_ | refine G3 ?_ | refine G4 ?_ | refine G5 rfl ?_ | refine G6 rfl ?_ | refine G7 rfl ?_)
  refine Run.condP rfl (fun c => ?_) (fun c => ?_)
  · (repeat first | refine G1 ?_ | refine G2 ?_ | refine G3 ?_ | refine G4 ?_ | refine G5 rfl ?_ | refine G6 rfl ?_ | refine G7 rfl ?_)
    (focus (refine R0 ?_; refine lM ?_; refine lv (by exact Yng) ?_; refine lA ?_; refine R1 ?_; rotate_left))

    (repeat first | refine G1 ?_ | refine G2 ?_ | refine G3 ?_ | refine G4 ?_ | refine G5 rfl ?_ | refine G6 rfl ?_ | refine G7 rfl ?_)
    (refine Run.ret1 Tryd.results31 (by rfl) ?_)
    (focus ((repeat first | refine E1 ?_ ?_ | refine E2 ?_ | refine E3 ?_ | refine E4 ?_ | refine E5 ?_ | refine E6 ?_ | refine E7 ?_ | refine E8 ?_); exact E9; all_goals try first | rfl | assumption | omega))
    congr 1; omega
  · (repeat first | refine G1 ?_ | refine G2 ?_ | refine G3 ?_ | refine G4 ?_ | refine G5 rfl ?_ | refine G6 rfl ?_ | refine G7 rfl ?_)
    (focus (refine R0 ?_; refine lM ?_; refine lA ?_; refine R1 ?_; rotate_left))

    (repeat first | refine G1 ?_ | refine G2 ?_ | refine G3 ?_ | refine G4 ?_ | refine G5 rfl ?_ | refine G6 rfl ?_ | refine G7 rfl ?_)
    (refine Run.ret1 Tryd.results31 (by rfl) ?_)
    (focus ((repeat first | refine E1 ?_ ?_ | refine E2 ?_ | refine E3 ?_ | refine E4 ?_ | refine E5 ?_ | refine E6 ?_ | refine E7 ?_ | refine E8 ?_); exact E9; all_goals try first | rfl | assumption | omega))
    congr 1; omega
theorem eq_of_rd {α : Type} [Inhabited α] {xs ys : List α} (hl : xs.length = ys.length) (h : ∀ i : Int, 0 ≤ i → i < xs.length → rd xs i = rd ys i) : xs = ys := by
  apply List.ext_getElem hl
  intro j h1 h2
  have := h j (by omega) (by omega)
  simpa [rd, List.getD_eq_getElem?_getD, h1, h2] using this
theorem sameInts_ct (ρ : Frag) (a b : SV) (xs ys : List Int) (hA : In (RArr KInt a.v xs) ρ) (hB : In (RArr KInt b.v ys) ρ) : Ct Tryd.prog 32 [a.v, b.v] ρ [] (fun r => [pu (r = .bool (decide (xs = ys)))]) := by
  have h64 := In.i64 hA
  have h64' := In.i64 hB
  (refine Ct.of_run Tryd.func32 rfl Tryd.ntmps32 rfl (Nat.le_of_ble_eq_true rfl) ?_)
  (repeat first | refine G1 ?_ | refine G2 ?_ | refine G3 ?_ | refine G4 ?_ | refine G5 rfl ?_ | refine G6 rfl ?_ | refine G7 rfl ?_)
  (focus (refine R0 ?_; refine lA ?_; refine R1 ?_; rotate_left))

  (repeat first | refine G1 ?_ | refine G2 ?_ | refine G3 ?_ | refine G4 ?_ | refine G5 rfl ?_ | refine G6 rfl ?_ | refine G7 rfl ?_)
  (focus (refine R0 ?_; refine lM ?_; refine lE ?_; refine lM ?_; refine lE ?_; refine lv (by exact Yne) ?_; refine R1 ?_; rotate_left))

  (repeat first | refine G1 ?_ | refine G2 ?_ | refine G3 ?_ | refine G4 ?_ | refine G5 rfl ?_ | refine G6 rfl ?_ | refine G7 rfl ?_)
  refine Run.condP rfl (fun c => ?_) (fun c => ?_)
  · (repeat first | refine G1 ?_ | refine G2 ?_ | refine G3 ?_ | refine G4 ?_ | refine G5 rfl ?_ | refine G6 rfl ?_ | refine G7 rfl ?_)
    (focus (refine R0 ?_; refine lA ?_; refine R1 ?_; rotate_left))

    (repeat first | refine G1 ?_ | refine G2 ?_ | refine G3 ?_ | refine G4 ?_ | refine G5 rfl ?_ | refine G6 rfl ?_ | refine G7 rfl ?_)
    (refine Run.ret1 Tryd.results32 (by rfl) ?_)
    (focus ((repeat first | refine E1 ?_ ?_ | refine E2 ?_ | refine E3 ?_ | refine E4 ?_ | refine E5 ?_ | refine E6 ?_ | refine E7 ?_ | refine E8 ?_); exact E9; all_goals try first | rfl | assumption | omega))
    have : xs ≠ ys := fun e => c (by rw [e])
    simp [this]
  · (repeat first | refine G1 ?_ | refine G2 ?_ | refine G3 ?_ | refine G4 ?_ | refine G5 rfl ?_ | refine G6 rfl ?_ | refine G7 rfl ?_)
    (focus (refine R0 ?_; refine lA ?_; refine R1 ?_; rotate_left))

    (repeat first | refine G1 ?_ | refine G2 ?_ | refine G3 ?_ | refine G4 ?_ | refine G5 rfl ?_ | refine G6 rfl ?_ | refine G7 rfl ?_)
    refine Run.loopI (X := Int) (fun i => [(0, a.v), (1, b.v), (5, int i)]) (fun i => [pu (0 ≤ i ∧ i ≤ xs.length ∧ ∀ j : Int, 0 ≤ j → j < i → rd xs j = rd ys j)]) (fun i => (xs.length - i).toNat) 0 (by (repeat (first | exact Sub.nil _ | refine Sub.cons rfl ?_))) ?_ ?_
    · (focus ((repeat first | refine E1 ?_ ?_ | refine E2 ?_ | refine E3 ?_ | refine E4 ?_ | refine E5 ?_ | refine E6 ?_ | refine E7 ?_ | refine E8 ?_); exact E9; all_goals try first | rfl | assumption | omega))
      exact ⟨by omega, by omega, fun j h1 h2 => by omega⟩
    · intro i ih
      refine Run.unpu fun hi => ?_
      obtain ⟨i0, i1, i2⟩ := hi
      (repeat first | refine G1 ?_ | refine G2 ?_ | refine G3 ?_ | refine G4 ?_ | refine G5 rfl ?_ | refine G6 rfl ?_ | refine G7 rfl ?_)
      (focus (refine R0 ?_; refine lM ?_; refine lM ?_; refine lE ?_; refine lv (by exact Ylt) ?_; refine R1 ?_; rotate_left))

      (repeat first | refine G1 ?_ | refine G2 ?_ | refine G3 ?_ | refine G4 ?_ | refine G5 rfl ?_ | refine G6 rfl ?_ | refine G7 rfl ?_)
      refine Run.condP rfl (fun c1 => ?_) (fun c1 => ?_)
      · (repeat first | refine G1 ?_ | refine G2 ?_ | refine G3 ?_ | refine G4 ?_ | refine G5 rfl ?_ | refine G6 rfl ?_ | refine G7 rfl ?_)
        (focus (refine Run.planS mixed (.take 0 (.take 1 (.take 2 (.take 3 (.take 4 (.take 5 (.take 6 (.take 7 (.take 8 (.take 9 (.done))))))))))) [(some 18, [0], []), (some 19, [5], []), (some 20, [18, 19], [0, 1]), (some 21, [20], [2]), (some 22, [1], []), (some 23, [5], []), (some 24, [22, 23], [4, 5]), (some 25, [24], [6]), (some 26, [21, 25], [3, 7]), (some 6, [26], [8, 0, 1, 2, 3, 4, 5, 6, 7, 8])] (by kernel_rfl) (by kernel_rfl) (by kernel_rfl) ?_; refine dM rfl ?_; refine dM rfl ?_; refine dX rfl ?_; refine dL rfl ?_; refine dM rfl ?_; refine dM rfl ?_; refine dX rfl ?_; refine dL rfl ?_; refine dv rfl (by exact Yeq) ?_; refine dA rfl ?_; refine R2 ?_; rotate_left))

        (repeat first | refine G1 ?_ | refine G2 ?_ | refine G3 ?_ | refine G4 ?_ | refine G5 rfl ?_ | refine G6 rfl ?_ | refine G7 rfl ?_)
        (focus (refine R0 ?_; refine lM ?_; refine lv (by first | exact YnP | exact Ynt) ?_; refine R1 ?_; rotate_left))

        (repeat first | refine G1 ?_ | refine G2 ?_ | refine G3 ?_ | refine G4 ?_ | refine G5 rfl ?_ | refine G6 rfl ?_ | refine G7 rfl ?_)
        refine Run.condP rfl (fun c2 => ?_) (fun c2 => ?_)
        · (repeat first | refine G1 ?_ | refine G2 ?_ | refine G3 ?_ | refine G4 ?_ | refine G5 rfl ?_ | refine G6 rfl ?_ | refine G7 rfl ?_)
          (focus (refine R0 ?_; refine lA ?_; refine R1 ?_; rotate_left))

          (repeat first | refine G1 ?_ | refine G2 ?_ | refine G3 ?_ | refine G4 ?_ | refine G5 rfl ?_ | refine G6 rfl ?_ | refine G7 rfl ?_)
          (refine Run.ret1 Tryd.results32 (by rfl) ?_)
          (focus ((repeat first | refine E1 ?_ ?_ | refine E2 ?_ | refine E3 ?_ | refine E4 ?_ | refine E5 ?_ | refine E6 ?_ | refine E7 ?_ | refine E8 ?_); exact E9; all_goals try first | rfl | assumption | omega))
          have : xs ≠ ys := fun e => c2 (by rw [e])
          simp [this]
        · (repeat first | refine G1 ?_ | refine G2 ?_ | refine G3 ?_ | refine G4 ?_ | refine G5 rfl ?_ | refine G6 rfl ?_ | refine G7 rfl ?_)
          (focus (refine R0 ?_; refine lM ?_; refine lv (by exact Yad) ?_; refine lA ?_; refine R1 ?_; rotate_left))

          (repeat first | refine G1 ?_ | refine G2 ?_ | refine G3 ?_ | refine G4 ?_ | refine G5 rfl ?_ | refine G6 rfl ?_ | refine G7 rfl ?_)
          refine Run.weaken (by (repeat (first | exact Sub.nil _ | refine Sub.cons rfl ?_))) ?_ (ih (i + 1) (by omega))
          (focus ((repeat first | refine E1 ?_ ?_ | refine E2 ?_ | refine E3 ?_ | refine E4 ?_ | refine E5 ?_ | refine E6 ?_ | refine E7 ?_ | refine E8 ?_); exact E9; all_goals try first | rfl | assumption | omega))
          refine ⟨by omega, by omega, fun j h1 h2 => ?_⟩
          by_cases e : j = i
          · subst e; exact Decidable.not_not.1 c2
          · exact i2 j h1 (by omega)
      · (repeat first | refine G1 ?_ | refine G2 ?_ | refine G3 ?_ | refine G4 ?_ | refine G5 rfl ?_ | refine G6 rfl ?_ | refine G7 rfl ?_)
        (focus (refine R0 ?_; refine lA ?_; refine R1 ?_; rotate_left))

        (repeat first | refine G1 ?_ | refine G2 ?_ | refine G3 ?_ | refine G4 ?_ | refine G5 rfl ?_ | refine G6 rfl ?_ | refine G7 rfl ?_)
        (refine Run.ret1 Tryd.results32 (by rfl) ?_)
        (focus ((repeat first | refine E1 ?_ ?_ | refine E2 ?_ | refine E3 ?_ | refine E4 ?_ | refine E5 ?_ | refine E6 ?_ | refine E7 ?_ | refine E8 ?_); exact E9; all_goals try first | rfl | assumption | omega))
        have : xs = ys := eq_of_rd (by omega) fun j h1 h2 => i2 j h1 (by omega)
        simp [this]
theorem sameClauses_ct (ρ : Frag) (a b : SV) (la lb : List SV) (xs ys : List (List Int)) (hA : In (RArr KSl a.v la) ρ) (hB : In (RArr KSl b.v lb) ρ) (hX : Rows KInt ρ la xs) (hY : Rows KInt ρ lb ys) :
    Ct Tryd.prog 20 [a.v, b.v] ρ [] (fun r => [pu (r = .bool (decide (xs = ys)))]) := by
  have hfa := In.fits hA
  have hfb := In.fits hB
  simp only [EK.b] at hfa hfb
  have hl1 := hX.1
  have hl2 := hY.1
  (refine Ct.of_run Tryd.func20 rfl Tryd.ntmps20 rfl (Nat.le_of_ble_eq_true rfl) ?_)
  (repeat first | refine G1 ?_ | refine G2 ?_ | refine G3 ?_ | refine G4 ?_ | refine G5 rfl ?_ | refine G6 rfl ?_ | refine G7 rfl ?_)
  (focus (refine R0 ?_; refine lA ?_; refine R1 ?_; rotate_left))

  (repeat first | refine G1 ?_ | refine G2 ?_ | refine G3 ?_ | refine G4 ?_ | refine G5 rfl ?_ | refine G6 rfl ?_ | refine G7 rfl ?_)
  (focus (refine R0 ?_; refine lM ?_; refine lE ?_; refine lM ?_; refine lE ?_; refine lv (by exact Yne) ?_; refine R1 ?_; rotate_left))

  (repeat first | refine G1 ?_ | refine G2 ?_ | refine G3 ?_ | refine G4 ?_ | refine G5 rfl ?_ | refine G6 rfl ?_ | refine G7 rfl ?_)
  refine Run.condP rfl (fun c => ?_) (fun c => ?_)
  · (repeat first | refine G1 ?_ | refine G2 ?_ | refine G3 ?_ | refine G4 ?_ | refine G5 rfl ?_ | refine G6 rfl ?_ | refine G7 rfl ?_)
    (focus (refine R0 ?_; refine lA ?_; refine R1 ?_; rotate_left))

    (repeat first | refine G1 ?_ | refine G2 ?_ | refine G3 ?_ | refine G4 ?_ | refine G5 rfl ?_ | refine G6 rfl ?_ | refine G7 rfl ?_)
    (refine Run.ret1 Tryd.results20 (by rfl) ?_)
    (focus ((repeat first | refine E1 ?_ ?_ | refine E2 ?_ | refine E3 ?_ | refine E4 ?_ | refine E5 ?_ | refine E6 ?_ | refine E7 ?_ | refine E8 ?_); exact E9; all_goals try first | rfl | assumption | omega))
    have : xs ≠ ys := fun e => c (by rw [hl1, hl2, e])
    simp [this]
  · have hls : la.length = lb.length := by omega
    (repeat first | refine G1 ?_ | refine G2 ?_ | refine G3 ?_ | refine G4 ?_ | refine G5 rfl ?_ | refine G6 rfl ?_ | refine G7 rfl ?_)
    (focus (refine R0 ?_; refine lA ?_; refine R1 ?_; rotate_left))

    (repeat first | refine G1 ?_ | refine G2 ?_ | refine G3 ?_ | refine G4 ?_ | refine G5 rfl ?_ | refine G6 rfl ?_ | refine G7 rfl ?_)
    refine Run.loopI (X := Int) (fun i => [(0, a.v), (1, b.v), (5, int i)]) (fun i => [pu (0 ≤ i ∧ i ≤ xs.length ∧ ∀ j : Int, 0 ≤ j → j < i → rd xs j = rd ys j)]) (fun i => (xs.length - i).toNat) 0 (by (repeat (first | exact Sub.nil _ | refine Sub.cons rfl ?_))) ?_ ?_
    · (focus ((repeat first | refine E1 ?_ ?_ | refine E2 ?_ | refine E3 ?_ | refine E4 ?_ | refine E5 ?_ | refine E6 ?_ | refine E7 ?_ | refine E8 ?_); exact E9; all_goals try first | rfl | assumption | omega))
      exact ⟨by omega, by omega, fun j h1 h2 => by omega⟩
    · intro i ih
      refine Run.unpu fun hi => ?_
      obtain ⟨i0, i1, i2⟩ := hi
      (repeat first | refine G1 ?_ | refine G2 ?_ | refine G3 ?_ | refine G4 ?_ | refine G5 rfl ?_ | refine G6 rfl ?_ | refine G7 rfl ?_)
      (focus (refine R0 ?_; refine lM ?_; refine lM ?_; refine lE ?_; refine lv (by exact Ylt) ?_; refine R1 ?_; rotate_left))

      (repeat first | refine G1 ?_ | refine G2 ?_ | refine G3 ?_ | refine G4 ?_ | refine G5 rfl ?_ | refine G6 rfl ?_ | refine G7 rfl ?_)
      refine Run.condP rfl (fun c1 => ?_) (fun c1 => ?_)
      · have hx := hX.2 i i0 (by omega)
        have hy := hY.2 i i0 (by omega)
        (repeat first | refine G1 ?_ | refine G2 ?_ | refine G3 ?_ | refine G4 ?_ | refine G5 rfl ?_ | refine G6 rfl ?_ | refine G7 rfl ?_)
        (focus (refine Run.planS mixed (.take 0 (.take 1 (.take 2 (.take 3 (.take 4 (.take 5 (.take 6 (.take 7 (.alt 8 (.take 9 (.done)) (.nomore)))))))))) [(some 18, [0], []), (some 19, [5], []), (some 20, [18, 19], [0, 1]), (some 21, [20], [2]), (some 22, [1], []), (some 23, [5], []), (some 24, [22, 23], [4, 5]), (some 25, [24], [6]), (some 26, [21, 25], [3, 7]), (some 6, [26], [8, 8, 0, 1, 2, 3, 4, 5, 6, 7, 8])] (by kernel_rfl) (by kernel_rfl) (by kernel_rfl) ?_; refine dM rfl ?_; refine dM rfl ?_; refine dX rfl ?_; refine dL rfl ?_; refine dM rfl ?_; refine dM rfl ?_; refine dX rfl ?_; refine dL rfl ?_; refine R3 ?_; refine de [(6, _), (5, _), (4, _), (2, _), (1, _), (0, _)] rfl (by exact Dcl [] rfl rfl (fun _ hle hA => sameInts_ct _ (rd la i) (rd lb i) (rd xs i) (rd ys i) (hx.mono hle) (hy.mono hle))) rfl ?_ ?_; (focus (intro _; (try dsimp only [List.cons_append, List.nil_append, List.append_nil]); refine sX rfl ?_; refine sM rfl ?_; refine sM rfl ?_; refine sX rfl ?_; refine sM rfl ?_; refine sM rfl ?_; exact Still.nil)); intro v26; (try dsimp only [List.cons_append, List.nil_append, List.append_nil]); (repeat (refine RunD.unpu fun h26 => ?_; try subst h26)); refine dA rfl ?_; refine R2 ?_; rotate_left))

        (repeat first | refine G1 ?_ | refine G2 ?_ | refine G3 ?_ | refine G4 ?_ | refine G5 rfl ?_ | refine G6 rfl ?_ | refine G7 rfl ?_)
        (repeat first | refine G1 ?_ | refine G2 ?_ | refine G3 ?_ | refine G4 ?_ | refine G5 rfl ?_ | refine G6 rfl ?_ | refine G7 rfl ?_)
        (focus (refine R0 ?_; refine lM ?_; refine lv (by first | exact YnP | exact Ynt) ?_; refine R1 ?_; rotate_left))

        (repeat first | refine G1 ?_ | refine G2 ?_ | refine G3 ?_ | refine G4 ?_ | refine G5 rfl ?_ | refine G6 rfl ?_ | refine G7 rfl ?_)
        refine Run.condP rfl (fun c2 => ?_) (fun c2 => ?_)
        · (repeat first | refine G1 ?_ | refine G2 ?_ | refine G3 ?_ | refine G4 ?_ | refine G5 rfl ?_ | refine G6 rfl ?_ | refine G7 rfl ?_)
          (focus (refine R0 ?_; refine lA ?_; refine R1 ?_; rotate_left))

          (repeat first | refine G1 ?_ | refine G2 ?_ | refine G3 ?_ | refine G4 ?_ | refine G5 rfl ?_ | refine G6 rfl ?_ | refine G7 rfl ?_)
          (refine Run.ret1 Tryd.results20 (by rfl) ?_)
          (focus ((repeat first | refine E1 ?_ ?_ | refine E2 ?_ | refine E3 ?_ | refine E4 ?_ | refine E5 ?_ | refine E6 ?_ | refine E7 ?_ | refine E8 ?_); exact E9; all_goals try first | rfl | assumption | omega))
          have : xs ≠ ys := fun e => c2 (by rw [e])
          simp [this]
        · (repeat first | refine G1 ?_ | refine G2 ?_ | refine G3 ?_ | refine G4 ?_ | refine G5 rfl ?_ | refine G6 rfl ?_ | refine G7 rfl ?_)
          (focus (refine R0 ?_; refine lM ?_; refine lv (by exact Yad) ?_; refine lA ?_; refine R1 ?_; rotate_left))

          (repeat first | refine G1 ?_ | refine G2 ?_ | refine G3 ?_ | refine G4 ?_ | refine G5 rfl ?_ | refine G6 rfl ?_ | refine G7 rfl ?_)
          refine Run.weaken (by (repeat (first | exact Sub.nil _ | refine Sub.cons rfl ?_))) ?_ (ih (i + 1) (by omega))
          (focus ((repeat first | refine E1 ?_ ?_ | refine E2 ?_ | refine E3 ?_ | refine E4 ?_ | refine E5 ?_ | refine E6 ?_ | refine E7 ?_ | refine E8 ?_); exact E9; all_goals try first | rfl | assumption | omega))
          refine ⟨by omega, by omega, fun j h1 h2 => ?_⟩
          by_cases e : j = i
          · subst e; exact Decidable.not_not.1 c2
          · exact i2 j h1 (by omega)
      · (repeat first | refine G1 ?_ | refine G2 ?_ | refine G3 ?_ | refine G4 ?_ | refine G5 rfl ?_ | refine G6 rfl ?_ | refine G7 rfl ?_)
        (focus (refine R0 ?_; refine lA ?_; refine R1 ?_; rotate_left))

        (repeat first | refine G1 ?_ | refine G2 ?_ | refine G3 ?_ | refine G4 ?_ | refine G5 rfl ?_ | refine G6 rfl ?_ | refine G7 rfl ?_)
        (refine Run.ret1 Tryd.results20 (by rfl) ?_)
        (focus ((repeat first | refine E1 ?_ ?_ | refine E2 ?_ | refine E3 ?_ | refine E4 ?_ | refine E5 ?_ | refine E6 ?_ | refine E7 ?_ | refine E8 ?_); exact E9; all_goals try first | rfl | assumption | omega))
        have : xs = ys := eq_of_rd (by omega) fun j h1 h2 => i2 j h1 (by omega)
        simp [this]
end Go.Proofs.YtfldnnpcdjabnaaDoor
