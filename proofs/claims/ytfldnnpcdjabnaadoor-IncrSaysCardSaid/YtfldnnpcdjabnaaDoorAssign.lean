/-
  The packages lits (its small functions) and assign (as far as D reaches), pace.New: each function by its contract.
-/
import Derived.Test.YtfldnnpcdjabnaaDoorHeap
set_option linter.unusedVariables false
set_option linter.unusedSimpArgs false
namespace Go.Proofs.YtfldnnpcdjabnaaDoor
open Go
attribute [local irreducible] Yields Does Run RunL AnyL Ct Reads Peek PeekN Poke Pick Fits Sub Ent Still Arr RArr Cells el stars In
abbrev AssF (b : Nat) (va : SV) (vals : List Int) : List HP := [Cells b 105 [va.v], Arr KI8 va.v vals]
theorem ass_new_ct (ρ : Frag) (m : Int) :
    Ct Tryd.prog 59 [int m] ρ [] (fun r => [hex fun b : Nat => hex fun va : SV => stars (pu (r = ptr b) :: AssF b va (List.replicate (cut m + 1).toNat 0))]) := by
  have hc : 0 ≤ cut m ∧ cut m ≤ 4000 := by simp only [cut]; omega
  (refine Ct.of_run Tryd.func59 rfl Tryd.ntmps59 rfl (Nat.le_of_ble_eq_true rfl) ?_)
  (repeat first | refine G1 ?_ | refine G2 ?_ | refine G3 ?_ | refine G4 ?_ | refine G5 rfl ?_ | refine G6 rfl ?_ | refine G7 rfl ?_)
  (focus (refine R0 ?_; refine lA ?_; refine R1 ?_; rotate_left))

  (repeat first | refine G1 ?_ | refine G2 ?_ | refine G3 ?_ | refine G4 ?_ | refine G5 rfl ?_ | refine G6 rfl ?_ | refine G7 rfl ?_)
  (focus (refine R0 ?_; refine lM ?_; refine lc [] rfl rfl (fun _ hle hA => cut_ct _ m) ?_; intro v4; (try dsimp only [List.cons_append, List.nil_append, List.append_nil]); (repeat (refine RunL.unpu fun h4 => ?_; try subst h4)); refine lv (by exact Yad) ?_; refine leS (by exact Dmk) ?_; intro v6; (try dsimp only [List.cons_append, List.nil_append, List.append_nil]); refine lv (by exact Ybd1 rfl) ?_; refine le (by exact Dbx) ?_; intro v8; (try dsimp only [List.cons_append, List.nil_append, List.append_nil]); refine RunL.unhex fun b8 => ?_; refine RunL.unhex fun hb => ?_; subst hb; refine lA ?_; refine R1 ?_; rotate_left))

  (repeat first | refine G1 ?_ | refine G2 ?_ | refine G3 ?_ | refine G4 ?_ | refine G5 rfl ?_ | refine G6 rfl ?_ | refine G7 rfl ?_)
  (refine Run.ret1 Tryd.results59 (by rfl) ?_)
  refine Ent.hex b8 (Ent.hex v6 (Ent.flat ?_))
  (focus ((repeat first | refine E1 ?_ ?_ | refine E2 ?_ | refine E3 ?_ | refine E4 ?_ | refine E5 ?_ | refine E6 ?_ | refine E7 ?_ | refine E8 ?_); exact E9; all_goals try first | rfl | assumption | omega))
theorem ass_vars_ct (ρ : Frag) (b : Nat) (va : SV) (vals : List Int) (hR : In (stars (AssF b va vals)) ρ) : Ct Tryd.prog 48 [ptr b] ρ [] (fun r => [pu (r = int ((vals.length : Int) - 1))]) := by
  obtain ⟨hC, hR⟩ := hR.stars_cons
  obtain ⟨h1, _⟩ := hR.stars_cons
  have hb := In.short (P := Tryd.prog) (K := KI8) h1
  (refine Ct.of_run Tryd.func48 rfl Tryd.ntmps48 rfl (Nat.le_of_ble_eq_true rfl) ?_)
  (repeat first | refine G1 ?_ | refine G2 ?_ | refine G3 ?_ | refine G4 ?_ | refine G5 rfl ?_ | refine G6 rfl ?_ | refine G7 rfl ?_)
  (focus (refine R0 ?_; refine lA ?_; refine R1 ?_; rotate_left))

  (repeat first | refine G1 ?_ | refine G2 ?_ | refine G3 ?_ | refine G4 ?_ | refine G5 rfl ?_ | refine G6 rfl ?_ | refine G7 rfl ?_)
  (focus (refine R0 ?_; refine lM ?_; refine lN ?_; refine lG ?_; refine lL ?_; refine lE ?_; refine lv (by exact Ysb) ?_; refine lA ?_; refine R1 ?_; rotate_left))

  (repeat first | refine G1 ?_ | refine G2 ?_ | refine G3 ?_ | refine G4 ?_ | refine G5 rfl ?_ | refine G6 rfl ?_ | refine G7 rfl ?_)
  (refine Run.ret1 Tryd.results48 (by rfl) ?_)
  (focus ((repeat first | refine E1 ?_ ?_ | refine E2 ?_ | refine E3 ?_ | refine E4 ?_ | refine E5 ?_ | refine E6 ?_ | refine E7 ?_ | refine E8 ?_); exact E9; all_goals try first | rfl | assumption | omega))
/-- xs, with z behind it till there are n. -/
def pad {α : Type} (xs : List α) (n : Nat) (z : α) : List α := xs ++ List.replicate (n - xs.length) z
theorem pad_self {α : Type} (xs : List α) (n : Nat) (z : α) (h : n ≤ xs.length) : pad xs n z = xs := by
  simp [pad, Nat.sub_eq_zero_of_le h]
theorem pad_more {α : Type} (xs : List α) (n : Nat) (z : α) (h : xs.length < n) : pad (xs ++ [z]) n z = pad xs n z := by
  simp only [pad, List.length_append, List.length_cons, List.length_nil, List.append_assoc, List.append_cancel_left_eq]
  have : n - xs.length = (n - (xs.length + (0 + 1))) + 1 := by omega
  rw [this, List.replicate_succ]; rfl
theorem length_pad {α : Type} (xs : List α) (n : Nat) (z : α) : (pad xs n z).length = max xs.length n := by simp [pad]; omega
theorem ass_grow_ct (ρ : Frag) (b : Nat) (va : SV) (vals : List Int) (m : Int) :
    Ct Tryd.prog 47 [ptr b, int m] ρ (AssF b va vals) (fun r => [hex fun va' : SV => stars (AssF b va' (pad vals (cut m + 1).toNat 0))]) := by
  have hc : 0 ≤ cut m ∧ cut m ≤ 4000 := by simp only [cut]; omega
  (refine Ct.of_run Tryd.func47 rfl Tryd.ntmps47 rfl (Nat.le_of_ble_eq_true rfl) ?_)
  (repeat first | refine G1 ?_ | refine G2 ?_ | refine G3 ?_ | refine G4 ?_ | refine G5 rfl ?_ | refine G6 rfl ?_ | refine G7 rfl ?_)
  refine Run.loopI (X := SV × List Int) (fun x => [(0, ptr b), (1, int m)]) (fun x => pu (pad x.2 (cut m + 1).toNat 0 = pad vals (cut m + 1).toNat 0) :: AssF b x.1 x.2) (fun x => 5000 - x.2.length) (va, vals) (Sub.cons rfl (Sub.cons rfl (Sub.nil _))) ?_ ?_
  · (focus ((repeat first | refine E1 ?_ ?_ | refine E2 ?_ | refine E3 ?_ | refine E4 ?_ | refine E5 ?_ | refine E6 ?_ | refine E7 ?_ | refine E8 ?_); exact E9; all_goals try first | rfl | assumption | omega))
  · rintro ⟨v, xs⟩ ih
    refine Run.unpu fun hp => ?_
    dsimp only at hp ⊢
    (repeat first | refine G1 ?_ | refine G2 ?_ | refine G3 ?_ | refine G4 ?_ | refine G5 rfl ?_ | refine G6 rfl ?_ | refine G7 rfl ?_)
    (focus (refine Run.planS mixed (.take 0 (.take 1 (.take 2 (.take 3 (.take 4 (.take 5 (.alt 6 (.take 7 (.done)) (.nomore)))))))) [(some 4, [0], []), (some 5, [4], [0]), (some 6, [5], [1]), (some 7, [6], [2]), (some 8, [7], [3]), (some 9, [1], []), (some 10, [9], [5]), (some 11, [8, 10], [4, 6])] (by kernel_rfl) (by kernel_rfl) (by kernel_rfl) ?_; refine dM rfl ?_; refine dN rfl ?_; refine dG rfl ?_; refine dL rfl ?_; refine dE rfl ?_; refine dM rfl ?_; refine R3 ?_; refine de [(4, _), (3, _), (2, _), (1, _), (0, _)] rfl (by exact Dcl [] rfl rfl (fun _ hle hA => cut_ct _ m)) rfl ?_ ?_; (focus (intro _; (try dsimp only [List.cons_append, List.nil_append, List.append_nil]); refine sE rfl ?_; refine sL rfl ?_; refine sG rfl ?_; refine sN rfl ?_; refine sM rfl ?_; exact Still.nil)); intro v10; (try dsimp only [List.cons_append, List.nil_append, List.append_nil]); (repeat (refine RunD.unpu fun h10 => ?_; try subst h10)); refine dv rfl (by exact Yle) ?_; refine R2 ?_; rotate_left))

    refine Run.condP rfl (fun c => ?_) (fun c => ?_)
    · (repeat first | refine G1 ?_ | refine G2 ?_ | refine G3 ?_ | refine G4 ?_ | refine G5 rfl ?_ | refine G6 rfl ?_ | refine G7 rfl ?_)
      (focus (refine R0 ?_; refine lM ?_; refine lM ?_; refine lN ?_; refine lG ?_; refine lL ?_; refine leS (by exact Db1) ?_; intro v17; (try dsimp only [List.cons_append, List.nil_append, List.append_nil]); refine leS (by exact Dap) ?_; intro v18; (try dsimp only [List.cons_append, List.nil_append, List.append_nil]); (repeat (refine RunL.unpu fun h18 => ?_; try subst h18)); refine lN ?_; refine lG ?_; refine ln (by exact Dst) ?_; intro _; (try dsimp only [List.cons_append, List.nil_append, List.append_nil]); refine R1 ?_; rotate_left))

      (repeat first | refine G1 ?_ | refine G2 ?_ | refine G3 ?_ | refine G4 ?_ | refine G5 rfl ?_ | refine G6 rfl ?_ | refine G7 rfl ?_)
      refine Run.weaken (Sub.cons rfl (Sub.cons rfl (Sub.nil _))) ?_ (ih (v18, xs ++ [0]) (by simp; omega))
      (focus ((repeat first | refine E1 ?_ ?_ | refine E2 ?_ | refine E3 ?_ | refine E4 ?_ | refine E5 ?_ | refine E6 ?_ | refine E7 ?_ | refine E8 ?_); exact E9; all_goals try first | rfl | assumption | omega))
      exact (pad_more _ _ _ (by omega)).trans hp
    · (repeat first | refine G1 ?_ | refine G2 ?_ | refine G3 ?_ | refine G4 ?_ | refine G5 rfl ?_ | refine G6 rfl ?_ | refine G7 rfl ?_)
      (refine Run.fin0 Tryd.results47 ?_)
      rw [← hp, pad_self _ _ _ (by omega)]
      refine Ent.hex v (Ent.flat ?_)
      (focus ((repeat first | refine E1 ?_ ?_ | refine E2 ?_ | refine E3 ?_ | refine E4 ?_ | refine E5 ?_ | refine E6 ?_ | refine E7 ?_ | refine E8 ?_); exact E9; all_goals try first | rfl | assumption | omega))
def isB (l n : Int) : Bool := decide (l ≠ 0 ∧ -n ≤ l ∧ l ≤ n)
theorem is_lit_ct (ρ : Frag) (l n : Int) (hn : -9223372036854775807 ≤ n) (hn' : n ≤ 9223372036854775807) : Ct Tryd.prog 53 [int l, int n] ρ [] (fun r => [pu (r = .bool (isB l n))]) := by
  (refine Ct.of_run Tryd.func53 rfl Tryd.ntmps53 rfl (Nat.le_of_ble_eq_true rfl) ?_)
  (repeat first | refine G1 ?_ | refine G2 ?_ | refine G3 ?_ | refine G4 ?_ | refine G5 rfl ?_ | refine G6 rfl ?_ | refine G7 rfl ?_)
  (focus (refine R0 ?_; refine lA ?_; refine R1 ?_; rotate_left))

  (repeat first | refine G1 ?_ | refine G2 ?_ | refine G3 ?_ | refine G4 ?_ | refine G5 rfl ?_ | refine G6 rfl ?_ | refine G7 rfl ?_)
  (focus (refine R0 ?_; refine lM ?_; refine lv (by exact Yne) ?_; refine lM ?_; (first | refine RunL.knownP (t := 7) rfl (fun c7 => ?_) (fun c7 => ?_) | refine RunL.known (t := 7) rfl (fun c7 => ?_) (fun c7 => ?_)); refine lT ?_; refine lM ?_; refine lT ?_; refine lM ?_; refine lT ?_; refine lv (by exact Yng) ?_; refine lT ?_; refine lv (by exact Yge) ?_; refine lv (by first | exact YpT | exact YpF | exact Yields.pickB rfl rfl rfl) ?_; refine lM ?_; (first | refine RunL.knownP (t := 13) rfl (fun c13 => ?_) (fun c13 => ?_) | refine RunL.known (t := 13) rfl (fun c13 => ?_) (fun c13 => ?_)); refine lT ?_; refine lM ?_; refine lT ?_; refine lM ?_; refine lT ?_; refine lv (by exact Yle) ?_; refine lv (by first | exact YpT | exact YpF | exact Yields.pickB rfl rfl rfl) ?_; refine lA ?_; refine R1 ?_; rotate_left; refine lF ?_; refine lF ?_; refine lF ?_; refine lv (by first | exact YpT | exact YpF | exact Yields.pickB rfl rfl rfl) ?_; refine lA ?_; refine R1 ?_; rotate_left; refine lF ?_; refine lF ?_; refine lF ?_; refine lF ?_; refine lv (by first | exact YpT | exact YpF | exact Yields.pickB rfl rfl rfl) ?_; refine lM ?_; refine lF ?_; refine lF ?_; refine lF ?_; refine lv (by first | exact YpT | exact YpF | exact Yields.pickB rfl rfl rfl) ?_; refine lA ?_; refine R1 ?_; rotate_left))

  (repeat first | refine G1 ?_ | refine G2 ?_ | refine G3 ?_ | refine G4 ?_ | refine G5 rfl ?_ | refine G6 rfl ?_ | refine G7 rfl ?_)
  all_goals
    (refine Run.ret1 Tryd.results53 (by rfl) ?_)
    (focus ((repeat first | refine E1 ?_ ?_ | refine E2 ?_ | refine E3 ?_ | refine E4 ?_ | refine E5 ?_ | refine E6 ?_ | refine E7 ?_ | refine E8 ?_); exact E9; all_goals try first | rfl | assumption | omega))
    first | (simp at c13; done) | simp [isB, *]
theorem var_ct (ρ : Frag) (l : Int) (hn : -9223372036854775807 ≤ l) (hn' : l ≤ 9223372036854775807) : Ct Tryd.prog 44 [int l] ρ [] (fun r => [pu (r = int (max l (-l)))]) := by
  (refine Ct.of_run Tryd.func44 rfl Tryd.ntmps44 rfl (Nat.le_of_ble_eq_true rfl) ?_)
  (repeat first | refine G1 ?_ | refine G2 ?_ | refine G3 ?_ | refine G4 ?_ | refine G5 rfl ?_ | refine G6 rfl ?_ | refine G7 rfl ?_)
  (focus (refine R0 ?_; refine lA ?_; refine R1 ?_; rotate_left))

  (repeat first | refine G1 ?_ | refine G2 ?_ | refine G3 ?_ | refine G4 ?_ | refine G5 rfl ?_ | refine G6 rfl ?_ | refine G7 rfl ?_)
  (focus (refine R0 ?_; refine lM ?_; refine lM ?_; refine lv (by exact Yng) ?_; refine lv (by exact Ymx) ?_; refine lA ?_; refine R1 ?_; rotate_left))

  (repeat first | refine G1 ?_ | refine G2 ?_ | refine G3 ?_ | refine G4 ?_ | refine G5 rfl ?_ | refine G6 rfl ?_ | refine G7 rfl ?_)
  (refine Run.ret1 Tryd.results44 (by rfl) ?_)
  (focus ((repeat first | refine E1 ?_ ?_ | refine E2 ?_ | refine E3 ?_ | refine E4 ?_ | refine E5 ?_ | refine E6 ?_ | refine E7 ?_ | refine E8 ?_); exact E9; all_goals try first | rfl | assumption | omega))
end Go.Proofs.YtfldnnpcdjabnaaDoor
