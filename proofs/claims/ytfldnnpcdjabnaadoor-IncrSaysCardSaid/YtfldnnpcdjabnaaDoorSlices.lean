/-
  Of the package slices: what copies and what looks.
-/
import Derived.Test.YtfldnnpcdjabnaaDoorAssign
set_option linter.unusedVariables false
set_option linter.unusedSimpArgs false
namespace Go.Proofs.YtfldnnpcdjabnaaDoor
open Go
attribute [local irreducible] Yields Does Run RunL AnyL Ct Reads Peek PeekN Poke Pick Fits Sub Ent Still Arr RArr Cells el stars In
theorem clone_ct (ρ : Frag) (s : SV) (xs : List Int) (hR : In (RArr KInt s.v xs) ρ) : Ct Tryd.prog 35 [s.v] ρ [] (fun r => [hex fun t : SV => stars [pu (r = t.v), Arr KInt t.v xs]]) := by
  have hfits := In.i64 hR
  (refine Ct.of_run Tryd.func35 rfl Tryd.ntmps35 rfl (Nat.le_of_ble_eq_true rfl) ?_)
  (repeat first | refine G1 ?_ | refine G2 ?_ | refine G3 ?_ | refine G4 ?_ | refine G5 rfl ?_ | refine G6 rfl ?_ | refine G7 rfl ?_)
  (focus (refine R0 ?_; refine lv (by exact YaN) ?_; refine R1 ?_; rotate_left))

  (repeat first | refine G1 ?_ | refine G2 ?_ | refine G3 ?_ | refine G4 ?_ | refine G5 rfl ?_ | refine G6 rfl ?_ | refine G7 rfl ?_)
  (focus (refine R0 ?_; refine lM ?_; refine lv (by first | exact Yields.eqlPN rfl | exact Yields.eqlSN rfl | exact Yields.eqlIN rfl | exact Yields.eqlIV rfl) ?_; refine R1 ?_; rotate_left))

  (repeat first | refine G1 ?_ | refine G2 ?_ | refine G3 ?_ | refine G4 ?_ | refine G5 rfl ?_ | refine G6 rfl ?_ | refine G7 rfl ?_)
  refine Run.cond rfl (fun c => ?_) (fun c => ?_)
  · have := hR.nilR c
    subst this
    (repeat first | refine G1 ?_ | refine G2 ?_ | refine G3 ?_ | refine G4 ?_ | refine G5 rfl ?_ | refine G6 rfl ?_ | refine G7 rfl ?_)
    (focus (refine R0 ?_; refine lv (by exact YaN) ?_; refine R1 ?_; rotate_left))

    (repeat first | refine G1 ?_ | refine G2 ?_ | refine G3 ?_ | refine G4 ?_ | refine G5 rfl ?_ | refine G6 rfl ?_ | refine G7 rfl ?_)
    (refine Run.ret1 Tryd.results35 (by rfl) ?_)
    refine Ent.hex nilS (Ent.flat ?_)
    (focus ((repeat first | refine E1 ?_ ?_ | refine E2 ?_ | refine E3 ?_ | refine E4 ?_ | refine E5 ?_ | refine E6 ?_ | refine E7 ?_ | refine E8 ?_); exact E9; all_goals try first | rfl | assumption | omega))
  · (repeat first | refine G1 ?_ | refine G2 ?_ | refine G3 ?_ | refine G4 ?_ | refine G5 rfl ?_ | refine G6 rfl ?_ | refine G7 rfl ?_)
    (focus (refine R0 ?_; refine leS (by exact Db0) ?_; intro v5; (try dsimp only [List.cons_append, List.nil_append, List.append_nil]); refine lM ?_; refine leS (by exact Dap) ?_; intro v7; (try dsimp only [List.cons_append, List.nil_append, List.append_nil]); (repeat (refine RunL.unpu fun h7 => ?_; try subst h7)); refine lA ?_; refine R1 ?_; rotate_left))

    (repeat first | refine G1 ?_ | refine G2 ?_ | refine G3 ?_ | refine G4 ?_ | refine G5 rfl ?_ | refine G6 rfl ?_ | refine G7 rfl ?_)
    (refine Run.ret1 Tryd.results35 (by rfl) ?_)
    refine Ent.hex v7 (Ent.flat ?_)
    (focus ((repeat first | refine E1 ?_ ?_ | refine E2 ?_ | refine E3 ?_ | refine E4 ?_ | refine E5 ?_ | refine E6 ?_ | refine E7 ?_ | refine E8 ?_); exact E9; all_goals try first | rfl | assumption | omega))
/-- f tells p. -/
def Tells (f : FuncId) (fst cap : Array Value) (ρ : Frag) (p : Int → Bool) (x : Int) : Prop := ∀ ρ', fle ρ ρ' → Ct Tryd.prog f (fst.toList ++ [int x] ++ cap.toList) ρ' [] (fun r => [pu (r = .bool (p x))])
theorem indexFunc_ct (ρ : Frag) (s : SV) (xs : List Int) (f : FuncId) (fst cap : Array Value) (p : Int → Bool) [CallOk Tryd.prog f] (hR : In (RArr KInt s.v xs) ρ) (hf : ∀ x ∈ xs, Tells f fst cap ρ p x) :
    Ct Tryd.prog 62 [s.v, .func (.func f) fst cap] ρ [] (fun r => [hex fun n : Int => pu (r = int n ∧ (n = -1 ∧ xs.any p = false ∨ 0 ≤ n ∧ n < xs.length ∧ xs.any p = true))]) := by
  have hs := In.shortR (P := Tryd.prog) (K := KInt) hR
  (refine Ct.of_run Tryd.func62 rfl Tryd.ntmps62 rfl (Nat.le_of_ble_eq_true rfl) ?_)
  (repeat first | refine G1 ?_ | refine G2 ?_ | refine G3 ?_ | refine G4 ?_ | refine G5 rfl ?_ | refine G6 rfl ?_ | refine G7 rfl ?_)
  (focus (refine R0 ?_; refine lA ?_; refine R1 ?_; rotate_left))

  (repeat first | refine G1 ?_ | refine G2 ?_ | refine G3 ?_ | refine G4 ?_ | refine G5 rfl ?_ | refine G6 rfl ?_ | refine G7 rfl ?_)
  (focus (refine R0 ?_; refine lM ?_; refine lE ?_; refine lM ?_; refine R1 ?_; rotate_left))

  (repeat first | refine G1 ?_ | refine G2 ?_ | refine G3 ?_ | refine G4 ?_ | refine G5 rfl ?_ | refine G6 rfl ?_ | refine G7 rfl ?_)
  refine Run.loopI (X := Int) (fun i => [(0, s.v), (1, .func (.func f) fst cap), (7, int xs.length), (8, int i)]) (fun i => [pu (0 ≤ i ∧ i ≤ xs.length ∧ (xs.take i.toNat).any p = false)]) (fun i => (xs.length - i).toNat) 0
    (Sub.cons rfl (Sub.cons rfl (Sub.cons rfl (Sub.cons rfl (Sub.nil _))))) ?_ ?_
  · (focus ((repeat first | refine E1 ?_ ?_ | refine E2 ?_ | refine E3 ?_ | refine E4 ?_ | refine E5 ?_ | refine E6 ?_ | refine E7 ?_ | refine E8 ?_); exact E9; all_goals try first | rfl | assumption | omega))
    exact ⟨by omega, by omega, by simp⟩
  · intro i ih
    refine Run.unpu fun hi => ?_
    obtain ⟨h0, h1, h2⟩ := hi
    (repeat first | refine G1 ?_ | refine G2 ?_ | refine G3 ?_ | refine G4 ?_ | refine G5 rfl ?_ | refine G6 rfl ?_ | refine G7 rfl ?_)
    (focus (refine R0 ?_; refine lv (by exact Ylt) ?_; refine R1 ?_; rotate_left))

    (repeat first | refine G1 ?_ | refine G2 ?_ | refine G3 ?_ | refine G4 ?_ | refine G5 rfl ?_ | refine G6 rfl ?_ | refine G7 rfl ?_)
    refine Run.condP rfl (fun c => ?_) (fun c => ?_)
    · have hx : rd xs i ∈ xs := List.mem_of_getElem? (rd_some h0 c)
      have ht : xs.take (i + 1).toNat = xs.take i.toNat ++ [rd xs i] := by
        rw [show (i + 1).toNat = i.toNat + 1 by omega, List.take_add_one, rd_some h0 c]; rfl
      (repeat first | refine G1 ?_ | refine G2 ?_ | refine G3 ?_ | refine G4 ?_ | refine G5 rfl ?_ | refine G6 rfl ?_ | refine G7 rfl ?_)
      (focus (refine R0 ?_; refine lM ?_; refine lA ?_; refine R1 ?_; rotate_left))

      (repeat first | refine G1 ?_ | refine G2 ?_ | refine G3 ?_ | refine G4 ?_ | refine G5 rfl ?_ | refine G6 rfl ?_ | refine G7 rfl ?_)
      (focus (refine R0 ?_; refine lM ?_; refine lM ?_; refine lM ?_; refine lX ?_; refine lL ?_; refine lc [] rfl rfl (fun _ hle hA => hf _ hx _ hle) ?_; intro v16; (try dsimp only [List.cons_append, List.nil_append, List.append_nil]); (repeat (refine RunL.unpu fun h16 => ?_; try subst h16)); refine R1 ?_; rotate_left))

      (repeat first | refine G1 ?_ | refine G2 ?_ | refine G3 ?_ | refine G4 ?_ | refine G5 rfl ?_ | refine G6 rfl ?_ | refine G7 rfl ?_)
      refine Run.cond rfl (fun c2 => ?_) (fun c2 => ?_)
      · (repeat first | refine G1 ?_ | refine G2 ?_ | refine G3 ?_ | refine G4 ?_ | refine G5 rfl ?_ | refine G6 rfl ?_ | refine G7 rfl ?_)
        (focus (refine R0 ?_; refine lM ?_; refine lA ?_; refine R1 ?_; rotate_left))

        (repeat first | refine G1 ?_ | refine G2 ?_ | refine G3 ?_ | refine G4 ?_ | refine G5 rfl ?_ | refine G6 rfl ?_ | refine G7 rfl ?_)
        (refine Run.ret1 Tryd.results62 (by rfl) ?_)
        refine Ent.hex i (Ent.pu ⟨rfl, .inr ⟨h0, c, List.any_eq_true.2 ⟨_, hx, c2⟩⟩⟩ (Ent.refl _))
      · (repeat first | refine G1 ?_ | refine G2 ?_ | refine G3 ?_ | refine G4 ?_ | refine G5 rfl ?_ | refine G6 rfl ?_ | refine G7 rfl ?_)
        (focus (refine R0 ?_; refine lv (by exact Yad) ?_; refine lM ?_; refine R1 ?_; rotate_left))

        (repeat first | refine G1 ?_ | refine G2 ?_ | refine G3 ?_ | refine G4 ?_ | refine G5 rfl ?_ | refine G6 rfl ?_ | refine G7 rfl ?_)
        refine Run.weaken (Sub.cons rfl (Sub.cons rfl (Sub.cons rfl (Sub.cons rfl (Sub.nil _))))) ?_ (ih (i + 1) (by omega))
        (focus ((repeat first | refine E1 ?_ ?_ | refine E2 ?_ | refine E3 ?_ | refine E4 ?_ | refine E5 ?_ | refine E6 ?_ | refine E7 ?_ | refine E8 ?_); exact E9; all_goals try first | rfl | assumption | omega))
        exact ⟨by omega, by omega, by rw [ht]; simp [h2, c2]⟩
    · (repeat first | refine G1 ?_ | refine G2 ?_ | refine G3 ?_ | refine G4 ?_ | refine G5 rfl ?_ | refine G6 rfl ?_ | refine G7 rfl ?_)
      (focus (refine R0 ?_; refine lA ?_; refine R1 ?_; rotate_left))

      (repeat first | refine G1 ?_ | refine G2 ?_ | refine G3 ?_ | refine G4 ?_ | refine G5 rfl ?_ | refine G6 rfl ?_ | refine G7 rfl ?_)
      (refine Run.ret1 Tryd.results62 (by rfl) ?_)
      refine Ent.hex (-1) (Ent.pu ⟨rfl, .inl ⟨rfl, ?_⟩⟩ (Ent.refl _))
      rw [List.take_of_length_le (by omega)] at h2; exact h2
theorem containsFunc_ct (ρ : Frag) (s : SV) (xs : List Int) (f : FuncId) (fst cap : Array Value) (p : Int → Bool) [CallOk Tryd.prog f] (hR : In (RArr KInt s.v xs) ρ) (hf : ∀ x ∈ xs, Tells f fst cap ρ p x) :
    Ct Tryd.prog 51 [s.v, .func (.func f) fst cap] ρ [] (fun r => [pu (r = .bool (xs.any p))]) := by
  (refine Ct.of_run Tryd.func51 rfl Tryd.ntmps51 rfl (Nat.le_of_ble_eq_true rfl) ?_)
  (repeat first | refine G1 ?_ | refine G2 ?_ | refine G3 ?_ | refine G4 ?_ | refine G5 rfl ?_ | refine G6 rfl ?_ | refine G7 rfl ?_)
  (focus (refine R0 ?_; refine lA ?_; refine R1 ?_; rotate_left))

  (repeat first | refine G1 ?_ | refine G2 ?_ | refine G3 ?_ | refine G4 ?_ | refine G5 rfl ?_ | refine G6 rfl ?_ | refine G7 rfl ?_)
  (focus (refine R0 ?_; refine lM ?_; refine lM ?_; refine lc [] rfl rfl (fun _ hle hA => indexFunc_ct _ s xs f fst cap p (hR.mono hle) (fun x hx ρ' h' => hf x hx ρ' (fle_trans hle h'))) ?_; intro v7; (try dsimp only [List.cons_append, List.nil_append, List.append_nil]); (repeat (refine RunL.unpu fun h7 => ?_; try subst h7)); (refine RunL.unhex fun n => RunL.unpu fun hn => ?_; obtain ⟨rfl, hn⟩ := hn); refine lv (by exact Yge) ?_; refine lA ?_; refine R1 ?_; rotate_left))

  (repeat first | refine G1 ?_ | refine G2 ?_ | refine G3 ?_ | refine G4 ?_ | refine G5 rfl ?_ | refine G6 rfl ?_ | refine G7 rfl ?_)
  (refine Run.ret1 Tryd.results51 (by rfl) ?_)
  (focus ((repeat first | refine E1 ?_ ?_ | refine E2 ?_ | refine E3 ?_ | refine E4 ?_ | refine E5 ?_ | refine E6 ?_ | refine E7 ?_ | refine E8 ?_); exact E9; all_goals try first | rfl | assumption | omega))
  rcases hn with ⟨rfl, h⟩ | ⟨h0, _, h⟩
  · rw [h]; rfl
  · rw [h]; simp [h0]
end Go.Proofs.YtfldnnpcdjabnaaDoor
