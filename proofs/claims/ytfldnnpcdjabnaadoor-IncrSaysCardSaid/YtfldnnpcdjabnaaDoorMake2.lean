/-
  skolemmake: numbers as literals, clauses, scripts; skolemref's small looks.
-/
import Derived.Test.YtfldnnpcdjabnaaDoorIncrAdd
set_option linter.unusedVariables false
set_option linter.unusedSimpArgs false
namespace Go.Proofs.YtfldnnpcdjabnaaDoor
open Go
/-- Clauses of so many variables, of so many numbers. -/
structure GoodCl (vars : Int) (N : Nat) (xs : List (List Int)) : Prop where
  lit : ∀ x ∈ xs, ∀ l ∈ x, l ≠ 0 ∧ -vars ≤ l ∧ l ≤ vars
  ne : ∀ x ∈ xs, x ≠ []
  total : total xs ≤ N
  len : xs.length ≤ N
theorem GoodCl.snoc {vars : Int} {N : Nat} {xs : List (List Int)} {y : List Int} (h : GoodCl vars N xs) (hy : ∀ l ∈ y, l ≠ 0 ∧ -vars ≤ l ∧ l ≤ vars) (hn : y ≠ []) : GoodCl vars (N + y.length) (xs ++ [y]) := by
  have h1 : 0 < y.length := List.length_pos_iff.2 hn
  refine ⟨fun x hx => ?_, fun x hx => ?_, ?_, ?_⟩
  · rcases List.mem_append.1 hx with hx | hx
    · exact h.lit x hx
    · simp at hx; subst hx; exact hy
  · rcases List.mem_append.1 hx with hx | hx
    · exact h.ne x hx
    · simp at hx; subst hx; exact hn
  · rw [total_snoc]; have := h.total; omega
  · have := h.len; simp; omega
theorem GoodCl.mono {vars : Int} {N M : Nat} {xs : List (List Int)} (h : GoodCl vars N xs) (hN : N ≤ M) : GoodCl vars M xs := ⟨h.lit, h.ne, Nat.le_trans h.total hN, Nat.le_trans h.len hN⟩
attribute [local irreducible] Yields Does Run RunL AnyL Ct Reads Peek PeekN Poke Pick Fits Sub Ent Still Arr RArr Cells el stars In
theorem lit_ct (ρ : Frag) (n v : Int) (h0 : 0 < v) (h1 : v ≤ 1000000) (hn : -9223372036854775808 ≤ n) (hn' : n ≤ 9223372036854775807) :
    Ct Tryd.prog 43 [int n, int v] ρ [] (fun r => [hex fun k : Int => pu (r = int k ∧ k ≠ 0 ∧ -v ≤ k ∧ k ≤ v)]) := by
  (refine Ct.of_run Tryd.func43 rfl Tryd.ntmps43 rfl (Nat.le_of_ble_eq_true rfl) ?_)
  (repeat first | refine G1 ?_ | refine G2 ?_ | refine G3 ?_ | refine G4 ?_ | refine G5 rfl ?_ | refine G6 rfl ?_ | refine G7 rfl ?_)
  (focus (refine R0 ?_; refine lA ?_; refine R1 ?_; rotate_left))

  (repeat first | refine G1 ?_ | refine G2 ?_ | refine G3 ?_ | refine G4 ?_ | refine G5 rfl ?_ | refine G6 rfl ?_ | refine G7 rfl ?_)
  (focus (refine R0 ?_; refine lM ?_; refine lM ?_; refine lv (by exact Yml) ?_; refine lc [] rfl rfl (fun _ hle hA => number_ct _ n (2 * v) (by omega) (by omega) hn hn') ?_; intro v9; (try dsimp only [List.cons_append, List.nil_append, List.append_nil]); (repeat (refine RunL.unpu fun h9 => ?_; try subst h9)); (refine RunL.unhex fun k => RunL.unpu fun hk => ?_; obtain ⟨rfl, k0, k1⟩ := hk); refine lA ?_; refine R1 ?_; rotate_left))

  (repeat first | refine G1 ?_ | refine G2 ?_ | refine G3 ?_ | refine G4 ?_ | refine G5 rfl ?_ | refine G6 rfl ?_ | refine G7 rfl ?_)
  (repeat first | refine G1 ?_ | refine G2 ?_ | refine G3 ?_ | refine G4 ?_ | refine G5 rfl ?_ | refine G6 rfl ?_ | refine G7 rfl ?_)
  (focus (refine R0 ?_; refine lM ?_; refine lM ?_; refine lv (by exact Ylt) ?_; refine R1 ?_; rotate_left))

  (repeat first | refine G1 ?_ | refine G2 ?_ | refine G3 ?_ | refine G4 ?_ | refine G5 rfl ?_ | refine G6 rfl ?_ | refine G7 rfl ?_)
  refine Run.condP rfl (fun c => ?_) (fun c => ?_)
  · (repeat first | refine G1 ?_ | refine G2 ?_ | refine G3 ?_ | refine G4 ?_ | refine G5 rfl ?_ | refine G6 rfl ?_ | refine G7 rfl ?_)
    (focus (refine R0 ?_; refine lM ?_; refine lv (by exact Yad) ?_; refine lA ?_; refine R1 ?_; rotate_left))

    (repeat first | refine G1 ?_ | refine G2 ?_ | refine G3 ?_ | refine G4 ?_ | refine G5 rfl ?_ | refine G6 rfl ?_ | refine G7 rfl ?_)
    (refine Run.ret1 Tryd.results43 (by rfl) ?_)
    refine Ent.hex (k + 1) (Ent.pu ⟨rfl, by omega, by omega, by omega⟩ Ent.done)
  · (repeat first | refine G1 ?_ | refine G2 ?_ | refine G3 ?_ | refine G4 ?_ | refine G5 rfl ?_ | refine G6 rfl ?_ | refine G7 rfl ?_)
    (focus (refine R0 ?_; refine lM ?_; refine lM ?_; refine lv (by exact Ysb) ?_; refine lv (by exact Ysb) ?_; refine lA ?_; refine R1 ?_; rotate_left))

    (repeat first | refine G1 ?_ | refine G2 ?_ | refine G3 ?_ | refine G4 ?_ | refine G5 rfl ?_ | refine G6 rfl ?_ | refine G7 rfl ?_)
    (refine Run.ret1 Tryd.results43 (by rfl) ?_)
    refine Ent.hex (v - k - 1) (Ent.pu ⟨rfl, by omega, by omega, by omega⟩ Ent.done)
theorem clauses_ct (ρ : Frag) (l : SV) (xs : List Int) (v : Int) (h0 : 0 < v) (h1 : v ≤ 1000000) (hR : In (RArr KInt l.v xs) ρ) (hx : ∀ x ∈ xs, -9223372036854775808 ≤ x ∧ x ≤ 9223372036854775807) (hs : xs.length ≤ 1000000) :
    Ct Tryd.prog 29 [l.v, int v] ρ [] (fun r => [hex fun t : SV => hex fun ts : List SV => hex fun cs : List (List Int) => stars [pu (r = t.v ∧ GoodCl v xs.length cs), Arr KSl t.v ts, Bag KInt ts cs]]) := by
  (refine Ct.of_run Tryd.func29 rfl Tryd.ntmps29 rfl (Nat.le_of_ble_eq_true rfl) ?_)
  (repeat first | refine G1 ?_ | refine G2 ?_ | refine G3 ?_ | refine G4 ?_ | refine G5 rfl ?_ | refine G6 rfl ?_ | refine G7 rfl ?_)
  (focus (refine R0 ?_; refine lv (by exact YaN) ?_; refine R1 ?_; rotate_left))

  (repeat first | refine G1 ?_ | refine G2 ?_ | refine G3 ?_ | refine G4 ?_ | refine G5 rfl ?_ | refine G6 rfl ?_ | refine G7 rfl ?_)
  (focus (refine R0 ?_; refine lv (by exact YaN) ?_; refine R1 ?_; rotate_left))

  (repeat first | refine G1 ?_ | refine G2 ?_ | refine G3 ?_ | refine G4 ?_ | refine G5 rfl ?_ | refine G6 rfl ?_ | refine G7 rfl ?_)
  (focus (refine R0 ?_; refine lv (by exact YaN) ?_; refine R1 ?_; rotate_left))

  (repeat first | refine G1 ?_ | refine G2 ?_ | refine G3 ?_ | refine G4 ?_ | refine G5 rfl ?_ | refine G6 rfl ?_ | refine G7 rfl ?_)
  (focus (refine R0 ?_; refine lM ?_; refine lv (by exact Ylt) ?_; refine R1 ?_; rotate_left))

  (repeat first | refine G1 ?_ | refine G2 ?_ | refine G3 ?_ | refine G4 ?_ | refine G5 rfl ?_ | refine G6 rfl ?_ | refine G7 rfl ?_)
  refine Run.condP rfl (fun c => absurd c (by omega)) (fun c => ?_)
  (repeat first | refine G1 ?_ | refine G2 ?_ | refine G3 ?_ | refine G4 ?_ | refine G5 rfl ?_ | refine G6 rfl ?_ | refine G7 rfl ?_)
  (focus (refine R0 ?_; refine lA ?_; refine R1 ?_; rotate_left))

  (repeat first | refine G1 ?_ | refine G2 ?_ | refine G3 ?_ | refine G4 ?_ | refine G5 rfl ?_ | refine G6 rfl ?_ | refine G7 rfl ?_)
  refine Run.loopI (X := Int × SV × List SV × List (List Int) × SV × List Int) (fun x => [(0, l.v), (1, int v), (5, x.2.1.v), (6, x.2.2.2.2.1.v), (7, int x.1)])
    (fun x => [pu (0 ≤ x.1 ∧ x.1 ≤ xs.length ∧ ∃ N : Nat, GoodCl v N x.2.2.2.1 ∧ (∀ k ∈ x.2.2.2.2.2, k ≠ 0 ∧ -v ≤ k ∧ k ≤ v) ∧ (N : Int) + x.2.2.2.2.2.length = x.1), Arr KSl x.2.1.v x.2.2.1, Bag KInt x.2.2.1 x.2.2.2.1, Arr KInt x.2.2.2.2.1.v x.2.2.2.2.2])
    (fun x => (xs.length - x.1).toNat) (0, nilS, [], [], nilS, []) (by (repeat (first | exact Sub.nil _ | refine Sub.cons rfl ?_))) ?_ ?_
  · show Ent [] [pu ((0 : Int) ≤ 0 ∧ (0 : Int) ≤ xs.length ∧ _), Arr KSl nilS.v [], Bag KInt [] [], Arr KInt nilS.v []]
    (focus ((repeat first | refine E1 ?_ ?_ | refine E2 ?_ | refine E3 ?_ | refine E4 ?_ | refine E5 ?_ | refine E6 ?_ | refine E7 ?_ | refine E8 ?_); exact E9; all_goals try first | rfl | assumption | omega))
    exact ⟨by omega, by omega, 0, ⟨(fun x h => by cases h), (fun x h => by cases h), Nat.le_refl _, Nat.le_refl _⟩, (fun k h => by cases h), rfl⟩
  · rintro ⟨i, t, ts, cs, u, y⟩ ih
    refine Run.unpu fun hi => ?_
    obtain ⟨i0, i1, N, hG, hy, hN⟩ := hi
    dsimp only at i0 i1 hG hy hN ⊢
    refine Run.bagLen (K := KInt) (ss := ts) (xs := cs) (by (repeat (first | with_reducible exact Pick.here | with_reducible apply Pick.there))) fun hbl => ?_
    have hcl := hG.len
    (repeat first | refine G1 ?_ | refine G2 ?_ | refine G3 ?_ | refine G4 ?_ | refine G5 rfl ?_ | refine G6 rfl ?_ | refine G7 rfl ?_)
    (focus (refine R0 ?_; refine lM ?_; refine lM ?_; refine lE ?_; refine lv (by exact Ylt) ?_; refine R1 ?_; rotate_left))

    (repeat first | refine G1 ?_ | refine G2 ?_ | refine G3 ?_ | refine G4 ?_ | refine G5 rfl ?_ | refine G6 rfl ?_ | refine G7 rfl ?_)
    refine Run.condP rfl (fun c1 => ?_) (fun c1 => ?_)
    · have hxi := hx _ (List.mem_of_getElem? (rd_some i0 c1))
      (repeat first | refine G1 ?_ | refine G2 ?_ | refine G3 ?_ | refine G4 ?_ | refine G5 rfl ?_ | refine G6 rfl ?_ | refine G7 rfl ?_)
      (focus (refine R0 ?_; refine lM ?_; refine lM ?_; refine lX ?_; refine lL ?_; refine lc [] rfl rfl (fun _ hle hA => number_ct _ (rd xs i) 7 (by omega) (by omega) hxi.1 hxi.2) ?_; intro v20; (try dsimp only [List.cons_append, List.nil_append, List.append_nil]); (repeat (refine RunL.unpu fun h20 => ?_; try subst h20)); (refine RunL.unhex fun k => RunL.unpu fun hk => ?_; obtain ⟨rfl, k0, k1⟩ := hk); refine lv (by exact Yeq) ?_; refine lM ?_; (first | refine RunL.knownP (t := 22) rfl (fun c22 => ?_) (fun c22 => ?_) | refine RunL.known (t := 22) rfl (fun c22 => ?_) (fun c22 => ?_)); refine lT ?_; refine lM ?_; refine lT ?_; refine lE ?_; refine lT ?_; refine lv (by exact Ygt) ?_; refine lv (by first | exact YpT | exact YpF | exact Yields.pickB rfl rfl rfl) ?_; refine lM ?_; (first | refine RunL.knownP (t := 27) rfl (fun c27 => ?_) (fun c27 => ?_) | refine RunL.known (t := 27) rfl (fun c27 => ?_) (fun c27 => ?_)); refine lF ?_; refine lF ?_; refine lF ?_; refine lv (by first | exact YpT | exact YpF | exact Yields.pickB rfl rfl rfl) ?_; refine R1 ?_; rotate_left; refine lT ?_; refine lM ?_; refine lT ?_; refine lE ?_; refine lT ?_; refine lv (by exact Yge) ?_; refine lv (by first | exact YpT | exact YpF | exact Yields.pickB rfl rfl rfl) ?_; refine R1 ?_; rotate_left; refine lF ?_; refine lF ?_; refine lF ?_; refine lv (by first | exact YpT | exact YpF | exact Yields.pickB rfl rfl rfl) ?_; refine lM ?_; refine lT ?_; refine lM ?_; refine lT ?_; refine lE ?_; refine lT ?_; refine lv (by exact Yge) ?_; refine lv (by first | exact YpT | exact YpF | exact Yields.pickB rfl rfl rfl) ?_; refine R1 ?_; rotate_left))

      (repeat first | refine G1 ?_ | refine G2 ?_ | refine G3 ?_ | refine G4 ?_ | refine G5 rfl ?_ | refine G6 rfl ?_ | refine G7 rfl ?_)
      · have hne : y ≠ [] := by intro e; subst e; simp at c27
        (repeat first | refine G1 ?_ | refine G2 ?_ | refine G3 ?_ | refine G4 ?_ | refine G5 rfl ?_ | refine G6 rfl ?_ | refine G7 rfl ?_)
        (focus (refine R0 ?_; refine lM ?_; refine lM ?_; refine leS (by exact Db1) ?_; intro v34; (try dsimp only [List.cons_append, List.nil_append, List.append_nil]); refine leS (by exact Dap) ?_; intro v35; (try dsimp only [List.cons_append, List.nil_append, List.append_nil]); (repeat (refine RunL.unpu fun h35 => ?_; try subst h35)); refine lA ?_; refine R1 ?_; rotate_left))

        (repeat first | refine G1 ?_ | refine G2 ?_ | refine G3 ?_ | refine G4 ?_ | refine G5 rfl ?_ | refine G6 rfl ?_ | refine G7 rfl ?_)
        (focus (refine R0 ?_; refine lv (by exact YaN) ?_; refine R1 ?_; rotate_left))

        (repeat first | refine G1 ?_ | refine G2 ?_ | refine G3 ?_ | refine G4 ?_ | refine G5 rfl ?_ | refine G6 rfl ?_ | refine G7 rfl ?_)
        (repeat first | refine G1 ?_ | refine G2 ?_ | refine G3 ?_ | refine G4 ?_ | refine G5 rfl ?_ | refine G6 rfl ?_ | refine G7 rfl ?_)
        (focus (refine R0 ?_; refine lM ?_; refine lM ?_; refine lM ?_; refine lX ?_; refine lL ?_; refine lc [] rfl rfl (fun _ hle hA => number_ct _ (rd xs i) 1099511627776 (by omega) (by omega) hxi.1 hxi.2) ?_; intro v41; (try dsimp only [List.cons_append, List.nil_append, List.append_nil]); (repeat (refine RunL.unpu fun h41 => ?_; try subst h41)); (refine RunL.unhex fun m => RunL.unpu fun hm => ?_; obtain ⟨rfl, m0, m1⟩ := hm); refine lv (by first | exact Yqu | exact Yqt) ?_; refine lM ?_; refine lc [] rfl rfl (fun _ hle hA => lit_ct _ (m / 7) v h0 h1 (by omega) (by omega)) ?_; intro v44; (try dsimp only [List.cons_append, List.nil_append, List.append_nil]); (repeat (refine RunL.unpu fun h44 => ?_; try subst h44)); (refine RunL.unhex fun z => RunL.unpu fun hz => ?_; obtain ⟨rfl, hz⟩ := hz); refine leS (by exact Db1) ?_; intro v45; (try dsimp only [List.cons_append, List.nil_append, List.append_nil]); refine RunL.ent (L' := [Arr KInt nilS.v [], Arr KInt v45.v [z], Arr KSl v35.v (ts ++ [u]), Bag KInt (ts ++ [u]) (cs ++ [y])]) (by (focus ((repeat first | refine E1 ?_ ?_ | refine E2 ?_ | refine E3 ?_ | refine E4 ?_ | refine E5 ?_ | refine E6 ?_ | refine E7 ?_ | refine E8 ?_); exact E9; all_goals try first | rfl | assumption | omega))) ?_; refine leS (by exact Dap) ?_; intro v46; (try dsimp only [List.cons_append, List.nil_append, List.append_nil]); (repeat (refine RunL.unpu fun h46 => ?_; try subst h46)); refine lA ?_; refine R1 ?_; rotate_left))

        (repeat first | refine G1 ?_ | refine G2 ?_ | refine G3 ?_ | refine G4 ?_ | refine G5 rfl ?_ | refine G6 rfl ?_ | refine G7 rfl ?_)
        (repeat first | refine G1 ?_ | refine G2 ?_ | refine G3 ?_ | refine G4 ?_ | refine G5 rfl ?_ | refine G6 rfl ?_ | refine G7 rfl ?_)
        (focus (refine R0 ?_; refine lM ?_; refine lv (by exact Yad) ?_; refine lA ?_; refine R1 ?_; rotate_left))

        (repeat first | refine G1 ?_ | refine G2 ?_ | refine G3 ?_ | refine G4 ?_ | refine G5 rfl ?_ | refine G6 rfl ?_ | refine G7 rfl ?_)
        refine Run.weaken (by (repeat (first | exact Sub.nil _ | refine Sub.cons rfl ?_))) ?_ (ih (i + 1, v35, ts ++ [u], cs ++ [y], v46, [z]) (by dsimp only; omega))
        (focus ((repeat first | refine E1 ?_ ?_ | refine E2 ?_ | refine E3 ?_ | refine E4 ?_ | refine E5 ?_ | refine E6 ?_ | refine E7 ?_ | refine E8 ?_); exact E9; all_goals try first | rfl | assumption | omega))
        exact ⟨by omega, by omega, N + y.length, hG.snoc hy hne, fun k hk => by simp at hk; subst hk; exact hz, by dsimp only; simp; omega⟩
      all_goals
        refine Run.condP rfl (fun c2 => ?_) (fun c2 => ?_)
        · have hne : y ≠ [] := by intro e; subst e; simp at c2
          (repeat first | refine G1 ?_ | refine G2 ?_ | refine G3 ?_ | refine G4 ?_ | refine G5 rfl ?_ | refine G6 rfl ?_ | refine G7 rfl ?_)
          (focus (refine R0 ?_; refine lM ?_; refine lM ?_; refine leS (by exact Db1) ?_; intro v34; (try dsimp only [List.cons_append, List.nil_append, List.append_nil]); refine leS (by exact Dap) ?_; intro v35; (try dsimp only [List.cons_append, List.nil_append, List.append_nil]); (repeat (refine RunL.unpu fun h35 => ?_; try subst h35)); refine lA ?_; refine R1 ?_; rotate_left))

          (repeat first | refine G1 ?_ | refine G2 ?_ | refine G3 ?_ | refine G4 ?_ | refine G5 rfl ?_ | refine G6 rfl ?_ | refine G7 rfl ?_)
          (focus (refine R0 ?_; refine lv (by exact YaN) ?_; refine R1 ?_; rotate_left))

          (repeat first | refine G1 ?_ | refine G2 ?_ | refine G3 ?_ | refine G4 ?_ | refine G5 rfl ?_ | refine G6 rfl ?_ | refine G7 rfl ?_)
          (repeat first | refine G1 ?_ | refine G2 ?_ | refine G3 ?_ | refine G4 ?_ | refine G5 rfl ?_ | refine G6 rfl ?_ | refine G7 rfl ?_)
          (focus (refine R0 ?_; refine lM ?_; refine lM ?_; refine lM ?_; refine lX ?_; refine lL ?_; refine lc [] rfl rfl (fun _ hle hA => number_ct _ (rd xs i) 1099511627776 (by omega) (by omega) hxi.1 hxi.2) ?_; intro v41; (try dsimp only [List.cons_append, List.nil_append, List.append_nil]); (repeat (refine RunL.unpu fun h41 => ?_; try subst h41)); (refine RunL.unhex fun m => RunL.unpu fun hm => ?_; obtain ⟨rfl, m0, m1⟩ := hm); refine lv (by first | exact Yqu | exact Yqt) ?_; refine lM ?_; refine lc [] rfl rfl (fun _ hle hA => lit_ct _ (m / 7) v h0 h1 (by omega) (by omega)) ?_; intro v44; (try dsimp only [List.cons_append, List.nil_append, List.append_nil]); (repeat (refine RunL.unpu fun h44 => ?_; try subst h44)); (refine RunL.unhex fun z => RunL.unpu fun hz => ?_; obtain ⟨rfl, hz⟩ := hz); refine leS (by exact Db1) ?_; intro v45; (try dsimp only [List.cons_append, List.nil_append, List.append_nil]); refine RunL.ent (L' := [Arr KInt nilS.v [], Arr KInt v45.v [z], Arr KSl v35.v (ts ++ [u]), Bag KInt (ts ++ [u]) (cs ++ [y])]) (by (focus ((repeat first | refine E1 ?_ ?_ | refine E2 ?_ | refine E3 ?_ | refine E4 ?_ | refine E5 ?_ | refine E6 ?_ | refine E7 ?_ | refine E8 ?_); exact E9; all_goals try first | rfl | assumption | omega))) ?_; refine leS (by exact Dap) ?_; intro v46; (try dsimp only [List.cons_append, List.nil_append, List.append_nil]); (repeat (refine RunL.unpu fun h46 => ?_; try subst h46)); refine lA ?_; refine R1 ?_; rotate_left))

          (repeat first | refine G1 ?_ | refine G2 ?_ | refine G3 ?_ | refine G4 ?_ | refine G5 rfl ?_ | refine G6 rfl ?_ | refine G7 rfl ?_)
          (repeat first | refine G1 ?_ | refine G2 ?_ | refine G3 ?_ | refine G4 ?_ | refine G5 rfl ?_ | refine G6 rfl ?_ | refine G7 rfl ?_)
          (focus (refine R0 ?_; refine lM ?_; refine lv (by exact Yad) ?_; refine lA ?_; refine R1 ?_; rotate_left))

          (repeat first | refine G1 ?_ | refine G2 ?_ | refine G3 ?_ | refine G4 ?_ | refine G5 rfl ?_ | refine G6 rfl ?_ | refine G7 rfl ?_)
          refine Run.weaken (by (repeat (first | exact Sub.nil _ | refine Sub.cons rfl ?_))) ?_ (ih (i + 1, v35, ts ++ [u], cs ++ [y], v46, [z]) (by dsimp only; omega))
          (focus ((repeat first | refine E1 ?_ ?_ | refine E2 ?_ | refine E3 ?_ | refine E4 ?_ | refine E5 ?_ | refine E6 ?_ | refine E7 ?_ | refine E8 ?_); exact E9; all_goals try first | rfl | assumption | omega))
          all_goals exact ⟨by omega, by omega, N + y.length, hG.snoc hy hne, fun k hk => by simp at hk; subst hk; exact hz, by dsimp only; simp; omega⟩
        · (repeat first | refine G1 ?_ | refine G2 ?_ | refine G3 ?_ | refine G4 ?_ | refine G5 rfl ?_ | refine G6 rfl ?_ | refine G7 rfl ?_)
          (focus (refine R0 ?_; refine lM ?_; refine lM ?_; refine lM ?_; refine lX ?_; refine lL ?_; refine lc [] rfl rfl (fun _ hle hA => number_ct _ (rd xs i) 1099511627776 (by omega) (by omega) hxi.1 hxi.2) ?_; intro v41; (try dsimp only [List.cons_append, List.nil_append, List.append_nil]); (repeat (refine RunL.unpu fun h41 => ?_; try subst h41)); (refine RunL.unhex fun m => RunL.unpu fun hm => ?_; obtain ⟨rfl, m0, m1⟩ := hm); refine lv (by first | exact Yqu | exact Yqt) ?_; refine lM ?_; refine lc [] rfl rfl (fun _ hle hA => lit_ct _ (m / 7) v h0 h1 (by omega) (by omega)) ?_; intro v44; (try dsimp only [List.cons_append, List.nil_append, List.append_nil]); (repeat (refine RunL.unpu fun h44 => ?_; try subst h44)); (refine RunL.unhex fun z => RunL.unpu fun hz => ?_; obtain ⟨rfl, hz⟩ := hz); refine leS (by exact Db1) ?_; intro v45; (try dsimp only [List.cons_append, List.nil_append, List.append_nil]); refine leS (by exact Dap) ?_; intro v46; (try dsimp only [List.cons_append, List.nil_append, List.append_nil]); (repeat (refine RunL.unpu fun h46 => ?_; try subst h46)); refine lA ?_; refine R1 ?_; rotate_left))

          (repeat first | refine G1 ?_ | refine G2 ?_ | refine G3 ?_ | refine G4 ?_ | refine G5 rfl ?_ | refine G6 rfl ?_ | refine G7 rfl ?_)
          (repeat first | refine G1 ?_ | refine G2 ?_ | refine G3 ?_ | refine G4 ?_ | refine G5 rfl ?_ | refine G6 rfl ?_ | refine G7 rfl ?_)
          (focus (refine R0 ?_; refine lM ?_; refine lv (by exact Yad) ?_; refine lA ?_; refine R1 ?_; rotate_left))

          (repeat first | refine G1 ?_ | refine G2 ?_ | refine G3 ?_ | refine G4 ?_ | refine G5 rfl ?_ | refine G6 rfl ?_ | refine G7 rfl ?_)
          refine Run.weaken (by (repeat (first | exact Sub.nil _ | refine Sub.cons rfl ?_))) ?_ (ih (i + 1, t, ts, cs, v46, y ++ [z]) (by dsimp only; omega))
          (focus ((repeat first | refine E1 ?_ ?_ | refine E2 ?_ | refine E3 ?_ | refine E4 ?_ | refine E5 ?_ | refine E6 ?_ | refine E7 ?_ | refine E8 ?_); exact E9; all_goals try first | rfl | assumption | omega))
          refine ⟨by omega, by omega, N, hG, fun k hk => ?_, by dsimp only; simp; omega⟩
          rcases List.mem_append.1 hk with hk | hk
          · exact hy k hk
          · simp at hk; subst hk; exact hz
    · (repeat first | refine G1 ?_ | refine G2 ?_ | refine G3 ?_ | refine G4 ?_ | refine G5 rfl ?_ | refine G6 rfl ?_ | refine G7 rfl ?_)
      (focus (refine R0 ?_; refine lM ?_; refine lE ?_; refine lv (by exact Ygt) ?_; refine R1 ?_; rotate_left))

      (repeat first | refine G1 ?_ | refine G2 ?_ | refine G3 ?_ | refine G4 ?_ | refine G5 rfl ?_ | refine G6 rfl ?_ | refine G7 rfl ?_)
      refine Run.condP rfl (fun c2 => ?_) (fun c2 => ?_)
      · have hne : y ≠ [] := by intro e; subst e; simp at c2
        (repeat first | refine G1 ?_ | refine G2 ?_ | refine G3 ?_ | refine G4 ?_ | refine G5 rfl ?_ | refine G6 rfl ?_ | refine G7 rfl ?_)
        (focus (refine R0 ?_; refine lM ?_; refine lM ?_; refine leS (by exact Db1) ?_; intro v52; (try dsimp only [List.cons_append, List.nil_append, List.append_nil]); refine leS (by exact Dap) ?_; intro v53; (try dsimp only [List.cons_append, List.nil_append, List.append_nil]); (repeat (refine RunL.unpu fun h53 => ?_; try subst h53)); refine lA ?_; refine R1 ?_; rotate_left))

        (repeat first | refine G1 ?_ | refine G2 ?_ | refine G3 ?_ | refine G4 ?_ | refine G5 rfl ?_ | refine G6 rfl ?_ | refine G7 rfl ?_)
        (focus (refine R0 ?_; refine lM ?_; refine lA ?_; refine R1 ?_; rotate_left))

        (repeat first | refine G1 ?_ | refine G2 ?_ | refine G3 ?_ | refine G4 ?_ | refine G5 rfl ?_ | refine G6 rfl ?_ | refine G7 rfl ?_)
        (refine Run.ret1 Tryd.results29 (by rfl) ?_)
        refine Ent.hex v53 (Ent.hex (ts ++ [u]) (Ent.hex (cs ++ [y]) (Ent.flat ?_)))
        (focus ((repeat first | refine E1 ?_ ?_ | refine E2 ?_ | refine E3 ?_ | refine E4 ?_ | refine E5 ?_ | refine E6 ?_ | refine E7 ?_ | refine E8 ?_); exact E9; all_goals try first | rfl | assumption | omega))
        exact ⟨rfl, (hG.snoc hy hne).mono (by omega)⟩
      · (repeat first | refine G1 ?_ | refine G2 ?_ | refine G3 ?_ | refine G4 ?_ | refine G5 rfl ?_ | refine G6 rfl ?_ | refine G7 rfl ?_)
        (focus (refine R0 ?_; refine lM ?_; refine lA ?_; refine R1 ?_; rotate_left))

        (repeat first | refine G1 ?_ | refine G2 ?_ | refine G3 ?_ | refine G4 ?_ | refine G5 rfl ?_ | refine G6 rfl ?_ | refine G7 rfl ?_)
        (refine Run.ret1 Tryd.results29 (by rfl) ?_)
        refine Ent.hex t (Ent.hex ts (Ent.hex cs (Ent.flat ?_)))
        (focus ((repeat first | refine E1 ?_ ?_ | refine E2 ?_ | refine E3 ?_ | refine E4 ?_ | refine E5 ?_ | refine E6 ?_ | refine E7 ?_ | refine E8 ?_); exact E9; all_goals try first | rfl | assumption | omega))
        exact ⟨rfl, hG.mono (by omega)⟩
end Go.Proofs.YtfldnnpcdjabnaaDoor
