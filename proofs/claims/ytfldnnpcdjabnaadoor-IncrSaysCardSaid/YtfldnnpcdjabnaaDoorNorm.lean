/-
  lits.Norm, lits.Rename.
-/
import Derived.Test.YtfldnnpcdjabnaaDoorSort2
set_option linter.unusedVariables false
set_option linter.unusedSimpArgs false
namespace Go.Proofs.YtfldnnpcdjabnaaDoor
open Go
/-- l: the literals of c, each once, in order; whether it says something. -/
structure NormR (c l : List Int) (says : Bool) : Prop where
  mem : ∀ x, x ∈ l ↔ x ∈ c
  ord : l.Pairwise ordLt
  len : l.length ≤ c.length
  says : says = true ↔ (l.map fun x => max x (-x)).Nodup
theorem ord_nodup {l : List Int} (h : l.Pairwise ordLt) (hn : ∀ i : Int, 1 ≤ i → i < l.length → max (rd l i) (-rd l i) ≠ max (rd l (i - 1)) (-rd l (i - 1))) : (l.map fun x => max x (-x)).Nodup := by
  refine List.pairwise_map.2 (List.pairwise_iff_getElem.2 fun i j hi hj hij => ?_)
  have g : ∀ (k : Nat) (hk : k < l.length), rd l (k : Int) = l[k] := fun k hk => by simp [rd, List.getD, hk]
  have h1 := List.pairwise_iff_getElem.1 h i (i + 1) hi (by omega) (by omega)
  have h2 := hn ((i + 1 : Nat) : Int) (by omega) (by omega)
  rw [show (((i + 1 : Nat) : Int) - 1) = (i : Nat) by omega, g _ (by omega), g _ hi] at h2
  by_cases e : j = i + 1
  · subst e; exact fun h => h2 h.symm
  · have h3 := List.pairwise_iff_getElem.1 h (i + 1) j (by omega) hj (by omega)
    simp only [ordLt] at h1 h3
    omega
attribute [local irreducible] Yields Does Run RunL AnyL Ct Reads Peek PeekN Poke Pick Fits Sub Ent Still Arr RArr Cells el stars In
theorem norm_ct (ρ : Frag) (c : SV) (xs : List Int) (hR : In (RArr KInt c.v xs) ρ) (hb : ∀ x ∈ xs, Tame x) :
    Ct Tryd.prog 63 [c.v] ρ [] (fun r => [hex fun t : SV => hex fun l : List Int => hex fun says : Bool => stars [pu (r = .tuple #[t.v, .bool says] ∧ NormR xs l says), Arr KInt t.v l]]) := by
  (refine Ct.of_run Tryd.func63 rfl Tryd.ntmps63 rfl (Nat.le_of_ble_eq_true rfl) ?_)
  (repeat first | refine G1 ?_ | refine G2 ?_ | refine G3 ?_ | refine G4 ?_ | refine G5 rfl ?_ | refine G6 rfl ?_ | refine G7 rfl ?_)
  (focus (refine R0 ?_; refine lv (by exact YaN) ?_; refine lA ?_; refine R1 ?_; rotate_left))

  (repeat first | refine G1 ?_ | refine G2 ?_ | refine G3 ?_ | refine G4 ?_ | refine G5 rfl ?_ | refine G6 rfl ?_ | refine G7 rfl ?_)
  (focus (refine R0 ?_; refine lM ?_; refine lc [] rfl rfl (fun _ hle hA => clone_ct _ c xs (hR.mono hle)) ?_; intro v7; (try dsimp only [List.cons_append, List.nil_append, List.append_nil]); (repeat (refine RunL.unpu fun h7 => ?_; try subst h7)); (refine RunL.unhex fun t0 => RunL.flat ?_; ((dsimp only [HeapF, HAppend.hAppend, Append.append, List.append, List.cons_append, List.nil_append, List.append_nil]); (try simp only [List.append_eq])); refine RunL.unpu fun h => ?_; subst h); refine lA ?_; refine R1 ?_; rotate_left))

  (repeat first | refine G1 ?_ | refine G2 ?_ | refine G3 ?_ | refine G4 ?_ | refine G5 rfl ?_ | refine G6 rfl ?_ | refine G7 rfl ?_)
  (repeat first | refine G1 ?_ | refine G2 ?_ | refine G3 ?_ | refine G4 ?_ | refine G5 rfl ?_ | refine G6 rfl ?_ | refine G7 rfl ?_)
  (focus (refine R0 ?_; refine lM ?_; refine lc [] rfl rfl (fun _ hle hA => sort_ct _ t0 xs hb) ?_; intro v9; (try dsimp only [List.cons_append, List.nil_append, List.append_nil]); (repeat (refine RunL.unpu fun h9 => ?_; try subst h9)); (refine RunL.unhex fun ys => RunL.flat ?_; ((dsimp only [HeapF, HAppend.hAppend, Append.append, List.append, List.cons_append, List.nil_append, List.append_nil]); (try simp only [List.append_eq])); refine RunL.unpu fun hp => ?_; obtain ⟨hp, ho⟩ := hp); refine R1 ?_; rotate_left))

  (repeat first | refine G1 ?_ | refine G2 ?_ | refine G3 ?_ | refine G4 ?_ | refine G5 rfl ?_ | refine G6 rfl ?_ | refine G7 rfl ?_)
  (repeat first | refine G1 ?_ | refine G2 ?_ | refine G3 ?_ | refine G4 ?_ | refine G5 rfl ?_ | refine G6 rfl ?_ | refine G7 rfl ?_)
  (focus (refine R0 ?_; refine lM ?_; refine lc [] rfl rfl (fun _ hle hA => compact_ct _ t0 ys) ?_; intro v11; (try dsimp only [List.cons_append, List.nil_append, List.append_nil]); (repeat (refine RunL.unpu fun h11 => ?_; try subst h11)); (refine RunL.unhex fun t1 => RunL.flat ?_; ((dsimp only [HeapF, HAppend.hAppend, Append.append, List.append, List.cons_append, List.nil_append, List.append_nil]); (try simp only [List.append_eq])); refine RunL.unpu fun h => ?_; subst h); refine lc [] rfl rfl (fun _ hle hA => clip_ct _ t1 (comp ys)) ?_; intro v12; (try dsimp only [List.cons_append, List.nil_append, List.append_nil]); (repeat (refine RunL.unpu fun h12 => ?_; try subst h12)); (refine RunL.unhex fun t2 => RunL.flat ?_; ((dsimp only [HeapF, HAppend.hAppend, Append.append, List.append, List.cons_append, List.nil_append, List.append_nil]); (try simp only [List.append_eq])); refine RunL.unpu fun h => ?_; subst h); refine lA ?_; refine R1 ?_; rotate_left))

  (repeat first | refine G1 ?_ | refine G2 ?_ | refine G3 ?_ | refine G4 ?_ | refine G5 rfl ?_ | refine G6 rfl ?_ | refine G7 rfl ?_)
  have hmem : ∀ x, x ∈ comp ys ↔ x ∈ xs := fun x => (comp_mem ys x).trans hp.mem_iff
  have hlen : (comp ys).length ≤ xs.length := Nat.le_trans (comp_len ys) (Nat.le_of_eq hp.length_eq)
  have hord : (comp ys).Pairwise ordLt := by
    have h1 := (comp_pw ys ho).1
    have h2 := comp_ne (R := ordLe) (fun a b h h' => by simp only [ordLe] at h h'; omega) ys ho
    exact (h1.and h2).imp fun {a b} h => by
      obtain ⟨h1, h2⟩ := h
      simp only [ordLe, ordLt] at *; omega
  generalize comp ys = l at *
  have ht : ∀ i : Int, 0 ≤ i → i < l.length → Tame (rd l i) := fun i h0 h1 => hb _ ((hmem _).1 (List.mem_of_getElem? (rd_some h0 h1)))
  have h64 := In.i64 hR
  (repeat first | refine G1 ?_ | refine G2 ?_ | refine G3 ?_ | refine G4 ?_ | refine G5 rfl ?_ | refine G6 rfl ?_ | refine G7 rfl ?_)
  (focus (refine R0 ?_; refine lA ?_; refine R1 ?_; rotate_left))

  (repeat first | refine G1 ?_ | refine G2 ?_ | refine G3 ?_ | refine G4 ?_ | refine G5 rfl ?_ | refine G6 rfl ?_ | refine G7 rfl ?_)
  refine Run.loopI (X := Int) (fun k => [(4, t2.v), (5, int k)]) (fun k => [pu (1 ≤ k ∧ (k ≤ l.length ∨ k = 1) ∧ ∀ i : Int, 1 ≤ i → i < k → max (rd l i) (-rd l i) ≠ max (rd l (i - 1)) (-rd l (i - 1))), Arr KInt t2.v l]) (fun k => (l.length - k).toNat) 1 (by (repeat (first | exact Sub.nil _ | refine Sub.cons rfl ?_))) ?_ ?_
  · (focus ((repeat first | refine E1 ?_ ?_ | refine E2 ?_ | refine E3 ?_ | refine E4 ?_ | refine E5 ?_ | refine E6 ?_ | refine E7 ?_ | refine E8 ?_); exact E9; all_goals try first | rfl | assumption | omega))
    exact ⟨by omega, by omega, fun i h1 h2 => by omega⟩
  · intro k ih
    refine Run.unpu fun hk => ?_
    obtain ⟨k1, k2, k3⟩ := hk
    (repeat first | refine G1 ?_ | refine G2 ?_ | refine G3 ?_ | refine G4 ?_ | refine G5 rfl ?_ | refine G6 rfl ?_ | refine G7 rfl ?_)
    (focus (refine R0 ?_; refine lM ?_; refine lM ?_; refine lE ?_; refine lv (by exact Ylt) ?_; refine R1 ?_; rotate_left))

    (repeat first | refine G1 ?_ | refine G2 ?_ | refine G3 ?_ | refine G4 ?_ | refine G5 rfl ?_ | refine G6 rfl ?_ | refine G7 rfl ?_)
    refine Run.condP rfl (fun c1 => ?_) (fun c1 => ?_)
    · have t1 := ht k (by omega) c1
      have t2' := ht (k - 1) (by omega) (by omega)
      (repeat first | refine G1 ?_ | refine G2 ?_ | refine G3 ?_ | refine G4 ?_ | refine G5 rfl ?_ | refine G6 rfl ?_ | refine G7 rfl ?_)
      (focus (refine Run.planS mixed (.take 0 (.take 1 (.take 2 (.take 3 (.take 5 (.take 6 (.take 7 (.take 8 (.take 9 (.alt 4 (.alt 10 (.take 11 (.done)) (.nomore)) (.nomore))))))))))) [(some 19, [4], []), (some 20, [5], []), (some 21, [19, 20], [0, 1]), (some 22, [21], [2]), (some 23, [22], [3]), (some 24, [4], []), (some 25, [5], []), (some 26, [25], [6]), (some 27, [24, 26], [5, 7]), (some 28, [27], [8]), (some 29, [28], [9, 4]), (some 30, [23, 29], [4, 10])] (by kernel_rfl) (by kernel_rfl) (by kernel_rfl) ?_; refine dM rfl ?_; refine dM rfl ?_; refine dX rfl ?_; refine dL rfl ?_; refine dM rfl ?_; refine dM rfl ?_; refine dv rfl (by exact Ysb) ?_; refine dX rfl ?_; refine dL rfl ?_; refine R3 ?_; refine de [(9, _), (8, _), (7, _), (6, _), (5, _), (2, _), (1, _), (0, _)] rfl (by exact Dcl [] rfl rfl (fun _ hle hA => var_ct _ (rd l k) t1.1 t1.2)) rfl ?_ ?_; (focus (intro _; (try dsimp only [List.cons_append, List.nil_append, List.append_nil]); refine sL rfl ?_; refine sX rfl ?_; refine sv rfl (by exact Ysb) ?_; refine sM rfl ?_; refine sM rfl ?_; refine sX rfl ?_; refine sM rfl ?_; refine sM rfl ?_; exact Still.nil)); intro v23; (try dsimp only [List.cons_append, List.nil_append, List.append_nil]); (repeat (refine RunD.unpu fun h23 => ?_; try subst h23)); refine R3 ?_; refine de [(8, _), (7, _), (6, _), (5, _), (2, _), (1, _), (0, _)] rfl (by exact Dcl [] rfl rfl (fun _ hle hA => var_ct _ (rd l (k - 1)) t2'.1 t2'.2)) rfl ?_ ?_; (focus (intro _; (try dsimp only [List.cons_append, List.nil_append, List.append_nil]); refine sX rfl ?_; refine sv rfl (by exact Ysb) ?_; refine sM rfl ?_; refine sM rfl ?_; refine sX rfl ?_; refine sM rfl ?_; refine sM rfl ?_; exact Still.nil)); intro v29; (try dsimp only [List.cons_append, List.nil_append, List.append_nil]); (repeat (refine RunD.unpu fun h29 => ?_; try subst h29)); refine dv rfl (by exact Yeq) ?_; refine R2 ?_; rotate_left))

      (repeat first | refine G1 ?_ | refine G2 ?_ | refine G3 ?_ | refine G4 ?_ | refine G5 rfl ?_ | refine G6 rfl ?_ | refine G7 rfl ?_)
      refine Run.condP rfl (fun c2 => ?_) (fun c2 => ?_)
      · (repeat first | refine G1 ?_ | refine G2 ?_ | refine G3 ?_ | refine G4 ?_ | refine G5 rfl ?_ | refine G6 rfl ?_ | refine G7 rfl ?_)
        (focus (refine R0 ?_; refine lM ?_; refine lA ?_; refine lA ?_; refine R1 ?_; rotate_left))

        (repeat first | refine G1 ?_ | refine G2 ?_ | refine G3 ?_ | refine G4 ?_ | refine G5 rfl ?_ | refine G6 rfl ?_ | refine G7 rfl ?_)
        (refine Run.ret2 Tryd.results63 (by rfl) (by rfl) ?_)
        refine Ent.hex t2 (Ent.hex l (Ent.hex false (Ent.flat (Ent.pu ⟨rfl, hmem, hord, hlen, ?_⟩ (Ent.refl _)))))
        constructor
        · intro h; cases h
        · intro h
          exfalso
          have h1 := List.pairwise_iff_getElem.1 (List.pairwise_map.1 h) (k - 1).toNat k.toNat (by omega) (by omega) (by omega)
          have g : ∀ (j : Int) (h0 : 0 ≤ j) (hj : j.toNat < l.length), rd l j = l[j.toNat] := fun j h0 hj => by simp [rd, List.getD, hj]
          rw [← g k (by omega) (by omega), ← g (k - 1) (by omega) (by omega)] at h1
          exact h1 c2.symm
      · (repeat first | refine G1 ?_ | refine G2 ?_ | refine G3 ?_ | refine G4 ?_ | refine G5 rfl ?_ | refine G6 rfl ?_ | refine G7 rfl ?_)
        (focus (refine R0 ?_; refine lM ?_; refine lv (by exact Yad) ?_; refine lA ?_; refine R1 ?_; rotate_left))

        (repeat first | refine G1 ?_ | refine G2 ?_ | refine G3 ?_ | refine G4 ?_ | refine G5 rfl ?_ | refine G6 rfl ?_ | refine G7 rfl ?_)
        refine Run.weaken (by (repeat (first | exact Sub.nil _ | refine Sub.cons rfl ?_))) ?_ (ih (k + 1) (by omega))
        (focus ((repeat first | refine E1 ?_ ?_ | refine E2 ?_ | refine E3 ?_ | refine E4 ?_ | refine E5 ?_ | refine E6 ?_ | refine E7 ?_ | refine E8 ?_); exact E9; all_goals try first | rfl | assumption | omega))
        refine ⟨by omega, by omega, fun i h1 h2 => ?_⟩
        by_cases e : i = k
        · subst e; exact c2
        · exact k3 i h1 (by omega)
    · (repeat first | refine G1 ?_ | refine G2 ?_ | refine G3 ?_ | refine G4 ?_ | refine G5 rfl ?_ | refine G6 rfl ?_ | refine G7 rfl ?_)
      (focus (refine R0 ?_; refine lM ?_; refine lA ?_; refine lA ?_; refine R1 ?_; rotate_left))

      (repeat first | refine G1 ?_ | refine G2 ?_ | refine G3 ?_ | refine G4 ?_ | refine G5 rfl ?_ | refine G6 rfl ?_ | refine G7 rfl ?_)
      (refine Run.ret2 Tryd.results63 (by rfl) (by rfl) ?_)
      refine Ent.hex t2 (Ent.hex l (Ent.hex true (Ent.flat (Ent.pu ⟨rfl, hmem, hord, hlen, ?_⟩ (Ent.refl _)))))
      exact ⟨fun _ => ord_nodup hord fun i h1 h2 => k3 i h1 (by omega), fun _ => rfl⟩
/-- Under other names. -/
def renB (bys : List Int) (l : Int) : Bool := decide (max l (-l) < 1 ∨ bys.length ≤ max l (-l) ∨ rd bys (max l (-l)) = 0)
def renL (bys : List Int) (l : Int) : Int := if l < 0 then -(rd bys (max l (-l))) else rd bys (max l (-l))
theorem rename_ct (ρ : Frag) (c by' : SV) (xs bys : List Int) (hR : In (RArr KInt c.v xs) ρ) (hY : In (RArr KInt by'.v bys) ρ) (hb : ∀ x ∈ xs, Tame x) (hy : ∀ x ∈ bys, Tame x) :
    Ct Tryd.prog 30 [c.v, by'.v] ρ [] (fun r => [hex fun t : SV => hex fun l : List Int => hex fun ok : Bool => stars [pu (r = .tuple #[t.v, .bool ok] ∧ ok = !(xs.any (renB bys)) ∧ (ok = true → l = xs.map (renL bys))), Arr KInt t.v l]]) := by
  have h64 := In.i64 hR
  (refine Ct.of_run Tryd.func30 rfl Tryd.ntmps30 rfl (Nat.le_of_ble_eq_true rfl) ?_)
  (repeat first | refine G1 ?_ | refine G2 ?_ | refine G3 ?_ | refine G4 ?_ | refine G5 rfl ?_ | refine G6 rfl ?_ | refine G7 rfl ?_)
  (focus (refine R0 ?_; refine lv (by exact YaN) ?_; refine lA ?_; refine R1 ?_; rotate_left))

  (repeat first | refine G1 ?_ | refine G2 ?_ | refine G3 ?_ | refine G4 ?_ | refine G5 rfl ?_ | refine G6 rfl ?_ | refine G7 rfl ?_)
  (focus (refine R0 ?_; refine lM ?_; refine lE ?_; refine leS (by exact Dmk) ?_; intro v12; (try dsimp only [List.cons_append, List.nil_append, List.append_nil]); refine lA ?_; refine R1 ?_; rotate_left))

  (repeat first | refine G1 ?_ | refine G2 ?_ | refine G3 ?_ | refine G4 ?_ | refine G5 rfl ?_ | refine G6 rfl ?_ | refine G7 rfl ?_)
  (focus (refine R0 ?_; refine lM ?_; refine lE ?_; refine lM ?_; refine R1 ?_; rotate_left))

  (repeat first | refine G1 ?_ | refine G2 ?_ | refine G3 ?_ | refine G4 ?_ | refine G5 rfl ?_ | refine G6 rfl ?_ | refine G7 rfl ?_)
  refine Run.loopI (X := Int × SV) (fun x => [(0, c.v), (1, by'.v), (6, x.2.v), (13, c.v), (14, int xs.length), (15, int x.1)])
    (fun x => [pu (0 ≤ x.1 ∧ x.1 ≤ xs.length ∧ (xs.take x.1.toNat).any (renB bys) = false), Arr KInt x.2.v ((xs.take x.1.toNat).map (renL bys))]) (fun x => (xs.length - x.1).toNat) (0, v12) (by (repeat (first | exact Sub.nil _ | refine Sub.cons rfl ?_))) ?_ ?_
  · show Ent [Arr KInt v12.v []] [pu ((0 : Int) ≤ 0 ∧ (0 : Int) ≤ xs.length ∧ (xs.take 0).any (renB bys) = false), Arr KInt v12.v []]
    (focus ((repeat first | refine E1 ?_ ?_ | refine E2 ?_ | refine E3 ?_ | refine E4 ?_ | refine E5 ?_ | refine E6 ?_ | refine E7 ?_ | refine E8 ?_); exact E9; all_goals try first | rfl | assumption | omega))
    exact ⟨by omega, by omega, by simp⟩
  · rintro ⟨i, t⟩ ih
    refine Run.unpu fun hi => ?_
    obtain ⟨i0, i1, i2⟩ := hi
    dsimp only at i0 i1 i2 ⊢
    (repeat first | refine G1 ?_ | refine G2 ?_ | refine G3 ?_ | refine G4 ?_ | refine G5 rfl ?_ | refine G6 rfl ?_ | refine G7 rfl ?_)
    (focus (refine R0 ?_; refine lv (by exact Ylt) ?_; refine R1 ?_; rotate_left))

    (repeat first | refine G1 ?_ | refine G2 ?_ | refine G3 ?_ | refine G4 ?_ | refine G5 rfl ?_ | refine G6 rfl ?_ | refine G7 rfl ?_)
    refine Run.condP rfl (fun c1 => ?_) (fun c1 => ?_)
    · have hx : rd xs i ∈ xs := List.mem_of_getElem? (rd_some i0 c1)
      have tx := hb _ hx
      have e1 := take_snoc xs i i0 c1
      (repeat first | refine G1 ?_ | refine G2 ?_ | refine G3 ?_ | refine G4 ?_ | refine G5 rfl ?_ | refine G6 rfl ?_ | refine G7 rfl ?_)
      (focus (refine R0 ?_; refine lX ?_; refine lL ?_; refine lA ?_; refine R1 ?_; rotate_left))

      (repeat first | refine G1 ?_ | refine G2 ?_ | refine G3 ?_ | refine G4 ?_ | refine G5 rfl ?_ | refine G6 rfl ?_ | refine G7 rfl ?_)
      (focus (refine R0 ?_; refine lM ?_; refine lc [] rfl rfl (fun _ hle hA => var_ct _ (rd xs i) tx.1 tx.2) ?_; intro v20; (try dsimp only [List.cons_append, List.nil_append, List.append_nil]); (repeat (refine RunL.unpu fun h20 => ?_; try subst h20)); refine lA ?_; refine R1 ?_; rotate_left))

      (repeat first | refine G1 ?_ | refine G2 ?_ | refine G3 ?_ | refine G4 ?_ | refine G5 rfl ?_ | refine G6 rfl ?_ | refine G7 rfl ?_)
      generalize hv : max (rd xs i) (-rd xs i) = v
      have hy' : ∀ j : Int, 0 ≤ j → j < bys.length → Tame (rd bys j) := fun j h0 h1 => hy _ (List.mem_of_getElem? (rd_some h0 h1))
      have hall : renB bys (rd xs i) = true → xs.any (renB bys) = true := fun h => List.any_eq_true.2 ⟨_, hx, h⟩
      (repeat first | refine G1 ?_ | refine G2 ?_ | refine G3 ?_ | refine G4 ?_ | refine G5 rfl ?_ | refine G6 rfl ?_ | refine G7 rfl ?_)
      (focus (refine R0 ?_; refine lM ?_; refine lv (by exact Ylt) ?_; refine lM ?_; (first | refine RunL.knownP (t := 23) rfl (fun c23 => ?_) (fun c23 => ?_) | refine RunL.known (t := 23) rfl (fun c23 => ?_) (fun c23 => ?_)); refine lF ?_; refine lF ?_; refine lF ?_; refine lF ?_; refine lv (by first | exact YpT | exact YpF | exact Yields.pickB rfl rfl rfl) ?_; refine lM ?_; refine lF ?_; refine lF ?_; refine lF ?_; refine lF ?_; refine lF ?_; refine lv (by first | exact YpT | exact YpF | exact Yields.pickB rfl rfl rfl) ?_; refine R1 ?_; rotate_left; refine lT ?_; refine lM ?_; refine lT ?_; refine lM ?_; refine lT ?_; refine lE ?_; refine lT ?_; refine lv (by exact Yge) ?_; refine lv (by first | exact YpT | exact YpF | exact Yields.pickB rfl rfl rfl) ?_; refine lM ?_; (first | refine RunL.knownP (t := 29) rfl (fun c29 => ?_) (fun c29 => ?_) | refine RunL.known (t := 29) rfl (fun c29 => ?_) (fun c29 => ?_)); refine lF ?_; refine lF ?_; refine lF ?_; refine lF ?_; refine lF ?_; refine lv (by first | exact YpT | exact YpF | exact Yields.pickB rfl rfl rfl) ?_; refine R1 ?_; rotate_left; refine lT ?_; refine lM ?_; refine lT ?_; refine lM ?_; refine lT ?_; refine lX ?_; refine lT ?_; refine lL ?_; refine lT ?_; refine lv (by exact Yeq) ?_; refine lv (by first | exact YpT | exact YpF | exact Yields.pickB rfl rfl rfl) ?_; refine R1 ?_; rotate_left))

      (repeat first | refine G1 ?_ | refine G2 ?_ | refine G3 ?_ | refine G4 ?_ | refine G5 rfl ?_ | refine G6 rfl ?_ | refine G7 rfl ?_)
      · have hB : renB bys (rd xs i) = true := by simp only [renB, hv, decide_eq_true_eq]; omega
        (repeat first | refine G1 ?_ | refine G2 ?_ | refine G3 ?_ | refine G4 ?_ | refine G5 rfl ?_ | refine G6 rfl ?_ | refine G7 rfl ?_)
        (focus (refine R0 ?_; refine lv (by exact YaN) ?_; refine lA ?_; refine R1 ?_; rotate_left))

        (repeat first | refine G1 ?_ | refine G2 ?_ | refine G3 ?_ | refine G4 ?_ | refine G5 rfl ?_ | refine G6 rfl ?_ | refine G7 rfl ?_)
        (refine Run.ret2 Tryd.results30 (by rfl) (by rfl) ?_)
        refine Ent.hex nilS (Ent.hex [] (Ent.hex false (Ent.flat (Ent.pu ⟨rfl, by rw [hall hB]; rfl, fun h => by cases h⟩ (Ent.nilA Ent.done)))))
      · have hB : renB bys (rd xs i) = true := by simp only [renB, hv, decide_eq_true_eq]; omega
        (repeat first | refine G1 ?_ | refine G2 ?_ | refine G3 ?_ | refine G4 ?_ | refine G5 rfl ?_ | refine G6 rfl ?_ | refine G7 rfl ?_)
        (focus (refine R0 ?_; refine lv (by exact YaN) ?_; refine lA ?_; refine R1 ?_; rotate_left))

        (repeat first | refine G1 ?_ | refine G2 ?_ | refine G3 ?_ | refine G4 ?_ | refine G5 rfl ?_ | refine G6 rfl ?_ | refine G7 rfl ?_)
        (refine Run.ret2 Tryd.results30 (by rfl) (by rfl) ?_)
        refine Ent.hex nilS (Ent.hex [] (Ent.hex false (Ent.flat (Ent.pu ⟨rfl, by rw [hall hB]; rfl, fun h => by cases h⟩ (Ent.nilA Ent.done)))))
      · refine Run.condP rfl (fun c2 => ?_) (fun c2 => ?_)
        · have hB : renB bys (rd xs i) = true := by simp only [renB, hv, decide_eq_true_eq]; omega
          (repeat first | refine G1 ?_ | refine G2 ?_ | refine G3 ?_ | refine G4 ?_ | refine G5 rfl ?_ | refine G6 rfl ?_ | refine G7 rfl ?_)
          (focus (refine R0 ?_; refine lv (by exact YaN) ?_; refine lA ?_; refine R1 ?_; rotate_left))

          (repeat first | refine G1 ?_ | refine G2 ?_ | refine G3 ?_ | refine G4 ?_ | refine G5 rfl ?_ | refine G6 rfl ?_ | refine G7 rfl ?_)
          (refine Run.ret2 Tryd.results30 (by rfl) (by rfl) ?_)
          refine Ent.hex nilS (Ent.hex [] (Ent.hex false (Ent.flat (Ent.pu ⟨rfl, by rw [hall hB]; rfl, fun h => by cases h⟩ (Ent.nilA Ent.done)))))
        · have hB : renB bys (rd xs i) = false := by simp only [renB, hv, decide_eq_false_iff_not]; omega
          have htm := hy' v (by omega) (by omega)
          simp only [Tame] at htm
          have hlen : ((xs.take i.toNat).map (renL bys)).length = i.toNat := by simp; omega
          (repeat first | refine G1 ?_ | refine G2 ?_ | refine G3 ?_ | refine G4 ?_ | refine G5 rfl ?_ | refine G6 rfl ?_ | refine G7 rfl ?_)
          (focus (refine R0 ?_; refine lM ?_; refine lv (by exact Ylt) ?_; refine R1 ?_; rotate_left))

          (repeat first | refine G1 ?_ | refine G2 ?_ | refine G3 ?_ | refine G4 ?_ | refine G5 rfl ?_ | refine G6 rfl ?_ | refine G7 rfl ?_)
          refine Run.condP rfl (fun c3 => ?_) (fun c3 => ?_)
          · (repeat first | refine G1 ?_ | refine G2 ?_ | refine G3 ?_ | refine G4 ?_ | refine G5 rfl ?_ | refine G6 rfl ?_ | refine G7 rfl ?_)
            (focus (refine R0 ?_; refine lM ?_; refine lM ?_; refine lM ?_; refine lX ?_; refine lL ?_; refine lv (by exact Yng) ?_; refine leS (by exact Db1) ?_; intro v44; (try dsimp only [List.cons_append, List.nil_append, List.append_nil]); refine leS (by exact Dap) ?_; intro v45; (try dsimp only [List.cons_append, List.nil_append, List.append_nil]); (repeat (refine RunL.unpu fun h45 => ?_; try subst h45)); refine lA ?_; refine R1 ?_; rotate_left))

            (repeat first | refine G1 ?_ | refine G2 ?_ | refine G3 ?_ | refine G4 ?_ | refine G5 rfl ?_ | refine G6 rfl ?_ | refine G7 rfl ?_)
            (focus (refine R0 ?_; refine lv (by exact Yad) ?_; refine lM ?_; refine R1 ?_; rotate_left))

            (repeat first | refine G1 ?_ | refine G2 ?_ | refine G3 ?_ | refine G4 ?_ | refine G5 rfl ?_ | refine G6 rfl ?_ | refine G7 rfl ?_)
            refine Run.weaken (by (repeat (first | exact Sub.nil _ | refine Sub.cons rfl ?_))) ?_ (ih (i + 1, v45) (by dsimp only; omega))
            have e2 : renL bys (rd xs i) = -(rd bys v) := by simp only [renL, hv, if_pos c3]
            dsimp only
            rw [e1, List.map_append, List.map_cons, List.map_nil, e2]
            (focus ((repeat first | refine E1 ?_ ?_ | refine E2 ?_ | refine E3 ?_ | refine E4 ?_ | refine E5 ?_ | refine E6 ?_ | refine E7 ?_ | refine E8 ?_); exact E9; all_goals try first | rfl | assumption | omega))
            refine ⟨by omega, by omega, by rw [List.any_append, i2]; simp [hB]⟩
          · (repeat first | refine G1 ?_ | refine G2 ?_ | refine G3 ?_ | refine G4 ?_ | refine G5 rfl ?_ | refine G6 rfl ?_ | refine G7 rfl ?_)
            (focus (refine R0 ?_; refine lM ?_; refine lM ?_; refine lM ?_; refine lX ?_; refine lL ?_; refine leS (by exact Db1) ?_; intro v51; (try dsimp only [List.cons_append, List.nil_append, List.append_nil]); refine leS (by exact Dap) ?_; intro v52; (try dsimp only [List.cons_append, List.nil_append, List.append_nil]); (repeat (refine RunL.unpu fun h52 => ?_; try subst h52)); refine lA ?_; refine R1 ?_; rotate_left))

            (repeat first | refine G1 ?_ | refine G2 ?_ | refine G3 ?_ | refine G4 ?_ | refine G5 rfl ?_ | refine G6 rfl ?_ | refine G7 rfl ?_)
            (focus (refine R0 ?_; refine lv (by exact Yad) ?_; refine lM ?_; refine R1 ?_; rotate_left))

            (repeat first | refine G1 ?_ | refine G2 ?_ | refine G3 ?_ | refine G4 ?_ | refine G5 rfl ?_ | refine G6 rfl ?_ | refine G7 rfl ?_)
            refine Run.weaken (by (repeat (first | exact Sub.nil _ | refine Sub.cons rfl ?_))) ?_ (ih (i + 1, v52) (by dsimp only; omega))
            have e2 : renL bys (rd xs i) = rd bys v := by simp only [renL, hv, if_neg c3]
            dsimp only
            rw [e1, List.map_append, List.map_cons, List.map_nil, e2]
            (focus ((repeat first | refine E1 ?_ ?_ | refine E2 ?_ | refine E3 ?_ | refine E4 ?_ | refine E5 ?_ | refine E6 ?_ | refine E7 ?_ | refine E8 ?_); exact E9; all_goals try first | rfl | assumption | omega))
            refine ⟨by omega, by omega, by rw [List.any_append, i2]; simp [hB]⟩
    · have e1 : xs.take i.toNat = xs := List.take_of_length_le (by omega)
      rw [e1] at i2 ⊢
      (repeat first | refine G1 ?_ | refine G2 ?_ | refine G3 ?_ | refine G4 ?_ | refine G5 rfl ?_ | refine G6 rfl ?_ | refine G7 rfl ?_)
      (focus (refine R0 ?_; refine lM ?_; refine lA ?_; refine lA ?_; refine R1 ?_; rotate_left))

      (repeat first | refine G1 ?_ | refine G2 ?_ | refine G3 ?_ | refine G4 ?_ | refine G5 rfl ?_ | refine G6 rfl ?_ | refine G7 rfl ?_)
      (refine Run.ret2 Tryd.results30 (by rfl) (by rfl) ?_)
      refine Ent.hex t (Ent.hex _ (Ent.hex true (Ent.flat (Ent.pu ⟨rfl, by rw [i2]; rfl, fun _ => rfl⟩ (Ent.refl _)))))
end Go.Proofs.YtfldnnpcdjabnaaDoor
