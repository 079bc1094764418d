/-
  skolemref1.Rename; skolemmake.Small, Free, CNF.
-/
import Derived.Test.YtfldnnpcdjabnaaDoorRef
set_option linter.unusedVariables false
set_option linter.unusedSimpArgs false
namespace Go.Proofs.YtfldnnpcdjabnaaDoor
open Go
attribute [local irreducible] Yields Does Run RunL AnyL Ct Reads Peek PeekN Poke Pick Fits Sub Ent Still Arr RArr Cells el stars In
theorem refRename_ct (ρ : Frag) (c by' : SV) (xs bys : List Int) (hR : In (RArr KInt c.v xs) ρ) (hY : In (RArr KInt by'.v bys) ρ) (hb : ∀ x ∈ xs, Tame x) (hy : ∀ x ∈ bys, Tame x) :
    Ct Tryd.prog 18 [c.v, by'.v] ρ [] (fun r => [hex fun t : SV => hex fun l : List Int => hex fun ok : Bool => stars [pu (r = .tuple #[t.v, .bool ok] ∧ ok = !(xs.any (renB bys)) ∧ (ok = true → l = xs.map (renL bys)) ∧ (ok = false → l = [])), Arr KInt t.v l]]) := by
  have h64 := In.i64 hR
  have h64' := In.i64 hY
  (refine Ct.of_run Tryd.func18 rfl Tryd.ntmps18 rfl (Nat.le_of_ble_eq_true rfl) ?_)
  (repeat first | refine G1 ?_ | refine G2 ?_ | refine G3 ?_ | refine G4 ?_ | refine G5 rfl ?_ | refine G6 rfl ?_ | refine G7 rfl ?_)
  (focus (refine R0 ?_; refine lv (by exact YaN) ?_; refine lA ?_; refine R1 ?_; rotate_left))

  (repeat first | refine G1 ?_ | refine G2 ?_ | refine G3 ?_ | refine G4 ?_ | refine G5 rfl ?_ | refine G6 rfl ?_ | refine G7 rfl ?_)
  (focus (refine R0 ?_; refine lv (by exact YaN) ?_; refine R1 ?_; rotate_left))

  (repeat first | refine G1 ?_ | refine G2 ?_ | refine G3 ?_ | refine G4 ?_ | refine G5 rfl ?_ | refine G6 rfl ?_ | refine G7 rfl ?_)
  (focus (refine R0 ?_; refine lA ?_; refine R1 ?_; rotate_left))

  (repeat first | refine G1 ?_ | refine G2 ?_ | refine G3 ?_ | refine G4 ?_ | refine G5 rfl ?_ | refine G6 rfl ?_ | refine G7 rfl ?_)
  refine Run.loopI (X := Int × SV) (fun x => [(0, c.v), (1, by'.v), (6, x.2.v), (7, int x.1)])
    (fun x => [pu (0 ≤ x.1 ∧ x.1 ≤ xs.length ∧ (xs.take x.1.toNat).any (renB bys) = false), Arr KInt x.2.v ((xs.take x.1.toNat).map (renL bys))]) (fun x => (xs.length - x.1).toNat) (0, nilS) (by (repeat (first | exact Sub.nil _ | refine Sub.cons rfl ?_))) ?_ ?_
  · show Ent [] [pu ((0 : Int) ≤ 0 ∧ (0 : Int) ≤ xs.length ∧ false = false), Arr KInt nilS.v []]
    (focus ((repeat first | refine E1 ?_ ?_ | refine E2 ?_ | refine E3 ?_ | refine E4 ?_ | refine E5 ?_ | refine E6 ?_ | refine E7 ?_ | refine E8 ?_); exact E9; all_goals try first | rfl | assumption | omega))
    exact ⟨by omega, by omega, rfl⟩
  · rintro ⟨i, t⟩ ih
    refine Run.unpu fun hi => ?_
    obtain ⟨i0, i1, i2⟩ := hi
    dsimp only at i0 i1 i2 ⊢
    (repeat first | refine G1 ?_ | refine G2 ?_ | refine G3 ?_ | refine G4 ?_ | refine G5 rfl ?_ | refine G6 rfl ?_ | refine G7 rfl ?_)
    (focus (refine R0 ?_; refine lM ?_; refine lM ?_; refine lE ?_; refine lv (by exact Ylt) ?_; refine R1 ?_; rotate_left))

    (repeat first | refine G1 ?_ | refine G2 ?_ | refine G3 ?_ | refine G4 ?_ | refine G5 rfl ?_ | refine G6 rfl ?_ | refine G7 rfl ?_)
    refine Run.condP rfl (fun c1 => ?_) (fun c1 => ?_)
    · have hx : rd xs i ∈ xs := List.mem_of_getElem? (rd_some i0 c1)
      have tx := hb _ hx
      have e1 := take_snoc xs i i0 c1
      have hy' : ∀ j : Int, 0 ≤ j → j < bys.length → Tame (rd bys j) := fun j h0 h1 => hy _ (List.mem_of_getElem? (rd_some h0 h1))
      have hall : renB bys (rd xs i) = true → xs.any (renB bys) = true := fun h => List.any_eq_true.2 ⟨_, hx, h⟩
      have tx' := tx
      simp only [Tame] at tx'
      generalize hv : max (rd xs i) (-rd xs i) = v
      (repeat first | refine G1 ?_ | refine G2 ?_ | refine G3 ?_ | refine G4 ?_ | refine G5 rfl ?_ | refine G6 rfl ?_ | refine G7 rfl ?_)
      (focus (refine R0 ?_; refine lM ?_; refine lM ?_; refine lX ?_; refine lL ?_; refine lA ?_; refine R1 ?_; rotate_left))

      (repeat first | refine G1 ?_ | refine G2 ?_ | refine G3 ?_ | refine G4 ?_ | refine G5 rfl ?_ | refine G6 rfl ?_ | refine G7 rfl ?_)
      (focus (refine R0 ?_; refine lM ?_; refine lM ?_; refine lE ?_; refine lv (by exact Yge) ?_; refine lM ?_; (first | refine RunL.knownP (t := 24) rfl (fun c24 => ?_) (fun c24 => ?_) | refine RunL.known (t := 24) rfl (fun c24 => ?_) (fun c24 => ?_)); refine lF ?_; refine lF ?_; refine lF ?_; refine lF ?_; refine lF ?_; refine lv (by first | exact YpT | exact YpF | exact Yields.pickB rfl rfl rfl) ?_; refine lM ?_; refine lF ?_; refine lF ?_; refine lF ?_; refine lF ?_; refine lv (by first | exact YpT | exact YpF | exact Yields.pickB rfl rfl rfl) ?_; refine R1 ?_; rotate_left; refine lT ?_; refine lM ?_; refine lT ?_; refine lv (by exact Yng) ?_; refine lT ?_; refine lM ?_; refine lT ?_; refine lE ?_; refine lT ?_; refine lv (by exact Yge) ?_; refine lv (by first | exact YpT | exact YpF | exact Yields.pickB rfl rfl rfl) ?_; refine lM ?_; (first | refine RunL.knownP (t := 31) rfl (fun c31 => ?_) (fun c31 => ?_) | refine RunL.known (t := 31) rfl (fun c31 => ?_) (fun c31 => ?_)); refine lF ?_; refine lF ?_; refine lF ?_; refine lF ?_; refine lv (by first | exact YpT | exact YpF | exact Yields.pickB rfl rfl rfl) ?_; refine R1 ?_; rotate_left; refine lT ?_; refine lM ?_; refine lT ?_; refine lM ?_; refine lT ?_; refine lv (by exact Yng) ?_; refine lT ?_; refine lv (by exact Yeq) ?_; refine lv (by first | exact YpT | exact YpF | exact Yields.pickB rfl rfl rfl) ?_; refine R1 ?_; rotate_left))

      (repeat first | refine G1 ?_ | refine G2 ?_ | refine G3 ?_ | refine G4 ?_ | refine G5 rfl ?_ | refine G6 rfl ?_ | refine G7 rfl ?_)
      · have hB : renB bys (rd xs i) = true := by simp only [renB, hv, decide_eq_true_eq]; omega
        (repeat first | refine G1 ?_ | refine G2 ?_ | refine G3 ?_ | refine G4 ?_ | refine G5 rfl ?_ | refine G6 rfl ?_ | refine G7 rfl ?_)
        (focus (refine R0 ?_; refine lv (by exact YaN) ?_; refine lA ?_; refine R1 ?_; rotate_left))

        (repeat first | refine G1 ?_ | refine G2 ?_ | refine G3 ?_ | refine G4 ?_ | refine G5 rfl ?_ | refine G6 rfl ?_ | refine G7 rfl ?_)
        (refine Run.ret2 Tryd.results18 (by rfl) (by rfl) ?_)
        refine Ent.hex nilS (Ent.hex [] (Ent.hex false (Ent.flat (Ent.pu ⟨rfl, by rw [hall hB]; rfl, (fun h => by cases h), fun _ => rfl⟩ (Ent.nilA Ent.done)))))
      · have hB : renB bys (rd xs i) = true := by simp only [renB, hv, decide_eq_true_eq]; omega
        (repeat first | refine G1 ?_ | refine G2 ?_ | refine G3 ?_ | refine G4 ?_ | refine G5 rfl ?_ | refine G6 rfl ?_ | refine G7 rfl ?_)
        (focus (refine R0 ?_; refine lv (by exact YaN) ?_; refine lA ?_; refine R1 ?_; rotate_left))

        (repeat first | refine G1 ?_ | refine G2 ?_ | refine G3 ?_ | refine G4 ?_ | refine G5 rfl ?_ | refine G6 rfl ?_ | refine G7 rfl ?_)
        (refine Run.ret2 Tryd.results18 (by rfl) (by rfl) ?_)
        refine Ent.hex nilS (Ent.hex [] (Ent.hex false (Ent.flat (Ent.pu ⟨rfl, by rw [hall hB]; rfl, (fun h => by cases h), fun _ => rfl⟩ (Ent.nilA Ent.done)))))
      · refine Run.condP rfl (fun c2 => ?_) (fun c2 => ?_)
        · have hB : renB bys (rd xs i) = true := by simp only [renB, hv, decide_eq_true_eq]; omega
          (repeat first | refine G1 ?_ | refine G2 ?_ | refine G3 ?_ | refine G4 ?_ | refine G5 rfl ?_ | refine G6 rfl ?_ | refine G7 rfl ?_)
          (focus (refine R0 ?_; refine lv (by exact YaN) ?_; refine lA ?_; refine R1 ?_; rotate_left))

          (repeat first | refine G1 ?_ | refine G2 ?_ | refine G3 ?_ | refine G4 ?_ | refine G5 rfl ?_ | refine G6 rfl ?_ | refine G7 rfl ?_)
          (refine Run.ret2 Tryd.results18 (by rfl) (by rfl) ?_)
          refine Ent.hex nilS (Ent.hex [] (Ent.hex false (Ent.flat (Ent.pu ⟨rfl, by rw [hall hB]; rfl, (fun h => by cases h), fun _ => rfl⟩ (Ent.nilA Ent.done)))))
        · have v0 : 0 ≤ v := by omega
          have v1 : v < bys.length := by omega
          have htm := hy' v v0 v1
          simp only [Tame] at htm
          (repeat first | refine G1 ?_ | refine G2 ?_ | refine G3 ?_ | refine G4 ?_ | refine G5 rfl ?_ | refine G6 rfl ?_ | refine G7 rfl ?_)
          (focus (refine R0 ?_; refine lM ?_; refine lM ?_; refine lc [] rfl rfl (fun _ hle hA => abs_ct _ (rd xs i) tx.1 tx.2) ?_; intro v39; (try dsimp only [List.cons_append, List.nil_append, List.append_nil]); (repeat (refine RunL.unpu fun h39 => ?_; try subst h39)); rw [hv]; refine lX ?_; refine lL ?_; refine lA ?_; refine R1 ?_; rotate_left))

          (repeat first | refine G1 ?_ | refine G2 ?_ | refine G3 ?_ | refine G4 ?_ | refine G5 rfl ?_ | refine G6 rfl ?_ | refine G7 rfl ?_)
          (focus (refine R0 ?_; refine lM ?_; refine lv (by exact Yeq) ?_; refine R1 ?_; rotate_left))

          (repeat first | refine G1 ?_ | refine G2 ?_ | refine G3 ?_ | refine G4 ?_ | refine G5 rfl ?_ | refine G6 rfl ?_ | refine G7 rfl ?_)
          refine Run.condP rfl (fun c3 => ?_) (fun c3 => ?_)
          · have hB : renB bys (rd xs i) = true := by simp only [renB, hv, decide_eq_true_eq]; omega
            (repeat first | refine G1 ?_ | refine G2 ?_ | refine G3 ?_ | refine G4 ?_ | refine G5 rfl ?_ | refine G6 rfl ?_ | refine G7 rfl ?_)
            (focus (refine R0 ?_; refine lv (by exact YaN) ?_; refine lA ?_; refine R1 ?_; rotate_left))

            (repeat first | refine G1 ?_ | refine G2 ?_ | refine G3 ?_ | refine G4 ?_ | refine G5 rfl ?_ | refine G6 rfl ?_ | refine G7 rfl ?_)
            (refine Run.ret2 Tryd.results18 (by rfl) (by rfl) ?_)
            refine Ent.hex nilS (Ent.hex [] (Ent.hex false (Ent.flat (Ent.pu ⟨rfl, by rw [hall hB]; rfl, (fun h => by cases h), fun _ => rfl⟩ (Ent.nilA Ent.done)))))
          · have hB : renB bys (rd xs i) = false := by simp only [renB, hv, decide_eq_false_iff_not]; omega
            have hlen : ((xs.take i.toNat).map (renL bys)).length = i.toNat := by simp; omega
            (repeat first | refine G1 ?_ | refine G2 ?_ | refine G3 ?_ | refine G4 ?_ | refine G5 rfl ?_ | refine G6 rfl ?_ | refine G7 rfl ?_)
            (focus (refine R0 ?_; refine lM ?_; refine lv (by exact Ylt) ?_; refine R1 ?_; rotate_left))

            (repeat first | refine G1 ?_ | refine G2 ?_ | refine G3 ?_ | refine G4 ?_ | refine G5 rfl ?_ | refine G6 rfl ?_ | refine G7 rfl ?_)
            refine Run.condP rfl (fun c4 => ?_) (fun c4 => ?_)
            · have e2 : renL bys (rd xs i) = -(rd bys v) := by simp only [renL, hv, if_pos c4]
              (repeat first | refine G1 ?_ | refine G2 ?_ | refine G3 ?_ | refine G4 ?_ | refine G5 rfl ?_ | refine G6 rfl ?_ | refine G7 rfl ?_)
              (focus (refine R0 ?_; refine lM ?_; refine lv (by exact Yng) ?_; refine lA ?_; refine R1 ?_; rotate_left))

              (repeat first | refine G1 ?_ | refine G2 ?_ | refine G3 ?_ | refine G4 ?_ | refine G5 rfl ?_ | refine G6 rfl ?_ | refine G7 rfl ?_)
              (focus (refine R0 ?_; refine lM ?_; refine lM ?_; refine leS (by exact Db1) ?_; intro v50; (try dsimp only [List.cons_append, List.nil_append, List.append_nil]); refine leS (by exact Dap) ?_; intro v51; (try dsimp only [List.cons_append, List.nil_append, List.append_nil]); (repeat (refine RunL.unpu fun h51 => ?_; try subst h51)); refine lA ?_; refine R1 ?_; rotate_left))

              (repeat first | refine G1 ?_ | refine G2 ?_ | refine G3 ?_ | refine G4 ?_ | refine G5 rfl ?_ | refine G6 rfl ?_ | refine G7 rfl ?_)
              (focus (refine R0 ?_; refine lM ?_; refine lv (by exact Yad) ?_; refine lA ?_; refine R1 ?_; rotate_left))

              (repeat first | refine G1 ?_ | refine G2 ?_ | refine G3 ?_ | refine G4 ?_ | refine G5 rfl ?_ | refine G6 rfl ?_ | refine G7 rfl ?_)
              refine Run.weaken (by (repeat (first | exact Sub.nil _ | refine Sub.cons rfl ?_))) ?_ (ih (i + 1, v51) (by dsimp only; omega))
              dsimp only
              rw [e1, List.map_append, List.map_cons, List.map_nil, e2]
              (focus ((repeat first | refine E1 ?_ ?_ | refine E2 ?_ | refine E3 ?_ | refine E4 ?_ | refine E5 ?_ | refine E6 ?_ | refine E7 ?_ | refine E8 ?_); exact E9; all_goals try first | rfl | assumption | omega))
              refine ⟨by omega, by omega, by rw [List.any_append, i2]; simp [hB]⟩
            · have e2 : renL bys (rd xs i) = rd bys v := by simp only [renL, hv, if_neg c4]
              (repeat first | refine G1 ?_ | refine G2 ?_ | refine G3 ?_ | refine G4 ?_ | refine G5 rfl ?_ | refine G6 rfl ?_ | refine G7 rfl ?_)
              (focus (refine R0 ?_; refine lM ?_; refine lM ?_; refine leS (by exact Db1) ?_; intro v50; (try dsimp only [List.cons_append, List.nil_append, List.append_nil]); refine leS (by exact Dap) ?_; intro v51; (try dsimp only [List.cons_append, List.nil_append, List.append_nil]); (repeat (refine RunL.unpu fun h51 => ?_; try subst h51)); refine lA ?_; refine R1 ?_; rotate_left))

              (repeat first | refine G1 ?_ | refine G2 ?_ | refine G3 ?_ | refine G4 ?_ | refine G5 rfl ?_ | refine G6 rfl ?_ | refine G7 rfl ?_)
              (focus (refine R0 ?_; refine lM ?_; refine lv (by exact Yad) ?_; refine lA ?_; refine R1 ?_; rotate_left))

              (repeat first | refine G1 ?_ | refine G2 ?_ | refine G3 ?_ | refine G4 ?_ | refine G5 rfl ?_ | refine G6 rfl ?_ | refine G7 rfl ?_)
              refine Run.weaken (by (repeat (first | exact Sub.nil _ | refine Sub.cons rfl ?_))) ?_ (ih (i + 1, v51) (by dsimp only; omega))
              dsimp only
              rw [e1, List.map_append, List.map_cons, List.map_nil, e2]
              (focus ((repeat first | refine E1 ?_ ?_ | refine E2 ?_ | refine E3 ?_ | refine E4 ?_ | refine E5 ?_ | refine E6 ?_ | refine E7 ?_ | refine E8 ?_); exact E9; all_goals try first | rfl | assumption | omega))
              refine ⟨by omega, by omega, by rw [List.any_append, i2]; simp [hB]⟩
    · have e1 : xs.take i.toNat = xs := List.take_of_length_le (by omega)
      rw [e1] at i2 ⊢
      (repeat first | refine G1 ?_ | refine G2 ?_ | refine G3 ?_ | refine G4 ?_ | refine G5 rfl ?_ | refine G6 rfl ?_ | refine G7 rfl ?_)
      (focus (refine R0 ?_; refine lM ?_; refine lA ?_; refine lA ?_; refine R1 ?_; rotate_left))

      (repeat first | refine G1 ?_ | refine G2 ?_ | refine G3 ?_ | refine G4 ?_ | refine G5 rfl ?_ | refine G6 rfl ?_ | refine G7 rfl ?_)
      (refine Run.ret2 Tryd.results18 (by rfl) (by rfl) ?_)
      refine Ent.hex t (Ent.hex _ (Ent.hex true (Ent.flat (Ent.pu ⟨rfl, by rw [i2]; rfl, fun _ => rfl, fun h => by cases h⟩ (Ent.refl _)))))
def smallB (s : ScriptS) : Bool := decide (s.restart.length ≤ 50) && decide (s.keep.length ≤ 50) && decide (s.tie.length ≤ 50) && decide (s.sign.length ≤ 50)
theorem small_ct (ρ : Frag) (s : ScriptS) (q : ScriptV) (hR : ScriptIn ρ s q) : Ct Tryd.prog 13 [scriptV s q] ρ [] (fun r => [pu (r = .bool (smallB s))]) := by
  obtain ⟨h1, h2, h3, h4⟩ := hR
  (refine Ct.of_run Tryd.func13 rfl Tryd.ntmps13 rfl (Nat.le_of_ble_eq_true rfl) ?_)
  (repeat first | refine G1 ?_ | refine G2 ?_ | refine G3 ?_ | refine G4 ?_ | refine G5 rfl ?_ | refine G6 rfl ?_ | refine G7 rfl ?_)
  (focus (refine R0 ?_; refine le (by exact Dbx) ?_; intro v1; (try dsimp only [List.cons_append, List.nil_append, List.append_nil]); refine RunL.unhex fun b1 => ?_; refine RunL.unhex fun hb => ?_; subst hb; refine lA ?_; refine R1 ?_; rotate_left))

  (repeat first | refine G1 ?_ | refine G2 ?_ | refine G3 ?_ | refine G4 ?_ | refine G5 rfl ?_ | refine G6 rfl ?_ | refine G7 rfl ?_)
  (focus (refine R0 ?_; refine lG ?_; refine lL ?_; refine lE ?_; refine lv (by exact Yle) ?_; refine lM ?_; (first | refine RunL.knownP (t := 7) rfl (fun c7 => ?_) (fun c7 => ?_) | refine RunL.known (t := 7) rfl (fun c7 => ?_) (fun c7 => ?_)); refine lT ?_; refine lG ?_; refine lT ?_; refine lL ?_; refine lT ?_; refine lE ?_; refine lT ?_; refine lv (by exact Yle) ?_; refine lv (by first | exact YpT | exact YpF | exact Yields.pickB rfl rfl rfl) ?_; refine lM ?_; (first | refine RunL.knownP (t := 13) rfl (fun c13 => ?_) (fun c13 => ?_) | refine RunL.known (t := 13) rfl (fun c13 => ?_) (fun c13 => ?_)); refine lT ?_; refine lG ?_; refine lT ?_; refine lL ?_; refine lT ?_; refine lE ?_; refine lT ?_; refine lv (by exact Yle) ?_; refine lv (by first | exact YpT | exact YpF | exact Yields.pickB rfl rfl rfl) ?_; refine lM ?_; (first | refine RunL.knownP (t := 19) rfl (fun c19 => ?_) (fun c19 => ?_) | refine RunL.known (t := 19) rfl (fun c19 => ?_) (fun c19 => ?_)); refine lT ?_; refine lG ?_; refine lT ?_; refine lL ?_; refine lT ?_; refine lE ?_; refine lT ?_; refine lv (by exact Yle) ?_; refine lv (by first | exact YpT | exact YpF | exact Yields.pickB rfl rfl rfl) ?_; refine lA ?_; refine R1 ?_; rotate_left; refine lF ?_; refine lF ?_; refine lF ?_; refine lF ?_; refine lv (by first | exact YpT | exact YpF | exact Yields.pickB rfl rfl rfl) ?_; refine lA ?_; refine R1 ?_; rotate_left; refine lF ?_; refine lF ?_; refine lF ?_; refine lF ?_; refine lv (by first | exact YpT | exact YpF | exact Yields.pickB rfl rfl rfl) ?_; refine lM ?_; refine lF ?_; refine lF ?_; refine lF ?_; refine lF ?_; refine lv (by first | exact YpT | exact YpF | exact Yields.pickB rfl rfl rfl) ?_; refine lA ?_; refine R1 ?_; rotate_left; refine lF ?_; refine lF ?_; refine lF ?_; refine lF ?_; refine lv (by first | exact YpT | exact YpF | exact Yields.pickB rfl rfl rfl) ?_; refine lM ?_; refine lF ?_; refine lF ?_; refine lF ?_; refine lF ?_; refine lv (by first | exact YpT | exact YpF | exact Yields.pickB rfl rfl rfl) ?_; refine lM ?_; refine lF ?_; refine lF ?_; refine lF ?_; refine lF ?_; refine lv (by first | exact YpT | exact YpF | exact Yields.pickB rfl rfl rfl) ?_; refine lA ?_; refine R1 ?_; rotate_left))

  (repeat first | refine G1 ?_ | refine G2 ?_ | refine G3 ?_ | refine G4 ?_ | refine G5 rfl ?_ | refine G6 rfl ?_ | refine G7 rfl ?_)
  all_goals
    (refine Run.ret1 Tryd.results13 (by rfl) ?_)
    (focus ((repeat first | refine E1 ?_ ?_ | refine E2 ?_ | refine E3 ?_ | refine E4 ?_ | refine E5 ?_ | refine E6 ?_ | refine E7 ?_ | refine E8 ?_); exact E9; all_goals try first | rfl | assumption | omega))
    have e : ∀ n : Nat, ((n : Int) ≤ 50) ↔ n ≤ 50 := fun n => by omega
    simp_all [smallB]
    all_goals omega
abbrev ScriptS.free (s : ScriptS) : ScriptS := { s with conflicts := 0, rounds := 0 }
theorem free_ct (ρ : Frag) (s : ScriptS) (q : ScriptV) : Ct Tryd.prog 28 [scriptV s q] ρ [] (fun r => [pu (r = scriptV s.free q)]) := by
  (refine Ct.of_run Tryd.func28 rfl Tryd.ntmps28 rfl (Nat.le_of_ble_eq_true rfl) ?_)
  (repeat first | refine G1 ?_ | refine G2 ?_ | refine G3 ?_ | refine G4 ?_ | refine G5 rfl ?_ | refine G6 rfl ?_ | refine G7 rfl ?_)
  (focus (refine R0 ?_; refine le (by exact Dbx) ?_; intro v1; (try dsimp only [List.cons_append, List.nil_append, List.append_nil]); refine RunL.unhex fun b1 => ?_; refine RunL.unhex fun hb => ?_; subst hb; refine le (by exact Dal Tryd.zeroValue28) ?_; intro v2; (try dsimp only [List.cons_append, List.nil_append, List.append_nil]); refine RunL.unhex fun b2 => ?_; refine RunL.unhex fun hb => ?_; subst hb; refine R1 ?_; rotate_left))

  (repeat first | refine G1 ?_ | refine G2 ?_ | refine G3 ?_ | refine G4 ?_ | refine G5 rfl ?_ | refine G6 rfl ?_ | refine G7 rfl ?_)
  (focus (refine R0 ?_; refine lG ?_; refine ln (by exact Dst) ?_; intro _; (try dsimp only [List.cons_append, List.nil_append, List.append_nil]); refine R1 ?_; rotate_left))

  (repeat first | refine G1 ?_ | refine G2 ?_ | refine G3 ?_ | refine G4 ?_ | refine G5 rfl ?_ | refine G6 rfl ?_ | refine G7 rfl ?_)
  (focus (refine R0 ?_; refine lG ?_; refine ln (by exact Dst) ?_; intro _; (try dsimp only [List.cons_append, List.nil_append, List.append_nil]); refine R1 ?_; rotate_left))

  (repeat first | refine G1 ?_ | refine G2 ?_ | refine G3 ?_ | refine G4 ?_ | refine G5 rfl ?_ | refine G6 rfl ?_ | refine G7 rfl ?_)
  (focus (refine R0 ?_; refine lv (by first | exact YaC | exact YaE) ?_; refine ln (by exact Dsa) ?_; intro _; (try dsimp only [List.cons_append, List.nil_append, List.append_nil]); refine R1 ?_; rotate_left))

  (repeat first | refine G1 ?_ | refine G2 ?_ | refine G3 ?_ | refine G4 ?_ | refine G5 rfl ?_ | refine G6 rfl ?_ | refine G7 rfl ?_)
  rw [show List.take 6 (List.drop 0 [q.v1.v, q.v2.v, q.v3.v, q.v4.v, Value.int IntKind.i64 0, Value.int IntKind.i64 0]) = scriptC s.free q from rfl]
  refine Run.retC1 Tryd.results28 (b := b2) (T' := 28) (cs := scriptC s.free q) rfl (by (first | exact Reads.rho (by assumption) | exact Reads.pick (by (repeat (first | with_reducible exact Pick.here | with_reducible apply Pick.there))))) rfl ?_
  (focus ((repeat first | refine E1 ?_ ?_ | refine E2 ?_ | refine E3 ?_ | refine E4 ?_ | refine E5 ?_ | refine E6 ?_ | refine E7 ?_ | refine E8 ?_); exact E9; all_goals try first | rfl | assumption | omega))
theorem cnf_ct (ρ : Frag) (l : SV) (xs : List Int) (v : Int) (h0 : 0 < v) (h1 : v ≤ 1000000) (hR : In (RArr KInt l.v xs) ρ) (hx : ∀ x ∈ xs, -9223372036854775808 ≤ x ∧ x ≤ 9223372036854775807) (hs : xs.length ≤ 1000000) :
    Ct Tryd.prog 16 [l.v, int v] ρ [] (fun r => [hex fun t : SV => hex fun ts : List SV => hex fun cs : List (List Int) => stars [pu (r = .agg #[int v, t.v] ∧ GoodCl v xs.length cs), Arr KSl t.v ts, Bag KInt ts cs]]) := by
  (refine Ct.of_run Tryd.func16 rfl Tryd.ntmps16 rfl (Nat.le_of_ble_eq_true rfl) ?_)
  (repeat first | refine G1 ?_ | refine G2 ?_ | refine G3 ?_ | refine G4 ?_ | refine G5 rfl ?_ | refine G6 rfl ?_ | refine G7 rfl ?_)
  (focus (refine R0 ?_; refine le (by exact Dal Tryd.zeroValue37) ?_; intro v4; (try dsimp only [List.cons_append, List.nil_append, List.append_nil]); refine RunL.unhex fun b4 => ?_; refine RunL.unhex fun hb => ?_; subst hb; refine R1 ?_; rotate_left))

  (repeat first | refine G1 ?_ | refine G2 ?_ | refine G3 ?_ | refine G4 ?_ | refine G5 rfl ?_ | refine G6 rfl ?_ | refine G7 rfl ?_)
  (focus (refine R0 ?_; refine lM ?_; refine lM ?_; refine lM ?_; refine lc [] rfl rfl (fun _ hle hA => clauses_ct _ l xs v h0 h1 (hR.mono hle) hx hs) ?_; intro v8; (try dsimp only [List.cons_append, List.nil_append, List.append_nil]); (repeat (refine RunL.unpu fun h8 => ?_; try subst h8)); (refine RunL.unhex fun t => RunL.unhex fun ts => RunL.unhex fun cs => RunL.flat ?_; ((dsimp only [EngF, HAppend.hAppend, Append.append, List.append, List.cons_append, List.nil_append, List.append_nil]); (try simp only [List.append_eq])); refine RunL.unpu fun h => ?_; obtain ⟨rfl, hG⟩ := h); refine lv (by exact Ybd2 rfl rfl) ?_; refine ln (by exact Dsa) ?_; intro _; (try dsimp only [List.cons_append, List.nil_append, List.append_nil]); refine R1 ?_; rotate_left))

  (repeat first | refine G1 ?_ | refine G2 ?_ | refine G3 ?_ | refine G4 ?_ | refine G5 rfl ?_ | refine G6 rfl ?_ | refine G7 rfl ?_)
  refine Run.retC1 Tryd.results16 (b := b4) (T' := 37) (cs := [int v, t.v]) rfl (by (first | exact Reads.rho (by assumption) | exact Reads.pick (by (repeat (first | with_reducible exact Pick.here | with_reducible apply Pick.there))))) rfl ?_
  refine Ent.hex t (Ent.hex ts (Ent.hex cs (Ent.flat (Ent.pu ⟨rfl, hG⟩ ?_))))
  (focus ((repeat first | refine E1 ?_ ?_ | refine E2 ?_ | refine E3 ?_ | refine E4 ?_ | refine E5 ?_ | refine E6 ?_ | refine E7 ?_ | refine E8 ?_); exact E9; all_goals try first | rfl | assumption | omega))
end Go.Proofs.YtfldnnpcdjabnaaDoor
