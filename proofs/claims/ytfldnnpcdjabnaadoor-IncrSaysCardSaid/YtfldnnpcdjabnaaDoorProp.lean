/-
  The package prop, as far as D reaches: each function by its contract.
-/
import Derived.Test.YtfldnnpcdjabnaaDoorSlices
set_option linter.unusedVariables false
set_option linter.unusedSimpArgs false
namespace Go.Proofs.YtfldnnpcdjabnaaDoor
open Go

/-- What a Prop holds: of each clause its literals, whether it is there, whether it is loose. -/
structure PropS where
  vals : List Int
  level : List Int
  reason : List Int
  trail : List Int
  marks : List Int
  head : Int
  cl : List (List Int)
  fl : List (Bool × Bool)
  watch : List (List Int)
  loose : List Int
/-- Where it stands. -/
structure PropV where
  ba : Nat
  va : SV
  vl : SV
  vr : SV
  vt : SV
  vm : SV
  vc : SV
  vw : SV
  vo : SV
  cs : List SV
  ws : List SV
abbrev zipC (cs : List SV) (fl : List (Bool × Bool)) : List (SV × Bool × Bool) := List.zip cs fl
abbrev PropF (b : Nat) (p : PropS) (q : PropV) : List HP :=
  [Cells b 88 [ptr q.ba, q.vl.v, q.vr.v, q.vt.v, q.vm.v, int p.head, q.vc.v, q.vw.v, q.vo.v], Cells q.ba 105 [q.va.v], Arr KI8 q.va.v p.vals,
   Arr KInt q.vl.v p.level, Arr KInt q.vr.v p.reason, Arr KInt q.vt.v p.trail, Arr KInt q.vm.v p.marks, Arr KCl q.vc.v (zipC q.cs p.fl), Bag KInt q.cs p.cl, Arr KSl q.vw.v q.ws, Bag KInt q.ws p.watch, Arr KInt q.vo.v p.loose]
theorem pad_max {α : Type} (xs : List α) (n : Nat) (z : α) : pad xs (max xs.length n) z = pad xs n z := by
  simp only [pad]
  congr 2
  omega
theorem pad_succ {α : Type} (xs : List α) (n : Nat) (z : α) (h : xs.length ≤ n) : pad xs n z ++ [z] = pad xs (n + 1) z := by
  simp only [pad, List.append_assoc, List.append_cancel_left_eq]
  rw [show n + 1 - xs.length = (n - xs.length) + 1 by omega, List.replicate_succ']
theorem pad_succ2 {α : Type} (xs : List α) (n : Nat) (z : α) (h : xs.length ≤ n) : pad xs n z ++ [z, z] = pad xs (n + 2) z := by
  rw [← pad_succ xs (n + 1) z (by omega), ← pad_succ xs n z h]; simp
attribute [local irreducible] Yields Does Run RunL AnyL Ct Reads Peek PeekN Poke Pick Fits Sub Ent Still Arr RArr Cells el stars In
theorem prop_vars_ct (ρ : Frag) (b : Nat) (p : PropS) (q : PropV) (hR : In (stars (PropF b p q)) ρ) :
    Ct Tryd.prog 38 [ptr b] ρ [] (fun r => [pu (r = int ((p.vals.length : Int) - 1))]) := by
  have hC := hR.stars_cons.1
  have hS : In (stars (AssF q.ba q.va p.vals)) ρ := In.ent (by (focus ((repeat (first | refine entPus ?_ ?_ | refine Ent.nilA ?_ | refine Ent.takeC ?_ | refine Ent.nilBag2 ?_ | refine Ent.bag0 ?_ | refine Ent.bag2 ?_ | refine Ent.snocC ?_ | refine Ent.fillC ?_)); exact Ent.done; all_goals (try (first | rfl | assumption | omega))))) hR
  (refine Ct.of_run Tryd.func38 rfl Tryd.ntmps38 rfl (Nat.le_of_ble_eq_true rfl) ?_)
  (repeat (first | refine Run.seq ?_ | refine Run.skip ?_ | refine Run.block ?_ | refine Run.inBlock ?_ | refine Run.exit rfl ?_ | refine Run.condT rfl ?_ | refine Run.condF rfl ?_))
  focus
    refine Run.region ?_
    refine lv (by exact Yas) ?_
    refine RunL.nil ?_
    rotate_left
  (repeat (first | refine Run.seq ?_ | refine Run.skip ?_ | refine Run.block ?_ | refine Run.inBlock ?_ | refine Run.exit rfl ?_ | refine Run.condT rfl ?_ | refine Run.condF rfl ?_))
  focus
    refine Run.region ?_
    refine lv (by exact Ymv) ?_
    refine lv (by exact Ync) ?_
    refine lv (by first | exact YfB | exact YfE) ?_
    refine lv (by first | exact YlC | exact YlE) ?_
    refine lc [] rfl rfl (fun _ hle hA => ass_vars_ct _ q.ba q.va p.vals (hS.mono hle)) ?_
    intro v7
    try dsimp only [List.cons_append, List.nil_append, List.append_nil]
    repeat (refine RunL.unpu fun h7 => ?_; try subst h7)
    refine lv (by exact Yas) ?_
    refine RunL.nil ?_
    rotate_left
  (repeat (first | refine Run.seq ?_ | refine Run.skip ?_ | refine Run.block ?_ | refine Run.inBlock ?_ | refine Run.exit rfl ?_ | refine Run.condT rfl ?_ | refine Run.condF rfl ?_))
  (refine Run.ret1 Tryd.results38 (by rfl) ?_)
  (focus ((repeat (first | refine entPus ?_ ?_ | refine Ent.nilA ?_ | refine Ent.takeC ?_ | refine Ent.nilBag2 ?_ | refine Ent.bag0 ?_ | refine Ent.bag2 ?_ | refine Ent.snocC ?_ | refine Ent.fillC ?_)); exact Ent.done; all_goals (try (first | rfl | assumption | omega))))
/-- As many variables as there are values. -/
abbrev PropS.grown (p : PropS) (n : Nat) : PropS := { p with vals := pad p.vals n 0, level := pad p.level n (-1), reason := pad p.reason n (-1), watch := pad p.watch (2 * n) [] }
structure Sized (p : PropS) (n : Nat) : Prop where
  pos : 0 < n
  vals : p.vals.length = n
  level : p.level.length = n
  reason : p.reason.length = n
  watch : p.watch.length = 2 * n
theorem prop_grow_ct (ρ : Frag) (b : Nat) (p : PropS) (q : PropV) (m : Int) (n : Nat) (hs : Sized p n) :
    Ct Tryd.prog 36 [ptr b, int m] ρ (PropF b p q) (fun r => [hex fun q' => stars (PropF b (p.grown (max n (cut m + 1).toNat)) q')]) := by
  have hc : 0 ≤ cut m ∧ cut m ≤ 4000 := by simp only [cut]; omega
  (refine Ct.of_run Tryd.func36 rfl Tryd.ntmps36 rfl (Nat.le_of_ble_eq_true rfl) ?_)
  (repeat (first | refine Run.seq ?_ | refine Run.skip ?_ | refine Run.block ?_ | refine Run.inBlock ?_ | refine Run.exit rfl ?_ | refine Run.condT rfl ?_ | refine Run.condF rfl ?_))
  focus
    refine Run.region ?_
    refine lv (by exact Ymv) ?_
    refine lv (by exact Ync) ?_
    refine lv (by first | exact YfB | exact YfE) ?_
    refine lv (by first | exact YlC | exact YlE) ?_
    refine lv (by exact Ymv) ?_
    refine lc [] rfl rfl (fun _ hle hA => ass_grow_ct _ q.ba q.va p.vals m) ?_
    intro v9
    try dsimp only [List.cons_append, List.nil_append, List.append_nil]
    repeat (refine RunL.unpu fun h9 => ?_; try subst h9)
    refine RunL.nil ?_
    rotate_left
  refine Run.unhex fun va => Run.flat ?_
  ((dsimp only [AssF, HAppend.hAppend, Append.append, List.append, List.cons_append, List.nil_append, List.append_nil]); (try simp only [List.append_eq]))
  (repeat (first | refine Run.seq ?_ | refine Run.skip ?_ | refine Run.block ?_ | refine Run.inBlock ?_ | refine Run.exit rfl ?_ | refine Run.condT rfl ?_ | refine Run.condF rfl ?_))
  refine Run.loopI (X := Nat × PropV) (fun x => [(0, ptr b), (1, int m)])
    (fun x => pu (n ≤ x.1 ∧ x.1 ≤ max n (cut m + 1).toNat) :: PropF b { p with vals := pad p.vals (cut m + 1).toNat 0, level := pad p.level x.1 (-1), reason := pad p.reason x.1 (-1), watch := pad p.watch (2 * x.1) [] } x.2)
    (fun x => 5000 - x.1) (n, { q with va := va }) (by (repeat (first | exact Sub.nil _ | refine Sub.cons rfl ?_))) ?_ ?_
  · have e1 := pad_self p.level n (-1) (by rw [hs.level]; exact Nat.le_refl _)
    have e2 := pad_self p.reason n (-1) (by rw [hs.reason]; exact Nat.le_refl _)
    have e3 := pad_self p.watch (2 * n) [] (by rw [hs.watch]; exact Nat.le_refl _)
    dsimp only
    rw [e1, e2, e3]
    (focus ((repeat (first | refine entPus ?_ ?_ | refine Ent.nilA ?_ | refine Ent.takeC ?_ | refine Ent.nilBag2 ?_ | refine Ent.bag0 ?_ | refine Ent.bag2 ?_ | refine Ent.snocC ?_ | refine Ent.fillC ?_)); exact Ent.done; all_goals (try (first | rfl | assumption | omega))))
  · rintro ⟨k, q⟩ ih
    refine Run.unpu fun hk => ?_
    dsimp only at hk ⊢
    have hl1 : (pad p.level k (-1)).length = k := by rw [length_pad, hs.level]; omega
    have hl2 : (pad p.vals (cut m + 1).toNat 0).length = max n (cut m + 1).toNat := by rw [length_pad, hs.vals]
    have hl3 : (pad p.reason k (-1)).length = k := by rw [length_pad, hs.reason]; omega
    refine Run.bagLen (K := KInt) (ss := q.ws) (xs := pad p.watch (2 * k) []) (by (repeat (first | with_reducible exact Pick.here | with_reducible apply Pick.there))) fun hl4 => ?_
    rw [length_pad, hs.watch] at hl4
    (repeat (first | refine Run.seq ?_ | refine Run.skip ?_ | refine Run.block ?_ | refine Run.inBlock ?_ | refine Run.exit rfl ?_ | refine Run.condT rfl ?_ | refine Run.condF rfl ?_))
    focus
      refine Run.planS mixed (.take 0 (.take 1 (.take 2 (.take 3 (.take 4 (.take 5 (.take 6 (.take 7 (.take 8 (.alt 9 (.take 10 (.done)) (.nomore))))))))))) [(some 10, [0], []), (some 11, [10], [0]), (some 12, [11], [1]), (some 13, [12], [2]), (some 14, [13], [3]), (some 15, [0], []), (some 16, [15], [5]), (some 17, [16], [6]), (some 18, [17], [7]), (some 19, [18], [8]), (some 20, [14, 19], [4, 9])] (by kernel_rfl) (by kernel_rfl) (by kernel_rfl) ?_
      refine dv rfl (by exact Ymv) ?_
      refine dv rfl (by exact Ync) ?_
      refine dv rfl (by first | exact YfB | exact YfE) ?_
      refine dv rfl (by first | exact YlC | exact YlE) ?_
      refine dv rfl (by exact Yln) ?_
      refine dv rfl (by exact Ymv) ?_
      refine dv rfl (by exact Ync) ?_
      refine dv rfl (by first | exact YfB | exact YfE) ?_
      refine dv rfl (by first | exact YlC | exact YlE) ?_
      refine RunD.one ?_
      refine de [(7, _), (6, _), (5, _), (4, _), (3, _), (2, _), (1, _), (0, _)] rfl (by exact Dcl (AssF q.ba q.va (pad p.vals (cut m + 1).toNat 0)) rfl rfl (fun _ hle hA => ass_vars_ct _ q.ba q.va _ hA)) rfl ?_ ?_
      focus (intro _; (try dsimp only [List.cons_append, List.nil_append, List.append_nil]); refine sv rfl (by first | exact YfB | exact YfE) ?_; refine sv rfl (by exact Ync) ?_; refine sv rfl (by exact Ymv) ?_; refine sv rfl (by exact Yln) ?_; refine sv rfl (by first | exact YlC | exact YlE) ?_; refine sv rfl (by first | exact YfB | exact YfE) ?_; refine sv rfl (by exact Ync) ?_; refine sv rfl (by exact Ymv) ?_; exact Still.nil)
      intro v19
      try dsimp only [List.cons_append, List.nil_append, List.append_nil]
      repeat (refine RunD.unpu fun h19 => ?_; try subst h19)
      refine dv rfl (by exact Yle) ?_
      refine RunD.done ?_
      rotate_left
    refine Run.condP rfl (fun c => ?_) (fun c => ?_)
    · (repeat (first | refine Run.seq ?_ | refine Run.skip ?_ | refine Run.block ?_ | refine Run.inBlock ?_ | refine Run.exit rfl ?_ | refine Run.condT rfl ?_ | refine Run.condF rfl ?_))
      focus
        refine Run.planS mixed (.take 0 (.take 1 (.take 2 (.take 3 (.take 4 (.take 5 (.take 8 (.take 9 (.take 10 (.take 11 (.alt 6 (.alt 7 (.alt 12 (.alt 13 (.take 14 (.take 15 (.alt 16 (.take 17 (.take 18 (.alt 19 (.done) (.nomore)))) (.nomore)))) (.nomore)) (.nomore)) (.alt 12 (.alt 7 (.alt 13 (.take 14 (.take 15 (.alt 16 (.take 17 (.take 18 (.alt 19 (.done) (.nomore)))) (.nomore)))) (.nomore)) (.nomore)) (.nomore))) (.alt 12 (.alt 6 (.alt 7 (.alt 13 (.take 14 (.take 15 (.alt 16 (.take 17 (.take 18 (.alt 19 (.done) (.nomore)))) (.nomore)))) (.nomore)) (.nomore)) (.nomore)) (.nomore))))))))))))) [(some 21, [0], []), (some 22, [0], []), (some 23, [0], []), (some 24, [23], [2]), (some 25, [24], [3]), (some 26, [25], [4]), (some 27, [], []), (some 28, [26, 27], [5, 6]), (some 29, [0], []), (some 30, [29], [8]), (some 31, [30], [9]), (some 32, [31], [10]), (some 33, [], []), (some 34, [32, 33], [11, 12, 7]), (some 35, [21], [0, 0, 2, 3, 4, 5, 6, 7, 11, 13]), (some 36, [35], [14, 0, 2, 3, 4, 5, 6, 7, 11, 13]), (none, [36, 28], [15, 7, 13, 0, 2, 3, 4, 5, 6, 7, 11, 13]), (some 37, [22], [1, 0, 1, 2, 3, 4, 5, 6, 7, 8, 9, 10, 11, 12, 13, 14, 15, 16]), (some 38, [37], [17, 0, 1, 2, 3, 4, 5, 6, 7, 8, 9, 10, 11, 12, 13, 14, 15, 16]), (none, [38, 34], [18, 13, 16, 0, 1, 2, 3, 4, 5, 6, 7, 8, 9, 10, 11, 12, 13, 14, 15, 16])] (by kernel_rfl) (by kernel_rfl) (by kernel_rfl) ?_
        refine dv rfl (by exact Ymv) ?_
        refine dv rfl (by exact Ymv) ?_
        refine dv rfl (by exact Ymv) ?_
        refine dv rfl (by exact Ync) ?_
        refine dv rfl (by first | exact YfB | exact YfE) ?_
        refine dv rfl (by first | exact YlC | exact YlE) ?_
        refine dv rfl (by exact Ymv) ?_
        refine dv rfl (by exact Ync) ?_
        refine dv rfl (by first | exact YfB | exact YfE) ?_
        refine dv rfl (by first | exact YlC | exact YlE) ?_
        refine RunD.alt ?_ ?_
        refine deS [(11, _), (10, _), (9, _), (8, _), (5, _), (4, _), (3, _), (2, _), (1, _), (0, _)] rfl (by exact Db1) rfl ?_ ?_
        focus (intro _; (try dsimp only [List.cons_append, List.nil_append, List.append_nil]); refine sv rfl (by first | exact YlC | exact YlE) ?_; refine sv rfl (by first | exact YfB | exact YfE) ?_; refine sv rfl (by exact Ync) ?_; refine sv rfl (by exact Ymv) ?_; refine sv rfl (by first | exact YlC | exact YlE) ?_; refine sv rfl (by first | exact YfB | exact YfE) ?_; refine sv rfl (by exact Ync) ?_; refine sv rfl (by exact Ymv) ?_; refine sv rfl (by exact Ymv) ?_; refine sv rfl (by exact Ymv) ?_; exact Still.nil)
        intro v27
        try dsimp only [List.cons_append, List.nil_append, List.append_nil]
        refine RunD.alt ?_ ?_
        refine deS [(11, _), (10, _), (9, _), (8, _), (4, _), (3, _), (2, _), (1, _), (0, _)] rfl (by exact Dap) rfl ?_ ?_
        focus (intro _; (try dsimp only [List.cons_append, List.nil_append, List.append_nil]); refine sv rfl (by first | exact YlC | exact YlE) ?_; refine sv rfl (by first | exact YfB | exact YfE) ?_; refine sv rfl (by exact Ync) ?_; refine sv rfl (by exact Ymv) ?_; refine sv rfl (by first | exact YfB | exact YfE) ?_; refine sv rfl (by exact Ync) ?_; refine sv rfl (by exact Ymv) ?_; refine sv rfl (by exact Ymv) ?_; refine sv rfl (by exact Ymv) ?_; exact Still.nil)
        intro v28
        try dsimp only [List.cons_append, List.nil_append, List.append_nil]
        repeat (refine RunD.unpu fun h28 => ?_; try subst h28)
        refine RunD.one ?_
        refine deS [(11, _), (10, _), (9, _), (8, _), (4, _), (3, _), (2, _), (1, _), (0, _)] rfl (by exact Db1) rfl ?_ ?_
        focus (intro _; (try dsimp only [List.cons_append, List.nil_append, List.append_nil]); refine sv rfl (by first | exact YlC | exact YlE) ?_; refine sv rfl (by first | exact YfB | exact YfE) ?_; refine sv rfl (by exact Ync) ?_; refine sv rfl (by exact Ymv) ?_; refine sv rfl (by first | exact YfB | exact YfE) ?_; refine sv rfl (by exact Ync) ?_; refine sv rfl (by exact Ymv) ?_; refine sv rfl (by exact Ymv) ?_; refine sv rfl (by exact Ymv) ?_; exact Still.nil)
        intro v33
        try dsimp only [List.cons_append, List.nil_append, List.append_nil]
        refine RunD.one ?_
        refine deS [(10, _), (9, _), (8, _), (4, _), (3, _), (2, _), (1, _), (0, _)] rfl (by exact Dap) rfl ?_ ?_
        focus (intro _; (try dsimp only [List.cons_append, List.nil_append, List.append_nil]); refine sv rfl (by first | exact YfB | exact YfE) ?_; refine sv rfl (by exact Ync) ?_; refine sv rfl (by exact Ymv) ?_; refine sv rfl (by first | exact YfB | exact YfE) ?_; refine sv rfl (by exact Ync) ?_; refine sv rfl (by exact Ymv) ?_; refine sv rfl (by exact Ymv) ?_; refine sv rfl (by exact Ymv) ?_; exact Still.nil)
        intro v34
        try dsimp only [List.cons_append, List.nil_append, List.append_nil]
        repeat (refine RunD.unpu fun h34 => ?_; try subst h34)
        refine dv rfl (by exact Ync) ?_
        refine dv rfl (by first | exact YfB | exact YfE) ?_
        refine RunD.one ?_
        refine dn [(14, _), (10, _), (9, _), (8, _), (1, _)] rfl (by exact Dst) rfl ?_ ?_
        focus (intro _; (try dsimp only [List.cons_append, List.nil_append, List.append_nil]); refine sv rfl (by exact Ync) ?_; refine sv rfl (by first | exact YfB | exact YfE) ?_; refine sv rfl (by exact Ync) ?_; refine sv rfl (by exact Ymv) ?_; refine sv rfl (by exact Ymv) ?_; exact Still.nil)
        intro _
        try dsimp only [List.cons_append, List.nil_append, List.append_nil]
        refine dv rfl (by exact Ync) ?_
        refine dv rfl (by first | exact YfB | exact YfE) ?_
        refine RunD.one ?_
        refine dn [(17, _)] rfl (by exact Dst) rfl ?_ ?_
        focus (intro _; (try dsimp only [List.cons_append, List.nil_append, List.append_nil]); refine sv rfl (by exact Ync) ?_; exact Still.nil)
        intro _
        try dsimp only [List.cons_append, List.nil_append, List.append_nil]
        refine RunD.done ?_
        rotate_left
        refine RunR.alt ?_ ?_
        refine deS [(11, _), (10, _), (9, _), (8, _), (5, _), (4, _), (3, _), (2, _), (1, _), (0, _)] rfl (by exact Db1) rfl ?_ ?_
        focus (intro _; (try dsimp only [List.cons_append, List.nil_append, List.append_nil]); refine sv rfl (by first | exact YlC | exact YlE) ?_; refine sv rfl (by first | exact YfB | exact YfE) ?_; refine sv rfl (by exact Ync) ?_; refine sv rfl (by exact Ymv) ?_; refine sv rfl (by first | exact YlC | exact YlE) ?_; refine sv rfl (by first | exact YfB | exact YfE) ?_; refine sv rfl (by exact Ync) ?_; refine sv rfl (by exact Ymv) ?_; refine sv rfl (by exact Ymv) ?_; refine sv rfl (by exact Ymv) ?_; exact Still.nil)
        intro v33
        try dsimp only [List.cons_append, List.nil_append, List.append_nil]
        refine RunD.one ?_
        refine deS [(11, _), (10, _), (9, _), (8, _), (4, _), (3, _), (2, _), (1, _), (0, _)] rfl (by exact Dap) rfl ?_ ?_
        focus (intro _; (try dsimp only [List.cons_append, List.nil_append, List.append_nil]); refine sv rfl (by first | exact YlC | exact YlE) ?_; refine sv rfl (by first | exact YfB | exact YfE) ?_; refine sv rfl (by exact Ync) ?_; refine sv rfl (by exact Ymv) ?_; refine sv rfl (by first | exact YfB | exact YfE) ?_; refine sv rfl (by exact Ync) ?_; refine sv rfl (by exact Ymv) ?_; refine sv rfl (by exact Ymv) ?_; refine sv rfl (by exact Ymv) ?_; exact Still.nil)
        intro v28
        try dsimp only [List.cons_append, List.nil_append, List.append_nil]
        repeat (refine RunD.unpu fun h28 => ?_; try subst h28)
        refine RunD.one ?_
        refine deS [(10, _), (9, _), (8, _), (4, _), (3, _), (2, _), (1, _), (0, _)] rfl (by exact Dap) rfl ?_ ?_
        focus (intro _; (try dsimp only [List.cons_append, List.nil_append, List.append_nil]); refine sv rfl (by first | exact YfB | exact YfE) ?_; refine sv rfl (by exact Ync) ?_; refine sv rfl (by exact Ymv) ?_; refine sv rfl (by first | exact YfB | exact YfE) ?_; refine sv rfl (by exact Ync) ?_; refine sv rfl (by exact Ymv) ?_; refine sv rfl (by exact Ymv) ?_; refine sv rfl (by exact Ymv) ?_; exact Still.nil)
        intro v34
        try dsimp only [List.cons_append, List.nil_append, List.append_nil]
        repeat (refine RunD.unpu fun h34 => ?_; try subst h34)
        refine dv rfl (by exact Ync) ?_
        refine dv rfl (by first | exact YfB | exact YfE) ?_
        refine RunD.one ?_
        refine dn [(14, _), (10, _), (9, _), (8, _), (1, _)] rfl (by exact Dst) rfl ?_ ?_
        focus (intro _; (try dsimp only [List.cons_append, List.nil_append, List.append_nil]); refine sv rfl (by exact Ync) ?_; refine sv rfl (by first | exact YfB | exact YfE) ?_; refine sv rfl (by exact Ync) ?_; refine sv rfl (by exact Ymv) ?_; refine sv rfl (by exact Ymv) ?_; exact Still.nil)
        intro _
        try dsimp only [List.cons_append, List.nil_append, List.append_nil]
        refine dv rfl (by exact Ync) ?_
        refine dv rfl (by first | exact YfB | exact YfE) ?_
        refine RunD.one ?_
        refine dn [(17, _)] rfl (by exact Dst) rfl ?_ ?_
        focus (intro _; (try dsimp only [List.cons_append, List.nil_append, List.append_nil]); refine sv rfl (by exact Ync) ?_; exact Still.nil)
        intro _
        try dsimp only [List.cons_append, List.nil_append, List.append_nil]
        refine RunD.done ?_
        rotate_left
        exact RunR.nomore
        refine RunR.alt ?_ ?_
        refine deS [(11, _), (10, _), (9, _), (8, _), (5, _), (4, _), (3, _), (2, _), (1, _), (0, _)] rfl (by exact Db1) rfl ?_ ?_
        focus (intro _; (try dsimp only [List.cons_append, List.nil_append, List.append_nil]); refine sv rfl (by first | exact YlC | exact YlE) ?_; refine sv rfl (by first | exact YfB | exact YfE) ?_; refine sv rfl (by exact Ync) ?_; refine sv rfl (by exact Ymv) ?_; refine sv rfl (by first | exact YlC | exact YlE) ?_; refine sv rfl (by first | exact YfB | exact YfE) ?_; refine sv rfl (by exact Ync) ?_; refine sv rfl (by exact Ymv) ?_; refine sv rfl (by exact Ymv) ?_; refine sv rfl (by exact Ymv) ?_; exact Still.nil)
        intro v33
        try dsimp only [List.cons_append, List.nil_append, List.append_nil]
        refine RunD.one ?_
        refine deS [(11, _), (10, _), (9, _), (8, _), (5, _), (4, _), (3, _), (2, _), (1, _), (0, _)] rfl (by exact Db1) rfl ?_ ?_
        focus (intro _; (try dsimp only [List.cons_append, List.nil_append, List.append_nil]); refine sv rfl (by first | exact YlC | exact YlE) ?_; refine sv rfl (by first | exact YfB | exact YfE) ?_; refine sv rfl (by exact Ync) ?_; refine sv rfl (by exact Ymv) ?_; refine sv rfl (by first | exact YlC | exact YlE) ?_; refine sv rfl (by first | exact YfB | exact YfE) ?_; refine sv rfl (by exact Ync) ?_; refine sv rfl (by exact Ymv) ?_; refine sv rfl (by exact Ymv) ?_; refine sv rfl (by exact Ymv) ?_; exact Still.nil)
        intro v27
        try dsimp only [List.cons_append, List.nil_append, List.append_nil]
        refine RunD.one ?_
        refine deS [(11, _), (10, _), (9, _), (8, _), (4, _), (3, _), (2, _), (1, _), (0, _)] rfl (by exact Dap) rfl ?_ ?_
        focus (intro _; (try dsimp only [List.cons_append, List.nil_append, List.append_nil]); refine sv rfl (by first | exact YlC | exact YlE) ?_; refine sv rfl (by first | exact YfB | exact YfE) ?_; refine sv rfl (by exact Ync) ?_; refine sv rfl (by exact Ymv) ?_; refine sv rfl (by first | exact YfB | exact YfE) ?_; refine sv rfl (by exact Ync) ?_; refine sv rfl (by exact Ymv) ?_; refine sv rfl (by exact Ymv) ?_; refine sv rfl (by exact Ymv) ?_; exact Still.nil)
        intro v28
        try dsimp only [List.cons_append, List.nil_append, List.append_nil]
        repeat (refine RunD.unpu fun h28 => ?_; try subst h28)
        refine RunD.one ?_
        refine deS [(10, _), (9, _), (8, _), (4, _), (3, _), (2, _), (1, _), (0, _)] rfl (by exact Dap) rfl ?_ ?_
        focus (intro _; (try dsimp only [List.cons_append, List.nil_append, List.append_nil]); refine sv rfl (by first | exact YfB | exact YfE) ?_; refine sv rfl (by exact Ync) ?_; refine sv rfl (by exact Ymv) ?_; refine sv rfl (by first | exact YfB | exact YfE) ?_; refine sv rfl (by exact Ync) ?_; refine sv rfl (by exact Ymv) ?_; refine sv rfl (by exact Ymv) ?_; refine sv rfl (by exact Ymv) ?_; exact Still.nil)
        intro v34
        try dsimp only [List.cons_append, List.nil_append, List.append_nil]
        repeat (refine RunD.unpu fun h34 => ?_; try subst h34)
        refine dv rfl (by exact Ync) ?_
        refine dv rfl (by first | exact YfB | exact YfE) ?_
        refine RunD.one ?_
        refine dn [(14, _), (10, _), (9, _), (8, _), (1, _)] rfl (by exact Dst) rfl ?_ ?_
        focus (intro _; (try dsimp only [List.cons_append, List.nil_append, List.append_nil]); refine sv rfl (by exact Ync) ?_; refine sv rfl (by first | exact YfB | exact YfE) ?_; refine sv rfl (by exact Ync) ?_; refine sv rfl (by exact Ymv) ?_; refine sv rfl (by exact Ymv) ?_; exact Still.nil)
        intro _
        try dsimp only [List.cons_append, List.nil_append, List.append_nil]
        refine dv rfl (by exact Ync) ?_
        refine dv rfl (by first | exact YfB | exact YfE) ?_
        refine RunD.one ?_
        refine dn [(17, _)] rfl (by exact Dst) rfl ?_ ?_
        focus (intro _; (try dsimp only [List.cons_append, List.nil_append, List.append_nil]); refine sv rfl (by exact Ync) ?_; exact Still.nil)
        intro _
        try dsimp only [List.cons_append, List.nil_append, List.append_nil]
        refine RunD.done ?_
        rotate_left
        exact RunR.nomore
      all_goals
        (repeat (first | refine Run.seq ?_ | refine Run.skip ?_ | refine Run.block ?_ | refine Run.inBlock ?_ | refine Run.exit rfl ?_ | refine Run.condT rfl ?_ | refine Run.condF rfl ?_))
        focus
          refine Run.region ?_
          refine lv (by exact Ymv) ?_
          refine lv (by exact Ymv) ?_
          refine lv (by exact Ync) ?_
          refine lv (by first | exact YfB | exact YfE) ?_
          refine lv (by first | exact YlC | exact YlE) ?_
          refine leS (by exact Db2) ?_
          intro v44
          try dsimp only [List.cons_append, List.nil_append, List.append_nil]
          refine leS (by exact Dap) ?_
          intro v45
          try dsimp only [List.cons_append, List.nil_append, List.append_nil]
          repeat (refine RunL.unpu fun h45 => ?_; try subst h45)
          refine lv (by exact Ync) ?_
          refine lv (by first | exact YfB | exact YfE) ?_
          refine ln (by exact Dst) ?_
          intro _
          try dsimp only [List.cons_append, List.nil_append, List.append_nil]
          refine RunL.nil ?_
          rotate_left
        (repeat (first | refine Run.seq ?_ | refine Run.skip ?_ | refine Run.block ?_ | refine Run.inBlock ?_ | refine Run.exit rfl ?_ | refine Run.condT rfl ?_ | refine Run.condF rfl ?_))
        refine Run.weaken (by (repeat (first | exact Sub.nil _ | refine Sub.cons rfl ?_))) ?_ (ih (k + 1, { q with vl := v28, vr := v34, vw := v45, ws := q.ws ++ [⟨none, 0, 0⟩, ⟨none, 0, 0⟩] }) (by dsimp only; omega))
        dsimp only
        rw [← pad_succ p.level k _ (by rw [hs.level]; omega), ← pad_succ p.reason k _ (by rw [hs.reason]; omega), show 2 * (k + 1) = 2 * k + 2 by omega, ← pad_succ2 p.watch (2 * k) _ (by rw [hs.watch]; omega)]
        (focus ((repeat (first | refine entPus ?_ ?_ | refine Ent.nilA ?_ | refine Ent.takeC ?_ | refine Ent.nilBag2 ?_ | refine Ent.bag0 ?_ | refine Ent.bag2 ?_ | refine Ent.snocC ?_ | refine Ent.fillC ?_)); exact Ent.done; all_goals (try (first | rfl | assumption | omega))))
    · (repeat (first | refine Run.seq ?_ | refine Run.skip ?_ | refine Run.block ?_ | refine Run.inBlock ?_ | refine Run.exit rfl ?_ | refine Run.condT rfl ?_ | refine Run.condF rfl ?_))
      (refine Run.fin0 Tryd.results36 ?_)
      have e : k = max n (cut m + 1).toNat := by omega
      subst e
      refine Ent.hex q (Ent.flat ?_)
      have e2 : pad p.vals (cut m + 1).toNat 0 = pad p.vals (max n (cut m + 1).toNat) 0 := by rw [← hs.vals, pad_max]
      dsimp only [PropS.grown]
      rw [e2]
      (focus ((repeat (first | refine entPus ?_ ?_ | refine Ent.nilA ?_ | refine Ent.takeC ?_ | refine Ent.nilBag2 ?_ | refine Ent.bag0 ?_ | refine Ent.bag2 ?_ | refine Ent.snocC ?_ | refine Ent.fillC ?_)); exact Ent.done; all_goals (try (first | rfl | assumption | omega))))
/-- One without clauses. -/
abbrev PropS.none (n : Nat) : PropS := PropS.grown ⟨[0], [-1], [-1], [], [], 0, [], [], [[], []], []⟩ n
theorem prop_new_ct (ρ : Frag) (m : Int) :
    Ct Tryd.prog 45 [int m] ρ [] (fun r => [hex fun b => hex fun q => stars (pu (r = ptr b) :: PropF b (PropS.none (max 1 (cut m + 1).toNat)) q)]) := by
  have hc : 0 ≤ cut m ∧ cut m ≤ 4000 := by simp only [cut]; omega
  (refine Ct.of_run Tryd.func45 rfl Tryd.ntmps45 rfl (Nat.le_of_ble_eq_true rfl) ?_)
  (repeat (first | refine Run.seq ?_ | refine Run.skip ?_ | refine Run.block ?_ | refine Run.inBlock ?_ | refine Run.exit rfl ?_ | refine Run.condT rfl ?_ | refine Run.condF rfl ?_))
  focus
    refine Run.region ?_
    refine lv (by exact Yas) ?_
    refine RunL.nil ?_
    rotate_left
  (repeat (first | refine Run.seq ?_ | refine Run.skip ?_ | refine Run.block ?_ | refine Run.inBlock ?_ | refine Run.exit rfl ?_ | refine Run.condT rfl ?_ | refine Run.condF rfl ?_))
  focus
    refine Run.planS mixed (.alt 0 (.alt 1 (.alt 2 (.alt 3 (.take 4 (.alt 5 (.take 6 (.done)) (.nomore))) (.nomore)) (.alt 3 (.alt 2 (.take 4 (.alt 5 (.take 6 (.done)) (.nomore))) (.nomore)) (.nomore))) (.alt 2 (.alt 1 (.alt 3 (.take 4 (.alt 5 (.take 6 (.done)) (.nomore))) (.nomore)) (.alt 3 (.alt 1 (.take 4 (.alt 5 (.take 6 (.done)) (.nomore))) (.nomore)) (.nomore))) (.alt 3 (.alt 1 (.alt 2 (.take 4 (.alt 5 (.take 6 (.done)) (.nomore))) (.nomore)) (.alt 2 (.alt 1 (.take 4 (.alt 5 (.take 6 (.done)) (.nomore))) (.nomore)) (.nomore))) (.nomore)))) (.alt 1 (.alt 0 (.alt 2 (.alt 3 (.take 4 (.alt 5 (.take 6 (.done)) (.nomore))) (.nomore)) (.alt 3 (.alt 2 (.take 4 (.alt 5 (.take 6 (.done)) (.nomore))) (.nomore)) (.nomore))) (.alt 2 (.alt 0 (.alt 3 (.take 4 (.alt 5 (.take 6 (.done)) (.nomore))) (.nomore)) (.alt 3 (.alt 0 (.take 4 (.alt 5 (.take 6 (.done)) (.nomore))) (.nomore)) (.nomore))) (.alt 3 (.alt 0 (.alt 2 (.take 4 (.alt 5 (.take 6 (.done)) (.nomore))) (.nomore)) (.alt 2 (.alt 0 (.take 4 (.alt 5 (.take 6 (.done)) (.nomore))) (.nomore)) (.nomore))) (.nomore)))) (.alt 2 (.alt 0 (.alt 1 (.alt 3 (.take 4 (.alt 5 (.take 6 (.done)) (.nomore))) (.nomore)) (.alt 3 (.alt 1 (.take 4 (.alt 5 (.take 6 (.done)) (.nomore))) (.nomore)) (.nomore))) (.alt 1 (.alt 0 (.alt 3 (.take 4 (.alt 5 (.take 6 (.done)) (.nomore))) (.nomore)) (.alt 3 (.alt 0 (.take 4 (.alt 5 (.take 6 (.done)) (.nomore))) (.nomore)) (.nomore))) (.alt 3 (.alt 0 (.alt 1 (.take 4 (.alt 5 (.take 6 (.done)) (.nomore))) (.nomore)) (.alt 1 (.alt 0 (.take 4 (.alt 5 (.take 6 (.done)) (.nomore))) (.nomore)) (.nomore))) (.nomore)))) (.alt 3 (.alt 0 (.alt 1 (.alt 2 (.take 4 (.alt 5 (.take 6 (.done)) (.nomore))) (.nomore)) (.alt 2 (.alt 1 (.take 4 (.alt 5 (.take 6 (.done)) (.nomore))) (.nomore)) (.nomore))) (.alt 1 (.alt 0 (.alt 2 (.take 4 (.alt 5 (.take 6 (.done)) (.nomore))) (.nomore)) (.alt 2 (.alt 0 (.take 4 (.alt 5 (.take 6 (.done)) (.nomore))) (.nomore)) (.nomore))) (.alt 2 (.alt 0 (.alt 1 (.take 4 (.alt 5 (.take 6 (.done)) (.nomore))) (.nomore)) (.alt 1 (.alt 0 (.take 4 (.alt 5 (.take 6 (.done)) (.nomore))) (.nomore)) (.nomore))) (.nomore)))) (.nomore))))) [(some 4, [], []), (some 5, [], []), (some 6, [], []), (some 7, [], []), (some 8, [4, 5, 6, 7], [0, 1, 2, 3]), (some 9, [8], [4]), (some 3, [9], [5, 0, 0, 1, 2, 3, 4, 5])] (by kernel_rfl) (by kernel_rfl) (by kernel_rfl) ?_
    refine RunD.alt ?_ ?_
    refine de [] rfl (by exact Dcl [] rfl rfl (fun _ hle hA => ass_new_ct _ 0)) rfl ?_ ?_
    focus (intro _; (try dsimp only [List.cons_append, List.nil_append, List.append_nil]); exact Still.nil)
    intro v4
    try dsimp only [List.cons_append, List.nil_append, List.append_nil]
    repeat (refine RunD.unpu fun h4 => ?_; try subst h4)
    refine RunD.unhex fun ba => RunD.unhex fun va => RunD.flat ?_; ((dsimp only [AssF, HAppend.hAppend, Append.append, List.append, List.cons_append, List.nil_append, List.append_nil]); (try simp only [List.append_eq])); refine RunD.unpu fun h => ?_; subst h
    refine RunD.alt ?_ ?_
    refine deS [] rfl (by exact Db1) rfl ?_ ?_
    focus (intro _; (try dsimp only [List.cons_append, List.nil_append, List.append_nil]); exact Still.nil)
    intro v5
    try dsimp only [List.cons_append, List.nil_append, List.append_nil]
    refine RunD.alt ?_ ?_
    refine deS [] rfl (by exact Db1) rfl ?_ ?_
    focus (intro _; (try dsimp only [List.cons_append, List.nil_append, List.append_nil]); exact Still.nil)
    intro v6
    try dsimp only [List.cons_append, List.nil_append, List.append_nil]
    refine RunD.one ?_
    refine deS [] rfl (by exact Dmk) rfl ?_ ?_
    focus (intro _; (try dsimp only [List.cons_append, List.nil_append, List.append_nil]); exact Still.nil)
    intro v7
    try dsimp only [List.cons_append, List.nil_append, List.append_nil]
    refine dv rfl (by exact Ybd4 rfl rfl rfl rfl) ?_
    refine RunD.one ?_
    refine de [] rfl (by exact Dbx) rfl ?_ ?_
    focus (intro _; (try dsimp only [List.cons_append, List.nil_append, List.append_nil]); exact Still.nil)
    intro v9
    try dsimp only [List.cons_append, List.nil_append, List.append_nil]
    refine RunD.unhex fun b9 => ?_
    refine RunD.unhex fun hb => ?_
    subst hb
    refine dv rfl (by exact Yas) ?_
    refine RunD.done ?_
    rotate_left
    refine RunR.alt ?_ ?_
    refine deS [] rfl (by exact Dmk) rfl ?_ ?_
    focus (intro _; (try dsimp only [List.cons_append, List.nil_append, List.append_nil]); exact Still.nil)
    intro v7
    try dsimp only [List.cons_append, List.nil_append, List.append_nil]
    refine RunD.one ?_
    refine deS [] rfl (by exact Db1) rfl ?_ ?_
    focus (intro _; (try dsimp only [List.cons_append, List.nil_append, List.append_nil]); exact Still.nil)
    intro v6
    try dsimp only [List.cons_append, List.nil_append, List.append_nil]
    refine dv rfl (by exact Ybd4 rfl rfl rfl rfl) ?_
    refine RunD.one ?_
    refine de [] rfl (by exact Dbx) rfl ?_ ?_
    focus (intro _; (try dsimp only [List.cons_append, List.nil_append, List.append_nil]); exact Still.nil)
    intro v9
    try dsimp only [List.cons_append, List.nil_append, List.append_nil]
    refine RunD.unhex fun b9 => ?_
    refine RunD.unhex fun hb => ?_
    subst hb
    refine dv rfl (by exact Yas) ?_
    refine RunD.done ?_
    rotate_left
    exact RunR.nomore
    refine RunR.alt ?_ ?_
    refine deS [] rfl (by exact Db1) rfl ?_ ?_
    focus (intro _; (try dsimp only [List.cons_append, List.nil_append, List.append_nil]); exact Still.nil)
    intro v6
    try dsimp only [List.cons_append, List.nil_append, List.append_nil]
    refine RunD.alt ?_ ?_
    refine deS [] rfl (by exact Db1) rfl ?_ ?_
    focus (intro _; (try dsimp only [List.cons_append, List.nil_append, List.append_nil]); exact Still.nil)
    intro v5
    try dsimp only [List.cons_append, List.nil_append, List.append_nil]
    refine RunD.one ?_
    refine deS [] rfl (by exact Dmk) rfl ?_ ?_
    focus (intro _; (try dsimp only [List.cons_append, List.nil_append, List.append_nil]); exact Still.nil)
    intro v7
    try dsimp only [List.cons_append, List.nil_append, List.append_nil]
    refine dv rfl (by exact Ybd4 rfl rfl rfl rfl) ?_
    refine RunD.one ?_
    refine de [] rfl (by exact Dbx) rfl ?_ ?_
    focus (intro _; (try dsimp only [List.cons_append, List.nil_append, List.append_nil]); exact Still.nil)
    intro v9
    try dsimp only [List.cons_append, List.nil_append, List.append_nil]
    refine RunD.unhex fun b9 => ?_
    refine RunD.unhex fun hb => ?_
    subst hb
    refine dv rfl (by exact Yas) ?_
    refine RunD.done ?_
    rotate_left
    refine RunR.alt ?_ ?_
    refine deS [] rfl (by exact Dmk) rfl ?_ ?_
    focus (intro _; (try dsimp only [List.cons_append, List.nil_append, List.append_nil]); exact Still.nil)
    intro v7
    try dsimp only [List.cons_append, List.nil_append, List.append_nil]
    refine RunD.one ?_
    refine deS [] rfl (by exact Db1) rfl ?_ ?_
    focus (intro _; (try dsimp only [List.cons_append, List.nil_append, List.append_nil]); exact Still.nil)
    intro v5
    try dsimp only [List.cons_append, List.nil_append, List.append_nil]
    refine dv rfl (by exact Ybd4 rfl rfl rfl rfl) ?_
    refine RunD.one ?_
    refine de [] rfl (by exact Dbx) rfl ?_ ?_
    focus (intro _; (try dsimp only [List.cons_append, List.nil_append, List.append_nil]); exact Still.nil)
    intro v9
    try dsimp only [List.cons_append, List.nil_append, List.append_nil]
    refine RunD.unhex fun b9 => ?_
    refine RunD.unhex fun hb => ?_
    subst hb
    refine dv rfl (by exact Yas) ?_
    refine RunD.done ?_
    rotate_left
    exact RunR.nomore
    refine RunR.alt ?_ ?_
    refine deS [] rfl (by exact Dmk) rfl ?_ ?_
    focus (intro _; (try dsimp only [List.cons_append, List.nil_append, List.append_nil]); exact Still.nil)
    intro v7
    try dsimp only [List.cons_append, List.nil_append, List.append_nil]
    refine RunD.alt ?_ ?_
    refine deS [] rfl (by exact Db1) rfl ?_ ?_
    focus (intro _; (try dsimp only [List.cons_append, List.nil_append, List.append_nil]); exact Still.nil)
    intro v5
    try dsimp only [List.cons_append, List.nil_append, List.append_nil]
    refine RunD.one ?_
    refine deS [] rfl (by exact Db1) rfl ?_ ?_
    focus (intro _; (try dsimp only [List.cons_append, List.nil_append, List.append_nil]); exact Still.nil)
    intro v6
    try dsimp only [List.cons_append, List.nil_append, List.append_nil]
    refine dv rfl (by exact Ybd4 rfl rfl rfl rfl) ?_
    refine RunD.one ?_
    refine de [] rfl (by exact Dbx) rfl ?_ ?_
    focus (intro _; (try dsimp only [List.cons_append, List.nil_append, List.append_nil]); exact Still.nil)
    intro v9
    try dsimp only [List.cons_append, List.nil_append, List.append_nil]
    refine RunD.unhex fun b9 => ?_
    refine RunD.unhex fun hb => ?_
    subst hb
    refine dv rfl (by exact Yas) ?_
    refine RunD.done ?_
    rotate_left
    refine RunR.alt ?_ ?_
    refine deS [] rfl (by exact Db1) rfl ?_ ?_
    focus (intro _; (try dsimp only [List.cons_append, List.nil_append, List.append_nil]); exact Still.nil)
    intro v6
    try dsimp only [List.cons_append, List.nil_append, List.append_nil]
    refine RunD.one ?_
    refine deS [] rfl (by exact Db1) rfl ?_ ?_
    focus (intro _; (try dsimp only [List.cons_append, List.nil_append, List.append_nil]); exact Still.nil)
    intro v5
    try dsimp only [List.cons_append, List.nil_append, List.append_nil]
    refine dv rfl (by exact Ybd4 rfl rfl rfl rfl) ?_
    refine RunD.one ?_
    refine de [] rfl (by exact Dbx) rfl ?_ ?_
    focus (intro _; (try dsimp only [List.cons_append, List.nil_append, List.append_nil]); exact Still.nil)
    intro v9
    try dsimp only [List.cons_append, List.nil_append, List.append_nil]
    refine RunD.unhex fun b9 => ?_
    refine RunD.unhex fun hb => ?_
    subst hb
    refine dv rfl (by exact Yas) ?_
    refine RunD.done ?_
    rotate_left
    exact RunR.nomore
    exact RunR.nomore
    refine RunR.alt ?_ ?_
    refine deS [] rfl (by exact Db1) rfl ?_ ?_
    focus (intro _; (try dsimp only [List.cons_append, List.nil_append, List.append_nil]); exact Still.nil)
    intro v5
    try dsimp only [List.cons_append, List.nil_append, List.append_nil]
    refine RunD.alt ?_ ?_
    refine de [] rfl (by exact Dcl [] rfl rfl (fun _ hle hA => ass_new_ct _ 0)) rfl ?_ ?_
    focus (intro _; (try dsimp only [List.cons_append, List.nil_append, List.append_nil]); exact Still.nil)
    intro v4
    try dsimp only [List.cons_append, List.nil_append, List.append_nil]
    repeat (refine RunD.unpu fun h4 => ?_; try subst h4)
    refine RunD.unhex fun ba => RunD.unhex fun va => RunD.flat ?_; ((dsimp only [AssF, HAppend.hAppend, Append.append, List.append, List.cons_append, List.nil_append, List.append_nil]); (try simp only [List.append_eq])); refine RunD.unpu fun h => ?_; subst h
    refine RunD.alt ?_ ?_
    refine deS [] rfl (by exact Db1) rfl ?_ ?_
    focus (intro _; (try dsimp only [List.cons_append, List.nil_append, List.append_nil]); exact Still.nil)
    intro v6
    try dsimp only [List.cons_append, List.nil_append, List.append_nil]
    refine RunD.one ?_
    refine deS [] rfl (by exact Dmk) rfl ?_ ?_
    focus (intro _; (try dsimp only [List.cons_append, List.nil_append, List.append_nil]); exact Still.nil)
    intro v7
    try dsimp only [List.cons_append, List.nil_append, List.append_nil]
    refine dv rfl (by exact Ybd4 rfl rfl rfl rfl) ?_
    refine RunD.one ?_
    refine de [] rfl (by exact Dbx) rfl ?_ ?_
    focus (intro _; (try dsimp only [List.cons_append, List.nil_append, List.append_nil]); exact Still.nil)
    intro v9
    try dsimp only [List.cons_append, List.nil_append, List.append_nil]
    refine RunD.unhex fun b9 => ?_
    refine RunD.unhex fun hb => ?_
    subst hb
    refine dv rfl (by exact Yas) ?_
    refine RunD.done ?_
    rotate_left
    refine RunR.alt ?_ ?_
    refine deS [] rfl (by exact Dmk) rfl ?_ ?_
    focus (intro _; (try dsimp only [List.cons_append, List.nil_append, List.append_nil]); exact Still.nil)
    intro v7
    try dsimp only [List.cons_append, List.nil_append, List.append_nil]
    refine RunD.one ?_
    refine deS [] rfl (by exact Db1) rfl ?_ ?_
    focus (intro _; (try dsimp only [List.cons_append, List.nil_append, List.append_nil]); exact Still.nil)
    intro v6
    try dsimp only [List.cons_append, List.nil_append, List.append_nil]
    refine dv rfl (by exact Ybd4 rfl rfl rfl rfl) ?_
    refine RunD.one ?_
    refine de [] rfl (by exact Dbx) rfl ?_ ?_
    focus (intro _; (try dsimp only [List.cons_append, List.nil_append, List.append_nil]); exact Still.nil)
    intro v9
    try dsimp only [List.cons_append, List.nil_append, List.append_nil]
    refine RunD.unhex fun b9 => ?_
    refine RunD.unhex fun hb => ?_
    subst hb
    refine dv rfl (by exact Yas) ?_
    refine RunD.done ?_
    rotate_left
    exact RunR.nomore
    refine RunR.alt ?_ ?_
    refine deS [] rfl (by exact Db1) rfl ?_ ?_
    focus (intro _; (try dsimp only [List.cons_append, List.nil_append, List.append_nil]); exact Still.nil)
    intro v6
    try dsimp only [List.cons_append, List.nil_append, List.append_nil]
    refine RunD.alt ?_ ?_
    refine de [] rfl (by exact Dcl [] rfl rfl (fun _ hle hA => ass_new_ct _ 0)) rfl ?_ ?_
    focus (intro _; (try dsimp only [List.cons_append, List.nil_append, List.append_nil]); exact Still.nil)
    intro v4
    try dsimp only [List.cons_append, List.nil_append, List.append_nil]
    repeat (refine RunD.unpu fun h4 => ?_; try subst h4)
    refine RunD.unhex fun ba => RunD.unhex fun va => RunD.flat ?_; ((dsimp only [AssF, HAppend.hAppend, Append.append, List.append, List.cons_append, List.nil_append, List.append_nil]); (try simp only [List.append_eq])); refine RunD.unpu fun h => ?_; subst h
    refine RunD.one ?_
    refine deS [] rfl (by exact Dmk) rfl ?_ ?_
    focus (intro _; (try dsimp only [List.cons_append, List.nil_append, List.append_nil]); exact Still.nil)
    intro v7
    try dsimp only [List.cons_append, List.nil_append, List.append_nil]
    refine dv rfl (by exact Ybd4 rfl rfl rfl rfl) ?_
    refine RunD.one ?_
    refine de [] rfl (by exact Dbx) rfl ?_ ?_
    focus (intro _; (try dsimp only [List.cons_append, List.nil_append, List.append_nil]); exact Still.nil)
    intro v9
    try dsimp only [List.cons_append, List.nil_append, List.append_nil]
    refine RunD.unhex fun b9 => ?_
    refine RunD.unhex fun hb => ?_
    subst hb
    refine dv rfl (by exact Yas) ?_
    refine RunD.done ?_
    rotate_left
    refine RunR.alt ?_ ?_
    refine deS [] rfl (by exact Dmk) rfl ?_ ?_
    focus (intro _; (try dsimp only [List.cons_append, List.nil_append, List.append_nil]); exact Still.nil)
    intro v7
    try dsimp only [List.cons_append, List.nil_append, List.append_nil]
    refine RunD.one ?_
    refine de [] rfl (by exact Dcl [] rfl rfl (fun _ hle hA => ass_new_ct _ 0)) rfl ?_ ?_
    focus (intro _; (try dsimp only [List.cons_append, List.nil_append, List.append_nil]); exact Still.nil)
    intro v4
    try dsimp only [List.cons_append, List.nil_append, List.append_nil]
    repeat (refine RunD.unpu fun h4 => ?_; try subst h4)
    refine RunD.unhex fun ba => RunD.unhex fun va => RunD.flat ?_; ((dsimp only [AssF, HAppend.hAppend, Append.append, List.append, List.cons_append, List.nil_append, List.append_nil]); (try simp only [List.append_eq])); refine RunD.unpu fun h => ?_; subst h
    refine dv rfl (by exact Ybd4 rfl rfl rfl rfl) ?_
    refine RunD.one ?_
    refine de [] rfl (by exact Dbx) rfl ?_ ?_
    focus (intro _; (try dsimp only [List.cons_append, List.nil_append, List.append_nil]); exact Still.nil)
    intro v9
    try dsimp only [List.cons_append, List.nil_append, List.append_nil]
    refine RunD.unhex fun b9 => ?_
    refine RunD.unhex fun hb => ?_
    subst hb
    refine dv rfl (by exact Yas) ?_
    refine RunD.done ?_
    rotate_left
    exact RunR.nomore
    refine RunR.alt ?_ ?_
    refine deS [] rfl (by exact Dmk) rfl ?_ ?_
    focus (intro _; (try dsimp only [List.cons_append, List.nil_append, List.append_nil]); exact Still.nil)
    intro v7
    try dsimp only [List.cons_append, List.nil_append, List.append_nil]
    refine RunD.alt ?_ ?_
    refine de [] rfl (by exact Dcl [] rfl rfl (fun _ hle hA => ass_new_ct _ 0)) rfl ?_ ?_
    focus (intro _; (try dsimp only [List.cons_append, List.nil_append, List.append_nil]); exact Still.nil)
    intro v4
    try dsimp only [List.cons_append, List.nil_append, List.append_nil]
    repeat (refine RunD.unpu fun h4 => ?_; try subst h4)
    refine RunD.unhex fun ba => RunD.unhex fun va => RunD.flat ?_; ((dsimp only [AssF, HAppend.hAppend, Append.append, List.append, List.cons_append, List.nil_append, List.append_nil]); (try simp only [List.append_eq])); refine RunD.unpu fun h => ?_; subst h
    refine RunD.one ?_
    refine deS [] rfl (by exact Db1) rfl ?_ ?_
    focus (intro _; (try dsimp only [List.cons_append, List.nil_append, List.append_nil]); exact Still.nil)
    intro v6
    try dsimp only [List.cons_append, List.nil_append, List.append_nil]
    refine dv rfl (by exact Ybd4 rfl rfl rfl rfl) ?_
    refine RunD.one ?_
    refine de [] rfl (by exact Dbx) rfl ?_ ?_
    focus (intro _; (try dsimp only [List.cons_append, List.nil_append, List.append_nil]); exact Still.nil)
    intro v9
    try dsimp only [List.cons_append, List.nil_append, List.append_nil]
    refine RunD.unhex fun b9 => ?_
    refine RunD.unhex fun hb => ?_
    subst hb
    refine dv rfl (by exact Yas) ?_
    refine RunD.done ?_
    rotate_left
    refine RunR.alt ?_ ?_
    refine deS [] rfl (by exact Db1) rfl ?_ ?_
    focus (intro _; (try dsimp only [List.cons_append, List.nil_append, List.append_nil]); exact Still.nil)
    intro v6
    try dsimp only [List.cons_append, List.nil_append, List.append_nil]
    refine RunD.one ?_
    refine de [] rfl (by exact Dcl [] rfl rfl (fun _ hle hA => ass_new_ct _ 0)) rfl ?_ ?_
    focus (intro _; (try dsimp only [List.cons_append, List.nil_append, List.append_nil]); exact Still.nil)
    intro v4
    try dsimp only [List.cons_append, List.nil_append, List.append_nil]
    repeat (refine RunD.unpu fun h4 => ?_; try subst h4)
    refine RunD.unhex fun ba => RunD.unhex fun va => RunD.flat ?_; ((dsimp only [AssF, HAppend.hAppend, Append.append, List.append, List.cons_append, List.nil_append, List.append_nil]); (try simp only [List.append_eq])); refine RunD.unpu fun h => ?_; subst h
    refine dv rfl (by exact Ybd4 rfl rfl rfl rfl) ?_
    refine RunD.one ?_
    refine de [] rfl (by exact Dbx) rfl ?_ ?_
    focus (intro _; (try dsimp only [List.cons_append, List.nil_append, List.append_nil]); exact Still.nil)
    intro v9
    try dsimp only [List.cons_append, List.nil_append, List.append_nil]
    refine RunD.unhex fun b9 => ?_
    refine RunD.unhex fun hb => ?_
    subst hb
    refine dv rfl (by exact Yas) ?_
    refine RunD.done ?_
    rotate_left
    exact RunR.nomore
    exact RunR.nomore
    refine RunR.alt ?_ ?_
    refine deS [] rfl (by exact Db1) rfl ?_ ?_
    focus (intro _; (try dsimp only [List.cons_append, List.nil_append, List.append_nil]); exact Still.nil)
    intro v6
    try dsimp only [List.cons_append, List.nil_append, List.append_nil]
    refine RunD.alt ?_ ?_
    refine de [] rfl (by exact Dcl [] rfl rfl (fun _ hle hA => ass_new_ct _ 0)) rfl ?_ ?_
    focus (intro _; (try dsimp only [List.cons_append, List.nil_append, List.append_nil]); exact Still.nil)
    intro v4
    try dsimp only [List.cons_append, List.nil_append, List.append_nil]
    repeat (refine RunD.unpu fun h4 => ?_; try subst h4)
    refine RunD.unhex fun ba => RunD.unhex fun va => RunD.flat ?_; ((dsimp only [AssF, HAppend.hAppend, Append.append, List.append, List.cons_append, List.nil_append, List.append_nil]); (try simp only [List.append_eq])); refine RunD.unpu fun h => ?_; subst h
    refine RunD.alt ?_ ?_
    refine deS [] rfl (by exact Db1) rfl ?_ ?_
    focus (intro _; (try dsimp only [List.cons_append, List.nil_append, List.append_nil]); exact Still.nil)
    intro v5
    try dsimp only [List.cons_append, List.nil_append, List.append_nil]
    refine RunD.one ?_
    refine deS [] rfl (by exact Dmk) rfl ?_ ?_
    focus (intro _; (try dsimp only [List.cons_append, List.nil_append, List.append_nil]); exact Still.nil)
    intro v7
    try dsimp only [List.cons_append, List.nil_append, List.append_nil]
    refine dv rfl (by exact Ybd4 rfl rfl rfl rfl) ?_
    refine RunD.one ?_
    refine de [] rfl (by exact Dbx) rfl ?_ ?_
    focus (intro _; (try dsimp only [List.cons_append, List.nil_append, List.append_nil]); exact Still.nil)
    intro v9
    try dsimp only [List.cons_append, List.nil_append, List.append_nil]
    refine RunD.unhex fun b9 => ?_
    refine RunD.unhex fun hb => ?_
    subst hb
    refine dv rfl (by exact Yas) ?_
    refine RunD.done ?_
    rotate_left
    refine RunR.alt ?_ ?_
    refine deS [] rfl (by exact Dmk) rfl ?_ ?_
    focus (intro _; (try dsimp only [List.cons_append, List.nil_append, List.append_nil]); exact Still.nil)
    intro v7
    try dsimp only [List.cons_append, List.nil_append, List.append_nil]
    refine RunD.one ?_
    refine deS [] rfl (by exact Db1) rfl ?_ ?_
    focus (intro _; (try dsimp only [List.cons_append, List.nil_append, List.append_nil]); exact Still.nil)
    intro v5
    try dsimp only [List.cons_append, List.nil_append, List.append_nil]
    refine dv rfl (by exact Ybd4 rfl rfl rfl rfl) ?_
    refine RunD.one ?_
    refine de [] rfl (by exact Dbx) rfl ?_ ?_
    focus (intro _; (try dsimp only [List.cons_append, List.nil_append, List.append_nil]); exact Still.nil)
    intro v9
    try dsimp only [List.cons_append, List.nil_append, List.append_nil]
    refine RunD.unhex fun b9 => ?_
    refine RunD.unhex fun hb => ?_
    subst hb
    refine dv rfl (by exact Yas) ?_
    refine RunD.done ?_
    rotate_left
    exact RunR.nomore
    refine RunR.alt ?_ ?_
    refine deS [] rfl (by exact Db1) rfl ?_ ?_
    focus (intro _; (try dsimp only [List.cons_append, List.nil_append, List.append_nil]); exact Still.nil)
    intro v5
    try dsimp only [List.cons_append, List.nil_append, List.append_nil]
    refine RunD.alt ?_ ?_
    refine de [] rfl (by exact Dcl [] rfl rfl (fun _ hle hA => ass_new_ct _ 0)) rfl ?_ ?_
    focus (intro _; (try dsimp only [List.cons_append, List.nil_append, List.append_nil]); exact Still.nil)
    intro v4
    try dsimp only [List.cons_append, List.nil_append, List.append_nil]
    repeat (refine RunD.unpu fun h4 => ?_; try subst h4)
    refine RunD.unhex fun ba => RunD.unhex fun va => RunD.flat ?_; ((dsimp only [AssF, HAppend.hAppend, Append.append, List.append, List.cons_append, List.nil_append, List.append_nil]); (try simp only [List.append_eq])); refine RunD.unpu fun h => ?_; subst h
    refine RunD.one ?_
    refine deS [] rfl (by exact Dmk) rfl ?_ ?_
    focus (intro _; (try dsimp only [List.cons_append, List.nil_append, List.append_nil]); exact Still.nil)
    intro v7
    try dsimp only [List.cons_append, List.nil_append, List.append_nil]
    refine dv rfl (by exact Ybd4 rfl rfl rfl rfl) ?_
    refine RunD.one ?_
    refine de [] rfl (by exact Dbx) rfl ?_ ?_
    focus (intro _; (try dsimp only [List.cons_append, List.nil_append, List.append_nil]); exact Still.nil)
    intro v9
    try dsimp only [List.cons_append, List.nil_append, List.append_nil]
    refine RunD.unhex fun b9 => ?_
    refine RunD.unhex fun hb => ?_
    subst hb
    refine dv rfl (by exact Yas) ?_
    refine RunD.done ?_
    rotate_left
    refine RunR.alt ?_ ?_
    refine deS [] rfl (by exact Dmk) rfl ?_ ?_
    focus (intro _; (try dsimp only [List.cons_append, List.nil_append, List.append_nil]); exact Still.nil)
    intro v7
    try dsimp only [List.cons_append, List.nil_append, List.append_nil]
    refine RunD.one ?_
    refine de [] rfl (by exact Dcl [] rfl rfl (fun _ hle hA => ass_new_ct _ 0)) rfl ?_ ?_
    focus (intro _; (try dsimp only [List.cons_append, List.nil_append, List.append_nil]); exact Still.nil)
    intro v4
    try dsimp only [List.cons_append, List.nil_append, List.append_nil]
    repeat (refine RunD.unpu fun h4 => ?_; try subst h4)
    refine RunD.unhex fun ba => RunD.unhex fun va => RunD.flat ?_; ((dsimp only [AssF, HAppend.hAppend, Append.append, List.append, List.cons_append, List.nil_append, List.append_nil]); (try simp only [List.append_eq])); refine RunD.unpu fun h => ?_; subst h
    refine dv rfl (by exact Ybd4 rfl rfl rfl rfl) ?_
    refine RunD.one ?_
    refine de [] rfl (by exact Dbx) rfl ?_ ?_
    focus (intro _; (try dsimp only [List.cons_append, List.nil_append, List.append_nil]); exact Still.nil)
    intro v9
    try dsimp only [List.cons_append, List.nil_append, List.append_nil]
    refine RunD.unhex fun b9 => ?_
    refine RunD.unhex fun hb => ?_
    subst hb
    refine dv rfl (by exact Yas) ?_
    refine RunD.done ?_
    rotate_left
    exact RunR.nomore
    refine RunR.alt ?_ ?_
    refine deS [] rfl (by exact Dmk) rfl ?_ ?_
    focus (intro _; (try dsimp only [List.cons_append, List.nil_append, List.append_nil]); exact Still.nil)
    intro v7
    try dsimp only [List.cons_append, List.nil_append, List.append_nil]
    refine RunD.alt ?_ ?_
    refine de [] rfl (by exact Dcl [] rfl rfl (fun _ hle hA => ass_new_ct _ 0)) rfl ?_ ?_
    focus (intro _; (try dsimp only [List.cons_append, List.nil_append, List.append_nil]); exact Still.nil)
    intro v4
    try dsimp only [List.cons_append, List.nil_append, List.append_nil]
    repeat (refine RunD.unpu fun h4 => ?_; try subst h4)
    refine RunD.unhex fun ba => RunD.unhex fun va => RunD.flat ?_; ((dsimp only [AssF, HAppend.hAppend, Append.append, List.append, List.cons_append, List.nil_append, List.append_nil]); (try simp only [List.append_eq])); refine RunD.unpu fun h => ?_; subst h
    refine RunD.one ?_
    refine deS [] rfl (by exact Db1) rfl ?_ ?_
    focus (intro _; (try dsimp only [List.cons_append, List.nil_append, List.append_nil]); exact Still.nil)
    intro v5
    try dsimp only [List.cons_append, List.nil_append, List.append_nil]
    refine dv rfl (by exact Ybd4 rfl rfl rfl rfl) ?_
    refine RunD.one ?_
    refine de [] rfl (by exact Dbx) rfl ?_ ?_
    focus (intro _; (try dsimp only [List.cons_append, List.nil_append, List.append_nil]); exact Still.nil)
    intro v9
    try dsimp only [List.cons_append, List.nil_append, List.append_nil]
    refine RunD.unhex fun b9 => ?_
    refine RunD.unhex fun hb => ?_
    subst hb
    refine dv rfl (by exact Yas) ?_
    refine RunD.done ?_
    rotate_left
    refine RunR.alt ?_ ?_
    refine deS [] rfl (by exact Db1) rfl ?_ ?_
    focus (intro _; (try dsimp only [List.cons_append, List.nil_append, List.append_nil]); exact Still.nil)
    intro v5
    try dsimp only [List.cons_append, List.nil_append, List.append_nil]
    refine RunD.one ?_
    refine de [] rfl (by exact Dcl [] rfl rfl (fun _ hle hA => ass_new_ct _ 0)) rfl ?_ ?_
    focus (intro _; (try dsimp only [List.cons_append, List.nil_append, List.append_nil]); exact Still.nil)
    intro v4
    try dsimp only [List.cons_append, List.nil_append, List.append_nil]
    repeat (refine RunD.unpu fun h4 => ?_; try subst h4)
    refine RunD.unhex fun ba => RunD.unhex fun va => RunD.flat ?_; ((dsimp only [AssF, HAppend.hAppend, Append.append, List.append, List.cons_append, List.nil_append, List.append_nil]); (try simp only [List.append_eq])); refine RunD.unpu fun h => ?_; subst h
    refine dv rfl (by exact Ybd4 rfl rfl rfl rfl) ?_
    refine RunD.one ?_
    refine de [] rfl (by exact Dbx) rfl ?_ ?_
    focus (intro _; (try dsimp only [List.cons_append, List.nil_append, List.append_nil]); exact Still.nil)
    intro v9
    try dsimp only [List.cons_append, List.nil_append, List.append_nil]
    refine RunD.unhex fun b9 => ?_
    refine RunD.unhex fun hb => ?_
    subst hb
    refine dv rfl (by exact Yas) ?_
    refine RunD.done ?_
    rotate_left
    exact RunR.nomore
    exact RunR.nomore
    refine RunR.alt ?_ ?_
    refine deS [] rfl (by exact Dmk) rfl ?_ ?_
    focus (intro _; (try dsimp only [List.cons_append, List.nil_append, List.append_nil]); exact Still.nil)
    intro v7
    try dsimp only [List.cons_append, List.nil_append, List.append_nil]
    refine RunD.alt ?_ ?_
    refine de [] rfl (by exact Dcl [] rfl rfl (fun _ hle hA => ass_new_ct _ 0)) rfl ?_ ?_
    focus (intro _; (try dsimp only [List.cons_append, List.nil_append, List.append_nil]); exact Still.nil)
    intro v4
    try dsimp only [List.cons_append, List.nil_append, List.append_nil]
    repeat (refine RunD.unpu fun h4 => ?_; try subst h4)
    refine RunD.unhex fun ba => RunD.unhex fun va => RunD.flat ?_; ((dsimp only [AssF, HAppend.hAppend, Append.append, List.append, List.cons_append, List.nil_append, List.append_nil]); (try simp only [List.append_eq])); refine RunD.unpu fun h => ?_; subst h
    refine RunD.alt ?_ ?_
    refine deS [] rfl (by exact Db1) rfl ?_ ?_
    focus (intro _; (try dsimp only [List.cons_append, List.nil_append, List.append_nil]); exact Still.nil)
    intro v5
    try dsimp only [List.cons_append, List.nil_append, List.append_nil]
    refine RunD.one ?_
    refine deS [] rfl (by exact Db1) rfl ?_ ?_
    focus (intro _; (try dsimp only [List.cons_append, List.nil_append, List.append_nil]); exact Still.nil)
    intro v6
    try dsimp only [List.cons_append, List.nil_append, List.append_nil]
    refine dv rfl (by exact Ybd4 rfl rfl rfl rfl) ?_
    refine RunD.one ?_
    refine de [] rfl (by exact Dbx) rfl ?_ ?_
    focus (intro _; (try dsimp only [List.cons_append, List.nil_append, List.append_nil]); exact Still.nil)
    intro v9
    try dsimp only [List.cons_append, List.nil_append, List.append_nil]
    refine RunD.unhex fun b9 => ?_
    refine RunD.unhex fun hb => ?_
    subst hb
    refine dv rfl (by exact Yas) ?_
    refine RunD.done ?_
    rotate_left
    refine RunR.alt ?_ ?_
    refine deS [] rfl (by exact Db1) rfl ?_ ?_
    focus (intro _; (try dsimp only [List.cons_append, List.nil_append, List.append_nil]); exact Still.nil)
    intro v6
    try dsimp only [List.cons_append, List.nil_append, List.append_nil]
    refine RunD.one ?_
    refine deS [] rfl (by exact Db1) rfl ?_ ?_
    focus (intro _; (try dsimp only [List.cons_append, List.nil_append, List.append_nil]); exact Still.nil)
    intro v5
    try dsimp only [List.cons_append, List.nil_append, List.append_nil]
    refine dv rfl (by exact Ybd4 rfl rfl rfl rfl) ?_
    refine RunD.one ?_
    refine de [] rfl (by exact Dbx) rfl ?_ ?_
    focus (intro _; (try dsimp only [List.cons_append, List.nil_append, List.append_nil]); exact Still.nil)
    intro v9
    try dsimp only [List.cons_append, List.nil_append, List.append_nil]
    refine RunD.unhex fun b9 => ?_
    refine RunD.unhex fun hb => ?_
    subst hb
    refine dv rfl (by exact Yas) ?_
    refine RunD.done ?_
    rotate_left
    exact RunR.nomore
    refine RunR.alt ?_ ?_
    refine deS [] rfl (by exact Db1) rfl ?_ ?_
    focus (intro _; (try dsimp only [List.cons_append, List.nil_append, List.append_nil]); exact Still.nil)
    intro v5
    try dsimp only [List.cons_append, List.nil_append, List.append_nil]
    refine RunD.alt ?_ ?_
    refine de [] rfl (by exact Dcl [] rfl rfl (fun _ hle hA => ass_new_ct _ 0)) rfl ?_ ?_
    focus (intro _; (try dsimp only [List.cons_append, List.nil_append, List.append_nil]); exact Still.nil)
    intro v4
    try dsimp only [List.cons_append, List.nil_append, List.append_nil]
    repeat (refine RunD.unpu fun h4 => ?_; try subst h4)
    refine RunD.unhex fun ba => RunD.unhex fun va => RunD.flat ?_; ((dsimp only [AssF, HAppend.hAppend, Append.append, List.append, List.cons_append, List.nil_append, List.append_nil]); (try simp only [List.append_eq])); refine RunD.unpu fun h => ?_; subst h
    refine RunD.one ?_
    refine deS [] rfl (by exact Db1) rfl ?_ ?_
    focus (intro _; (try dsimp only [List.cons_append, List.nil_append, List.append_nil]); exact Still.nil)
    intro v6
    try dsimp only [List.cons_append, List.nil_append, List.append_nil]
    refine dv rfl (by exact Ybd4 rfl rfl rfl rfl) ?_
    refine RunD.one ?_
    refine de [] rfl (by exact Dbx) rfl ?_ ?_
    focus (intro _; (try dsimp only [List.cons_append, List.nil_append, List.append_nil]); exact Still.nil)
    intro v9
    try dsimp only [List.cons_append, List.nil_append, List.append_nil]
    refine RunD.unhex fun b9 => ?_
    refine RunD.unhex fun hb => ?_
    subst hb
    refine dv rfl (by exact Yas) ?_
    refine RunD.done ?_
    rotate_left
    refine RunR.alt ?_ ?_
    refine deS [] rfl (by exact Db1) rfl ?_ ?_
    focus (intro _; (try dsimp only [List.cons_append, List.nil_append, List.append_nil]); exact Still.nil)
    intro v6
    try dsimp only [List.cons_append, List.nil_append, List.append_nil]
    refine RunD.one ?_
    refine de [] rfl (by exact Dcl [] rfl rfl (fun _ hle hA => ass_new_ct _ 0)) rfl ?_ ?_
    focus (intro _; (try dsimp only [List.cons_append, List.nil_append, List.append_nil]); exact Still.nil)
    intro v4
    try dsimp only [List.cons_append, List.nil_append, List.append_nil]
    repeat (refine RunD.unpu fun h4 => ?_; try subst h4)
    refine RunD.unhex fun ba => RunD.unhex fun va => RunD.flat ?_; ((dsimp only [AssF, HAppend.hAppend, Append.append, List.append, List.cons_append, List.nil_append, List.append_nil]); (try simp only [List.append_eq])); refine RunD.unpu fun h => ?_; subst h
    refine dv rfl (by exact Ybd4 rfl rfl rfl rfl) ?_
    refine RunD.one ?_
    refine de [] rfl (by exact Dbx) rfl ?_ ?_
    focus (intro _; (try dsimp only [List.cons_append, List.nil_append, List.append_nil]); exact Still.nil)
    intro v9
    try dsimp only [List.cons_append, List.nil_append, List.append_nil]
    refine RunD.unhex fun b9 => ?_
    refine RunD.unhex fun hb => ?_
    subst hb
    refine dv rfl (by exact Yas) ?_
    refine RunD.done ?_
    rotate_left
    exact RunR.nomore
    refine RunR.alt ?_ ?_
    refine deS [] rfl (by exact Db1) rfl ?_ ?_
    focus (intro _; (try dsimp only [List.cons_append, List.nil_append, List.append_nil]); exact Still.nil)
    intro v6
    try dsimp only [List.cons_append, List.nil_append, List.append_nil]
    refine RunD.alt ?_ ?_
    refine de [] rfl (by exact Dcl [] rfl rfl (fun _ hle hA => ass_new_ct _ 0)) rfl ?_ ?_
    focus (intro _; (try dsimp only [List.cons_append, List.nil_append, List.append_nil]); exact Still.nil)
    intro v4
    try dsimp only [List.cons_append, List.nil_append, List.append_nil]
    repeat (refine RunD.unpu fun h4 => ?_; try subst h4)
    refine RunD.unhex fun ba => RunD.unhex fun va => RunD.flat ?_; ((dsimp only [AssF, HAppend.hAppend, Append.append, List.append, List.cons_append, List.nil_append, List.append_nil]); (try simp only [List.append_eq])); refine RunD.unpu fun h => ?_; subst h
    refine RunD.one ?_
    refine deS [] rfl (by exact Db1) rfl ?_ ?_
    focus (intro _; (try dsimp only [List.cons_append, List.nil_append, List.append_nil]); exact Still.nil)
    intro v5
    try dsimp only [List.cons_append, List.nil_append, List.append_nil]
    refine dv rfl (by exact Ybd4 rfl rfl rfl rfl) ?_
    refine RunD.one ?_
    refine de [] rfl (by exact Dbx) rfl ?_ ?_
    focus (intro _; (try dsimp only [List.cons_append, List.nil_append, List.append_nil]); exact Still.nil)
    intro v9
    try dsimp only [List.cons_append, List.nil_append, List.append_nil]
    refine RunD.unhex fun b9 => ?_
    refine RunD.unhex fun hb => ?_
    subst hb
    refine dv rfl (by exact Yas) ?_
    refine RunD.done ?_
    rotate_left
    refine RunR.alt ?_ ?_
    refine deS [] rfl (by exact Db1) rfl ?_ ?_
    focus (intro _; (try dsimp only [List.cons_append, List.nil_append, List.append_nil]); exact Still.nil)
    intro v5
    try dsimp only [List.cons_append, List.nil_append, List.append_nil]
    refine RunD.one ?_
    refine de [] rfl (by exact Dcl [] rfl rfl (fun _ hle hA => ass_new_ct _ 0)) rfl ?_ ?_
    focus (intro _; (try dsimp only [List.cons_append, List.nil_append, List.append_nil]); exact Still.nil)
    intro v4
    try dsimp only [List.cons_append, List.nil_append, List.append_nil]
    repeat (refine RunD.unpu fun h4 => ?_; try subst h4)
    refine RunD.unhex fun ba => RunD.unhex fun va => RunD.flat ?_; ((dsimp only [AssF, HAppend.hAppend, Append.append, List.append, List.cons_append, List.nil_append, List.append_nil]); (try simp only [List.append_eq])); refine RunD.unpu fun h => ?_; subst h
    refine dv rfl (by exact Ybd4 rfl rfl rfl rfl) ?_
    refine RunD.one ?_
    refine de [] rfl (by exact Dbx) rfl ?_ ?_
    focus (intro _; (try dsimp only [List.cons_append, List.nil_append, List.append_nil]); exact Still.nil)
    intro v9
    try dsimp only [List.cons_append, List.nil_append, List.append_nil]
    refine RunD.unhex fun b9 => ?_
    refine RunD.unhex fun hb => ?_
    subst hb
    refine dv rfl (by exact Yas) ?_
    refine RunD.done ?_
    rotate_left
    exact RunR.nomore
    exact RunR.nomore
    exact RunR.nomore
  all_goals
    refine Run.weaken (e' := [(0, int m), (3, ptr b9)]) (L' := PropF b9 ⟨[0], [-1], [-1], [], [], 0, [], [], [[], []], []⟩ ⟨ba, va, v5, v6, nilS, nilS, nilS, v7, nilS, [], [⟨none, 0, 0⟩, ⟨none, 0, 0⟩]⟩) (by (repeat (first | exact Sub.nil _ | refine Sub.cons rfl ?_))) (by
      rw [show List.replicate (cut 0 + 1).toNat (0 : Int) = [0] from rfl, show List.replicate (Int.toNat 2) (⟨none, 0, 0⟩ : SV) = [⟨none, 0, 0⟩, ⟨none, 0, 0⟩] from rfl]
      (focus ((repeat (first | refine entPus ?_ ?_ | refine Ent.nilA ?_ | refine Ent.takeC ?_ | refine Ent.nilBag2 ?_ | refine Ent.bag0 ?_ | refine Ent.bag2 ?_ | refine Ent.snocC ?_ | refine Ent.fillC ?_)); exact Ent.done; all_goals (try (first | rfl | assumption | omega))))) ?_
    (repeat (first | refine Run.seq ?_ | refine Run.skip ?_ | refine Run.block ?_ | refine Run.inBlock ?_ | refine Run.exit rfl ?_ | refine Run.condT rfl ?_ | refine Run.condF rfl ?_))
    focus
      refine Run.region ?_
      refine lv (by exact Ymv) ?_
      refine lv (by exact Ymv) ?_
      refine lc [] rfl rfl (fun _ hle hA => prop_grow_ct _ b9 ⟨[0], [-1], [-1], [], [], 0, [], [], [[], []], []⟩ ⟨ba, va, v5, v6, nilS, nilS, nilS, v7, nilS, [], [⟨none, 0, 0⟩, ⟨none, 0, 0⟩]⟩ m 1 ⟨by omega, rfl, rfl, rfl, rfl⟩) ?_
      intro v12
      try dsimp only [List.cons_append, List.nil_append, List.append_nil]
      repeat (refine RunL.unpu fun h12 => ?_; try subst h12)
      refine RunL.nil ?_
      rotate_left
    (repeat (first | refine Run.seq ?_ | refine Run.skip ?_ | refine Run.block ?_ | refine Run.inBlock ?_ | refine Run.exit rfl ?_ | refine Run.condT rfl ?_ | refine Run.condF rfl ?_))
    focus
      refine Run.region ?_
      refine lv (by exact Ymv) ?_
      refine lv (by exact Yas) ?_
      refine RunL.nil ?_
      rotate_left
    (repeat (first | refine Run.seq ?_ | refine Run.skip ?_ | refine Run.block ?_ | refine Run.inBlock ?_ | refine Run.exit rfl ?_ | refine Run.condT rfl ?_ | refine Run.condF rfl ?_))
    refine Run.unhex fun q => Run.flat ?_
    ((dsimp only [PropF, HAppend.hAppend, Append.append, List.append, List.cons_append, List.nil_append, List.append_nil]); (try simp only [List.append_eq]))
    (refine Run.ret1 Tryd.results45 (by rfl) ?_)
    refine Ent.hex b9 (Ent.hex q (Ent.flat (Ent.pu rfl ?_)))
    (focus ((repeat (first | refine entPus ?_ ?_ | refine Ent.nilA ?_ | refine Ent.takeC ?_ | refine Ent.nilBag2 ?_ | refine Ent.bag0 ?_ | refine Ent.bag2 ?_ | refine Ent.snocC ?_ | refine Ent.fillC ?_)); exact Ent.done; all_goals (try (first | rfl | assumption | omega))))
end Go.Proofs.YtfldnnpcdjabnaaDoor
