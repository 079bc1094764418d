/-
  pace.New, sat.Paced, sat.Engine.Grow: each function by its contract.
-/
import Derived.Test.YtfldnnpcdjabnaaDoorProp
set_option linter.unusedVariables false
set_option linter.unusedSimpArgs false
namespace Go.Proofs.YtfldnnpcdjabnaaDoor
open Go

/-- A list that goes round. -/
structure TurnS where
  l : List Int
  k : Int
structure PaceS where
  restart : TurnS
  keep : TurnS
  tie : TurnS
  sign : TurnS
  most : Int
  came : Int
  since : Int
  least : Int
structure PaceV where
  v1 : SV
  v2 : SV
  v3 : SV
  v4 : SV
abbrev PaceF (b : Nat) (s : PaceS) (q : PaceV) : List HP :=
  [Cells b 73 [q.v1.v, int s.restart.k, q.v2.v, int s.keep.k, q.v3.v, int s.tie.k, q.v4.v, int s.sign.k, int s.most, int s.came, int s.since, int s.least],
   Arr KInt q.v1.v s.restart.l, Arr KInt q.v2.v s.keep.l, Arr KInt q.v3.v s.tie.l, Arr KInt q.v4.v s.sign.l]
/-- A script, as it is handed in. -/
structure ScriptS where
  restart : List Int
  keep : List Int
  tie : List Int
  sign : List Int
  conflicts : Int
  rounds : Int
structure ScriptV where
  v1 : SV
  v2 : SV
  v3 : SV
  v4 : SV
abbrev scriptC (s : ScriptS) (q : ScriptV) : List Value := [q.v1.v, q.v2.v, q.v3.v, q.v4.v, int s.conflicts, int s.rounds]
abbrev scriptV (s : ScriptS) (q : ScriptV) : Value := .agg (scriptC s q).toArray
structure ScriptIn (ρ : Frag) (s : ScriptS) (q : ScriptV) : Prop where
  h1 : In (RArr KInt q.v1.v s.restart) ρ
  h2 : In (RArr KInt q.v2.v s.keep) ρ
  h3 : In (RArr KInt q.v3.v s.tie) ρ
  h4 : In (RArr KInt q.v4.v s.sign) ρ
theorem ScriptIn.mono {ρ ρ' : Frag} {s : ScriptS} {q : ScriptV} (h : ScriptIn ρ s q) (l : fle ρ ρ') : ScriptIn ρ' s q := ⟨h.h1.mono l, h.h2.mono l, h.h3.mono l, h.h4.mono l⟩
abbrev paceOf (s : ScriptS) : PaceS := ⟨⟨s.restart, 0⟩, ⟨s.keep, 0⟩, ⟨s.tie, 0⟩, ⟨s.sign, 0⟩, s.conflicts, 0, 0, 16⟩
/-- An engine: n places for variables, those of inn in the heap. -/
structure EngS where
  p : PropS
  n : Nat
  inn : Int → Prop
  pace : PaceS
  saved : List Int
  learnt : List (Int × Int)
  lfl : List Bool
  log : List (List Int)
  conflicts : Int
  bump : Int
structure EngV where
  bp : Nat
  bh : Nat
  bpa : Nat
  qp : PropV
  qa : PaceV
  vs : SV
  ve : SV
  vo : SV
  ss : List SV
abbrev EngF (b : Nat) (e : EngS) (q : EngV) : List HP :=
  Cells b 79 [ptr q.bp, ptr q.bh, ptr q.bpa, q.vs.v, q.ve.v, q.vo.v, int e.conflicts, int e.bump] :: HeapA q.bh e.n e.inn :: Arr KInt q.vs.v e.saved :: Arr KLe q.ve.v e.learnt :: Arr KSt q.vo.v (List.zip e.lfl q.ss) :: Bag KInt q.ss e.log ::
  Cells q.bpa 73 [q.qa.v1.v, int e.pace.restart.k, q.qa.v2.v, int e.pace.keep.k, q.qa.v3.v, int e.pace.tie.k, q.qa.v4.v, int e.pace.sign.k, int e.pace.most, int e.pace.came, int e.pace.since, int e.pace.least] ::
  Arr KInt q.qa.v1.v e.pace.restart.l :: Arr KInt q.qa.v2.v e.pace.keep.l :: Arr KInt q.qa.v3.v e.pace.tie.l :: Arr KInt q.qa.v4.v e.pace.sign.l :: PropF q.bp e.p q.qp
abbrev EngS.grown (e : EngS) (N : Nat) : EngS := { e with p := e.p.grown N, n := N, inn := fun x => (e.inn x ∧ x < e.n) ∨ e.n ≤ x, saved := pad e.saved N 0 }
structure EngOk (e : EngS) : Prop where
  sized : Sized e.p e.n
  saved : e.saved.length ≤ e.n
attribute [local irreducible] Yields Does Run RunL AnyL Ct Reads Peek PeekN Poke Pick Fits Sub Ent Still Arr RArr Cells el stars In
theorem own_ct (ρ : Frag) (s : SV) (xs : List Int) (hR : In (RArr KInt s.v xs) ρ) : Ct Tryd.prog 34 [s.v] ρ [] (fun r => [hex fun t : SV => stars [pu (r = .agg #[t.v, int 0]), Arr KInt t.v xs]]) := by
  (refine Ct.of_run Tryd.func34 rfl Tryd.ntmps34 rfl (Nat.le_of_ble_eq_true rfl) ?_)
  (repeat first | refine G1 ?_ | refine G2 ?_ | refine G3 ?_ | refine G4 ?_ | refine G5 rfl ?_ | refine G6 rfl ?_ | refine G7 rfl ?_)
  (focus (refine R0 ?_; refine le (by exact Dal Tryd.zeroValue69) ?_; intro v2; (try dsimp only [List.cons_append, List.nil_append, List.append_nil]); refine RunL.unhex fun b2 => ?_; refine RunL.unhex fun hb => ?_; subst hb; refine R1 ?_; rotate_left))

  (repeat first | refine G1 ?_ | refine G2 ?_ | refine G3 ?_ | refine G4 ?_ | refine G5 rfl ?_ | refine G6 rfl ?_ | refine G7 rfl ?_)
  (focus (refine R0 ?_; refine lM ?_; refine lc [] rfl rfl (fun _ hle hA => clone_ct _ s xs (hR.mono hle)) ?_; intro v4; (try dsimp only [List.cons_append, List.nil_append, List.append_nil]); (repeat (refine RunL.unpu fun h4 => ?_; try subst h4)); (refine RunL.unhex fun t => RunL.flat ?_; ((dsimp only [HeapF, HAppend.hAppend, Append.append, List.append, List.cons_append, List.nil_append, List.append_nil]); (try simp only [List.append_eq])); refine RunL.unpu fun h => ?_; subst h); refine lv (by exact Ybd1 rfl) ?_; refine ln (by exact Dsa) ?_; intro _; (try dsimp only [List.cons_append, List.nil_append, List.append_nil]); refine R1 ?_; rotate_left))

  (repeat first | refine G1 ?_ | refine G2 ?_ | refine G3 ?_ | refine G4 ?_ | refine G5 rfl ?_ | refine G6 rfl ?_ | refine G7 rfl ?_)
  refine Run.retC1 Tryd.results34 (b := b2) (T' := 69) (cs := [t.v, int 0]) rfl (by (first | exact Reads.rho (by assumption) | exact Reads.pick (by (repeat (first | with_reducible exact Pick.here | with_reducible apply Pick.there))))) rfl ?_
  refine Ent.hex t (Ent.flat (Ent.pu rfl ?_))
  (focus ((repeat first | refine E1 ?_ ?_ | refine E2 ?_ | refine E3 ?_ | refine E4 ?_ | refine E5 ?_ | refine E6 ?_ | refine E7 ?_ | refine E8 ?_); exact E9; all_goals try first | rfl | assumption | omega))
theorem pace_new_ct (ρ : Frag) (s : ScriptS) (q : ScriptV) (hR : ScriptIn ρ s q) : Ct Tryd.prog 22 [scriptV s q] ρ [] (fun r => [hex fun b => hex fun q' => stars (pu (r = ptr b) :: PaceF b (paceOf s) q')]) := by
  (refine Ct.of_run Tryd.func22 rfl Tryd.ntmps22 rfl (Nat.le_of_ble_eq_true rfl) ?_)
  (repeat first | refine G1 ?_ | refine G2 ?_ | refine G3 ?_ | refine G4 ?_ | refine G5 rfl ?_ | refine G6 rfl ?_ | refine G7 rfl ?_)
  (focus (refine R0 ?_; refine le (by exact Dbx) ?_; intro v1; (try dsimp only [List.cons_append, List.nil_append, List.append_nil]); refine RunL.unhex fun b1 => ?_; refine RunL.unhex fun hb => ?_; subst hb; refine lA ?_; refine R1 ?_; rotate_left))

  (repeat first | refine G1 ?_ | refine G2 ?_ | refine G3 ?_ | refine G4 ?_ | refine G5 rfl ?_ | refine G6 rfl ?_ | refine G7 rfl ?_)
  (focus (refine R0 ?_; refine lA ?_; refine R1 ?_; rotate_left))

  (repeat first | refine G1 ?_ | refine G2 ?_ | refine G3 ?_ | refine G4 ?_ | refine G5 rfl ?_ | refine G6 rfl ?_ | refine G7 rfl ?_)
  (focus (refine Run.planS mixed (.take 0 (.take 1 (.take 2 (.take 4 (.take 5 (.take 6 (.take 8 (.take 9 (.take 10 (.take 12 (.take 13 (.take 14 (.take 16 (.take 17 (.alt 3 (.alt 7 (.alt 11 (.alt 15 (.take 18 (.alt 19 (.take 20 (.done)) (.nomore))) (.nomore)) (.nomore)) (.nomore)) (.nomore)))))))))))))))) [(some 4, [3], []), (some 5, [1], []), (some 6, [5], [1]), (some 7, [4, 6], [0, 2]), (some 8, [3], []), (some 9, [1], []), (some 10, [9], [5]), (some 11, [8, 10], [4, 6, 3]), (some 12, [3], []), (some 13, [1], []), (some 14, [13], [9]), (some 15, [12, 14], [8, 10, 7]), (some 16, [3], []), (some 17, [1], []), (some 18, [17], [13]), (some 19, [16, 18], [12, 14, 11]), (some 20, [1], []), (some 21, [20], [16]), (some 22, [7, 11, 15, 19, 21], [3, 7, 11, 15, 17]), (some 23, [22], [18]), (some 2, [23], [19, 15, 0, 1, 2, 3, 4, 5, 6, 7, 8, 9, 10, 11, 12, 13, 14, 15, 16, 17, 18, 19])] (by kernel_rfl) (by kernel_rfl) (by kernel_rfl) ?_; refine dM rfl ?_; refine dG rfl ?_; refine dL rfl ?_; refine dM rfl ?_; refine dG rfl ?_; refine dL rfl ?_; refine dM rfl ?_; refine dG rfl ?_; refine dL rfl ?_; refine dM rfl ?_; refine dG rfl ?_; refine dL rfl ?_; refine dG rfl ?_; refine dL rfl ?_; refine R3 ?_; refine de [(17, _), (16, _), (14, _), (13, _), (12, _), (10, _), (9, _), (8, _), (6, _), (5, _), (4, _), (1, _)] rfl (by exact Dcl [] rfl rfl (fun _ hle hA => own_ct _ q.v1 s.restart (hR.h1.mono hle))) rfl ?_ ?_; (focus (intro _; (try dsimp only [List.cons_append, List.nil_append, List.append_nil]); refine sL rfl ?_; refine sG rfl ?_; refine sL rfl ?_; refine sG rfl ?_; refine sM rfl ?_; refine sL rfl ?_; refine sG rfl ?_; refine sM rfl ?_; refine sL rfl ?_; refine sG rfl ?_; refine sM rfl ?_; refine sG rfl ?_; exact Still.nil)); intro v7; (try dsimp only [List.cons_append, List.nil_append, List.append_nil]); (repeat (refine RunD.unpu fun h7 => ?_; try subst h7)); (refine RunD.unhex fun t1 => RunD.flat ?_; ((dsimp only [HeapF, HAppend.hAppend, Append.append, List.append, List.cons_append, List.nil_append, List.append_nil]); (try simp only [List.append_eq])); refine RunD.unpu fun h => ?_; subst h); refine R3 ?_; refine de [(17, _), (16, _), (14, _), (13, _), (12, _), (10, _), (9, _), (8, _), (5, _), (1, _)] rfl (by exact Dcl [] rfl rfl (fun _ hle hA => own_ct _ q.v2 s.keep (hR.h2.mono hle))) rfl ?_ ?_; (focus (intro _; (try dsimp only [List.cons_append, List.nil_append, List.append_nil]); refine sL rfl ?_; refine sG rfl ?_; refine sL rfl ?_; refine sG rfl ?_; refine sM rfl ?_; refine sL rfl ?_; refine sG rfl ?_; refine sM rfl ?_; refine sG rfl ?_; refine sG rfl ?_; exact Still.nil)); intro v11; (try dsimp only [List.cons_append, List.nil_append, List.append_nil]); (repeat (refine RunD.unpu fun h11 => ?_; try subst h11)); (refine RunD.unhex fun t2 => RunD.flat ?_; ((dsimp only [HeapF, HAppend.hAppend, Append.append, List.append, List.cons_append, List.nil_append, List.append_nil]); (try simp only [List.append_eq])); refine RunD.unpu fun h => ?_; subst h); refine R3 ?_; refine de [(17, _), (16, _), (14, _), (13, _), (12, _), (9, _), (5, _), (1, _)] rfl (by exact Dcl [] rfl rfl (fun _ hle hA => own_ct _ q.v3 s.tie (hR.h3.mono hle))) rfl ?_ ?_; (focus (intro _; (try dsimp only [List.cons_append, List.nil_append, List.append_nil]); refine sL rfl ?_; refine sG rfl ?_; refine sL rfl ?_; refine sG rfl ?_; refine sM rfl ?_; refine sG rfl ?_; refine sG rfl ?_; refine sG rfl ?_; exact Still.nil)); intro v15; (try dsimp only [List.cons_append, List.nil_append, List.append_nil]); (repeat (refine RunD.unpu fun h15 => ?_; try subst h15)); (refine RunD.unhex fun t3 => RunD.flat ?_; ((dsimp only [HeapF, HAppend.hAppend, Append.append, List.append, List.cons_append, List.nil_append, List.append_nil]); (try simp only [List.append_eq])); refine RunD.unpu fun h => ?_; subst h); refine R3 ?_; refine de [(17, _), (16, _), (13, _), (9, _), (5, _), (1, _)] rfl (by exact Dcl [] rfl rfl (fun _ hle hA => own_ct _ q.v4 s.sign (hR.h4.mono hle))) rfl ?_ ?_; (focus (intro _; (try dsimp only [List.cons_append, List.nil_append, List.append_nil]); refine sL rfl ?_; refine sG rfl ?_; refine sG rfl ?_; refine sG rfl ?_; refine sG rfl ?_; refine sG rfl ?_; exact Still.nil)); intro v19; (try dsimp only [List.cons_append, List.nil_append, List.append_nil]); (repeat (refine RunD.unpu fun h19 => ?_; try subst h19)); (refine RunD.unhex fun t4 => RunD.flat ?_; ((dsimp only [HeapF, HAppend.hAppend, Append.append, List.append, List.cons_append, List.nil_append, List.append_nil]); (try simp only [List.append_eq])); refine RunD.unpu fun h => ?_; subst h); refine dv rfl (by exact Ybd6 rfl rfl rfl rfl rfl rfl) ?_; refine R3 ?_; refine de [(17, _), (16, _), (13, _), (9, _), (5, _), (1, _)] rfl (by exact Dbx) rfl ?_ ?_; (focus (intro _; (try dsimp only [List.cons_append, List.nil_append, List.append_nil]); refine sL rfl ?_; refine sG rfl ?_; refine sG rfl ?_; refine sG rfl ?_; refine sG rfl ?_; refine sG rfl ?_; exact Still.nil)); intro v23; (try dsimp only [List.cons_append, List.nil_append, List.append_nil]); refine RunD.unhex fun b23 => ?_; refine RunD.unhex fun hb => ?_; subst hb; refine dA rfl ?_; refine R2 ?_; rotate_left))

  (repeat first | refine G1 ?_ | refine G2 ?_ | refine G3 ?_ | refine G4 ?_ | refine G5 rfl ?_ | refine G6 rfl ?_ | refine G7 rfl ?_)
  (refine Run.ret1 Tryd.results22 (by rfl) ?_)
  refine Ent.hex b23 (Ent.hex ⟨t1, t2, t3, t4⟩ (Ent.flat (Ent.pu rfl ?_)))
  (focus ((repeat first | refine E1 ?_ ?_ | refine E2 ?_ | refine E3 ?_ | refine E4 ?_ | refine E5 ?_ | refine E6 ?_ | refine E7 ?_ | refine E8 ?_); exact E9; all_goals try first | rfl | assumption | omega))
theorem eng_grow_ct (ρ : Frag) (b : Nat) (e : EngS) (q : EngV) (m : Int) (hs : EngOk e) :
    Ct Tryd.prog 23 [ptr b, int m] ρ (EngF b e q) (fun r => [hex fun q' => stars (EngF b (e.grown (max e.n (cut m + 1).toNat)) q')]) := by
  have hc : 0 ≤ cut m ∧ cut m ≤ 4000 := by simp only [cut]; omega
  have hsz := hs.sized
  (refine Ct.of_run Tryd.func23 rfl Tryd.ntmps23 rfl (Nat.le_of_ble_eq_true rfl) ?_)
  (repeat first | refine G1 ?_ | refine G2 ?_ | refine G3 ?_ | refine G4 ?_ | refine G5 rfl ?_ | refine G6 rfl ?_ | refine G7 rfl ?_)
  (focus (refine R0 ?_; refine lM ?_; refine lN ?_; refine lG ?_; refine lL ?_; refine lM ?_; refine lc [] rfl rfl (fun _ hle hA => prop_grow_ct _ q.bp e.p q.qp m e.n hsz) ?_; intro v9; (try dsimp only [List.cons_append, List.nil_append, List.append_nil]); (repeat (refine RunL.unpu fun h9 => ?_; try subst h9)); refine R1 ?_; rotate_left))

  (repeat first | refine G1 ?_ | refine G2 ?_ | refine G3 ?_ | refine G4 ?_ | refine G5 rfl ?_ | refine G6 rfl ?_ | refine G7 rfl ?_)
  refine Run.unhex fun qp => Run.flat ?_
  ((dsimp only [PropF, PropS.grown, HAppend.hAppend, Append.append, List.append, List.cons_append, List.nil_append, List.append_nil]); (try simp only [List.append_eq]))
  (repeat first | refine G1 ?_ | refine G2 ?_ | refine G3 ?_ | refine G4 ?_ | refine G5 rfl ?_ | refine G6 rfl ?_ | refine G7 rfl ?_)
  (focus (refine R0 ?_; refine lM ?_; refine lN ?_; refine lG ?_; refine lL ?_; refine lM ?_; refine lc [] rfl rfl (fun _ hle hA => grow_ct _ q.bh e.n e.inn m) ?_; intro v15; (try dsimp only [List.cons_append, List.nil_append, List.append_nil]); (repeat (refine RunL.unpu fun h15 => ?_; try subst h15)); refine R1 ?_; rotate_left))

  (repeat first | refine G1 ?_ | refine G2 ?_ | refine G3 ?_ | refine G4 ?_ | refine G5 rfl ?_ | refine G6 rfl ?_ | refine G7 rfl ?_)
  refine Run.loopI (X := Nat × SV) (fun x => [(0, ptr b), (1, int m)])
    (fun x => pu (e.saved.length ≤ x.1 ∧ x.1 ≤ max e.n (cut m + 1).toNat) :: EngF b { e.grown (max e.n (cut m + 1).toNat) with saved := pad e.saved x.1 0 } { q with qp := qp, vs := x.2 })
    (fun x => max e.n 5000 - x.1) (e.saved.length, q.vs) (by (repeat (first | exact Sub.nil _ | refine Sub.cons rfl ?_))) ?_ ?_
  · rw [pad_self e.saved e.saved.length 0 (Nat.le_refl _)]
    have := hs.saved
    (focus ((repeat first | refine E1 ?_ ?_ | refine E2 ?_ | refine E3 ?_ | refine E4 ?_ | refine E5 ?_ | refine E6 ?_ | refine E7 ?_ | refine E8 ?_); exact E9; all_goals try first | rfl | assumption | omega))
  · rintro ⟨k, vs⟩ ih
    refine Run.unpu fun hk => ?_
    dsimp only at hk ⊢
    have hl1 : (pad e.saved k 0).length = k := by rw [length_pad]; omega
    have hl2 : (pad e.p.vals (max e.n (cut m + 1).toNat) 0).length = max e.n (cut m + 1).toNat := by rw [length_pad, hsz.vals]; omega
    refine Run.i64 (xs := pad e.p.level (max e.n (cut m + 1).toNat) (-1)) (by (first | exact Reads.rhoArr (by assumption) | exact Reads.arr (by (repeat (first | with_reducible exact Pick.here | with_reducible apply Pick.there))) | exact Reads.rho (by assumption))) fun h64 => ?_
    rw [length_pad, hsz.level] at h64
    (repeat first | refine G1 ?_ | refine G2 ?_ | refine G3 ?_ | refine G4 ?_ | refine G5 rfl ?_ | refine G6 rfl ?_ | refine G7 rfl ?_)
    (focus (refine Run.planS mixed (.take 0 (.take 1 (.take 2 (.take 3 (.take 4 (.take 5 (.take 6 (.take 7 (.take 8 (.alt 9 (.take 10 (.done)) (.nomore))))))))))) [(some 16, [0], []), (some 17, [16], [0]), (some 18, [17], [1]), (some 19, [18], [2]), (some 20, [19], [3]), (some 21, [0], []), (some 22, [21], [5]), (some 23, [22], [6]), (some 24, [23], [7]), (some 25, [24], [8]), (some 26, [20, 25], [4, 9])] (by kernel_rfl) (by kernel_rfl) (by kernel_rfl) ?_; refine dM rfl ?_; refine dN rfl ?_; refine dG rfl ?_; refine dL rfl ?_; refine dE rfl ?_; refine dM rfl ?_; refine dN rfl ?_; refine dG rfl ?_; refine dL rfl ?_; refine R3 ?_; refine de [(7, _), (6, _), (5, _), (4, _), (3, _), (2, _), (1, _), (0, _)] rfl (by exact Dcl (PropF q.bp (e.p.grown (max e.n (cut m + 1).toNat)) qp) rfl rfl (fun _ hle hA => prop_vars_ct _ q.bp (e.p.grown (max e.n (cut m + 1).toNat)) qp hA)) rfl ?_ ?_; (focus (intro _; (try dsimp only [List.cons_append, List.nil_append, List.append_nil]); refine sG rfl ?_; refine sN rfl ?_; refine sM rfl ?_; refine sE rfl ?_; refine sL rfl ?_; refine sG rfl ?_; refine sN rfl ?_; refine sM rfl ?_; exact Still.nil)); intro v25; (try dsimp only [List.cons_append, List.nil_append, List.append_nil]); (repeat (refine RunD.unpu fun h25 => ?_; try subst h25)); refine dv rfl (by exact Yle) ?_; refine R2 ?_; rotate_left))

    refine Run.condP rfl (fun c => ?_) (fun c => ?_)
    · (repeat first | refine G1 ?_ | refine G2 ?_ | refine G3 ?_ | refine G4 ?_ | refine G5 rfl ?_ | refine G6 rfl ?_ | refine G7 rfl ?_)
      (focus (refine R0 ?_; refine lM ?_; refine lM ?_; refine lN ?_; refine lG ?_; refine lL ?_; refine leS (by exact Db1) ?_; intro v32; (try dsimp only [List.cons_append, List.nil_append, List.append_nil]); refine leS (by exact Dap) ?_; intro v33; (try dsimp only [List.cons_append, List.nil_append, List.append_nil]); (repeat (refine RunL.unpu fun h33 => ?_; try subst h33)); refine lN ?_; refine lG ?_; refine ln (by exact Dst) ?_; intro _; (try dsimp only [List.cons_append, List.nil_append, List.append_nil]); refine R1 ?_; rotate_left))

      (repeat first | refine G1 ?_ | refine G2 ?_ | refine G3 ?_ | refine G4 ?_ | refine G5 rfl ?_ | refine G6 rfl ?_ | refine G7 rfl ?_)
      refine Run.weaken (by (repeat (first | exact Sub.nil _ | refine Sub.cons rfl ?_))) ?_ (ih (k + 1, v33) (by dsimp only; omega))
      dsimp only
      rw [← pad_succ e.saved k _ (by omega)]
      (focus ((repeat first | refine E1 ?_ ?_ | refine E2 ?_ | refine E3 ?_ | refine E4 ?_ | refine E5 ?_ | refine E6 ?_ | refine E7 ?_ | refine E8 ?_); exact E9; all_goals try first | rfl | assumption | omega))
    · (repeat first | refine G1 ?_ | refine G2 ?_ | refine G3 ?_ | refine G4 ?_ | refine G5 rfl ?_ | refine G6 rfl ?_ | refine G7 rfl ?_)
      (refine Run.fin0 Tryd.results23 ?_)
      have e1 : k = max e.n (cut m + 1).toNat := by omega
      subst e1
      refine Ent.hex { q with qp := qp, vs := vs } (Ent.flat ?_)
      (focus ((repeat first | refine E1 ?_ ?_ | refine E2 ?_ | refine E3 ?_ | refine E4 ?_ | refine E5 ?_ | refine E6 ?_ | refine E7 ?_ | refine E8 ?_); exact E9; all_goals try first | rfl | assumption | omega))
theorem paced_ct (ρ : Frag) (bpa : Nat) (s : PaceS) (qa : PaceV) (m : Int) :
    Ct Tryd.prog 33 [int m, ptr bpa] ρ (PaceF bpa s qa) (fun r => [hex fun b => hex fun q => stars (pu (r = ptr b) :: EngF b (EngS.grown ⟨PropS.none 1, 1, fun x => 1 ≤ x, s, [], [], [], [], 0, 16⟩ (max 1 (cut m + 1).toNat)) q)]) := by
  (refine Ct.of_run Tryd.func33 rfl Tryd.ntmps33 rfl (Nat.le_of_ble_eq_true rfl) ?_)
  (repeat first | refine G1 ?_ | refine G2 ?_ | refine G3 ?_ | refine G4 ?_ | refine G5 rfl ?_ | refine G6 rfl ?_ | refine G7 rfl ?_)
  (focus (refine R0 ?_; refine lA ?_; refine R1 ?_; rotate_left))

  (repeat first | refine G1 ?_ | refine G2 ?_ | refine G3 ?_ | refine G4 ?_ | refine G5 rfl ?_ | refine G6 rfl ?_ | refine G7 rfl ?_)
  (focus (refine R0 ?_; refine lc [] rfl rfl (fun _ hle hA => prop_new_ct _ 0) ?_; intro v6; (try dsimp only [List.cons_append, List.nil_append, List.append_nil]); (repeat (refine RunL.unpu fun h6 => ?_; try subst h6)); (refine RunL.unhex fun bp => RunL.unhex fun qp => RunL.flat ?_; ((dsimp only [PropF, HAppend.hAppend, Append.append, List.append, List.cons_append, List.nil_append, List.append_nil]); (try simp only [List.append_eq])); refine RunL.unpu fun h => ?_; subst h); refine lc [] rfl rfl (fun _ hle hA => new_ct _ 0) ?_; intro v7; (try dsimp only [List.cons_append, List.nil_append, List.append_nil]); (repeat (refine RunL.unpu fun h7 => ?_; try subst h7)); (refine RunL.unhex fun bh => RunL.flat ?_; ((dsimp only [PropF, HAppend.hAppend, Append.append, List.append, List.cons_append, List.nil_append, List.append_nil]); (try simp only [List.append_eq])); refine RunL.unpu fun h => ?_; subst h); refine lM ?_; refine lv (by exact Ybd4 rfl rfl rfl rfl) ?_; refine le (by exact Dbx) ?_; intro v10; (try dsimp only [List.cons_append, List.nil_append, List.append_nil]); refine RunL.unhex fun b10 => ?_; refine RunL.unhex fun hb => ?_; subst hb; refine lA ?_; refine R1 ?_; rotate_left))

  (repeat first | refine G1 ?_ | refine G2 ?_ | refine G3 ?_ | refine G4 ?_ | refine G5 rfl ?_ | refine G6 rfl ?_ | refine G7 rfl ?_)
  refine Run.weaken (e' := [(0, int m), (5, ptr b10)]) (L' := EngF b10 ⟨PropS.none 1, 1, fun x => 1 ≤ x, s, [], [], [], [], 0, 16⟩ ⟨bp, bh, bpa, qp, qa, nilS, nilS, nilS, []⟩) (by (repeat (first | exact Sub.nil _ | refine Sub.cons rfl ?_))) (by
    rw [show max 1 (cut 0 + 1).toNat = 1 from rfl, show (cut 0 + 1).toNat = 1 from rfl]
    (focus ((repeat first | refine E1 ?_ ?_ | refine E2 ?_ | refine E3 ?_ | refine E4 ?_ | refine E5 ?_ | refine E6 ?_ | refine E7 ?_ | refine E8 ?_); exact E9; all_goals try first | rfl | assumption | omega))) ?_
  (repeat first | refine G1 ?_ | refine G2 ?_ | refine G3 ?_ | refine G4 ?_ | refine G5 rfl ?_ | refine G6 rfl ?_ | refine G7 rfl ?_)
  (focus (refine R0 ?_; refine lM ?_; refine lM ?_; refine lc [] rfl rfl (fun _ hle hA => eng_grow_ct _ b10 ⟨PropS.none 1, 1, fun x => 1 ≤ x, s, [], [], [], [], 0, 16⟩ ⟨bp, bh, bpa, qp, qa, nilS, nilS, nilS, []⟩ m ⟨⟨Nat.one_pos, rfl, rfl, rfl, rfl⟩, Nat.zero_le _⟩) ?_; intro v13; (try dsimp only [List.cons_append, List.nil_append, List.append_nil]); (repeat (refine RunL.unpu fun h13 => ?_; try subst h13)); refine R1 ?_; rotate_left))

  (repeat first | refine G1 ?_ | refine G2 ?_ | refine G3 ?_ | refine G4 ?_ | refine G5 rfl ?_ | refine G6 rfl ?_ | refine G7 rfl ?_)
  (focus (refine R0 ?_; refine lM ?_; refine lA ?_; refine R1 ?_; rotate_left))

  (repeat first | refine G1 ?_ | refine G2 ?_ | refine G3 ?_ | refine G4 ?_ | refine G5 rfl ?_ | refine G6 rfl ?_ | refine G7 rfl ?_)
  refine Run.unhex fun q => Run.flat ?_
  ((dsimp only [EngF, HAppend.hAppend, Append.append, List.append, List.cons_append, List.nil_append, List.append_nil]); (try simp only [List.append_eq]))
  (refine Run.ret1 Tryd.results33 (by rfl) ?_)
  refine Ent.hex b10 (Ent.hex q (Ent.flat (Ent.pu rfl ?_)))
  (focus ((repeat first | refine E1 ?_ ?_ | refine E2 ?_ | refine E3 ?_ | refine E4 ?_ | refine E5 ?_ | refine E6 ?_ | refine E7 ?_ | refine E8 ?_); exact E9; all_goals try first | rfl | assumption | omega))
end Go.Proofs.YtfldnnpcdjabnaaDoor
