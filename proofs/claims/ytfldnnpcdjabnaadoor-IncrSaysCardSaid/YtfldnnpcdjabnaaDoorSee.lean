/-
  What is told of errors: incr's Add of what may not be; skolemsee, skolemref's faults.
-/
import Derived.Test.YtfldnnpcdjabnaaDoorIncr
set_option linter.unusedVariables false
set_option linter.unusedSimpArgs false
namespace Go.Proofs.YtfldnnpcdjabnaaDoor
open Go
/-- The errors of api, in a slice. -/
abbrev KErr (er : Nat → Addr) : EK Nat := ⟨31, 1, 16, fun k => [errV er k]⟩
theorem okKErr (er : Nat → Addr) : EKOk Tryd.prog (KErr er) := ⟨fun _ => rfl, fun x u hu => by simp at hu; subst hu; rfl, Nat.one_pos, Nat.lt_of_sub_eq_succ (n := 0) (m := 16) rfl, Nat.le_of_ble_eq_true rfl, Nat.le_of_ble_eq_true rfl, _, _, (by kernel_rfl : Tryd.prog.info? 31 = some Tryd.t31), rfl, rfl, rfl, rfl⟩
instance (er : Nat → Addr) : EKOk Tryd.prog (KErr er) := okKErr er
abbrev sents : List Nat := [2, 1, 3, 0, 4, 5, 6]
attribute [local irreducible] Yields Does Run RunL AnyL Ct Reads Peek PeekN Poke Pick Fits Sub Ent Still Arr RArr Cells el stars In
theorem adds_bad_ct (ρ : Frag) (b : Nat) (s : SolS) (q : SolV) (l : SV) (ls : List SV) (xs : List (List Int)) (er : Nat → Addr) (hs : SolOk s) (hl : In (RArr KSl l.v ls) ρ) (hr : Rows KInt ρ ls xs) (hn : xs.length ≤ 20000) (hE : Errs ρ er) (hbad : xs.all (rowOk s.vars) = false) :
    Ct Tryd.prog 24 [ptr b, l.v] ρ (SolF b s q) (fun r => pu (r = errV er 0) :: SolF b s q) := by
  have hm : mayV er s xs = errV er 0 := by simp [mayV, hbad]
  (refine Ct.of_run Tryd.func24 rfl Tryd.ntmps24 rfl (Nat.le_of_ble_eq_true rfl) ?_)
  (repeat first | refine G1 ?_ | refine G2 ?_ | refine G3 ?_ | refine G4 ?_ | refine G5 rfl ?_ | refine G6 rfl ?_ | refine G7 rfl ?_)
  (focus (refine R0 ?_; refine lA ?_; refine R1 ?_; rotate_left))

  (repeat first | refine G1 ?_ | refine G2 ?_ | refine G3 ?_ | refine G4 ?_ | refine G5 rfl ?_ | refine G6 rfl ?_ | refine G7 rfl ?_)
  (focus (refine R0 ?_; refine lM ?_; refine lM ?_; refine lc (SolF b s q) rfl rfl (fun _ hle hA => may_ct _ b s q l ls xs er hs hA (hl.mono hle) (hr.mono hle) hn (hE.mono hle)) ?_; intro v10; (try dsimp only [List.cons_append, List.nil_append, List.append_nil]); (repeat (refine RunL.unpu fun h10 => ?_; try subst h10)); rw [hm]; refine lA ?_; refine R1 ?_; rotate_left))

  (repeat first | refine G1 ?_ | refine G2 ?_ | refine G3 ?_ | refine G4 ?_ | refine G5 rfl ?_ | refine G6 rfl ?_ | refine G7 rfl ?_)
  (repeat first | refine G1 ?_ | refine G2 ?_ | refine G3 ?_ | refine G4 ?_ | refine G5 rfl ?_ | refine G6 rfl ?_ | refine G7 rfl ?_)
  (focus (refine R0 ?_; refine lM ?_; refine lv (by first | exact Yields.neqPN rfl | exact Yields.neqSN rfl | exact Yields.neqIN rfl | exact Yields.neqIV rfl) ?_; refine R1 ?_; rotate_left))

  (repeat first | refine G1 ?_ | refine G2 ?_ | refine G3 ?_ | refine G4 ?_ | refine G5 rfl ?_ | refine G6 rfl ?_ | refine G7 rfl ?_)
  (focus (refine R0 ?_; refine lM ?_; refine lA ?_; refine R1 ?_; rotate_left))

  (repeat first | refine G1 ?_ | refine G2 ?_ | refine G3 ?_ | refine G4 ?_ | refine G5 rfl ?_ | refine G6 rfl ?_ | refine G7 rfl ?_)
  (refine Run.ret1 Tryd.results24 (by rfl) ?_)
  (focus ((repeat first | refine E1 ?_ ?_ | refine E2 ?_ | refine E3 ?_ | refine E4 ?_ | refine E5 ?_ | refine E6 ?_ | refine E7 ?_ | refine E8 ?_); exact E9; all_goals try first | rfl | assumption | omega))
theorem add_bad_ct (ρ : Frag) (b : Nat) (s : SolS) (q : SolV) (c : SV) (x : List Int) (er : Nat → Addr) (hs : SolOk s) (hc : In (RArr KInt c.v x) ρ) (hE : Errs ρ er) (hbad : rowOk s.vars x = false) :
    Ct Tryd.prog 9 [ptr b, c.v] ρ (SolF b s q) (fun r => pu (r = errV er 0) :: SolF b s q) := by
  (refine Ct.of_run Tryd.func9 rfl Tryd.ntmps9 rfl (Nat.le_of_ble_eq_true rfl) ?_)
  (repeat first | refine G1 ?_ | refine G2 ?_ | refine G3 ?_ | refine G4 ?_ | refine G5 rfl ?_ | refine G6 rfl ?_ | refine G7 rfl ?_)
  (focus (refine R0 ?_; refine lA ?_; refine R1 ?_; rotate_left))

  (repeat first | refine G1 ?_ | refine G2 ?_ | refine G3 ?_ | refine G4 ?_ | refine G5 rfl ?_ | refine G6 rfl ?_ | refine G7 rfl ?_)
  (focus (refine R0 ?_; refine lM ?_; refine lM ?_; refine leS (by exact Db1) ?_; intro v7; (try dsimp only [List.cons_append, List.nil_append, List.append_nil]); refine lc [Arr KSl v7.v [c]] rfl rfl (fun _ hle hA => adds_bad_ct _ b s q v7 [c] [x] er hs hA.stars_one.read (Rows.one (hc.mono hle)) (by simp) (hE.mono hle) (by simp [hbad])) ?_; intro v8; (try dsimp only [List.cons_append, List.nil_append, List.append_nil]); (repeat (refine RunL.unpu fun h8 => ?_; try subst h8)); refine lA ?_; refine R1 ?_; rotate_left))

  (repeat first | refine G1 ?_ | refine G2 ?_ | refine G3 ?_ | refine G4 ?_ | refine G5 rfl ?_ | refine G6 rfl ?_ | refine G7 rfl ?_)
  (refine Run.ret1 Tryd.results9 (by rfl) ?_)
  (focus ((repeat first | refine E1 ?_ ?_ | refine E2 ?_ | refine E3 ?_ | refine E4 ?_ | refine E5 ?_ | refine E6 ?_ | refine E7 ?_ | refine E8 ?_); exact E9; all_goals try first | rfl | assumption | omega))
theorem all_ct (ρ : Frag) (b : Nat) (s : SolS) (q : SolV) (hs : SolOk s) (hR : In (stars (SolF b s q)) ρ) :
    Ct Tryd.prog 12 [ptr b] ρ [] (fun r => [hex fun t : SV => hex fun ts : List SV => stars [pu (r = .agg #[int s.vars, t.v]), Arr KSl t.v ts, Bag KInt ts s.all]]) := by
  have hC := hR.stars_cons.1
  have hva : In (Arr KSl q.va.v q.ss) ρ := hR.stars_cons.2.stars_cons.1
  have hbag : In (Bag KInt q.ss s.all) ρ := hR.stars_cons.2.stars_cons.2.stars_cons.1
  have h3 := hs.size
  (refine Ct.of_run Tryd.func12 rfl Tryd.ntmps12 rfl (Nat.le_of_ble_eq_true rfl) ?_)
  (repeat first | refine G1 ?_ | refine G2 ?_ | refine G3 ?_ | refine G4 ?_ | refine G5 rfl ?_ | refine G6 rfl ?_ | refine G7 rfl ?_)
  (focus (refine R0 ?_; refine le (by exact Dal Tryd.zeroValue37) ?_; intro v2; (try dsimp only [List.cons_append, List.nil_append, List.append_nil]); refine RunL.unhex fun b2 => ?_; refine RunL.unhex fun hb => ?_; subst hb; refine R1 ?_; rotate_left))

  (repeat first | refine G1 ?_ | refine G2 ?_ | refine G3 ?_ | refine G4 ?_ | refine G5 rfl ?_ | refine G6 rfl ?_ | refine G7 rfl ?_)
  (focus (refine Run.planS mixed (.take 0 (.take 1 (.take 2 (.take 3 (.take 4 (.take 5 (.take 6 (.take 7 (.take 8 (.take 9 (.alt 10 (.take 11 (.alt 12 (.done) (.nomore))) (.nomore)))))))))))) [(some 3, [0], []), (some 4, [3], [0]), (some 5, [4], [1]), (some 6, [5], [2]), (some 7, [6], [3]), (some 8, [0], []), (some 9, [8], [5]), (some 10, [9], [6]), (some 11, [10], [7]), (some 12, [11], [8]), (some 13, [12], [9]), (some 14, [7, 13], [4, 10]), (none, [2, 14], [11, 10, 0, 1, 2, 3, 4, 5, 6, 7, 8, 9, 10, 11])] (by kernel_rfl) (by kernel_rfl) (by kernel_rfl) ?_; refine dM rfl ?_; refine dN rfl ?_; refine dG rfl ?_; refine dG rfl ?_; refine dL rfl ?_; refine dM rfl ?_; refine dN rfl ?_; refine dG rfl ?_; refine dG rfl ?_; refine dL rfl ?_; refine R3 ?_; refine de [(8, _), (7, _), (6, _), (5, _), (4, _), (3, _), (2, _), (1, _), (0, _)] rfl (by exact Dcl [] rfl rfl (fun _ hle hA => cloneAll_ct _ q.va q.ss s.all (hva.read.mono hle) ((Rows.of_bag hbag).mono hle) (by omega))) rfl ?_ ?_; (focus (intro _; (try dsimp only [List.cons_append, List.nil_append, List.append_nil]); refine sG rfl ?_; refine sG rfl ?_; refine sN rfl ?_; refine sM rfl ?_; refine sL rfl ?_; refine sG rfl ?_; refine sG rfl ?_; refine sN rfl ?_; refine sM rfl ?_; exact Still.nil)); intro v13; (try dsimp only [List.cons_append, List.nil_append, List.append_nil]); (repeat (refine RunD.unpu fun h13 => ?_; try subst h13)); (refine RunD.unhex fun t => RunD.unhex fun ts => RunD.flat ?_; ((dsimp only [EngF, HAppend.hAppend, Append.append, List.append, List.cons_append, List.nil_append, List.append_nil]); (try simp only [List.append_eq])); refine RunD.unpu fun h => ?_; subst h); refine dv rfl (by exact Ybd2 rfl rfl) ?_; refine R3 ?_; refine dn [] rfl (by exact Dsa) rfl ?_ ?_; (focus (intro _; (try dsimp only [List.cons_append, List.nil_append, List.append_nil]); exact Still.nil)); intro _; (try dsimp only [List.cons_append, List.nil_append, List.append_nil]); refine R2 ?_; rotate_left))

  (repeat first | refine G1 ?_ | refine G2 ?_ | refine G3 ?_ | refine G4 ?_ | refine G5 rfl ?_ | refine G6 rfl ?_ | refine G7 rfl ?_)
  refine Run.retC1 Tryd.results12 (b := b2) (T' := 37) (cs := [int s.vars, t.v]) rfl (by (first | exact Reads.rho (by assumption) | exact Reads.pick (by (repeat (first | with_reducible exact Pick.here | with_reducible apply Pick.there))))) rfl ?_
  refine Ent.hex t (Ent.hex ts (Ent.flat (Ent.pu rfl ?_)))
  (focus ((repeat first | refine E1 ?_ ?_ | refine E2 ?_ | refine E3 ?_ | refine E4 ?_ | refine E5 ?_ | refine E6 ?_ | refine E7 ?_ | refine E8 ?_); exact E9; all_goals try first | rfl | assumption | omega))
/-- A fault, as plain data. -/
abbrev faultV (code : Int) (placed : Bool) (pos : Int) : Value := .agg #[int code, .bool placed, int pos]
theorem bare_ct (ρ : Frag) (c : Int) : Ct Tryd.prog 26 [int c] ρ [] (fun r => [pu (r = faultV c false 0)]) := by
  (refine Ct.of_run Tryd.func26 rfl Tryd.ntmps26 rfl (Nat.le_of_ble_eq_true rfl) ?_)
  (repeat first | refine G1 ?_ | refine G2 ?_ | refine G3 ?_ | refine G4 ?_ | refine G5 rfl ?_ | refine G6 rfl ?_ | refine G7 rfl ?_)
  (focus (refine R0 ?_; refine le (by exact Dal Tryd.zeroValue61) ?_; intro v2; (try dsimp only [List.cons_append, List.nil_append, List.append_nil]); refine RunL.unhex fun b2 => ?_; refine RunL.unhex fun hb => ?_; subst hb; refine R1 ?_; rotate_left))

  (repeat first | refine G1 ?_ | refine G2 ?_ | refine G3 ?_ | refine G4 ?_ | refine G5 rfl ?_ | refine G6 rfl ?_ | refine G7 rfl ?_)
  (focus (refine R0 ?_; refine lM ?_; refine lv (by exact Ybd1 rfl) ?_; refine ln (by exact Dsa) ?_; intro _; (try dsimp only [List.cons_append, List.nil_append, List.append_nil]); refine R1 ?_; rotate_left))

  (repeat first | refine G1 ?_ | refine G2 ?_ | refine G3 ?_ | refine G4 ?_ | refine G5 rfl ?_ | refine G6 rfl ?_ | refine G7 rfl ?_)
  refine Run.retC1 Tryd.results26 (b := b2) (T' := 61) (cs := [int c, .bool false, int 0]) rfl (by (first | exact Reads.rho (by assumption) | exact Reads.pick (by (repeat (first | with_reducible exact Pick.here | with_reducible apply Pick.there))))) rfl ?_
  (focus ((repeat first | refine E1 ?_ ?_ | refine E2 ?_ | refine E3 ?_ | refine E4 ?_ | refine E5 ?_ | refine E6 ?_ | refine E7 ?_ | refine E8 ?_); exact E9; all_goals try first | rfl | assumption | omega))
theorem none_ct (ρ : Frag) : Ct Tryd.prog 56 [] ρ [] (fun r => [pu (r = faultV 0 false 0)]) := by
  (refine Ct.of_run Tryd.func56 rfl Tryd.ntmps56 rfl (Nat.le_of_ble_eq_true rfl) ?_)
  (repeat first | refine G1 ?_ | refine G2 ?_ | refine G3 ?_ | refine G4 ?_ | refine G5 rfl ?_ | refine G6 rfl ?_ | refine G7 rfl ?_)
  (focus (refine R0 ?_; refine le (by exact Dal Tryd.zeroValue61) ?_; intro v0; (try dsimp only [List.cons_append, List.nil_append, List.append_nil]); refine RunL.unhex fun b0 => ?_; refine RunL.unhex fun hb => ?_; subst hb; refine R1 ?_; rotate_left))

  (repeat first | refine G1 ?_ | refine G2 ?_ | refine G3 ?_ | refine G4 ?_ | refine G5 rfl ?_ | refine G6 rfl ?_ | refine G7 rfl ?_)
  (focus (refine R0 ?_; refine lv (by exact Ybd0) ?_; refine ln (by exact Dsa) ?_; intro _; (try dsimp only [List.cons_append, List.nil_append, List.append_nil]); refine R1 ?_; rotate_left))

  (repeat first | refine G1 ?_ | refine G2 ?_ | refine G3 ?_ | refine G4 ?_ | refine G5 rfl ?_ | refine G6 rfl ?_ | refine G7 rfl ?_)
  refine Run.retC1 Tryd.results56 (b := b0) (T' := 61) (cs := [int 0, .bool false, int 0]) rfl (by (first | exact Reads.rho (by assumption) | exact Reads.pick (by (repeat (first | with_reducible exact Pick.here | with_reducible apply Pick.there))))) rfl ?_
  (focus ((repeat first | refine E1 ?_ ?_ | refine E2 ?_ | refine E3 ?_ | refine E4 ?_ | refine E5 ?_ | refine E6 ?_ | refine E7 ?_ | refine E8 ?_); exact E9; all_goals try first | rfl | assumption | omega))
theorem alike_ct (ρ : Frag) (er : Nat → Addr) (m n : Nat) (hm : m < 7) (hn : n < 7) (hE : Errs ρ er) : Ct Tryd.prog 68 [errV er m, errV er n] ρ [] (fun r => [pu (r = .bool (decide (m = n)))]) := by
  (refine Ct.of_run Tryd.func68 rfl Tryd.ntmps68 rfl (Nat.le_of_ble_eq_true rfl) ?_)
  (repeat first | refine G1 ?_ | refine G2 ?_ | refine G3 ?_ | refine G4 ?_ | refine G5 rfl ?_ | refine G6 rfl ?_ | refine G7 rfl ?_)
  (focus (refine R0 ?_; refine lA ?_; refine R1 ?_; rotate_left))

  (repeat first | refine G1 ?_ | refine G2 ?_ | refine G3 ?_ | refine G4 ?_ | refine G5 rfl ?_ | refine G6 rfl ?_ | refine G7 rfl ?_)
  (focus (refine R0 ?_; refine lM ?_; refine lv (by first | exact Yields.eqlPN rfl | exact Yields.eqlSN rfl | exact Yields.eqlIN rfl | exact Yields.eqlIV rfl) ?_; refine lM ?_; refine lT ?_; refine lM ?_; refine lT ?_; refine lv (by first | exact Yields.eqlPN rfl | exact Yields.eqlSN rfl | exact Yields.eqlIN rfl | exact Yields.eqlIV rfl) ?_; refine lv (by first | exact YpT | exact YpF | exact Yields.pickB rfl rfl rfl) ?_; refine R1 ?_; rotate_left))

  (repeat first | refine G1 ?_ | refine G2 ?_ | refine G3 ?_ | refine G4 ?_ | refine G5 rfl ?_ | refine G6 rfl ?_ | refine G7 rfl ?_)
  (repeat first | refine G1 ?_ | refine G2 ?_ | refine G3 ?_ | refine G4 ?_ | refine G5 rfl ?_ | refine G6 rfl ?_ | refine G7 rfl ?_)
  (focus (refine R0 ?_; refine lM ?_; refine lM ?_; refine lv (by exact YeE hE hm hn rfl rfl Tryd.underlying31 Tryd.underlying140 (by kernel_rfl : Tryd.prog.info? 140 = some Tryd.t140) rfl (by kernel_rfl : Tryd.prog.info? 160 = some Tryd.t160) (by decide)) ?_; refine lA ?_; refine R1 ?_; rotate_left))

  (repeat first | refine G1 ?_ | refine G2 ?_ | refine G3 ?_ | refine G4 ?_ | refine G5 rfl ?_ | refine G6 rfl ?_ | refine G7 rfl ?_)
  (refine Run.ret1 Tryd.results68 (by rfl) ?_)
  (focus ((repeat first | refine E1 ?_ ?_ | refine E2 ?_ | refine E3 ?_ | refine E4 ?_ | refine E5 ?_ | refine E6 ?_ | refine E7 ?_ | refine E8 ?_); exact E9; all_goals try first | rfl | assumption | omega))
theorem sentinels_ct (ρ : Frag) (er : Nat → Addr) (hE : Errs ρ er) : Ct Tryd.prog 67 [] ρ [] (fun r => [hex fun t : SV => stars [pu (r = t.v), Arr (KErr er) t.v sents]]) := by
  (refine Ct.of_run Tryd.func67 rfl Tryd.ntmps67 rfl (Nat.le_of_ble_eq_true rfl) ?_)
  (repeat first | refine G1 ?_ | refine G2 ?_ | refine G3 ?_ | refine G4 ?_ | refine G5 rfl ?_ | refine G6 rfl ?_ | refine G7 rfl ?_)
  (focus (refine R0 ?_; refine lv (by exact YaN) ?_; refine R1 ?_; rotate_left))

  (repeat first | refine G1 ?_ | refine G2 ?_ | refine G3 ?_ | refine G4 ?_ | refine G5 rfl ?_ | refine G6 rfl ?_ | refine G7 rfl ?_)
  focus
    refine R0 ?_
    refine lv (by exact YlG (Errs.h (by assumption) _ (by decide))) ?_
    refine lv (by exact YlG (Errs.h (by assumption) _ (by decide))) ?_
    refine lv (by exact YlG (Errs.h (by assumption) _ (by decide))) ?_
    refine lv (by exact YlG (Errs.h (by assumption) _ (by decide))) ?_
    refine lv (by exact YlG (Errs.h (by assumption) _ (by decide))) ?_
    refine lv (by exact YlG (Errs.h (by assumption) _ (by decide))) ?_
    refine lv (by exact YlG (Errs.h (by assumption) _ (by decide))) ?_
    refine leS (by exact Does.buildSlice (K := KErr er) (xs := sents) (os := [.tmp 1, .tmp 2, .tmp 3, .tmp 4, .tmp 5, .tmp 6, .tmp 7]) (vs := sents.map (errV er)) rfl (by decide) rfl rfl rfl (fun j x v hx hv => by
      rw [List.getElem?_map, hx] at hv; simp at hv; subst hv; rfl)) ?_
    intro v8
    try dsimp only [List.cons_append, List.nil_append, List.append_nil]
    refine lA ?_
    refine R1 ?_
    rotate_left
  (repeat first | refine G1 ?_ | refine G2 ?_ | refine G3 ?_ | refine G4 ?_ | refine G5 rfl ?_ | refine G6 rfl ?_ | refine G7 rfl ?_)
  (refine Run.ret1 Tryd.results67 (by rfl) ?_)
  refine Ent.hex v8 (Ent.flat ?_)
  (focus ((repeat first | refine E1 ?_ ?_ | refine E2 ?_ | refine E3 ?_ | refine E4 ?_ | refine E5 ?_ | refine E6 ?_ | refine E7 ?_ | refine E8 ?_); exact E9; all_goals try first | rfl | assumption | omega))
theorem sents_lt : ∀ k : Int, 0 ≤ k → k < 7 → rd sents k < 7 := fun k h0 h1 => by
  have : k = 0 ∨ k = 1 ∨ k = 2 ∨ k = 3 ∨ k = 4 ∨ k = 5 ∨ k = 6 := by omega
  rcases this with rfl | rfl | rfl | rfl | rfl | rfl | rfl <;> decide
theorem sents_inj : ∀ j k : Int, 0 ≤ j → j < 7 → 0 ≤ k → k < 7 → rd sents j = rd sents k → j = k := fun j k h0 h1 h2 h3 => by
  have a : j = 0 ∨ j = 1 ∨ j = 2 ∨ j = 3 ∨ j = 4 ∨ j = 5 ∨ j = 6 := by omega
  have b : k = 0 ∨ k = 1 ∨ k = 2 ∨ k = 3 ∨ k = 4 ∨ k = 5 ∨ k = 6 := by omega
  rcases a with rfl | rfl | rfl | rfl | rfl | rfl | rfl <;> rcases b with rfl | rfl | rfl | rfl | rfl | rfl | rfl <;> decide
theorem sentinel_ct (ρ : Frag) (er : Nat → Addr) (i : Int) (hi : 0 ≤ i) (hi' : i < 7) (hE : Errs ρ er) : Ct Tryd.prog 57 [errV er (rd sents i)] ρ [] (fun r => [pu (r = int (101 + i))]) := by
  (refine Ct.of_run Tryd.func57 rfl Tryd.ntmps57 rfl (Nat.le_of_ble_eq_true rfl) ?_)
  (repeat first | refine G1 ?_ | refine G2 ?_ | refine G3 ?_ | refine G4 ?_ | refine G5 rfl ?_ | refine G6 rfl ?_ | refine G7 rfl ?_)
  (focus (refine R0 ?_; refine lA ?_; refine R1 ?_; rotate_left))

  (repeat first | refine G1 ?_ | refine G2 ?_ | refine G3 ?_ | refine G4 ?_ | refine G5 rfl ?_ | refine G6 rfl ?_ | refine G7 rfl ?_)
  (focus (refine R0 ?_; refine lc [] rfl rfl (fun _ hle hA => sentinels_ct _ er (hE.mono hle)) ?_; intro v5; (try dsimp only [List.cons_append, List.nil_append, List.append_nil]); (repeat (refine RunL.unpu fun h5 => ?_; try subst h5)); (refine RunL.unhex fun t => RunL.flat ?_; ((dsimp only [EngF, HAppend.hAppend, Append.append, List.append, List.cons_append, List.nil_append, List.append_nil]); (try simp only [List.append_eq])); refine RunL.unpu fun h => ?_; subst h); refine lA ?_; refine R1 ?_; rotate_left))

  (repeat first | refine G1 ?_ | refine G2 ?_ | refine G3 ?_ | refine G4 ?_ | refine G5 rfl ?_ | refine G6 rfl ?_ | refine G7 rfl ?_)
  (focus (refine R0 ?_; refine lA ?_; refine R1 ?_; rotate_left))

  (repeat first | refine G1 ?_ | refine G2 ?_ | refine G3 ?_ | refine G4 ?_ | refine G5 rfl ?_ | refine G6 rfl ?_ | refine G7 rfl ?_)
  refine Run.loopI (X := Int) (fun k => [(0, errV er (rd sents i)), (3, t.v), (4, int k)]) (fun k => [pu (0 ≤ k ∧ k ≤ i), Arr (KErr er) t.v sents]) (fun k => (10 - k).toNat) 0 (by (repeat (first | exact Sub.nil _ | refine Sub.cons rfl ?_))) ?_ ?_
  · (focus ((repeat first | refine E1 ?_ ?_ | refine E2 ?_ | refine E3 ?_ | refine E4 ?_ | refine E5 ?_ | refine E6 ?_ | refine E7 ?_ | refine E8 ?_); exact E9; all_goals try first | rfl | assumption | omega))
  · intro k ih
    refine Run.unpu fun hk => ?_
    obtain ⟨k0, k1⟩ := hk
    have hlen : sents.length = 7 := rfl
    have hlt := sents_lt k k0 (by omega)
    (repeat first | refine G1 ?_ | refine G2 ?_ | refine G3 ?_ | refine G4 ?_ | refine G5 rfl ?_ | refine G6 rfl ?_ | refine G7 rfl ?_)
    (focus (refine R0 ?_; refine lM ?_; refine lM ?_; refine lv (by exact Yields.len (K := KErr er) (hT := ⟨Tryd.underlying111⟩) rfl (by (first | exact Reads.rhoArr (by assumption) | exact Reads.arr (by (repeat (first | with_reducible exact Pick.here | with_reducible apply Pick.there))) | exact Reads.rho (by assumption)))) ?_; refine lv (by exact Ylt) ?_; refine R1 ?_; rotate_left))

    (repeat first | refine G1 ?_ | refine G2 ?_ | refine G3 ?_ | refine G4 ?_ | refine G5 rfl ?_ | refine G6 rfl ?_ | refine G7 rfl ?_)
    refine Run.condP rfl (fun c => ?_) (fun c => ?_)
    · (repeat first | refine G1 ?_ | refine G2 ?_ | refine G3 ?_ | refine G4 ?_ | refine G5 rfl ?_ | refine G6 rfl ?_ | refine G7 rfl ?_)
      (focus (refine R0 ?_; refine lM ?_; refine lM ?_; refine lM ?_; refine lv (by exact Yields.indexAddr (K := KErr er) (hT := ⟨Tryd.underlying111⟩) rfl rfl (by (first | exact Reads.rhoArr (by assumption) | exact Reads.arr (by (repeat (first | with_reducible exact Pick.here | with_reducible apply Pick.there))) | exact Reads.rho (by assumption))) (by omega) (by omega)) ?_; refine lL ?_; refine lc [] rfl rfl (fun _ hle hA => alike_ct _ er (rd sents i) (rd sents k) (sents_lt i hi hi') hlt (hE.mono hle)) ?_; intro v17; (try dsimp only [List.cons_append, List.nil_append, List.append_nil]); (repeat (refine RunL.unpu fun h17 => ?_; try subst h17)); refine R1 ?_; rotate_left))

      refine Run.condP rfl (fun c2 => ?_) (fun c2 => ?_)
      · have : i = k := sents_inj i k hi hi' k0 (by omega) c2
        subst this
        (repeat first | refine G1 ?_ | refine G2 ?_ | refine G3 ?_ | refine G4 ?_ | refine G5 rfl ?_ | refine G6 rfl ?_ | refine G7 rfl ?_)
        (focus (refine R0 ?_; refine lM ?_; refine lv (by exact Yad) ?_; refine lA ?_; refine R1 ?_; rotate_left))

        (repeat first | refine G1 ?_ | refine G2 ?_ | refine G3 ?_ | refine G4 ?_ | refine G5 rfl ?_ | refine G6 rfl ?_ | refine G7 rfl ?_)
        (refine Run.ret1 Tryd.results57 (by rfl) ?_)
        (focus ((repeat first | refine E1 ?_ ?_ | refine E2 ?_ | refine E3 ?_ | refine E4 ?_ | refine E5 ?_ | refine E6 ?_ | refine E7 ?_ | refine E8 ?_); exact E9; all_goals try first | rfl | assumption | omega))
      · have hne : k ≠ i := fun h => c2 (by rw [h])
        (repeat first | refine G1 ?_ | refine G2 ?_ | refine G3 ?_ | refine G4 ?_ | refine G5 rfl ?_ | refine G6 rfl ?_ | refine G7 rfl ?_)
        (focus (refine R0 ?_; refine lM ?_; refine lv (by exact Yad) ?_; refine lA ?_; refine R1 ?_; rotate_left))

        (repeat first | refine G1 ?_ | refine G2 ?_ | refine G3 ?_ | refine G4 ?_ | refine G5 rfl ?_ | refine G6 rfl ?_ | refine G7 rfl ?_)
        refine Run.weaken (by (repeat (first | exact Sub.nil _ | refine Sub.cons rfl ?_))) ?_ (ih (k + 1) (by omega))
        (focus ((repeat first | refine E1 ?_ ?_ | refine E2 ?_ | refine E3 ?_ | refine E4 ?_ | refine E5 ?_ | refine E6 ?_ | refine E7 ?_ | refine E8 ?_); exact E9; all_goals try first | rfl | assumption | omega))
    · exact absurd (by omega) c
theorem fault_err_ct (ρ : Frag) (er : Nat → Addr) (i : Int) (hi : 0 ≤ i) (hi' : i < 7) (hE : Errs ρ er) : Ct Tryd.prog 42 [errV er (rd sents i)] ρ [] (fun r => [pu (r = faultV (101 + i) false 0)]) := by
  (refine Ct.of_run Tryd.func42 rfl Tryd.ntmps42 rfl (Nat.le_of_ble_eq_true rfl) ?_)
  (repeat first | refine G1 ?_ | refine G2 ?_ | refine G3 ?_ | refine G4 ?_ | refine G5 rfl ?_ | refine G6 rfl ?_ | refine G7 rfl ?_)
  (focus (refine R0 ?_; refine le (by exact Dal Tryd.zeroValue61) ?_; intro v2; (try dsimp only [List.cons_append, List.nil_append, List.append_nil]); refine RunL.unhex fun b2 => ?_; refine RunL.unhex fun hb => ?_; subst hb; refine R1 ?_; rotate_left))

  (repeat first | refine G1 ?_ | refine G2 ?_ | refine G3 ?_ | refine G4 ?_ | refine G5 rfl ?_ | refine G6 rfl ?_ | refine G7 rfl ?_)
  (focus (refine R0 ?_; refine lM ?_; refine lv (by first | exact Yields.eqlPN rfl | exact Yields.eqlSN rfl | exact Yields.eqlIN rfl | exact Yields.eqlIV rfl) ?_; refine R1 ?_; rotate_left))

  (repeat first | refine G1 ?_ | refine G2 ?_ | refine G3 ?_ | refine G4 ?_ | refine G5 rfl ?_ | refine G6 rfl ?_ | refine G7 rfl ?_)
  (focus (refine R0 ?_; refine lM ?_; refine lv (by exact YtaF Tryd.zeroValue96 (by decide) rfl) ?_; refine lM ?_; refine lv (by exact Yxt) ?_; refine lv (by exact Yxt) ?_; refine lA ?_; refine lA ?_; refine R1 ?_; rotate_left))

  (repeat first | refine G1 ?_ | refine G2 ?_ | refine G3 ?_ | refine G4 ?_ | refine G5 rfl ?_ | refine G6 rfl ?_ | refine G7 rfl ?_)
  (repeat first | refine G1 ?_ | refine G2 ?_ | refine G3 ?_ | refine G4 ?_ | refine G5 rfl ?_ | refine G6 rfl ?_ | refine G7 rfl ?_)
  (focus (refine R0 ?_; refine lM ?_; refine lv (by first | exact YnP | exact Ynt) ?_; refine R1 ?_; rotate_left))

  (repeat first | refine G1 ?_ | refine G2 ?_ | refine G3 ?_ | refine G4 ?_ | refine G5 rfl ?_ | refine G6 rfl ?_ | refine G7 rfl ?_)
  (focus (refine R0 ?_; refine lM ?_; refine lc [] rfl rfl (fun _ hle hA => sentinel_ct _ er i hi hi' (hE.mono hle)) ?_; intro v16; (try dsimp only [List.cons_append, List.nil_append, List.append_nil]); (repeat (refine RunL.unpu fun h16 => ?_; try subst h16)); refine lc [] rfl rfl (fun _ hle hA => bare_ct _ (101 + i)) ?_; intro v17; (try dsimp only [List.cons_append, List.nil_append, List.append_nil]); (repeat (refine RunL.unpu fun h17 => ?_; try subst h17)); refine ln (by exact Dsa) ?_; intro _; (try dsimp only [List.cons_append, List.nil_append, List.append_nil]); refine R1 ?_; rotate_left))

  (repeat first | refine G1 ?_ | refine G2 ?_ | refine G3 ?_ | refine G4 ?_ | refine G5 rfl ?_ | refine G6 rfl ?_ | refine G7 rfl ?_)
  refine Run.retC1 Tryd.results42 (b := b2) (T' := 61) (cs := [int (101 + i), .bool false, int 0]) rfl (by (first | exact Reads.rho (by assumption) | exact Reads.pick (by (repeat (first | with_reducible exact Pick.here | with_reducible apply Pick.there))))) rfl ?_
  (focus ((repeat first | refine E1 ?_ ?_ | refine E2 ?_ | refine E3 ?_ | refine E4 ?_ | refine E5 ?_ | refine E6 ?_ | refine E7 ?_ | refine E8 ?_); exact E9; all_goals try first | rfl | assumption | omega))
theorem fault_nil_ct (ρ : Frag) : Ct Tryd.prog 42 [.nilIface] ρ [] (fun r => [pu (r = faultV 0 false 0)]) := by
  (refine Ct.of_run Tryd.func42 rfl Tryd.ntmps42 rfl (Nat.le_of_ble_eq_true rfl) ?_)
  (repeat first | refine G1 ?_ | refine G2 ?_ | refine G3 ?_ | refine G4 ?_ | refine G5 rfl ?_ | refine G6 rfl ?_ | refine G7 rfl ?_)
  (focus (refine R0 ?_; refine le (by exact Dal Tryd.zeroValue61) ?_; intro v2; (try dsimp only [List.cons_append, List.nil_append, List.append_nil]); refine RunL.unhex fun b2 => ?_; refine RunL.unhex fun hb => ?_; subst hb; refine R1 ?_; rotate_left))

  (repeat first | refine G1 ?_ | refine G2 ?_ | refine G3 ?_ | refine G4 ?_ | refine G5 rfl ?_ | refine G6 rfl ?_ | refine G7 rfl ?_)
  (focus (refine R0 ?_; refine lM ?_; refine lv (by first | exact Yields.eqlPN rfl | exact Yields.eqlSN rfl | exact Yields.eqlIN rfl | exact Yields.eqlIV rfl) ?_; refine R1 ?_; rotate_left))

  (repeat first | refine G1 ?_ | refine G2 ?_ | refine G3 ?_ | refine G4 ?_ | refine G5 rfl ?_ | refine G6 rfl ?_ | refine G7 rfl ?_)
  (focus (refine R0 ?_; refine lc [] rfl rfl (fun _ hle hA => none_ct _) ?_; intro v7; (try dsimp only [List.cons_append, List.nil_append, List.append_nil]); (repeat (refine RunL.unpu fun h7 => ?_; try subst h7)); refine ln (by exact Dsa) ?_; intro _; (try dsimp only [List.cons_append, List.nil_append, List.append_nil]); refine R1 ?_; rotate_left))

  (repeat first | refine G1 ?_ | refine G2 ?_ | refine G3 ?_ | refine G4 ?_ | refine G5 rfl ?_ | refine G6 rfl ?_ | refine G7 rfl ?_)
  refine Run.retC1 Tryd.results42 (b := b2) (T' := 61) (cs := [int 0, .bool false, int 0]) rfl (by (first | exact Reads.rho (by assumption) | exact Reads.pick (by (repeat (first | with_reducible exact Pick.here | with_reducible apply Pick.there))))) rfl ?_
  (focus ((repeat first | refine E1 ?_ ?_ | refine E2 ?_ | refine E3 ?_ | refine E4 ?_ | refine E5 ?_ | refine E6 ?_ | refine E7 ?_ | refine E8 ?_); exact E9; all_goals try first | rfl | assumption | omega))
theorem sameFault_ct (ρ : Frag) (c1 c2 p1 p2 : Int) (b1 b2 : Bool) : Ct Tryd.prog 41 [faultV c1 b1 p1, faultV c2 b2 p2] ρ [] (fun r => [pu (r = .bool (decide (c1 = c2 ∧ b1 = b2 ∧ p1 = p2)))]) := by
  (refine Ct.of_run Tryd.func41 rfl Tryd.ntmps41 rfl (Nat.le_of_ble_eq_true rfl) ?_)
  (repeat first | refine G1 ?_ | refine G2 ?_ | refine G3 ?_ | refine G4 ?_ | refine G5 rfl ?_ | refine G6 rfl ?_ | refine G7 rfl ?_)
  (focus (refine R0 ?_; refine le (by exact Dbx) ?_; intro v2; (try dsimp only [List.cons_append, List.nil_append, List.append_nil]); refine RunL.unhex fun b2 => ?_; refine RunL.unhex fun hb => ?_; subst hb; refine le (by exact Dbx) ?_; intro v3; (try dsimp only [List.cons_append, List.nil_append, List.append_nil]); refine RunL.unhex fun b3 => ?_; refine RunL.unhex fun hb => ?_; subst hb; refine lA ?_; refine R1 ?_; rotate_left))

  (repeat first | refine G1 ?_ | refine G2 ?_ | refine G3 ?_ | refine G4 ?_ | refine G5 rfl ?_ | refine G6 rfl ?_ | refine G7 rfl ?_)
  (focus (refine R0 ?_; refine lG ?_; refine lL ?_; refine lG ?_; refine lL ?_; refine lv (by exact Yeq) ?_; refine lM ?_; (first | refine RunL.knownP (t := 10) rfl (fun c10 => ?_) (fun c10 => ?_) | refine RunL.known (t := 10) rfl (fun c10 => ?_) (fun c10 => ?_)); refine lT ?_; refine lG ?_; refine lT ?_; refine lL ?_; refine lT ?_; refine lG ?_; refine lT ?_; refine lL ?_; refine lT ?_; refine lv (by exact YeB) ?_; refine lv (by first | exact YpT | exact YpF | exact Yields.pickB rfl rfl rfl) ?_; refine lM ?_; (first | refine RunL.knownP (t := 17) rfl (fun c17 => ?_) (fun c17 => ?_) | refine RunL.known (t := 17) rfl (fun c17 => ?_) (fun c17 => ?_)); refine lT ?_; refine lG ?_; refine lT ?_; refine lL ?_; refine lT ?_; refine lG ?_; refine lT ?_; refine lL ?_; refine lT ?_; refine lv (by exact Yeq) ?_; refine lv (by first | exact YpT | exact YpF | exact Yields.pickB rfl rfl rfl) ?_; refine lA ?_; refine R1 ?_; rotate_left; refine lF ?_; refine lF ?_; refine lF ?_; refine lF ?_; refine lF ?_; refine lv (by first | exact YpT | exact YpF | exact Yields.pickB rfl rfl rfl) ?_; refine lA ?_; refine R1 ?_; rotate_left; refine lF ?_; refine lF ?_; refine lF ?_; refine lF ?_; refine lF ?_; refine lv (by first | exact YpT | exact YpF | exact Yields.pickB rfl rfl rfl) ?_; refine lM ?_; refine lF ?_; refine lF ?_; refine lF ?_; refine lF ?_; refine lF ?_; refine lv (by first | exact YpT | exact YpF | exact Yields.pickB rfl rfl rfl) ?_; refine lA ?_; refine R1 ?_; rotate_left))

  (repeat first | refine G1 ?_ | refine G2 ?_ | refine G3 ?_ | refine G4 ?_ | refine G5 rfl ?_ | refine G6 rfl ?_ | refine G7 rfl ?_)
  all_goals
    (refine Run.ret1 Tryd.results41 (by rfl) ?_)
    (focus ((repeat first | refine E1 ?_ ?_ | refine E2 ?_ | refine E3 ?_ | refine E4 ?_ | refine E5 ?_ | refine E6 ?_ | refine E7 ?_ | refine E8 ?_); exact E9; all_goals try first | rfl | assumption | omega))
    first | (simp at c17; done) | simp_all
/-- e is the fault of this data. -/
def IsFault (ρ : Frag) (e : Value) (c : Int) (b : Bool) (p : Int) : Prop := ∀ ρ', fle ρ ρ' → Ct Tryd.prog 42 [e] ρ' [] (fun r => [pu (r = faultV c b p)])
theorem isFault_err {ρ : Frag} {er : Nat → Addr} (hE : Errs ρ er) {i : Int} (hi : 0 ≤ i) (hi' : i < 7) : IsFault ρ (errV er (rd sents i)) (101 + i) false 0 := fun ρ' l => fault_err_ct ρ' er i hi hi' (hE.mono l)
theorem isFault_nil {ρ : Frag} : IsFault ρ .nilIface 0 false 0 := fun ρ' l => fault_nil_ct ρ'
theorem same_ct (ρ : Frag) (e : Value) (c1 p1 c2 p2 : Int) (b1 b2 : Bool) (hF : IsFault ρ e c1 b1 p1) : Ct Tryd.prog 25 [e, faultV c2 b2 p2] ρ [] (fun r => [pu (r = .bool (decide (c1 = c2 ∧ b1 = b2 ∧ p1 = p2)))]) := by
  (refine Ct.of_run Tryd.func25 rfl Tryd.ntmps25 rfl (Nat.le_of_ble_eq_true rfl) ?_)
  (repeat first | refine G1 ?_ | refine G2 ?_ | refine G3 ?_ | refine G4 ?_ | refine G5 rfl ?_ | refine G6 rfl ?_ | refine G7 rfl ?_)
  (focus (refine R0 ?_; refine le (by exact Dbx) ?_; intro v3; (try dsimp only [List.cons_append, List.nil_append, List.append_nil]); refine RunL.unhex fun b3 => ?_; refine RunL.unhex fun hb => ?_; subst hb; refine lA ?_; refine R1 ?_; rotate_left))

  (repeat first | refine G1 ?_ | refine G2 ?_ | refine G3 ?_ | refine G4 ?_ | refine G5 rfl ?_ | refine G6 rfl ?_ | refine G7 rfl ?_)
  (focus (refine Run.planS mixed (.take 0 (.take 2 (.alt 1 (.alt 3 (.take 4 (.done)) (.nomore)) (.nomore)))) [(some 5, [0], []), (some 6, [5], [0]), (some 7, [3], []), (some 8, [6, 7], [1, 2, 1]), (some 4, [8], [3, 3, 0, 1, 2, 3])] (by kernel_rfl) (by kernel_rfl) (by kernel_rfl) ?_; refine dM rfl ?_; refine dv rfl (by first | exact YaC | exact YaE) ?_; refine R3 ?_; refine de [(2, _)] rfl (by exact Dcl [] rfl rfl (fun _ hle hA => hF _ hle)) rfl ?_ ?_; (focus (intro _; (try dsimp only [List.cons_append, List.nil_append, List.append_nil]); refine sv rfl (by first | exact YaC | exact YaE) ?_; exact Still.nil)); intro v6; (try dsimp only [List.cons_append, List.nil_append, List.append_nil]); (repeat (refine RunD.unpu fun h6 => ?_; try subst h6)); refine R3 ?_; refine de [] rfl (by exact Dcl [] rfl rfl (fun _ hle hA => sameFault_ct _ c1 c2 p1 p2 b1 b2)) rfl ?_ ?_; (focus (intro _; (try dsimp only [List.cons_append, List.nil_append, List.append_nil]); exact Still.nil)); intro v8; (try dsimp only [List.cons_append, List.nil_append, List.append_nil]); (repeat (refine RunD.unpu fun h8 => ?_; try subst h8)); refine dA rfl ?_; refine R2 ?_; rotate_left))

  (repeat first | refine G1 ?_ | refine G2 ?_ | refine G3 ?_ | refine G4 ?_ | refine G5 rfl ?_ | refine G6 rfl ?_ | refine G7 rfl ?_)
  all_goals
    (refine Run.ret1 Tryd.results25 (by rfl) ?_)
    (focus ((repeat first | refine E1 ?_ ?_ | refine E2 ?_ | refine E3 ?_ | refine E4 ?_ | refine E5 ?_ | refine E6 ?_ | refine E7 ?_ | refine E8 ?_); exact E9; all_goals try first | rfl | assumption | omega))
theorem see_is_ct (ρ : Frag) (e : Value) (c1 p1 c2 : Int) (b1 : Bool) (hF : IsFault ρ e c1 b1 p1) : Ct Tryd.prog 11 [e, int c2] ρ [] (fun r => [pu (r = .bool (decide (c1 = c2 ∧ b1 = false ∧ p1 = 0)))]) := by
  (refine Ct.of_run Tryd.func11 rfl Tryd.ntmps11 rfl (Nat.le_of_ble_eq_true rfl) ?_)
  (repeat first | refine G1 ?_ | refine G2 ?_ | refine G3 ?_ | refine G4 ?_ | refine G5 rfl ?_ | refine G6 rfl ?_ | refine G7 rfl ?_)
  (focus (refine R0 ?_; refine lA ?_; refine R1 ?_; rotate_left))

  (repeat first | refine G1 ?_ | refine G2 ?_ | refine G3 ?_ | refine G4 ?_ | refine G5 rfl ?_ | refine G6 rfl ?_ | refine G7 rfl ?_)
  (focus (refine R0 ?_; refine lM ?_; refine lM ?_; refine lc [] rfl rfl (fun _ hle hA => bare_ct _ c2) ?_; intro v7; (try dsimp only [List.cons_append, List.nil_append, List.append_nil]); (repeat (refine RunL.unpu fun h7 => ?_; try subst h7)); refine lc [] rfl rfl (fun _ hle hA => same_ct _ e c1 p1 c2 0 b1 false (fun ρ' l => hF ρ' (fle_trans hle l))) ?_; intro v8; (try dsimp only [List.cons_append, List.nil_append, List.append_nil]); (repeat (refine RunL.unpu fun h8 => ?_; try subst h8)); refine lA ?_; refine R1 ?_; rotate_left))

  (repeat first | refine G1 ?_ | refine G2 ?_ | refine G3 ?_ | refine G4 ?_ | refine G5 rfl ?_ | refine G6 rfl ?_ | refine G7 rfl ?_)
  (refine Run.ret1 Tryd.results11 (by rfl) ?_)
  (focus ((repeat first | refine E1 ?_ ?_ | refine E2 ?_ | refine E3 ?_ | refine E4 ?_ | refine E5 ?_ | refine E6 ?_ | refine E7 ?_ | refine E8 ?_); exact E9; all_goals try first | rfl | assumption | omega))
theorem number_ct (ρ : Frag) (n m : Int) (h0 : 0 < m) (h1 : m ≤ 4611686018427387904) (hn : -9223372036854775808 ≤ n) (hn' : n ≤ 9223372036854775807) :
    Ct Tryd.prog 6 [int n, int m] ρ [] (fun r => [hex fun k : Int => pu (r = int k ∧ 0 ≤ k ∧ k < m)]) := by
  have h2 := Int.tmod_lt_of_pos n h0
  have h3 : -m < n.tmod m := by
    have := Int.tmod_lt_of_pos (-n) h0
    rw [Int.neg_tmod] at this; omega
  (refine Ct.of_run Tryd.func6 rfl Tryd.ntmps6 rfl (Nat.le_of_ble_eq_true rfl) ?_)
  (repeat first | refine G1 ?_ | refine G2 ?_ | refine G3 ?_ | refine G4 ?_ | refine G5 rfl ?_ | refine G6 rfl ?_ | refine G7 rfl ?_)
  (focus (refine R0 ?_; refine lA ?_; refine R1 ?_; rotate_left))

  (repeat first | refine G1 ?_ | refine G2 ?_ | refine G3 ?_ | refine G4 ?_ | refine G5 rfl ?_ | refine G6 rfl ?_ | refine G7 rfl ?_)
  (focus (refine R0 ?_; refine lM ?_; refine lM ?_; refine lv (by exact Yrt) ?_; refine lA ?_; refine R1 ?_; rotate_left))

  (repeat first | refine G1 ?_ | refine G2 ?_ | refine G3 ?_ | refine G4 ?_ | refine G5 rfl ?_ | refine G6 rfl ?_ | refine G7 rfl ?_)
  (focus (refine R0 ?_; refine lM ?_; refine lv (by exact Ylt) ?_; refine R1 ?_; rotate_left))

  (repeat first | refine G1 ?_ | refine G2 ?_ | refine G3 ?_ | refine G4 ?_ | refine G5 rfl ?_ | refine G6 rfl ?_ | refine G7 rfl ?_)
  refine Run.condP rfl (fun c => ?_) (fun c => ?_)
  · (repeat first | refine G1 ?_ | refine G2 ?_ | refine G3 ?_ | refine G4 ?_ | refine G5 rfl ?_ | refine G6 rfl ?_ | refine G7 rfl ?_)
    (focus (refine R0 ?_; refine lM ?_; refine lM ?_; refine lv (by exact Yad) ?_; refine lA ?_; refine R1 ?_; rotate_left))

    (repeat first | refine G1 ?_ | refine G2 ?_ | refine G3 ?_ | refine G4 ?_ | refine G5 rfl ?_ | refine G6 rfl ?_ | refine G7 rfl ?_)
    (focus (refine R0 ?_; refine lM ?_; refine lA ?_; refine R1 ?_; rotate_left))

    (repeat first | refine G1 ?_ | refine G2 ?_ | refine G3 ?_ | refine G4 ?_ | refine G5 rfl ?_ | refine G6 rfl ?_ | refine G7 rfl ?_)
    (refine Run.ret1 Tryd.results6 (by rfl) ?_)
    refine Ent.hex (n.tmod m + m) ?_
    (focus ((repeat first | refine E1 ?_ ?_ | refine E2 ?_ | refine E3 ?_ | refine E4 ?_ | refine E5 ?_ | refine E6 ?_ | refine E7 ?_ | refine E8 ?_); exact E9; all_goals try first | rfl | assumption | omega))
    exact ⟨rfl, by omega, by omega⟩
  · (repeat first | refine G1 ?_ | refine G2 ?_ | refine G3 ?_ | refine G4 ?_ | refine G5 rfl ?_ | refine G6 rfl ?_ | refine G7 rfl ?_)
    (focus (refine R0 ?_; refine lM ?_; refine lA ?_; refine R1 ?_; rotate_left))

    (repeat first | refine G1 ?_ | refine G2 ?_ | refine G3 ?_ | refine G4 ?_ | refine G5 rfl ?_ | refine G6 rfl ?_ | refine G7 rfl ?_)
    (refine Run.ret1 Tryd.results6 (by rfl) ?_)
    refine Ent.hex (n.tmod m) ?_
    (focus ((repeat first | refine E1 ?_ ?_ | refine E2 ?_ | refine E3 ?_ | refine E4 ?_ | refine E5 ?_ | refine E6 ?_ | refine E7 ?_ | refine E8 ?_); exact E9; all_goals try first | rfl | assumption | omega))
    exact ⟨rfl, by omega, by omega⟩
end Go.Proofs.YtfldnnpcdjabnaaDoor
