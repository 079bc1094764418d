/-
  The package incr, without its questions: each function by its contract.
-/
import Derived.Test.YtfldnnpcdjabnaaDoorSat
set_option linter.unusedVariables false
set_option linter.unusedSimpArgs false
namespace Go.Proofs.YtfldnnpcdjabnaaDoor
open Go

structure SolS where
  e : EngS
  vars : Int
  all : List (List Int)
  many : Int
structure SolV where
  be : Nat
  qe : EngV
  va : SV
  ss : List SV
abbrev SolF (b : Nat) (s : SolS) (q : SolV) : List HP := Cells b 56 [ptr q.be, int s.vars, q.va.v, int s.many] :: Arr KSl q.va.v q.ss :: Bag KInt q.ss s.all :: EngF q.be s.e q.qe
structure SolOk (s : SolS) : Prop where
  eng : EngOk s.e
  low : 0 ≤ s.vars
  high : s.vars ≤ 4000
  many : 0 ≤ s.many ∧ s.many ≤ 80000
  size : s.all.length ≤ 20000
  n : (s.e.n : Int) = s.vars + 1
def rowOk (vars : Int) (x : List Int) : Bool := !(x.any fun l => !isB l vars)
def total (xs : List (List Int)) : Nat := (xs.map List.length).sum
theorem total_snoc (xs : List (List Int)) (x : List Int) : total (xs ++ [x]) = total xs + x.length := by simp [total]
def mayV (er : Nat → Addr) (s : SolS) (xs : List (List Int)) : Value :=
  if xs.all (rowOk s.vars) then (if 20000 < (s.all.length : Int) + xs.length ∨ 80000 < s.many + total xs then errV er 1 else .nilIface) else errV er 0
attribute [local irreducible] Yields Does Run RunL AnyL Ct Reads Peek PeekN Poke Pick Fits Sub Ent Still Arr RArr Cells el stars In
theorem sol_paced_ct (ρ : Frag) (bpa : Nat) (s : PaceS) (qa : PaceV) :
    Ct Tryd.prog 21 [ptr bpa] ρ (PaceF bpa s qa) (fun r => [hex fun b => hex fun q => stars (pu (r = ptr b) :: SolF b ⟨EngS.grown ⟨PropS.none 1, 1, fun x => 1 ≤ x, s, [], [], [], [], 0, 16⟩ 1, 0, [], 0⟩ q)]) := by
  (refine Ct.of_run Tryd.func21 rfl Tryd.ntmps21 rfl (Nat.le_of_ble_eq_true rfl) ?_)
  (repeat first | refine G1 ?_ | refine G2 ?_ | refine G3 ?_ | refine G4 ?_ | refine G5 rfl ?_ | refine G6 rfl ?_ | refine G7 rfl ?_)
  (focus (refine R0 ?_; refine lA ?_; refine R1 ?_; rotate_left))

  (repeat first | refine G1 ?_ | refine G2 ?_ | refine G3 ?_ | refine G4 ?_ | refine G5 rfl ?_ | refine G6 rfl ?_ | refine G7 rfl ?_)
  (focus (refine R0 ?_; refine lM ?_; refine lc [] rfl rfl (fun _ hle hA => paced_ct _ bpa s qa 0) ?_; intro v4; (try dsimp only [List.cons_append, List.nil_append, List.append_nil]); (repeat (refine RunL.unpu fun h4 => ?_; try subst h4)); (refine RunL.unhex fun be => RunL.unhex fun qe => RunL.flat ?_; ((dsimp only [EngF, HAppend.hAppend, Append.append, List.append, List.cons_append, List.nil_append, List.append_nil]); (try simp only [List.append_eq])); refine RunL.unpu fun h => ?_; subst h); refine lv (by exact Ybd1 rfl) ?_; refine le (by exact Dbx) ?_; intro v6; (try dsimp only [List.cons_append, List.nil_append, List.append_nil]); refine RunL.unhex fun b6 => ?_; refine RunL.unhex fun hb => ?_; subst hb; refine lA ?_; refine R1 ?_; rotate_left))

  (repeat first | refine G1 ?_ | refine G2 ?_ | refine G3 ?_ | refine G4 ?_ | refine G5 rfl ?_ | refine G6 rfl ?_ | refine G7 rfl ?_)
  (refine Run.ret1 Tryd.results21 (by rfl) ?_)
  rw [show max 1 (cut 0 + 1).toNat = 1 from rfl]
  refine Ent.hex b6 (Ent.hex ⟨be, qe, nilS, []⟩ (Ent.flat (Ent.pu rfl ?_)))
  (focus ((repeat first | refine E1 ?_ ?_ | refine E2 ?_ | refine E3 ?_ | refine E4 ?_ | refine E5 ?_ | refine E6 ?_ | refine E7 ?_ | refine E8 ?_); exact E9; all_goals try first | rfl | assumption | omega))
theorem sol_new_ct (ρ : Frag) (s : ScriptS) (q : ScriptV) (hR : ScriptIn ρ s q) :
    Ct Tryd.prog 7 [scriptV s q] ρ [] (fun r => [hex fun b => hex fun q => stars (pu (r = ptr b) :: SolF b ⟨EngS.grown ⟨PropS.none 1, 1, fun x => 1 ≤ x, paceOf s, [], [], [], [], 0, 16⟩ 1, 0, [], 0⟩ q)]) := by
  (refine Ct.of_run Tryd.func7 rfl Tryd.ntmps7 rfl (Nat.le_of_ble_eq_true rfl) ?_)
  (repeat first | refine G1 ?_ | refine G2 ?_ | refine G3 ?_ | refine G4 ?_ | refine G5 rfl ?_ | refine G6 rfl ?_ | refine G7 rfl ?_)
  (focus (refine R0 ?_; refine le (by exact Dbx) ?_; intro v1; (try dsimp only [List.cons_append, List.nil_append, List.append_nil]); refine RunL.unhex fun b1 => ?_; refine RunL.unhex fun hb => ?_; subst hb; refine lA ?_; refine R1 ?_; rotate_left))

  (repeat first | refine G1 ?_ | refine G2 ?_ | refine G3 ?_ | refine G4 ?_ | refine G5 rfl ?_ | refine G6 rfl ?_ | refine G7 rfl ?_)
  (focus (refine R0 ?_; refine lv (by first | exact YaC | exact YaE) ?_; refine lc [] rfl rfl (fun _ hle hA => pace_new_ct _ s q (hR.mono hle)) ?_; intro v4; (try dsimp only [List.cons_append, List.nil_append, List.append_nil]); (repeat (refine RunL.unpu fun h4 => ?_; try subst h4)); (refine RunL.unhex fun bpa => RunL.unhex fun qa => RunL.flat ?_; ((dsimp only [PaceF, HAppend.hAppend, Append.append, List.append, List.cons_append, List.nil_append, List.append_nil]); (try simp only [List.append_eq])); refine RunL.unpu fun h => ?_; subst h); refine lc [] rfl rfl (fun _ hle hA => sol_paced_ct _ bpa (paceOf s) qa) ?_; intro v5; (try dsimp only [List.cons_append, List.nil_append, List.append_nil]); (repeat (refine RunL.unpu fun h5 => ?_; try subst h5)); (refine RunL.unhex fun bs => RunL.unhex fun qs => RunL.flat ?_; ((dsimp only [SolF, HAppend.hAppend, Append.append, List.append, List.cons_append, List.nil_append, List.append_nil]); (try simp only [List.append_eq])); refine RunL.unpu fun h => ?_; subst h); refine lA ?_; refine R1 ?_; rotate_left))

  (repeat first | refine G1 ?_ | refine G2 ?_ | refine G3 ?_ | refine G4 ?_ | refine G5 rfl ?_ | refine G6 rfl ?_ | refine G7 rfl ?_)
  (refine Run.ret1 Tryd.results7 (by rfl) ?_)
  refine Ent.hex bs (Ent.hex qs (Ent.flat (Ent.pu rfl ?_)))
  (focus ((repeat first | refine E1 ?_ ?_ | refine E2 ?_ | refine E3 ?_ | refine E4 ?_ | refine E5 ?_ | refine E6 ?_ | refine E7 ?_ | refine E8 ?_); exact E9; all_goals try first | rfl | assumption | omega))
theorem sol_vars_ct (ρ : Frag) (b : Nat) (s : SolS) (q : SolV) (hR : In (stars (SolF b s q)) ρ) : Ct Tryd.prog 10 [ptr b] ρ [] (fun r => [pu (r = int s.vars)]) := by
  have hC := hR.stars_cons.1
  (refine Ct.of_run Tryd.func10 rfl Tryd.ntmps10 rfl (Nat.le_of_ble_eq_true rfl) ?_)
  (repeat first | refine G1 ?_ | refine G2 ?_ | refine G3 ?_ | refine G4 ?_ | refine G5 rfl ?_ | refine G6 rfl ?_ | refine G7 rfl ?_)
  (focus (refine R0 ?_; refine lA ?_; refine R1 ?_; rotate_left))

  (repeat first | refine G1 ?_ | refine G2 ?_ | refine G3 ?_ | refine G4 ?_ | refine G5 rfl ?_ | refine G6 rfl ?_ | refine G7 rfl ?_)
  (focus (refine R0 ?_; refine lM ?_; refine lN ?_; refine lG ?_; refine lG ?_; refine lL ?_; refine lA ?_; refine R1 ?_; rotate_left))

  (repeat first | refine G1 ?_ | refine G2 ?_ | refine G3 ?_ | refine G4 ?_ | refine G5 rfl ?_ | refine G6 rfl ?_ | refine G7 rfl ?_)
  (refine Run.ret1 Tryd.results10 (by rfl) ?_)
  (focus ((repeat first | refine E1 ?_ ?_ | refine E2 ?_ | refine E3 ?_ | refine E4 ?_ | refine E5 ?_ | refine E6 ?_ | refine E7 ?_ | refine E8 ?_); exact E9; all_goals try first | rfl | assumption | omega))
/-- n more variables; none, where there may not be so many. -/
abbrev SolS.fresh (s : SolS) (n : Int) : SolS := if n < 1 ∨ 4000 - s.vars < n then s else { s with e := s.e.grown (s.vars + n + 1).toNat, vars := s.vars + n }
theorem fresh_ct (ρ : Frag) (b : Nat) (s : SolS) (q : SolV) (n : Int) (hs : SolOk s) :
    Ct Tryd.prog 8 [ptr b, int n] ρ (SolF b s q) (fun r => [hex fun q' => stars (pu (r = int (if n < 1 ∨ 4000 - s.vars < n then 0 else s.vars + 1)) :: SolF b (s.fresh n) q')]) := by
  have h0 := hs.low
  have h1 := hs.high
  have hn := hs.n
  (refine Ct.of_run Tryd.func8 rfl Tryd.ntmps8 rfl (Nat.le_of_ble_eq_true rfl) ?_)
  (repeat first | refine G1 ?_ | refine G2 ?_ | refine G3 ?_ | refine G4 ?_ | refine G5 rfl ?_ | refine G6 rfl ?_ | refine G7 rfl ?_)
  (focus (refine R0 ?_; refine lA ?_; refine R1 ?_; rotate_left))

  (repeat first | refine G1 ?_ | refine G2 ?_ | refine G3 ?_ | refine G4 ?_ | refine G5 rfl ?_ | refine G6 rfl ?_ | refine G7 rfl ?_)
  (focus (refine R0 ?_; refine lM ?_; refine lv (by exact Ylt) ?_; refine lM ?_; (first | refine RunL.knownP (t := 8) rfl (fun c8 => ?_) (fun c8 => ?_) | refine RunL.known (t := 8) rfl (fun c8 => ?_) (fun c8 => ?_)); refine lF ?_; refine lF ?_; refine lF ?_; refine lF ?_; refine lF ?_; refine lF ?_; refine lF ?_; refine lF ?_; refine lv (by first | exact YpT | exact YpF | exact Yields.pickB rfl rfl rfl) ?_; refine R1 ?_; rotate_left; refine lT ?_; refine lM ?_; refine lT ?_; refine lM ?_; refine lT ?_; refine lN ?_; refine lT ?_; refine lG ?_; refine lT ?_; refine lG ?_; refine lT ?_; refine lL ?_; refine lT ?_; refine lv (by exact Ysb) ?_; refine lT ?_; refine lv (by exact Ygt) ?_; refine lv (by first | exact YpT | exact YpF | exact Yields.pickB rfl rfl rfl) ?_; refine R1 ?_; rotate_left))

  (repeat first | refine G1 ?_ | refine G2 ?_ | refine G3 ?_ | refine G4 ?_ | refine G5 rfl ?_ | refine G6 rfl ?_ | refine G7 rfl ?_)
  · (repeat first | refine G1 ?_ | refine G2 ?_ | refine G3 ?_ | refine G4 ?_ | refine G5 rfl ?_ | refine G6 rfl ?_ | refine G7 rfl ?_)
    (focus (refine R0 ?_; refine lA ?_; refine R1 ?_; rotate_left))

    (repeat first | refine G1 ?_ | refine G2 ?_ | refine G3 ?_ | refine G4 ?_ | refine G5 rfl ?_ | refine G6 rfl ?_ | refine G7 rfl ?_)
    (refine Run.ret1 Tryd.results8 (by rfl) ?_)
    have e : n < 1 ∨ 4000 - s.vars < n := .inl c8
    refine Ent.hex q (Ent.flat (Ent.pu (by rw [if_pos e]) ?_))
    rw [show s.fresh n = s from if_pos e]
    (focus ((repeat first | refine E1 ?_ ?_ | refine E2 ?_ | refine E3 ?_ | refine E4 ?_ | refine E5 ?_ | refine E6 ?_ | refine E7 ?_ | refine E8 ?_); exact E9; all_goals try first | rfl | assumption | omega))
  · refine Run.condP rfl (fun c => ?_) (fun c => ?_)
    · (repeat first | refine G1 ?_ | refine G2 ?_ | refine G3 ?_ | refine G4 ?_ | refine G5 rfl ?_ | refine G6 rfl ?_ | refine G7 rfl ?_)
      (focus (refine R0 ?_; refine lA ?_; refine R1 ?_; rotate_left))

      (repeat first | refine G1 ?_ | refine G2 ?_ | refine G3 ?_ | refine G4 ?_ | refine G5 rfl ?_ | refine G6 rfl ?_ | refine G7 rfl ?_)
      (refine Run.ret1 Tryd.results8 (by rfl) ?_)
      have e : n < 1 ∨ 4000 - s.vars < n := .inr c
      refine Ent.hex q (Ent.flat (Ent.pu (by rw [if_pos e]) ?_))
      rw [show s.fresh n = s from if_pos e]
      (focus ((repeat first | refine E1 ?_ ?_ | refine E2 ?_ | refine E3 ?_ | refine E4 ?_ | refine E5 ?_ | refine E6 ?_ | refine E7 ?_ | refine E8 ?_); exact E9; all_goals try first | rfl | assumption | omega))
    · have e : ¬ (n < 1 ∨ 4000 - s.vars < n) := by omega
      (repeat first | refine G1 ?_ | refine G2 ?_ | refine G3 ?_ | refine G4 ?_ | refine G5 rfl ?_ | refine G6 rfl ?_ | refine G7 rfl ?_)
      (focus (refine R0 ?_; refine lM ?_; refine lN ?_; refine lG ?_; refine lG ?_; refine lL ?_; refine lv (by exact Yad) ?_; refine lA ?_; refine R1 ?_; rotate_left))

      (repeat first | refine G1 ?_ | refine G2 ?_ | refine G3 ?_ | refine G4 ?_ | refine G5 rfl ?_ | refine G6 rfl ?_ | refine G7 rfl ?_)
      (focus (refine R0 ?_; refine lM ?_; refine lN ?_; refine lG ?_; refine lG ?_; refine lL ?_; refine lM ?_; refine lv (by exact Yad) ?_; refine lN ?_; refine lG ?_; refine lG ?_; refine ln (by exact Dst) ?_; intro _; (try dsimp only [List.cons_append, List.nil_append, List.append_nil]); refine R1 ?_; rotate_left))

      (repeat first | refine G1 ?_ | refine G2 ?_ | refine G3 ?_ | refine G4 ?_ | refine G5 rfl ?_ | refine G6 rfl ?_ | refine G7 rfl ?_)
      (focus (refine Run.planS mixed (.take 0 (.take 1 (.take 2 (.take 3 (.take 4 (.take 5 (.take 6 (.take 7 (.take 8 (.alt 9 (.done) (.nomore))))))))))) [(some 34, [0], []), (some 35, [34], [0]), (some 36, [35], [1]), (some 37, [36], [2]), (some 38, [0], []), (some 39, [38], [4]), (some 40, [39], [5]), (some 41, [40], [6]), (some 42, [41], [7]), (some 43, [37, 42], [3, 8])] (by kernel_rfl) (by kernel_rfl) (by kernel_rfl) ?_; refine dM rfl ?_; refine dN rfl ?_; refine dG rfl ?_; refine dL rfl ?_; refine dM rfl ?_; refine dN rfl ?_; refine dG rfl ?_; refine dG rfl ?_; refine dL rfl ?_; refine R3 ?_; refine de [(7, _), (6, _), (5, _), (4, _), (2, _), (1, _), (0, _)] rfl (by exact Dcl [] rfl rfl (fun _ hle hA => eng_grow_ct _ q.be s.e q.qe (s.vars + n) hs.eng)) rfl ?_ ?_; (focus (intro _; (try dsimp only [List.cons_append, List.nil_append, List.append_nil]); refine sG rfl ?_; refine sG rfl ?_; refine sN rfl ?_; refine sM rfl ?_; refine sG rfl ?_; refine sN rfl ?_; refine sM rfl ?_; exact Still.nil)); intro v43; (try dsimp only [List.cons_append, List.nil_append, List.append_nil]); (repeat (refine RunD.unpu fun h43 => ?_; try subst h43)); refine R2 ?_; rotate_left))

      (repeat first | refine G1 ?_ | refine G2 ?_ | refine G3 ?_ | refine G4 ?_ | refine G5 rfl ?_ | refine G6 rfl ?_ | refine G7 rfl ?_)
      refine Run.unhex fun qe => Run.flat ?_
      ((dsimp only [EngF, HAppend.hAppend, Append.append, List.append, List.cons_append, List.nil_append, List.append_nil]); (try simp only [List.append_eq]))
      (repeat first | refine G1 ?_ | refine G2 ?_ | refine G3 ?_ | refine G4 ?_ | refine G5 rfl ?_ | refine G6 rfl ?_ | refine G7 rfl ?_)
      (focus (refine R0 ?_; refine lM ?_; refine lA ?_; refine R1 ?_; rotate_left))

      (repeat first | refine G1 ?_ | refine G2 ?_ | refine G3 ?_ | refine G4 ?_ | refine G5 rfl ?_ | refine G6 rfl ?_ | refine G7 rfl ?_)
      (refine Run.ret1 Tryd.results8 (by rfl) ?_)
      have hm : max s.e.n (cut (s.vars + n) + 1).toNat = (s.vars + n + 1).toNat := by simp only [cut]; omega
      rw [hm]
      refine Ent.hex { q with qe := qe } (Ent.flat (Ent.pu (by rw [if_neg e]) ?_))
      rw [show s.fresh n = { s with e := s.e.grown (s.vars + n + 1).toNat, vars := s.vars + n } from if_neg e]
      (focus ((repeat first | refine E1 ?_ ?_ | refine E2 ?_ | refine E3 ?_ | refine E4 ?_ | refine E5 ?_ | refine E6 ?_ | refine E7 ?_ | refine E8 ?_); exact E9; all_goals try first | rfl | assumption | omega))
theorem may1_ct (ρ : Frag) (b bb : Nat) (s : SolS) (q : SolV) (x : Int) (hs : SolOk s) (hR : In (stars (SolF b s q)) ρ) (hB : In (Cells bb 24 [ptr b]) ρ) :
    Ct Tryd.prog 52 [int x, ptr bb] ρ [] (fun r => [pu (r = .bool (!isB x s.vars))]) := by
  have hC := hR.stars_cons.1
  have h0 := hs.low
  have h1 := hs.high
  (refine Ct.of_run Tryd.func52 rfl Tryd.ntmps52 rfl (Nat.le_of_ble_eq_true rfl) ?_)
  (repeat first | refine G1 ?_ | refine G2 ?_ | refine G3 ?_ | refine G4 ?_ | refine G5 rfl ?_ | refine G6 rfl ?_ | refine G7 rfl ?_)
  (focus (refine R0 ?_; refine lA ?_; refine R1 ?_; rotate_left))

  (repeat first | refine G1 ?_ | refine G2 ?_ | refine G3 ?_ | refine G4 ?_ | refine G5 rfl ?_ | refine G6 rfl ?_ | refine G7 rfl ?_)
  (focus (refine R0 ?_; refine lM ?_; refine lL ?_; refine lN ?_; refine lG ?_; refine lG ?_; refine lL ?_; refine lc [] rfl rfl (fun _ hle hA => is_lit_ct _ x s.vars (by omega) (by omega)) ?_; intro v10; (try dsimp only [List.cons_append, List.nil_append, List.append_nil]); (repeat (refine RunL.unpu fun h10 => ?_; try subst h10)); refine lv (by first | exact YnP | exact Ynt) ?_; refine lA ?_; refine R1 ?_; rotate_left))

  (repeat first | refine G1 ?_ | refine G2 ?_ | refine G3 ?_ | refine G4 ?_ | refine G5 rfl ?_ | refine G6 rfl ?_ | refine G7 rfl ?_)
  (refine Run.ret1 Tryd.results52 (by rfl) ?_)
  (focus ((repeat first | refine E1 ?_ ?_ | refine E2 ?_ | refine E3 ?_ | refine E4 ?_ | refine E5 ?_ | refine E6 ?_ | refine E7 ?_ | refine E8 ?_); exact E9; all_goals try first | rfl | assumption | omega))
  simp only [isB, decide_not]
theorem may_ct (ρ : Frag) (b : Nat) (s : SolS) (q : SolV) (l : SV) (ls : List SV) (xs : List (List Int)) (er : Nat → Addr) (hs : SolOk s) (hR : In (stars (SolF b s q)) ρ) (hl : In (RArr KSl l.v ls) ρ) (hr : Rows KInt ρ ls xs) (hn : xs.length ≤ 20000) (hE : Errs ρ er) :
    Ct Tryd.prog 39 [ptr b, l.v] ρ [] (fun r => [pu (r = mayV er s xs)]) := by
  have hC := hR.stars_cons.1
  have h0 := hs.low
  have h1 := hs.high
  have h2 := hs.many
  have h3 := hs.size
  have hlen := hr.1
  have hva : In (Arr KSl q.va.v q.ss) ρ := hR.stars_cons.2.stars_cons.1
  have hbag : In (Bag KInt q.ss s.all) ρ := hR.stars_cons.2.stars_cons.2.stars_cons.1
  have hsl : q.ss.length = s.all.length := (Rows.of_bag hbag).1
  (refine Ct.of_run Tryd.func39 rfl Tryd.ntmps39 rfl (Nat.le_of_ble_eq_true rfl) ?_)
  (repeat first | refine G1 ?_ | refine G2 ?_ | refine G3 ?_ | refine G4 ?_ | refine G5 rfl ?_ | refine G6 rfl ?_ | refine G7 rfl ?_)
  (focus (refine R0 ?_; refine le (by exact Dbx) ?_; intro v2; (try dsimp only [List.cons_append, List.nil_append, List.append_nil]); refine RunL.unhex fun b2 => ?_; refine RunL.unhex fun hb => ?_; subst hb; refine lA ?_; refine R1 ?_; rotate_left))

  (repeat first | refine G1 ?_ | refine G2 ?_ | refine G3 ?_ | refine G4 ?_ | refine G5 rfl ?_ | refine G6 rfl ?_ | refine G7 rfl ?_)
  (focus (refine R0 ?_; refine lL ?_; refine lN ?_; refine lG ?_; refine lL ?_; refine lA ?_; refine R1 ?_; rotate_left))

  (repeat first | refine G1 ?_ | refine G2 ?_ | refine G3 ?_ | refine G4 ?_ | refine G5 rfl ?_ | refine G6 rfl ?_ | refine G7 rfl ?_)
  (focus (refine R0 ?_; refine lM ?_; refine lE ?_; refine lM ?_; refine R1 ?_; rotate_left))

  (repeat first | refine G1 ?_ | refine G2 ?_ | refine G3 ?_ | refine G4 ?_ | refine G5 rfl ?_ | refine G6 rfl ?_ | refine G7 rfl ?_)
  refine Run.loopI (X := Int × Int) (fun x => [(0, ptr b), (1, l.v), (2, ptr b2), (12, l.v), (13, int ls.length), (5, int x.2), (14, int x.1)])
    (fun x => [pu (0 ≤ x.1 ∧ x.1 ≤ xs.length ∧ x.2 = s.many + total (xs.take x.1.toNat) ∧ x.2 ≤ 80000 + x.1 * 281474976710656 ∧ (xs.take x.1.toNat).all (rowOk s.vars) = true), Cells b2 24 [ptr b]]) (fun x => (xs.length - x.1).toNat) (0, s.many) (by (repeat (first | exact Sub.nil _ | refine Sub.cons rfl ?_))) ?_ ?_
  · (focus ((repeat first | refine E1 ?_ ?_ | refine E2 ?_ | refine E3 ?_ | refine E4 ?_ | refine E5 ?_ | refine E6 ?_ | refine E7 ?_ | refine E8 ?_); exact E9; all_goals try first | rfl | assumption | omega))
    exact ⟨by omega, by omega, by simp [total], by dsimp only; omega, by simp⟩
  · rintro ⟨i, n⟩ ih
    refine Run.unpu fun hi => ?_
    obtain ⟨i0, i1, i2, i3, i4⟩ := hi
    dsimp only at i0 i1 i2 i3 i4 ⊢
    (repeat first | refine G1 ?_ | refine G2 ?_ | refine G3 ?_ | refine G4 ?_ | refine G5 rfl ?_ | refine G6 rfl ?_ | refine G7 rfl ?_)
    (focus (refine R0 ?_; refine lv (by exact Ylt) ?_; refine R1 ?_; rotate_left))

    (repeat first | refine G1 ?_ | refine G2 ?_ | refine G3 ?_ | refine G4 ?_ | refine G5 rfl ?_ | refine G6 rfl ?_ | refine G7 rfl ?_)
    refine Run.condP rfl (fun c => ?_) (fun c => ?_)
    · have hx := hr.2 i i0 (by omega)
      have hxs := In.shortR (P := Tryd.prog) (K := KInt) hx
      (repeat first | refine G1 ?_ | refine G2 ?_ | refine G3 ?_ | refine G4 ?_ | refine G5 rfl ?_ | refine G6 rfl ?_ | refine G7 rfl ?_)
      (focus (refine R0 ?_; refine lX ?_; refine lL ?_; refine lA ?_; refine R1 ?_; rotate_left))

      (repeat first | refine G1 ?_ | refine G2 ?_ | refine G3 ?_ | refine G4 ?_ | refine G5 rfl ?_ | refine G6 rfl ?_ | refine G7 rfl ?_)
      (focus (refine R0 ?_; refine lM ?_; refine lv (by exact Ymf) ?_; refine lc [Cells b2 24 [ptr b]] rfl rfl (fun _ hle hA => containsFunc_ct _ (rd ls i) (rd xs i) 52 #[] #[ptr b2] (fun x => !isB x s.vars) (hx.mono hle) (fun x _ ρ' h' => may1_ct ρ' b b2 s q x hs (hR.mono (fle_trans hle h')) (hA.stars_one.mono h'))) ?_; intro v20; (try dsimp only [List.cons_append, List.nil_append, List.append_nil]); (repeat (refine RunL.unpu fun h20 => ?_; try subst h20)); refine R1 ?_; rotate_left))

      (repeat first | refine G1 ?_ | refine G2 ?_ | refine G3 ?_ | refine G4 ?_ | refine G5 rfl ?_ | refine G6 rfl ?_ | refine G7 rfl ?_)
      refine Run.cond rfl (fun c2 => ?_) (fun c2 => ?_)
      · (repeat first | refine G1 ?_ | refine G2 ?_ | refine G3 ?_ | refine G4 ?_ | refine G5 rfl ?_ | refine G6 rfl ?_ | refine G7 rfl ?_)
        (focus (refine R0 ?_; refine lv (by exact YlG (Errs.h (by assumption) _ (by decide))) ?_; refine lA ?_; refine R1 ?_; rotate_left))

        (repeat first | refine G1 ?_ | refine G2 ?_ | refine G3 ?_ | refine G4 ?_ | refine G5 rfl ?_ | refine G6 rfl ?_ | refine G7 rfl ?_)
        (refine Run.ret1 Tryd.results39 (by rfl) ?_)
        (focus ((repeat first | refine E1 ?_ ?_ | refine E2 ?_ | refine E3 ?_ | refine E4 ?_ | refine E5 ?_ | refine E6 ?_ | refine E7 ?_ | refine E8 ?_); exact E9; all_goals try first | rfl | assumption | omega))
        have : xs.all (rowOk s.vars) = false := by
          rw [List.all_eq_false]
          exact ⟨rd xs i, List.mem_of_getElem? (rd_some i0 (by omega)), by simp only [rowOk, c2]; simp⟩
        simp [mayV, this]
      · (repeat first | refine G1 ?_ | refine G2 ?_ | refine G3 ?_ | refine G4 ?_ | refine G5 rfl ?_ | refine G6 rfl ?_ | refine G7 rfl ?_)
        (focus (refine R0 ?_; refine lM ?_; refine lM ?_; refine lE ?_; refine lv (by exact Yad) ?_; refine lA ?_; refine R1 ?_; rotate_left))

        (repeat first | refine G1 ?_ | refine G2 ?_ | refine G3 ?_ | refine G4 ?_ | refine G5 rfl ?_ | refine G6 rfl ?_ | refine G7 rfl ?_)
        (focus (refine R0 ?_; refine lv (by exact Yad) ?_; refine lM ?_; refine R1 ?_; rotate_left))

        (repeat first | refine G1 ?_ | refine G2 ?_ | refine G3 ?_ | refine G4 ?_ | refine G5 rfl ?_ | refine G6 rfl ?_ | refine G7 rfl ?_)
        refine Run.weaken (by (repeat (first | exact Sub.nil _ | refine Sub.cons rfl ?_))) ?_ (ih (i + 1, n + (rd xs i).length) (by dsimp only; omega))
        (focus ((repeat first | refine E1 ?_ ?_ | refine E2 ?_ | refine E3 ?_ | refine E4 ?_ | refine E5 ?_ | refine E6 ?_ | refine E7 ?_ | refine E8 ?_); exact E9; all_goals try first | rfl | assumption | omega))
        dsimp only
        have e1 := take_snoc xs i i0 (by omega)
        refine ⟨by omega, by omega, by rw [e1, total_snoc]; push_cast; omega, by omega, by rw [e1, List.all_append, i4]; simp [rowOk, c2]⟩
    · have e1 : xs.take i.toNat = xs := List.take_of_length_le (by omega)
      rw [e1] at i2 i4
      (repeat first | refine G1 ?_ | refine G2 ?_ | refine G3 ?_ | refine G4 ?_ | refine G5 rfl ?_ | refine G6 rfl ?_ | refine G7 rfl ?_)
      (focus (refine R0 ?_; refine lL ?_; refine lN ?_; refine lG ?_; refine lG ?_; refine lL ?_; refine lE ?_; refine lM ?_; refine lE ?_; refine lv (by exact Yad) ?_; refine lv (by exact Ygt) ?_; refine lM ?_; (first | refine RunL.knownP (t := 37) rfl (fun c37 => ?_) (fun c37 => ?_) | refine RunL.known (t := 37) rfl (fun c37 => ?_) (fun c37 => ?_)); refine lF ?_; refine lF ?_; refine lv (by first | exact YpT | exact YpF | exact Yields.pickB rfl rfl rfl) ?_; refine R1 ?_; rotate_left; refine lT ?_; refine lM ?_; refine lT ?_; refine lv (by exact Ygt) ?_; refine lv (by first | exact YpT | exact YpF | exact Yields.pickB rfl rfl rfl) ?_; refine R1 ?_; rotate_left))

      (repeat first | refine G1 ?_ | refine G2 ?_ | refine G3 ?_ | refine G4 ?_ | refine G5 rfl ?_ | refine G6 rfl ?_ | refine G7 rfl ?_)
      · (repeat first | refine G1 ?_ | refine G2 ?_ | refine G3 ?_ | refine G4 ?_ | refine G5 rfl ?_ | refine G6 rfl ?_ | refine G7 rfl ?_)
        (focus (refine R0 ?_; refine lv (by exact YlG (Errs.h (by assumption) _ (by decide))) ?_; refine lA ?_; refine R1 ?_; rotate_left))

        (repeat first | refine G1 ?_ | refine G2 ?_ | refine G3 ?_ | refine G4 ?_ | refine G5 rfl ?_ | refine G6 rfl ?_ | refine G7 rfl ?_)
        (refine Run.ret1 Tryd.results39 (by rfl) ?_)
        (focus ((repeat first | refine E1 ?_ ?_ | refine E2 ?_ | refine E3 ?_ | refine E4 ?_ | refine E5 ?_ | refine E6 ?_ | refine E7 ?_ | refine E8 ?_); exact E9; all_goals try first | rfl | assumption | omega))
        simp only [mayV, i4, if_true]
        rw [if_pos (by left; omega)]
      · refine Run.condP rfl (fun c2 => ?_) (fun c2 => ?_)
        · (repeat first | refine G1 ?_ | refine G2 ?_ | refine G3 ?_ | refine G4 ?_ | refine G5 rfl ?_ | refine G6 rfl ?_ | refine G7 rfl ?_)
          (focus (refine R0 ?_; refine lv (by exact YlG (Errs.h (by assumption) _ (by decide))) ?_; refine lA ?_; refine R1 ?_; rotate_left))

          (repeat first | refine G1 ?_ | refine G2 ?_ | refine G3 ?_ | refine G4 ?_ | refine G5 rfl ?_ | refine G6 rfl ?_ | refine G7 rfl ?_)
          (refine Run.ret1 Tryd.results39 (by rfl) ?_)
          (focus ((repeat first | refine E1 ?_ ?_ | refine E2 ?_ | refine E3 ?_ | refine E4 ?_ | refine E5 ?_ | refine E6 ?_ | refine E7 ?_ | refine E8 ?_); exact E9; all_goals try first | rfl | assumption | omega))
          simp only [mayV, i4, if_true]
          rw [if_pos (by right; omega)]
        · (repeat first | refine G1 ?_ | refine G2 ?_ | refine G3 ?_ | refine G4 ?_ | refine G5 rfl ?_ | refine G6 rfl ?_ | refine G7 rfl ?_)
          (focus (refine R0 ?_; refine lA ?_; refine R1 ?_; rotate_left))

          (repeat first | refine G1 ?_ | refine G2 ?_ | refine G3 ?_ | refine G4 ?_ | refine G5 rfl ?_ | refine G6 rfl ?_ | refine G7 rfl ?_)
          (refine Run.ret1 Tryd.results39 (by rfl) ?_)
          (focus ((repeat first | refine E1 ?_ ?_ | refine E2 ?_ | refine E3 ?_ | refine E4 ?_ | refine E5 ?_ | refine E6 ?_ | refine E7 ?_ | refine E8 ?_); exact E9; all_goals try first | rfl | assumption | omega))
          simp only [mayV, i4, if_true]
          rw [if_neg (by omega)]
theorem cloneAll_ct (ρ : Frag) (l : SV) (ls : List SV) (xs : List (List Int)) (hl : In (RArr KSl l.v ls) ρ) (hr : Rows KInt ρ ls xs) (hn : xs.length ≤ 1000000) :
    Ct Tryd.prog 27 [l.v] ρ [] (fun r => [hex fun t : SV => hex fun ts : List SV => stars [pu (r = t.v), Arr KSl t.v ts, Bag KInt ts xs]]) := by
  have hlen := hr.1
  (refine Ct.of_run Tryd.func27 rfl Tryd.ntmps27 rfl (Nat.le_of_ble_eq_true rfl) ?_)
  (repeat first | refine G1 ?_ | refine G2 ?_ | refine G3 ?_ | refine G4 ?_ | refine G5 rfl ?_ | refine G6 rfl ?_ | refine G7 rfl ?_)
  (focus (refine R0 ?_; refine lv (by exact YaN) ?_; refine R1 ?_; rotate_left))

  (repeat first | refine G1 ?_ | refine G2 ?_ | refine G3 ?_ | refine G4 ?_ | refine G5 rfl ?_ | refine G6 rfl ?_ | refine G7 rfl ?_)
  (focus (refine R0 ?_; refine lM ?_; refine lE ?_; refine leS (by exact Dmk) ?_; intro v8; (try dsimp only [List.cons_append, List.nil_append, List.append_nil]); refine lA ?_; refine R1 ?_; rotate_left))

  (repeat first | refine G1 ?_ | refine G2 ?_ | refine G3 ?_ | refine G4 ?_ | refine G5 rfl ?_ | refine G6 rfl ?_ | refine G7 rfl ?_)
  (focus (refine R0 ?_; refine lM ?_; refine lE ?_; refine lM ?_; refine R1 ?_; rotate_left))

  (repeat first | refine G1 ?_ | refine G2 ?_ | refine G3 ?_ | refine G4 ?_ | refine G5 rfl ?_ | refine G6 rfl ?_ | refine G7 rfl ?_)
  refine Run.loopI (X := Int × SV × List SV) (fun x => [(0, l.v), (9, l.v), (10, int ls.length), (3, x.2.1.v), (11, int x.1)])
    (fun x => [pu (0 ≤ x.1 ∧ x.1 ≤ xs.length), Arr KSl x.2.1.v x.2.2, Bag KInt x.2.2 (xs.take x.1.toNat)]) (fun x => (xs.length - x.1).toNat) (0, v8, []) (by (repeat (first | exact Sub.nil _ | refine Sub.cons rfl ?_))) ?_ ?_
  · show Ent [Arr KSl v8.v []] [pu ((0 : Int) ≤ 0 ∧ (0 : Int) ≤ xs.length), Arr KSl v8.v [], Bag KInt [] []]
    (focus ((repeat first | refine E1 ?_ ?_ | refine E2 ?_ | refine E3 ?_ | refine E4 ?_ | refine E5 ?_ | refine E6 ?_ | refine E7 ?_ | refine E8 ?_); exact E9; all_goals try first | rfl | assumption | omega))
  · rintro ⟨i, t, ts⟩ ih
    refine Run.unpu fun hi => ?_
    obtain ⟨i0, i1⟩ := hi
    dsimp only at i0 i1 ⊢
    (repeat first | refine G1 ?_ | refine G2 ?_ | refine G3 ?_ | refine G4 ?_ | refine G5 rfl ?_ | refine G6 rfl ?_ | refine G7 rfl ?_)
    (focus (refine R0 ?_; refine lv (by exact Ylt) ?_; refine R1 ?_; rotate_left))

    (repeat first | refine G1 ?_ | refine G2 ?_ | refine G3 ?_ | refine G4 ?_ | refine G5 rfl ?_ | refine G6 rfl ?_ | refine G7 rfl ?_)
    refine Run.condP rfl (fun c => ?_) (fun c => ?_)
    · have hx := hr.2 i i0 (by omega)
      refine Run.bagLen (K := KInt) (ss := ts) (xs := xs.take i.toNat) (by (repeat (first | with_reducible exact Pick.here | with_reducible apply Pick.there))) fun hts => ?_
      rw [List.length_take] at hts
      (repeat first | refine G1 ?_ | refine G2 ?_ | refine G3 ?_ | refine G4 ?_ | refine G5 rfl ?_ | refine G6 rfl ?_ | refine G7 rfl ?_)
      (focus (refine R0 ?_; refine lX ?_; refine lL ?_; refine lA ?_; refine R1 ?_; rotate_left))

      (repeat first | refine G1 ?_ | refine G2 ?_ | refine G3 ?_ | refine G4 ?_ | refine G5 rfl ?_ | refine G6 rfl ?_ | refine G7 rfl ?_)
      (focus (refine R0 ?_; refine lM ?_; refine lM ?_; refine lc [] rfl rfl (fun _ hle hA => clone_ct _ (rd ls i) (rd xs i) (hx.mono hle)) ?_; intro v17; (try dsimp only [List.cons_append, List.nil_append, List.append_nil]); (repeat (refine RunL.unpu fun h17 => ?_; try subst h17)); (refine RunL.unhex fun u => RunL.flat ?_; ((dsimp only [EngF, HAppend.hAppend, Append.append, List.append, List.cons_append, List.nil_append, List.append_nil]); (try simp only [List.append_eq])); refine RunL.unpu fun h => ?_; subst h); refine leS (by exact Db1) ?_; intro v18; (try dsimp only [List.cons_append, List.nil_append, List.append_nil]); refine leS (by exact Dap) ?_; intro v19; (try dsimp only [List.cons_append, List.nil_append, List.append_nil]); (repeat (refine RunL.unpu fun h19 => ?_; try subst h19)); refine lA ?_; refine R1 ?_; rotate_left))

      (repeat first | refine G1 ?_ | refine G2 ?_ | refine G3 ?_ | refine G4 ?_ | refine G5 rfl ?_ | refine G6 rfl ?_ | refine G7 rfl ?_)
      (repeat first | refine G1 ?_ | refine G2 ?_ | refine G3 ?_ | refine G4 ?_ | refine G5 rfl ?_ | refine G6 rfl ?_ | refine G7 rfl ?_)
      (focus (refine R0 ?_; refine lv (by exact Yad) ?_; refine lM ?_; refine R1 ?_; rotate_left))

      (repeat first | refine G1 ?_ | refine G2 ?_ | refine G3 ?_ | refine G4 ?_ | refine G5 rfl ?_ | refine G6 rfl ?_ | refine G7 rfl ?_)
      refine Run.weaken (by (repeat (first | exact Sub.nil _ | refine Sub.cons rfl ?_))) ?_ (ih (i + 1, v19, ts ++ [u]) (by dsimp only; omega))
      dsimp only
      rw [take_snoc xs i i0 (by omega)]
      (focus ((repeat first | refine E1 ?_ ?_ | refine E2 ?_ | refine E3 ?_ | refine E4 ?_ | refine E5 ?_ | refine E6 ?_ | refine E7 ?_ | refine E8 ?_); exact E9; all_goals try first | rfl | assumption | omega))
    · (repeat first | refine G1 ?_ | refine G2 ?_ | refine G3 ?_ | refine G4 ?_ | refine G5 rfl ?_ | refine G6 rfl ?_ | refine G7 rfl ?_)
      (focus (refine R0 ?_; refine lM ?_; refine lA ?_; refine R1 ?_; rotate_left))

      (repeat first | refine G1 ?_ | refine G2 ?_ | refine G3 ?_ | refine G4 ?_ | refine G5 rfl ?_ | refine G6 rfl ?_ | refine G7 rfl ?_)
      (refine Run.ret1 Tryd.results27 (by rfl) ?_)
      refine Ent.hex t (Ent.hex ts (Ent.flat ?_))
      have e : xs.take i.toNat = xs := List.take_of_length_le (by omega)
      rw [e]
      (focus ((repeat first | refine E1 ?_ ?_ | refine E2 ?_ | refine E3 ?_ | refine E4 ?_ | refine E5 ?_ | refine E6 ?_ | refine E7 ?_ | refine E8 ?_); exact E9; all_goals try first | rfl | assumption | omega))
end Go.Proofs.YtfldnnpcdjabnaaDoor
