/-
  skolemlaw19.IncrLimits, walked.
-/
import Derived.Test.YtfldnnpcdjabnaaDoorSee
set_option linter.unusedVariables false
set_option linter.unusedSimpArgs false
namespace Go.Proofs.YtfldnnpcdjabnaaDoor
open Go
theorem In.nilA {α : Type} {K : EK α} {ρ : Frag} : In (RArr K nilS.v []) ρ := ⟨fnil, ⟨by simp, none, 0, rfl, Nat.le_refl _, .inl rfl⟩, fnil_le _⟩
abbrev scr0 : ScriptS := ⟨[], [], [], [], 0, 0⟩
abbrev scrV0 : ScriptV := ⟨nilS, nilS, nilS, nilS⟩
theorem scr0_in {ρ : Frag} : ScriptIn ρ scr0 scrV0 := ⟨In.nilA, In.nilA, In.nilA, In.nilA⟩
abbrev sol0 (s : ScriptS) : SolS := ⟨EngS.grown ⟨PropS.none 1, 1, fun x => 1 ≤ x, paceOf s, [], [], [], [], 0, 16⟩ 1, 0, [], 0⟩
theorem Sized.grown {p : PropS} {n N : Nat} (h : Sized p n) (hN : n ≤ N) : Sized (p.grown N) N :=
  ⟨Nat.lt_of_lt_of_le h.pos hN, by rw [length_pad, h.vals]; omega, by rw [length_pad, h.level]; omega, by rw [length_pad, h.reason]; omega, by rw [length_pad, h.watch]; omega⟩
theorem EngOk.grown {e : EngS} {N : Nat} (h : EngOk e) (hN : e.n ≤ N) : EngOk (e.grown N) := ⟨h.sized.grown hN, by have := h.saved; simp only [EngS.grown, length_pad]; omega⟩
theorem sol0_ok (s : ScriptS) : SolOk (sol0 s) :=
  ⟨EngOk.grown (e := ⟨PropS.none 1, 1, fun x => 1 ≤ x, paceOf s, [], [], [], [], 0, 16⟩) ⟨⟨Nat.one_pos, rfl, rfl, rfl, rfl⟩, Nat.zero_le _⟩ (Nat.le_refl _), Int.le_refl _, by dsimp only; omega, ⟨Int.le_refl _, by dsimp only; omega⟩, Nat.zero_le _, rfl⟩
theorem SolOk.fresh {s : SolS} (h : SolOk s) (n : Int) : SolOk (s.fresh n) := by
  by_cases e : n < 1 ∨ 4000 - s.vars < n
  · rw [show s.fresh n = s from if_pos e]; exact h
  · rw [show s.fresh n = { s with e := s.e.grown (s.vars + n + 1).toNat, vars := s.vars + n } from if_neg e]
    have h1 := h.low
    have h2 := h.n
    exact ⟨h.eng.grown (by omega), by dsimp only; omega, by dsimp only; omega, h.many, h.size, by dsimp only [EngS.grown]; omega⟩
theorem fresh_vars {s : SolS} (n : Int) : (s.fresh n).vars = if n < 1 ∨ 4000 - s.vars < n then s.vars else s.vars + n := by
  by_cases e : n < 1 ∨ 4000 - s.vars < n
  · rw [show s.fresh n = s from if_pos e, if_pos e]
  · rw [show s.fresh n = { s with e := s.e.grown (s.vars + n + 1).toNat, vars := s.vars + n } from if_neg e, if_neg e]
theorem fresh_all {s : SolS} (n : Int) : (s.fresh n).all = s.all := by
  by_cases e : n < 1 ∨ 4000 - s.vars < n
  · rw [show s.fresh n = s from if_pos e]
  · rw [show s.fresh n = { s with e := s.e.grown (s.vars + n + 1).toNat, vars := s.vars + n } from if_neg e]
theorem rowOk_over (v : Int) : rowOk v [v + 1] = false := by
  have : ¬ (v + 1 ≤ v) := by omega
  simp [rowOk, isB, this]
attribute [local irreducible] Yields Does Run RunL AnyL Ct Reads Peek PeekN Poke Pick Fits Sub Ent Still Arr RArr Cells el stars In
theorem first19_ct (ρ : Frag) : Ct Tryd.prog 5 [] ρ [] (fun r => [pu (r = .bool true)]) := by
  have h1 := sol0_ok scr0
  have h2 := h1.fresh 2
  (refine Ct.of_run Tryd.func5 rfl Tryd.ntmps5 rfl (Nat.le_of_ble_eq_true rfl) ?_)
  (repeat first | refine G1 ?_ | refine G2 ?_ | refine G3 ?_ | refine G4 ?_ | refine G5 rfl ?_ | refine G6 rfl ?_ | refine G7 rfl ?_)
  (focus (refine R0 ?_; refine lA ?_; refine R1 ?_; rotate_left))

  (repeat first | refine G1 ?_ | refine G2 ?_ | refine G3 ?_ | refine G4 ?_ | refine G5 rfl ?_ | refine G6 rfl ?_ | refine G7 rfl ?_)
  (focus (refine R0 ?_; refine lv (by exact Ybd0) ?_; refine lc [] rfl rfl (fun _ hle hA => sol_new_ct _ scr0 scrV0 scr0_in) ?_; intro v3; (try dsimp only [List.cons_append, List.nil_append, List.append_nil]); (repeat (refine RunL.unpu fun h3 => ?_; try subst h3)); (refine RunL.unhex fun b => RunL.unhex fun q => RunL.flat ?_; ((dsimp only [SolF, HAppend.hAppend, Append.append, List.append, List.cons_append, List.nil_append, List.append_nil]); (try simp only [List.append_eq])); refine RunL.unpu fun h => ?_; subst h); refine lA ?_; refine R1 ?_; rotate_left))

  (repeat first | refine G1 ?_ | refine G2 ?_ | refine G3 ?_ | refine G4 ?_ | refine G5 rfl ?_ | refine G6 rfl ?_ | refine G7 rfl ?_)
  (repeat first | refine G1 ?_ | refine G2 ?_ | refine G3 ?_ | refine G4 ?_ | refine G5 rfl ?_ | refine G6 rfl ?_ | refine G7 rfl ?_)
  (focus (refine R0 ?_; refine lM ?_; refine lv (by first | exact Yields.neqPN rfl | exact Yields.neqSN rfl | exact Yields.neqIN rfl | exact Yields.neqIV rfl) ?_; refine lM ?_; refine lT ?_; refine lM ?_; refine lT ?_; refine lc [] rfl rfl (fun _ hle hA => fresh_ct _ b (sol0 scr0) q 2 h1) ?_; intro v8; (try dsimp only [List.cons_append, List.nil_append, List.append_nil]); (repeat (refine RunL.unpu fun h8 => ?_; try subst h8)); (refine RunL.unhex fun q1 => RunL.flat ?_; ((dsimp only [SolF, HAppend.hAppend, Append.append, List.append, List.cons_append, List.nil_append, List.append_nil]); (try simp only [List.append_eq])); refine RunL.unpu fun h => ?_; subst h); refine lT ?_; refine lv (by exact Yeq) ?_; refine lv (by first | exact YpT | exact YpF | exact Yields.pickB rfl rfl rfl) ?_; refine lM ?_; refine RunL.isT (t := 11) rfl (by decide) ?_; refine lT ?_; refine lM ?_; refine lT ?_; refine lc (SolF b ((sol0 scr0).fresh 2) q1) rfl rfl (fun _ hle hA => sol_vars_ct _ b _ q1 hA) ?_; intro v13; (try dsimp only [List.cons_append, List.nil_append, List.append_nil]); (repeat (refine RunL.unpu fun h13 => ?_; try subst h13)); refine lT ?_; refine lv (by exact Yeq) ?_; refine lv (by first | exact YpT | exact YpF | exact Yields.pickB rfl rfl rfl) ?_; refine lM ?_; refine RunL.isT (t := 16) rfl (by decide) ?_; refine lT ?_; refine lM ?_; refine lT ?_; refine lc [] rfl rfl (fun _ hle hA => fresh_ct _ b ((sol0 scr0).fresh 2) q1 0 h2) ?_; intro v18; (try dsimp only [List.cons_append, List.nil_append, List.append_nil]); (repeat (refine RunL.unpu fun h18 => ?_; try subst h18)); (refine RunL.unhex fun q2 => RunL.flat ?_; ((dsimp only [SolF, HAppend.hAppend, Append.append, List.append, List.cons_append, List.nil_append, List.append_nil]); (try simp only [List.append_eq])); refine RunL.unpu fun h => ?_; subst h); refine lT ?_; refine lv (by exact Yeq) ?_; refine lv (by first | exact YpT | exact YpF | exact Yields.pickB rfl rfl rfl) ?_; refine lA ?_; refine R1 ?_; rotate_left))

  (repeat first | refine G1 ?_ | refine G2 ?_ | refine G3 ?_ | refine G4 ?_ | refine G5 rfl ?_ | refine G6 rfl ?_ | refine G7 rfl ?_)
  (refine Run.ret1 Tryd.results5 (by rfl) ?_)
  (focus ((repeat first | refine E1 ?_ ?_ | refine E2 ?_ | refine E3 ?_ | refine E4 ?_ | refine E5 ?_ | refine E6 ?_ | refine E7 ?_ | refine E8 ?_); exact E9; all_goals try first | rfl | assumption | omega))
theorem incrLimits_ct (ρ : Frag) (er : Nat → Addr) (a b : Int) (ha : -9223372036854775808 ≤ a) (ha' : a ≤ 9223372036854775807) (hb : -9223372036854775808 ≤ b) (hb' : b ≤ 9223372036854775807) (hE : Errs ρ er) :
    Ct Tryd.prog 3 [int a, int b] ρ [] (fun r => [pu (r = .bool true)]) := by
  have h1 := sol0_ok scr0
  (refine Ct.of_run Tryd.func3 rfl Tryd.ntmps3 rfl (Nat.le_of_ble_eq_true rfl) ?_)
  (repeat first | refine G1 ?_ | refine G2 ?_ | refine G3 ?_ | refine G4 ?_ | refine G5 rfl ?_ | refine G6 rfl ?_ | refine G7 rfl ?_)
  (focus (refine R0 ?_; refine lA ?_; refine R1 ?_; rotate_left))

  (repeat first | refine G1 ?_ | refine G2 ?_ | refine G3 ?_ | refine G4 ?_ | refine G5 rfl ?_ | refine G6 rfl ?_ | refine G7 rfl ?_)
  (focus (refine R0 ?_; refine lc [] rfl rfl (fun _ hle hA => first19_ct _) ?_; intro v13; (try dsimp only [List.cons_append, List.nil_append, List.append_nil]); (repeat (refine RunL.unpu fun h13 => ?_; try subst h13)); refine lA ?_; refine R1 ?_; rotate_left))

  (repeat first | refine G1 ?_ | refine G2 ?_ | refine G3 ?_ | refine G4 ?_ | refine G5 rfl ?_ | refine G6 rfl ?_ | refine G7 rfl ?_)
  (focus (refine R0 ?_; refine lM ?_; refine lv (by first | exact YnP | exact Ynt) ?_; refine R1 ?_; rotate_left))

  (repeat first | refine G1 ?_ | refine G2 ?_ | refine G3 ?_ | refine G4 ?_ | refine G5 rfl ?_ | refine G6 rfl ?_ | refine G7 rfl ?_)
  (repeat first | refine G1 ?_ | refine G2 ?_ | refine G3 ?_ | refine G4 ?_ | refine G5 rfl ?_ | refine G6 rfl ?_ | refine G7 rfl ?_)
  (focus (refine R0 ?_; refine lM ?_; refine lc [] rfl rfl (fun _ hle hA => number_ct _ a 5000 (by omega) (by omega) ha ha') ?_; intro v17; (try dsimp only [List.cons_append, List.nil_append, List.append_nil]); (repeat (refine RunL.unpu fun h17 => ?_; try subst h17)); (refine RunL.unhex fun x => RunL.unpu fun hx => ?_; obtain ⟨rfl, x0, x1⟩ := hx); refine lv (by exact Yad) ?_; refine lA ?_; refine R1 ?_; rotate_left))

  (repeat first | refine G1 ?_ | refine G2 ?_ | refine G3 ?_ | refine G4 ?_ | refine G5 rfl ?_ | refine G6 rfl ?_ | refine G7 rfl ?_)
  (repeat first | refine G1 ?_ | refine G2 ?_ | refine G3 ?_ | refine G4 ?_ | refine G5 rfl ?_ | refine G6 rfl ?_ | refine G7 rfl ?_)
  (focus (refine R0 ?_; refine lM ?_; refine lc [] rfl rfl (fun _ hle hA => number_ct _ b 5000 (by omega) (by omega) hb hb') ?_; intro v20; (try dsimp only [List.cons_append, List.nil_append, List.append_nil]); (repeat (refine RunL.unpu fun h20 => ?_; try subst h20)); (refine RunL.unhex fun y => RunL.unpu fun hy => ?_; obtain ⟨rfl, y0, y1⟩ := hy); refine lv (by exact Yad) ?_; refine lA ?_; refine R1 ?_; rotate_left))

  (repeat first | refine G1 ?_ | refine G2 ?_ | refine G3 ?_ | refine G4 ?_ | refine G5 rfl ?_ | refine G6 rfl ?_ | refine G7 rfl ?_)
  (repeat first | refine G1 ?_ | refine G2 ?_ | refine G3 ?_ | refine G4 ?_ | refine G5 rfl ?_ | refine G6 rfl ?_ | refine G7 rfl ?_)
  (focus (refine R0 ?_; refine lv (by exact Ybd0) ?_; refine lc [] rfl rfl (fun _ hle hA => sol_new_ct _ scr0 scrV0 scr0_in) ?_; intro v23; (try dsimp only [List.cons_append, List.nil_append, List.append_nil]); (repeat (refine RunL.unpu fun h23 => ?_; try subst h23)); (refine RunL.unhex fun bs => RunL.unhex fun q => RunL.flat ?_; ((dsimp only [SolF, HAppend.hAppend, Append.append, List.append, List.cons_append, List.nil_append, List.append_nil]); (try simp only [List.append_eq])); refine RunL.unpu fun h => ?_; subst h); refine lA ?_; refine R1 ?_; rotate_left))

  (repeat first | refine G1 ?_ | refine G2 ?_ | refine G3 ?_ | refine G4 ?_ | refine G5 rfl ?_ | refine G6 rfl ?_ | refine G7 rfl ?_)
  have h2 := h1.fresh (x + 1)
  have h3 := h2.fresh (y + 1)
  (repeat first | refine G1 ?_ | refine G2 ?_ | refine G3 ?_ | refine G4 ?_ | refine G5 rfl ?_ | refine G6 rfl ?_ | refine G7 rfl ?_)
  (focus (refine R0 ?_; refine lM ?_; refine lv (by first | exact Yields.eqlPN rfl | exact Yields.eqlSN rfl | exact Yields.eqlIN rfl | exact Yields.eqlIV rfl) ?_; refine R1 ?_; rotate_left))

  (repeat first | refine G1 ?_ | refine G2 ?_ | refine G3 ?_ | refine G4 ?_ | refine G5 rfl ?_ | refine G6 rfl ?_ | refine G7 rfl ?_)
  (repeat first | refine G1 ?_ | refine G2 ?_ | refine G3 ?_ | refine G4 ?_ | refine G5 rfl ?_ | refine G6 rfl ?_ | refine G7 rfl ?_)
  (focus (refine R0 ?_; refine lM ?_; refine lM ?_; refine lc [] rfl rfl (fun _ hle hA => fresh_ct _ bs (sol0 scr0) q (x + 1) h1) ?_; intro v28; (try dsimp only [List.cons_append, List.nil_append, List.append_nil]); (repeat (refine RunL.unpu fun h28 => ?_; try subst h28)); (refine RunL.unhex fun q1 => RunL.flat ?_; ((dsimp only [SolF, HAppend.hAppend, Append.append, List.append, List.cons_append, List.nil_append, List.append_nil]); (try simp only [List.append_eq])); refine RunL.unpu fun h => ?_; subst h); refine lA ?_; refine R1 ?_; rotate_left))

  (repeat first | refine G1 ?_ | refine G2 ?_ | refine G3 ?_ | refine G4 ?_ | refine G5 rfl ?_ | refine G6 rfl ?_ | refine G7 rfl ?_)
  (repeat first | refine G1 ?_ | refine G2 ?_ | refine G3 ?_ | refine G4 ?_ | refine G5 rfl ?_ | refine G6 rfl ?_ | refine G7 rfl ?_)
  (focus (refine R0 ?_; refine lM ?_; refine lM ?_; refine lc [] rfl rfl (fun _ hle hA => fresh_ct _ bs ((sol0 scr0).fresh (x + 1)) q1 (y + 1) h2) ?_; intro v31; (try dsimp only [List.cons_append, List.nil_append, List.append_nil]); (repeat (refine RunL.unpu fun h31 => ?_; try subst h31)); (refine RunL.unhex fun q2 => RunL.flat ?_; ((dsimp only [SolF, HAppend.hAppend, Append.append, List.append, List.cons_append, List.nil_append, List.append_nil]); (try simp only [List.append_eq])); refine RunL.unpu fun h => ?_; subst h); refine lA ?_; refine R1 ?_; rotate_left))

  (repeat first | refine G1 ?_ | refine G2 ?_ | refine G3 ?_ | refine G4 ?_ | refine G5 rfl ?_ | refine G6 rfl ?_ | refine G7 rfl ?_)
  have hv2 : ((sol0 scr0).fresh (x + 1)).vars = if x + 1 < 1 ∨ 4000 - (0 : Int) < x + 1 then 0 else 0 + (x + 1) := fresh_vars _
  have hv3 := fresh_vars (s := (sol0 scr0).fresh (x + 1)) (y + 1)
  have hall : (((sol0 scr0).fresh (x + 1)).fresh (y + 1)).all = [] := (fresh_all _).trans (fresh_all _)
  generalize ((sol0 scr0).fresh (x + 1)).fresh (y + 1) = s2 at h3 hv3 hall ⊢
  generalize ((sol0 scr0).fresh (x + 1)).vars = V1 at hv2 hv3 ⊢
  generalize hX : (if x + 1 < 1 ∨ 4000 - (0 : Int) < x + 1 then (0 : Int) else 0 + 1) = X
  generalize hY : (if y + 1 < 1 ∨ 4000 - V1 < y + 1 then (0 : Int) else V1 + 1) = Y
  have low := h3.low
  have high := h3.high
  (repeat first | refine G1 ?_ | refine G2 ?_ | refine G3 ?_ | refine G4 ?_ | refine G5 rfl ?_ | refine G6 rfl ?_ | refine G7 rfl ?_)
  (focus (refine R0 ?_; refine lA ?_; refine R1 ?_; rotate_left))

  (repeat first | refine G1 ?_ | refine G2 ?_ | refine G3 ?_ | refine G4 ?_ | refine G5 rfl ?_ | refine G6 rfl ?_ | refine G7 rfl ?_)
  (focus (refine R0 ?_; refine lM ?_; refine lv (by exact Yle) ?_; refine R1 ?_; rotate_left))

  (repeat first | refine G1 ?_ | refine G2 ?_ | refine G3 ?_ | refine G4 ?_ | refine G5 rfl ?_ | refine G6 rfl ?_ | refine G7 rfl ?_)
  refine Run.condP rfl (fun c => ?_) (fun c => ?_)
  · have e1 : X = 1 ∧ V1 = x + 1 := by split at hX <;> split at hv2 <;> omega
    (repeat first | refine G1 ?_ | refine G2 ?_ | refine G3 ?_ | refine G4 ?_ | refine G5 rfl ?_ | refine G6 rfl ?_ | refine G7 rfl ?_)
    (focus (refine R0 ?_; refine lA ?_; refine R1 ?_; rotate_left))

    (repeat first | refine G1 ?_ | refine G2 ?_ | refine G3 ?_ | refine G4 ?_ | refine G5 rfl ?_ | refine G6 rfl ?_ | refine G7 rfl ?_)
    (focus (refine R0 ?_; refine lM ?_; refine lM ?_; refine lv (by exact Yml) ?_; refine lA ?_; refine R1 ?_; rotate_left))

    (repeat first | refine G1 ?_ | refine G2 ?_ | refine G3 ?_ | refine G4 ?_ | refine G5 rfl ?_ | refine G6 rfl ?_ | refine G7 rfl ?_)
    (focus (refine R0 ?_; refine lA ?_; refine R1 ?_; rotate_left))

    (repeat first | refine G1 ?_ | refine G2 ?_ | refine G3 ?_ | refine G4 ?_ | refine G5 rfl ?_ | refine G6 rfl ?_ | refine G7 rfl ?_)
    (focus (refine R0 ?_; refine lM ?_; refine lM ?_; refine lv (by exact Yad) ?_; refine lv (by exact Yle) ?_; refine R1 ?_; rotate_left))

    (repeat first | refine G1 ?_ | refine G2 ?_ | refine G3 ?_ | refine G4 ?_ | refine G5 rfl ?_ | refine G6 rfl ?_ | refine G7 rfl ?_)
    refine Run.condP rfl (fun c2 => ?_) (fun c2 => ?_)
    · have e2 : Y = V1 + 1 ∧ s2.vars = V1 + (y + 1) := by split at hY <;> split at hv3 <;> omega
      (repeat first | refine G1 ?_ | refine G2 ?_ | refine G3 ?_ | refine G4 ?_ | refine G5 rfl ?_ | refine G6 rfl ?_ | refine G7 rfl ?_)
      (focus (refine R0 ?_; refine lM ?_; refine lv (by exact Yad) ?_; refine lA ?_; refine R1 ?_; rotate_left))

      (repeat first | refine G1 ?_ | refine G2 ?_ | refine G3 ?_ | refine G4 ?_ | refine G5 rfl ?_ | refine G6 rfl ?_ | refine G7 rfl ?_)
      (focus (refine R0 ?_; refine lM ?_; refine lM ?_; refine lv (by exact Yad) ?_; refine lA ?_; refine R1 ?_; rotate_left))

      (repeat first | refine G1 ?_ | refine G2 ?_ | refine G3 ?_ | refine G4 ?_ | refine G5 rfl ?_ | refine G6 rfl ?_ | refine G7 rfl ?_)
      refine Run.weaken (e' := [(5, .bool true), (6, ptr bs), (7, int X), (8, int Y), (9, int X), (10, int s2.vars), (11, int Y)]) (by
        refine Sub.cons rfl (Sub.cons rfl (Sub.cons rfl (Sub.cons rfl (Sub.cons ?_ (Sub.cons ?_ (Sub.cons ?_ (Sub.nil _))))))) <;> exact congrArg (fun z => some (int z)) (by omega)) (Ent.refl _) ?_
      (repeat first | refine G1 ?_ | refine G2 ?_ | refine G3 ?_ | refine G4 ?_ | refine G5 rfl ?_ | refine G6 rfl ?_ | refine G7 rfl ?_)
      (focus (refine R0 ?_; refine lM ?_; refine lM ?_; refine lv (by exact Yad) ?_; refine leS (by exact Db1) ?_; intro v49; (try dsimp only [List.cons_append, List.nil_append, List.append_nil]); refine lc [Arr KInt v49.v [s2.vars + 1]] rfl rfl (fun _ hle hA => add_bad_ct _ bs s2 q2 v49 [s2.vars + 1] er h3 hA.stars_one.read (hE.mono hle) (rowOk_over _)) ?_; intro v50; (try dsimp only [List.cons_append, List.nil_append, List.append_nil]); (repeat (refine RunL.unpu fun h50 => ?_; try subst h50)); refine lA ?_; refine R1 ?_; rotate_left))

      (repeat first | refine G1 ?_ | refine G2 ?_ | refine G3 ?_ | refine G4 ?_ | refine G5 rfl ?_ | refine G6 rfl ?_ | refine G7 rfl ?_)
      (focus (refine R0 ?_; refine lM ?_; refine lM ?_; refine lT ?_; refine lM ?_; refine lT ?_; refine lM ?_; refine lT ?_; refine lv (by exact Yeq) ?_; refine lv (by first | exact YpT | exact YpF | exact Yields.pickB rfl rfl rfl) ?_; refine lM ?_; refine RunL.isT (t := 57) rfl rfl ?_; refine lT ?_; refine lM ?_; refine lT ?_; refine lM ?_; refine lT ?_; refine lv (by exact Yeq) ?_; refine lv (by first | exact YpT | exact YpF | exact Yields.pickB rfl rfl rfl) ?_; refine lM ?_; refine RunL.isT (t := 62) rfl rfl ?_; refine lT ?_; refine lM ?_; refine lT ?_; refine lc (SolF bs s2 q2) rfl rfl (fun _ hle hA => sol_vars_ct _ bs s2 q2 hA) ?_; intro v64; (try dsimp only [List.cons_append, List.nil_append, List.append_nil]); (repeat (refine RunL.unpu fun h64 => ?_; try subst h64)); refine lT ?_; refine lM ?_; refine lT ?_; refine lv (by exact Yeq) ?_; refine lv (by first | exact YpT | exact YpF | exact Yields.pickB rfl rfl rfl) ?_; refine lM ?_; refine RunL.isT (t := 68) rfl rfl ?_; refine lT ?_; refine lM ?_; refine lT ?_; refine lc [] rfl rfl (fun _ hle hA => see_is_ct _ (errV er (rd sents 3)) (101 + 3) 0 104 false (isFault_err (hE.mono hle) (by omega) (by omega))) ?_; intro v70; (try dsimp only [List.cons_append, List.nil_append, List.append_nil]); (repeat (refine RunL.unpu fun h70 => ?_; try subst h70)); refine lv (by first | exact YpT | exact YpF | exact Yields.pickB rfl rfl rfl) ?_; refine lM ?_; refine RunL.isT (t := 72) rfl (by decide) ?_; refine lT ?_; refine lM ?_; refine lT ?_; refine lc (SolF bs s2 q2) rfl rfl (fun _ hle hA => all_ct _ bs s2 q2 h3 hA) ?_; intro v74; (try dsimp only [List.cons_append, List.nil_append, List.append_nil]); (repeat (refine RunL.unpu fun h74 => ?_; try subst h74)); (refine RunL.unhex fun t => RunL.unhex fun ts => RunL.flat ?_; ((dsimp only [SolF, HAppend.hAppend, Append.append, List.append, List.cons_append, List.nil_append, List.append_nil]); (try simp only [List.append_eq])); refine RunL.unpu fun h => ?_; subst h); refine lT ?_; refine lv (by exact Yfd) ?_; refine lT ?_; refine lE ?_; refine lT ?_; refine lv (by exact Yeq) ?_; refine lv (by first | exact YpT | exact YpF | exact Yields.pickB rfl rfl rfl) ?_; refine lA ?_; refine R1 ?_; rotate_left))

      (repeat first | refine G1 ?_ | refine G2 ?_ | refine G3 ?_ | refine G4 ?_ | refine G5 rfl ?_ | refine G6 rfl ?_ | refine G7 rfl ?_)
      refine Run.bagLen (K := KInt) (ss := ts) (xs := s2.all) (by (repeat (first | with_reducible exact Pick.here | with_reducible apply Pick.there))) fun hb => ?_
      (refine Run.ret1 Tryd.results3 (by rfl) ?_)
      (focus ((repeat first | refine E1 ?_ ?_ | refine E2 ?_ | refine E3 ?_ | refine E4 ?_ | refine E5 ?_ | refine E6 ?_ | refine E7 ?_ | refine E8 ?_); exact E9; all_goals try first | rfl | assumption | omega))
      rw [hb, hall]; rfl
    · have e2 : Y = 0 ∧ s2.vars = V1 := by split at hY <;> split at hv3 <;> omega
      (repeat first | refine G1 ?_ | refine G2 ?_ | refine G3 ?_ | refine G4 ?_ | refine G5 rfl ?_ | refine G6 rfl ?_ | refine G7 rfl ?_)
      refine Run.weaken (e' := [(5, .bool true), (6, ptr bs), (7, int X), (8, int Y), (9, int X), (10, int s2.vars), (11, int Y)]) (by
        refine Sub.cons rfl (Sub.cons rfl (Sub.cons rfl (Sub.cons rfl (Sub.cons ?_ (Sub.cons ?_ (Sub.cons ?_ (Sub.nil _))))))) <;> exact congrArg (fun z => some (int z)) (by omega)) (Ent.refl _) ?_
      (repeat first | refine G1 ?_ | refine G2 ?_ | refine G3 ?_ | refine G4 ?_ | refine G5 rfl ?_ | refine G6 rfl ?_ | refine G7 rfl ?_)
      (focus (refine R0 ?_; refine lM ?_; refine lM ?_; refine lv (by exact Yad) ?_; refine leS (by exact Db1) ?_; intro v49; (try dsimp only [List.cons_append, List.nil_append, List.append_nil]); refine lc [Arr KInt v49.v [s2.vars + 1]] rfl rfl (fun _ hle hA => add_bad_ct _ bs s2 q2 v49 [s2.vars + 1] er h3 hA.stars_one.read (hE.mono hle) (rowOk_over _)) ?_; intro v50; (try dsimp only [List.cons_append, List.nil_append, List.append_nil]); (repeat (refine RunL.unpu fun h50 => ?_; try subst h50)); refine lA ?_; refine R1 ?_; rotate_left))

      (repeat first | refine G1 ?_ | refine G2 ?_ | refine G3 ?_ | refine G4 ?_ | refine G5 rfl ?_ | refine G6 rfl ?_ | refine G7 rfl ?_)
      (focus (refine R0 ?_; refine lM ?_; refine lM ?_; refine lT ?_; refine lM ?_; refine lT ?_; refine lM ?_; refine lT ?_; refine lv (by exact Yeq) ?_; refine lv (by first | exact YpT | exact YpF | exact Yields.pickB rfl rfl rfl) ?_; refine lM ?_; refine RunL.isT (t := 57) rfl rfl ?_; refine lT ?_; refine lM ?_; refine lT ?_; refine lM ?_; refine lT ?_; refine lv (by exact Yeq) ?_; refine lv (by first | exact YpT | exact YpF | exact Yields.pickB rfl rfl rfl) ?_; refine lM ?_; refine RunL.isT (t := 62) rfl rfl ?_; refine lT ?_; refine lM ?_; refine lT ?_; refine lc (SolF bs s2 q2) rfl rfl (fun _ hle hA => sol_vars_ct _ bs s2 q2 hA) ?_; intro v64; (try dsimp only [List.cons_append, List.nil_append, List.append_nil]); (repeat (refine RunL.unpu fun h64 => ?_; try subst h64)); refine lT ?_; refine lM ?_; refine lT ?_; refine lv (by exact Yeq) ?_; refine lv (by first | exact YpT | exact YpF | exact Yields.pickB rfl rfl rfl) ?_; refine lM ?_; refine RunL.isT (t := 68) rfl rfl ?_; refine lT ?_; refine lM ?_; refine lT ?_; refine lc [] rfl rfl (fun _ hle hA => see_is_ct _ (errV er (rd sents 3)) (101 + 3) 0 104 false (isFault_err (hE.mono hle) (by omega) (by omega))) ?_; intro v70; (try dsimp only [List.cons_append, List.nil_append, List.append_nil]); (repeat (refine RunL.unpu fun h70 => ?_; try subst h70)); refine lv (by first | exact YpT | exact YpF | exact Yields.pickB rfl rfl rfl) ?_; refine lM ?_; refine RunL.isT (t := 72) rfl (by decide) ?_; refine lT ?_; refine lM ?_; refine lT ?_; refine lc (SolF bs s2 q2) rfl rfl (fun _ hle hA => all_ct _ bs s2 q2 h3 hA) ?_; intro v74; (try dsimp only [List.cons_append, List.nil_append, List.append_nil]); (repeat (refine RunL.unpu fun h74 => ?_; try subst h74)); (refine RunL.unhex fun t => RunL.unhex fun ts => RunL.flat ?_; ((dsimp only [SolF, HAppend.hAppend, Append.append, List.append, List.cons_append, List.nil_append, List.append_nil]); (try simp only [List.append_eq])); refine RunL.unpu fun h => ?_; subst h); refine lT ?_; refine lv (by exact Yfd) ?_; refine lT ?_; refine lE ?_; refine lT ?_; refine lv (by exact Yeq) ?_; refine lv (by first | exact YpT | exact YpF | exact Yields.pickB rfl rfl rfl) ?_; refine lA ?_; refine R1 ?_; rotate_left))

      (repeat first | refine G1 ?_ | refine G2 ?_ | refine G3 ?_ | refine G4 ?_ | refine G5 rfl ?_ | refine G6 rfl ?_ | refine G7 rfl ?_)
      refine Run.bagLen (K := KInt) (ss := ts) (xs := s2.all) (by (repeat (first | with_reducible exact Pick.here | with_reducible apply Pick.there))) fun hb => ?_
      (refine Run.ret1 Tryd.results3 (by rfl) ?_)
      (focus ((repeat first | refine E1 ?_ ?_ | refine E2 ?_ | refine E3 ?_ | refine E4 ?_ | refine E5 ?_ | refine E6 ?_ | refine E7 ?_ | refine E8 ?_); exact E9; all_goals try first | rfl | assumption | omega))
      rw [hb, hall]; rfl
  · have e1 : X = 0 ∧ V1 = 0 := by split at hX <;> split at hv2 <;> omega
    (repeat first | refine G1 ?_ | refine G2 ?_ | refine G3 ?_ | refine G4 ?_ | refine G5 rfl ?_ | refine G6 rfl ?_ | refine G7 rfl ?_)
    (focus (refine R0 ?_; refine lM ?_; refine lM ?_; refine lv (by exact Yml) ?_; refine lA ?_; refine R1 ?_; rotate_left))

    (repeat first | refine G1 ?_ | refine G2 ?_ | refine G3 ?_ | refine G4 ?_ | refine G5 rfl ?_ | refine G6 rfl ?_ | refine G7 rfl ?_)
    (focus (refine R0 ?_; refine lA ?_; refine R1 ?_; rotate_left))

    (repeat first | refine G1 ?_ | refine G2 ?_ | refine G3 ?_ | refine G4 ?_ | refine G5 rfl ?_ | refine G6 rfl ?_ | refine G7 rfl ?_)
    (focus (refine R0 ?_; refine lM ?_; refine lM ?_; refine lv (by exact Yad) ?_; refine lv (by exact Yle) ?_; refine R1 ?_; rotate_left))

    (repeat first | refine G1 ?_ | refine G2 ?_ | refine G3 ?_ | refine G4 ?_ | refine G5 rfl ?_ | refine G6 rfl ?_ | refine G7 rfl ?_)
    refine Run.condP rfl (fun c2 => ?_) (fun c2 => ?_)
    · have e2 : Y = V1 + 1 ∧ s2.vars = V1 + (y + 1) := by split at hY <;> split at hv3 <;> omega
      (repeat first | refine G1 ?_ | refine G2 ?_ | refine G3 ?_ | refine G4 ?_ | refine G5 rfl ?_ | refine G6 rfl ?_ | refine G7 rfl ?_)
      (focus (refine R0 ?_; refine lM ?_; refine lv (by exact Yad) ?_; refine lA ?_; refine R1 ?_; rotate_left))

      (repeat first | refine G1 ?_ | refine G2 ?_ | refine G3 ?_ | refine G4 ?_ | refine G5 rfl ?_ | refine G6 rfl ?_ | refine G7 rfl ?_)
      (focus (refine R0 ?_; refine lM ?_; refine lM ?_; refine lv (by exact Yad) ?_; refine lA ?_; refine R1 ?_; rotate_left))

      (repeat first | refine G1 ?_ | refine G2 ?_ | refine G3 ?_ | refine G4 ?_ | refine G5 rfl ?_ | refine G6 rfl ?_ | refine G7 rfl ?_)
      refine Run.weaken (e' := [(5, .bool true), (6, ptr bs), (7, int X), (8, int Y), (9, int X), (10, int s2.vars), (11, int Y)]) (by
        refine Sub.cons rfl (Sub.cons rfl (Sub.cons rfl (Sub.cons rfl (Sub.cons ?_ (Sub.cons ?_ (Sub.cons ?_ (Sub.nil _))))))) <;> exact congrArg (fun z => some (int z)) (by omega)) (Ent.refl _) ?_
      (repeat first | refine G1 ?_ | refine G2 ?_ | refine G3 ?_ | refine G4 ?_ | refine G5 rfl ?_ | refine G6 rfl ?_ | refine G7 rfl ?_)
      (focus (refine R0 ?_; refine lM ?_; refine lM ?_; refine lv (by exact Yad) ?_; refine leS (by exact Db1) ?_; intro v49; (try dsimp only [List.cons_append, List.nil_append, List.append_nil]); refine lc [Arr KInt v49.v [s2.vars + 1]] rfl rfl (fun _ hle hA => add_bad_ct _ bs s2 q2 v49 [s2.vars + 1] er h3 hA.stars_one.read (hE.mono hle) (rowOk_over _)) ?_; intro v50; (try dsimp only [List.cons_append, List.nil_append, List.append_nil]); (repeat (refine RunL.unpu fun h50 => ?_; try subst h50)); refine lA ?_; refine R1 ?_; rotate_left))

      (repeat first | refine G1 ?_ | refine G2 ?_ | refine G3 ?_ | refine G4 ?_ | refine G5 rfl ?_ | refine G6 rfl ?_ | refine G7 rfl ?_)
      (focus (refine R0 ?_; refine lM ?_; refine lM ?_; refine lT ?_; refine lM ?_; refine lT ?_; refine lM ?_; refine lT ?_; refine lv (by exact Yeq) ?_; refine lv (by first | exact YpT | exact YpF | exact Yields.pickB rfl rfl rfl) ?_; refine lM ?_; refine RunL.isT (t := 57) rfl rfl ?_; refine lT ?_; refine lM ?_; refine lT ?_; refine lM ?_; refine lT ?_; refine lv (by exact Yeq) ?_; refine lv (by first | exact YpT | exact YpF | exact Yields.pickB rfl rfl rfl) ?_; refine lM ?_; refine RunL.isT (t := 62) rfl rfl ?_; refine lT ?_; refine lM ?_; refine lT ?_; refine lc (SolF bs s2 q2) rfl rfl (fun _ hle hA => sol_vars_ct _ bs s2 q2 hA) ?_; intro v64; (try dsimp only [List.cons_append, List.nil_append, List.append_nil]); (repeat (refine RunL.unpu fun h64 => ?_; try subst h64)); refine lT ?_; refine lM ?_; refine lT ?_; refine lv (by exact Yeq) ?_; refine lv (by first | exact YpT | exact YpF | exact Yields.pickB rfl rfl rfl) ?_; refine lM ?_; refine RunL.isT (t := 68) rfl rfl ?_; refine lT ?_; refine lM ?_; refine lT ?_; refine lc [] rfl rfl (fun _ hle hA => see_is_ct _ (errV er (rd sents 3)) (101 + 3) 0 104 false (isFault_err (hE.mono hle) (by omega) (by omega))) ?_; intro v70; (try dsimp only [List.cons_append, List.nil_append, List.append_nil]); (repeat (refine RunL.unpu fun h70 => ?_; try subst h70)); refine lv (by first | exact YpT | exact YpF | exact Yields.pickB rfl rfl rfl) ?_; refine lM ?_; refine RunL.isT (t := 72) rfl (by decide) ?_; refine lT ?_; refine lM ?_; refine lT ?_; refine lc (SolF bs s2 q2) rfl rfl (fun _ hle hA => all_ct _ bs s2 q2 h3 hA) ?_; intro v74; (try dsimp only [List.cons_append, List.nil_append, List.append_nil]); (repeat (refine RunL.unpu fun h74 => ?_; try subst h74)); (refine RunL.unhex fun t => RunL.unhex fun ts => RunL.flat ?_; ((dsimp only [SolF, HAppend.hAppend, Append.append, List.append, List.cons_append, List.nil_append, List.append_nil]); (try simp only [List.append_eq])); refine RunL.unpu fun h => ?_; subst h); refine lT ?_; refine lv (by exact Yfd) ?_; refine lT ?_; refine lE ?_; refine lT ?_; refine lv (by exact Yeq) ?_; refine lv (by first | exact YpT | exact YpF | exact Yields.pickB rfl rfl rfl) ?_; refine lA ?_; refine R1 ?_; rotate_left))

      (repeat first | refine G1 ?_ | refine G2 ?_ | refine G3 ?_ | refine G4 ?_ | refine G5 rfl ?_ | refine G6 rfl ?_ | refine G7 rfl ?_)
      refine Run.bagLen (K := KInt) (ss := ts) (xs := s2.all) (by (repeat (first | with_reducible exact Pick.here | with_reducible apply Pick.there))) fun hb => ?_
      (refine Run.ret1 Tryd.results3 (by rfl) ?_)
      (focus ((repeat first | refine E1 ?_ ?_ | refine E2 ?_ | refine E3 ?_ | refine E4 ?_ | refine E5 ?_ | refine E6 ?_ | refine E7 ?_ | refine E8 ?_); exact E9; all_goals try first | rfl | assumption | omega))
      rw [hb, hall]; rfl
    · have e2 : Y = 0 ∧ s2.vars = V1 := by split at hY <;> split at hv3 <;> omega
      (repeat first | refine G1 ?_ | refine G2 ?_ | refine G3 ?_ | refine G4 ?_ | refine G5 rfl ?_ | refine G6 rfl ?_ | refine G7 rfl ?_)
      refine Run.weaken (e' := [(5, .bool true), (6, ptr bs), (7, int X), (8, int Y), (9, int X), (10, int s2.vars), (11, int Y)]) (by
        refine Sub.cons rfl (Sub.cons rfl (Sub.cons rfl (Sub.cons rfl (Sub.cons ?_ (Sub.cons ?_ (Sub.cons ?_ (Sub.nil _))))))) <;> exact congrArg (fun z => some (int z)) (by omega)) (Ent.refl _) ?_
      (repeat first | refine G1 ?_ | refine G2 ?_ | refine G3 ?_ | refine G4 ?_ | refine G5 rfl ?_ | refine G6 rfl ?_ | refine G7 rfl ?_)
      (focus (refine R0 ?_; refine lM ?_; refine lM ?_; refine lv (by exact Yad) ?_; refine leS (by exact Db1) ?_; intro v49; (try dsimp only [List.cons_append, List.nil_append, List.append_nil]); refine lc [Arr KInt v49.v [s2.vars + 1]] rfl rfl (fun _ hle hA => add_bad_ct _ bs s2 q2 v49 [s2.vars + 1] er h3 hA.stars_one.read (hE.mono hle) (rowOk_over _)) ?_; intro v50; (try dsimp only [List.cons_append, List.nil_append, List.append_nil]); (repeat (refine RunL.unpu fun h50 => ?_; try subst h50)); refine lA ?_; refine R1 ?_; rotate_left))

      (repeat first | refine G1 ?_ | refine G2 ?_ | refine G3 ?_ | refine G4 ?_ | refine G5 rfl ?_ | refine G6 rfl ?_ | refine G7 rfl ?_)
      (focus (refine R0 ?_; refine lM ?_; refine lM ?_; refine lT ?_; refine lM ?_; refine lT ?_; refine lM ?_; refine lT ?_; refine lv (by exact Yeq) ?_; refine lv (by first | exact YpT | exact YpF | exact Yields.pickB rfl rfl rfl) ?_; refine lM ?_; refine RunL.isT (t := 57) rfl rfl ?_; refine lT ?_; refine lM ?_; refine lT ?_; refine lM ?_; refine lT ?_; refine lv (by exact Yeq) ?_; refine lv (by first | exact YpT | exact YpF | exact Yields.pickB rfl rfl rfl) ?_; refine lM ?_; refine RunL.isT (t := 62) rfl rfl ?_; refine lT ?_; refine lM ?_; refine lT ?_; refine lc (SolF bs s2 q2) rfl rfl (fun _ hle hA => sol_vars_ct _ bs s2 q2 hA) ?_; intro v64; (try dsimp only [List.cons_append, List.nil_append, List.append_nil]); (repeat (refine RunL.unpu fun h64 => ?_; try subst h64)); refine lT ?_; refine lM ?_; refine lT ?_; refine lv (by exact Yeq) ?_; refine lv (by first | exact YpT | exact YpF | exact Yields.pickB rfl rfl rfl) ?_; refine lM ?_; refine RunL.isT (t := 68) rfl rfl ?_; refine lT ?_; refine lM ?_; refine lT ?_; refine lc [] rfl rfl (fun _ hle hA => see_is_ct _ (errV er (rd sents 3)) (101 + 3) 0 104 false (isFault_err (hE.mono hle) (by omega) (by omega))) ?_; intro v70; (try dsimp only [List.cons_append, List.nil_append, List.append_nil]); (repeat (refine RunL.unpu fun h70 => ?_; try subst h70)); refine lv (by first | exact YpT | exact YpF | exact Yields.pickB rfl rfl rfl) ?_; refine lM ?_; refine RunL.isT (t := 72) rfl (by decide) ?_; refine lT ?_; refine lM ?_; refine lT ?_; refine lc (SolF bs s2 q2) rfl rfl (fun _ hle hA => all_ct _ bs s2 q2 h3 hA) ?_; intro v74; (try dsimp only [List.cons_append, List.nil_append, List.append_nil]); (repeat (refine RunL.unpu fun h74 => ?_; try subst h74)); (refine RunL.unhex fun t => RunL.unhex fun ts => RunL.flat ?_; ((dsimp only [SolF, HAppend.hAppend, Append.append, List.append, List.cons_append, List.nil_append, List.append_nil]); (try simp only [List.append_eq])); refine RunL.unpu fun h => ?_; subst h); refine lT ?_; refine lv (by exact Yfd) ?_; refine lT ?_; refine lE ?_; refine lT ?_; refine lv (by exact Yeq) ?_; refine lv (by first | exact YpT | exact YpF | exact Yields.pickB rfl rfl rfl) ?_; refine lA ?_; refine R1 ?_; rotate_left))

      (repeat first | refine G1 ?_ | refine G2 ?_ | refine G3 ?_ | refine G4 ?_ | refine G5 rfl ?_ | refine G6 rfl ?_ | refine G7 rfl ?_)
      refine Run.bagLen (K := KInt) (ss := ts) (xs := s2.all) (by (repeat (first | with_reducible exact Pick.here | with_reducible apply Pick.there))) fun hb => ?_
      (refine Run.ret1 Tryd.results3 (by rfl) ?_)
      (focus ((repeat first | refine E1 ?_ ?_ | refine E2 ?_ | refine E3 ?_ | refine E4 ?_ | refine E5 ?_ | refine E6 ?_ | refine E7 ?_ | refine E8 ?_); exact E9; all_goals try first | rfl | assumption | omega))
      rw [hb, hall]; rfl
end Go.Proofs.YtfldnnpcdjabnaaDoor
