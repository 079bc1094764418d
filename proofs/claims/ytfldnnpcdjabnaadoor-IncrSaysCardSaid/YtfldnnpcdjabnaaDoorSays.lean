/-
  skolemlaw19.IncrSays, walked.
-/
import Derived.Test.YtfldnnpcdjabnaaDoorMade
set_option linter.unusedVariables false
set_option linter.unusedSimpArgs false
namespace Go.Proofs.YtfldnnpcdjabnaaDoor
open Go
theorem Bag.append {α : Type} {K : EK α} : ∀ {ss ts : List SV} {xs ys : List (List α)} {h g : Frag}, dj h g → Bag K ss xs h → Bag K ts ys g → Bag K (ss ++ ts) (xs ++ ys) (fadd h g)
  | [], ts, [], ys, h, g, d, hb, ha => by
    have : h = fnil := hb
    subst this
    rw [nil_fadd]; exact ha
  | s0 :: ss, ts, x0 :: xs, ys, h, g, d, ⟨h1, h2, d1, e, a, b⟩, ha => by
    subst e
    obtain ⟨d2, d3⟩ := dj_fadd.1 d
    exact ⟨h1, fadd h2 g, dj_fadd'.2 ⟨d1, d2⟩, fadd_assoc _ _ _, a, Bag.append d3 b ha⟩
theorem Pick.bags {α : Type} {K : EK α} {ss ts : List SV} {xs ys : List (List α)} {L L' L'' : List HP} (p : Pick (Bag K ss xs) L L') (q : Pick (Bag K ts ys) L' L'') : Pick (Bag K (ss ++ ts) (xs ++ ys)) L L'' := fun h hs => by
  obtain ⟨g1, g2, d, rfl, b, c⟩ := p h hs
  obtain ⟨k1, k2, d2, rfl, a, c2⟩ := q g2 c
  obtain ⟨d3, d4⟩ := dj_fadd'.1 d
  exact ⟨fadd g1 k1, k2, dj_fadd.2 ⟨d4, d2⟩, (fadd_assoc _ _ _).symm, Bag.append d3 b a, c2⟩
theorem Rows.snoc {α : Type} {K : EK α} {ρ : Frag} {ls : List SV} {xs : List (List α)} {s : SV} {x : List α} (h : Rows K ρ ls xs) (hx : In (RArr K s.v x) ρ) : Rows K ρ (ls ++ [s]) (xs ++ [x]) := by
  refine ⟨by simp [h.1], fun i h0 h1 => ?_⟩
  simp at h1
  by_cases e : i = xs.length
  · subst e
    rw [rd_app_new _ _ _ (by rw [h.1]), rd_app_new _ _ _ rfl]; exact hx
  · rw [rd_app_old _ _ _ h0 (by rw [h.1]; omega), rd_app_old _ _ _ h0 (by omega)]
    exact h.2 i h0 (by omega)
theorem Rows.app {α : Type} {K : EK α} {ρ : Frag} {ls ms : List SV} {xs ys : List (List α)} (h : Rows K ρ ls xs) (h' : Rows K ρ ms ys) : Rows K ρ (ls ++ ms) (xs ++ ys) := by
  have e := h.1
  refine ⟨by simp [h.1, h'.1], fun i h0 h1 => ?_⟩
  by_cases hi : i < xs.length
  · rw [rd_app_old _ _ _ h0 (by omega), rd_app_old _ _ _ h0 hi]
    exact h.2 i h0 hi
  · have g : ∀ {β : Type} [Inhabited β] (a b : List β) (n : Nat), a.length = n → (n : Int) ≤ i → rd (a ++ b) i = rd b (i - n) := fun a b n ha hn => by
      simp only [rd, List.getD_eq_getElem?_getD]
      rw [List.getElem?_append_right (by omega)]
      congr 2; omega
    rw [g ls ms xs.length e (by omega), g xs ys xs.length rfl (by omega)]
    simp at h1
    exact h'.2 (i - xs.length) (by omega) (by omega)
/-- What was wanted of a clause: it, under other names; none, where it has none. -/
def wantX (bys x : List Int) : List Int := if x.any (renB bys) then [] else renX bys x
theorem goodAll (bys : List Int) (v : Int) (ds : List (List Int)) : (ds.all fun x => !x.any (renB bys) && rowOk v (renX bys x)) = (renOk bys ds && (ds.map (renX bys)).all (rowOk v)) := by
  induction ds with
  | nil => rfl
  | cons d ds ih =>
    simp only [renOk, List.all_cons, List.map_cons] at ih ⊢
    rw [ih]
    cases (!d.any (renB bys)) <;> cases rowOk v (renX bys d) <;> simp
theorem want_all {bys : List Int} {ds : List (List Int)} (h : renOk bys ds = true) : ds.map (wantX bys) = ds.map (renX bys) := by
  refine List.map_congr_left fun x hx => ?_
  have := List.all_eq_true.1 h x hx
  unfold wantX
  rw [if_neg (by simpa using this)]
attribute [local irreducible] Yields Does Run RunL AnyL Ct Reads Peek PeekN Poke Pick Fits Sub Ent Still Arr RArr Cells el stars In
theorem incrSays_ct (ρ : Frag) (er : Nat → Addr) (l put by' bad : SV) (ls ps bys bads : List Int) (s : ScriptS) (q : ScriptV) (n : Int) (hE : Errs ρ er) (hR : ScriptIn ρ s q)
    (hl : In (RArr KInt l.v ls) ρ) (hp : In (RArr KInt put.v ps) ρ) (hy : In (RArr KInt by'.v bys) ρ) (hb : In (RArr KInt bad.v bads) ρ)
    (rl : ∀ x ∈ ls, -9223372036854775808 ≤ x ∧ x ≤ 9223372036854775807) (rp : ∀ x ∈ ps, -9223372036854775808 ≤ x ∧ x ≤ 9223372036854775807) (ry : ∀ x ∈ bys, -9223372036854775808 ≤ x ∧ x ≤ 9223372036854775807)
    (rb : ∀ x ∈ bads, -9223372036854775808 ≤ x ∧ x ≤ 9223372036854775807) (rn : -9223372036854775808 ≤ n ∧ n ≤ 9223372036854775807) :
    Ct Tryd.prog 4 [l.v, scriptV s q, put.v, by'.v, int n, bad.v] ρ [] (fun r => [pu (r = .bool true)]) := by
  (refine Ct.of_run Tryd.func4 rfl Tryd.ntmps4 rfl (Nat.le_of_ble_eq_true rfl) ?_)
  (repeat first | refine G1 ?_ | refine G2 ?_ | refine G3 ?_ | refine G4 ?_ | refine G5 rfl ?_ | refine G6 rfl ?_ | refine G7 rfl ?_)
  (focus (refine R0 ?_; refine le (by exact Dbx) ?_; intro v7; (try dsimp only [List.cons_append, List.nil_append, List.append_nil]); refine RunL.unhex fun b7 => ?_; refine RunL.unhex fun hb => ?_; subst hb; refine lA ?_; refine R1 ?_; rotate_left))

  (repeat first | refine G1 ?_ | refine G2 ?_ | refine G3 ?_ | refine G4 ?_ | refine G5 rfl ?_ | refine G6 rfl ?_ | refine G7 rfl ?_)
  (focus (refine R0 ?_; refine lc [] rfl rfl (fun _ hle hA => first19_ct _) ?_; intro v25; (try dsimp only [List.cons_append, List.nil_append, List.append_nil]); (repeat (refine RunL.unpu fun h25 => ?_; try subst h25)); refine lA ?_; refine R1 ?_; rotate_left))

  (repeat first | refine G1 ?_ | refine G2 ?_ | refine G3 ?_ | refine G4 ?_ | refine G5 rfl ?_ | refine G6 rfl ?_ | refine G7 rfl ?_)
  (focus (refine R0 ?_; refine lM ?_; refine lv (by first | exact YnP | exact Ynt) ?_; refine R1 ?_; rotate_left))

  (repeat first | refine G1 ?_ | refine G2 ?_ | refine G3 ?_ | refine G4 ?_ | refine G5 rfl ?_ | refine G6 rfl ?_ | refine G7 rfl ?_)
  (repeat first | refine G1 ?_ | refine G2 ?_ | refine G3 ?_ | refine G4 ?_ | refine G5 rfl ?_ | refine G6 rfl ?_ | refine G7 rfl ?_)
  (focus (refine R0 ?_; refine lM ?_; refine lE ?_; refine lv (by exact Ygt) ?_; refine lM ?_; (first | refine RunL.knownP (t := 31) rfl (fun c31 => ?_) (fun c31 => ?_) | refine RunL.known (t := 31) rfl (fun c31 => ?_) (fun c31 => ?_)); refine lF ?_; refine lF ?_; refine lF ?_; refine lv (by first | exact YpT | exact YpF | exact Yields.pickB rfl rfl rfl) ?_; refine lM ?_; refine lF ?_; refine lF ?_; refine lF ?_; refine lv (by first | exact YpT | exact YpF | exact Yields.pickB rfl rfl rfl) ?_; refine lM ?_; refine lF ?_; refine lF ?_; refine lF ?_; refine lv (by first | exact YpT | exact YpF | exact Yields.pickB rfl rfl rfl) ?_; refine lM ?_; refine lF ?_; refine lF ?_; refine lF ?_; refine lv (by first | exact YpT | exact YpF | exact Yields.pickB rfl rfl rfl) ?_; refine lM ?_; refine lF ?_; refine lF ?_; refine lF ?_; refine lv (by first | exact YpT | exact YpF | exact Yields.pickB rfl rfl rfl) ?_; refine lM ?_; refine lF ?_; refine lF ?_; refine lF ?_; refine lv (by first | exact YpT | exact YpF | exact Yields.pickB rfl rfl rfl) ?_; refine R1 ?_; rotate_left; refine lT ?_; refine lM ?_; refine lT ?_; refine lE ?_; refine lT ?_; refine lv (by exact Ygt) ?_; refine lv (by first | exact YpT | exact YpF | exact Yields.pickB rfl rfl rfl) ?_; refine lM ?_; (first | refine RunL.knownP (t := 36) rfl (fun c36 => ?_) (fun c36 => ?_) | refine RunL.known (t := 36) rfl (fun c36 => ?_) (fun c36 => ?_)); refine lF ?_; refine lF ?_; refine lF ?_; refine lv (by first | exact YpT | exact YpF | exact Yields.pickB rfl rfl rfl) ?_; refine lM ?_; refine lF ?_; refine lF ?_; refine lF ?_; refine lv (by first | exact YpT | exact YpF | exact Yields.pickB rfl rfl rfl) ?_; refine lM ?_; refine lF ?_; refine lF ?_; refine lF ?_; refine lv (by first | exact YpT | exact YpF | exact Yields.pickB rfl rfl rfl) ?_; refine lM ?_; refine lF ?_; refine lF ?_; refine lF ?_; refine lv (by first | exact YpT | exact YpF | exact Yields.pickB rfl rfl rfl) ?_; refine lM ?_; refine lF ?_; refine lF ?_; refine lF ?_; refine lv (by first | exact YpT | exact YpF | exact Yields.pickB rfl rfl rfl) ?_; refine R1 ?_; rotate_left; refine lT ?_; refine lM ?_; refine lT ?_; refine lE ?_; refine lT ?_; refine lv (by exact Ygt) ?_; refine lv (by first | exact YpT | exact YpF | exact Yields.pickB rfl rfl rfl) ?_; refine lM ?_; (first | refine RunL.knownP (t := 41) rfl (fun c41 => ?_) (fun c41 => ?_) | refine RunL.known (t := 41) rfl (fun c41 => ?_) (fun c41 => ?_)); refine lF ?_; refine lF ?_; refine lF ?_; refine lv (by first | exact YpT | exact YpF | exact Yields.pickB rfl rfl rfl) ?_; refine lM ?_; refine lF ?_; refine lF ?_; refine lF ?_; refine lv (by first | exact YpT | exact YpF | exact Yields.pickB rfl rfl rfl) ?_; refine lM ?_; refine lF ?_; refine lF ?_; refine lF ?_; refine lv (by first | exact YpT | exact YpF | exact Yields.pickB rfl rfl rfl) ?_; refine lM ?_; refine lF ?_; refine lF ?_; refine lF ?_; refine lv (by first | exact YpT | exact YpF | exact Yields.pickB rfl rfl rfl) ?_; refine R1 ?_; rotate_left; refine lT ?_; refine lM ?_; refine lT ?_; refine lE ?_; refine lT ?_; refine lv (by exact Ygt) ?_; refine lv (by first | exact YpT | exact YpF | exact Yields.pickB rfl rfl rfl) ?_; refine lM ?_; (first | refine RunL.knownP (t := 46) rfl (fun c46 => ?_) (fun c46 => ?_) | refine RunL.known (t := 46) rfl (fun c46 => ?_) (fun c46 => ?_)); refine lF ?_; refine lF ?_; refine lF ?_; refine lv (by first | exact YpT | exact YpF | exact Yields.pickB rfl rfl rfl) ?_; refine lM ?_; refine lF ?_; refine lF ?_; refine lF ?_; refine lv (by first | exact YpT | exact YpF | exact Yields.pickB rfl rfl rfl) ?_; refine lM ?_; refine lF ?_; refine lF ?_; refine lF ?_; refine lv (by first | exact YpT | exact YpF | exact Yields.pickB rfl rfl rfl) ?_; refine R1 ?_; rotate_left; refine lT ?_; refine lv (by first | exact YaC | exact YaE) ?_; refine lT ?_; refine lc [] rfl rfl (fun _ hle hA => small_ct _ s q (hR.mono hle)) ?_; intro v48; (try dsimp only [List.cons_append, List.nil_append, List.append_nil]); (repeat (refine RunL.unpu fun h48 => ?_; try subst h48)); refine lT ?_; refine lv (by first | exact YnP | exact Ynt) ?_; refine lv (by first | exact YpT | exact YpF | exact Yields.pickB rfl rfl rfl) ?_; refine lM ?_; (first | refine RunL.knownP (t := 51) rfl (fun c51 => ?_) (fun c51 => ?_) | refine RunL.known (t := 51) rfl (fun c51 => ?_) (fun c51 => ?_)); refine lF ?_; refine lF ?_; refine lF ?_; refine lv (by first | exact YpT | exact YpF | exact Yields.pickB rfl rfl rfl) ?_; refine lM ?_; refine lF ?_; refine lF ?_; refine lF ?_; refine lv (by first | exact YpT | exact YpF | exact Yields.pickB rfl rfl rfl) ?_; refine R1 ?_; rotate_left; refine lT ?_; refine lM ?_; refine lT ?_; refine lc [] rfl rfl (fun _ hle hA => near_ct _ by' bys (hy.mono hle)) ?_; intro v53; (try dsimp only [List.cons_append, List.nil_append, List.append_nil]); (repeat (refine RunL.unpu fun h53 => ?_; try subst h53)); refine lT ?_; refine lv (by first | exact YnP | exact Ynt) ?_; refine lv (by first | exact YpT | exact YpF | exact Yields.pickB rfl rfl rfl) ?_; refine lM ?_; (first | refine RunL.knownP (t := 56) rfl (fun c56 => ?_) (fun c56 => ?_) | refine RunL.known (t := 56) rfl (fun c56 => ?_) (fun c56 => ?_)); refine lF ?_; refine lF ?_; refine lF ?_; refine lv (by first | exact YpT | exact YpF | exact Yields.pickB rfl rfl rfl) ?_; refine R1 ?_; rotate_left; refine lT ?_; refine lM ?_; refine lT ?_; refine lc [] rfl rfl (fun _ hle hA => near_ct _ bad bads (hb.mono hle)) ?_; intro v58; (try dsimp only [List.cons_append, List.nil_append, List.append_nil]); (repeat (refine RunL.unpu fun h58 => ?_; try subst h58)); refine lT ?_; refine lv (by first | exact YnP | exact Ynt) ?_; refine lv (by first | exact YpT | exact YpF | exact Yields.pickB rfl rfl rfl) ?_; refine R1 ?_; rotate_left))

  (repeat first | refine G1 ?_ | refine G2 ?_ | refine G3 ?_ | refine G4 ?_ | refine G5 rfl ?_ | refine G6 rfl ?_ | refine G7 rfl ?_)
  · (repeat first | refine G1 ?_ | refine G2 ?_ | refine G3 ?_ | refine G4 ?_ | refine G5 rfl ?_ | refine G6 rfl ?_ | refine G7 rfl ?_)
    (focus (refine R0 ?_; refine lM ?_; refine lA ?_; refine R1 ?_; rotate_left))

    (repeat first | refine G1 ?_ | refine G2 ?_ | refine G3 ?_ | refine G4 ?_ | refine G5 rfl ?_ | refine G6 rfl ?_ | refine G7 rfl ?_)
    (refine Run.ret1 Tryd.results4 (by rfl) ?_)
    (focus ((repeat first | refine E1 ?_ ?_ | refine E2 ?_ | refine E3 ?_ | refine E4 ?_ | refine E5 ?_ | refine E6 ?_ | refine E7 ?_ | refine E8 ?_); exact E9; all_goals try first | rfl | assumption | omega))
  · (repeat first | refine G1 ?_ | refine G2 ?_ | refine G3 ?_ | refine G4 ?_ | refine G5 rfl ?_ | refine G6 rfl ?_ | refine G7 rfl ?_)
    (focus (refine R0 ?_; refine lM ?_; refine lA ?_; refine R1 ?_; rotate_left))

    (repeat first | refine G1 ?_ | refine G2 ?_ | refine G3 ?_ | refine G4 ?_ | refine G5 rfl ?_ | refine G6 rfl ?_ | refine G7 rfl ?_)
    (refine Run.ret1 Tryd.results4 (by rfl) ?_)
    (focus ((repeat first | refine E1 ?_ ?_ | refine E2 ?_ | refine E3 ?_ | refine E4 ?_ | refine E5 ?_ | refine E6 ?_ | refine E7 ?_ | refine E8 ?_); exact E9; all_goals try first | rfl | assumption | omega))
  · (repeat first | refine G1 ?_ | refine G2 ?_ | refine G3 ?_ | refine G4 ?_ | refine G5 rfl ?_ | refine G6 rfl ?_ | refine G7 rfl ?_)
    (focus (refine R0 ?_; refine lM ?_; refine lA ?_; refine R1 ?_; rotate_left))

    (repeat first | refine G1 ?_ | refine G2 ?_ | refine G3 ?_ | refine G4 ?_ | refine G5 rfl ?_ | refine G6 rfl ?_ | refine G7 rfl ?_)
    (refine Run.ret1 Tryd.results4 (by rfl) ?_)
    (focus ((repeat first | refine E1 ?_ ?_ | refine E2 ?_ | refine E3 ?_ | refine E4 ?_ | refine E5 ?_ | refine E6 ?_ | refine E7 ?_ | refine E8 ?_); exact E9; all_goals try first | rfl | assumption | omega))
  · (repeat first | refine G1 ?_ | refine G2 ?_ | refine G3 ?_ | refine G4 ?_ | refine G5 rfl ?_ | refine G6 rfl ?_ | refine G7 rfl ?_)
    (focus (refine R0 ?_; refine lM ?_; refine lA ?_; refine R1 ?_; rotate_left))

    (repeat first | refine G1 ?_ | refine G2 ?_ | refine G3 ?_ | refine G4 ?_ | refine G5 rfl ?_ | refine G6 rfl ?_ | refine G7 rfl ?_)
    (refine Run.ret1 Tryd.results4 (by rfl) ?_)
    (focus ((repeat first | refine E1 ?_ ?_ | refine E2 ?_ | refine E3 ?_ | refine E4 ?_ | refine E5 ?_ | refine E6 ?_ | refine E7 ?_ | refine E8 ?_); exact E9; all_goals try first | rfl | assumption | omega))
  · (repeat first | refine G1 ?_ | refine G2 ?_ | refine G3 ?_ | refine G4 ?_ | refine G5 rfl ?_ | refine G6 rfl ?_ | refine G7 rfl ?_)
    (focus (refine R0 ?_; refine lM ?_; refine lA ?_; refine R1 ?_; rotate_left))

    (repeat first | refine G1 ?_ | refine G2 ?_ | refine G3 ?_ | refine G4 ?_ | refine G5 rfl ?_ | refine G6 rfl ?_ | refine G7 rfl ?_)
    (refine Run.ret1 Tryd.results4 (by rfl) ?_)
    (focus ((repeat first | refine E1 ?_ ?_ | refine E2 ?_ | refine E3 ?_ | refine E4 ?_ | refine E5 ?_ | refine E6 ?_ | refine E7 ?_ | refine E8 ?_); exact E9; all_goals try first | rfl | assumption | omega))
  · (repeat first | refine G1 ?_ | refine G2 ?_ | refine G3 ?_ | refine G4 ?_ | refine G5 rfl ?_ | refine G6 rfl ?_ | refine G7 rfl ?_)
    (focus (refine R0 ?_; refine lM ?_; refine lA ?_; refine R1 ?_; rotate_left))

    (repeat first | refine G1 ?_ | refine G2 ?_ | refine G3 ?_ | refine G4 ?_ | refine G5 rfl ?_ | refine G6 rfl ?_ | refine G7 rfl ?_)
    (refine Run.ret1 Tryd.results4 (by rfl) ?_)
    (focus ((repeat first | refine E1 ?_ ?_ | refine E2 ?_ | refine E3 ?_ | refine E4 ?_ | refine E5 ?_ | refine E6 ?_ | refine E7 ?_ | refine E8 ?_); exact E9; all_goals try first | rfl | assumption | omega))
  · refine Run.cond rfl (fun c60 => ?_) (fun c60 => ?_)
    · (repeat first | refine G1 ?_ | refine G2 ?_ | refine G3 ?_ | refine G4 ?_ | refine G5 rfl ?_ | refine G6 rfl ?_ | refine G7 rfl ?_)
      (focus (refine R0 ?_; refine lM ?_; refine lA ?_; refine R1 ?_; rotate_left))

      (repeat first | refine G1 ?_ | refine G2 ?_ | refine G3 ?_ | refine G4 ?_ | refine G5 rfl ?_ | refine G6 rfl ?_ | refine G7 rfl ?_)
      (refine Run.ret1 Tryd.results4 (by rfl) ?_)
      (focus ((repeat first | refine E1 ?_ ?_ | refine E2 ?_ | refine E3 ?_ | refine E4 ?_ | refine E5 ?_ | refine E6 ?_ | refine E7 ?_ | refine E8 ?_); exact E9; all_goals try first | rfl | assumption | omega))
    · have nb : bads.all nearB = true := by simpa using c60
      have ny : bys.all nearB = true := by simpa using c56
      have ty : ∀ x ∈ bys, Tame x := fun x hx => ⟨by have := List.all_eq_true.1 ny x hx; simp only [nearB, decide_eq_true_eq] at this; omega, (ry x hx).2⟩
      (repeat first | refine G1 ?_ | refine G2 ?_ | refine G3 ?_ | refine G4 ?_ | refine G5 rfl ?_ | refine G6 rfl ?_ | refine G7 rfl ?_)
      (focus (refine R0 ?_; refine lM ?_; refine lv (by first | exact YaC | exact YaE) ?_; refine lc [] rfl rfl (fun _ hle hA => made_ct _ l ls s q er (hE.mono hle) (hl.mono hle) rl (by omega) (hR.mono hle)) ?_; intro v65; (try dsimp only [List.cons_append, List.nil_append, List.append_nil]); (repeat (refine RunL.unpu fun h65 => ?_; try subst h65)); (refine RunL.unhex fun b => RunL.unhex fun t => RunL.unhex fun ts => RunL.unhex fun cs => RunL.unhex fun p1 => RunL.unhex fun qA => RunL.flat ?_; ((dsimp only [SolF, HAppend.hAppend, Append.append, List.append, List.cons_append, List.nil_append, List.append_nil]); (try simp only [List.append_eq])); refine RunL.unpu fun h => ?_; obtain ⟨rfl, hG, hAdd⟩ := h); refine lM ?_; refine lv (by exact Yxt) ?_; refine lv (by exact Yxt) ?_; refine lA ?_; refine lA ?_; refine R1 ?_; rotate_left))

      (repeat first | refine G1 ?_ | refine G2 ?_ | refine G3 ?_ | refine G4 ?_ | refine G5 rfl ?_ | refine G6 rfl ?_ | refine G7 rfl ?_)
      have h1 := sol0_ok s.free
      have hp1 := prop0_ok s.free
      have h2 := h1.fresh 8
      have hp2 := PropOk.fresh h1 hp1 8
      have hall : ((sol0 s.free).fresh 8).all = [] := fresh_all _
      have hmany : ((sol0 s.free).fresh 8).many = 0 := fresh_many _
      have hvars : ((sol0 s.free).fresh 8).vars = 8 := by rw [fresh_vars]; rfl
      have hcl := hG.len
      have hct := hG.total
      have hok1 : ∀ x ∈ cs, rowOk ((sol0 s.free).fresh 8).vars x = true := fun x hx => by rw [hvars]; exact rowOk_of (hG.lit x hx)
      have hpA : PropOk p1 ((sol0 s.free).fresh 8).e.n 1000 := (hp2.addsR hAdd fun x hx => (rowOk_lit h2.n (hok1 x hx)).2).mono (by omega)
      have hsA : SolOk (((sol0 s.free).fresh 8).more p1 cs) := h2.more hpA (by rw [hall]; simp; omega) (by rw [hmany]; omega)
      have hallA : (((sol0 s.free).fresh 8).more p1 cs).all = cs := by dsimp only; rw [hall]; rfl
      have hmanyA : (((sol0 s.free).fresh 8).more p1 cs).many = total cs := by dsimp only; rw [hmany]; omega
      have hvA : (((sol0 s.free).fresh 8).more p1 cs).vars = 8 := hvars
      have hpA' : PropOk (((sol0 s.free).fresh 8).more p1 cs).e.p (((sol0 s.free).fresh 8).more p1 cs).e.n 1000 := hpA
      refine Run.ent (L' := Arr KSl t.v ts :: Bag KInt ts cs :: SolF b (((sol0 s.free).fresh 8).more p1 cs) qA) (by (focus ((repeat first | refine E1 ?_ ?_ | refine E2 ?_ | refine E3 ?_ | refine E4 ?_ | refine E5 ?_ | refine E6 ?_ | refine E7 ?_ | refine E8 ?_); exact E9; all_goals try first | rfl | assumption | omega))) ?_
      clear hpA hAdd hok1 hp2 h2 hp1 h1 hall hmany hvars
      generalize ((sol0 s.free).fresh 8).more p1 cs = sA at *
      (repeat first | refine G1 ?_ | refine G2 ?_ | refine G3 ?_ | refine G4 ?_ | refine G5 rfl ?_ | refine G6 rfl ?_ | refine G7 rfl ?_)
      (focus (refine R0 ?_; refine lM ?_; refine lv (by first | exact Yields.eqlPN rfl | exact Yields.eqlSN rfl | exact Yields.eqlIN rfl | exact Yields.eqlIV rfl) ?_; refine R1 ?_; rotate_left))

      (repeat first | refine G1 ?_ | refine G2 ?_ | refine G3 ?_ | refine G4 ?_ | refine G5 rfl ?_ | refine G6 rfl ?_ | refine G7 rfl ?_)
      (repeat first | refine G1 ?_ | refine G2 ?_ | refine G3 ?_ | refine G4 ?_ | refine G5 rfl ?_ | refine G6 rfl ?_ | refine G7 rfl ?_)
      (focus (refine R0 ?_; refine lM ?_; refine lc [] rfl rfl (fun _ hle hA => number_ct _ n 20 (by omega) (by omega) rn.1 rn.2) ?_; intro v71; (try dsimp only [List.cons_append, List.nil_append, List.append_nil]); (repeat (refine RunL.unpu fun h71 => ?_; try subst h71)); (refine RunL.unhex fun k => RunL.unpu fun hk => ?_; obtain ⟨rfl, k0, k1⟩ := hk); refine lv (by exact Yad) ?_; refine lA ?_; refine R1 ?_; rotate_left))

      (repeat first | refine G1 ?_ | refine G2 ?_ | refine G3 ?_ | refine G4 ?_ | refine G5 rfl ?_ | refine G6 rfl ?_ | refine G7 rfl ?_)
      have hsB := hsA.fresh (k + 1)
      have hpB := PropOk.fresh hsA hpA' (k + 1)
      have hvB : (sA.fresh (k + 1)).vars = 8 + (k + 1) := by rw [fresh_vars, if_neg (by omega), hvA]
      have hallB : (sA.fresh (k + 1)).all = cs := (fresh_all _).trans hallA
      have hmanyB : (sA.fresh (k + 1)).many = total cs := (fresh_many _).trans hmanyA
      have e9 : (if k + 1 < 1 ∨ 4000 - sA.vars < k + 1 then (0 : Int) else sA.vars + 1) = 9 := by rw [if_neg (by omega), hvA]; rfl
      have same1 : (sA.fresh (k + 1)).fresh 4000 = sA.fresh (k + 1) := if_pos (by right; omega)
      have same2 : (sA.fresh (k + 1)).fresh (-1) = sA.fresh (k + 1) := if_pos (by left; omega)
      (repeat first | refine G1 ?_ | refine G2 ?_ | refine G3 ?_ | refine G4 ?_ | refine G5 rfl ?_ | refine G6 rfl ?_ | refine G7 rfl ?_)
      (focus (refine R0 ?_; refine lM ?_; refine lM ?_; refine lc [] rfl rfl (fun _ hle hA => fresh_ct _ b sA qA (k + 1) hsA) ?_; intro v75; (try dsimp only [List.cons_append, List.nil_append, List.append_nil]); (repeat (refine RunL.unpu fun h75 => ?_; try subst h75)); (refine RunL.unhex fun q1 => RunL.flat ?_; rw [e9]; generalize sA.fresh (k + 1) = sB at *; ((dsimp only [SolF, HAppend.hAppend, Append.append, List.append, List.cons_append, List.nil_append, List.append_nil]); (try simp only [List.append_eq])); refine RunL.unpu fun h => ?_; subst h); refine lv (by exact Yne) ?_; refine lM ?_; refine RunL.isF (t := 77) rfl (by decide) ?_; refine lT ?_; refine lM ?_; refine lT ?_; refine lc (SolF b sB q1) rfl rfl (fun _ hle hA => sol_vars_ct _ b sB q1 hA) ?_; intro v79; (try dsimp only [List.cons_append, List.nil_append, List.append_nil]); (repeat (refine RunL.unpu fun h79 => ?_; try subst h79)); refine lT ?_; refine lM ?_; refine lT ?_; refine lv (by exact Yad) ?_; refine lT ?_; refine lv (by exact Yne) ?_; refine lv (by first | exact YpT | exact YpF | exact Yields.pickB rfl rfl rfl) ?_; refine lM ?_; refine RunL.isF (t := 84) rfl (fun h => h hvB) ?_; refine lT ?_; refine lM ?_; refine lT ?_; refine lc [] rfl rfl (fun _ hle hA => fresh_ct _ b sB q1 4000 hsB) ?_; intro v86; (try dsimp only [List.cons_append, List.nil_append, List.append_nil]); (repeat (refine RunL.unpu fun h86 => ?_; try subst h86)); (refine RunL.unhex fun q2 => RunL.flat ?_; rw [same1, if_pos (by right; omega)]; ((dsimp only [SolF, HAppend.hAppend, Append.append, List.append, List.cons_append, List.nil_append, List.append_nil]); (try simp only [List.append_eq])); refine RunL.unpu fun h => ?_; subst h); refine lT ?_; refine lv (by exact Yne) ?_; refine lv (by first | exact YpT | exact YpF | exact Yields.pickB rfl rfl rfl) ?_; refine lM ?_; refine RunL.isF (t := 89) rfl (by decide) ?_; refine lT ?_; refine lM ?_; refine lT ?_; refine lc [] rfl rfl (fun _ hle hA => fresh_ct _ b sB q2 (-1) hsB) ?_; intro v91; (try dsimp only [List.cons_append, List.nil_append, List.append_nil]); (repeat (refine RunL.unpu fun h91 => ?_; try subst h91)); (refine RunL.unhex fun q3 => RunL.flat ?_; rw [same2, if_pos (by left; omega)]; ((dsimp only [SolF, HAppend.hAppend, Append.append, List.append, List.cons_append, List.nil_append, List.append_nil]); (try simp only [List.append_eq])); refine RunL.unpu fun h => ?_; subst h); refine lT ?_; refine lv (by exact Yne) ?_; refine lv (by first | exact YpT | exact YpF | exact Yields.pickB rfl rfl rfl) ?_; refine lM ?_; refine RunL.isF (t := 94) rfl (by decide) ?_; refine lT ?_; refine lM ?_; refine lT ?_; refine lc (SolF b sB q3) rfl rfl (fun _ hle hA => sol_vars_ct _ b sB q3 hA) ?_; intro v96; (try dsimp only [List.cons_append, List.nil_append, List.append_nil]); (repeat (refine RunL.unpu fun h96 => ?_; try subst h96)); refine lT ?_; refine lM ?_; refine lT ?_; refine lv (by exact Yad) ?_; refine lT ?_; refine lv (by exact Yne) ?_; refine lv (by first | exact YpT | exact YpF | exact Yields.pickB rfl rfl rfl) ?_; refine R1 ?_; rotate_left))

      refine Run.condP rfl (fun c => absurd hvB c) (fun _ => ?_)
      (repeat first | refine G1 ?_ | refine G2 ?_ | refine G3 ?_ | refine G4 ?_ | refine G5 rfl ?_ | refine G6 rfl ?_ | refine G7 rfl ?_)
      (focus (refine R0 ?_; refine lM ?_; refine lc [] rfl rfl (fun _ hle hA => cnf_ct _ put ps 6 (by omega) (by omega) (hp.mono hle) rp (by omega)) ?_; intro v102; (try dsimp only [List.cons_append, List.nil_append, List.append_nil]); (repeat (refine RunL.unpu fun h102 => ?_; try subst h102)); (refine RunL.unhex fun t2 => RunL.unhex fun ts2 => RunL.unhex fun ds => RunL.flat ?_; ((dsimp only [SolF, HAppend.hAppend, Append.append, List.append, List.cons_append, List.nil_append, List.append_nil]); (try simp only [List.append_eq])); refine RunL.unpu fun h => ?_; obtain ⟨rfl, hD⟩ := h); refine le (by exact Dal Tryd.zeroValue37) ?_; intro v16; (try dsimp only [List.cons_append, List.nil_append, List.append_nil]); refine RunL.unhex fun b16 => ?_; refine RunL.unhex fun hb => ?_; subst hb; refine ln (by exact Dsa) ?_; intro _; (try dsimp only [List.cons_append, List.nil_append, List.append_nil]); refine R1 ?_; rotate_left))

      (repeat first | refine G1 ?_ | refine G2 ?_ | refine G3 ?_ | refine G4 ?_ | refine G5 rfl ?_ | refine G6 rfl ?_ | refine G7 rfl ?_)
      have hdl := hD.len
      have hdt := hD.total
      have hdT : ∀ x ∈ ds, ∀ y ∈ x, Tame y := fun x hx y hy => by have := hD.lit x hx y hy; exact ⟨by omega, by omega⟩
      have hpB2 : PropOk sB.e.p sB.e.n 1000 := hpB
      generalize hgood : (renOk bys ds && (ds.map (renX bys)).all (rowOk sB.vars)) = G
      have hmt : total (ds.map (renX bys)) = total ds := by simp [total, List.map_map, Function.comp_def, renX]
      (repeat first | refine G1 ?_ | refine G2 ?_ | refine G3 ?_ | refine G4 ?_ | refine G5 rfl ?_ | refine G6 rfl ?_ | refine G7 rfl ?_)
      (focus (refine R0 ?_; refine lM ?_; refine lv (by first | exact YaC | exact YaE) ?_; refine lM ?_; (refine lc [Arr KSl t2.v ts2, Bag KInt ts2 ds] rfl rfl (fun _ hle hA => sol_put_ct _ b sB q3 6 t2 by' ts2 ds bys er 1000 hsB hpB2 (by omega) hA.stars_cons.1.read (Bag.rows hA.stars_cons.2) (hy.mono hle) hdT ty (hE.mono hle) (by rw [hallB]; omega) (by rw [hmanyB]; omega)) ?_); intro v106; (try dsimp only [List.cons_append, List.nil_append, List.append_nil]); (repeat (refine RunL.unpu fun h106 => ?_; try subst h106)); (rw [hgood]; refine RunL.unhex fun p2 => RunL.unhex fun q4 => RunL.flat ?_; generalize hsC : (if G = true then sB.more p2 (ds.map (renX bys)) else sB) = sC; ((dsimp only [SolF, HAppend.hAppend, Append.append, List.append, List.cons_append, List.nil_append, List.append_nil]); (try simp only [List.append_eq])); refine RunL.unpu fun hput => ?_); refine lA ?_; refine R1 ?_; rotate_left))

      (repeat first | refine G1 ?_ | refine G2 ?_ | refine G3 ?_ | refine G4 ?_ | refine G5 rfl ?_ | refine G6 rfl ?_ | refine G7 rfl ?_)
      have fC : SolOk sC ∧ PropOk sC.e.p sC.e.n 2000 ∧ sC.vars = sB.vars ∧ sC.all = cs ++ (if G = true then ds.map (wantX bys) else []) ∧ sC.many ≤ 1000 := by
        cases G with
        | true =>
          obtain ⟨g1, g2⟩ : renOk bys ds = true ∧ (ds.map (renX bys)).all (rowOk sB.vars) = true := by simpa using hgood
          rw [if_pos rfl] at hsC hput ⊢
          subst hsC
          have hp2 : PropOk p2 sB.e.n 2000 := (hpB2.addsR hput.2 fun x hx => (rowOk_lit hsB.n (List.all_eq_true.1 g2 x hx)).2).mono (by simp; omega)
          exact ⟨hsB.more hp2 (by rw [hallB]; simp; omega) (by rw [hmanyB, hmt]; omega), hp2, rfl, by rw [want_all g1]; dsimp only; rw [hallB], by dsimp only; rw [hmanyB, hmt]; omega⟩
        | false =>
          rw [if_neg (by simp)] at hsC hput ⊢
          subst hsC
          exact ⟨hsB, hpB2.mono (by omega), rfl, by rw [hallB]; simp, by rw [hmanyB]; omega⟩
      obtain ⟨hsC1, hpC, hvC, hallC, hmanyC⟩ := fC
      clear hsC
      have hput' : if G = true then v106 = .nilIface else v106 = errV er 0 := by
        cases G with
        | true => rw [if_pos rfl] at hput ⊢; exact hput.1
        | false => exact hput
      clear hput
      (repeat first | refine G1 ?_ | refine G2 ?_ | refine G3 ?_ | refine G4 ?_ | refine G5 rfl ?_ | refine G6 rfl ?_ | refine G7 rfl ?_)
      (focus (refine R0 ?_; refine lv (by exact YaN) ?_; refine R1 ?_; rotate_left))

      (repeat first | refine G1 ?_ | refine G2 ?_ | refine G3 ?_ | refine G4 ?_ | refine G5 rfl ?_ | refine G6 rfl ?_ | refine G7 rfl ?_)
      (focus (refine R0 ?_; refine lA ?_; refine R1 ?_; rotate_left))

      (repeat first | refine G1 ?_ | refine G2 ?_ | refine G3 ?_ | refine G4 ?_ | refine G5 rfl ?_ | refine G6 rfl ?_ | refine G7 rfl ?_)
      (focus (refine R0 ?_; refine lA ?_; refine R1 ?_; rotate_left))

      (repeat first | refine G1 ?_ | refine G2 ?_ | refine G3 ?_ | refine G4 ?_ | refine G5 rfl ?_ | refine G6 rfl ?_ | refine G7 rfl ?_)
      refine Run.loopI (X := Int × SV × List SV) (fun x => [(4, int (k + 1)), (5, bad.v), (3, by'.v), (13, .bool true), (14, ptr b), (15, t.v), (16, ptr b16), (17, v106), (18, x.2.1.v), (19, .bool ((ds.take x.1.toNat).all fun x => !x.any (renB bys) && rowOk sB.vars (renX bys x))), (20, int x.1)])
        (fun x => pu (0 ≤ x.1 ∧ x.1 ≤ ds.length) :: Cells b16 37 [int 6, t2.v] :: Arr KSl t2.v ts2 :: Bag KInt ts2 ds :: Arr KSl t.v ts :: Bag KInt ts cs :: Arr KSl x.2.1.v x.2.2 :: Bag KInt x.2.2 ((ds.take x.1.toNat).map (wantX bys)) :: SolF b sC q4)
        (fun x => (ds.length - x.1).toNat) (0, nilS, []) (by (repeat (first | exact Sub.nil _ | refine Sub.cons rfl ?_))) ?_ ?_
      · show Ent _ (pu ((0 : Int) ≤ 0 ∧ (0 : Int) ≤ ds.length) :: Cells b16 37 [int 6, t2.v] :: Arr KSl t2.v ts2 :: Bag KInt ts2 ds :: Arr KSl t.v ts :: Bag KInt ts cs :: Arr KSl nilS.v [] :: Bag KInt [] [] :: SolF b sC q4)
        (focus ((repeat first | refine E1 ?_ ?_ | refine E2 ?_ | refine E3 ?_ | refine E4 ?_ | refine E5 ?_ | refine E6 ?_ | refine E7 ?_ | refine E8 ?_); exact E9; all_goals try first | rfl | assumption | omega))
      · rintro ⟨i, w, ws⟩ ih
        refine Run.unpu fun hi => ?_
        obtain ⟨i0, i1⟩ := hi
        dsimp only at i0 i1 ⊢
        refine Run.bagLen (K := KInt) (ss := ts2) (xs := ds) (by (repeat (first | with_reducible exact Pick.here | with_reducible apply Pick.there))) fun hbl => ?_
        refine Run.bagLen (K := KInt) (ss := ws) (xs := (ds.take i.toNat).map (wantX bys)) (by (repeat (first | with_reducible exact Pick.here | with_reducible apply Pick.there))) fun hwl => ?_
        rw [List.length_map, List.length_take] at hwl
        (repeat first | refine G1 ?_ | refine G2 ?_ | refine G3 ?_ | refine G4 ?_ | refine G5 rfl ?_ | refine G6 rfl ?_ | refine G7 rfl ?_)
        (focus (refine R0 ?_; refine lM ?_; refine lG ?_; refine lL ?_; refine lE ?_; refine lv (by exact Ylt) ?_; refine R1 ?_; rotate_left))

        (repeat first | refine G1 ?_ | refine G2 ?_ | refine G3 ?_ | refine G4 ?_ | refine G5 rfl ?_ | refine G6 rfl ?_ | refine G7 rfl ?_)
        refine Run.condP rfl (fun c1 => ?_) (fun c1 => ?_)
        · have hlt : i < ds.length := by omega
          have hmem : rd ds i ∈ ds := List.mem_of_getElem? (rd_some i0 hlt)
          have e1 := take_snoc ds i i0 hlt
          (repeat first | refine G1 ?_ | refine G2 ?_ | refine G3 ?_ | refine G4 ?_ | refine G5 rfl ?_ | refine G6 rfl ?_ | refine G7 rfl ?_)
          (focus (refine R0 ?_; refine lG ?_; refine lL ?_; refine lM ?_; refine lX ?_; refine lL ?_; refine lM ?_; refine lc [Arr KSl t2.v ts2, Bag KInt ts2 ds] rfl rfl (fun _ hle hA => refRename_ct _ (rd ts2 i) by' (rd ds i) bys ((Bag.rows hA.stars_cons.2).2 i i0 hlt) (hy.mono hle) (hdT _ hmem) ty) ?_; intro v121; (try dsimp only [List.cons_append, List.nil_append, List.append_nil]); (repeat (refine RunL.unpu fun h121 => ?_; try subst h121)); (refine RunL.unhex fun u => RunL.unhex fun y => RunL.unhex fun ok => RunL.flat ?_; ((dsimp only [SolF, HAppend.hAppend, Append.append, List.append, List.cons_append, List.nil_append, List.append_nil]); (try simp only [List.append_eq])); refine RunL.unpu fun h => ?_; obtain ⟨rfl, hok, hy1, hy2⟩ := h); refine lM ?_; refine lv (by exact Yxt) ?_; refine lv (by exact Yxt) ?_; refine lA ?_; refine lA ?_; refine R1 ?_; rotate_left))

          (repeat first | refine G1 ?_ | refine G2 ?_ | refine G3 ?_ | refine G4 ?_ | refine G5 rfl ?_ | refine G6 rfl ?_ | refine G7 rfl ?_)
          have hyw : y = wantX bys (rd ds i) := by
            unfold wantX
            cases ok with
            | true => rw [if_neg (by simpa using hok.symm)]; exact hy1 rfl
            | false => rw [if_pos (by simpa using hok.symm)]; exact hy2 rfl
          (repeat first | refine G1 ?_ | refine G2 ?_ | refine G3 ?_ | refine G4 ?_ | refine G5 rfl ?_ | refine G6 rfl ?_ | refine G7 rfl ?_)
          (focus (refine R0 ?_; refine lM ?_; refine lM ?_; (first | refine RunL.knownP (t := 125) rfl (fun c125 => ?_) (fun c125 => ?_) | refine RunL.known (t := 125) rfl (fun c125 => ?_) (fun c125 => ?_)); refine lT ?_; refine lM ?_; refine lv (by first | exact YpT | exact YpF | exact Yields.pickB rfl rfl rfl) ?_; refine lM ?_; (first | refine RunL.knownP (t := 128) rfl (fun c128 => ?_) (fun c128 => ?_) | refine RunL.known (t := 128) rfl (fun c128 => ?_) (fun c128 => ?_)); refine lT ?_; refine lM ?_; refine lT ?_; refine lM ?_; refine lT ?_; refine lv (by exact Yad) ?_; refine lT ?_; refine lc [Arr KInt u.v y] rfl rfl (fun _ hle hA => right_ct _ u y (8 + (k + 1)) (by omega) (by omega) hA.stars_one.read) ?_; intro v132; (try dsimp only [List.cons_append, List.nil_append, List.append_nil]); (repeat (refine RunL.unpu fun h132 => ?_; try subst h132)); refine lv (by first | exact YpT | exact YpF | exact Yields.pickB rfl rfl rfl) ?_; refine lA ?_; refine R1 ?_; rotate_left; refine lF ?_; refine lF ?_; refine lF ?_; refine lF ?_; refine lv (by first | exact YpT | exact YpF | exact Yields.pickB rfl rfl rfl) ?_; refine lA ?_; refine R1 ?_; rotate_left; refine lF ?_; refine lv (by first | exact YpT | exact YpF | exact Yields.pickB rfl rfl rfl) ?_; refine lM ?_; refine lF ?_; refine lF ?_; refine lF ?_; refine lF ?_; refine lv (by first | exact YpT | exact YpF | exact Yields.pickB rfl rfl rfl) ?_; refine lA ?_; refine R1 ?_; rotate_left))

          (repeat first | refine G1 ?_ | refine G2 ?_ | refine G3 ?_ | refine G4 ?_ | refine G5 rfl ?_ | refine G6 rfl ?_ | refine G7 rfl ?_)
          · have hg : rowOk (8 + (k + 1)) y = ((ds.take (i + 1).toNat).all fun x => !x.any (renB bys) && rowOk sB.vars (renX bys x)) := by
              rw [e1, List.all_append, List.all_cons, List.all_nil, Bool.and_true]
              have h3 : (rd ds i).any (renB bys) = false := by rw [c128] at hok; simpa using hok.symm
              rw [c125, h3, hvB, Bool.true_and, Bool.not_false, Bool.true_and, hy1 c128]
            (repeat first | refine G1 ?_ | refine G2 ?_ | refine G3 ?_ | refine G4 ?_ | refine G5 rfl ?_ | refine G6 rfl ?_ | refine G7 rfl ?_)
            (focus (refine R0 ?_; refine lM ?_; refine lM ?_; refine leS (by exact Db1) ?_; intro v136; (try dsimp only [List.cons_append, List.nil_append, List.append_nil]); refine leS (by exact Dap) ?_; intro v137; (try dsimp only [List.cons_append, List.nil_append, List.append_nil]); (repeat (refine RunL.unpu fun h137 => ?_; try subst h137)); refine lA ?_; refine R1 ?_; rotate_left))

            (repeat first | refine G1 ?_ | refine G2 ?_ | refine G3 ?_ | refine G4 ?_ | refine G5 rfl ?_ | refine G6 rfl ?_ | refine G7 rfl ?_)
            (focus (refine R0 ?_; refine lM ?_; refine lv (by exact Yad) ?_; refine lA ?_; refine R1 ?_; rotate_left))

            (repeat first | refine G1 ?_ | refine G2 ?_ | refine G3 ?_ | refine G4 ?_ | refine G5 rfl ?_ | refine G6 rfl ?_ | refine G7 rfl ?_)
            refine Run.weaken (by repeat (first | exact Sub.nil _ | refine Sub.cons rfl ?_ | refine Sub.cons (congrArg (fun z => some (Value.bool z)) hg) ?_)) ?_ (ih (i + 1, v137, ws ++ [u]) (by dsimp only; omega))
            dsimp only
            rw [e1, List.map_append, List.map_cons, List.map_nil, ← hyw]
            (focus ((repeat first | refine E1 ?_ ?_ | refine E2 ?_ | refine E3 ?_ | refine E4 ?_ | refine E5 ?_ | refine E6 ?_ | refine E7 ?_ | refine E8 ?_); exact E9; all_goals try first | rfl | assumption | omega))
          · have hg : false = ((ds.take (i + 1).toNat).all fun x => !x.any (renB bys) && rowOk sB.vars (renX bys x)) := by
              rw [e1, List.all_append, List.all_cons, List.all_nil, Bool.and_true]
              have h3 : (rd ds i).any (renB bys) = true := by rw [c128] at hok; simpa using hok.symm
              rw [h3]; simp
            (repeat first | refine G1 ?_ | refine G2 ?_ | refine G3 ?_ | refine G4 ?_ | refine G5 rfl ?_ | refine G6 rfl ?_ | refine G7 rfl ?_)
            (focus (refine R0 ?_; refine lM ?_; refine lM ?_; refine leS (by exact Db1) ?_; intro v136; (try dsimp only [List.cons_append, List.nil_append, List.append_nil]); refine leS (by exact Dap) ?_; intro v137; (try dsimp only [List.cons_append, List.nil_append, List.append_nil]); (repeat (refine RunL.unpu fun h137 => ?_; try subst h137)); refine lA ?_; refine R1 ?_; rotate_left))

            (repeat first | refine G1 ?_ | refine G2 ?_ | refine G3 ?_ | refine G4 ?_ | refine G5 rfl ?_ | refine G6 rfl ?_ | refine G7 rfl ?_)
            (focus (refine R0 ?_; refine lM ?_; refine lv (by exact Yad) ?_; refine lA ?_; refine R1 ?_; rotate_left))

            (repeat first | refine G1 ?_ | refine G2 ?_ | refine G3 ?_ | refine G4 ?_ | refine G5 rfl ?_ | refine G6 rfl ?_ | refine G7 rfl ?_)
            refine Run.weaken (by repeat (first | exact Sub.nil _ | refine Sub.cons rfl ?_ | refine Sub.cons (congrArg (fun z => some (Value.bool z)) hg) ?_)) ?_ (ih (i + 1, v137, ws ++ [u]) (by dsimp only; omega))
            dsimp only
            rw [e1, List.map_append, List.map_cons, List.map_nil, ← hyw]
            (focus ((repeat first | refine E1 ?_ ?_ | refine E2 ?_ | refine E3 ?_ | refine E4 ?_ | refine E5 ?_ | refine E6 ?_ | refine E7 ?_ | refine E8 ?_); exact E9; all_goals try first | rfl | assumption | omega))
          · have hg : false = ((ds.take (i + 1).toNat).all fun x => !x.any (renB bys) && rowOk sB.vars (renX bys x)) := by
              rw [e1, List.all_append, List.all_cons, List.all_nil, Bool.and_true]
              rw [c125]; rfl
            (repeat first | refine G1 ?_ | refine G2 ?_ | refine G3 ?_ | refine G4 ?_ | refine G5 rfl ?_ | refine G6 rfl ?_ | refine G7 rfl ?_)
            (focus (refine R0 ?_; refine lM ?_; refine lM ?_; refine leS (by exact Db1) ?_; intro v136; (try dsimp only [List.cons_append, List.nil_append, List.append_nil]); refine leS (by exact Dap) ?_; intro v137; (try dsimp only [List.cons_append, List.nil_append, List.append_nil]); (repeat (refine RunL.unpu fun h137 => ?_; try subst h137)); refine lA ?_; refine R1 ?_; rotate_left))

            (repeat first | refine G1 ?_ | refine G2 ?_ | refine G3 ?_ | refine G4 ?_ | refine G5 rfl ?_ | refine G6 rfl ?_ | refine G7 rfl ?_)
            (focus (refine R0 ?_; refine lM ?_; refine lv (by exact Yad) ?_; refine lA ?_; refine R1 ?_; rotate_left))

            (repeat first | refine G1 ?_ | refine G2 ?_ | refine G3 ?_ | refine G4 ?_ | refine G5 rfl ?_ | refine G6 rfl ?_ | refine G7 rfl ?_)
            refine Run.weaken (by repeat (first | exact Sub.nil _ | refine Sub.cons rfl ?_ | refine Sub.cons (congrArg (fun z => some (Value.bool z)) hg) ?_)) ?_ (ih (i + 1, v137, ws ++ [u]) (by dsimp only; omega))
            dsimp only
            rw [e1, List.map_append, List.map_cons, List.map_nil, ← hyw]
            (focus ((repeat first | refine E1 ?_ ?_ | refine E2 ?_ | refine E3 ?_ | refine E4 ?_ | refine E5 ?_ | refine E6 ?_ | refine E7 ?_ | refine E8 ?_); exact E9; all_goals try first | rfl | assumption | omega))
        · have hall2 : ds.take i.toNat = ds := List.take_of_length_le (by omega)
          rw [hall2, goodAll, hgood]
          refine Run.bagLen (K := KInt) (ss := ts) (xs := cs) (by (repeat (first | with_reducible exact Pick.here | with_reducible apply Pick.there))) fun hbl3 => ?_
          have hwl' : ws.length = ds.length := by rw [hwl]; omega
          cases G with
          | true =>
            rw [if_pos rfl] at hput' hallC
            subst hput'
            (repeat first | refine G1 ?_ | refine G2 ?_ | refine G3 ?_ | refine G4 ?_ | refine G5 rfl ?_ | refine G6 rfl ?_ | refine G7 rfl ?_)
            (focus (refine R0 ?_; refine lM ?_; refine lv (by first | exact Yields.eqlPN rfl | exact Yields.eqlSN rfl | exact Yields.eqlIN rfl | exact Yields.eqlIV rfl) ?_; refine lM ?_; refine lv (by exact YnB) ?_; refine lM ?_; refine lT ?_; refine lM ?_; refine lT ?_; refine lv (by first | exact YnP | exact Ynt) ?_; refine lT ?_; refine lM ?_; refine lF ?_; refine lF ?_; refine lF ?_; refine lT ?_; refine lv (by first | exact YpT | exact YpF | exact Yields.pickB rfl rfl rfl) ?_; refine lv (by first | exact YpT | exact YpF | exact Yields.pickB rfl rfl rfl) ?_; refine R1 ?_; rotate_left))

            (repeat first | refine G1 ?_ | refine G2 ?_ | refine G3 ?_ | refine G4 ?_ | refine G5 rfl ?_ | refine G6 rfl ?_ | refine G7 rfl ?_)
            (repeat first | refine G1 ?_ | refine G2 ?_ | refine G3 ?_ | refine G4 ?_ | refine G5 rfl ?_ | refine G6 rfl ?_ | refine G7 rfl ?_)
            (focus (refine R0 ?_; refine lM ?_; refine R1 ?_; rotate_left))

            (repeat first | refine G1 ?_ | refine G2 ?_ | refine G3 ?_ | refine G4 ?_ | refine G5 rfl ?_ | refine G6 rfl ?_ | refine G7 rfl ?_)
            (repeat first | refine G1 ?_ | refine G2 ?_ | refine G3 ?_ | refine G4 ?_ | refine G5 rfl ?_ | refine G6 rfl ?_ | refine G7 rfl ?_)
            (focus (refine R0 ?_; refine lM ?_; refine lM ?_; refine leS (by exact Dap) ?_; intro v154; (try dsimp only [List.cons_append, List.nil_append, List.append_nil]); (repeat (refine RunL.unpu fun h154 => ?_; try subst h154)); refine lA ?_; refine R1 ?_; rotate_left))

            (repeat first | refine G1 ?_ | refine G2 ?_ | refine G3 ?_ | refine G4 ?_ | refine G5 rfl ?_ | refine G6 rfl ?_ | refine G7 rfl ?_)
            cases hbad : rowOk sC.vars bads with
            | true =>
              have hv9 : rowOk (8 + (k + 1)) bads = true := by rw [← hvB, ← hvC]; exact hbad
              (repeat first | refine G1 ?_ | refine G2 ?_ | refine G3 ?_ | refine G4 ?_ | refine G5 rfl ?_ | refine G6 rfl ?_ | refine G7 rfl ?_)
              (focus (refine R0 ?_; refine lM ?_; refine lM ?_; (refine lc [] rfl rfl (fun _ hle hA => sol_add_ct _ b sC q4 bad bads er 2000 hsC1 hpC (by omega) (hb.mono hle) (hE.mono hle) hbad (by rw [hallC]; simp; omega) (by omega)) ?_); intro v157; (try dsimp only [List.cons_append, List.nil_append, List.append_nil]); (repeat (refine RunL.unpu fun h157 => ?_; try subst h157)); (refine RunL.unhex fun p3 => RunL.unhex fun q5 => RunL.flat ?_; ((dsimp only [SolF, HAppend.hAppend, Append.append, List.append, List.cons_append, List.nil_append, List.append_nil]); (try simp only [List.append_eq])); refine RunL.unpu fun h => ?_; obtain ⟨rfl, hR3⟩ := h); refine lA ?_; refine R1 ?_; rotate_left))

              (repeat first | refine G1 ?_ | refine G2 ?_ | refine G3 ?_ | refine G4 ?_ | refine G5 rfl ?_ | refine G6 rfl ?_ | refine G7 rfl ?_)
              have hp3 : PropOk p3 sC.e.n 2003 := hpC.addR hR3 (rowOk_lit hsC1.n hbad).2
              have hsD : SolOk (sC.more p3 [bads]) := hsC1.more hp3 (by rw [hallC]; simp; omega) (by simp [total]; omega)
              (repeat first | refine G1 ?_ | refine G2 ?_ | refine G3 ?_ | refine G4 ?_ | refine G5 rfl ?_ | refine G6 rfl ?_ | refine G7 rfl ?_)
              (focus (refine R0 ?_; refine lM ?_; refine lM ?_; refine lv (by exact Yad) ?_; refine lc [] rfl rfl (fun _ hle hA => right_ct _ bad bads (8 + (k + 1)) (by omega) (by omega) (hb.mono hle)) ?_; intro v161; (try dsimp only [List.cons_append, List.nil_append, List.append_nil]); (repeat (refine RunL.unpu fun h161 => ?_; try subst h161)); rw [hv9]; refine R1 ?_; rotate_left))

              (repeat first | refine G1 ?_ | refine G2 ?_ | refine G3 ?_ | refine G4 ?_ | refine G5 rfl ?_ | refine G6 rfl ?_ | refine G7 rfl ?_)
              (repeat first | refine G1 ?_ | refine G2 ?_ | refine G3 ?_ | refine G4 ?_ | refine G5 rfl ?_ | refine G6 rfl ?_ | refine G7 rfl ?_)
              (focus (refine R0 ?_; refine lM ?_; refine lM ?_; refine leS (by exact Db1) ?_; intro v164; (try dsimp only [List.cons_append, List.nil_append, List.append_nil]); refine leS (by exact Dap) ?_; intro v165; (try dsimp only [List.cons_append, List.nil_append, List.append_nil]); (repeat (refine RunL.unpu fun h165 => ?_; try subst h165)); refine lA ?_; refine R1 ?_; rotate_left))

              (repeat first | refine G1 ?_ | refine G2 ?_ | refine G3 ?_ | refine G4 ?_ | refine G5 rfl ?_ | refine G6 rfl ?_ | refine G7 rfl ?_)
              (repeat first | refine G1 ?_ | refine G2 ?_ | refine G3 ?_ | refine G4 ?_ | refine G5 rfl ?_ | refine G6 rfl ?_ | refine G7 rfl ?_)
              (focus (refine R0 ?_; refine lM ?_; refine lc (SolF b (sC.more p3 [bads]) q5) rfl rfl (fun _ hle hA => all_ct _ b (sC.more p3 [bads]) q5 hsD hA) ?_; intro v170; (try dsimp only [List.cons_append, List.nil_append, List.append_nil]); (repeat (refine RunL.unpu fun h170 => ?_; try subst h170)); (refine RunL.unhex fun tA => RunL.unhex fun tsA => RunL.flat ?_; ((dsimp only [SolF, HAppend.hAppend, Append.append, List.append, List.cons_append, List.nil_append, List.append_nil]); (try simp only [List.append_eq])); refine RunL.unpu fun h => ?_; subst h); refine le (by exact Dal Tryd.zeroValue37) ?_; intro v24; (try dsimp only [List.cons_append, List.nil_append, List.append_nil]); refine RunL.unhex fun b24 => ?_; refine RunL.unhex fun hb => ?_; subst hb; refine ln (by exact Dsa) ?_; intro _; (try dsimp only [List.cons_append, List.nil_append, List.append_nil]); refine R1 ?_; rotate_left))

              (repeat first | refine G1 ?_ | refine G2 ?_ | refine G3 ?_ | refine G4 ?_ | refine G5 rfl ?_ | refine G6 rfl ?_ | refine G7 rfl ?_)
              (repeat first | refine G1 ?_ | refine G2 ?_ | refine G3 ?_ | refine G4 ?_ | refine G5 rfl ?_ | refine G6 rfl ?_ | refine G7 rfl ?_)
              (focus (refine R0 ?_; refine lM ?_; refine lM ?_; refine lT ?_; refine lG ?_; refine lT ?_; refine lL ?_; refine lT ?_; refine lM ?_; refine lT ?_; refine lv (by exact Yad) ?_; refine lT ?_; refine lv (by exact Yeq) ?_; refine lv (by first | exact YpT | exact YpF | exact Yields.pickB rfl rfl rfl) ?_; refine lM ?_; refine RunL.isT (t := 179) rfl (hvC.trans hvB) ?_; refine lT ?_; refine lG ?_; refine lT ?_; refine lL ?_; refine lT ?_; refine lM ?_; refine lT ?_; refine lc ([Arr KSl tA.v tsA, Bag KInt tsA (sC.more p3 [bads]).all, Arr KSl v165.v ((ts ++ ws) ++ [bad]), Bag KInt ts cs, Bag KInt ws (ds.map (wantX bys))]) rfl rfl (fun _ hle hA => sameClauses_ct _ tA ⟨_, _, _⟩ tsA ((ts ++ ws) ++ [bad]) (sC.more p3 [bads]).all ((cs ++ ds.map (wantX bys)) ++ [bads]) hA.stars_cons.1.read hA.stars_cons.2.stars_cons.2.stars_cons.1.read (Rows.of_bag hA.stars_cons.2.stars_cons.1) (Rows.snoc (Rows.app (Rows.of_bag hA.stars_cons.2.stars_cons.2.stars_cons.2.stars_cons.1) (Rows.of_bag hA.stars_cons.2.stars_cons.2.stars_cons.2.stars_cons.2.stars_cons.1)) (hb.mono hle))) ?_; intro v183; (try dsimp only [List.cons_append, List.nil_append, List.append_nil]); (repeat (refine RunL.unpu fun h183 => ?_; try subst h183)); refine lv (by first | exact YpT | exact YpF | exact Yields.pickB rfl rfl rfl) ?_; refine lA ?_; refine R1 ?_; rotate_left))

              (repeat first | refine G1 ?_ | refine G2 ?_ | refine G3 ?_ | refine G4 ?_ | refine G5 rfl ?_ | refine G6 rfl ?_ | refine G7 rfl ?_)
              (refine Run.ret1 Tryd.results4 (by rfl) ?_)
              (focus ((repeat first | refine E1 ?_ ?_ | refine E2 ?_ | refine E3 ?_ | refine E4 ?_ | refine E5 ?_ | refine E6 ?_ | refine E7 ?_ | refine E8 ?_); exact E9; all_goals try first | rfl | assumption | omega))
              exact congrArg Value.bool (decide_eq_true (show (sC.more p3 [bads]).all = (cs ++ ds.map (wantX bys)) ++ [bads] from by first | (rw [hallC]; done) | (rw [hallC]; simp; done) | (dsimp only; rw [hallC]; done) | (dsimp only; rw [hallC]; simp; done)))
            | false =>
              have hv9 : rowOk (8 + (k + 1)) bads = false := by rw [← hvB, ← hvC]; exact hbad
              (repeat first | refine G1 ?_ | refine G2 ?_ | refine G3 ?_ | refine G4 ?_ | refine G5 rfl ?_ | refine G6 rfl ?_ | refine G7 rfl ?_)
              (focus (refine R0 ?_; refine lM ?_; refine lM ?_; refine lc [] rfl rfl (fun _ hle hA => add_bad_ct _ b sC q4 bad bads er hsC1 (hb.mono hle) (hE.mono hle) hbad) ?_; intro v157; (try dsimp only [List.cons_append, List.nil_append, List.append_nil]); (repeat (refine RunL.unpu fun h157 => ?_; try subst h157)); refine lA ?_; refine R1 ?_; rotate_left))

              (repeat first | refine G1 ?_ | refine G2 ?_ | refine G3 ?_ | refine G4 ?_ | refine G5 rfl ?_ | refine G6 rfl ?_ | refine G7 rfl ?_)
              (repeat first | refine G1 ?_ | refine G2 ?_ | refine G3 ?_ | refine G4 ?_ | refine G5 rfl ?_ | refine G6 rfl ?_ | refine G7 rfl ?_)
              (focus (refine R0 ?_; refine lM ?_; refine lM ?_; refine lv (by exact Yad) ?_; refine lc [] rfl rfl (fun _ hle hA => right_ct _ bad bads (8 + (k + 1)) (by omega) (by omega) (hb.mono hle)) ?_; intro v161; (try dsimp only [List.cons_append, List.nil_append, List.append_nil]); (repeat (refine RunL.unpu fun h161 => ?_; try subst h161)); rw [hv9]; refine R1 ?_; rotate_left))

              (repeat first | refine G1 ?_ | refine G2 ?_ | refine G3 ?_ | refine G4 ?_ | refine G5 rfl ?_ | refine G6 rfl ?_ | refine G7 rfl ?_)
              (repeat first | refine G1 ?_ | refine G2 ?_ | refine G3 ?_ | refine G4 ?_ | refine G5 rfl ?_ | refine G6 rfl ?_ | refine G7 rfl ?_)
              (focus (refine R0 ?_; refine lM ?_; refine lc [] rfl rfl (fun _ hle hA => see_is_ct _ (errV er (rd sents 3)) (101 + 3) 0 104 false (isFault_err (hE.mono hle) (by omega) (by omega))) ?_; intro v167; (try dsimp only [List.cons_append, List.nil_append, List.append_nil]); (repeat (refine RunL.unpu fun h167 => ?_; try subst h167)); refine lv (by first | exact YnP | exact Ynt) ?_; refine R1 ?_; rotate_left))

              (repeat first | refine G1 ?_ | refine G2 ?_ | refine G3 ?_ | refine G4 ?_ | refine G5 rfl ?_ | refine G6 rfl ?_ | refine G7 rfl ?_)
              (repeat first | refine G1 ?_ | refine G2 ?_ | refine G3 ?_ | refine G4 ?_ | refine G5 rfl ?_ | refine G6 rfl ?_ | refine G7 rfl ?_)
              (focus (refine R0 ?_; refine lM ?_; refine lc (SolF b (sC) q4) rfl rfl (fun _ hle hA => all_ct _ b (sC) q4 hsC1 hA) ?_; intro v170; (try dsimp only [List.cons_append, List.nil_append, List.append_nil]); (repeat (refine RunL.unpu fun h170 => ?_; try subst h170)); (refine RunL.unhex fun tA => RunL.unhex fun tsA => RunL.flat ?_; ((dsimp only [SolF, HAppend.hAppend, Append.append, List.append, List.cons_append, List.nil_append, List.append_nil]); (try simp only [List.append_eq])); refine RunL.unpu fun h => ?_; subst h); refine le (by exact Dal Tryd.zeroValue37) ?_; intro v24; (try dsimp only [List.cons_append, List.nil_append, List.append_nil]); refine RunL.unhex fun b24 => ?_; refine RunL.unhex fun hb => ?_; subst hb; refine ln (by exact Dsa) ?_; intro _; (try dsimp only [List.cons_append, List.nil_append, List.append_nil]); refine R1 ?_; rotate_left))

              (repeat first | refine G1 ?_ | refine G2 ?_ | refine G3 ?_ | refine G4 ?_ | refine G5 rfl ?_ | refine G6 rfl ?_ | refine G7 rfl ?_)
              (repeat first | refine G1 ?_ | refine G2 ?_ | refine G3 ?_ | refine G4 ?_ | refine G5 rfl ?_ | refine G6 rfl ?_ | refine G7 rfl ?_)
              (focus (refine R0 ?_; refine lM ?_; refine lM ?_; refine lT ?_; refine lG ?_; refine lT ?_; refine lL ?_; refine lT ?_; refine lM ?_; refine lT ?_; refine lv (by exact Yad) ?_; refine lT ?_; refine lv (by exact Yeq) ?_; refine lv (by first | exact YpT | exact YpF | exact Yields.pickB rfl rfl rfl) ?_; refine lM ?_; refine RunL.isT (t := 179) rfl (hvC.trans hvB) ?_; refine lT ?_; refine lG ?_; refine lT ?_; refine lL ?_; refine lT ?_; refine lM ?_; refine lT ?_; refine lc ([Arr KSl tA.v tsA, Bag KInt tsA (sC).all, Arr KSl v154.v (ts ++ ws), Bag KInt ts cs, Bag KInt ws (ds.map (wantX bys))]) rfl rfl (fun _ hle hA => sameClauses_ct _ tA ⟨_, _, _⟩ tsA (ts ++ ws) (sC).all (cs ++ ds.map (wantX bys)) hA.stars_cons.1.read hA.stars_cons.2.stars_cons.2.stars_cons.1.read (Rows.of_bag hA.stars_cons.2.stars_cons.1) (Rows.app (Rows.of_bag hA.stars_cons.2.stars_cons.2.stars_cons.2.stars_cons.1) (Rows.of_bag hA.stars_cons.2.stars_cons.2.stars_cons.2.stars_cons.2.stars_cons.1))) ?_; intro v183; (try dsimp only [List.cons_append, List.nil_append, List.append_nil]); (repeat (refine RunL.unpu fun h183 => ?_; try subst h183)); refine lv (by first | exact YpT | exact YpF | exact Yields.pickB rfl rfl rfl) ?_; refine lA ?_; refine R1 ?_; rotate_left))

              (repeat first | refine G1 ?_ | refine G2 ?_ | refine G3 ?_ | refine G4 ?_ | refine G5 rfl ?_ | refine G6 rfl ?_ | refine G7 rfl ?_)
              (refine Run.ret1 Tryd.results4 (by rfl) ?_)
              (focus ((repeat first | refine E1 ?_ ?_ | refine E2 ?_ | refine E3 ?_ | refine E4 ?_ | refine E5 ?_ | refine E6 ?_ | refine E7 ?_ | refine E8 ?_); exact E9; all_goals try first | rfl | assumption | omega))
              exact congrArg Value.bool (decide_eq_true (show sC.all = cs ++ ds.map (wantX bys) from by first | (rw [hallC]; done) | (rw [hallC]; simp; done) | (dsimp only; rw [hallC]; done) | (dsimp only; rw [hallC]; simp; done)))
          | false =>
            rw [if_neg (by simp)] at hput' hallC
            subst hput'
            (repeat first | refine G1 ?_ | refine G2 ?_ | refine G3 ?_ | refine G4 ?_ | refine G5 rfl ?_ | refine G6 rfl ?_ | refine G7 rfl ?_)
            (focus (refine R0 ?_; refine lM ?_; refine lv (by first | exact Yields.eqlPN rfl | exact Yields.eqlSN rfl | exact Yields.eqlIN rfl | exact Yields.eqlIV rfl) ?_; refine lM ?_; refine lv (by exact YnB) ?_; refine lM ?_; refine lT ?_; refine lM ?_; refine lT ?_; refine lv (by first | exact YnP | exact Ynt) ?_; refine lT ?_; refine lM ?_; refine lT ?_; refine lM ?_; refine lT ?_; refine lc [] rfl rfl (fun _ hle hA => see_is_ct _ (errV er (rd sents 3)) (101 + 3) 0 104 false (isFault_err (hE.mono hle) (by omega) (by omega))) ?_; intro v147; (try dsimp only [List.cons_append, List.nil_append, List.append_nil]); (repeat (refine RunL.unpu fun h147 => ?_; try subst h147)); refine lT ?_; refine lv (by first | exact YnP | exact Ynt) ?_; refine lT ?_; refine lv (by first | exact YpT | exact YpF | exact Yields.pickB rfl rfl rfl) ?_; refine lv (by first | exact YpT | exact YpF | exact Yields.pickB rfl rfl rfl) ?_; refine R1 ?_; rotate_left))

            (repeat first | refine G1 ?_ | refine G2 ?_ | refine G3 ?_ | refine G4 ?_ | refine G5 rfl ?_ | refine G6 rfl ?_ | refine G7 rfl ?_)
            (repeat first | refine G1 ?_ | refine G2 ?_ | refine G3 ?_ | refine G4 ?_ | refine G5 rfl ?_ | refine G6 rfl ?_ | refine G7 rfl ?_)
            (focus (refine R0 ?_; refine lM ?_; refine R1 ?_; rotate_left))

            (repeat first | refine G1 ?_ | refine G2 ?_ | refine G3 ?_ | refine G4 ?_ | refine G5 rfl ?_ | refine G6 rfl ?_ | refine G7 rfl ?_)
            cases hbad : rowOk sC.vars bads with
            | true =>
              have hv9 : rowOk (8 + (k + 1)) bads = true := by rw [← hvB, ← hvC]; exact hbad
              (repeat first | refine G1 ?_ | refine G2 ?_ | refine G3 ?_ | refine G4 ?_ | refine G5 rfl ?_ | refine G6 rfl ?_ | refine G7 rfl ?_)
              (focus (refine R0 ?_; refine lM ?_; refine lM ?_; (refine lc [] rfl rfl (fun _ hle hA => sol_add_ct _ b sC q4 bad bads er 2000 hsC1 hpC (by omega) (hb.mono hle) (hE.mono hle) hbad (by rw [hallC]; simp; omega) (by omega)) ?_); intro v157; (try dsimp only [List.cons_append, List.nil_append, List.append_nil]); (repeat (refine RunL.unpu fun h157 => ?_; try subst h157)); (refine RunL.unhex fun p3 => RunL.unhex fun q5 => RunL.flat ?_; ((dsimp only [SolF, HAppend.hAppend, Append.append, List.append, List.cons_append, List.nil_append, List.append_nil]); (try simp only [List.append_eq])); refine RunL.unpu fun h => ?_; obtain ⟨rfl, hR3⟩ := h); refine lA ?_; refine R1 ?_; rotate_left))

              (repeat first | refine G1 ?_ | refine G2 ?_ | refine G3 ?_ | refine G4 ?_ | refine G5 rfl ?_ | refine G6 rfl ?_ | refine G7 rfl ?_)
              have hp3 : PropOk p3 sC.e.n 2003 := hpC.addR hR3 (rowOk_lit hsC1.n hbad).2
              have hsD : SolOk (sC.more p3 [bads]) := hsC1.more hp3 (by rw [hallC]; simp; omega) (by simp [total]; omega)
              (repeat first | refine G1 ?_ | refine G2 ?_ | refine G3 ?_ | refine G4 ?_ | refine G5 rfl ?_ | refine G6 rfl ?_ | refine G7 rfl ?_)
              (focus (refine R0 ?_; refine lM ?_; refine lM ?_; refine lv (by exact Yad) ?_; refine lc [] rfl rfl (fun _ hle hA => right_ct _ bad bads (8 + (k + 1)) (by omega) (by omega) (hb.mono hle)) ?_; intro v161; (try dsimp only [List.cons_append, List.nil_append, List.append_nil]); (repeat (refine RunL.unpu fun h161 => ?_; try subst h161)); rw [hv9]; refine R1 ?_; rotate_left))

              (repeat first | refine G1 ?_ | refine G2 ?_ | refine G3 ?_ | refine G4 ?_ | refine G5 rfl ?_ | refine G6 rfl ?_ | refine G7 rfl ?_)
              (repeat first | refine G1 ?_ | refine G2 ?_ | refine G3 ?_ | refine G4 ?_ | refine G5 rfl ?_ | refine G6 rfl ?_ | refine G7 rfl ?_)
              (focus (refine R0 ?_; refine lM ?_; refine lM ?_; refine leS (by exact Db1) ?_; intro v164; (try dsimp only [List.cons_append, List.nil_append, List.append_nil]); refine leS (by exact Dap) ?_; intro v165; (try dsimp only [List.cons_append, List.nil_append, List.append_nil]); (repeat (refine RunL.unpu fun h165 => ?_; try subst h165)); refine lA ?_; refine R1 ?_; rotate_left))

              (repeat first | refine G1 ?_ | refine G2 ?_ | refine G3 ?_ | refine G4 ?_ | refine G5 rfl ?_ | refine G6 rfl ?_ | refine G7 rfl ?_)
              (repeat first | refine G1 ?_ | refine G2 ?_ | refine G3 ?_ | refine G4 ?_ | refine G5 rfl ?_ | refine G6 rfl ?_ | refine G7 rfl ?_)
              (focus (refine R0 ?_; refine lM ?_; refine lc (SolF b (sC.more p3 [bads]) q5) rfl rfl (fun _ hle hA => all_ct _ b (sC.more p3 [bads]) q5 hsD hA) ?_; intro v170; (try dsimp only [List.cons_append, List.nil_append, List.append_nil]); (repeat (refine RunL.unpu fun h170 => ?_; try subst h170)); (refine RunL.unhex fun tA => RunL.unhex fun tsA => RunL.flat ?_; ((dsimp only [SolF, HAppend.hAppend, Append.append, List.append, List.cons_append, List.nil_append, List.append_nil]); (try simp only [List.append_eq])); refine RunL.unpu fun h => ?_; subst h); refine le (by exact Dal Tryd.zeroValue37) ?_; intro v24; (try dsimp only [List.cons_append, List.nil_append, List.append_nil]); refine RunL.unhex fun b24 => ?_; refine RunL.unhex fun hb => ?_; subst hb; refine ln (by exact Dsa) ?_; intro _; (try dsimp only [List.cons_append, List.nil_append, List.append_nil]); refine R1 ?_; rotate_left))

              (repeat first | refine G1 ?_ | refine G2 ?_ | refine G3 ?_ | refine G4 ?_ | refine G5 rfl ?_ | refine G6 rfl ?_ | refine G7 rfl ?_)
              (repeat first | refine G1 ?_ | refine G2 ?_ | refine G3 ?_ | refine G4 ?_ | refine G5 rfl ?_ | refine G6 rfl ?_ | refine G7 rfl ?_)
              (focus (refine R0 ?_; refine lM ?_; refine lM ?_; refine lT ?_; refine lG ?_; refine lT ?_; refine lL ?_; refine lT ?_; refine lM ?_; refine lT ?_; refine lv (by exact Yad) ?_; refine lT ?_; refine lv (by exact Yeq) ?_; refine lv (by first | exact YpT | exact YpF | exact Yields.pickB rfl rfl rfl) ?_; refine lM ?_; refine RunL.isT (t := 179) rfl (hvC.trans hvB) ?_; refine lT ?_; refine lG ?_; refine lT ?_; refine lL ?_; refine lT ?_; refine lM ?_; refine lT ?_; refine lc ([Arr KSl tA.v tsA, Bag KInt tsA (sC.more p3 [bads]).all, Arr KSl v165.v ((ts) ++ [bad]), Bag KInt ts cs]) rfl rfl (fun _ hle hA => sameClauses_ct _ tA ⟨_, _, _⟩ tsA ((ts) ++ [bad]) (sC.more p3 [bads]).all ((cs) ++ [bads]) hA.stars_cons.1.read hA.stars_cons.2.stars_cons.2.stars_cons.1.read (Rows.of_bag hA.stars_cons.2.stars_cons.1) (Rows.snoc (Rows.of_bag hA.stars_cons.2.stars_cons.2.stars_cons.2.stars_cons.1) (hb.mono hle))) ?_; intro v183; (try dsimp only [List.cons_append, List.nil_append, List.append_nil]); (repeat (refine RunL.unpu fun h183 => ?_; try subst h183)); refine lv (by first | exact YpT | exact YpF | exact Yields.pickB rfl rfl rfl) ?_; refine lA ?_; refine R1 ?_; rotate_left))

              (repeat first | refine G1 ?_ | refine G2 ?_ | refine G3 ?_ | refine G4 ?_ | refine G5 rfl ?_ | refine G6 rfl ?_ | refine G7 rfl ?_)
              (refine Run.ret1 Tryd.results4 (by rfl) ?_)
              (focus ((repeat first | refine E1 ?_ ?_ | refine E2 ?_ | refine E3 ?_ | refine E4 ?_ | refine E5 ?_ | refine E6 ?_ | refine E7 ?_ | refine E8 ?_); exact E9; all_goals try first | rfl | assumption | omega))
              exact congrArg Value.bool (decide_eq_true (show (sC.more p3 [bads]).all = (cs) ++ [bads] from by first | (rw [hallC]; done) | (rw [hallC]; simp; done) | (dsimp only; rw [hallC]; done) | (dsimp only; rw [hallC]; simp; done)))
            | false =>
              have hv9 : rowOk (8 + (k + 1)) bads = false := by rw [← hvB, ← hvC]; exact hbad
              (repeat first | refine G1 ?_ | refine G2 ?_ | refine G3 ?_ | refine G4 ?_ | refine G5 rfl ?_ | refine G6 rfl ?_ | refine G7 rfl ?_)
              (focus (refine R0 ?_; refine lM ?_; refine lM ?_; refine lc [] rfl rfl (fun _ hle hA => add_bad_ct _ b sC q4 bad bads er hsC1 (hb.mono hle) (hE.mono hle) hbad) ?_; intro v157; (try dsimp only [List.cons_append, List.nil_append, List.append_nil]); (repeat (refine RunL.unpu fun h157 => ?_; try subst h157)); refine lA ?_; refine R1 ?_; rotate_left))

              (repeat first | refine G1 ?_ | refine G2 ?_ | refine G3 ?_ | refine G4 ?_ | refine G5 rfl ?_ | refine G6 rfl ?_ | refine G7 rfl ?_)
              (repeat first | refine G1 ?_ | refine G2 ?_ | refine G3 ?_ | refine G4 ?_ | refine G5 rfl ?_ | refine G6 rfl ?_ | refine G7 rfl ?_)
              (focus (refine R0 ?_; refine lM ?_; refine lM ?_; refine lv (by exact Yad) ?_; refine lc [] rfl rfl (fun _ hle hA => right_ct _ bad bads (8 + (k + 1)) (by omega) (by omega) (hb.mono hle)) ?_; intro v161; (try dsimp only [List.cons_append, List.nil_append, List.append_nil]); (repeat (refine RunL.unpu fun h161 => ?_; try subst h161)); rw [hv9]; refine R1 ?_; rotate_left))

              (repeat first | refine G1 ?_ | refine G2 ?_ | refine G3 ?_ | refine G4 ?_ | refine G5 rfl ?_ | refine G6 rfl ?_ | refine G7 rfl ?_)
              (repeat first | refine G1 ?_ | refine G2 ?_ | refine G3 ?_ | refine G4 ?_ | refine G5 rfl ?_ | refine G6 rfl ?_ | refine G7 rfl ?_)
              (focus (refine R0 ?_; refine lM ?_; refine lc [] rfl rfl (fun _ hle hA => see_is_ct _ (errV er (rd sents 3)) (101 + 3) 0 104 false (isFault_err (hE.mono hle) (by omega) (by omega))) ?_; intro v167; (try dsimp only [List.cons_append, List.nil_append, List.append_nil]); (repeat (refine RunL.unpu fun h167 => ?_; try subst h167)); refine lv (by first | exact YnP | exact Ynt) ?_; refine R1 ?_; rotate_left))

              (repeat first | refine G1 ?_ | refine G2 ?_ | refine G3 ?_ | refine G4 ?_ | refine G5 rfl ?_ | refine G6 rfl ?_ | refine G7 rfl ?_)
              (repeat first | refine G1 ?_ | refine G2 ?_ | refine G3 ?_ | refine G4 ?_ | refine G5 rfl ?_ | refine G6 rfl ?_ | refine G7 rfl ?_)
              (focus (refine R0 ?_; refine lM ?_; refine lc (SolF b (sC) q4) rfl rfl (fun _ hle hA => all_ct _ b (sC) q4 hsC1 hA) ?_; intro v170; (try dsimp only [List.cons_append, List.nil_append, List.append_nil]); (repeat (refine RunL.unpu fun h170 => ?_; try subst h170)); (refine RunL.unhex fun tA => RunL.unhex fun tsA => RunL.flat ?_; ((dsimp only [SolF, HAppend.hAppend, Append.append, List.append, List.cons_append, List.nil_append, List.append_nil]); (try simp only [List.append_eq])); refine RunL.unpu fun h => ?_; subst h); refine le (by exact Dal Tryd.zeroValue37) ?_; intro v24; (try dsimp only [List.cons_append, List.nil_append, List.append_nil]); refine RunL.unhex fun b24 => ?_; refine RunL.unhex fun hb => ?_; subst hb; refine ln (by exact Dsa) ?_; intro _; (try dsimp only [List.cons_append, List.nil_append, List.append_nil]); refine R1 ?_; rotate_left))

              (repeat first | refine G1 ?_ | refine G2 ?_ | refine G3 ?_ | refine G4 ?_ | refine G5 rfl ?_ | refine G6 rfl ?_ | refine G7 rfl ?_)
              (repeat first | refine G1 ?_ | refine G2 ?_ | refine G3 ?_ | refine G4 ?_ | refine G5 rfl ?_ | refine G6 rfl ?_ | refine G7 rfl ?_)
              (focus (refine R0 ?_; refine lM ?_; refine lM ?_; refine lT ?_; refine lG ?_; refine lT ?_; refine lL ?_; refine lT ?_; refine lM ?_; refine lT ?_; refine lv (by exact Yad) ?_; refine lT ?_; refine lv (by exact Yeq) ?_; refine lv (by first | exact YpT | exact YpF | exact Yields.pickB rfl rfl rfl) ?_; refine lM ?_; refine RunL.isT (t := 179) rfl (hvC.trans hvB) ?_; refine lT ?_; refine lG ?_; refine lT ?_; refine lL ?_; refine lT ?_; refine lM ?_; refine lT ?_; refine lc ([Arr KSl tA.v tsA, Bag KInt tsA (sC).all, Arr KSl t.v (ts), Bag KInt ts cs]) rfl rfl (fun _ hle hA => sameClauses_ct _ tA ⟨_, _, _⟩ tsA (ts) (sC).all (cs) hA.stars_cons.1.read hA.stars_cons.2.stars_cons.2.stars_cons.1.read (Rows.of_bag hA.stars_cons.2.stars_cons.1) (Rows.of_bag hA.stars_cons.2.stars_cons.2.stars_cons.2.stars_cons.1)) ?_; intro v183; (try dsimp only [List.cons_append, List.nil_append, List.append_nil]); (repeat (refine RunL.unpu fun h183 => ?_; try subst h183)); refine lv (by first | exact YpT | exact YpF | exact Yields.pickB rfl rfl rfl) ?_; refine lA ?_; refine R1 ?_; rotate_left))

              (repeat first | refine G1 ?_ | refine G2 ?_ | refine G3 ?_ | refine G4 ?_ | refine G5 rfl ?_ | refine G6 rfl ?_ | refine G7 rfl ?_)
              (refine Run.ret1 Tryd.results4 (by rfl) ?_)
              (focus ((repeat first | refine E1 ?_ ?_ | refine E2 ?_ | refine E3 ?_ | refine E4 ?_ | refine E5 ?_ | refine E6 ?_ | refine E7 ?_ | refine E8 ?_); exact E9; all_goals try first | rfl | assumption | omega))
              exact congrArg Value.bool (decide_eq_true (show sC.all = cs from by first | (rw [hallC]; done) | (rw [hallC]; simp; done) | (dsimp only; rw [hallC]; done) | (dsimp only; rw [hallC]; simp; done)))
end Go.Proofs.YtfldnnpcdjabnaaDoor
