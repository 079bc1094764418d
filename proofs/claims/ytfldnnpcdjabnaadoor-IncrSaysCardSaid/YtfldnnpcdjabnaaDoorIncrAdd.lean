/-
  incr.Solver: adds, Add, Put of what may be added.
-/
import Derived.Test.YtfldnnpcdjabnaaDoorSatAdd
import Derived.Test.YtfldnnpcdjabnaaDoorSee
set_option linter.unusedVariables false
set_option linter.unusedSimpArgs false
namespace Go.Proofs.YtfldnnpcdjabnaaDoor
open Go
def AddsR : PropS → PropS → List (List Int) → Prop
  | p, p', [] => p' = p
  | p, p', x :: xs => ∃ p1, AddR p p1 x ∧ AddsR p1 p' xs
theorem AddsR.snoc : ∀ {p p1 p' : PropS} {xs : List (List Int)} {x : List Int}, AddsR p p1 xs → AddR p1 p' x → AddsR p p' (xs ++ [x])
  | p, p1, p', [], x, h, h2 => by subst h; exact ⟨p', h2, rfl⟩
  | p, p1, p', y :: xs, x, ⟨p2, h, h1⟩, h2 => ⟨p2, h, AddsR.snoc h1 h2⟩
theorem PropOk.addR {p p' : PropS} {n T : Nat} {x : List Int} (h : PropOk p n T) (a : AddR p p' x) (hx : ∀ l ∈ x, litOk n l) : PropOk p' n (T + 3) := by
  obtain ⟨l, says, hN, rfl⟩ := a
  cases says with
  | true => exact h.add fun y hy => hx y ((hN.mem y).1 hy)
  | false => exact h.mono (by omega)
theorem PropOk.addsR {n : Nat} : ∀ {p p' : PropS} {T : Nat} {xs : List (List Int)}, PropOk p n T → AddsR p p' xs → (∀ x ∈ xs, ∀ l ∈ x, litOk n l) → PropOk p' n (T + 3 * xs.length)
  | p, p', T, [], h, a, _ => by subst a; exact h.mono (by simp)
  | p, p', T, x :: xs, h, ⟨p1, a, b⟩, hx => by
    have h1 := h.addR a (hx x (by simp))
    exact (PropOk.addsR h1 b fun y hy => hx y (by simp [hy])).mono (by simp; omega)
theorem rowOk_lit {n : Nat} {v : Int} {x : List Int} (hv : (n : Int) = v + 1) (h : rowOk v x = true) : (x.all fun l => isB l ((n : Int) - 1)) = true ∧ ∀ l ∈ x, litOk n l := by
  have e : (n : Int) - 1 = v := by omega
  have h1 : ∀ l ∈ x, isB l v = true := fun l hl => by
    simp only [rowOk, Bool.not_eq_true', List.any_eq_false] at h
    simpa using h l hl
  rw [e]
  exact ⟨List.all_eq_true.2 h1, fun l hl => isB_litOk.1 (by rw [e]; exact h1 l hl)⟩
abbrev SolS.more (s : SolS) (p : PropS) (xs : List (List Int)) : SolS := { s with e := { s.e with p := p }, all := s.all ++ xs, many := s.many + total xs }
theorem SolOk.more {s : SolS} (h : SolOk s) {p : PropS} {T : Nat} (hp : PropOk p s.e.n T) {xs : List (List Int)} (h1 : s.all.length + xs.length ≤ 20000) (h2 : s.many + total xs ≤ 80000) : SolOk (s.more p xs) :=
  ⟨⟨hp.sized, h.eng.saved⟩, h.low, h.high, ⟨by have := h.many; dsimp only; omega, h2⟩, by simp; omega, h.n⟩
attribute [local irreducible] Yields Does Run RunL AnyL Ct Reads Peek PeekN Poke Pick Fits Sub Ent Still Arr RArr Cells el stars In
theorem adds_ct (ρ : Frag) (b : Nat) (s : SolS) (q : SolV) (l : SV) (ls : List SV) (xs : List (List Int)) (er : Nat → Addr) (T : Nat) (hs : SolOk s) (hp : PropOk s.e.p s.e.n T) (hT : T + 3 * xs.length + 8 < 4398046511104) (hl : In (RArr KSl l.v ls) ρ) (hr : Rows KInt ρ ls xs)
    (hE : Errs ρ er) (hok : xs.all (rowOk s.vars) = true) (h1 : s.all.length + xs.length ≤ 20000) (h2 : s.many + total xs ≤ 80000) :
    Ct Tryd.prog 24 [ptr b, l.v] ρ (SolF b s q) (fun r => [hex fun p' => hex fun q' => stars (pu (r = .nilIface ∧ AddsR s.e.p p' xs) :: SolF b (s.more p' xs) q')]) := by
  have hlen := hr.1
  have hlow := hs.low
  have hmany := hs.many
  have hm : mayV er s xs = .nilIface := by simp only [mayV, hok, if_true]; rw [if_neg (by omega)]
  have hlit : ∀ x ∈ xs, (x.all fun l => isB l ((s.e.n : Int) - 1)) = true ∧ ∀ l ∈ x, litOk s.e.n l := fun x hx => rowOk_lit hs.n (List.all_eq_true.1 hok x hx)
  (refine Ct.of_run Tryd.func24 rfl Tryd.ntmps24 rfl (Nat.le_of_ble_eq_true rfl) ?_)
  (repeat first | refine G1 ?_ | refine G2 ?_ | refine G3 ?_ | refine G4 ?_ | refine G5 rfl ?_ | refine G6 rfl ?_ | refine G7 rfl ?_)
  (focus (refine R0 ?_; refine lA ?_; refine R1 ?_; rotate_left))

  (repeat first | refine G1 ?_ | refine G2 ?_ | refine G3 ?_ | refine G4 ?_ | refine G5 rfl ?_ | refine G6 rfl ?_ | refine G7 rfl ?_)
  (focus (refine R0 ?_; refine lM ?_; refine lM ?_; refine lc (SolF b s q) rfl rfl (fun _ hle hA => may_ct _ b s q l ls xs er hs hA (hl.mono hle) (hr.mono hle) (by omega) (hE.mono hle)) ?_; intro v10; (try dsimp only [List.cons_append, List.nil_append, List.append_nil]); (repeat (refine RunL.unpu fun h10 => ?_; try subst h10)); rw [hm]; refine lA ?_; refine R1 ?_; rotate_left))

  (repeat first | refine G1 ?_ | refine G2 ?_ | refine G3 ?_ | refine G4 ?_ | refine G5 rfl ?_ | refine G6 rfl ?_ | refine G7 rfl ?_)
  (repeat first | refine G1 ?_ | refine G2 ?_ | refine G3 ?_ | refine G4 ?_ | refine G5 rfl ?_ | refine G6 rfl ?_ | refine G7 rfl ?_)
  (focus (refine R0 ?_; refine lM ?_; refine lv (by first | exact Yields.neqPN rfl | exact Yields.neqSN rfl | exact Yields.neqIN rfl | exact Yields.neqIV rfl) ?_; refine R1 ?_; rotate_left))

  (repeat first | refine G1 ?_ | refine G2 ?_ | refine G3 ?_ | refine G4 ?_ | refine G5 rfl ?_ | refine G6 rfl ?_ | refine G7 rfl ?_)
  (repeat first | refine G1 ?_ | refine G2 ?_ | refine G3 ?_ | refine G4 ?_ | refine G5 rfl ?_ | refine G6 rfl ?_ | refine G7 rfl ?_)
  (focus (refine R0 ?_; refine lM ?_; refine lE ?_; refine lM ?_; refine R1 ?_; rotate_left))

  (repeat first | refine G1 ?_ | refine G2 ?_ | refine G3 ?_ | refine G4 ?_ | refine G5 rfl ?_ | refine G6 rfl ?_ | refine G7 rfl ?_)
  refine Run.loopI (X := Int × PropS × SolV) (fun x => [(0, ptr b), (14, l.v), (15, int ls.length), (16, int x.1)])
    (fun x => pu (0 ≤ x.1 ∧ x.1 ≤ xs.length ∧ AddsR s.e.p x.2.1 (xs.take x.1.toNat)) :: SolF b (s.more x.2.1 (xs.take x.1.toNat)) x.2.2) (fun x => (xs.length - x.1).toNat) (0, s.e.p, q) (by (repeat (first | exact Sub.nil _ | refine Sub.cons rfl ?_))) ?_ ?_
  · show Ent _ (pu ((0 : Int) ≤ 0 ∧ (0 : Int) ≤ xs.length ∧ s.e.p = s.e.p) :: SolF b { s with e := { s.e with p := s.e.p }, all := s.all ++ [], many := s.many + total [] } q)
    rw [List.append_nil, show s.many + total [] = s.many by simp [total]]
    (focus ((repeat first | refine E1 ?_ ?_ | refine E2 ?_ | refine E3 ?_ | refine E4 ?_ | refine E5 ?_ | refine E6 ?_ | refine E7 ?_ | refine E8 ?_); exact E9; all_goals try first | rfl | assumption | omega))
    exact ⟨by omega, by omega, rfl⟩
  · rintro ⟨i, p1, q1⟩ ih
    refine Run.unpu fun hi => ?_
    obtain ⟨i0, i1, i2⟩ := hi
    dsimp only at i0 i1 i2 ⊢
    (repeat first | refine G1 ?_ | refine G2 ?_ | refine G3 ?_ | refine G4 ?_ | refine G5 rfl ?_ | refine G6 rfl ?_ | refine G7 rfl ?_)
    (focus (refine R0 ?_; refine lv (by exact Ylt) ?_; refine R1 ?_; rotate_left))

    (repeat first | refine G1 ?_ | refine G2 ?_ | refine G3 ?_ | refine G4 ?_ | refine G5 rfl ?_ | refine G6 rfl ?_ | refine G7 rfl ?_)
    refine Run.condP rfl (fun c => ?_) (fun c => ?_)
    · have hlt : i < xs.length := by omega
      have hx := hr.2 i i0 hlt
      have hmem : rd xs i ∈ xs := List.mem_of_getElem? (rd_some i0 hlt)
      have hp1 : PropOk p1 s.e.n (T + 3 * xs.length) := (hp.addsR i2 fun x hx => (hlit x (List.mem_of_mem_take hx)).2).mono (by simp; omega)
      have e1 := take_snoc xs i i0 hlt
      have hxs := In.i64 hx
      refine Run.bagLen (K := KInt) (ss := q1.ss) (xs := s.all ++ xs.take i.toNat) (by (repeat (first | with_reducible exact Pick.here | with_reducible apply Pick.there))) fun hbl => ?_
      rw [List.length_append, List.length_take] at hbl
      (repeat first | refine G1 ?_ | refine G2 ?_ | refine G3 ?_ | refine G4 ?_ | refine G5 rfl ?_ | refine G6 rfl ?_ | refine G7 rfl ?_)
      (focus (refine R0 ?_; refine lX ?_; refine lL ?_; refine lA ?_; refine R1 ?_; rotate_left))

      (repeat first | refine G1 ?_ | refine G2 ?_ | refine G3 ?_ | refine G4 ?_ | refine G5 rfl ?_ | refine G6 rfl ?_ | refine G7 rfl ?_)
      (repeat first | refine G1 ?_ | refine G2 ?_ | refine G3 ?_ | refine G4 ?_ | refine G5 rfl ?_ | refine G6 rfl ?_ | refine G7 rfl ?_)
      (focus (refine R0 ?_; refine lM ?_; refine lN ?_; refine lG ?_; refine lL ?_; refine lM ?_; refine lc [] rfl rfl (fun _ hle hA => eng_add_ct _ q1.be { s.e with p := p1 } q1.qe (rd ls i) (rd xs i) (T + 3 * xs.length) hp1 (by omega) (hx.mono hle)) ?_; intro v25; (try dsimp only [List.cons_append, List.nil_append, List.append_nil]); (repeat (refine RunL.unpu fun h25 => ?_; try subst h25)); (refine RunL.unhex fun p2 => RunL.unhex fun qe => RunL.flat ?_; ((dsimp only [EngF, HAppend.hAppend, Append.append, List.append, List.cons_append, List.nil_append, List.append_nil]); (try simp only [List.append_eq])); refine RunL.unpu fun h => ?_; obtain ⟨rfl, hR⟩ := h); refine R1 ?_; rotate_left))

      (repeat first | refine G1 ?_ | refine G2 ?_ | refine G3 ?_ | refine G4 ?_ | refine G5 rfl ?_ | refine G6 rfl ?_ | refine G7 rfl ?_)
      have hR' : AddR p1 p2 (rd xs i) := by
        have := hR
        rw [if_pos (hlit _ hmem).1] at this
        exact this
      have htot : s.many + total (xs.take i.toNat) + (rd xs i).length ≤ 80000 + 17592186044416 := by
        have : total (xs.take i.toNat) ≤ total xs := by
          have h3 : total (xs.take i.toNat ++ xs.drop i.toNat) = total (xs.take i.toNat) + total (xs.drop i.toNat) := by simp only [total, List.map_append, List.sum_append]
          rw [List.take_append_drop] at h3
          omega
        omega
      (repeat first | refine G1 ?_ | refine G2 ?_ | refine G3 ?_ | refine G4 ?_ | refine G5 rfl ?_ | refine G6 rfl ?_ | refine G7 rfl ?_)
      (focus (refine Run.planS mixed (.take 0 (.take 1 (.take 2 (.take 3 (.take 4 (.take 5 (.take 6 (.alt 7 (.alt 8 (.alt 9 (.take 10 (.take 11 (.take 12 (.alt 13 (.done) (.nomore))))) (.nomore)) (.nomore)) (.nomore))))))))) [(some 26, [0], []), (some 27, [0], []), (some 28, [27], [1]), (some 29, [28], [2]), (some 30, [29], [3]), (some 31, [30], [4]), (some 32, [7], []), (some 33, [32], [6]), (some 34, [33], [7]), (some 35, [31, 34], [5, 8, 7]), (some 36, [26], [0, 0, 1, 2, 3, 4, 5, 6, 7, 8, 9]), (some 37, [36], [10, 0, 1, 2, 3, 4, 5, 6, 7, 8, 9]), (some 38, [37], [11, 0, 1, 2, 3, 4, 5, 6, 7, 8, 9]), (none, [38, 35], [12, 9, 9, 0, 1, 2, 3, 4, 5, 6, 7, 8, 9])] (by kernel_rfl) (by kernel_rfl) (by kernel_rfl) ?_; refine dM rfl ?_; refine dM rfl ?_; refine dN rfl ?_; refine dG rfl ?_; refine dG rfl ?_; refine dL rfl ?_; refine dM rfl ?_; refine R3 ?_; refine de [(5, _), (4, _), (3, _), (2, _), (1, _), (0, _)] rfl (by exact Dcl [] rfl rfl (fun _ hle hA => clone_ct _ (rd ls i) (rd xs i) (hx.mono hle))) rfl ?_ ?_; (focus (intro _; (try dsimp only [List.cons_append, List.nil_append, List.append_nil]); refine sL rfl ?_; refine sG rfl ?_; refine sG rfl ?_; refine sN rfl ?_; refine sM rfl ?_; refine sM rfl ?_; exact Still.nil)); intro v33; (try dsimp only [List.cons_append, List.nil_append, List.append_nil]); (repeat (refine RunD.unpu fun h33 => ?_; try subst h33)); (refine RunD.unhex fun u => RunD.flat ?_; ((dsimp only [EngF, HAppend.hAppend, Append.append, List.append, List.cons_append, List.nil_append, List.append_nil]); (try simp only [List.append_eq])); refine RunD.unpu fun h => ?_; subst h); refine R3 ?_; refine deS [(5, _), (4, _), (3, _), (2, _), (1, _), (0, _)] rfl (by exact Db1) rfl ?_ ?_; (focus (intro _; (try dsimp only [List.cons_append, List.nil_append, List.append_nil]); refine sL rfl ?_; refine sG rfl ?_; refine sG rfl ?_; refine sN rfl ?_; refine sM rfl ?_; refine sM rfl ?_; exact Still.nil)); intro v34; (try dsimp only [List.cons_append, List.nil_append, List.append_nil]); refine R3 ?_; refine deS [(4, _), (3, _), (2, _), (1, _), (0, _)] rfl (by exact Dap) rfl ?_ ?_; (focus (intro _; (try dsimp only [List.cons_append, List.nil_append, List.append_nil]); refine sG rfl ?_; refine sG rfl ?_; refine sN rfl ?_; refine sM rfl ?_; refine sM rfl ?_; exact Still.nil)); intro v35; (try dsimp only [List.cons_append, List.nil_append, List.append_nil]); (repeat (refine RunD.unpu fun h35 => ?_; try subst h35)); refine dN rfl ?_; refine dG rfl ?_; refine dG rfl ?_; refine R3 ?_; refine dn [(11, _), (10, _)] rfl (by exact Dst) rfl ?_ ?_; (focus (intro _; (try dsimp only [List.cons_append, List.nil_append, List.append_nil]); refine sG rfl ?_; refine sN rfl ?_; exact Still.nil)); intro _; (try dsimp only [List.cons_append, List.nil_append, List.append_nil]); refine R2 ?_; rotate_left))

      (repeat first | refine G1 ?_ | refine G2 ?_ | refine G3 ?_ | refine G4 ?_ | refine G5 rfl ?_ | refine G6 rfl ?_ | refine G7 rfl ?_)
      all_goals
        (repeat first | refine G1 ?_ | refine G2 ?_ | refine G3 ?_ | refine G4 ?_ | refine G5 rfl ?_ | refine G6 rfl ?_ | refine G7 rfl ?_)
        (focus (refine R0 ?_; refine lM ?_; refine lN ?_; refine lG ?_; refine lL ?_; refine lM ?_; refine lE ?_; refine lv (by exact Yad) ?_; refine lN ?_; refine lG ?_; refine ln (by exact Dst) ?_; intro _; (try dsimp only [List.cons_append, List.nil_append, List.append_nil]); refine R1 ?_; rotate_left))

        (repeat first | refine G1 ?_ | refine G2 ?_ | refine G3 ?_ | refine G4 ?_ | refine G5 rfl ?_ | refine G6 rfl ?_ | refine G7 rfl ?_)
        (focus (refine R0 ?_; refine lv (by exact Yad) ?_; refine lM ?_; refine R1 ?_; rotate_left))

        (repeat first | refine G1 ?_ | refine G2 ?_ | refine G3 ?_ | refine G4 ?_ | refine G5 rfl ?_ | refine G6 rfl ?_ | refine G7 rfl ?_)
        refine Run.weaken (by (repeat (first | exact Sub.nil _ | refine Sub.cons rfl ?_))) ?_ (ih (i + 1, p2, { q1 with qe := qe, va := v35, ss := q1.ss ++ [u] }) (by dsimp only; omega))
        dsimp only [SolS.more]
        rw [e1, total_snoc, ← List.append_assoc, show s.many + ((total (xs.take i.toNat) + (rd xs i).length : Nat) : Int) = s.many + total (xs.take i.toNat) + (rd xs i).length by push_cast; omega]
        (focus ((repeat first | refine E1 ?_ ?_ | refine E2 ?_ | refine E3 ?_ | refine E4 ?_ | refine E5 ?_ | refine E6 ?_ | refine E7 ?_ | refine E8 ?_); exact E9; all_goals try first | rfl | assumption | omega))
        exact ⟨by omega, by omega, i2.snoc hR'⟩
    · (repeat first | refine G1 ?_ | refine G2 ?_ | refine G3 ?_ | refine G4 ?_ | refine G5 rfl ?_ | refine G6 rfl ?_ | refine G7 rfl ?_)
      (focus (refine R0 ?_; refine lA ?_; refine R1 ?_; rotate_left))

      (repeat first | refine G1 ?_ | refine G2 ?_ | refine G3 ?_ | refine G4 ?_ | refine G5 rfl ?_ | refine G6 rfl ?_ | refine G7 rfl ?_)
      (refine Run.ret1 Tryd.results24 (by rfl) ?_)
      have e1 : xs.take i.toNat = xs := List.take_of_length_le (by omega)
      rw [e1] at i2 ⊢
      refine Ent.hex p1 (Ent.hex q1 (Ent.flat (Ent.pu ⟨rfl, i2⟩ ?_)))
      (focus ((repeat first | refine E1 ?_ ?_ | refine E2 ?_ | refine E3 ?_ | refine E4 ?_ | refine E5 ?_ | refine E6 ?_ | refine E7 ?_ | refine E8 ?_); exact E9; all_goals try first | rfl | assumption | omega))
theorem sol_add_ct (ρ : Frag) (b : Nat) (s : SolS) (q : SolV) (c : SV) (x : List Int) (er : Nat → Addr) (T : Nat) (hs : SolOk s) (hp : PropOk s.e.p s.e.n T) (hT : T + 11 < 4398046511104) (hc : In (RArr KInt c.v x) ρ)
    (hE : Errs ρ er) (hok : rowOk s.vars x = true) (h1 : s.all.length + 1 ≤ 20000) (h2 : s.many + x.length ≤ 80000) :
    Ct Tryd.prog 9 [ptr b, c.v] ρ (SolF b s q) (fun r => [hex fun p' => hex fun q' => stars (pu (r = .nilIface ∧ AddR s.e.p p' x) :: SolF b (s.more p' [x]) q')]) := by
  have ht : total [x] = x.length := by simp [total]
  (refine Ct.of_run Tryd.func9 rfl Tryd.ntmps9 rfl (Nat.le_of_ble_eq_true rfl) ?_)
  (repeat first | refine G1 ?_ | refine G2 ?_ | refine G3 ?_ | refine G4 ?_ | refine G5 rfl ?_ | refine G6 rfl ?_ | refine G7 rfl ?_)
  (focus (refine R0 ?_; refine lA ?_; refine R1 ?_; rotate_left))

  (repeat first | refine G1 ?_ | refine G2 ?_ | refine G3 ?_ | refine G4 ?_ | refine G5 rfl ?_ | refine G6 rfl ?_ | refine G7 rfl ?_)
  (focus (refine R0 ?_; refine lM ?_; refine lM ?_; refine leS (by exact Db1) ?_; intro v7; (try dsimp only [List.cons_append, List.nil_append, List.append_nil]); (refine lc [Arr KSl v7.v [c]] rfl rfl (fun _ hle hA => adds_ct _ b s q v7 [c] [x] er T hs hp (by simp; omega) hA.stars_one.read (Rows.one (hc.mono hle)) (hE.mono hle) (by simp [hok]) (by simpa using h1) (by rw [ht]; exact h2)) ?_); intro v8; (try dsimp only [List.cons_append, List.nil_append, List.append_nil]); (repeat (refine RunL.unpu fun h8 => ?_; try subst h8)); (refine RunL.unhex fun p' => RunL.unhex fun q' => RunL.flat ?_; ((dsimp only [SolF, HAppend.hAppend, Append.append, List.append, List.cons_append, List.nil_append, List.append_nil]); (try simp only [List.append_eq])); refine RunL.unpu fun h => ?_; obtain ⟨rfl, hR⟩ := h); refine lA ?_; refine R1 ?_; rotate_left))

  (repeat first | refine G1 ?_ | refine G2 ?_ | refine G3 ?_ | refine G4 ?_ | refine G5 rfl ?_ | refine G6 rfl ?_ | refine G7 rfl ?_)
  (refine Run.ret1 Tryd.results9 (by rfl) ?_)
  obtain ⟨p1, hR1, hR2⟩ := hR
  subst hR2
  refine Ent.hex p' (Ent.hex q' (Ent.flat (Ent.pu ⟨rfl, hR1⟩ ?_)))
  (focus ((repeat first | refine E1 ?_ ?_ | refine E2 ?_ | refine E3 ?_ | refine E4 ?_ | refine E5 ?_ | refine E6 ?_ | refine E7 ?_ | refine E8 ?_); exact E9; all_goals try first | rfl | assumption | omega))
abbrev renX (bys : List Int) (x : List Int) : List Int := x.map (renL bys)
def renOk (bys : List Int) (xs : List (List Int)) : Bool := xs.all fun x => !x.any (renB bys)
theorem Bag.rows {α : Type} {K : EK α} {ρ : Frag} {ls : List SV} {xs : List (List α)} (h : In (stars [Bag K ls xs]) ρ) : Rows K ρ ls xs := Rows.of_bag h.stars_one
theorem sol_put_ct (ρ : Frag) (b : Nat) (s : SolS) (q : SolV) (cv : Int) (c by' : SV) (cs : List SV) (xs : List (List Int)) (bys : List Int) (er : Nat → Addr) (T : Nat) (hs : SolOk s) (hp : PropOk s.e.p s.e.n T) (hT : T + 3 * xs.length + 8 < 4398046511104)
    (hc : In (RArr KSl c.v cs) ρ) (hr : Rows KInt ρ cs xs) (hY : In (RArr KInt by'.v bys) ρ) (hb : ∀ x ∈ xs, ∀ l ∈ x, Tame l) (hy : ∀ x ∈ bys, Tame x)
    (hE : Errs ρ er) (h1 : s.all.length + xs.length ≤ 20000) (h2 : s.many + total xs ≤ 80000) :
    Ct Tryd.prog 17 [ptr b, .agg #[int cv, c.v], by'.v] ρ (SolF b s q) (fun r => [hex fun p' => hex fun q' => stars (pu (if renOk bys xs && (xs.map (renX bys)).all (rowOk s.vars) then r = .nilIface ∧ AddsR s.e.p p' (xs.map (renX bys)) else r = errV er 0) ::
      SolF b (if renOk bys xs && (xs.map (renX bys)).all (rowOk s.vars) then s.more p' (xs.map (renX bys)) else s) q')]) := by
  have hlen := hr.1
  have hmany := hs.many
  (refine Ct.of_run Tryd.func17 rfl Tryd.ntmps17 rfl (Nat.le_of_ble_eq_true rfl) ?_)
  (repeat first | refine G1 ?_ | refine G2 ?_ | refine G3 ?_ | refine G4 ?_ | refine G5 rfl ?_ | refine G6 rfl ?_ | refine G7 rfl ?_)
  (focus (refine R0 ?_; refine le (by exact Dbx) ?_; intro v4; (try dsimp only [List.cons_append, List.nil_append, List.append_nil]); refine RunL.unhex fun b4 => ?_; refine RunL.unhex fun hb => ?_; subst hb; refine lA ?_; refine R1 ?_; rotate_left))

  (repeat first | refine G1 ?_ | refine G2 ?_ | refine G3 ?_ | refine G4 ?_ | refine G5 rfl ?_ | refine G6 rfl ?_ | refine G7 rfl ?_)
  (repeat first | refine G1 ?_ | refine G2 ?_ | refine G3 ?_ | refine G4 ?_ | refine G5 rfl ?_ | refine G6 rfl ?_ | refine G7 rfl ?_)
  (focus (refine R0 ?_; refine lG ?_; refine lL ?_; refine lE ?_; refine leS (by exact Dmk) ?_; intro v15; (try dsimp only [List.cons_append, List.nil_append, List.append_nil]); refine lA ?_; refine R1 ?_; rotate_left))

  (repeat first | refine G1 ?_ | refine G2 ?_ | refine G3 ?_ | refine G4 ?_ | refine G5 rfl ?_ | refine G6 rfl ?_ | refine G7 rfl ?_)
  (focus (refine R0 ?_; refine lG ?_; refine lL ?_; refine lE ?_; refine lM ?_; refine R1 ?_; rotate_left))

  (repeat first | refine G1 ?_ | refine G2 ?_ | refine G3 ?_ | refine G4 ?_ | refine G5 rfl ?_ | refine G6 rfl ?_ | refine G7 rfl ?_)
  refine Run.loopI (X := Int × SV × List SV) (fun x => [(0, ptr b), (2, by'.v), (7, x.2.1.v), (17, c.v), (18, int cs.length), (19, int x.1)])
    (fun x => pu (0 ≤ x.1 ∧ x.1 ≤ xs.length ∧ renOk bys (xs.take x.1.toNat) = true) :: Arr KSl x.2.1.v x.2.2 :: Bag KInt x.2.2 ((xs.take x.1.toNat).map (renX bys)) :: SolF b s q) (fun x => (xs.length - x.1).toNat) (0, v15, []) (by (repeat (first | exact Sub.nil _ | refine Sub.cons rfl ?_))) ?_ ?_
  · show Ent _ (pu ((0 : Int) ≤ 0 ∧ (0 : Int) ≤ xs.length ∧ true = true) :: Arr KSl v15.v [] :: Bag KInt [] [] :: SolF b s q)
    rw [show List.replicate (Int.toNat 0) (⟨none, 0, 0⟩ : SV) = [] from rfl]
    (focus ((repeat first | refine E1 ?_ ?_ | refine E2 ?_ | refine E3 ?_ | refine E4 ?_ | refine E5 ?_ | refine E6 ?_ | refine E7 ?_ | refine E8 ?_); exact E9; all_goals try first | rfl | assumption | omega))
    exact ⟨by omega, by omega, rfl⟩
  · rintro ⟨i, t, ts⟩ ih
    refine Run.unpu fun hi => ?_
    obtain ⟨i0, i1, i2⟩ := hi
    dsimp only at i0 i1 i2 ⊢
    (repeat first | refine G1 ?_ | refine G2 ?_ | refine G3 ?_ | refine G4 ?_ | refine G5 rfl ?_ | refine G6 rfl ?_ | refine G7 rfl ?_)
    (focus (refine R0 ?_; refine lv (by exact Ylt) ?_; refine R1 ?_; rotate_left))

    (repeat first | refine G1 ?_ | refine G2 ?_ | refine G3 ?_ | refine G4 ?_ | refine G5 rfl ?_ | refine G6 rfl ?_ | refine G7 rfl ?_)
    refine Run.condP rfl (fun c1 => ?_) (fun c1 => ?_)
    · have hlt : i < xs.length := by omega
      have hx := hr.2 i i0 hlt
      have hmem : rd xs i ∈ xs := List.mem_of_getElem? (rd_some i0 hlt)
      have e1 := take_snoc xs i i0 hlt
      refine Run.bagLen (K := KInt) (ss := ts) (xs := (xs.take i.toNat).map (renX bys)) (by (repeat (first | with_reducible exact Pick.here | with_reducible apply Pick.there))) fun hbl => ?_
      rw [List.length_map, List.length_take] at hbl
      (repeat first | refine G1 ?_ | refine G2 ?_ | refine G3 ?_ | refine G4 ?_ | refine G5 rfl ?_ | refine G6 rfl ?_ | refine G7 rfl ?_)
      (focus (refine R0 ?_; refine lX ?_; refine lL ?_; refine lA ?_; refine R1 ?_; rotate_left))

      (repeat first | refine G1 ?_ | refine G2 ?_ | refine G3 ?_ | refine G4 ?_ | refine G5 rfl ?_ | refine G6 rfl ?_ | refine G7 rfl ?_)
      (repeat first | refine G1 ?_ | refine G2 ?_ | refine G3 ?_ | refine G4 ?_ | refine G5 rfl ?_ | refine G6 rfl ?_ | refine G7 rfl ?_)
      (focus (refine R0 ?_; refine lM ?_; refine lM ?_; refine lc [] rfl rfl (fun _ hle hA => rename_ct _ (rd cs i) by' (rd xs i) bys (hx.mono hle) (hY.mono hle) (hb _ hmem) hy) ?_; intro v26; (try dsimp only [List.cons_append, List.nil_append, List.append_nil]); (repeat (refine RunL.unpu fun h26 => ?_; try subst h26)); (refine RunL.unhex fun u => RunL.unhex fun y => RunL.unhex fun ok => RunL.flat ?_; ((dsimp only [EngF, HAppend.hAppend, Append.append, List.append, List.cons_append, List.nil_append, List.append_nil]); (try simp only [List.append_eq])); refine RunL.unpu fun h => ?_; obtain ⟨rfl, hok, hyy⟩ := h); refine lM ?_; refine lv (by exact Yxt) ?_; refine lv (by exact Yxt) ?_; refine lA ?_; refine lA ?_; refine R1 ?_; rotate_left))

      (repeat first | refine G1 ?_ | refine G2 ?_ | refine G3 ?_ | refine G4 ?_ | refine G5 rfl ?_ | refine G6 rfl ?_ | refine G7 rfl ?_)
      (repeat first | refine G1 ?_ | refine G2 ?_ | refine G3 ?_ | refine G4 ?_ | refine G5 rfl ?_ | refine G6 rfl ?_ | refine G7 rfl ?_)
      (focus (refine R0 ?_; refine lM ?_; refine lv (by first | exact YnP | exact Ynt) ?_; refine R1 ?_; rotate_left))

      (repeat first | refine G1 ?_ | refine G2 ?_ | refine G3 ?_ | refine G4 ?_ | refine G5 rfl ?_ | refine G6 rfl ?_ | refine G7 rfl ?_)
      refine Run.cond rfl (fun c2 => ?_) (fun c2 => ?_)
      · have hbad : renOk bys xs = false := by
          have h3 : ok = false := by simpa using c2
          rw [h3] at hok
          simp only [renOk, List.all_eq_false]
          exact ⟨rd xs i, hmem, by rw [← hok]; simp⟩
        (repeat first | refine G1 ?_ | refine G2 ?_ | refine G3 ?_ | refine G4 ?_ | refine G5 rfl ?_ | refine G6 rfl ?_ | refine G7 rfl ?_)
        (focus (refine R0 ?_; refine lv (by exact YlG (Errs.h (by assumption) _ (by decide))) ?_; refine lA ?_; refine R1 ?_; rotate_left))

        (repeat first | refine G1 ?_ | refine G2 ?_ | refine G3 ?_ | refine G4 ?_ | refine G5 rfl ?_ | refine G6 rfl ?_ | refine G7 rfl ?_)
        (refine Run.ret1 Tryd.results17 (by rfl) ?_)
        refine Ent.hex s.e.p (Ent.hex q (Ent.flat (Ent.pu (by rw [hbad]; rfl) ?_)))
        rw [hbad, show (if (false && (xs.map (renX bys)).all (rowOk s.vars)) = true then s.more s.e.p (xs.map (renX bys)) else s) = s from rfl]
        (focus ((repeat first | refine E1 ?_ ?_ | refine E2 ?_ | refine E3 ?_ | refine E4 ?_ | refine E5 ?_ | refine E6 ?_ | refine E7 ?_ | refine E8 ?_); exact E9; all_goals try first | rfl | assumption | omega))
      · have h3 : ok = true := by simpa using c2
        have hy2 := hyy h3
        subst hy2
        (repeat first | refine G1 ?_ | refine G2 ?_ | refine G3 ?_ | refine G4 ?_ | refine G5 rfl ?_ | refine G6 rfl ?_ | refine G7 rfl ?_)
        (focus (refine R0 ?_; refine lM ?_; refine lM ?_; refine leS (by exact Db1) ?_; intro v34; (try dsimp only [List.cons_append, List.nil_append, List.append_nil]); refine leS (by exact Dap) ?_; intro v35; (try dsimp only [List.cons_append, List.nil_append, List.append_nil]); (repeat (refine RunL.unpu fun h35 => ?_; try subst h35)); refine lA ?_; refine R1 ?_; rotate_left))

        (repeat first | refine G1 ?_ | refine G2 ?_ | refine G3 ?_ | refine G4 ?_ | refine G5 rfl ?_ | refine G6 rfl ?_ | refine G7 rfl ?_)
        (focus (refine R0 ?_; refine lv (by exact Yad) ?_; refine lM ?_; refine R1 ?_; rotate_left))

        (repeat first | refine G1 ?_ | refine G2 ?_ | refine G3 ?_ | refine G4 ?_ | refine G5 rfl ?_ | refine G6 rfl ?_ | refine G7 rfl ?_)
        refine Run.weaken (by (repeat (first | exact Sub.nil _ | refine Sub.cons rfl ?_))) ?_ (ih (i + 1, v35, ts ++ [u]) (by dsimp only; omega))
        dsimp only
        rw [e1, List.map_append, List.map_cons, List.map_nil]
        (focus ((repeat first | refine E1 ?_ ?_ | refine E2 ?_ | refine E3 ?_ | refine E4 ?_ | refine E5 ?_ | refine E6 ?_ | refine E7 ?_ | refine E8 ?_); exact E9; all_goals try first | rfl | assumption | omega))
        refine ⟨by omega, by omega, ?_⟩
        simp only [renOk, List.all_append, List.all_cons, List.all_nil, Bool.and_true] at i2 ⊢
        rw [i2, ← hok, h3]; rfl
    · have e1 : xs.take i.toNat = xs := List.take_of_length_le (by omega)
      rw [e1] at i2 ⊢
      have hml : (xs.map (renX bys)).length = xs.length := by simp
      have hmt : total (xs.map (renX bys)) = total xs := by simp [total, List.map_map, Function.comp_def, renX]
      cases hgood : (xs.map (renX bys)).all (rowOk s.vars) with
      | true =>
        (repeat first | refine G1 ?_ | refine G2 ?_ | refine G3 ?_ | refine G4 ?_ | refine G5 rfl ?_ | refine G6 rfl ?_ | refine G7 rfl ?_)
        (focus (refine R0 ?_; refine lM ?_; refine lM ?_; refine lc [Arr KSl t.v ts, Bag KInt ts (xs.map (renX bys))] rfl rfl (fun _ hle hA => adds_ct _ b s q t ts (xs.map (renX bys)) er T hs hp (by omega) hA.stars_cons.1.read (Bag.rows hA.stars_cons.2) (hE.mono hle) hgood (by omega) (by omega)) ?_; intro v39; (try dsimp only [List.cons_append, List.nil_append, List.append_nil]); (repeat (refine RunL.unpu fun h39 => ?_; try subst h39)); (refine RunL.unhex fun p' => RunL.unhex fun q' => RunL.flat ?_; ((dsimp only [SolF, HAppend.hAppend, Append.append, List.append, List.cons_append, List.nil_append, List.append_nil]); (try simp only [List.append_eq])); refine RunL.unpu fun h => ?_; obtain ⟨rfl, hR⟩ := h); refine lA ?_; refine R1 ?_; rotate_left))

        (repeat first | refine G1 ?_ | refine G2 ?_ | refine G3 ?_ | refine G4 ?_ | refine G5 rfl ?_ | refine G6 rfl ?_ | refine G7 rfl ?_)
        (refine Run.ret1 Tryd.results17 (by rfl) ?_)
        refine Ent.hex p' (Ent.hex q' (Ent.flat (Ent.pu (by rw [i2]; exact ⟨rfl, hR⟩) ?_)))
        rw [i2, show (if (true && true) = true then s.more p' (xs.map (renX bys)) else s) = s.more p' (xs.map (renX bys)) from rfl]
        (focus ((repeat first | refine E1 ?_ ?_ | refine E2 ?_ | refine E3 ?_ | refine E4 ?_ | refine E5 ?_ | refine E6 ?_ | refine E7 ?_ | refine E8 ?_); exact E9; all_goals try first | rfl | assumption | omega))
      | false =>
        (repeat first | refine G1 ?_ | refine G2 ?_ | refine G3 ?_ | refine G4 ?_ | refine G5 rfl ?_ | refine G6 rfl ?_ | refine G7 rfl ?_)
        (focus (refine R0 ?_; refine lM ?_; refine lM ?_; refine lc [Arr KSl t.v ts, Bag KInt ts (xs.map (renX bys))] rfl rfl (fun _ hle hA => adds_bad_ct _ b s q t ts (xs.map (renX bys)) er hs hA.stars_cons.1.read (Bag.rows hA.stars_cons.2) (by omega) (hE.mono hle) hgood) ?_; intro v39; (try dsimp only [List.cons_append, List.nil_append, List.append_nil]); (repeat (refine RunL.unpu fun h39 => ?_; try subst h39)); refine lA ?_; refine R1 ?_; rotate_left))

        (repeat first | refine G1 ?_ | refine G2 ?_ | refine G3 ?_ | refine G4 ?_ | refine G5 rfl ?_ | refine G6 rfl ?_ | refine G7 rfl ?_)
        (refine Run.ret1 Tryd.results17 (by rfl) ?_)
        refine Ent.hex s.e.p (Ent.hex q (Ent.flat (Ent.pu (by rw [i2]; rfl) ?_)))
        rw [i2, show (if (true && false) = true then s.more s.e.p (xs.map (renX bys)) else s) = s from rfl]
        (focus ((repeat first | refine E1 ?_ ?_ | refine E2 ?_ | refine E3 ?_ | refine E4 ?_ | refine E5 ?_ | refine E6 ?_ | refine E7 ?_ | refine E8 ?_); exact E9; all_goals try first | rfl | assumption | omega))
end Go.Proofs.YtfldnnpcdjabnaaDoor
