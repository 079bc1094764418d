/-
  skolemlaw19.made: a solver of eight variables and of clauses that are right.
-/
import Derived.Test.YtfldnnpcdjabnaaDoorRef2
import Derived.Test.YtfldnnpcdjabnaaDoorLimits
set_option linter.unusedVariables false
set_option linter.unusedSimpArgs false
namespace Go.Proofs.YtfldnnpcdjabnaaDoor
open Go
theorem prop0_ok (s : ScriptS) : PropOk (sol0 s).e.p (sol0 s).e.n 0 :=
  ⟨⟨Nat.one_pos, rfl, rfl, rfl, rfl⟩, Nat.le_of_ble_eq_true rfl, rfl, Nat.le_refl _, Nat.le_refl _, Nat.le_refl _⟩
theorem PropOk.fresh {s : SolS} (h : SolOk s) {T : Nat} (hp : PropOk s.e.p s.e.n T) (n : Int) : PropOk (s.fresh n).e.p (s.fresh n).e.n T := by
  by_cases e : n < 1 ∨ 4000 - s.vars < n
  · rw [show s.fresh n = s from if_pos e]; exact hp
  · rw [show s.fresh n = { s with e := s.e.grown (s.vars + n + 1).toNat, vars := s.vars + n } from if_neg e]
    have h1 := h.low
    have h2 := h.n
    exact hp.grown (by omega) (by omega)
theorem fresh_many {s : SolS} (n : Int) : (s.fresh n).many = s.many := by
  by_cases e : n < 1 ∨ 4000 - s.vars < n
  · rw [show s.fresh n = s from if_pos e]
  · rw [show s.fresh n = { s with e := s.e.grown (s.vars + n + 1).toNat, vars := s.vars + n } from if_neg e]
theorem more_more {s : SolS} {p p' : PropS} {xs : List (List Int)} {x : List Int} : (s.more p xs).more p' [x] = s.more p' (xs ++ [x]) := by
  simp only [SolS.more, List.append_assoc]
  congr 1
  rw [total_snoc]
  have : total [x] = x.length := by simp [total]
  rw [this]; push_cast; omega
theorem rowOk_of {v : Int} {x : List Int} (h : ∀ l ∈ x, l ≠ 0 ∧ -v ≤ l ∧ l ≤ v) : rowOk v x = true := by
  simp only [rowOk, Bool.not_eq_true', List.any_eq_false]
  intro l hl
  have := h l hl
  have e : isB l v = true := decide_eq_true ⟨this.1, this.2.1, this.2.2⟩
  rw [e]; decide
theorem total_take {xs : List (List Int)} {i : Int} (h0 : 0 ≤ i) (h1 : i < xs.length) : total (xs.take i.toNat) + (rd xs i).length ≤ total xs := by
  have h3 : total (xs.take (i + 1).toNat ++ xs.drop (i + 1).toNat) = total (xs.take (i + 1).toNat) + total (xs.drop (i + 1).toNat) := by simp only [total, List.map_append, List.sum_append]
  rw [List.take_append_drop, take_snoc xs i h0 h1, total_snoc] at h3
  omega
attribute [local irreducible] Yields Does Run RunL AnyL Ct Reads Peek PeekN Poke Pick Fits Sub Ent Still Arr RArr Cells el stars In
theorem made_ct (ρ : Frag) (l : SV) (xs : List Int) (s : ScriptS) (q : ScriptV) (er : Nat → Addr) (hE : Errs ρ er) (hl : In (RArr KInt l.v xs) ρ) (hx : ∀ x ∈ xs, -9223372036854775808 ≤ x ∧ x ≤ 9223372036854775807) (hn : xs.length ≤ 200) (hR : ScriptIn ρ s q) :
    Ct Tryd.prog 15 [l.v, scriptV s q] ρ [] (fun r => [hex fun b : Nat => hex fun t : SV => hex fun ts : List SV => hex fun cs : List (List Int) => hex fun p' => hex fun qs => stars
      (pu (r = .tuple #[ptr b, t.v] ∧ GoodCl 8 xs.length cs ∧ AddsR ((sol0 s.free).fresh 8).e.p p' cs) :: Arr KSl t.v ts :: Bag KInt ts cs :: SolF b (((sol0 s.free).fresh 8).more p' cs) qs)]) := by
  have h1 := sol0_ok s.free
  have hp1 := prop0_ok s.free
  have h2 := h1.fresh 8
  have hp2 := PropOk.fresh h1 hp1 8
  have hall : ((sol0 s.free).fresh 8).all = [] := fresh_all _
  have hmany : ((sol0 s.free).fresh 8).many = 0 := fresh_many _
  have hvars : ((sol0 s.free).fresh 8).vars = 8 := by rw [fresh_vars]; rfl
  have hR' : ScriptIn ρ s.free q := ⟨hR.h1, hR.h2, hR.h3, hR.h4⟩
  (refine Ct.of_run Tryd.func15 rfl Tryd.ntmps15 rfl (Nat.le_of_ble_eq_true rfl) ?_)
  (repeat first | refine G1 ?_ | refine G2 ?_ | refine G3 ?_ | refine G4 ?_ | refine G5 rfl ?_ | refine G6 rfl ?_ | refine G7 rfl ?_)
  (focus (refine R0 ?_; refine le (by exact Dbx) ?_; intro v3; (try dsimp only [List.cons_append, List.nil_append, List.append_nil]); refine RunL.unhex fun b3 => ?_; refine RunL.unhex fun hb => ?_; subst hb; refine lA ?_; refine lv (by exact YaN) ?_; refine R1 ?_; rotate_left))

  (repeat first | refine G1 ?_ | refine G2 ?_ | refine G3 ?_ | refine G4 ?_ | refine G5 rfl ?_ | refine G6 rfl ?_ | refine G7 rfl ?_)
  (focus (refine R0 ?_; refine lv (by first | exact YaC | exact YaE) ?_; refine lc [] rfl rfl (fun _ hle hA => free_ct _ s q) ?_; intro v10; (try dsimp only [List.cons_append, List.nil_append, List.append_nil]); (repeat (refine RunL.unpu fun h10 => ?_; try subst h10)); refine lc [] rfl rfl (fun _ hle hA => sol_new_ct _ s.free q (hR'.mono hle)) ?_; intro v11; (try dsimp only [List.cons_append, List.nil_append, List.append_nil]); (repeat (refine RunL.unpu fun h11 => ?_; try subst h11)); (refine RunL.unhex fun b => RunL.unhex fun q1 => RunL.flat ?_; ((dsimp only [SolF, HAppend.hAppend, Append.append, List.append, List.cons_append, List.nil_append, List.append_nil]); (try simp only [List.append_eq])); refine RunL.unpu fun h => ?_; subst h); refine lA ?_; refine R1 ?_; rotate_left))

  (repeat first | refine G1 ?_ | refine G2 ?_ | refine G3 ?_ | refine G4 ?_ | refine G5 rfl ?_ | refine G6 rfl ?_ | refine G7 rfl ?_)
  (repeat first | refine G1 ?_ | refine G2 ?_ | refine G3 ?_ | refine G4 ?_ | refine G5 rfl ?_ | refine G6 rfl ?_ | refine G7 rfl ?_)
  (focus (refine R0 ?_; refine lM ?_; refine lv (by first | exact Yields.eqlPN rfl | exact Yields.eqlSN rfl | exact Yields.eqlIN rfl | exact Yields.eqlIV rfl) ?_; refine lM ?_; refine lT ?_; refine lM ?_; refine lT ?_; refine lc [] rfl rfl (fun _ hle hA => fresh_ct _ b (sol0 s.free) q1 8 h1) ?_; intro v16; (try dsimp only [List.cons_append, List.nil_append, List.append_nil]); (repeat (refine RunL.unpu fun h16 => ?_; try subst h16)); (refine RunL.unhex fun q2 => RunL.flat ?_; ((dsimp only [SolF, HAppend.hAppend, Append.append, List.append, List.cons_append, List.nil_append, List.append_nil]); (try simp only [List.append_eq])); refine RunL.unpu fun h => ?_; subst h); refine lT ?_; refine lv (by exact Yne) ?_; refine lv (by first | exact YpT | exact YpF | exact Yields.pickB rfl rfl rfl) ?_; refine R1 ?_; rotate_left))

  (repeat first | refine G1 ?_ | refine G2 ?_ | refine G3 ?_ | refine G4 ?_ | refine G5 rfl ?_ | refine G6 rfl ?_ | refine G7 rfl ?_)
  (repeat first | refine G1 ?_ | refine G2 ?_ | refine G3 ?_ | refine G4 ?_ | refine G5 rfl ?_ | refine G6 rfl ?_ | refine G7 rfl ?_)
  (focus (refine R0 ?_; refine lM ?_; refine lc [] rfl rfl (fun _ hle hA => clauses_ct _ l xs 8 (by omega) (by omega) (hl.mono hle) hx (by omega)) ?_; intro v20; (try dsimp only [List.cons_append, List.nil_append, List.append_nil]); (repeat (refine RunL.unpu fun h20 => ?_; try subst h20)); (refine RunL.unhex fun t => RunL.unhex fun ts => RunL.unhex fun cs => RunL.flat ?_; ((dsimp only [SolF, HAppend.hAppend, Append.append, List.append, List.cons_append, List.nil_append, List.append_nil]); (try simp only [List.append_eq])); refine RunL.unpu fun h => ?_; obtain ⟨rfl, hG⟩ := h); refine lA ?_; refine R1 ?_; rotate_left))

  (repeat first | refine G1 ?_ | refine G2 ?_ | refine G3 ?_ | refine G4 ?_ | refine G5 rfl ?_ | refine G6 rfl ?_ | refine G7 rfl ?_)
  have hcl := hG.len
  have hct := hG.total
  generalize (sol0 s.free).fresh 8 = s1 at *
  (repeat first | refine G1 ?_ | refine G2 ?_ | refine G3 ?_ | refine G4 ?_ | refine G5 rfl ?_ | refine G6 rfl ?_ | refine G7 rfl ?_)
  (focus (refine R0 ?_; refine lA ?_; refine R1 ?_; rotate_left))

  (repeat first | refine G1 ?_ | refine G2 ?_ | refine G3 ?_ | refine G4 ?_ | refine G5 rfl ?_ | refine G6 rfl ?_ | refine G7 rfl ?_)
  refine Run.loopI (X := Int × PropS × SolV) (fun x => [(6, ptr b), (7, t.v), (8, int x.1)])
    (fun x => pu (0 ≤ x.1 ∧ x.1 ≤ cs.length ∧ AddsR s1.e.p x.2.1 (cs.take x.1.toNat)) :: Arr KSl t.v ts :: Bag KInt ts cs :: SolF b (s1.more x.2.1 (cs.take x.1.toNat)) x.2.2) (fun x => (cs.length - x.1).toNat) (0, s1.e.p, q2) (by (repeat (first | exact Sub.nil _ | refine Sub.cons rfl ?_))) ?_ ?_
  · show Ent _ (pu ((0 : Int) ≤ 0 ∧ (0 : Int) ≤ cs.length ∧ s1.e.p = s1.e.p) :: Arr KSl t.v ts :: Bag KInt ts cs :: SolF b { s1 with e := { s1.e with p := s1.e.p }, all := s1.all ++ [], many := s1.many + total [] } q2)
    rw [List.append_nil, show s1.many + total [] = s1.many by simp [total]]
    (focus ((repeat first | refine E1 ?_ ?_ | refine E2 ?_ | refine E3 ?_ | refine E4 ?_ | refine E5 ?_ | refine E6 ?_ | refine E7 ?_ | refine E8 ?_); exact E9; all_goals try first | rfl | assumption | omega))
    exact ⟨by omega, by omega, rfl⟩
  · rintro ⟨i, p1, q3⟩ ih
    refine Run.unpu fun hi => ?_
    obtain ⟨i0, i1, i2⟩ := hi
    dsimp only at i0 i1 i2 ⊢
    refine Run.bagLen (K := KInt) (ss := ts) (xs := cs) (by (repeat (first | with_reducible exact Pick.here | with_reducible apply Pick.there))) fun hbl => ?_
    (repeat first | refine G1 ?_ | refine G2 ?_ | refine G3 ?_ | refine G4 ?_ | refine G5 rfl ?_ | refine G6 rfl ?_ | refine G7 rfl ?_)
    (focus (refine R0 ?_; refine lM ?_; refine lM ?_; refine lE ?_; refine lv (by exact Ylt) ?_; refine R1 ?_; rotate_left))

    (repeat first | refine G1 ?_ | refine G2 ?_ | refine G3 ?_ | refine G4 ?_ | refine G5 rfl ?_ | refine G6 rfl ?_ | refine G7 rfl ?_)
    refine Run.condP rfl (fun c => ?_) (fun c => ?_)
    · have hlt : i < cs.length := by omega
      have hmem : rd cs i ∈ cs := List.mem_of_getElem? (rd_some i0 hlt)
      have hok : ∀ x ∈ cs, rowOk s1.vars x = true := fun x hx => by rw [hvars]; exact rowOk_of (hG.lit x hx)
      have htt := total_take i0 hlt
      have hlit : ∀ x ∈ cs, ∀ l ∈ x, litOk s1.e.n l := fun x hx => (rowOk_lit h2.n (hok x hx)).2
      have hp3 : PropOk p1 s1.e.n 1000 := (hp2.addsR i2 fun x hx => hlit x (List.mem_of_mem_take hx)).mono (by simp; omega)
      have hs3 : SolOk (s1.more p1 (cs.take i.toNat)) := h2.more hp3 (by rw [hall]; simp; omega) (by rw [hmany]; omega)
      have e1 := take_snoc cs i i0 hlt
      (repeat first | refine G1 ?_ | refine G2 ?_ | refine G3 ?_ | refine G4 ?_ | refine G5 rfl ?_ | refine G6 rfl ?_ | refine G7 rfl ?_)
      (focus (refine R0 ?_; refine lM ?_; refine lM ?_; refine lM ?_; refine lX ?_; refine lL ?_; (refine lc [Arr KSl t.v ts, Bag KInt ts cs] rfl rfl (fun _ hle hA => sol_add_ct _ b (s1.more p1 (cs.take i.toNat)) q3 (rd ts i) (rd cs i) er 1000 hs3 hp3 (by omega) ((Bag.rows hA.stars_cons.2).2 i i0 hlt) (hE.mono hle) (hok _ hmem) (by dsimp only; rw [hall]; simp; omega) (by dsimp only; rw [hmany]; omega)) ?_); intro v32; (try dsimp only [List.cons_append, List.nil_append, List.append_nil]); (repeat (refine RunL.unpu fun h32 => ?_; try subst h32)); (refine RunL.unhex fun p2 => RunL.unhex fun q4 => RunL.flat ?_; rw [more_more]; ((dsimp only [SolF, HAppend.hAppend, Append.append, List.append, List.cons_append, List.nil_append, List.append_nil]); (try simp only [List.append_eq])); refine RunL.unpu fun h => ?_; obtain ⟨rfl, hR3⟩ := h); refine lv (by first | exact Yields.neqPN rfl | exact Yields.neqSN rfl | exact Yields.neqIN rfl | exact Yields.neqIV rfl) ?_; refine R1 ?_; rotate_left))

      (repeat first | refine G1 ?_ | refine G2 ?_ | refine G3 ?_ | refine G4 ?_ | refine G5 rfl ?_ | refine G6 rfl ?_ | refine G7 rfl ?_)
      (repeat first | refine G1 ?_ | refine G2 ?_ | refine G3 ?_ | refine G4 ?_ | refine G5 rfl ?_ | refine G6 rfl ?_ | refine G7 rfl ?_)
      (focus (refine R0 ?_; refine lM ?_; refine lv (by exact Yad) ?_; refine lA ?_; refine R1 ?_; rotate_left))

      (repeat first | refine G1 ?_ | refine G2 ?_ | refine G3 ?_ | refine G4 ?_ | refine G5 rfl ?_ | refine G6 rfl ?_ | refine G7 rfl ?_)
      refine Run.weaken (by (repeat (first | exact Sub.nil _ | refine Sub.cons rfl ?_))) ?_ (ih (i + 1, p2, q4) (by dsimp only; omega))
      dsimp only [SolS.more]
      rw [e1]
      (focus ((repeat first | refine E1 ?_ ?_ | refine E2 ?_ | refine E3 ?_ | refine E4 ?_ | refine E5 ?_ | refine E6 ?_ | refine E7 ?_ | refine E8 ?_); exact E9; all_goals try first | rfl | assumption | omega))
      exact ⟨by omega, by omega, i2.snoc hR3⟩
    · (repeat first | refine G1 ?_ | refine G2 ?_ | refine G3 ?_ | refine G4 ?_ | refine G5 rfl ?_ | refine G6 rfl ?_ | refine G7 rfl ?_)
      (focus (refine R0 ?_; refine lM ?_; refine lM ?_; refine lA ?_; refine lA ?_; refine R1 ?_; rotate_left))

      (repeat first | refine G1 ?_ | refine G2 ?_ | refine G3 ?_ | refine G4 ?_ | refine G5 rfl ?_ | refine G6 rfl ?_ | refine G7 rfl ?_)
      (refine Run.ret2 Tryd.results15 (by rfl) (by rfl) ?_)
      have e1 : cs.take i.toNat = cs := List.take_of_length_le (by omega)
      rw [e1] at i2 ⊢
      refine Ent.hex b (Ent.hex t (Ent.hex ts (Ent.hex cs (Ent.hex p1 (Ent.hex q3 (Ent.flat (Ent.pu ⟨rfl, hG, i2⟩ ?_)))))))
      (focus ((repeat first | refine E1 ?_ ?_ | refine E2 ?_ | refine E3 ?_ | refine E4 ?_ | refine E5 ?_ | refine E6 ?_ | refine E7 ?_ | refine E8 ?_); exact E9; all_goals try first | rfl | assumption | omega))
end Go.Proofs.YtfldnnpcdjabnaaDoor
