/-
  sat.Engine.Add, by its contract.
-/
import Derived.Test.YtfldnnpcdjabnaaDoorAdd
import Derived.Test.YtfldnnpcdjabnaaDoorSat
set_option linter.unusedVariables false
set_option linter.unusedSimpArgs false
namespace Go.Proofs.YtfldnnpcdjabnaaDoor
open Go
structure PropOk (p : PropS) (n T : Nat) : Prop where
  sized : Sized p n
  small : n ≤ 1000000
  clen : p.fl.length = p.cl.length
  room : Room p T
theorem PropOk.mono {p : PropS} {n T T' : Nat} (h : PropOk p n T) (hT : T ≤ T') : PropOk p n T' := ⟨h.sized, h.small, h.clen, Nat.le_trans h.room.cl hT, Nat.le_trans h.room.loose hT, Nat.le_trans h.room.watch hT⟩
theorem look_len (p : PropS) (id : Int) : (p.look id).cl = p.cl ∧ (p.look id).fl.length = p.fl.length ∧ (p.look id).watch = p.watch ∧ (p.look id).vals = p.vals ∧ (p.look id).level = p.level ∧ (p.look id).reason = p.reason ∧ (p.look id).trail = p.trail ∧ (p.look id).marks = p.marks ∧ (p.look id).head = p.head := by
  unfold PropS.look
  split <;> simp [wr]
theorem addW_len (w : List (List Int)) (l : List Int) (id : Int) : (addW w l id).length = w.length := by
  unfold addW; split
  · exact addWs_len _ _ _
  · rfl
theorem Sized.add {p : PropS} {n : Nat} (h : Sized p n) (l : List Int) : Sized (p.add l) n := by
  obtain ⟨e1, e2, e3, e4, e5, e6, e7, e8, e9⟩ := look_len { p with cl := p.cl ++ [l], fl := p.fl ++ [(true, false)], watch := addW p.watch l p.cl.length } p.cl.length
  exact ⟨h.pos, by rw [PropS.add, e4]; exact h.vals, by rw [PropS.add, e5]; exact h.level, by rw [PropS.add, e6]; exact h.reason, by rw [PropS.add, e3]; exact (addW_len _ _ _).trans h.watch⟩
theorem PropOk.add {p : PropS} {n T : Nat} (h : PropOk p n T) {l : List Int} (hl : ∀ x ∈ l, litOk n x) : PropOk (p.add l) n (T + 3) := by
  obtain ⟨e1, e2, e3, e4, e5, e6, e7, e8, e9⟩ := look_len { p with cl := p.cl ++ [l], fl := p.fl ++ [(true, false)], watch := addW p.watch l p.cl.length } p.cl.length
  refine ⟨h.sized.add l, h.small, ?_, ?_⟩
  · rw [PropS.add, e1, e2]; simp [h.clen]
  · refine Room.look ⟨?_, ?_, ?_⟩ _
    · have := h.room.cl; simp; omega
    · have := h.room.loose; dsimp only; omega
    · have := h.room.watch
      dsimp only
      unfold addW
      split
      · rw [addWs_sum n _ _ _ h.sized.watch (fun x hx => hl x (List.mem_of_mem_take hx)), List.length_take]; omega
      · omega
theorem pad_sum (w : List (List Int)) (n : Nat) : ((pad w n []).map List.length).sum = (w.map List.length).sum := by
  simp only [pad, List.map_append, List.sum_append, List.map_replicate, List.length_nil]
  induction n - w.length with
  | zero => simp
  | succ k ih => simp only [List.replicate_succ, List.sum_cons] at ih ⊢; omega
theorem PropOk.grown {p : PropS} {n T N : Nat} (h : PropOk p n T) (hN : n ≤ N) (hs : N ≤ 1000000) : PropOk (p.grown N) N T :=
  ⟨⟨Nat.lt_of_lt_of_le h.sized.pos hN, by rw [length_pad, h.sized.vals]; omega, by rw [length_pad, h.sized.level]; omega, by rw [length_pad, h.sized.reason]; omega, by rw [length_pad, h.sized.watch]; omega⟩, hs, h.clen,
   h.room.cl, h.room.loose, by dsimp only; rw [pad_sum]; exact h.room.watch⟩
/-- What a clause is added as. -/
def AddR (p p' : PropS) (xs : List Int) : Prop := ∃ l says, NormR xs l says ∧ p' = if says then p.add l else p
attribute [local irreducible] Yields Does Run RunL AnyL Ct Reads Peek PeekN Poke Pick Fits Sub Ent Still Arr RArr Cells el stars In
theorem eng_add1_ct (ρ : Frag) (b bb : Nat) (e : EngS) (q : EngV) (x : Int) (T : Nat) (hs : PropOk e.p e.n T) (hR : In (stars (EngF b e q)) ρ) (hB : In (Cells bb 54 [ptr b]) ρ) :
    Ct Tryd.prog 54 [int x, ptr bb] ρ [] (fun r => [pu (r = .bool (!isB x ((e.n : Int) - 1)))]) := by
  have hC := hR.stars_cons.1
  have hS : In (stars (PropF q.bp e.p q.qp)) ρ := In.ent (by (focus ((repeat first | refine E1 ?_ ?_ | refine E2 ?_ | refine E3 ?_ | refine E4 ?_ | refine E5 ?_ | refine E6 ?_ | refine E7 ?_ | refine E8 ?_); exact E9; all_goals try first | rfl | assumption | omega))) hR
  have hv := hs.sized.vals
  have hp := hs.sized.pos
  have hn := hs.small
  (refine Ct.of_run Tryd.func54 rfl Tryd.ntmps54 rfl (Nat.le_of_ble_eq_true rfl) ?_)
  (repeat first | refine G1 ?_ | refine G2 ?_ | refine G3 ?_ | refine G4 ?_ | refine G5 rfl ?_ | refine G6 rfl ?_ | refine G7 rfl ?_)
  (focus (refine R0 ?_; refine lA ?_; refine R1 ?_; rotate_left))

  (repeat first | refine G1 ?_ | refine G2 ?_ | refine G3 ?_ | refine G4 ?_ | refine G5 rfl ?_ | refine G6 rfl ?_ | refine G7 rfl ?_)
  (focus (refine R0 ?_; refine lM ?_; refine lL ?_; refine lN ?_; refine lG ?_; refine lL ?_; refine lc [] rfl rfl (fun _ hle hA => prop_vars_ct _ q.bp e.p q.qp (hS.mono hle)) ?_; intro v9; (try dsimp only [List.cons_append, List.nil_append, List.append_nil]); (repeat (refine RunL.unpu fun h9 => ?_; try subst h9)); refine lc [] rfl rfl (fun _ hle hA => is_lit_ct _ x ((e.p.vals.length : Int) - 1) (by omega) (by omega)) ?_; intro v10; (try dsimp only [List.cons_append, List.nil_append, List.append_nil]); (repeat (refine RunL.unpu fun h10 => ?_; try subst h10)); refine lv (by first | exact YnP | exact Ynt) ?_; refine lA ?_; refine R1 ?_; rotate_left))

  (repeat first | refine G1 ?_ | refine G2 ?_ | refine G3 ?_ | refine G4 ?_ | refine G5 rfl ?_ | refine G6 rfl ?_ | refine G7 rfl ?_)
  (refine Run.ret1 Tryd.results54 (by rfl) ?_)
  (focus ((repeat first | refine E1 ?_ ?_ | refine E2 ?_ | refine E3 ?_ | refine E4 ?_ | refine E5 ?_ | refine E6 ?_ | refine E7 ?_ | refine E8 ?_); exact E9; all_goals try first | rfl | assumption | omega))
  rw [hv]
  simp only [isB, decide_not]
theorem eng_add_ct (ρ : Frag) (b : Nat) (e : EngS) (q : EngV) (c : SV) (xs : List Int) (T : Nat) (hs : PropOk e.p e.n T) (hT : T + 4 < 4398046511104) (hc : In (RArr KInt c.v xs) ρ) :
    Ct Tryd.prog 40 [ptr b, c.v] ρ (EngF b e q) (fun r => [hex fun p' => hex fun q' => stars (pu (r = .bool (xs.all fun x => isB x ((e.n : Int) - 1)) ∧ (if (xs.all fun x => isB x ((e.n : Int) - 1)) then AddR e.p p' xs else p' = e.p)) :: EngF b { e with p := p' } q')]) := by
  have hn := hs.small
  (refine Ct.of_run Tryd.func40 rfl Tryd.ntmps40 rfl (Nat.le_of_ble_eq_true rfl) ?_)
  (repeat first | refine G1 ?_ | refine G2 ?_ | refine G3 ?_ | refine G4 ?_ | refine G5 rfl ?_ | refine G6 rfl ?_ | refine G7 rfl ?_)
  (focus (refine R0 ?_; refine le (by exact Dbx) ?_; intro v2; (try dsimp only [List.cons_append, List.nil_append, List.append_nil]); refine RunL.unhex fun b2 => ?_; refine RunL.unhex fun hb => ?_; subst hb; refine lA ?_; refine R1 ?_; rotate_left))

  (repeat first | refine G1 ?_ | refine G2 ?_ | refine G3 ?_ | refine G4 ?_ | refine G5 rfl ?_ | refine G6 rfl ?_ | refine G7 rfl ?_)
  (repeat first | refine G1 ?_ | refine G2 ?_ | refine G3 ?_ | refine G4 ?_ | refine G5 rfl ?_ | refine G6 rfl ?_ | refine G7 rfl ?_)
  (focus (refine R0 ?_; refine lM ?_; refine lv (by exact Ymf) ?_; refine lc (Cells b2 54 [ptr b] :: EngF b e q) rfl rfl (fun _ hle hA => containsFunc_ct _ c xs 54 #[] #[ptr b2] (fun x => !isB x ((e.n : Int) - 1)) (hc.mono hle) (fun x _ ρ' h' => eng_add1_ct ρ' b b2 e q x T hs (hA.stars_cons.2.mono h') (hA.stars_cons.1.mono h'))) ?_; intro v7; (try dsimp only [List.cons_append, List.nil_append, List.append_nil]); (repeat (refine RunL.unpu fun h7 => ?_; try subst h7)); refine R1 ?_; rotate_left))

  (repeat first | refine G1 ?_ | refine G2 ?_ | refine G3 ?_ | refine G4 ?_ | refine G5 rfl ?_ | refine G6 rfl ?_ | refine G7 rfl ?_)
  refine Run.cond rfl (fun c2 => ?_) (fun c2 => ?_)
  · have hf : (xs.all fun x => isB x ((e.n : Int) - 1)) = false := by
      obtain ⟨x, hx, hx2⟩ := List.any_eq_true.1 c2
      rw [List.all_eq_false]; exact ⟨x, hx, by simpa using hx2⟩
    (repeat first | refine G1 ?_ | refine G2 ?_ | refine G3 ?_ | refine G4 ?_ | refine G5 rfl ?_ | refine G6 rfl ?_ | refine G7 rfl ?_)
    (focus (refine R0 ?_; refine lA ?_; refine R1 ?_; rotate_left))

    (repeat first | refine G1 ?_ | refine G2 ?_ | refine G3 ?_ | refine G4 ?_ | refine G5 rfl ?_ | refine G6 rfl ?_ | refine G7 rfl ?_)
    (refine Run.ret1 Tryd.results40 (by rfl) ?_)
    refine Ent.hex e.p (Ent.hex q (Ent.flat (Ent.pu ⟨by rw [hf], by rw [hf]; rfl⟩ ?_)))
    (focus ((repeat first | refine E1 ?_ ?_ | refine E2 ?_ | refine E3 ?_ | refine E4 ?_ | refine E5 ?_ | refine E6 ?_ | refine E7 ?_ | refine E8 ?_); exact E9; all_goals try first | rfl | assumption | omega))
  · have hf : (xs.all fun x => isB x ((e.n : Int) - 1)) = true := by
      rw [List.all_eq_true]; intro x hx
      have := List.any_eq_false.1 c2 x hx
      simpa using this
    have hlit : ∀ x ∈ xs, litOk e.n x := fun x hx => isB_litOk.1 (List.all_eq_true.1 hf x hx)
    have htm : ∀ x ∈ xs, Tame x := fun x hx => by have := hlit x hx; simp only [litOk] at this; exact ⟨by omega, by omega⟩
    (repeat first | refine G1 ?_ | refine G2 ?_ | refine G3 ?_ | refine G4 ?_ | refine G5 rfl ?_ | refine G6 rfl ?_ | refine G7 rfl ?_)
    (focus (refine R0 ?_; refine lL ?_; refine lN ?_; refine lG ?_; refine lL ?_; refine lM ?_; refine lc [] rfl rfl (fun _ hle hA => prop_add_ct _ q.bp e.p q.qp c xs e.n T hs.sized hn hs.clen hs.room hT (hc.mono hle) htm) ?_; intro v13; (try dsimp only [List.cons_append, List.nil_append, List.append_nil]); (repeat (refine RunL.unpu fun h13 => ?_; try subst h13)); (refine RunL.unhex fun l => RunL.unhex fun ok => RunL.unhex fun qp => RunL.flat ?_; ((dsimp only [PropF, HAppend.hAppend, Append.append, List.append, List.cons_append, List.nil_append, List.append_nil]); (try simp only [List.append_eq])); refine RunL.unpu fun h => ?_; obtain ⟨rfl, says, hN, hok⟩ := h); refine R1 ?_; rotate_left))

    (repeat first | refine G1 ?_ | refine G2 ?_ | refine G3 ?_ | refine G4 ?_ | refine G5 rfl ?_ | refine G6 rfl ?_ | refine G7 rfl ?_)
    have hla : (l.all fun x => isB x ((e.n : Int) - 1)) = true := by
      rw [List.all_eq_true]; intro x hx
      exact isB_litOk.2 (hlit x ((hN.mem x).1 hx))
    rw [hla, Bool.and_true] at hok
    (repeat first | refine G1 ?_ | refine G2 ?_ | refine G3 ?_ | refine G4 ?_ | refine G5 rfl ?_ | refine G6 rfl ?_ | refine G7 rfl ?_)
    (focus (refine R0 ?_; refine lA ?_; refine R1 ?_; rotate_left))

    (repeat first | refine G1 ?_ | refine G2 ?_ | refine G3 ?_ | refine G4 ?_ | refine G5 rfl ?_ | refine G6 rfl ?_ | refine G7 rfl ?_)
    (refine Run.ret1 Tryd.results40 (by rfl) ?_)
    refine Ent.hex (if ok = true then e.p.add l else e.p) (Ent.hex { q with qp := qp } (Ent.flat (Ent.pu ⟨by rw [hf], ?_⟩ ?_)))
    · rw [if_pos hf]
      exact ⟨l, says, hN, by rw [hok]⟩
    · (focus ((repeat first | refine E1 ?_ ?_ | refine E2 ?_ | refine E3 ?_ | refine E4 ?_ | refine E5 ?_ | refine E6 ?_ | refine E7 ?_ | refine E8 ?_); exact E9; all_goals try first | rfl | assumption | omega))
end Go.Proofs.YtfldnnpcdjabnaaDoor
