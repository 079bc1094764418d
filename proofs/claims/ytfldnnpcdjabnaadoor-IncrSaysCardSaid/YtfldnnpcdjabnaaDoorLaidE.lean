/-
  api's errors out of the rows' cell 'laid'.
-/
import Derived.Test.YtfldnnpcdjabnaaDoorLaid
import Derived.Test.YtfldnnpcdjabnaaDoorSee
set_option linter.unusedVariables false
set_option linter.unusedSimpArgs false
namespace Go.Proofs.YtfldnnpcdjabnaaDoor
open Go Go.RowKit Go.ChangeShapes

def texts : List (String × List UInt8) := [("skolem/api.ErrText", [110, 111, 116, 32, 97, 115, 32, 105, 116, 32, 105, 115, 32, 119, 114, 105, 116, 116, 101, 110]), ("skolem/api.ErrLimit", [109, 111, 114, 101, 32, 116, 104, 97, 110, 32, 109, 97, 121, 32, 98, 101]),
  ("skolem/api.ErrBudget", [116, 104, 101, 32, 98, 117, 100, 103, 101, 116, 32, 105, 115, 32, 117, 115, 101, 100, 32, 117, 112]), ("skolem/api.ErrRange", [97, 32, 110, 117, 109, 98, 101, 114, 32, 111, 117, 116, 32, 111, 102, 32, 105, 116, 115, 32, 114, 97, 110, 103, 101]),
  ("skolem/api.ErrBlocks", [109, 111, 114, 101, 32, 116, 104, 97, 110, 32, 116, 119, 111, 32, 98, 108, 111, 99, 107, 115]), ("skolem/api.ErrProof", [97, 32, 115, 116, 101, 112, 32, 116, 104, 97, 116, 32, 100, 111, 101, 115, 32, 110, 111, 116, 32, 102, 111, 108, 108, 111, 119]),
  ("skolem/api.ErrCert", [110, 111, 32, 99, 101, 114, 116, 105, 102, 105, 99, 97, 116, 101, 32, 111, 102, 32, 105, 116])]
theorem gText : Tryd.prog.globalNamed "skolem/api.ErrText" = some 2 := by kernel_rfl
theorem gLimit : Tryd.prog.globalNamed "skolem/api.ErrLimit" = some 1 := by kernel_rfl
theorem gBudget : Tryd.prog.globalNamed "skolem/api.ErrBudget" = some 3 := by kernel_rfl
theorem gRange : Tryd.prog.globalNamed "skolem/api.ErrRange" = some 0 := by kernel_rfl
theorem gBlocks : Tryd.prog.globalNamed "skolem/api.ErrBlocks" = some 4 := by kernel_rfl
theorem gProof : Tryd.prog.globalNamed "skolem/api.ErrProof" = some 5 := by kernel_rfl
theorem gCert : Tryd.prog.globalNamed "skolem/api.ErrCert" = some 6 := by kernel_rfl
theorem gT0 : (Tryd.prog.globals[0]?).map (·.type) = some 31 := by kernel_rfl
theorem gT1 : (Tryd.prog.globals[1]?).map (·.type) = some 31 := by kernel_rfl
theorem gT2 : (Tryd.prog.globals[2]?).map (·.type) = some 31 := by kernel_rfl
theorem gT3 : (Tryd.prog.globals[3]?).map (·.type) = some 31 := by kernel_rfl
theorem gT4 : (Tryd.prog.globals[4]?).map (·.type) = some 31 := by kernel_rfl
theorem gT5 : (Tryd.prog.globals[5]?).map (·.type) = some 31 := by kernel_rfl
theorem gT6 : (Tryd.prog.globals[6]?).map (·.type) = some 31 := by kernel_rfl
theorem starE : "*" ++ "errors.errorString" = "*errors.errorString" := by decide
theorem rowE (u : TypeId) (h : Tryd.prog.typeName? 3 u = some "*errors.errorString") : u = 140 :=
  typeName_ptr_named (nm := "errors.errorString") (by rw [starE]; kernel_rfl) (by kernel_rfl) (by decide) u (by rw [starE]; exact h)
theorem cellsE : Tryd.prog.cellsOf 160 = 1 := by kernel_rfl
theorem cellsS : Tryd.prog.cellsOf 9 = 1 := by kernel_rfl
theorem errs_of_laid {W : World} (h : laidMetH Tryd.prog (texts.map sentL) W) : ∃ er, Errs (hp W) er := by
  have h' : laidMet Tryd.prog (texts.map sentL) W := h
  obtain ⟨ps, hv, hnd, hrows⟩ := h'
  have hg : ∀ x ∈ texts, ∃ g, Tryd.prog.globalNamed x.1 = some g ∧ (Tryd.prog.globals[g]?).map (·.type) = some 31 := by
    intro x hx
    simp only [texts, List.mem_cons, List.not_mem_nil, or_false] at hx
    rcases hx with rfl | rfl | rfl | rfl | rfl | rfl | rfl
    · exact ⟨_, gText, by first | exact gT0 | exact gT1 | exact gT2 | exact gT3 | exact gT4 | exact gT5 | exact gT6⟩
    · exact ⟨_, gLimit, by first | exact gT0 | exact gT1 | exact gT2 | exact gT3 | exact gT4 | exact gT5 | exact gT6⟩
    · exact ⟨_, gBudget, by first | exact gT0 | exact gT1 | exact gT2 | exact gT3 | exact gT4 | exact gT5 | exact gT6⟩
    · exact ⟨_, gRange, by first | exact gT0 | exact gT1 | exact gT2 | exact gT3 | exact gT4 | exact gT5 | exact gT6⟩
    · exact ⟨_, gBlocks, by first | exact gT0 | exact gT1 | exact gT2 | exact gT3 | exact gT4 | exact gT5 | exact gT6⟩
    · exact ⟨_, gProof, by first | exact gT0 | exact gT1 | exact gT2 | exact gT3 | exact gT4 | exact gT5 | exact gT6⟩
    · exact ⟨_, gCert, by first | exact gT0 | exact gT1 | exact gT2 | exact gT3 | exact gT4 | exact gT5 | exact gT6⟩
  obtain ⟨az, h1, h2, h3, _⟩ := sents_of Tryd.underlying31 rowE Tryd.underlying140 Tryd.underlying160 rfl rfl Tryd.underlying9 cellsE cellsS texts ps hg hv hnd hrows
  match az, h1, h2, h3 with
  | [a0, a1, a2, a3, a4, a5, a6], _, h2, h3 =>
    have k0 := h2 0 _ a0 rfl rfl
    have k1 := h2 1 _ a1 rfl rfl
    have k2 := h2 2 _ a2 rfl rfl
    have k3 := h2 3 _ a3 rfl rfl
    have k4 := h2 4 _ a4 rfl rfl
    have k5 := h2 5 _ a5 rfl rfl
    have k6 := h2 6 _ a6 rfl rfl
    have fact : ∀ {n : String} {g : Nat} {a : Addr}, Tryd.prog.globalNamed n = some g → Held Tryd.prog W 140 n a → In (GlobIs g (.iface 140 (.pointer (some a)))) (hp W) ∧ ∃ c T, hp W a.block = some (.cells c T (0, 0)) := by
      intro n g a hn ⟨g', cs, T, fr, e1, e2, e3, e4⟩
      obtain rfl := Option.some.inj (hn.symm.trans e1)
      exact ⟨⟨hp W, ⟨cs, T, fr, e2, e3⟩, fle_refl _⟩, e4⟩
    have f0 := fact gText k0
    have f1 := fact gLimit k1
    have f2 := fact gBudget k2
    have f3 := fact gRange k3
    have f4 := fact gBlocks k4
    have f5 := fact gProof k5
    have f6 := fact gCert k6
    let er : Nat → Addr := fun k => if k = 2 then a0 else if k = 1 then a1 else if k = 3 then a2 else if k = 0 then a3 else if k = 4 then a4 else if k = 5 then a5 else a6
    have all : ∀ k, k < 7 → In (GlobIs k (.iface 140 (.pointer (some (er k))))) (hp W) ∧ ∃ c T, hp W (er k).block = some (.cells c T (0, 0)) := by
      intro k hk
      have : k = 0 ∨ k = 1 ∨ k = 2 ∨ k = 3 ∨ k = 4 ∨ k = 5 ∨ k = 6 := by omega
      rcases this with rfl | rfl | rfl | rfl | rfl | rfl | rfl <;> first | exact f0 | exact f1 | exact f2 | exact f3 | exact f4 | exact f5 | exact f6
    refine ⟨er, ⟨fun k hk => (all k hk).1, fun i j hi hj he => ?_, fun k hk => (all k hk).2⟩⟩
    have key : ∀ (m n : Nat) (hm : m < 7) (hn : n < 7), [a0, a1, a2, a3, a4, a5, a6][m]'hm = [a0, a1, a2, a3, a4, a5, a6][n]'hn → m = n := fun m n hm hn e => by
      have hp := List.pairwise_iff_getElem.1 h3
      rcases Nat.lt_trichotomy m n with h | h | h
      · exact absurd e (hp m n hm hn h)
      · exact h
      · exact absurd e.symm (hp n m hn hm h)
    let ix : Nat → Nat := fun k => if k = 2 then 0 else if k = 1 then 1 else if k = 3 then 2 else if k = 0 then 3 else if k = 4 then 4 else if k = 5 then 5 else 6
    have hix : ∀ k, k < 7 → ∃ h : ix k < 7, er k = [a0, a1, a2, a3, a4, a5, a6][ix k]'h := by
      intro k hk
      have : k = 0 ∨ k = 1 ∨ k = 2 ∨ k = 3 ∨ k = 4 ∨ k = 5 ∨ k = 6 := by omega
      rcases this with rfl | rfl | rfl | rfl | rfl | rfl | rfl <;> exact ⟨by decide, rfl⟩
    obtain ⟨l1, e1⟩ := hix i hi
    obtain ⟨l2, e2⟩ := hix j hj
    have := key _ _ l1 l2 (by rw [← e1, ← e2]; exact he)
    have a : i = 0 ∨ i = 1 ∨ i = 2 ∨ i = 3 ∨ i = 4 ∨ i = 5 ∨ i = 6 := by omega
    have b : j = 0 ∨ j = 1 ∨ j = 2 ∨ j = 3 ∨ j = 4 ∨ j = 5 ∨ j = 6 := by omega
    clear hix key all f0 f1 f2 f3 f4 f5 f6 fact k0 k1 k2 k3 k4 k5 k6 h3 h2 e1 e2 he l1 l2
    rcases a with rfl | rfl | rfl | rfl | rfl | rfl | rfl <;> rcases b with rfl | rfl | rfl | rfl | rfl | rfl | rfl <;> first | rfl | (exact absurd this (by decide))
end Go.Proofs.YtfldnnpcdjabnaaDoor
