/-
  What comes in: lists of whole numbers, scripts: how a call's arguments read.
-/
import Derived.Test.YtfldnnpcdjabnaaDoorEnd
import Derived.Test.YtfldnnpcdjabnaaDoorSat
import Derived.SizedLaws
import Derived.ChangeSlices
set_option linter.unusedVariables false
set_option linter.unusedSimpArgs false
namespace Go.Proofs.YtfldnnpcdjabnaaDoor
open Go Go.ChangeShapes Go.WideShapes Go.ChangeAt Go.RowKit
section
variable {H : Type} {enc : TypeId × Value → H} {W : World}
theorem cellsI : Tryd.prog.cellsOf 3 = 1 := by kernel_rfl
theorem bytesI : Tryd.prog.bytesOf 3 = 8 := by kernel_rfl
theorem cellsL : Tryd.prog.cellsOf 26 = 1 := by kernel_rfl
set_option maxRecDepth 100000 in
theorem wf_i64 {n : Int} (w : (Lit.int .i64 n).wf = true) : -9223372036854775808 ≤ n ∧ n ≤ 9223372036854775807 := by
  have e1 : IntKind.i64.min = -9223372036854775808 := by rfl
  have e2 : IntKind.i64.max = 9223372036854775807 := by rfl
  simp only [Lit.wf, e1, e2, Bool.and_eq_true, decide_eq_true_eq] at w
  exact w
theorem ints_cells {fuel : Nat} {cs : List Value} {d : DataW H} {ps : List MemPlace} (h : DataW.trod enc Tryd.prog W 0 (fun _ => true) true fuel 26 cs = some (d, ps)) (hw : ∀ n ∈ d.weights Tryd.prog 26, n ≤ reachBytes) :
    ∃ (s : SV) (xs : List Int), cs = [s.v] ∧ In (RArr KInt s.v xs) (hp W) ∧ ∀ x ∈ xs, -9223372036854775808 ≤ x ∧ x ≤ 9223372036854775807 := by
  rcases open_ints Tryd.underlying26 Tryd.underlying3 cellsI h with ⟨rfl, _⟩ | ⟨a, len, cap, zs, rfl, _, hl, _, hz, hx, hc, hwf⟩
  · exact ⟨nilS, [], rfl, ⟨fnil, ⟨by simp, none, 0, rfl, Nat.le_refl _, .inl rfl⟩, fnil_le _⟩, fun x h => by cases h⟩
  · have hz' : zs.length = cap := by simpa using hz
    have hlen : (zs.take len).length = len := by rw [List.length_take]; omega
    have hb : len * 8 ≤ reachBytes := by
      have e : d = .slice (lits .i64 (zs.take len)) (lits .i64 (zs.drop len)) := congrArg Prod.fst hx
      have := hw (((lits (H := H) .i64 (zs.take len)).length + (lits (H := H) .i64 (zs.drop len)).length) * Tryd.prog.bytesOf 3) (by
        rw [e]; simp only [DataW.weights, Tryd.underlying26]; exact List.mem_cons_self ..)
      rw [bytesI] at this
      simp only [lits, List.length_map, hlen] at this
      omega
    refine ⟨⟨some a, len, cap⟩, zs.take len, rfl, ⟨hp W, ⟨?_, some a, cap, by rw [hlen]; rfl, by rw [hlen]; exact hl, ?_⟩, fle_refl _⟩, fun x h => wf_i64 (hwf x (List.mem_of_mem_take h))⟩
    · rw [hlen]
      show len * 8 ≤ roomBytes
      have : reachBytes ≤ roomBytes := by decide
      omega
    · by_cases h0 : len = 0
      · left; subst h0; simp
      · right
        have hcell := fun i (hi : i < zs.length) => hc i hi
        have hspot : a.spot = none := by
          have h1 := hcell 0 (by omega)
          have e : a.add 0 = a := by simp [Addr.add]
          rw [e] at h1
          unfold World.cell? at h1
          split at h1
          · split at h1
            · cases h1
            · rename_i hs; simpa using hs
          · cases h1
        obtain ⟨g, off, sp⟩ := a
        dsimp only at hspot
        subst hspot
        obtain ⟨cur, T, fr, hh⟩ : ∃ cur T fr, W.heap[g]? = some (.cells cur T fr) := by
          have h1 := hcell 0 (by omega)
          have e : (⟨g, off, none⟩ : Addr).add 0 = ⟨g, off, none⟩ := by simp [Addr.add]
          rw [e] at h1
          unfold World.cell? at h1
          split at h1
          · rename_i c T fr hh; exact ⟨c, T, fr, hh⟩
          · cases h1
        refine ⟨g, off, cur, T, fr, rfl, hh, fun j u hu => ?_⟩
        have hflat : flat KInt (zs.take len) = (zs.take len).map (Value.int .i64) := (List.map_eq_flatMap ..).symm
        rw [hflat, List.getElem?_map, List.getElem?_take] at hu
        by_cases hj : j < len
        · rw [if_pos hj] at hu
          have hjz : j < zs.length := by omega
          rw [List.getElem?_eq_getElem hjz] at hu
          simp only [Option.map_some, Option.some.injEq] at hu
          have h1 := hcell j hjz
          simp only [World.cell?, Addr.add_lit, hh] at h1
          have e : zs.getD j 0 = zs[j] := by simp [List.getD, hjz]
          rw [e] at h1
          rw [← hu]
          simpa using h1
        · rw [if_neg hj] at hu; cases hu
set_option maxRecDepth 100000 in
theorem ints_in {v : Value} {d : DataW H} {ps : List MemPlace} {base : Nat} (hv : Value.okWide Tryd.prog W .any base 26 v) (h : DataW.Trod enc Tryd.prog W 0 (fun _ => true) true 26 v d ps) (hw : ∀ n ∈ d.weights Tryd.prog 26, n ≤ reachBytes) :
    ∃ (s : SV) (xs : List Int), v = s.v ∧ In (RArr KInt s.v xs) (hp W) ∧ ∀ x ∈ xs, -9223372036854775808 ≤ x ∧ x ≤ 9223372036854775807 := by
  obtain ⟨a, len, cap, rfl⟩ := okWide_slice Tryd.underlying26 hv
  obtain ⟨fuel, hf⟩ := h
  obtain ⟨s, xs, e, h1, h2⟩ := ints_cells hf hw
  have e2 : (Value.slice a len cap) = s.v := by simpa [Value.cells] using e
  exact ⟨s, xs, e2, h1, h2⟩
theorem int_cells {fuel : Nat} {cs : List Value} {x : DataW H × List MemPlace} (h : DataW.trod enc Tryd.prog W 0 (fun _ => true) true fuel 3 cs = some x) : ∃ n : Int, cs = [.int .i64 n] := by
  obtain ⟨n, rfl, _, _⟩ := DataW.trod_int Tryd.underlying3 h
  exact ⟨n, rfl⟩
set_option maxRecDepth 100000 in
theorem script_in {v : Value} {d : DataW H} {ps : List MemPlace} {base : Nat} (hv : Value.okWide Tryd.prog W .any base 28 v) (h : DataW.Trod enc Tryd.prog W 0 (fun _ => true) true 28 v d ps) (hw : ∀ n ∈ d.weights Tryd.prog 28, n ≤ reachBytes) :
    ∃ (s : ScriptS) (q : ScriptV), v = scriptV s q ∧ ScriptIn (hp W) s q := by
  obtain ⟨cs, rfl, hsz⟩ := okWide_struct Tryd.underlying28 hv
  obtain ⟨fuel, hf⟩ := h
  obtain ⟨xs, n, rfl, hx, hl, hxl, hel⟩ := DataW.trod_struct Tryd.underlying28 hf
  have hd : d = .agg (xs.map (·.1)) := congrArg Prod.fst hx
  have hcs : (Value.agg cs).cells.toList = cs.toList := rfl
  rw [hcs] at hl hel
  have c28 : Tryd.prog.cellsOf 28 = 6 := by kernel_rfl
  rw [c28] at hl
  match hce : cs.toList, hl with
  | [c0, c1, c2, c3, c4, c5], _ =>
    rw [hce] at hel
    have hx6 : xs.length = 6 := hxl
    obtain ⟨x0, x1, x2, x3, x4, x5, hxe⟩ : ∃ x0 x1 x2 x3 x4 x5, xs = [x0, x1, x2, x3, x4, x5] := by
      match xs, hx6 with
      | [x0, x1, x2, x3, x4, x5], _ => exact ⟨x0, x1, x2, x3, x4, x5, rfl⟩
    · subst hxe
      have f0 := hel 0 _ rfl
      have f1 := hel 1 _ rfl
      have f2 := hel 2 _ rfl
      have f3 := hel 3 _ rfl
      have f4 := hel 4 _ rfl
      have f5 := hel 5 _ rfl
      simp only [List.getElem_toArray, List.getElem_cons_zero, List.getElem_cons_succ, cellsL, cellsI, List.drop, List.take, List.getElem?_cons_zero, List.getElem?_cons_succ] at f0 f1 f2 f3 f4 f5
      have hwt : ∀ (j : Nat) (y : DataW H), j < 4 → ([x0, x1, x2, x3, x4, x5].map (·.1))[j]? = some y → ∀ n ∈ y.weights Tryd.prog 26, n ≤ reachBytes := by
        intro j y hj hy n hn
        refine hw n ?_
        rw [hd]
        simp only [DataW.weights, Tryd.underlying28]
        refine DataW.weights_mem_each (j := j) (t := 26) ?_ hy n hn
        have : j = 0 ∨ j = 1 ∨ j = 2 ∨ j = 3 := by omega
        rcases this with rfl | rfl | rfl | rfl <;> rfl
      obtain ⟨s0, l0, e0, r0, _⟩ := ints_cells (d := x0.1) (ps := x0.2) f0 (hwt 0 _ (by omega) rfl)
      obtain ⟨s1, l1, e1, r1, _⟩ := ints_cells (d := x1.1) (ps := x1.2) f1 (hwt 1 _ (by omega) rfl)
      obtain ⟨s2, l2, e2, r2, _⟩ := ints_cells (d := x2.1) (ps := x2.2) f2 (hwt 2 _ (by omega) rfl)
      obtain ⟨s3, l3, e3, r3, _⟩ := ints_cells (d := x3.1) (ps := x3.2) f3 (hwt 3 _ (by omega) rfl)
      obtain ⟨n4, e4⟩ := int_cells f4
      obtain ⟨n5, e5⟩ := int_cells f5
      simp only [List.cons.injEq, and_true] at e0 e1 e2 e3 e4 e5
      subst e0; subst e1; subst e2; subst e3; subst e4; subst e5
      refine ⟨⟨l0, l1, l2, l3, n4, n5⟩, ⟨s0, s1, s2, s3⟩, ?_, r0, r1, r2, r3⟩
      have : cs = #[s0.v, s1.v, s2.v, s3.v, .int .i64 n4, .int .i64 n5] := by
        apply Array.ext'; rw [hce]
      rw [this]
end
end Go.Proofs.YtfldnnpcdjabnaaDoor
