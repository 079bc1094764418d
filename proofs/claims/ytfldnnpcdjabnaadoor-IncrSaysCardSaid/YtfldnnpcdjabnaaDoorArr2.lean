/-
  Slices that grow, are made, are cut.
-/
import Derived.Test.YtfldnnpcdjabnaaDoorArr
set_option linter.unusedVariables false
set_option linter.unusedSimpArgs false
namespace Go.Proofs.YtfldnnpcdjabnaaDoor
open Go

section
variable {C : Cx} {e : Env} {L : List HP} {d : Option Tmp} {ty : TypeId} {ps : String} {af : Array Edge} {g : Option (Nat × Bool)} {α : Type} {K : EK α}
theorem flat_one {P : Program} [hK : EKOk P K] (xs : List α) : ∀ u ∈ flat K xs, u.oneCell' = true := fun u hu => by
  simp only [flat, List.mem_flatMap] at hu
  obtain ⟨x, _, hx⟩ := hu
  exact hK.one x u hx
/-- What is appended: the elements ys, wherever they lie. -/
theorem src_of {P : Program} [hK : EKOk P K] {T : TypeId} {u : Value} {ys : List α} {w : World} (hT : P.underlying T = some (.slice K.e)) (r : RArr K u ys (hp w)) : Src P K.k T u ys.length (flat K ys) w := by
  obtain ⟨hb, ao, c, rfl, _, rfl | ⟨gg, off, cur, T', fr, rfl, hg, hcells⟩⟩ := r
  · cases ao with
    | none => exact Src.ofNil w hT c
    | some a => exact Src.ofSlice w hT a 0 c [] (by simp) (by simp) (by simp)
  · refine Src.ofSlice w hT _ _ c _ (flat_length hK.len ys) (fun j u hu => ?_) (flat_one (P := P) ys)
    have hg' : w.heap[gg]? = some (.cells cur T' fr) := hg
    simp [Addr.add_lit, World.cell?, hg', hcells j u hu]
theorem exec_append {P : Program} {o : Oper} {a : Act} {w w' : World} (s x : Operand) (T : TypeId) (ho : o.op = .call { callee := .builtin .append, args := #[s, x], argTypes := #[T, T] }) (v u v' : Value) (hv : a.eval s = v) (hu : a.eval x = u)
    (hr : (Builtin.append_ #[T, T] o.type #[v, u]).run P w = .ok v' w') : (execOp a.eval o).run P w = .ok (.value v') w' := by
  simp [execOp, ho, resolve, invoke, builtin, hv, hu, hr]
theorem zeroCells_length (z : Array Value) (n : Nat) : (Builtin.zeroCells z n).toList.length = n * z.size := by rw [Array.length_toList, size_zeroCells]
/-- append. -/
theorem Does.append [hK : EKOk C.P K] {T : TypeId} {s x : Operand} {v u : Value} {xs ys : List α} {L' : List HP} [hT : Und C.P T (.slice K.e)] (hs : ev e s = some v) (hx : ev e x = some u) (p : Pick (Arr K v xs) L L') (r : Reads C L' (RArr K u ys))
    (hfits : (xs.length + ys.length) * K.b ≤ 140737488355328) :
    Does C ⟨d, .call ⟨.builtin .append, #[s, x], #[T, T]⟩, ty, ps, af, g⟩ e L (fun v' => Arr K v' (xs ++ ys) :: L') := fun a w h st => by
  obtain ⟨h1, h2, dd, rfl, ha, hb⟩ := p h st.holds
  obtain ⟨r1, r2⟩ := dj_fadd'.1 st.dj
  have hin := RArr.of_in (r h2 hb r2)
  have hl2 : fle h2 (hp w) := fle_trans (le_fadd_right dd) st.le
  have hrw := hin.mono (fadd_le st.rho hl2)
  have hsrc := src_of (P := C.P) hT.h hrw
  obtain ⟨i, z, hi, hik, hib, hz, hzk⟩ := hK.info
  have hyB : ys.length * K.b ≤ roomBytes := hin.1
  have hrb : roomBytes = 140737488355328 := rfl
  have hlenY := flat_length hK.len ys
  have hlenX := flat_length hK.len xs
  have hk0 := hK.k0
  have hb0 := hK.b0
  have hlen : (xs ++ ys).length * K.b ≤ roomBytes := by rw [List.length_append]; exact hfits
  -- a new block
  have grown : ∀ (base : Option Addr) (sCap : Nat), v = .slice base xs.length sCap → sCap < xs.length + ys.length → Builtin.nextslicecap (xs.length + ys.length) sCap * i.bytes ≤ 281474976710656 →
      (Builtin.firstCells i.size xs.length (.slice base xs.length sCap)).run C.P w.drew = .ok (flat K xs).toArray w.drew →
      ∃ v' w' h', (Builtin.append_ #[T, T] ty #[v, u]).run C.P w = .ok v' w' ∧ stars (Arr K v' (xs ++ ys) :: L') h' ∧ fle h' (hp w') ∧ Evo (fadd h1 h2) w w' h' := by
    intro base sCap hv hg hfit hold
    have hnb : (xs.length + ys.length) * i.bytes ≤ 281474976710656 := Nat.le_trans (Nat.mul_le_mul_right _ (le_nextslicecap hg)) hfit
    have h63 : ((xs.length + ys.length : Nat) : Int) ≤ 9223372036854775807 := by
      have : xs.length + ys.length ≤ (xs.length + ys.length) * i.bytes := Nat.le_mul_of_pos_right _ (by rw [hib]; exact hb0)
      omega
    have hrun := run_append_grow_src (P := C.P) w T T ty K.e i z hT.h hi hz base xs.length sCap (flat K xs) hold u ys.length (flat K ys) (by rw [hik]; exact hsrc) hg h63 hfit
    obtain ⟨d', l', n'⟩ := alloc_evo (w := w.drew) (h := h2) hl2 (.cells (((flat K xs) ++ flat K ys).toArray ++ Builtin.zeroCells z.cells (grownCap w (xs.length + ys.length) sCap K.e - (xs.length + ys.length))) K.e)
    rw [hv]
    refine ⟨_, _, _, hrun, ⟨_, h2, d', rfl, .inr ⟨w.heap.size, grownCap w (xs.length + ys.length) sCap K.e, (((flat K xs) ++ flat K ys).toArray ++ Builtin.zeroCells z.cells (grownCap w (xs.length + ys.length) sCap K.e - (xs.length + ys.length))).toList, ?_, ?_, ?_, ?_, ?_, ?_⟩, hb⟩, l', ?_⟩
    · simp
    · simpa using grownCap_ge w (xs.length + ys.length) sCap K.e
    · exact hlen
    · have hge := grownCap_ge w (xs.length + ys.length) sCap K.e
      simp only [Array.toList_append, List.length_append, zeroCells_length, hlenX, hlenY, hzk]
      rw [← Nat.add_mul, ← Nat.add_mul]
      exact Nat.mul_le_mul_right _ (by omega)
    · simp only [Array.toList_append, List.length_append]
      rw [List.take_append_of_le_length (by simp [hlenX, hlenY, Nat.add_mul]), flat_append]
      exact List.take_of_length_le (by simp [hlenX, hlenY, Nat.add_mul])
    · rw [Array.toArray_toList]; rfl
    · refine ⟨by simp, fun b hb e' => ?_, fun b e' => ?_, n'.os, n'.out, n'.tape, Nat.le_trans (Nat.le_succ _) n'.drawn⟩
      · have e2 : h2 b = none := by simp only [fadd, Option.or_eq_none_iff] at e'; exact e'.2
        exact n'.same b hb e2
      · rcases n'.dom b e' with e2 | e2
        · left; simp only [fadd]; intro e3; simp only [Option.or_eq_none_iff] at e3; exact e2 e3.2
        · exact .inr e2
  have fin : (∃ v' w' h', (Builtin.append_ #[T, T] ty #[v, u]).run C.P w = .ok v' w' ∧ stars (Arr K v' (xs ++ ys) :: L') h' ∧ fle h' (hp w') ∧ Evo (fadd h1 h2) w w' h') →
      (⟨d, .call ⟨.builtin .append, #[s, x], #[T, T]⟩, ty, ps, af, g⟩ : Oper).wp C.P a w (fun a' w' => ∃ v' h', a' = a.put d v' ∧ stars (Arr K v' (xs ++ ys) :: L') h' ∧ fle h' (hp w') ∧ Evo (fadd h1 h2) w w' h') (fun _ _ _ => False) := by
    rintro ⟨v', w', h', hrun, hL, hle, hn⟩
    unfold Oper.wp
    rw [exec_append s x T rfl v u v' (st.eval hs) (st.eval hx) hrun]
    exact ⟨v', h', rfl, hL, hle, hn⟩
  refine fin ?_
  rcases ha with ⟨rfl, rfl, ao, rfl⟩ | ⟨gg, cap, cur, rfl, c1, c2, c3, c4, rfl⟩
  · -- no room at all
    by_cases hy : ys = []
    · subst hy
      refine ⟨.slice ao 0 0, w, fadd fnil h2, ?_, ⟨fnil, h2, dd, rfl, .inl ⟨rfl, rfl, ao, rfl⟩, hb⟩, st.le, Evo.refl _ _⟩
      have hc := hsrc.cells
      simp only [List.length_nil] at hc
      rw [← hik] at hc
      cases ao with
      | none => simp [Builtin.append_, run_underlying hT.h, sizeOf, typeInfo, hi, hsrc.len, hc, flat]
      | some a0 => simp [Builtin.append_, run_underlying hT.h, sizeOf, typeInfo, hi, hsrc.len, hc, flat, storeCells]
    · have hpos : 0 < ys.length := List.length_pos_iff.2 hy
      refine grown ao 0 rfl (by simpa using hpos) ?_ ?_
      · simp only [List.length_nil, Nat.zero_add]
        rw [nextslicecap_zero hpos, hib]; omega
      · cases ao with
        | none => simp [Builtin.firstCells, flat]
        | some a0 => simpa [flat] using run_firstCells_some (P := C.P) w.drew i.size 0 a0 0 0 [] (by simp) (by simp)
  · have hg : w.heap[gg]? = some (.cells cur.toArray K.e (0, 0)) := st.le gg _ (by simp [fadd, fone])
    have hcells : ∀ j u, (flat K xs)[j]? = some u → w.cell? ((⟨gg, 0, none⟩ : Addr).add j) = some u := fun j u hu => by
      rw [← c4, List.getElem?_take] at hu
      split at hu
      · simpa [Addr.add_lit, World.cell?, hg] using hu
      · cases hu
    by_cases hroom : xs.length + ys.length ≤ cap
    · -- there is room
      have hfit : xs.length * K.k + (flat K ys).length ≤ cur.length := by rw [hlenY, ← Nat.add_mul]; exact Nat.le_trans (Nat.mul_le_mul_right _ hroom) c3
      have hst := run_storeCells_at (P := C.P) gg (xs.length * K.k) K.e (flat K ys) 0 cur.toArray w hg (by simpa using hfit) (flat_one (P := C.P) ys)
      simp only [Nat.add_zero] at hst
      have hc := hsrc.cells
      rw [← hik] at hc
      have hrun : (Builtin.append_ #[T, T] ty #[.slice (some ⟨gg, 0, none⟩) xs.length cap, u]).run C.P w =
          .ok (.slice (some ⟨gg, 0, none⟩) (xs.length + ys.length) cap) (w.setRow gg (cur.take (xs.length * K.k) ++ flat K ys ++ cur.drop (xs.length * K.k + (flat K ys).length)).toArray) := by
        simp [Builtin.append_, run_underlying hT.h, sizeOf, typeInfo, hi, hsrc.len, hroom, hsrc.cells, Addr.add_lit, hik, hst]
      obtain ⟨d', l', n'⟩ := setRow_evo (cs := (cur.take (xs.length * K.k) ++ flat K ys ++ cur.drop (xs.length * K.k + (flat K ys).length)).toArray) st.le dd
      refine ⟨_, _, _, hrun, ⟨_, h2, d', rfl, .inr ⟨gg, cap, _, ?_, ?_, hlen, ?_, ?_, rfl⟩, hb⟩, l', n'⟩
      · simp
      · simpa using hroom
      · have : xs.length * K.k ≤ cur.length := by omega
        simp only [List.length_append, List.length_take, List.length_drop]; omega
      · rw [← flat_length hK.len, c4, ← flat_append]
        exact List.take_left
    · have hfit : Builtin.nextslicecap (xs.length + ys.length) cap * i.bytes ≤ 281474976710656 := growslice_fits (by omega) (by rw [hib]; exact hfits)
      refine grown _ cap rfl (by omega) hfit ?_
      exact run_firstCells_some (P := C.P) w.drew i.size xs.length _ xs.length cap (flat K xs) (by rw [hlenX, hik]) hcells
end
end Go.Proofs.YtfldnnpcdjabnaaDoor
