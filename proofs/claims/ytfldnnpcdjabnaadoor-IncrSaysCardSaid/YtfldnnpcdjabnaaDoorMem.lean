/-
  Memory: a block of a struct, a slice with its elements; what reads them, what writes them, what makes them.
-/
import Derived.Test.YtfldnnpcdjabnaaDoorOps
import Derived.Room.AppendUpon
set_option linter.unusedVariables false
set_option linter.unusedSimpArgs false
namespace Go.Proofs.YtfldnnpcdjabnaaDoor
open Go

/-! ## Blocks made, blocks turned -/
theorem hp_alloc (w : World) (o : Obj) : hp (w.alloc o) w.heap.size = some o := heap_alloc_new w o
theorem hp_alloc_old (w : World) (o : Obj) (b : Nat) (h : b ≠ w.heap.size) : hp (w.alloc o) b = hp w b := by
  show (w.heap.push o)[b]? = w.heap[b]?
  rw [Array.getElem?_push, if_neg h]
theorem none_of_le {h : Frag} {w : World} (l : fle h (hp w)) {b : Nat} (hb : w.heap.size ≤ b) : h b = none := by
  rcases Option.eq_none_or_eq_some (h b) with e | ⟨o, e⟩
  · exact e
  · have := hp_lt (l b o e); omega
theorem alloc_evo {h : Frag} {w : World} (l : fle h (hp w)) (o : Obj) :
    dj (fone w.heap.size o) h ∧ fle (fadd (fone w.heap.size o) h) (hp (w.alloc o)) ∧ Evo h w (w.alloc o) (fadd (fone w.heap.size o) h) := by
  refine ⟨fun b => ?_, fadd_le (fone_le (hp_alloc w o)) fun b o' e => ?_, ⟨by simp, fun b hb _ => hp_alloc_old w o b (by omega), fun b e => ?_, rfl, rfl, rfl, Nat.le_refl _⟩⟩
  · by_cases hb : b = w.heap.size
    · right; subst hb; exact none_of_le l (Nat.le_refl _)
    · left; simp [fone, hb]
  · rw [hp_alloc_old w o b (by have := hp_lt (l b o' e); omega)]; exact l b o' e
  · by_cases hb : b = w.heap.size
    · exact .inr (by omega)
    · left; simpa [fadd, fone, hb] using e
theorem evo_drew (h : Frag) (w : World) : Evo h w w.drew h := ⟨Nat.le_refl _, fun _ _ _ => rfl, fun _ e => .inl e, rfl, rfl, rfl, Nat.le_succ _⟩
theorem hp_drew (w : World) : hp w.drew = hp w := rfl
theorem setRow_os (w : World) (g : Nat) (cs : Array Value) : (w.setRow g cs).os = w.os := rfl
theorem setRow_out (w : World) (g : Nat) (cs : Array Value) : (w.setRow g cs).output = w.output := rfl
theorem setRow_evo {r : Frag} {w : World} {g : Nat} {old cs : Array Value} {T : TypeId} {fr : Nat × Nat} (l : fle (fadd (fone g (.cells old T fr)) r) (hp w)) (d : dj (fone g (.cells old T fr)) r) :
    dj (fone g (.cells cs T fr)) r ∧ fle (fadd (fone g (.cells cs T fr)) r) (hp (w.setRow g cs)) ∧
      Evo (fadd (fone g (.cells old T fr)) r) w (w.setRow g cs) (fadd (fone g (.cells cs T fr)) r) := by
  have hg : w.heap[g]? = some (.cells old T fr) := l g _ (by simp [fadd, fone])
  have hrg : r g = none := (d g).resolve_left (by simp [fone])
  refine ⟨fun b => ?_, fadd_le (fone_le (setRow_heap w g old cs T fr hg)) fun b o e => ?_, ⟨by simp, fun b hb e => ?_, fun b e => ?_, setRow_os w g cs, setRow_out w g cs, rfl, Nat.le_refl _⟩⟩
  · rcases d b with e | e
    · left; unfold fone at e ⊢; split at e <;> simp_all
    · exact .inr e
  · have hb : b ≠ g := by rintro rfl; simp [hrg] at e
    show (w.setRow g cs).heap[b]? = _
    rw [setRow_other w g b cs hb]
    exact l b o (by simp [fadd, fone, hb, e])
  · have hbg : b ≠ g := by rintro rfl; simp [fadd, fone] at e
    exact setRow_other w g b cs hbg
  · left
    by_cases hbg : b = g
    · subst hbg; simp [fadd, fone]
    · simpa [fadd, fone, hbg] using e

/-! ## A block of cells -/
def Cells (b : Nat) (T : TypeId) (cs : List Value) : HP := blk b (.cells cs.toArray T (0, 0))
/-- The cell holds v. -/
def Peek (C : Cx) (L : List HP) (a : Addr) (v : Value) : Prop := ∀ w h, stars L h → fle h (hp w) → fle C.ρ (hp w) → dj C.ρ h → w.cell? a = some v
/-- A stands in what is owned, or may be read. -/
def Reads (C : Cx) (L : List HP) (A : HP) : Prop := ∀ h, stars L h → dj C.ρ h → In A (fadd C.ρ h)
theorem Reads.at {C : Cx} {A : HP} {L : List HP} (r : Reads C L A) {w : World} {h : Frag} (s : stars L h) (l : fle h (hp w)) (l' : fle C.ρ (hp w)) (d : dj C.ρ h) : In A (hp w) := (r h s d).mono (fadd_le l' l)
theorem Reads.pick {C : Cx} {A : HP} {L L' : List HP} (p : Pick A L L') : Reads C L A := fun h s dd => by
  obtain ⟨h1, h2, d, rfl, a, b⟩ := p h s
  exact ⟨h1, a, fle_trans (le_fadd_left _ _) (le_fadd_right dd)⟩
theorem Reads.rho {C : Cx} {A : HP} {L : List HP} (h : In A C.ρ) : Reads C L A := fun _ _ _ => h.mono (le_fadd_left _ _)
theorem Reads.mono {C : Cx} {A B : HP} {L : List HP} (r : Reads C L A) (m : ∀ h, A h → B h) : Reads C L B := fun h s d =>
  let ⟨k, a, b⟩ := r h s d; ⟨k, m k a, b⟩
theorem cell_of_in {b : Nat} {T : TypeId} {cs : List Value} {w : World} (h : In (Cells b T cs) (hp w)) (off : Nat) : w.cell? ⟨b, off, none⟩ = cs[off]? := by
  obtain ⟨k, rfl, l⟩ := h
  have : w.heap[b]? = some (.cells cs.toArray T (0, 0)) := l b _ (fone_self _ _)
  simp [World.cell?, this]
theorem Peek.cells {C : Cx} {L : List HP} {b off : Nat} {T : TypeId} {cs : List Value} {v : Value} (r : Reads C L (Cells b T cs)) (hv : cs[off]? = some v) : Peek C L ⟨b, off, none⟩ v := fun w h s l l' dd => by
  rw [cell_of_in (r.at s l l' dd), hv]
/-- Some cells in a row. -/
def PeekN (C : Cx) (L : List HP) (a : Addr) (vs : List Value) : Prop := ∀ w h, stars L h → fle h (hp w) → fle C.ρ (hp w) → dj C.ρ h → ∀ j u, vs[j]? = some u → w.cell? (a.add j) = some u
theorem PeekN.cells {C : Cx} {L : List HP} {b off n : Nat} {T : TypeId} {cs vs : List Value} (r : Reads C L (Cells b T cs)) (hv : (cs.drop off).take n = vs) : PeekN C L ⟨b, off, none⟩ vs := fun w h s l l' dd j u hu => by
  rw [Addr.add_lit, cell_of_in (r.at s l l' dd)]
  rw [← hv, List.getElem?_take] at hu
  split at hu
  · simpa using hu
  · cases hu

section
variable {C : Cx} {e : Env} {L : List HP} {d : Option Tmp} {ty : TypeId} {ps : String} {af : Array Edge} {g : Option (Nat × Bool)}
theorem St.peek {H : HP} {a : Act} {w : World} {h : Frag} {p : Addr} {v : Value} (s : St C e (stars L) a w h) (k : Peek C L p v) : w.cell? p = some v := k w h s.holds s.le s.rho s.dj
theorem Yields.load {T : TypeId} {x : Operand} {p : Addr} {v : Value} [hT : Sca C.P T] (hx : ev e x = some (.pointer (some p))) (hp : Peek C L p v) : Yields C ⟨d, .load T x, ty, ps, af, g⟩ e L v := fun a w h s => by
  have := hp w h s.holds s.le s.rho s.dj
  simp [execOp, s.eval hx, Instr.loadAt, Instr.sureAddr, loadVar, hT.h, this]
theorem Yields.loadA {T : TypeId} {x : Operand} {p : Addr} {n : Nat} {vs : List Value} [hT : Agg C.P T] [hS : Siz C.P T n] (hx : ev e x = some (.pointer (some p))) (hp : PeekN C L p vs) (hn : vs.length = n) :
    Yields C ⟨d, .load T x, ty, ps, af, g⟩ e L (.agg vs.toArray) := fun a w h s => by
  have h1 := run_loadCells_list (P := C.P) w p vs (hp w h s.holds s.le s.rho s.dj)
  rw [hn] at h1
  simp [execOp, s.eval hx, Instr.loadAt, Instr.sureAddr, loadVar, hT.h, hS.h, h1]
theorem Yields.fieldAddrB {T : TypeId} {x : Operand} {i off b n : Nat} [hF : FAd C.P T i off] (hx : ev e x = some (.pointer (some ⟨b, n, none⟩))) :
    Yields C ⟨d, .fieldAddr T x i, ty, ps, af, g⟩ e L (.pointer (some ⟨b, n + off, none⟩)) := fun a w h s => by
  simp [execOp, s.eval hx, hF.h, Addr.add_lit]

/-! A store -/
def Poke (C : Cx) (L : List HP) (a : Addr) (v : Value) (L' : List HP) : Prop := ∀ w h, stars L h → fle h (hp w) →
  (∃ u, w.cell? a = some u) ∧ w.frozen? a = false ∧ ∃ h', stars L' h' ∧ fle h' (hp (w.setCell a v)) ∧ Evo h w (w.setCell a v) h'
theorem Poke.cells {C : Cx} {L L' : List HP} {b off : Nat} {T : TypeId} {cs : List Value} {v : Value} (p : Pick (Cells b T cs) L L') (hlt : off < cs.length) :
    Poke C L ⟨b, off, none⟩ v (Cells b T (cs.set off v) :: L') := fun w h s l => by
  obtain ⟨h1, h2, d, rfl, rfl, hb⟩ := p h s
  have hg : w.heap[b]? = some (.cells cs.toArray T (0, 0)) := l b _ (by simp [fadd, fone])
  obtain ⟨d', l', n'⟩ := setRow_evo (cs := (cs.set off v).toArray) l d
  refine ⟨⟨cs[off], by simp [World.cell?, hg, hlt]⟩, by simp [World.frozen?, hg], ?_⟩
  rw [setCell_eq_setRow w b off _ T _ v hg]
  have e1 : cs.toArray.setIfInBounds off v = (cs.set off v).toArray := by simp
  rw [e1]
  exact ⟨_, ⟨_, h2, d', rfl, rfl, hb⟩, l', n'⟩
theorem Does.store {T : TypeId} {x y : Operand} {p : Addr} {v : Value} {L' : List HP} [hT : Sca C.P T] [hS : Siz C.P T 1] (hx : ev e x = some (.pointer (some p))) (hy : ev e y = some v) (h1 : v.oneCell' = true)
    (hp : Poke C L p v L') : Does C ⟨d, .store T x y, ty, ps, af, g⟩ e L (fun _ => L') := fun a w h s => by
  obtain ⟨⟨u, hu⟩, hf, h', hL, hle, hn⟩ := hp w h s.holds s.le
  have hrun : (execOp a.eval ⟨d, .store T x y, ty, ps, af, g⟩).run C.P w = .ok .skip (w.setCell p v) := by
    have hcells : v.cells = #[v] := by cases v <;> simp [Value.oneCell'] at h1 <;> rfl
    have hst := run_store C.P w p v .plain h1
    rw [hu] at hst
    simp only [hf] at hst
    have hadd : p.add 0 = p := by simp [Addr.add]
    simp [execOp, s.eval hx, s.eval hy, Instr.storeAt, Instr.sureAddr, storeVar, hS.h, hcells, storeCells, hadd, hst]
  unfold Oper.wp
  rw [hrun]
  exact ⟨undef, h', rfl, hL, hle, hn⟩
/-- A whole struct into its block. -/
theorem Does.storeAll {T T' : TypeId} {x y : Operand} {b n : Nat} {cs vs : List Value} {L' : List HP} [hS : Siz C.P T n] (hx : ev e x = some (.pointer (some ⟨b, 0, none⟩))) (hy : ev e y = some (.agg vs.toArray))
    (h1 : ∀ v ∈ vs, v.oneCell' = true) (hn : vs.length = n) (hc : cs.length = n) (hp : Pick (Cells b T' cs) L L') : Does C ⟨d, .store T x y, ty, ps, af, g⟩ e L (fun _ => Cells b T' vs :: L') := fun a w h s => by
  obtain ⟨g1, g2, dd, rfl, rfl, hb⟩ := hp h s.holds
  have hg : w.heap[b]? = some (.cells cs.toArray T' (0, 0)) := s.le b _ (by simp [fadd, fone])
  have hst := run_storeCells_at (P := C.P) b 0 T' vs 0 cs.toArray w hg (by simp [hn, hc]) h1
  obtain ⟨d', l', n'⟩ := setRow_evo (cs := vs.toArray) s.le dd
  have hrow : (List.take (0 + 0) cs.toArray.toList ++ vs ++ List.drop (0 + 0 + vs.length) cs.toArray.toList).toArray = vs.toArray := by
    simp [hn, ← hc]
  rw [hrow] at hst
  have hrun : (execOp a.eval ⟨d, .store T x y, ty, ps, af, g⟩).run C.P w = .ok .skip (w.setRow b vs.toArray) := by
    simp [execOp, s.eval hx, s.eval hy, Instr.storeAt, Instr.sureAddr, storeVar, hS.h, Value.cells, hn, hst]
  unfold Oper.wp
  rw [hrun]
  exact ⟨undef, _, rfl, ⟨_, g2, d', rfl, rfl, hb⟩, l', n'⟩
/-! What is made -/
theorem Does.of_alloc {o : Oper} {v : World → Value} {ob : Obj} {A : Value → HP} (hrun : ∀ a w h, St C e (stars L) a w h → (execOp a.eval o).run C.P w = .ok (.value (v w)) (w.alloc ob))
    (hA : ∀ w, A (v w) (fone w.heap.size ob)) : Does C o e L (fun u => A u :: L) := fun a w h s => by
  obtain ⟨d', l', n'⟩ := alloc_evo s.le ob
  unfold Oper.wp
  rw [hrun a w h s]
  exact ⟨v w, _, rfl, ⟨_, h, d', rfl, hA w, s.holds⟩, l', n'⟩
def At (T : TypeId) (cs : List Value) (v : Value) : HP := hex fun b => hex fun (_ : v = .pointer (some ⟨b, 0, none⟩)) => Cells b T cs
theorem Does.box {T : TypeId} {x : Operand} {v : Value} {cs : List Value} (hx : ev e x = some v) (hc : v.cells = cs.toArray) : Does C ⟨d, .box T x, ty, ps, af, g⟩ e L (fun u => At T cs u :: L) :=
  Does.of_alloc (v := fun w => .pointer (some ⟨w.heap.size, 0, none⟩)) (ob := .cells cs.toArray T (0, 0)) (fun a w h s => by
    simp [execOp, s.eval hx, Instr.box, newVar, newRow, hc]) (fun w => ⟨w.heap.size, rfl, rfl⟩)
theorem Does.alloc {T : TypeId} {v : Value} {cs : List Value} (hz : ∀ w, (zeroValue T).run C.P w = .ok v w) (hc : v.cells = cs.toArray) : Does C ⟨d, .alloc T, ty, ps, af, g⟩ e L (fun u => At T cs u :: L) :=
  Does.of_alloc (v := fun w => .pointer (some ⟨w.heap.size, 0, none⟩)) (ob := .cells cs.toArray T (0, 0)) (fun a w h s => by
    simp [execOp, Instr.alloc, hz, newVar, newRow, hc]) (fun w => ⟨w.heap.size, rfl, rfl⟩)
end
end Go.Proofs.YtfldnnpcdjabnaaDoor
