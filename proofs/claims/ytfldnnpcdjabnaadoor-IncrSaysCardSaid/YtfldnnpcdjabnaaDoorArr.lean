/-
  Slices: one that is owned, with all its block; one that may be read.
-/
import Derived.Test.YtfldnnpcdjabnaaDoorMem
set_option linter.unusedVariables false
set_option linter.unusedSimpArgs false
namespace Go.Proofs.YtfldnnpcdjabnaaDoor
open Go

/-! ## Kinds of elements -/
structure EK (α : Type) where
  e : TypeId
  k : Nat
  b : Nat
  enc : α → List Value
class EKOk {α : Type} (P : Program) (K : EK α) : Prop where
  len : ∀ x, (K.enc x).length = K.k
  one : ∀ x, ∀ u ∈ K.enc x, u.oneCell' = true
  k0 : 0 < K.k
  b0 : 0 < K.b
  b1 : K.b ≤ 1024
  k1 : K.k ≤ 1024
  info : ∃ i z, P.info? K.e = some i ∧ i.size = K.k ∧ i.bytes = K.b ∧ i.zero = some z ∧ z.cells.size = K.k
def flat {α : Type} (K : EK α) (xs : List α) : List Value := xs.flatMap K.enc

section lists
variable {α : Type} {K : EK α}
theorem flat_length (hk : ∀ x, (K.enc x).length = K.k) (xs : List α) : (flat K xs).length = xs.length * K.k := by
  induction xs with
  | nil => simp [flat]
  | cons x xs ih => simp only [flat, List.flatMap_cons, List.length_append, List.length_cons] at ih ⊢; rw [hk, ih, Nat.succ_mul]; omega
theorem flat_get (hk : ∀ x, (K.enc x).length = K.k) (xs : List α) (i j : Nat) (x : α) (hx : xs[i]? = some x) (hj : j < K.k) : (flat K xs)[i * K.k + j]? = (K.enc x)[j]? := by
  induction xs generalizing i with
  | nil => simp at hx
  | cons y xs ih =>
    simp only [flat, List.flatMap_cons]
    cases i with
    | zero => simp at hx; subst hx; rw [List.getElem?_append_left (by rw [hk]; omega)]; simp
    | succ i =>
      rw [List.getElem?_append_right (by rw [hk, Nat.succ_mul]; omega)]
      have : (i + 1) * K.k + j - (K.enc y).length = i * K.k + j := by rw [hk, Nat.succ_mul]; omega
      rw [this]
      exact ih i (by simpa using hx)
theorem flat_set (hk : ∀ x, (K.enc x).length = K.k) (xs : List α) (i j : Nat) (x y : α) (u : Value) (hx : xs[i]? = some x) (hj : j < K.k) (hy : K.enc y = (K.enc x).set j u) : (flat K xs).set (i * K.k + j) u = flat K (xs.set i y) := by
  induction xs generalizing i with
  | nil => simp at hx
  | cons z xs ih =>
    simp only [flat, List.flatMap_cons]
    cases i with
    | zero => simp at hx; subst hx; simp only [Nat.zero_mul, Nat.zero_add, List.set_cons_zero, List.flatMap_cons]; rw [List.set_append_left _ _ (by rw [hk]; omega), hy]
    | succ i =>
      rw [List.set_append_right _ _ (by rw [hk, Nat.succ_mul]; omega)]
      have : (i + 1) * K.k + j - (K.enc z).length = i * K.k + j := by rw [hk, Nat.succ_mul]; omega
      rw [this]
      simp only [List.set_cons_succ, List.flatMap_cons]
      congr 1
      exact ih i (by simpa using hx)
theorem flat_take (hk : ∀ x, (K.enc x).length = K.k) (xs : List α) (n : Nat) : (flat K xs).take (n * K.k) = flat K (xs.take n) := by
  induction xs generalizing n with
  | nil => simp [flat]
  | cons x xs ih =>
    cases n with
    | zero => simp [flat]
    | succ n =>
      simp only [flat, List.flatMap_cons, List.take_succ_cons]
      rw [List.take_append, hk, List.take_of_length_le (by rw [hk, Nat.succ_mul]; omega)]
      congr 1
      have : (n + 1) * K.k - K.k = n * K.k := by rw [Nat.succ_mul]; omega
      rw [this]; exact ih n
end lists
theorem flat_append {α : Type} (K : EK α) (xs ys : List α) : flat K (xs ++ ys) = flat K xs ++ flat K ys := by simp [flat]

/-! ## A slice -/
/-- It may be read: the elements lie in a row of some block. -/
def RArr {α : Type} (K : EK α) (v : Value) (xs : List α) : HP := fun h =>
  xs.length * K.b ≤ roomBytes ∧ ∃ ao c, v = .slice ao xs.length c ∧ xs.length ≤ c ∧ (xs = [] ∨ ∃ (g off : Nat) (cur : Array Value) (T : TypeId) (fr : Nat × Nat), ao = some ⟨g, off, none⟩ ∧ h g = some (.cells cur T fr) ∧ ∀ j u, (flat K xs)[j]? = some u → cur[off + j]? = some u)
theorem RArr.mono {α : Type} {K : EK α} {v : Value} {xs : List α} {h g : Frag} (r : RArr K v xs h) (l : fle h g) : RArr K v xs g := by
  obtain ⟨hb, ao, c, hv, hlc, hx | ⟨gg, off, cur, T, fr, e1, e2, e3⟩⟩ := r
  · exact ⟨hb, ao, c, hv, hlc, .inl hx⟩
  · exact ⟨hb, ao, c, hv, hlc, .inr ⟨gg, off, cur, T, fr, e1, l _ _ e2, e3⟩⟩
theorem RArr.of_in {α : Type} {K : EK α} {v : Value} {xs : List α} {h : Frag} (r : In (RArr K v xs) h) : RArr K v xs h := let ⟨_, a, l⟩ := r; a.mono l
/-- It is owned: no room at all, or the whole block behind it. -/
def Arr {α : Type} (K : EK α) (v : Value) (xs : List α) : HP := fun h =>
  (xs = [] ∧ h = fnil ∧ ∃ ao, v = .slice ao 0 0) ∨
  ∃ (g cap : Nat) (cur : List Value), v = .slice (some ⟨g, 0, none⟩) xs.length cap ∧ xs.length ≤ cap ∧ xs.length * K.b ≤ roomBytes ∧ cap * K.k ≤ cur.length ∧ cur.take (xs.length * K.k) = flat K xs ∧ h = fone g (.cells cur.toArray K.e (0, 0))
theorem Arr.read {α : Type} {K : EK α} {v : Value} {xs : List α} {h : Frag} (a : Arr K v xs h) : RArr K v xs h := by
  rcases a with ⟨rfl, rfl, ao, rfl⟩ | ⟨g, cap, cur, rfl, h1, h2, h3, h4, rfl⟩
  · exact ⟨by simp, ao, 0, rfl, Nat.le_refl _, .inl rfl⟩
  · refine ⟨h2, _, cap, rfl, h1, .inr ⟨g, 0, cur.toArray, K.e, (0, 0), rfl, fone_self _ _, fun j u hu => ?_⟩⟩
    rw [← h4, List.getElem?_take] at hu
    split at hu
    · simpa using hu
    · cases hu
theorem Reads.arr {α : Type} {K : EK α} {C : Cx} {v : Value} {xs : List α} {L L' : List HP} (p : Pick (Arr K v xs) L L') : Reads C L (RArr K v xs) := (Reads.pick p).mono fun _ a => a.read
theorem Reads.rhoArr {α : Type} {K : EK α} {C : Cx} {v : Value} {xs : List α} {L : List HP} (h : In (Arr K v xs) C.ρ) : Reads C L (RArr K v xs) := (Reads.rho h).mono fun _ a => a.read

/-- Where element i begins, and its part j. -/
def ea (v : Value) (n : Nat) : Addr :=
  match v with
  | .slice (some a) _ _ => a.add n
  | _ => ⟨0, 0, none⟩
def el {α : Type} (K : EK α) (v : Value) (i : Int) (j : Nat) : Addr := ea v (i.toNat * K.k + j)
/-- Element i. -/
def rd {α : Type} [Inhabited α] (xs : List α) (i : Int) : α := xs.getD i.toNat default
def wr {α : Type} (xs : List α) (i : Int) (y : α) : List α := xs.set i.toNat y
theorem rd_some {α : Type} [Inhabited α] {xs : List α} {i : Int} (h0 : 0 ≤ i) (h1 : i < xs.length) : xs[i.toNat]? = some (rd xs i) := by
  have : i.toNat < xs.length := by omega
  simp [rd, List.getD, this]
theorem add_add (a : Addr) (m n : Nat) : (a.add m).add n = a.add (m + n) := by
  unfold Addr.add
  by_cases h1 : m = 0 <;> by_cases h2 : n = 0 <;> simp [h1, h2, Nat.add_assoc]
theorem el_add {α : Type} (K : EK α) (s : Addr) (n c : Nat) (i : Int) (j m : Nat) : (el K (.slice (some s) n c) i j).add m = el K (.slice (some s) n c) i (j + m) := by
  simp only [el, ea, add_add, Nat.add_assoc]

section
variable {C : Cx} {e : Env} {L : List HP} {d : Option Tmp} {ty : TypeId} {ps : String} {af : Array Edge} {g : Option (Nat × Bool)} {α : Type} {K : EK α}
theorem Yields.len {T : TypeId} {x : Operand} {v : Value} {xs : List α} {E : TypeId} [hT : Und C.P T (.slice E)] (hx : ev e x = some v) (r : Reads C L (RArr K v xs)) :
    Yields C ⟨d, .call ⟨.builtin .len, #[x], #[T]⟩, ty, ps, af, g⟩ e L (.int .i64 xs.length) := fun a w h s => by
  obtain ⟨_, ao, c, rfl, _, _⟩ := RArr.of_in (r.at s.holds s.le s.rho s.dj)
  simp [execOp, resolve, invoke, builtin, s.eval hx, Builtin.len_, run_underlying hT.h, goInt]
theorem Yields.indexAddr [hK : EKOk C.P K] {T : TypeId} {x y : Operand} {v : Value} {k : IntKind} {i : Int} {xs : List α} [hT : Und C.P T (.slice K.e)] (hx : ev e x = some v) (hy : ev e y = some (.int k i))
    (r : Reads C L (RArr K v xs)) (h0 : 0 ≤ i) (h1 : i < xs.length) : Yields C ⟨d, .indexAddr T x y, ty, ps, af, g⟩ e L (.pointer (some (el K v i 0))) := fun a w h s => by
  obtain ⟨_, ao, c, rfl, _, hx' | ⟨gg, off, cur, T', fr, rfl, _, _⟩⟩ := RArr.of_in (r.at s.holds s.le s.rho s.dj)
  · subst hx'; simp at h1; omega
  · obtain ⟨i', z, hi, hs, _⟩ := hK.info
    have hsz : (sizeOf K.e).run C.P w = .ok K.k w := by simp [sizeOf, typeInfo, hi, hs]
    simp [execOp, s.eval hx, s.eval hy, Instr.indexAt, run_underlying hT.h, asIntOf, h0, h1, hsz, el, ea]
theorem Yields.fieldAddrE {T : TypeId} {x : Operand} {i off : Nat} {v : Value} {ix : Int} {j : Nat} {xs : List α} [hF : FAd C.P T i off] (hx : ev e x = some (.pointer (some (el K v ix j)))) (r : Reads C L (RArr K v xs)) (hix : 0 ≤ ix) (hlt : ix < xs.length) :
    Yields C ⟨d, .fieldAddr T x i, ty, ps, af, g⟩ e L (.pointer (some (el K v ix (j + off)))) := fun a w h s => by
  obtain ⟨_, ao, c, rfl, _, hx' | ⟨gg, off', cur, T', fr, rfl, _, _⟩⟩ := RArr.of_in (r.at s.holds s.le s.rho s.dj)
  · subst hx'; simp at hlt; omega
  · simp [execOp, s.eval hx, hF.h, el_add]
theorem Peek.el [Inhabited α] [hK : EKOk C.P K] {v : Value} {xs : List α} {i : Int} {j : Nat} {u : Value} (r : Reads C L (RArr K v xs)) (h0 : 0 ≤ i) (h1 : i < xs.length) (hj : (K.enc (rd xs i))[j]? = some u) :
    Peek C L (el K v i j) u := fun w h s l l' dd => by
  obtain ⟨_, ao, c, rfl, _, hx' | ⟨gg, off, cur, T', fr, rfl, hg, hcells⟩⟩ := RArr.of_in (r.at s l l' dd)
  · subst hx'; simp at h1; omega
  · have hjk : j < K.k := by rw [← hK.len (rd xs i)]; exact (List.getElem?_eq_some_iff.1 hj).1
    have := hcells (i.toNat * K.k + j) u (by rw [flat_get hK.len xs i.toNat j _ (rd_some h0 h1) hjk, hj])
    have hg' : w.heap[gg]? = some (.cells cur T' fr) := hg
    simp only [_root_.Go.Proofs.YtfldnnpcdjabnaaDoor.el, ea, Addr.add_lit, World.cell?, hg']
    simpa using this
theorem PeekN.el [Inhabited α] [hK : EKOk C.P K] {v : Value} {xs : List α} {i : Int} {vs : List Value} (r : Reads C L (RArr K v xs)) (h0 : 0 ≤ i) (h1 : i < xs.length) (hj : K.enc (rd xs i) = vs) :
    PeekN C L (el K v i 0) vs := fun w h s l l' dd j u hu => by
  have hne : ∃ s c, v = .slice (some s) xs.length c := by
    obtain ⟨_, ao, c, rfl, _, hx' | ⟨gg, off, cur, T', fr, rfl, hg, hcells⟩⟩ := RArr.of_in (r.at s l l' dd)
    · subst hx'; simp at h1; omega
    · exact ⟨_, _, rfl⟩
  obtain ⟨s', c, rfl⟩ := hne
  rw [el_add]
  exact Peek.el r h0 h1 (by rw [Nat.zero_add, hj]; exact hu) w h s l l' dd
theorem Poke.el [Inhabited α] [hK : EKOk C.P K] {v : Value} {xs : List α} {L' : List HP} {i : Int} {j : Nat} {u : Value} (p : Pick (Arr K v xs) L L') (h0 : 0 ≤ i) (h1 : i < xs.length) (y : α) (hjk : j < K.k)
    (hy : K.enc y = (K.enc (rd xs i)).set j u) : Poke C L (el K v i j) u (Arr K v (wr xs i y) :: L') := fun w h s l => by
  obtain ⟨g1, g2, dd, rfl, ha, hb⟩ := p h s
  rcases ha with ⟨rfl, _, _⟩ | ⟨gg, cap, cur, rfl, c1, c2, c3, c4, rfl⟩
  · simp at h1; omega
  · have hg : w.heap[gg]? = some (.cells cur.toArray K.e (0, 0)) := l gg _ (by simp [fadd, fone])
    have hlt : i.toNat * K.k + j < xs.length * K.k := by
      have h2 : i.toNat + 1 ≤ xs.length := by omega
      have := Nat.mul_le_mul_right K.k h2
      rw [Nat.succ_mul] at this; omega
    have hcur : i.toNat * K.k + j < cur.length := Nat.lt_of_lt_of_le hlt (Nat.le_trans (Nat.mul_le_mul_right _ c1) c3)
    have hadd : _root_.Go.Proofs.YtfldnnpcdjabnaaDoor.el K (.slice (some ⟨gg, 0, none⟩) xs.length cap) i j = ⟨gg, i.toNat * K.k + j, none⟩ := by simp [_root_.Go.Proofs.YtfldnnpcdjabnaaDoor.el, ea, Addr.add_lit]
    rw [hadd]
    obtain ⟨d', l', n'⟩ := setRow_evo (cs := (cur.set (i.toNat * K.k + j) u).toArray) l dd
    refine ⟨⟨cur[i.toNat * K.k + j], by simp [World.cell?, hg, hcur]⟩, by simp [World.frozen?, hg], ?_⟩
    rw [setCell_eq_setRow w gg _ _ K.e _ u hg]
    have e1 : cur.toArray.setIfInBounds (i.toNat * K.k + j) u = (cur.set (i.toNat * K.k + j) u).toArray := by simp
    rw [e1]
    refine ⟨_, ⟨_, g2, d', rfl, .inr ⟨gg, cap, _, by simp [wr], by simpa [wr] using c1, (by simpa [wr] using c2), by simpa using c3, ?_, rfl⟩, hb⟩, l', n'⟩
    have hlen : (wr xs i y).length = xs.length := by simp [wr]
    rw [hlen, List.take_set, c4]
    exact flat_set hK.len xs i.toNat j (rd xs i) y u (rd_some h0 h1) hjk hy
end
end Go.Proofs.YtfldnnpcdjabnaaDoor
