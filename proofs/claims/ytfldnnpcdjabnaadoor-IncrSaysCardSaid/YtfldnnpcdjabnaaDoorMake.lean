/-
  Slices that are made, and cut.
-/
import Derived.Test.YtfldnnpcdjabnaaDoorArr2
set_option linter.unusedVariables false
set_option linter.unusedSimpArgs false
namespace Go.Proofs.YtfldnnpcdjabnaaDoor
open Go

/-! ## What 'fill' lays -/
theorem foldl_set' : ∀ (cs pre old post : List Value) (base : Array Value) (off n : Nat), pre.length = off + n → old.length = cs.length → base.toList = pre ++ old ++ post →
    ((cs.zipIdx n).foldl (fun acc (c, j) => acc.setIfInBounds (off + j) c) base).toList = pre ++ cs ++ post
  | [], pre, old, post, base, off, n, h1, h2, h3 => by
    have : old = [] := List.eq_nil_of_length_eq_zero (by simpa using h2)
    subst this
    simpa using h3
  | c :: cs, pre, [], post, base, off, n, h1, h2, h3 => by simp at h2
  | c :: cs, pre, o :: old, post, base, off, n, h1, h2, h3 => by
    simp only [List.zipIdx_cons, List.foldl_cons]
    have h4 := foldl_set' cs (pre ++ [c]) old post (base.setIfInBounds (off + n) c) off (n + 1) (by simp [h1]; omega) (by simpa using h2) (by
      rw [Array.toList_setIfInBounds, h3, ← h1]
      simp [List.set_append])
    rw [h4]; simp
theorem foldl_set (cs : List Value) (base : Array Value) (off : Nat) (h : off + cs.length ≤ base.size) :
    ((cs.zipIdx 0).foldl (fun acc (c, j) => acc.setIfInBounds (off + j) c) base).toList = base.toList.take off ++ cs ++ base.toList.drop (off + cs.length) :=
  foldl_set' cs (base.toList.take off) ((base.toList.drop off).take cs.length) (base.toList.drop (off + cs.length)) base off 0 (by simp; omega) (by simp; omega) (by
    rw [List.append_assoc, ← List.drop_drop, List.take_append_drop, List.take_append_drop])
theorem fill_row {α : Type} (K : EK α) (hk : ∀ x, (K.enc x).length = K.k) : ∀ (xs : List α) (vs : List Value) (i : Nat) (base : Array Value), vs.length = xs.length → (∀ (j : Nat) (x : α) (v : Value), xs[j]? = some x → vs[j]? = some v → v.cells = (K.enc x).toArray) →
    base.size = (i + xs.length) * K.k → ∃ r, Instr.fill (fun i => some (i * K.k, K.k)) base (((List.range' i vs.length).zip vs)) = some r ∧ r.toList = base.toList.take (i * K.k) ++ flat K xs
  | [], vs, i, base, hl, hc, hs => by
    have : vs = [] := List.eq_nil_of_length_eq_zero (by simpa using hl)
    subst this
    exact ⟨base, by simp [Instr.fill], by simp [flat]; rw [List.take_of_length_le]; have : base.size = i * K.k := (by simpa using hs); simp; omega⟩
  | x :: xs, [], i, base, hl, hc, hs => by simp at hl
  | x :: xs, v :: vs, i, base, hl, hc, hs => by
    have hv : v.cells = (K.enc x).toArray := hc 0 x v (by simp) (by simp)
    have hkx := hk x
    have hs' : base.size = (i + 1 + xs.length) * K.k := by rw [hs]; congr 1; simp; omega
    have hroom : i * K.k + K.k ≤ base.size := by
      rw [hs', ← Nat.succ_mul]; exact Nat.mul_le_mul_right _ (by omega)
    let base' := v.cells.zipIdx.foldl (fun cs (c, j) => cs.setIfInBounds (i * K.k + j) c) base
    have hb' : base'.toList = base.toList.take (i * K.k) ++ K.enc x ++ base.toList.drop (i * K.k + (K.enc x).length) := by
      have := foldl_set (K.enc x) base (i * K.k) (by rw [hkx]; omega)
      simp only [base', hv]
      rw [← Array.foldl_toList]
      simpa using this
    have hsz : base'.size = base.size := by
      rw [← Array.length_toList, hb']
      simp only [List.length_append, List.length_take, List.length_drop, Array.length_toList, hkx]; omega
    obtain ⟨r, hr, hrl⟩ := fill_row K hk xs vs (i + 1) base' (by simpa using hl) (fun j y u hy hu => hc (j + 1) y u (by simpa using hy) (by simpa using hu)) (by rw [hsz, hs'])
    refine ⟨r, ?_, ?_⟩
    · simp only [List.length_cons, List.range'_succ, List.zip_cons_cons, Instr.fill]
      rw [if_neg (by simp [hv, hkx]; omega)]
      exact hr
    · rw [hrl, hb']
      have h1 : (base.toList.take (i * K.k) ++ K.enc x).length = (i + 1) * K.k := by
        simp only [List.length_append, List.length_take, Array.length_toList, hkx, Nat.succ_mul]; omega
      rw [← h1, List.take_left]
      simp [flat]
section
variable {C : Cx} {e : Env} {L : List HP} {d : Option Tmp} {ty : TypeId} {ps : String} {af : Array Edge} {g : Option (Nat × Bool)} {α : Type} {K : EK α}
/-- []T{x, y, ..}: each place in turn. -/
theorem Does.buildSlice [hK : EKOk C.P K] {T : TypeId} {xs : List α} {n : Nat} {os : List Operand} {vs : List Value} {parts : Array (Nat × Operand)} [hT : Und C.P T (.slice K.e)] (hn : xs.length = n) (hsmall : n ≤ 1024)
    (hparts : parts.toList = (List.range' 0 n).zip os) (hlen : os.length = n) (hvs : evs e os = some vs) (hc : ∀ (j : Nat) (x : α) (v : Value), xs[j]? = some x → vs[j]? = some v → v.cells = (K.enc x).toArray) :
    Does C ⟨d, .buildSlice T n parts, ty, ps, af, g⟩ e L (fun v => Arr K v xs :: L) := by
  obtain ⟨i, z, hi, hik, hib, hz, hzk⟩ := hK.info
  have hk1 := hK.k1
  have hb1 := hK.b1
  have hvl : vs.length = n := by
    have : ∀ (l : List Operand) (us : List Value), evs e l = some us → us.length = l.length := by
      intro l
      induction l with
      | nil => intro us h; simp [evs] at h; simp [← h]
      | cons x l ih =>
        intro us h
        simp only [evs, Option.bind_eq_some_iff] at h
        obtain ⟨v, _, us', h', e'⟩ := h
        simp only [Option.some.injEq] at e'
        subst e'
        simp [ih us' h']
    rw [this os vs hvs, hlen]
  have hbound : n * K.k ≤ 1048576 := Nat.le_trans (Nat.mul_le_mul hsmall hk1) (by decide)
  have hbound2 : n * K.b ≤ 1048576 := Nat.le_trans (Nat.mul_le_mul hsmall hb1) (by decide)
  obtain ⟨r, hr, hrl⟩ := fill_row K hK.len xs vs 0 ((Array.range (n * K.k)).map (z.cells[· % z.cells.size]!)) (by omega) hc (by simp [hn])
  simp only [Nat.zero_mul, List.take_zero, List.nil_append] at hrl
  have hrr : r = (flat K xs).toArray := by rw [← hrl]
  refine Does.of_alloc (v := fun w => .slice (some ⟨w.heap.size, 0, none⟩) n n) (ob := .cells (flat K xs).toArray K.e (0, 0)) (fun a w h s => ?_) (fun w => .inr ⟨w.heap.size, n, flat K xs, by rw [hn], by omega, ?_, ?_, ?_, rfl⟩)
  · have hmap : (parts.map fun (i, x) => (i, a.eval x)).toList = (List.range' 0 vs.length).zip vs := by
      have h1 : vs = os.map a.eval := (s.evals hvs).symm
      rw [Array.toList_map, hparts, hvl, h1]
      have : ∀ (l1 : List Nat) (l2 : List Operand), (l1.zip l2).map (fun (p : Nat × Operand) => (p.1, a.eval p.2)) = l1.zip (l2.map a.eval) := by
        intro l1
        induction l1 with
        | nil => simp
        | cons y l1 ih => intro l2; cases l2 <;> simp [ih]
      exact this _ _
    have hnb : ¬ (n * K.k > 2 ^ 24) := by omega
    have hfill : ∀ zc : Array Value, (n * K.k ≠ 0 → zc = z.cells) → Instr.fill (fun i_1 => some (i_1 * K.k, K.k)) ((Array.range (n * K.k)).map (zc[· % zc.size]!)) (parts.map fun (i, x) => (i, a.eval x)).toList = some (flat K xs).toArray := by
      intro zc hzc
      rw [hmap, ← hrr, ← hr]
      congr 1
      by_cases h0 : n * K.k = 0
      · rw [h0]; apply Array.ext'; simp
      · rw [hzc h0]
    have hbs : (Instr.buildSlice T n (parts.map fun (i, x) => (i, a.eval x))).run C.P w = .ok (.slice (some ⟨w.heap.size, 0, none⟩) n n) (w.alloc (.cells (flat K xs).toArray K.e (0, 0))) := by
      unfold Instr.buildSlice
      simp only [Sem.run_bind, run_underlying hT.h, Result.andThen_ok, sizeOf, typeInfo, run_program, hi, Sem.run_pure, hik]
      rw [if_neg hnb]
      by_cases h0 : n * K.k = 0
      · rw [if_pos h0]
        simp only [Sem.run_bind, Sem.run_pure, Result.andThen_ok]
        rw [hfill #[] (fun h => absurd h0 h)]
        simp [newRow]
      · rw [if_neg h0]
        simp only [Sem.run_bind, Sem.run_pure, Result.andThen_ok, zeroValue, typeInfo, run_program, hi, hz]
        rw [hfill z.cells (fun _ => rfl)]
        simp [newRow]
    simp only [execOp, Sem.run_bind, hbs, Result.andThen_ok, Sem.run_pure]
  · rw [hn]
    show n * K.b ≤ 140737488355328
    omega
  · rw [flat_length hK.len, hn]; exact Nat.le_refl _
  · rw [List.take_of_length_le]; rw [flat_length hK.len]; omega
/-! ## make -/
theorem zeros_flat {α : Type} (K : EK α) (hk : ∀ x, (K.enc x).length = K.k) (h0 : 0 < K.k) (z : α) (n : Nat) :
    ((Array.range (n * K.k)).map ((K.enc z).toArray[· % (K.enc z).toArray.size]!)).toList = flat K (List.replicate n z) := by
  apply List.ext_getElem?
  intro p
  have hs : (K.enc z).toArray.size = K.k := by simp [hk]
  by_cases hp : p < n * K.k
  · have hd : p / K.k < n := (Nat.div_lt_iff_lt_mul h0).2 hp
    have hm : p % K.k < K.k := Nat.mod_lt _ h0
    have e1 : p = p / K.k * K.k + p % K.k := by rw [Nat.mul_comm]; exact (Nat.div_add_mod p K.k).symm
    have h2 : (flat K (List.replicate n z))[p]? = (K.enc z)[p % K.k]? := by
      conv => lhs; rw [e1]
      exact flat_get hk _ _ _ z (by rw [List.getElem?_replicate]; simp [hd]) hm
    rw [h2]
    simp [hp, hk, hm]
  · rw [List.getElem?_eq_none (by simp; omega), List.getElem?_eq_none (by rw [flat_length hk]; simp; omega)]
/-- make([]T, l, c). -/
theorem Does.makeSlice [hK : EKOk C.P K] {T : TypeId} {x y : Operand} {l c : Int} (z0 : α) [hT : Und C.P T (.slice K.e)] (hx : ev e x = some (.int .i64 l)) (hy : ev e y = some (.int .i64 c))
    (hz0 : ∀ i z, C.P.info? K.e = some i → i.zero = some z → z.cells = (K.enc z0).toArray) (h0 : 0 ≤ l) (h1 : l ≤ c) (h2 : c * K.b ≤ 140737488355328) :
    Does C ⟨d, .makeSlice T x y, ty, ps, af, g⟩ e L (fun v => Arr K v (List.replicate l.toNat z0) :: L) := by
  obtain ⟨i, z, hi, hik, hib, hz, hzk⟩ := hK.info
  have hzc := hz0 i z hi hz
  have hb0 := hK.b0
  have hc : c ≤ 140737488355328 := by
    have : c * 1 ≤ c * (K.b : Int) := Int.mul_le_mul_of_nonneg_left (by omega) (by omega)
    omega
  have hnat : c.toNat * K.b ≤ 140737488355328 := by
    have : ((c.toNat * K.b : Nat) : Int) = c * K.b := by rw [Int.natCast_mul, Int.toNat_of_nonneg (by omega)]
    omega
  have hlc : l.toNat ≤ c.toNat := by omega
  have hzl := zeros_flat K hK.len hK.k0 z0 c.toNat
  refine Does.of_alloc (v := fun w => .slice (some ⟨w.heap.size, 0, none⟩) l.toNat c.toNat) (ob := .cells (flat K (List.replicate c.toNat z0)).toArray K.e (0, 0)) (fun a w h s => ?_)
    (fun w => .inr ⟨w.heap.size, c.toNat, flat K (List.replicate c.toNat z0), by simp, by simpa using hlc, Nat.le_trans (Nat.mul_le_mul_right _ (by simpa using hlc)) hnat, by rw [flat_length hK.len]; simp, ?_, rfl⟩)
  · have hms : (Instr.makeSlice T (.int .i64 l) (.int .i64 c)).run C.P w = .ok (.slice (some ⟨w.heap.size, 0, none⟩) l.toNat c.toNat) (w.alloc (.cells (flat K (List.replicate c.toNat z0)).toArray K.e (0, 0))) := by
      have hw1 : IntKind.i64.wrap l = l := wrap_in (by omega) (by omega)
      have hw2 : IntKind.i64.wrap c = c := wrap_in (by omega) (by omega)
      have hbig : ¬ ((i.bytes : Int) * c > 2 ^ 48) := by rw [hib, Int.mul_comm]; omega
      unfold Instr.makeSlice
      simp only [Sem.run_bind, run_underlying hT.h, Result.andThen_ok, asInt, asIntOf, Sem.run_pure, typeInfo, run_program, hi, hw1, hw2]
      rw [if_neg (by simp; omega)]
      simp only [Sem.run_bind, run_askRoom, Result.andThen_ok, sizeOf, typeInfo, run_program, hi, Sem.run_pure, hik]
      have hrow : ∀ zc : Array Value, (c.toNat * K.k ≠ 0 → zc = z.cells) → (Array.range (c.toNat * K.k)).map (zc[· % zc.size]!) = (flat K (List.replicate c.toNat z0)).toArray := by
        intro zc hzc'
        apply Array.ext'
        rw [List.toList_toArray, ← hzl]
        by_cases h0 : c.toNat * K.k = 0
        · rw [h0]; simp
        · rw [hzc' h0, hzc]
      by_cases h0 : c.toNat * K.k = 0
      · rw [if_pos h0]
        simp only [Sem.run_bind, Sem.run_pure, Result.andThen_ok]
        rw [hrow #[] (fun h => absurd h0 h)]
        simp [newRow]
      · rw [if_neg h0]
        simp only [Sem.run_bind, Sem.run_pure, Result.andThen_ok, zeroValue, typeInfo, run_program, hi, hz]
        rw [hrow z.cells (fun _ => rfl)]
        simp [newRow]
    simp only [execOp, s.eval hx, s.eval hy, Sem.run_bind, hms, Result.andThen_ok, Sem.run_pure]
  · rw [List.length_replicate, flat_take hK.len, List.take_replicate, Nat.min_eq_left hlc]

/-! ## Cuts -/
def cutTo (v : Value) (n : Int) : Value :=
  match v with
  | .slice a _ c => .slice a n.toNat c
  | v => v
def cutFrom (k : Nat) (v : Value) (n : Int) : Value :=
  match v with
  | .slice a l c => .slice (if c = n.toNat then a else a.map (·.add (n.toNat * k))) (l - n.toNat) (c - n.toNat)
  | v => v
def clip (v : Value) : Value :=
  match v with
  | .slice a l _ => .slice a l l
  | v => v
theorem Arr.cut {v : Value} {xs : List α} {h : Frag} {P : Program} [hK : EKOk P K] (a : Arr K v xs h) {n : Int} (h0 : 0 ≤ n) (h1 : n ≤ xs.length) : Arr K (cutTo v n) (xs.take n.toNat) h := by
  have hn : n.toNat ≤ xs.length := by omega
  rcases a with ⟨rfl, rfl, ao, rfl⟩ | ⟨gg, cap, cur, rfl, c1, c2, c3, c4, rfl⟩
  · simp at hn; exact .inl ⟨by simp, rfl, ao, by simp [cutTo, hn]⟩
  · refine .inr ⟨gg, cap, cur, by simp [cutTo, List.length_take, Nat.min_eq_left hn], by simp; omega, Nat.le_trans (Nat.mul_le_mul_right _ (by simp; omega)) c2, c3, ?_, rfl⟩
    rw [List.length_take, Nat.min_eq_left hn, ← flat_take hK.len, ← c4, List.take_take, Nat.min_eq_left (Nat.mul_le_mul_right _ hn)]
theorem Arr.clip {v : Value} {xs : List α} {h : Frag} (a : Arr K v xs h) : Arr K (clip v) xs h := by
  rcases a with ⟨rfl, rfl, ao, rfl⟩ | ⟨gg, cap, cur, rfl, c1, c2, c3, c4, rfl⟩
  · exact .inl ⟨rfl, rfl, ao, rfl⟩
  · exact .inr ⟨gg, xs.length, cur, rfl, Nat.le_refl _, c2, Nat.le_trans (Nat.mul_le_mul_right _ c1) c3, c4, rfl⟩
theorem RArr.cut {v : Value} {xs : List α} {h : Frag} {P : Program} [hK : EKOk P K] (a : RArr K v xs h) {n : Int} (h0 : 0 ≤ n) (h1 : n ≤ xs.length) : RArr K (cutTo v n) (xs.take n.toNat) h := by
  have hn : n.toNat ≤ xs.length := by omega
  obtain ⟨hb, ao, c, rfl, hlc, hx⟩ := a
  refine ⟨Nat.le_trans (Nat.mul_le_mul_right _ (by simp; omega)) hb, ao, c, by simp [cutTo, Nat.min_eq_left hn], by simp; omega, ?_⟩
  rcases hx with rfl | ⟨gg, off, cur, T, fr, rfl, hg, hc⟩
  · exact .inl (by simp)
  · refine .inr ⟨gg, off, cur, T, fr, rfl, hg, fun j u hu => hc j u ?_⟩
    rw [← flat_take hK.len, List.getElem?_take] at hu
    split at hu
    · exact hu
    · cases hu
theorem RArr.cutFrom {v : Value} {xs : List α} {h : Frag} {P : Program} [hK : EKOk P K] (a : RArr K v xs h) {n : Int} (h0 : 0 ≤ n) (h1 : n ≤ xs.length) : RArr K (cutFrom K.k v n) (xs.drop n.toNat) h := by
  have hn : n.toNat ≤ xs.length := by omega
  obtain ⟨hb, ao, c, rfl, hlc, hx⟩ := a
  refine ⟨Nat.le_trans (Nat.mul_le_mul_right _ (by simp)) hb, (if c = n.toNat then ao else ao.map (·.add (n.toNat * K.k))), c - n.toNat, by simp [_root_.Go.Proofs.YtfldnnpcdjabnaaDoor.cutFrom], by simp; omega, ?_⟩
  rcases hx with rfl | ⟨gg, off, cur, T, fr, rfl, hg, hc⟩
  · exact .inl (by simp)
  · by_cases hcn : c = n.toNat
    · exact .inl (by rw [List.drop_eq_nil_iff]; omega)
    · refine .inr ⟨gg, off + n.toNat * K.k, cur, T, fr, by simp [hcn, Addr.add_lit], hg, fun j u hu => ?_⟩
      have e1 : flat K xs = flat K (xs.take n.toNat) ++ flat K (xs.drop n.toNat) := by rw [← flat_append, List.take_append_drop]
      have := hc (n.toNat * K.k + j) u (by
        rw [e1, List.getElem?_append_right (by rw [flat_length hK.len]; simp [Nat.min_eq_left hn])]
        rw [flat_length hK.len]; simpa [Nat.min_eq_left hn] using hu)
      rw [← this]; congr 1; omega
theorem run_sliceAt {P : Program} {w : World} {T E : TypeId} {ao : Option Addr} {l c k : Nat} (hT : P.underlying T = some (.slice E)) (hk : (sizeOf E).run P w = .ok k w) (lo hi mx : Option Int)
    (r : Nat × Nat × Nat) (hr : (Instr.sliceBounds true l c (lo.map (.int .i64 ·)) (hi.map (.int .i64 ·)) (mx.map (.int .i64 ·))).run P w = .ok r w) :
    (Instr.sliceAt T (.slice ao l c) (lo.map (.int .i64 ·)) (hi.map (.int .i64 ·)) (mx.map (.int .i64 ·))).run P w = .ok (.slice (if r.2.2 = r.1 then ao else ao.map (·.add (r.1 * k))) (r.2.1 - r.1) (r.2.2 - r.1)) w := by
  simp [Instr.sliceAt, Instr.slice, run_underlying hT, hr, hk]
theorem Yields.sliceTo [hK : EKOk C.P K] {T : TypeId} {x y : Operand} {v : Value} {xs : List α} {n : Int} [hT : Und C.P T (.slice K.e)] (hx : ev e x = some v) (hy : ev e y = some (.int .i64 n)) (r : Reads C L (RArr K v xs)) (h0 : 0 ≤ n) (h1 : n ≤ xs.length) :
    Yields C ⟨d, .slice T x none (some y) none, ty, ps, af, g⟩ e L (cutTo v n) := fun a w h s => by
  obtain ⟨_, ao, c, rfl, hlc, _⟩ := RArr.of_in (r.at s.holds s.le s.rho s.dj)
  obtain ⟨i', z, hi, hs, _⟩ := hK.info
  have hsz : (sizeOf K.e).run C.P w = .ok K.k w := by simp [sizeOf, typeInfo, hi, hs]
  have hb : (Instr.sliceBounds true xs.length c none (some (.int .i64 n)) none).run C.P w = .ok (0, n.toNat, c) w := by
    simp [Instr.sliceBounds, Instr.sliceBound, asIntOf, h0, show n ≤ (c : Int) by omega]
  have := run_sliceAt (P := C.P) (w := w) (ao := ao) hT.h hsz none (some n) none _ (by simpa using hb)
  simp only [Option.map_none, Option.map_some] at this
  simp only [execOp, s.eval hx, s.eval hy, Option.map_none, Option.map_some, Sem.run_bind, this, Result.andThen_ok, Sem.run_pure, cutTo, Nat.sub_zero, Nat.zero_mul]
  congr 3
  cases ao <;> simp [Addr.add]
theorem Yields.sliceFrom [hK : EKOk C.P K] {T : TypeId} {x y : Operand} {v : Value} {xs : List α} {n : Int} [hT : Und C.P T (.slice K.e)] (hx : ev e x = some v) (hy : ev e y = some (.int .i64 n)) (r : Reads C L (RArr K v xs)) (h0 : 0 ≤ n) (h1 : n ≤ xs.length) :
    Yields C ⟨d, .slice T x (some y) none none, ty, ps, af, g⟩ e L (cutFrom K.k v n) := fun a w h s => by
  obtain ⟨_, ao, c, rfl, hlc, _⟩ := RArr.of_in (r.at s.holds s.le s.rho s.dj)
  obtain ⟨i', z, hi, hs, _⟩ := hK.info
  have hsz : (sizeOf K.e).run C.P w = .ok K.k w := by simp [sizeOf, typeInfo, hi, hs]
  have hb : (Instr.sliceBounds true xs.length c (some (.int .i64 n)) none none).run C.P w = .ok (n.toNat, xs.length, c) w := by
    simp [Instr.sliceBounds, Instr.sliceBound, asIntOf, h0, h1]
  have := run_sliceAt (P := C.P) (w := w) (ao := ao) hT.h hsz (some n) none none _ (by simpa using hb)
  simp only [Option.map_none, Option.map_some] at this
  simp only [execOp, s.eval hx, s.eval hy, Option.map_none, Option.map_some, Sem.run_bind, this, Result.andThen_ok, Sem.run_pure, cutFrom]
/-- s[:0:0] -/
theorem Yields.slice00 [hK : EKOk C.P K] {T : TypeId} {x y z : Operand} {v : Value} {xs : List α} [hT : Und C.P T (.slice K.e)] (hx : ev e x = some v) (hy : ev e y = some (.int .i64 0)) (hz : ev e z = some (.int .i64 0)) (r : Reads C L (RArr K v xs)) :
    Yields C ⟨d, .slice T x none (some y) (some z), ty, ps, af, g⟩ e L (clip (cutTo v 0)) := fun a w h s => by
  obtain ⟨_, ao, c, rfl, hlc, _⟩ := RArr.of_in (r.at s.holds s.le s.rho s.dj)
  obtain ⟨i', z', hi, hs, _⟩ := hK.info
  have hsz : (sizeOf K.e).run C.P w = .ok K.k w := by simp [sizeOf, typeInfo, hi, hs]
  have hb : (Instr.sliceBounds true xs.length c none (some (.int .i64 0)) (some (.int .i64 0))).run C.P w = .ok (0, 0, 0) w := by
    have hc0 : (0 : Int) ≤ (c : Int) := by omega
    simp [Instr.sliceBounds, Instr.sliceBound, asIntOf, hc0]
  have := run_sliceAt (P := C.P) (w := w) (ao := ao) hT.h hsz none (some 0) (some 0) _ (by simpa using hb)
  simp only [Option.map_none, Option.map_some] at this
  simp only [execOp, s.eval hx, s.eval hy, s.eval hz, Option.map_none, Option.map_some, Sem.run_bind, this, Result.andThen_ok, Sem.run_pure, cutTo, clip]
  rfl
/-- s[:len(s):len(s)] -/
theorem Yields.sliceClip [hK : EKOk C.P K] {T : TypeId} {x y z : Operand} {v : Value} {xs : List α} [hT : Und C.P T (.slice K.e)] (hx : ev e x = some v) (hy : ev e y = some (.int .i64 xs.length)) (hz : ev e z = some (.int .i64 xs.length)) (r : Reads C L (RArr K v xs)) :
    Yields C ⟨d, .slice T x none (some y) (some z), ty, ps, af, g⟩ e L (clip v) := fun a w h s => by
  obtain ⟨_, ao, c, rfl, hlc, _⟩ := RArr.of_in (r.at s.holds s.le s.rho s.dj)
  obtain ⟨i', z', hi, hs, _⟩ := hK.info
  have hsz : (sizeOf K.e).run C.P w = .ok K.k w := by simp [sizeOf, typeInfo, hi, hs]
  have hb : (Instr.sliceBounds true xs.length c none (some (.int .i64 xs.length)) (some (.int .i64 xs.length))).run C.P w = .ok (0, xs.length, xs.length) w := by
    simp [Instr.sliceBounds, Instr.sliceBound, asIntOf, hlc]
  have := run_sliceAt (P := C.P) (w := w) (ao := ao) hT.h hsz none (some xs.length) (some xs.length) _ (by simpa using hb)
  simp only [Option.map_none, Option.map_some] at this
  simp only [execOp, s.eval hx, s.eval hy, s.eval hz, Option.map_none, Option.map_some, Sem.run_bind, this, Result.andThen_ok, Sem.run_pure, clip, Nat.sub_zero, Nat.zero_mul]
  congr 3
  cases ao <;> simp [Addr.add]
end
/-! Structs that are built -/
theorem cells_agg (a : Array Value) : (Value.agg a).cells = a := rfl
/-- v is one cell. -/
class One (v : Value) : Prop where
  h : v.cells = #[v]
instance (k : IntKind) (n : Int) : One (.int k n) := ⟨rfl⟩
instance (b : Bool) : One (.bool b) := ⟨rfl⟩
instance (p : Option Addr) : One (.pointer p) := ⟨rfl⟩
instance (a : Option Addr) (n c : Nat) : One (.slice a n c) := ⟨rfl⟩
instance (p : Option Nat) : One (.map p) := ⟨rfl⟩
instance (b : ByteArray) : One (.string b) := ⟨rfl⟩
instance (t : TypeId) (v : Value) : One (.iface t v) := ⟨rfl⟩
instance : One .nilIface := ⟨rfl⟩
instance (f : Fn) (a b : Array Value) : One (.func f a b) := ⟨rfl⟩
/-- A slice's value. -/
structure SV where
  a : Option Addr
  n : Nat
  c : Nat
instance : Inhabited SV := ⟨⟨none, 0, 0⟩⟩
def SV.v (s : SV) : Value := .slice s.a s.n s.c
/-- nil -/
def nilS : SV := ⟨none, 0, 0⟩
theorem nilS_v : nilS.v = .slice none 0 0 := rfl
instance (s : SV) : One s.v := ⟨rfl⟩
class Bld (P : Program) (T : TypeId) (parts : List (Nat × Value)) (cs : outParam (List Value)) : Prop where
  h : ∀ w, (Instr.build T parts.toArray).run P w = .ok (.agg cs.toArray) w
section
variable {C : Cx} {e : Env} {L : List HP} {d : Option Tmp} {ty : TypeId} {ps : String} {af : Array Edge} {g : Option (Nat × Bool)}
theorem Yields.build {T : TypeId} {parts : List (Nat × Operand)} {vs : List (Nat × Value)} {cs : List Value} (hv : ∀ a w h, St C e (stars L) a w h → parts.map (fun p => (p.1, a.eval p.2)) = vs) [hb : Bld C.P T vs cs] :
    Yields C ⟨d, .build T parts.toArray, ty, ps, af, g⟩ e L (.agg cs.toArray) := fun a w h s => by
  have e1 : parts.toArray.map (fun p => (p.1, a.eval p.2)) = vs.toArray := by rw [List.map_toArray, hv a w h s]
  have e2 : parts.toArray.map (fun (p : Nat × Operand) => match p with | (i, x) => (i, a.eval x)) = vs.toArray := e1
  simp only [execOp, e2]
  simp [hb.h]
theorem Ybd0 {T : TypeId} {cs : List Value} [hb : Bld C.P T [] cs] : Yields C ⟨d, .build T #[], ty, ps, af, g⟩ e L (.agg cs.toArray) := Yields.build (parts := []) (vs := []) (fun _ _ _ _ => rfl)
theorem Ybd1 {T : TypeId} {i0 : Nat} {x0 : Operand} {v0 : Value} {cs : List Value} (h0 : ev e x0 = some v0) [hb : Bld C.P T [(i0, v0)] cs] : Yields C ⟨d, .build T #[(i0, x0)], ty, ps, af, g⟩ e L (.agg cs.toArray) :=
  Yields.build (parts := [(i0, x0)]) (vs := [(i0, v0)]) (fun a w h s => by simp [s.eval h0])
theorem Ybd2 {T : TypeId} {i0 i1 : Nat} {x0 x1 : Operand} {v0 v1 : Value} {cs : List Value} (h0 : ev e x0 = some v0) (h1 : ev e x1 = some v1) [hb : Bld C.P T [(i0, v0), (i1, v1)] cs] :
    Yields C ⟨d, .build T #[(i0, x0), (i1, x1)], ty, ps, af, g⟩ e L (.agg cs.toArray) :=
  Yields.build (parts := [(i0, x0), (i1, x1)]) (vs := [(i0, v0), (i1, v1)]) (fun a w h s => by simp [s.eval h0, s.eval h1])
theorem Ybd3 {T : TypeId} {i0 i1 i2 : Nat} {x0 x1 x2 : Operand} {v0 v1 v2 : Value} {cs : List Value} (h0 : ev e x0 = some v0) (h1 : ev e x1 = some v1) (h2 : ev e x2 = some v2) [hb : Bld C.P T [(i0, v0), (i1, v1), (i2, v2)] cs] :
    Yields C ⟨d, .build T #[(i0, x0), (i1, x1), (i2, x2)], ty, ps, af, g⟩ e L (.agg cs.toArray) :=
  Yields.build (parts := [(i0, x0), (i1, x1), (i2, x2)]) (vs := [(i0, v0), (i1, v1), (i2, v2)]) (fun a w h s => by simp [s.eval h0, s.eval h1, s.eval h2])
theorem Ybd4 {T : TypeId} {i0 i1 i2 i3 : Nat} {x0 x1 x2 x3 : Operand} {v0 v1 v2 v3 : Value} {cs : List Value} (h0 : ev e x0 = some v0) (h1 : ev e x1 = some v1) (h2 : ev e x2 = some v2) (h3 : ev e x3 = some v3)
    [hb : Bld C.P T [(i0, v0), (i1, v1), (i2, v2), (i3, v3)] cs] : Yields C ⟨d, .build T #[(i0, x0), (i1, x1), (i2, x2), (i3, x3)], ty, ps, af, g⟩ e L (.agg cs.toArray) :=
  Yields.build (parts := [(i0, x0), (i1, x1), (i2, x2), (i3, x3)]) (vs := [(i0, v0), (i1, v1), (i2, v2), (i3, v3)]) (fun a w h s => by simp [s.eval h0, s.eval h1, s.eval h2, s.eval h3])
theorem Ybd6 {T : TypeId} {i0 i1 i2 i3 i4 i5 : Nat} {x0 x1 x2 x3 x4 x5 : Operand} {v0 v1 v2 v3 v4 v5 : Value} {cs : List Value} (h0 : ev e x0 = some v0) (h1 : ev e x1 = some v1) (h2 : ev e x2 = some v2) (h3 : ev e x3 = some v3) (h4 : ev e x4 = some v4) (h5 : ev e x5 = some v5)
    [hb : Bld C.P T [(i0, v0), (i1, v1), (i2, v2), (i3, v3), (i4, v4), (i5, v5)] cs] : Yields C ⟨d, .build T #[(i0, x0), (i1, x1), (i2, x2), (i3, x3), (i4, x4), (i5, x5)], ty, ps, af, g⟩ e L (.agg cs.toArray) :=
  Yields.build (parts := [(i0, x0), (i1, x1), (i2, x2), (i3, x3), (i4, x4), (i5, x5)]) (vs := [(i0, v0), (i1, v1), (i2, v2), (i3, v3), (i4, v4), (i5, v5)]) (fun a w h s => by simp [s.eval h0, s.eval h1, s.eval h2, s.eval h3, s.eval h4, s.eval h5])
end
end Go.Proofs.YtfldnnpcdjabnaaDoor
