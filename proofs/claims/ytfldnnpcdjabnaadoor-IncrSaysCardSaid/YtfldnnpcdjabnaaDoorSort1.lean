/-
  Of Go's library: clear, slices.Compact, slices.Clip, cmp; lits.order.
-/
import Derived.Test.YtfldnnpcdjabnaaDoorSlices
import Derived.Laws.AppendOwn
set_option linter.unusedVariables false
set_option linter.unusedSimpArgs false
namespace Go.Proofs.YtfldnnpcdjabnaaDoor
open Go
section
variable {C : Cx} {e : Env} {L : List HP} {d : Option Tmp} {ty : TypeId} {ps : String} {af : Array Edge} {g : Option (Nat × Bool)} {α : Type} {K : EK α}
/-- What lies from a place on is made zero. -/
theorem Does.clear [hK : EKOk C.P K] {T : TypeId} {x : Operand} {v : Value} {xs : List α} {L' : List HP} {n : Int} {z : α} [hT : Und C.P T (.slice K.e)] [hZ : Zer C.P K z] (hx : ev e x = some (cutFrom K.k v n)) (p : Pick (Arr K v xs) L L')
    (h0 : 0 ≤ n) (h1 : n ≤ xs.length) : Does C ⟨d, .call ⟨.builtin .clear, #[x], #[T]⟩, ty, ps, af, g⟩ e L (fun _ => Arr K v (xs.take n.toNat ++ List.replicate (xs.length - n.toNat) z) :: L') := fun a w h st => by
  have hn : n.toNat ≤ xs.length := by omega
  obtain ⟨i, zv, hi, hik, hib, hz, hzk⟩ := hK.info
  have hzc := hZ.h i zv hi hz
  have fin : (∃ v' w' h', (Builtin.clear_ #[T] ty #[cutFrom K.k v n]).run C.P w = .ok v' w' ∧ stars (Arr K v (xs.take n.toNat ++ List.replicate (xs.length - n.toNat) z) :: L') h' ∧ fle h' (hp w') ∧ Evo h w w' h') →
      (⟨d, .call ⟨.builtin .clear, #[x], #[T]⟩, ty, ps, af, g⟩ : Oper).wp C.P a w (fun a' w' => ∃ v' h', a' = a.put d v' ∧ stars (Arr K v (xs.take n.toNat ++ List.replicate (xs.length - n.toNat) z) :: L') h' ∧ fle h' (hp w') ∧ Evo h w w' h') (fun _ _ _ => False) := by
    rintro ⟨v', w', h', hrun, hL, hle, hn⟩
    unfold Oper.wp
    have : (execOp a.eval ⟨d, .call ⟨.builtin .clear, #[x], #[T]⟩, ty, ps, af, g⟩).run C.P w = .ok (.value v') w' := by
      simp [execOp, resolve, invoke, builtin, st.eval hx, hrun]
    rw [this]
    exact ⟨v', h', rfl, hL, hle, hn⟩
  refine fin ?_
  obtain ⟨h1', h2, dd, rfl, ha, hb⟩ := p h st.holds
  by_cases hall : xs.length - n.toNat = 0
  · have e1 : xs.take n.toNat ++ List.replicate (xs.length - n.toNat) z = xs := by rw [hall, List.take_of_length_le (by omega)]; simp
    rw [e1]
    refine ⟨.tuple #[], w, _, ?_, ⟨h1', h2, dd, rfl, ha, hb⟩, st.le, Evo.refl _ _⟩
    obtain ⟨_, ao, c, rfl, _⟩ := ha.read
    simp only [cutFrom, hall]
    generalize (if c = n.toNat then ao else ao.map (·.add (n.toNat * K.k))) = o
    cases o <;> simp [Builtin.clear_, run_underlying hT.h]
  · rcases ha with ⟨rfl, rfl, ao, rfl⟩ | ⟨gg, cap, cur, rfl, c1, c2, c3, c4, rfl⟩
    · simp at hall
    · have hg : w.heap[gg]? = some (.cells cur.toArray K.e (0, 0)) := st.le gg _ (by simp [fadd, fone])
      have hkk := hK.k0
      let cs := flat K (List.replicate (xs.length - n.toNat) z)
      have hcl : cs.length = (xs.length - n.toNat) * K.k := by simp [cs, flat_length hK.len]
      have hfit : n.toNat * K.k + cs.length ≤ cur.length := by
        rw [hcl, ← Nat.add_mul]
        exact Nat.le_trans (Nat.mul_le_mul_right _ (by omega)) c3
      have hst := run_storeCells_at (P := C.P) gg (n.toNat * K.k) K.e cs 0 cur.toArray w hg (by simpa using hfit) (flat_one (P := C.P) _)
      simp only [Nat.add_zero] at hst
      have hzz : (Builtin.zeroCells zv.cells (xs.length - n.toNat)).toList = cs := by
        have := zeros_flat K hK.len hK.k0 z (xs.length - n.toNat)
        rw [hzc]
        simp only [cs]
        rw [← this]
        simp [Builtin.zeroCells, hK.len]
      obtain ⟨m, hm⟩ : ∃ m, xs.length - n.toNat = m + 1 := ⟨xs.length - n.toNat - 1, by omega⟩
      have hcn : cap ≠ n.toNat := by omega
      have hrun : (Builtin.clear_ #[T] ty #[cutFrom K.k (.slice (some ⟨gg, 0, none⟩) xs.length cap) n]).run C.P w =
          .ok (.tuple #[]) (w.setRow gg (cur.take (n.toNat * K.k) ++ cs ++ cur.drop (n.toNat * K.k + cs.length)).toArray) := by
        simp only [cutFrom, hcn, if_false, Option.map_some, Addr.add_lit]
        rw [hm] at hzz ⊢
        simp [Builtin.clear_, run_underlying hT.h, zeroValue, typeInfo, hi, hz, hzz, hst]
      obtain ⟨d', l', n'⟩ := setRow_evo (cs := (cur.take (n.toNat * K.k) ++ cs ++ cur.drop (n.toNat * K.k + cs.length)).toArray) st.le dd
      have hlen : (xs.take n.toNat ++ List.replicate (xs.length - n.toNat) z).length = xs.length := by simp; omega
      refine ⟨_, _, _, hrun, ⟨_, h2, d', rfl, .inr ⟨gg, cap, _, by rw [hlen], by rw [hlen]; exact c1, by rw [hlen]; exact c2, ?_, ?_, rfl⟩, hb⟩, l', n'⟩
      · simp only [List.length_append, List.length_take, List.length_drop]; omega
      · rw [hlen, flat_append, ← flat_take hK.len, ← c4, List.take_take, Nat.min_eq_left (Nat.mul_le_mul_right _ hn)]
        have e2 : xs.length * K.k = (cur.take (n.toNat * K.k) ++ cs).length := by
          rw [List.length_append, hcl, List.length_take, Nat.min_eq_left (by omega), ← Nat.add_mul]; congr 1; omega
        rw [e2, List.take_left']
        rfl
end
theorem Reads.cutFrom {C : Cx} {L : List HP} {α : Type} {K : EK α} [hK : EKOk C.P K] {v : Value} {xs : List α} {n : Int} (r : Reads C L (RArr K v xs)) (h0 : 0 ≤ n) (h1 : n ≤ xs.length) : Reads C L (RArr K (cutFrom K.k v n) (xs.drop n.toNat)) :=
  r.mono fun _ a => RArr.cutFrom (P := C.P) a h0 h1
/-- Each once of those that stand side by side. -/
def comp : List Int → List Int
  | [] => []
  | [x] => [x]
  | x :: y :: r => if x = y then comp (y :: r) else x :: comp (y :: r)
theorem comp_mem : ∀ (xs : List Int) (a : Int), a ∈ comp xs ↔ a ∈ xs
  | [], a => Iff.rfl
  | [x], a => Iff.rfl
  | x :: y :: r, a => by
    have ih := comp_mem (y :: r) a
    unfold comp
    split
    · rename_i h; subst h; rw [ih]; simp
    · rw [List.mem_cons, ih, List.mem_cons (a := a) (b := x)]
theorem comp_len : ∀ (xs : List Int), (comp xs).length ≤ xs.length
  | [] => Nat.le_refl _
  | [x] => Nat.le_refl _
  | x :: y :: r => by
    have ih := comp_len (y :: r)
    unfold comp
    split <;> simp at ih ⊢ <;> omega
theorem comp_pw {R : Int → Int → Prop} : ∀ (xs : List Int), xs.Pairwise R → (comp xs).Pairwise (fun a b => R a b) ∧ True
  | [], _ => ⟨List.Pairwise.nil, trivial⟩
  | [x], _ => ⟨by simp [comp], trivial⟩
  | x :: y :: r, h => by
    have ih := (comp_pw (y :: r) (List.pairwise_cons.1 h).2).1
    refine ⟨?_, trivial⟩
    unfold comp
    split
    · exact ih
    · refine List.pairwise_cons.2 ⟨fun a ha => (List.pairwise_cons.1 h).1 a ((comp_mem _ _).1 ha), ih⟩
theorem comp_ne {R : Int → Int → Prop} (anti : ∀ a b, R a b → R b a → a = b) : ∀ (xs : List Int), xs.Pairwise R → (comp xs).Pairwise (· ≠ ·)
  | [], _ => List.Pairwise.nil
  | [x], _ => by simp [comp]
  | x :: y :: r, h => by
    have hx := (List.pairwise_cons.1 h).1
    have hr := (List.pairwise_cons.1 h).2
    have ih := comp_ne anti (y :: r) hr
    unfold comp
    split
    · exact ih
    · rename_i hne
      refine List.pairwise_cons.2 ⟨fun a ha e => ?_, ih⟩
      subst e
      have h1 := (comp_mem _ _).1 ha
      rcases List.mem_cons.1 h1 with h2 | h2
      · exact hne h2
      · exact hne (anti x y (hx y (by simp)) ((List.pairwise_cons.1 hr).1 x h2))
theorem comp_id : ∀ (xs : List Int), (∀ i : Int, 1 ≤ i → i < xs.length → rd xs i ≠ rd xs (i - 1)) → comp xs = xs
  | [], _ => rfl
  | [x], _ => rfl
  | x :: y :: r, h => by
    have h1 := h 1 (by omega) (by simp; omega)
    have e1 : rd (x :: y :: r) 1 = y := rfl
    have e2 : rd (x :: y :: r) (1 - 1) = x := rfl
    rw [e1, e2] at h1
    unfold comp
    rw [if_neg (fun e => h1 e.symm)]
    congr 1
    refine comp_id (y :: r) fun i hi hl => ?_
    have := h (i + 1) (by omega) (by simp at hl ⊢; omega)
    have e3 : rd (x :: y :: r) (i + 1) = rd (y :: r) i := by simp [rd, show (i + 1).toNat = i.toNat + 1 by omega]
    have e4 : rd (x :: y :: r) (i + 1 - 1) = rd (y :: r) (i - 1) := by
      have : (i + 1 - 1).toNat = (i - 1).toNat + 1 := by omega
      simp only [rd, this, List.getD_cons_succ]
    rw [e3, e4] at this
    exact this
theorem comp_snoc_eq {xs : List Int} {a b : Int} (h : a = b) : comp (xs ++ [a] ++ [b]) = comp (xs ++ [a]) := by
  subst h
  induction xs with
  | nil => simp [comp]
  | cons x xs ih =>
    cases xs with
    | nil => simp only [List.nil_append, List.cons_append]; unfold comp; split <;> simp [comp]
    | cons y r => simp only [List.cons_append] at ih ⊢; unfold comp; rw [ih]
theorem comp_snoc_ne {xs : List Int} {a b : Int} (h : a ≠ b) : comp (xs ++ [a] ++ [b]) = comp (xs ++ [a]) ++ [b] := by
  induction xs with
  | nil => simp [comp, h]
  | cons x xs ih =>
    cases xs with
    | nil => simp only [List.nil_append, List.cons_append]; unfold comp; split <;> simp [comp, h]
    | cons y r =>
      simp only [List.cons_append] at ih ⊢
      unfold comp
      rw [ih]
      split <;> simp
attribute [local irreducible] Yields Does Run RunL AnyL Ct Reads Peek PeekN Poke Pick Fits Sub Ent Still Arr RArr Cells el stars In
theorem clip_ct (ρ : Frag) (s : SV) (xs : List Int) : Ct Tryd.prog 73 [s.v] ρ [Arr KInt s.v xs] (fun r => [hex fun t : SV => stars [pu (r = t.v), Arr KInt t.v xs]]) := by
  (refine Ct.of_run Tryd.func73 rfl Tryd.ntmps73 rfl (Nat.le_of_ble_eq_true rfl) ?_)
  (repeat first | refine G1 ?_ | refine G2 ?_ | refine G3 ?_ | refine G4 ?_ | refine G5 rfl ?_ | refine G6 rfl ?_ | refine G7 rfl ?_)
  (focus (refine R0 ?_; refine lv (by exact YaN) ?_; refine R1 ?_; rotate_left))

  (repeat first | refine G1 ?_ | refine G2 ?_ | refine G3 ?_ | refine G4 ?_ | refine G5 rfl ?_ | refine G6 rfl ?_ | refine G7 rfl ?_)
  (focus (refine R0 ?_; refine lM ?_; refine lM ?_; refine lE ?_; refine lM ?_; refine lE ?_; refine lv (by exact Yields.sliceClip (K := KInt) (hT := ⟨Tryd.underlying26⟩) rfl rfl rfl (by (first | exact Reads.rhoArr (by assumption) | exact Reads.arr (by (repeat (first | with_reducible exact Pick.here | with_reducible apply Pick.there))) | exact Reads.rho (by assumption)))) ?_; refine lA ?_; refine R1 ?_; rotate_left))

  (repeat first | refine G1 ?_ | refine G2 ?_ | refine G3 ?_ | refine G4 ?_ | refine G5 rfl ?_ | refine G6 rfl ?_ | refine G7 rfl ?_)
  (refine Run.ret1 Tryd.results73 (by rfl) ?_)
  refine Ent.hex ⟨s.a, s.n, s.n⟩ (Ent.flat (Ent.pu rfl ?_))
  exact Ent.pre (fun h a => Arr.clip a) (Ent.refl _)
theorem compact_ct (ρ : Frag) (s : SV) (xs : List Int) : Ct Tryd.prog 74 [s.v] ρ [Arr KInt s.v xs] (fun r => [hex fun t : SV => stars [pu (r = t.v), Arr KInt t.v (comp xs)]]) := by
  (refine Ct.of_run Tryd.func74 rfl Tryd.ntmps74 rfl (Nat.le_of_ble_eq_true rfl) ?_)
  refine Run.i64 (xs := xs) (by (first | exact Reads.rhoArr (by assumption) | exact Reads.arr (by (repeat (first | with_reducible exact Pick.here | with_reducible apply Pick.there))) | exact Reads.rho (by assumption))) fun hs => ?_
  (repeat first | refine G1 ?_ | refine G2 ?_ | refine G3 ?_ | refine G4 ?_ | refine G5 rfl ?_ | refine G6 rfl ?_ | refine G7 rfl ?_)
  (focus (refine R0 ?_; refine lv (by exact YaN) ?_; refine R1 ?_; rotate_left))

  (repeat first | refine G1 ?_ | refine G2 ?_ | refine G3 ?_ | refine G4 ?_ | refine G5 rfl ?_ | refine G6 rfl ?_ | refine G7 rfl ?_)
  (focus (refine R0 ?_; refine lM ?_; refine lE ?_; refine lv (by exact Ylt) ?_; refine R1 ?_; rotate_left))

  (repeat first | refine G1 ?_ | refine G2 ?_ | refine G3 ?_ | refine G4 ?_ | refine G5 rfl ?_ | refine G6 rfl ?_ | refine G7 rfl ?_)
  refine Run.condP rfl (fun c => ?_) (fun c => ?_)
  · (repeat first | refine G1 ?_ | refine G2 ?_ | refine G3 ?_ | refine G4 ?_ | refine G5 rfl ?_ | refine G6 rfl ?_ | refine G7 rfl ?_)
    (focus (refine R0 ?_; refine lM ?_; refine lA ?_; refine R1 ?_; rotate_left))

    (repeat first | refine G1 ?_ | refine G2 ?_ | refine G3 ?_ | refine G4 ?_ | refine G5 rfl ?_ | refine G6 rfl ?_ | refine G7 rfl ?_)
    (refine Run.ret1 Tryd.results74 (by rfl) ?_)
    refine Ent.hex s (Ent.flat (Ent.pu rfl ?_))
    have : comp xs = xs := by
      match xs, c with
      | [], _ => rfl
      | [x], _ => rfl
      | x :: y :: r, c => simp at c; omega
    rw [this]
    exact Ent.refl _
  · (repeat first | refine G1 ?_ | refine G2 ?_ | refine G3 ?_ | refine G4 ?_ | refine G5 rfl ?_ | refine G6 rfl ?_ | refine G7 rfl ?_)
    (focus (refine R0 ?_; refine lA ?_; refine R1 ?_; rotate_left))

    (repeat first | refine G1 ?_ | refine G2 ?_ | refine G3 ?_ | refine G4 ?_ | refine G5 rfl ?_ | refine G6 rfl ?_ | refine G7 rfl ?_)
    refine Run.loopI (X := Int) (fun k => [(0, s.v), (3, int k)]) (fun k => [pu (1 ≤ k ∧ k ≤ xs.length ∧ ∀ i : Int, 1 ≤ i → i < k → rd xs i ≠ rd xs (i - 1)), Arr KInt s.v xs]) (fun k => (xs.length - k).toNat) 1 (by (repeat (first | exact Sub.nil _ | refine Sub.cons rfl ?_))) ?_ ?_
    · (focus ((repeat first | refine E1 ?_ ?_ | refine E2 ?_ | refine E3 ?_ | refine E4 ?_ | refine E5 ?_ | refine E6 ?_ | refine E7 ?_ | refine E8 ?_); exact E9; all_goals try first | rfl | assumption | omega))
      exact ⟨by omega, by omega, fun i h1 h2 => by omega⟩
    · intro k ih
      refine Run.unpu fun hk => ?_
      obtain ⟨k1, k2, k3⟩ := hk
      (repeat first | refine G1 ?_ | refine G2 ?_ | refine G3 ?_ | refine G4 ?_ | refine G5 rfl ?_ | refine G6 rfl ?_ | refine G7 rfl ?_)
      (focus (refine R0 ?_; refine lM ?_; refine lM ?_; refine lE ?_; refine lv (by exact Ylt) ?_; refine R1 ?_; rotate_left))

      (repeat first | refine G1 ?_ | refine G2 ?_ | refine G3 ?_ | refine G4 ?_ | refine G5 rfl ?_ | refine G6 rfl ?_ | refine G7 rfl ?_)
      refine Run.condP rfl (fun c1 => ?_) (fun c1 => ?_)
      · (repeat first | refine G1 ?_ | refine G2 ?_ | refine G3 ?_ | refine G4 ?_ | refine G5 rfl ?_ | refine G6 rfl ?_ | refine G7 rfl ?_)
        (focus (refine Run.planS mixed (.take 0 (.take 1 (.take 2 (.take 3 (.take 4 (.take 5 (.take 6 (.take 7 (.take 8 (.take 9 (.done))))))))))) [(some 16, [0], []), (some 17, [3], []), (some 18, [16, 17], [0, 1]), (some 19, [18], [2]), (some 20, [0], []), (some 21, [3], []), (some 22, [21], [5]), (some 23, [20, 22], [4, 6]), (some 24, [23], [7]), (some 25, [19, 24], [3, 8])] (by kernel_rfl) (by kernel_rfl) (by kernel_rfl) ?_; refine dM rfl ?_; refine dM rfl ?_; refine dX rfl ?_; refine dL rfl ?_; refine dM rfl ?_; refine dM rfl ?_; refine dv rfl (by exact Ysb) ?_; refine dX rfl ?_; refine dL rfl ?_; refine dv rfl (by exact Yeq) ?_; refine R2 ?_; rotate_left))

        (repeat first | refine G1 ?_ | refine G2 ?_ | refine G3 ?_ | refine G4 ?_ | refine G5 rfl ?_ | refine G6 rfl ?_ | refine G7 rfl ?_)
        refine Run.condP rfl (fun c2 => ?_) (fun c2 => ?_)
        · (repeat first | refine G1 ?_ | refine G2 ?_ | refine G3 ?_ | refine G4 ?_ | refine G5 rfl ?_ | refine G6 rfl ?_ | refine G7 rfl ?_)
          (focus (refine R0 ?_; refine lM ?_; refine lM ?_; refine lv (by exact Ysf) ?_; refine lA ?_; refine R1 ?_; rotate_left))

          (repeat first | refine G1 ?_ | refine G2 ?_ | refine G3 ?_ | refine G4 ?_ | refine G5 rfl ?_ | refine G6 rfl ?_ | refine G7 rfl ?_)
          (focus (refine R0 ?_; refine lA ?_; refine R1 ?_; rotate_left))

          (repeat first | refine G1 ?_ | refine G2 ?_ | refine G3 ?_ | refine G4 ?_ | refine G5 rfl ?_ | refine G6 rfl ?_ | refine G7 rfl ?_)
          -- k: how many were kept; j: how far it looked
          refine Run.loopI (X := Int × Int × List Int) (fun x => [(0, s.v), (3, int x.1), (4, cutFrom KInt.k s.v k), (5, int x.2.1)])
            (fun x => [pu (1 ≤ x.1 ∧ x.1 ≤ k + x.2.1 - 1 ∧ 1 ≤ x.2.1 ∧ k + x.2.1 ≤ xs.length ∧ x.2.2.length = xs.length ∧ x.2.2.take x.1.toNat = comp (xs.take (k + x.2.1).toNat) ∧ ∀ i : Int, k + x.2.1 - 1 ≤ i → i < xs.length → rd x.2.2 i = rd xs i), Arr KInt s.v x.2.2])
            (fun x => (xs.length - x.2.1).toNat) (k, 1, xs) (by (repeat (first | exact Sub.nil _ | refine Sub.cons rfl ?_))) ?_ ?_
          · (focus ((repeat first | refine E1 ?_ ?_ | refine E2 ?_ | refine E3 ?_ | refine E4 ?_ | refine E5 ?_ | refine E6 ?_ | refine E7 ?_ | refine E8 ?_); exact E9; all_goals try first | rfl | assumption | omega))
            refine ⟨k1, by dsimp only; omega, by dsimp only; omega, by dsimp only; omega, rfl, ?_, fun i _ _ => rfl⟩
            dsimp only
            have e1 : xs.take (k + 1).toNat = xs.take (k - 1).toNat ++ [rd xs (k - 1)] ++ [rd xs k] := by
              rw [take_snoc xs k (by omega) c1, show xs.take k.toNat = xs.take (k - 1 + 1).toNat by congr 1; omega, take_snoc xs (k - 1) (by omega) (by omega)]
            rw [e1, comp_snoc_eq c2.symm, ← take_snoc xs (k - 1) (by omega) (by omega), show k - 1 + 1 = k by omega]
            rw [comp_id]
            intro i hi hl
            have : i < k := by simp at hl; omega
            have := k3 i hi this
            simp only [rd, List.getD_eq_getElem?_getD, List.getElem?_take] at this ⊢
            rw [if_pos (by omega), if_pos (by omega)]
            exact this
          · rintro ⟨m, j, ys⟩ ih2
            refine Run.unpu fun hm => ?_
            obtain ⟨m0, m1, m2, m3, m4, m5, m6⟩ := hm
            dsimp only at m0 m1 m2 m3 m4 m5 m6 ⊢
            have hread : ∀ {C : Cx} {L : List HP} [EKOk C.P KInt], Reads C L (RArr KInt s.v ys) → Reads C L (RArr KInt (cutFrom KInt.k s.v k) (ys.drop k.toNat)) := fun r => Reads.cutFrom r (by omega) (by omega)
            have hdl : (ys.drop k.toNat).length = xs.length - k.toNat := by simp [m4]
            have hrd : ∀ i : Int, 0 ≤ i → rd (ys.drop k.toNat) i = rd ys (k + i) := fun i hi => by
              simp only [rd, List.getD_eq_getElem?_getD, List.getElem?_drop]
              congr 2; omega
            (repeat first | refine G1 ?_ | refine G2 ?_ | refine G3 ?_ | refine G4 ?_ | refine G5 rfl ?_ | refine G6 rfl ?_ | refine G7 rfl ?_)
            (focus (refine R0 ?_; refine lM ?_; refine lM ?_; refine lv (by exact Yln (K := KInt) (xs := ys.drop k.toNat) rfl (hread (by (first | exact Reads.rhoArr (by assumption) | exact Reads.arr (by (repeat (first | with_reducible exact Pick.here | with_reducible apply Pick.there))) | exact Reads.rho (by assumption))))) ?_; refine lv (by exact Ylt) ?_; refine R1 ?_; rotate_left))

            (repeat first | refine G1 ?_ | refine G2 ?_ | refine G3 ?_ | refine G4 ?_ | refine G5 rfl ?_ | refine G6 rfl ?_ | refine G7 rfl ?_)
            refine Run.condP rfl (fun c3 => ?_) (fun c3 => ?_)
            · rw [hdl] at c3
              (repeat first | refine G1 ?_ | refine G2 ?_ | refine G3 ?_ | refine G4 ?_ | refine G5 rfl ?_ | refine G6 rfl ?_ | refine G7 rfl ?_)
              (focus (refine Run.planS mixed (.take 0 (.take 1 (.take 2 (.take 3 (.take 4 (.take 5 (.take 6 (.take 7 (.take 8 (.take 9 (.done))))))))))) [(some 35, [4], []), (some 36, [5], []), (some 37, [35, 36], [0, 1]), (some 38, [37], [2]), (some 39, [4], []), (some 40, [5], []), (some 41, [40], [5]), (some 42, [39, 41], [4, 6]), (some 43, [42], [7]), (some 44, [38, 43], [3, 8])] (by kernel_rfl) (by kernel_rfl) (by kernel_rfl) ?_; refine dM rfl ?_; refine dM rfl ?_; refine dv rfl (by exact Yix (K := KInt) (xs := ys.drop k.toNat) rfl rfl (hread (by (first | exact Reads.rhoArr (by assumption) | exact Reads.arr (by (repeat (first | with_reducible exact Pick.here | with_reducible apply Pick.there))) | exact Reads.rho (by assumption)))) (by omega) (by omega)) ?_; refine dv rfl (by exact YlE (K := KInt) (xs := ys.drop k.toNat) rfl (hread (by (first | exact Reads.rhoArr (by assumption) | exact Reads.arr (by (repeat (first | with_reducible exact Pick.here | with_reducible apply Pick.there))) | exact Reads.rho (by assumption)))) (by omega) (by omega)) ?_; refine dM rfl ?_; refine dM rfl ?_; refine dv rfl (by exact Ysb) ?_; refine dv rfl (by exact Yix (K := KInt) (xs := ys.drop k.toNat) rfl rfl (hread (by (first | exact Reads.rhoArr (by assumption) | exact Reads.arr (by (repeat (first | with_reducible exact Pick.here | with_reducible apply Pick.there))) | exact Reads.rho (by assumption)))) (by omega) (by omega)) ?_; refine dv rfl (by exact YlE (K := KInt) (xs := ys.drop k.toNat) rfl (hread (by (first | exact Reads.rhoArr (by assumption) | exact Reads.arr (by (repeat (first | with_reducible exact Pick.here | with_reducible apply Pick.there))) | exact Reads.rho (by assumption)))) (by omega) (by omega)) ?_; refine dv rfl (by exact Yne) ?_; refine R2 ?_; rotate_left))

              have e1 : xs.take (k + (j + 1)).toNat = xs.take (k + j - 1).toNat ++ [rd xs (k + j - 1)] ++ [rd xs (k + j)] := by
                rw [show k + (j + 1) = k + j + 1 by omega, take_snoc xs (k + j) (by omega) (by omega), show xs.take (k + j).toNat = xs.take (k + j - 1 + 1).toNat by congr 1; omega, take_snoc xs (k + j - 1) (by omega) (by omega)]
              have e2 : xs.take (k + j - 1).toNat ++ [rd xs (k + j - 1)] = xs.take (k + j).toNat := by
                rw [← take_snoc xs (k + j - 1) (by omega) (by omega)]; congr 1; omega
              have r1 := hrd j (by omega)
              have r2 := hrd (j - 1) (by omega)
              rw [m6 (k + j) (by omega) (by omega)] at r1
              rw [show k + (j - 1) = k + j - 1 by omega, m6 (k + j - 1) (by omega) (by omega)] at r2
              refine Run.condP rfl (fun c4 => ?_) (fun c4 => ?_)
              · have hne : rd xs (k + j - 1) ≠ rd xs (k + j) := by rw [← r1, ← r2]; exact fun e => c4 e.symm
                (repeat first | refine G1 ?_ | refine G2 ?_ | refine G3 ?_ | refine G4 ?_ | refine G5 rfl ?_ | refine G6 rfl ?_ | refine G7 rfl ?_)
                (focus (refine R0 ?_; refine lM ?_; refine lM ?_; refine lM ?_; refine lM ?_; refine lv (by exact Yix (K := KInt) (xs := ys.drop k.toNat) rfl rfl (hread (by (first | exact Reads.rhoArr (by assumption) | exact Reads.arr (by (repeat (first | with_reducible exact Pick.here | with_reducible apply Pick.there))) | exact Reads.rho (by assumption)))) (by omega) (by omega)) ?_; refine lv (by exact YlE (K := KInt) (xs := ys.drop k.toNat) rfl (hread (by (first | exact Reads.rhoArr (by assumption) | exact Reads.arr (by (repeat (first | with_reducible exact Pick.here | with_reducible apply Pick.there))) | exact Reads.rho (by assumption)))) (by omega) (by omega)) ?_; refine lX ?_; refine ln (by exact Dst) ?_; intro _; (try dsimp only [List.cons_append, List.nil_append, List.append_nil]); refine R1 ?_; rotate_left))

                (repeat first | refine G1 ?_ | refine G2 ?_ | refine G3 ?_ | refine G4 ?_ | refine G5 rfl ?_ | refine G6 rfl ?_ | refine G7 rfl ?_)
                (focus (refine R0 ?_; refine lM ?_; refine lv (by exact Yad) ?_; refine lA ?_; refine R1 ?_; rotate_left))

                (repeat first | refine G1 ?_ | refine G2 ?_ | refine G3 ?_ | refine G4 ?_ | refine G5 rfl ?_ | refine G6 rfl ?_ | refine G7 rfl ?_)
                (focus (refine R0 ?_; refine lM ?_; refine lv (by exact Yad) ?_; refine lA ?_; refine R1 ?_; rotate_left))

                (repeat first | refine G1 ?_ | refine G2 ?_ | refine G3 ?_ | refine G4 ?_ | refine G5 rfl ?_ | refine G6 rfl ?_ | refine G7 rfl ?_)
                refine Run.weaken (by (repeat (first | exact Sub.nil _ | refine Sub.cons rfl ?_))) ?_ (ih2 (m + 1, j + 1, wr ys m (rd (ys.drop k.toNat) j)) (by dsimp only; omega))
                (focus ((repeat first | refine E1 ?_ ?_ | refine E2 ?_ | refine E3 ?_ | refine E4 ?_ | refine E5 ?_ | refine E6 ?_ | refine E7 ?_ | refine E8 ?_); exact E9; all_goals try first | rfl | assumption | omega))
                refine ⟨by dsimp only; omega, by dsimp only; omega, by dsimp only; omega, by dsimp only; omega, by dsimp only; rw [length_wr, m4], ?_, fun i hi hl => ?_⟩
                · dsimp only
                  rw [e1, comp_snoc_ne hne, e2, ← m5, r1, take_snoc _ m (by omega) (by rw [length_wr]; omega), rd_wr_eq _ _ _ (by omega) (by omega)]
                  congr 1
                  simp only [wr]
                  rw [List.take_set_of_le (by omega)]
                · dsimp only at hi ⊢
                  rw [rd_wr_ne _ _ _ _ (by omega) (by omega) (by omega)]
                  exact m6 i (by omega) hl
              · have he : rd xs (k + j - 1) = rd xs (k + j) := by rw [← r1, ← r2]; exact (Decidable.not_not.1 c4).symm
                (repeat first | refine G1 ?_ | refine G2 ?_ | refine G3 ?_ | refine G4 ?_ | refine G5 rfl ?_ | refine G6 rfl ?_ | refine G7 rfl ?_)
                (focus (refine R0 ?_; refine lM ?_; refine lv (by exact Yad) ?_; refine lA ?_; refine R1 ?_; rotate_left))

                (repeat first | refine G1 ?_ | refine G2 ?_ | refine G3 ?_ | refine G4 ?_ | refine G5 rfl ?_ | refine G6 rfl ?_ | refine G7 rfl ?_)
                refine Run.weaken (by (repeat (first | exact Sub.nil _ | refine Sub.cons rfl ?_))) ?_ (ih2 (m, j + 1, ys) (by dsimp only; omega))
                (focus ((repeat first | refine E1 ?_ ?_ | refine E2 ?_ | refine E3 ?_ | refine E4 ?_ | refine E5 ?_ | refine E6 ?_ | refine E7 ?_ | refine E8 ?_); exact E9; all_goals try first | rfl | assumption | omega))
                refine ⟨by dsimp only; omega, by dsimp only; omega, by dsimp only; omega, by dsimp only; omega, m4, ?_, fun i hi hl => ?_⟩
                · dsimp only
                  rw [e1, comp_snoc_eq he, e2]; exact m5
                · exact m6 i (by dsimp only at hi; omega) hl
            · rw [hdl] at c3
              have e3 : xs.take (k + j).toNat = xs := List.take_of_length_le (by omega)
              rw [e3] at m5
              (repeat first | refine G1 ?_ | refine G2 ?_ | refine G3 ?_ | refine G4 ?_ | refine G5 rfl ?_ | refine G6 rfl ?_ | refine G7 rfl ?_)
              (focus (refine R0 ?_; refine lM ?_; refine lM ?_; refine lv (by exact Ysf) ?_; refine ln (by exact Does.clear (K := KInt) (z := 0) (hT := ⟨Tryd.underlying26⟩) rfl (by (repeat (first | with_reducible exact Pick.here | with_reducible apply Pick.there))) (by omega) (by omega)) ?_; intro _; (try dsimp only [List.cons_append, List.nil_append, List.append_nil]); (repeat (refine RunL.unpu fun hNone => ?_; try subst hNone)); refine R1 ?_; rotate_left))

              (repeat first | refine G1 ?_ | refine G2 ?_ | refine G3 ?_ | refine G4 ?_ | refine G5 rfl ?_ | refine G6 rfl ?_ | refine G7 rfl ?_)
              (focus (refine R0 ?_; refine lM ?_; refine lM ?_; (refine lv (by exact Yst rfl rfl (by (first | exact Reads.rhoArr (by assumption) | exact Reads.arr (by (repeat (first | with_reducible exact Pick.here | with_reducible apply Pick.there))) | exact Reads.rho (by assumption))) (by omega) (by simp; omega)) ?_); refine lA ?_; refine R1 ?_; rotate_left))

              (repeat first | refine G1 ?_ | refine G2 ?_ | refine G3 ?_ | refine G4 ?_ | refine G5 rfl ?_ | refine G6 rfl ?_ | refine G7 rfl ?_)
              (refine Run.ret1 Tryd.results74 (by rfl) ?_)
              refine Ent.hex ⟨s.a, m.toNat, s.c⟩ (Ent.flat (Ent.pu rfl ?_))
              refine Ent.pre (fun h a => ?_) (Ent.refl _)
              have := Arr.cut (P := Tryd.prog) a (n := m) (by omega) (by simp; omega)
              rw [List.take_append_of_le_length (by simp; omega), List.take_take, Nat.min_self, m5] at this
              exact this
        · (repeat first | refine G1 ?_ | refine G2 ?_ | refine G3 ?_ | refine G4 ?_ | refine G5 rfl ?_ | refine G6 rfl ?_ | refine G7 rfl ?_)
          (focus (refine R0 ?_; refine lM ?_; refine lv (by exact Yad) ?_; refine lA ?_; refine R1 ?_; rotate_left))

          (repeat first | refine G1 ?_ | refine G2 ?_ | refine G3 ?_ | refine G4 ?_ | refine G5 rfl ?_ | refine G6 rfl ?_ | refine G7 rfl ?_)
          refine Run.weaken (by (repeat (first | exact Sub.nil _ | refine Sub.cons rfl ?_))) ?_ (ih (k + 1) (by omega))
          (focus ((repeat first | refine E1 ?_ ?_ | refine E2 ?_ | refine E3 ?_ | refine E4 ?_ | refine E5 ?_ | refine E6 ?_ | refine E7 ?_ | refine E8 ?_); exact E9; all_goals try first | rfl | assumption | omega))
          refine ⟨by omega, by omega, fun i h1 h2 => ?_⟩
          by_cases e : i = k
          · subst e; exact c2
          · exact k3 i h1 (by omega)
      · (repeat first | refine G1 ?_ | refine G2 ?_ | refine G3 ?_ | refine G4 ?_ | refine G5 rfl ?_ | refine G6 rfl ?_ | refine G7 rfl ?_)
        (focus (refine R0 ?_; refine lM ?_; refine lA ?_; refine R1 ?_; rotate_left))

        (repeat first | refine G1 ?_ | refine G2 ?_ | refine G3 ?_ | refine G4 ?_ | refine G5 rfl ?_ | refine G6 rfl ?_ | refine G7 rfl ?_)
        (refine Run.ret1 Tryd.results74 (by rfl) ?_)
        refine Ent.hex s (Ent.flat (Ent.pu rfl ?_))
        rw [comp_id xs fun i h1 h2 => k3 i h1 (by omega)]
        exact Ent.refl _
theorem isNaN_ct (ρ : Frag) (x : Int) : Ct Tryd.prog 89 [int x] ρ [] (fun r => [pu (r = .bool false)]) := by
  (refine Ct.of_run Tryd.func89 rfl Tryd.ntmps89 rfl (Nat.le_of_ble_eq_true rfl) ?_)
  (repeat first | refine G1 ?_ | refine G2 ?_ | refine G3 ?_ | refine G4 ?_ | refine G5 rfl ?_ | refine G6 rfl ?_ | refine G7 rfl ?_)
  (focus (refine R0 ?_; refine lA ?_; refine R1 ?_; rotate_left))

  (repeat first | refine G1 ?_ | refine G2 ?_ | refine G3 ?_ | refine G4 ?_ | refine G5 rfl ?_ | refine G6 rfl ?_ | refine G7 rfl ?_)
  (focus (refine R0 ?_; refine lM ?_; refine lM ?_; refine lv (by exact Yne) ?_; refine lA ?_; refine R1 ?_; rotate_left))

  (repeat first | refine G1 ?_ | refine G2 ?_ | refine G3 ?_ | refine G4 ?_ | refine G5 rfl ?_ | refine G6 rfl ?_ | refine G7 rfl ?_)
  (refine Run.ret1 Tryd.results89 (by rfl) ?_)
  (focus ((repeat first | refine E1 ?_ ?_ | refine E2 ?_ | refine E3 ?_ | refine E4 ?_ | refine E5 ?_ | refine E6 ?_ | refine E7 ?_ | refine E8 ?_); exact E9; all_goals try first | rfl | assumption | omega))
  simp
def cmpI (x y : Int) : Int := if x < y then -1 else if y < x then 1 else 0
theorem compare_ct (ρ : Frag) (x y : Int) : Ct Tryd.prog 78 [int x, int y] ρ [] (fun r => [pu (r = int (cmpI x y))]) := by
  (refine Ct.of_run Tryd.func78 rfl Tryd.ntmps78 rfl (Nat.le_of_ble_eq_true rfl) ?_)
  (repeat first | refine G1 ?_ | refine G2 ?_ | refine G3 ?_ | refine G4 ?_ | refine G5 rfl ?_ | refine G6 rfl ?_ | refine G7 rfl ?_)
  (focus (refine R0 ?_; refine lA ?_; refine R1 ?_; rotate_left))

  (repeat first | refine G1 ?_ | refine G2 ?_ | refine G3 ?_ | refine G4 ?_ | refine G5 rfl ?_ | refine G6 rfl ?_ | refine G7 rfl ?_)
  (focus (refine R0 ?_; refine lM ?_; refine lc [] rfl rfl (fun _ hle hA => isNaN_ct _ x) ?_; intro v8; (try dsimp only [List.cons_append, List.nil_append, List.append_nil]); (repeat (refine RunL.unpu fun h8 => ?_; try subst h8)); refine lA ?_; refine R1 ?_; rotate_left))

  (repeat first | refine G1 ?_ | refine G2 ?_ | refine G3 ?_ | refine G4 ?_ | refine G5 rfl ?_ | refine G6 rfl ?_ | refine G7 rfl ?_)
  (focus (refine R0 ?_; refine lM ?_; refine lc [] rfl rfl (fun _ hle hA => isNaN_ct _ y) ?_; intro v10; (try dsimp only [List.cons_append, List.nil_append, List.append_nil]); (repeat (refine RunL.unpu fun h10 => ?_; try subst h10)); refine lA ?_; refine R1 ?_; rotate_left))

  (repeat first | refine G1 ?_ | refine G2 ?_ | refine G3 ?_ | refine G4 ?_ | refine G5 rfl ?_ | refine G6 rfl ?_ | refine G7 rfl ?_)
  (focus (refine R0 ?_; refine lM ?_; refine R1 ?_; rotate_left))

  (repeat first | refine G1 ?_ | refine G2 ?_ | refine G3 ?_ | refine G4 ?_ | refine G5 rfl ?_ | refine G6 rfl ?_ | refine G7 rfl ?_)
  (repeat first | refine G1 ?_ | refine G2 ?_ | refine G3 ?_ | refine G4 ?_ | refine G5 rfl ?_ | refine G6 rfl ?_ | refine G7 rfl ?_)
  (focus (refine R0 ?_; refine lM ?_; refine R1 ?_; rotate_left))

  (repeat first | refine G1 ?_ | refine G2 ?_ | refine G3 ?_ | refine G4 ?_ | refine G5 rfl ?_ | refine G6 rfl ?_ | refine G7 rfl ?_)
  (repeat first | refine G1 ?_ | refine G2 ?_ | refine G3 ?_ | refine G4 ?_ | refine G5 rfl ?_ | refine G6 rfl ?_ | refine G7 rfl ?_)
  (focus (refine R0 ?_; refine lM ?_; refine lM ?_; refine lv (by exact Ylt) ?_; refine R1 ?_; rotate_left))

  (repeat first | refine G1 ?_ | refine G2 ?_ | refine G3 ?_ | refine G4 ?_ | refine G5 rfl ?_ | refine G6 rfl ?_ | refine G7 rfl ?_)
  refine Run.condP rfl (fun c => ?_) (fun c => ?_)
  · (repeat first | refine G1 ?_ | refine G2 ?_ | refine G3 ?_ | refine G4 ?_ | refine G5 rfl ?_ | refine G6 rfl ?_ | refine G7 rfl ?_)
    (focus (refine R0 ?_; refine lA ?_; refine R1 ?_; rotate_left))

    (repeat first | refine G1 ?_ | refine G2 ?_ | refine G3 ?_ | refine G4 ?_ | refine G5 rfl ?_ | refine G6 rfl ?_ | refine G7 rfl ?_)
    (refine Run.ret1 Tryd.results78 (by rfl) ?_)
    (focus ((repeat first | refine E1 ?_ ?_ | refine E2 ?_ | refine E3 ?_ | refine E4 ?_ | refine E5 ?_ | refine E6 ?_ | refine E7 ?_ | refine E8 ?_); exact E9; all_goals try first | rfl | assumption | omega))
    simp [cmpI, c]
  · (repeat first | refine G1 ?_ | refine G2 ?_ | refine G3 ?_ | refine G4 ?_ | refine G5 rfl ?_ | refine G6 rfl ?_ | refine G7 rfl ?_)
    (focus (refine R0 ?_; refine lM ?_; refine lM ?_; refine lv (by exact Ygt) ?_; refine R1 ?_; rotate_left))

    (repeat first | refine G1 ?_ | refine G2 ?_ | refine G3 ?_ | refine G4 ?_ | refine G5 rfl ?_ | refine G6 rfl ?_ | refine G7 rfl ?_)
    refine Run.condP rfl (fun c2 => ?_) (fun c2 => ?_)
    · (repeat first | refine G1 ?_ | refine G2 ?_ | refine G3 ?_ | refine G4 ?_ | refine G5 rfl ?_ | refine G6 rfl ?_ | refine G7 rfl ?_)
      (focus (refine R0 ?_; refine lA ?_; refine R1 ?_; rotate_left))

      (repeat first | refine G1 ?_ | refine G2 ?_ | refine G3 ?_ | refine G4 ?_ | refine G5 rfl ?_ | refine G6 rfl ?_ | refine G7 rfl ?_)
      (refine Run.ret1 Tryd.results78 (by rfl) ?_)
      (focus ((repeat first | refine E1 ?_ ?_ | refine E2 ?_ | refine E3 ?_ | refine E4 ?_ | refine E5 ?_ | refine E6 ?_ | refine E7 ?_ | refine E8 ?_); exact E9; all_goals try first | rfl | assumption | omega))
      simp [cmpI, c, c2]
    · (repeat first | refine G1 ?_ | refine G2 ?_ | refine G3 ?_ | refine G4 ?_ | refine G5 rfl ?_ | refine G6 rfl ?_ | refine G7 rfl ?_)
      (focus (refine R0 ?_; refine lA ?_; refine R1 ?_; rotate_left))

      (repeat first | refine G1 ?_ | refine G2 ?_ | refine G3 ?_ | refine G4 ?_ | refine G5 rfl ?_ | refine G6 rfl ?_ | refine G7 rfl ?_)
      (refine Run.ret1 Tryd.results78 (by rfl) ?_)
      (focus ((repeat first | refine E1 ?_ ?_ | refine E2 ?_ | refine E3 ?_ | refine E4 ?_ | refine E5 ?_ | refine E6 ?_ | refine E7 ?_ | refine E8 ?_); exact E9; all_goals try first | rfl | assumption | omega))
      simp [cmpI, c, c2]
theorem or_ct (ρ : Frag) (s : SV) (x y : Int) (hR : In (RArr KInt s.v [x, y]) ρ) : Ct Tryd.prog 77 [s.v] ρ [] (fun r => [pu (r = int (if x = 0 then y else x))]) := by
  (refine Ct.of_run Tryd.func77 rfl Tryd.ntmps77 rfl (Nat.le_of_ble_eq_true rfl) ?_)
  (repeat first | refine G1 ?_ | refine G2 ?_ | refine G3 ?_ | refine G4 ?_ | refine G5 rfl ?_ | refine G6 rfl ?_ | refine G7 rfl ?_)
  (focus (refine R0 ?_; refine lA ?_; refine R1 ?_; rotate_left))

  (repeat first | refine G1 ?_ | refine G2 ?_ | refine G3 ?_ | refine G4 ?_ | refine G5 rfl ?_ | refine G6 rfl ?_ | refine G7 rfl ?_)
  (focus (refine R0 ?_; refine lA ?_; refine R1 ?_; rotate_left))

  (repeat first | refine G1 ?_ | refine G2 ?_ | refine G3 ?_ | refine G4 ?_ | refine G5 rfl ?_ | refine G6 rfl ?_ | refine G7 rfl ?_)
  (focus (refine R0 ?_; refine lM ?_; refine lE ?_; refine lM ?_; refine R1 ?_; rotate_left))

  (repeat first | refine G1 ?_ | refine G2 ?_ | refine G3 ?_ | refine G4 ?_ | refine G5 rfl ?_ | refine G6 rfl ?_ | refine G7 rfl ?_)
  refine Run.loopI (X := Int) (fun i => [(3, int 0), (6, s.v), (7, int ([x, y] : List Int).length), (8, int i)]) (fun i => [pu (0 ≤ i ∧ i ≤ 2 ∧ (1 ≤ i → x = 0) ∧ (2 ≤ i → y = 0))]) (fun i => (2 - i).toNat) 0 (by (repeat (first | exact Sub.nil _ | refine Sub.cons rfl ?_))) ?_ ?_
  · (focus ((repeat first | refine E1 ?_ ?_ | refine E2 ?_ | refine E3 ?_ | refine E4 ?_ | refine E5 ?_ | refine E6 ?_ | refine E7 ?_ | refine E8 ?_); exact E9; all_goals try first | rfl | assumption | omega))
  · intro i ih
    refine Run.unpu fun hi => ?_
    obtain ⟨i0, i1, i2, i3⟩ := hi
    have hlen : ([x, y] : List Int).length = 2 := rfl
    (repeat first | refine G1 ?_ | refine G2 ?_ | refine G3 ?_ | refine G4 ?_ | refine G5 rfl ?_ | refine G6 rfl ?_ | refine G7 rfl ?_)
    (focus (refine R0 ?_; refine lv (by exact Ylt) ?_; refine R1 ?_; rotate_left))

    (repeat first | refine G1 ?_ | refine G2 ?_ | refine G3 ?_ | refine G4 ?_ | refine G5 rfl ?_ | refine G6 rfl ?_ | refine G7 rfl ?_)
    refine Run.condP rfl (fun c => ?_) (fun c => ?_)
    · rw [hlen] at c
      have hcase : i = 0 ∨ i = 1 := by omega
      (repeat first | refine G1 ?_ | refine G2 ?_ | refine G3 ?_ | refine G4 ?_ | refine G5 rfl ?_ | refine G6 rfl ?_ | refine G7 rfl ?_)
      (focus (refine R0 ?_; refine lX ?_; refine lL ?_; refine lA ?_; refine R1 ?_; rotate_left))

      (repeat first | refine G1 ?_ | refine G2 ?_ | refine G3 ?_ | refine G4 ?_ | refine G5 rfl ?_ | refine G6 rfl ?_ | refine G7 rfl ?_)
      (focus (refine R0 ?_; refine lM ?_; refine lM ?_; refine lv (by exact Yne) ?_; refine R1 ?_; rotate_left))

      (repeat first | refine G1 ?_ | refine G2 ?_ | refine G3 ?_ | refine G4 ?_ | refine G5 rfl ?_ | refine G6 rfl ?_ | refine G7 rfl ?_)
      refine Run.condP rfl (fun c2 => ?_) (fun c2 => ?_)
      · (repeat first | refine G1 ?_ | refine G2 ?_ | refine G3 ?_ | refine G4 ?_ | refine G5 rfl ?_ | refine G6 rfl ?_ | refine G7 rfl ?_)
        (focus (refine R0 ?_; refine lM ?_; refine lA ?_; refine R1 ?_; rotate_left))

        (repeat first | refine G1 ?_ | refine G2 ?_ | refine G3 ?_ | refine G4 ?_ | refine G5 rfl ?_ | refine G6 rfl ?_ | refine G7 rfl ?_)
        (refine Run.ret1 Tryd.results77 (by rfl) ?_)
        (focus ((repeat first | refine E1 ?_ ?_ | refine E2 ?_ | refine E3 ?_ | refine E4 ?_ | refine E5 ?_ | refine E6 ?_ | refine E7 ?_ | refine E8 ?_); exact E9; all_goals try first | rfl | assumption | omega))
        rcases hcase with rfl | rfl
        · have e : rd [x, y] 0 = x := rfl
          rw [e] at c2 ⊢
          simp [c2]
        · have e : rd [x, y] 1 = y := rfl
          rw [e, if_pos (i2 (by omega))]
      · (repeat first | refine G1 ?_ | refine G2 ?_ | refine G3 ?_ | refine G4 ?_ | refine G5 rfl ?_ | refine G6 rfl ?_ | refine G7 rfl ?_)
        (focus (refine R0 ?_; refine lv (by exact Yad) ?_; refine lM ?_; refine R1 ?_; rotate_left))

        (repeat first | refine G1 ?_ | refine G2 ?_ | refine G3 ?_ | refine G4 ?_ | refine G5 rfl ?_ | refine G6 rfl ?_ | refine G7 rfl ?_)
        refine Run.weaken (by (repeat (first | exact Sub.nil _ | refine Sub.cons rfl ?_))) ?_ (ih (i + 1) (by omega))
        (focus ((repeat first | refine E1 ?_ ?_ | refine E2 ?_ | refine E3 ?_ | refine E4 ?_ | refine E5 ?_ | refine E6 ?_ | refine E7 ?_ | refine E8 ?_); exact E9; all_goals try first | rfl | assumption | omega))
        have c3 : rd [x, y] i = 0 := Decidable.not_not.1 c2
        refine ⟨by omega, by omega, fun _ => ?_, fun h => ?_⟩
        · rcases hcase with rfl | rfl
          · exact c3
          · exact i2 (by omega)
        · rcases hcase with rfl | rfl
          · omega
          · exact c3
    · rw [hlen] at c
      (repeat first | refine G1 ?_ | refine G2 ?_ | refine G3 ?_ | refine G4 ?_ | refine G5 rfl ?_ | refine G6 rfl ?_ | refine G7 rfl ?_)
      (focus (refine R0 ?_; refine lM ?_; refine lA ?_; refine R1 ?_; rotate_left))

      (repeat first | refine G1 ?_ | refine G2 ?_ | refine G3 ?_ | refine G4 ?_ | refine G5 rfl ?_ | refine G6 rfl ?_ | refine G7 rfl ?_)
      (refine Run.ret1 Tryd.results77 (by rfl) ?_)
      (focus ((repeat first | refine E1 ?_ ?_ | refine E2 ?_ | refine E3 ?_ | refine E4 ?_ | refine E5 ?_ | refine E6 ?_ | refine E7 ?_ | refine E8 ?_); exact E9; all_goals try first | rfl | assumption | omega))
      rw [if_pos (i2 (by omega)), i3 (by omega)]
end Go.Proofs.YtfldnnpcdjabnaaDoor
