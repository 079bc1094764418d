/-
  The package heap, as far as the statements that ask nothing reach it: each function by its contract.
-/
import Derived.Test.YtfldnnpcdjabnaaDoorWalk
set_option linter.unusedVariables false
set_option linter.unusedSimpArgs false
namespace Go.Proofs.YtfldnnpcdjabnaaDoor
open Go
abbrev ptr (b : Nat) : Value := .pointer (some ⟨b, 0, none⟩)
abbrev int (n : Int) : Value := .int .i64 n

structure HeapS where
  score : List Int
  place : List Int
  h : List Int
abbrev HeapF (b : Nat) (s : HeapS) (v1 v2 v3 : SV) : List HP := [Cells b 90 [v1.v, v2.v, v3.v], Arr KInt v1.v s.score, Arr KInt v2.v s.place, Arr KInt v3.v s.h]
/-- Places and the heap tell the same. -/
structure Fair (n : Nat) (place h : List Int) : Prop where
  len : place.length = n
  valid : ∀ k : Int, 0 ≤ k → k < h.length → 0 < rd h k ∧ rd h k < n ∧ rd place (rd h k) = k + 1
  placed : ∀ v : Int, 0 ≤ v → v < n → 0 ≤ rd place v ∧ (0 < rd place v → rd place v ≤ h.length ∧ rd h (rd place v - 1) = v)
/-- A heap of n places, in which are the variables of I. -/
structure HeapOk (s : HeapS) (n : Nat) (I : Int → Prop) : Prop where
  pos : 0 < n
  len : s.score.length = n
  fair : Fair n s.place s.h
  mem : ∀ v : Int, 0 ≤ v → v < n → (I v ↔ 0 < rd s.place v)
  low : ∀ v : Int, 0 ≤ v → v < n → 0 ≤ rd s.score v ∧ rd s.score v ≤ 1099511627776
def HeapA (b : Nat) (n : Nat) (I : Int → Prop) : HP := hex fun s => hex fun v1 => hex fun v2 => hex fun v3 => stars (pu (HeapOk s n I) :: HeapF b s v1 v2 v3)

theorem HeapA.ent {b n : Nat} {I J : Int → Prop} {L M : List HP} (h : ∀ x : Int, 0 ≤ x → x < n → (I x ↔ J x)) (r : Ent L (HeapA b n I :: M)) : Ent L (HeapA b n J :: M) :=
  Ent.pre (fun g ⟨s, v1, v2, v3, hh⟩ => ⟨s, v1, v2, v3, by
    obtain ⟨h1, h2, d, rfl, ⟨ok, e⟩, hb⟩ := hh
    exact ⟨h1, h2, d, rfl, ⟨⟨ok.pos, ok.len, ok.fair, fun x hx hx' => (h x hx hx').symm.trans (ok.mem x hx hx'), ok.low⟩, e⟩, hb⟩⟩) r
attribute [local irreducible] Yields Does Run RunL AnyL Ct Reads Peek PeekN Poke Pick Fits Sub Ent Still Arr RArr Cells el stars In
def aheadB (s : HeapS) (a b : Int) : Bool := decide (rd s.score b < rd s.score a) || (decide (rd s.score a = rd s.score b) && decide (a < b))
theorem ahead_ct (ρ : Frag) (b : Nat) (s : HeapS) (v1 v2 v3 : SV) (x y : Int) (hR : In (stars (HeapF b s v1 v2 v3)) ρ) (hx : 0 ≤ x) (hx' : x < s.score.length) (hy : 0 ≤ y) (hy' : y < s.score.length) :
    Ct Tryd.prog 69 [ptr b, int x, int y] ρ [] (fun r => [pu (r = .bool (aheadB s x y))]) := by
  obtain ⟨hC, hR⟩ := hR.stars_cons
  obtain ⟨h1, _⟩ := hR.stars_cons
  (refine Ct.of_run Tryd.func69 rfl Tryd.ntmps69 rfl (Nat.le_of_ble_eq_true rfl) ?_)
  (repeat first | refine G1 ?_ | refine G2 ?_ | refine G3 ?_ | refine G4 ?_ | refine G5 rfl ?_ | refine G6 rfl ?_ | refine G7 rfl ?_)
  (focus (refine R0 ?_; refine lA ?_; refine R1 ?_; rotate_left))

  (repeat first | refine G1 ?_ | refine G2 ?_ | refine G3 ?_ | refine G4 ?_ | refine G5 rfl ?_ | refine G6 rfl ?_ | refine G7 rfl ?_)
  (focus (refine Run.planS mixed (.take 0 (.take 1 (.take 2 (.take 3 (.take 4 (.take 5 (.take 6 (.take 7 (.take 8 (.take 9 (.take 10 (.take 11 (.take 12 (.take 13 (.take 14 (.take 15 (.take 16 (.take 17 (.take 18 (.take 19 (.take 20 (.take 21 (.take 22 (.take 23 (.take 24 (.take 25 (.take 26 (.take 27 (.take 28 (.take 29 (.take 30 (.take 31 (.take 32 (.take 33 (.take 34 (.take 35 (.take 36 (.take 37 (.done))))))))))))))))))))))))))))))))))))))) [(some 7, [0], []), (some 8, [7], [0]), (some 9, [8], [1]), (some 10, [9], [2]), (some 11, [1], []), (some 12, [10, 11], [3, 4]), (some 13, [12], [5]), (some 14, [0], []), (some 15, [14], [7]), (some 16, [15], [8]), (some 17, [16], [9]), (some 18, [2], []), (some 19, [17, 18], [10, 11]), (some 20, [19], [12]), (some 21, [13, 20], [6, 13]), (some 22, [21], [14]), (some 23, [0, 22], [15]), (some 24, [23, 22], [16, 15]), (some 25, [24, 22], [17, 15]), (some 26, [25, 22], [18, 15]), (some 27, [1, 22], [15]), (some 28, [26, 27, 22], [19, 20, 15]), (some 29, [28, 22], [21, 15]), (some 30, [0, 22], [15]), (some 31, [30, 22], [23, 15]), (some 32, [31, 22], [24, 15]), (some 33, [32, 22], [25, 15]), (some 34, [2, 22], [15]), (some 35, [33, 34, 22], [26, 27, 15]), (some 36, [35, 22], [28, 15]), (some 37, [29, 36, 22], [22, 29, 15]), (some 38, [37, 22], [30, 15, 15]), (some 39, [1, 38], [31]), (some 40, [2, 38], [31]), (some 41, [39, 40, 38], [32, 33, 31]), (some 42, [38, 41, 22], [31, 34, 15]), (some 43, [22, 42], [15, 35]), (some 6, [43], [36, 31, 0, 1, 2, 3, 4, 5, 6, 7, 8, 9, 10, 11, 12, 13, 14, 15, 16, 17, 18, 19, 20, 21, 22, 23, 24, 25, 26, 27, 28, 29, 30, 31, 32, 33, 34, 35, 36])] (by kernel_rfl) (by kernel_rfl) (by kernel_rfl) ?_; refine dM rfl ?_; refine dN rfl ?_; refine dG rfl ?_; refine dL rfl ?_; refine dM rfl ?_; refine dX rfl ?_; refine dL rfl ?_; refine dM rfl ?_; refine dN rfl ?_; refine dG rfl ?_; refine dL rfl ?_; refine dM rfl ?_; refine dX rfl ?_; refine dL rfl ?_; refine dv rfl (by exact Ygt) ?_; refine dM rfl ?_; (first | refine RunD.knownP (t := 22) rfl (fun c22 => ?_) (fun c22 => ?_) | refine RunD.known (t := 22) rfl (fun c22 => ?_) (fun c22 => ?_)); refine dF rfl ?_; refine dF rfl ?_; refine dF rfl ?_; refine dF rfl ?_; refine dF rfl ?_; refine dF rfl ?_; refine dF rfl ?_; refine dF rfl ?_; refine dF rfl ?_; refine dF rfl ?_; refine dF rfl ?_; refine dF rfl ?_; refine dF rfl ?_; refine dF rfl ?_; refine dF rfl ?_; refine dF rfl ?_; refine dF rfl ?_; refine dF rfl ?_; refine dF rfl ?_; refine dF rfl ?_; refine dv rfl (by first | exact YpT | exact YpF | exact Yields.pickB rfl rfl rfl) ?_; refine dA rfl ?_; refine R2 ?_; rotate_left; refine dT rfl (by exact Ymv) ?_; refine dT rfl (by exact Ync) ?_; refine dT rfl (by first | exact YfB | exact YfE) ?_; refine dT rfl (by first | exact YlC | exact YlE) ?_; refine dT rfl (by exact Ymv) ?_; refine dT rfl (by exact Yix) ?_; refine dT rfl (by first | exact YlC | exact YlE) ?_; refine dT rfl (by exact Ymv) ?_; refine dT rfl (by exact Ync) ?_; refine dT rfl (by first | exact YfB | exact YfE) ?_; refine dT rfl (by first | exact YlC | exact YlE) ?_; refine dT rfl (by exact Ymv) ?_; refine dT rfl (by exact Yix) ?_; refine dT rfl (by first | exact YlC | exact YlE) ?_; refine dT rfl (by exact Yeq) ?_; refine dT rfl (by exact Ymv) ?_; (first | refine RunD.knownP (t := 38) rfl (fun c38 => ?_) (fun c38 => ?_) | refine RunD.known (t := 38) rfl (fun c38 => ?_) (fun c38 => ?_)); refine dT rfl (by exact Ymv) ?_; refine dT rfl (by exact Ymv) ?_; refine dT rfl (by exact Ylt) ?_; refine dT rfl (by first | exact YpT | exact YpF | exact Yields.pickB rfl rfl rfl) ?_; refine dv rfl (by first | exact YpT | exact YpF | exact Yields.pickB rfl rfl rfl) ?_; refine dA rfl ?_; refine R2 ?_; rotate_left; refine dF rfl ?_; refine dF rfl ?_; refine dF rfl ?_; refine dT rfl (by first | exact YpT | exact YpF | exact Yields.pickB rfl rfl rfl) ?_; refine dv rfl (by first | exact YpT | exact YpF | exact Yields.pickB rfl rfl rfl) ?_; refine dA rfl ?_; refine R2 ?_; rotate_left))

  (repeat first | refine G1 ?_ | refine G2 ?_ | refine G3 ?_ | refine G4 ?_ | refine G5 rfl ?_ | refine G6 rfl ?_ | refine G7 rfl ?_)
  all_goals
    (refine Run.ret1 Tryd.results69 (by rfl) ?_)
    (focus ((repeat first | refine E1 ?_ ?_ | refine E2 ?_ | refine E3 ?_ | refine E4 ?_ | refine E5 ?_ | refine E6 ?_ | refine E7 ?_ | refine E8 ?_); exact E9; all_goals try first | rfl | assumption | omega))
    simp [aheadB, *]
theorem put_ct (ρ : Frag) (b : Nat) (s : HeapS) (v1 v2 v3 : SV) (k v : Int) (hk : 0 ≤ k) (hk' : k < s.h.length) (hv : 0 ≤ v) (hv' : v < s.place.length) (hm : k < 1000000000000000) :
    Ct Tryd.prog 70 [ptr b, int k, int v] ρ (HeapF b s v1 v2 v3) (fun r => HeapF b { s with h := wr s.h k v, place := wr s.place v (k + 1) } v1 v2 v3) := by
  (refine Ct.of_run Tryd.func70 rfl Tryd.ntmps70 rfl (Nat.le_of_ble_eq_true rfl) ?_)
  (repeat first | refine G1 ?_ | refine G2 ?_ | refine G3 ?_ | refine G4 ?_ | refine G5 rfl ?_ | refine G6 rfl ?_ | refine G7 rfl ?_)
  (focus (refine R0 ?_; refine lM ?_; refine lN ?_; refine lG ?_; refine lL ?_; refine lM ?_; refine lM ?_; refine lX ?_; refine ln (by exact Dst) ?_; intro _; (try dsimp only [List.cons_append, List.nil_append, List.append_nil]); refine R1 ?_; rotate_left))

  (repeat first | refine G1 ?_ | refine G2 ?_ | refine G3 ?_ | refine G4 ?_ | refine G5 rfl ?_ | refine G6 rfl ?_ | refine G7 rfl ?_)
  (focus (refine R0 ?_; refine lM ?_; refine lN ?_; refine lG ?_; refine lL ?_; refine lM ?_; refine lM ?_; refine lv (by exact Yad) ?_; refine lX ?_; refine ln (by exact Dst) ?_; intro _; (try dsimp only [List.cons_append, List.nil_append, List.append_nil]); refine R1 ?_; rotate_left))

  (repeat first | refine G1 ?_ | refine G2 ?_ | refine G3 ?_ | refine G4 ?_ | refine G5 rfl ?_ | refine G6 rfl ?_ | refine G7 rfl ?_)
  (refine Run.fin0 Tryd.results70 ?_)
  (focus ((repeat first | refine E1 ?_ ?_ | refine E2 ?_ | refine E3 ?_ | refine E4 ?_ | refine E5 ?_ | refine E6 ?_ | refine E7 ?_ | refine E8 ?_); exact E9; all_goals try first | rfl | assumption | omega))
theorem is_ct (ρ : Frag) (b : Nat) (s : HeapS) (v1 v2 v3 : SV) (v : Int) (hR : In (stars (HeapF b s v1 v2 v3)) ρ) :
    Ct Tryd.prog 60 [ptr b, int v] ρ [] (fun r => [pu (r = .bool (decide (0 < v ∧ v < s.score.length)))]) := by
  obtain ⟨hC, hR⟩ := hR.stars_cons
  obtain ⟨h1, _⟩ := hR.stars_cons
  (refine Ct.of_run Tryd.func60 rfl Tryd.ntmps60 rfl (Nat.le_of_ble_eq_true rfl) ?_)
  (repeat first | refine G1 ?_ | refine G2 ?_ | refine G3 ?_ | refine G4 ?_ | refine G5 rfl ?_ | refine G6 rfl ?_ | refine G7 rfl ?_)
  (focus (refine R0 ?_; refine lA ?_; refine R1 ?_; rotate_left))

  (repeat first | refine G1 ?_ | refine G2 ?_ | refine G3 ?_ | refine G4 ?_ | refine G5 rfl ?_ | refine G6 rfl ?_ | refine G7 rfl ?_)
  (focus (refine R0 ?_; refine lM ?_; refine lv (by exact Ygt) ?_; refine lM ?_; (first | refine RunL.knownP (t := 7) rfl (fun c7 => ?_) (fun c7 => ?_) | refine RunL.known (t := 7) rfl (fun c7 => ?_) (fun c7 => ?_)); refine lT ?_; refine lM ?_; refine lT ?_; refine lM ?_; refine lT ?_; refine lN ?_; refine lT ?_; refine lG ?_; refine lT ?_; refine lL ?_; refine lT ?_; refine lE ?_; refine lT ?_; refine lv (by exact Ylt) ?_; refine lv (by first | exact YpT | exact YpF | exact Yields.pickB rfl rfl rfl) ?_; refine lA ?_; refine R1 ?_; rotate_left; refine lF ?_; refine lF ?_; refine lF ?_; refine lF ?_; refine lF ?_; refine lF ?_; refine lF ?_; refine lv (by first | exact YpT | exact YpF | exact Yields.pickB rfl rfl rfl) ?_; refine lA ?_; refine R1 ?_; rotate_left))

  (repeat first | refine G1 ?_ | refine G2 ?_ | refine G3 ?_ | refine G4 ?_ | refine G5 rfl ?_ | refine G6 rfl ?_ | refine G7 rfl ?_)
  all_goals
    (refine Run.ret1 Tryd.results60 (by rfl) ?_)
    (focus ((repeat first | refine E1 ?_ ?_ | refine E2 ?_ | refine E3 ?_ | refine E4 ?_ | refine E5 ?_ | refine E6 ?_ | refine E7 ?_ | refine E8 ?_); exact E9; all_goals try first | rfl | assumption | omega))
    simp [*]

/-- v stands at k, for now. -/
abbrev HeapS.put (s : HeapS) (k v : Int) : HeapS := { s with h := wr s.h k v, place := wr s.place v (k + 1) }
theorem Fair.swap {n : Nat} {s : HeapS} {k j v : Int} (hv0 : 0 < v) (hv1 : v < n) (hk : 0 ≤ k) (hk' : k < s.h.length) (hj : 0 ≤ j) (hj' : j < s.h.length) (hne : j ≠ k)
    (f : Fair n (s.put k v).place (s.put k v).h) : Fair n ((s.put k (rd s.h j)).put j v).place ((s.put k (rd s.h j)).put j v).h ∧ 0 < rd s.h j ∧ rd s.h j < n ∧ s.place.length = n ∧
      ∀ x : Int, 0 ≤ x → x < n → (0 < rd ((s.put k (rd s.h j)).put j v).place x ↔ 0 < rd (s.put k v).place x) := by
  have hl : s.place.length = n := by have := f.len; simpa [HeapS.put, length_wr] using this
  have hu := f.valid j hj (by simpa [HeapS.put, length_wr] using hj')
  simp only [HeapS.put] at hu
  rw [rd_wr_ne _ _ _ _ hk hj (Ne.symm hne)] at hu
  generalize hu' : rd s.h j = u at *
  have hvk := f.valid k hk (by simpa [HeapS.put, length_wr] using hk')
  simp only [HeapS.put] at hvk
  rw [rd_wr_eq _ _ _ hk hk'] at hvk
  have huv : u ≠ v := by
    intro e
    subst e
    have h1 := hu.2.2
    have h2 := hvk.2.2
    omega
  have hl1 : ((wr s.place u (k + 1)).length : Int) = n := by rw [length_wr, hl]
  refine ⟨⟨by simp [HeapS.put, length_wr, hl], fun i hi hi' => ?_, fun x hx hx' => ?_⟩, hu.1, hu.2.1, hl, fun x hx hx' => ?_⟩
  · simp only [HeapS.put, length_wr] at hi' ⊢
    have hf := f.valid i hi (by simpa [HeapS.put, length_wr] using hi')
    simp only [HeapS.put] at hf
    by_cases e1 : i = j
    · subst e1
      rw [rd_wr_eq _ _ _ hi (by simpa [length_wr] using hi'), rd_wr_eq _ _ _ (by omega) (by omega)]
      exact ⟨hv0, hv1, rfl⟩
    · rw [rd_wr_ne _ _ _ _ hj hi (Ne.symm e1)]
      by_cases e2 : i = k
      · subst e2
        rw [rd_wr_eq _ _ _ hi hi', rd_wr_ne _ _ _ _ (by omega) (by omega) (Ne.symm huv), rd_wr_eq _ _ _ (by omega) (by omega)]
        exact ⟨hu.1, hu.2.1, rfl⟩
      · rw [rd_wr_ne _ _ _ _ hk hi (Ne.symm e2)] at hf ⊢
        have e3 : rd s.h i ≠ v := by
          intro e; rw [e] at hf; have := hf.2.2; rw [hvk.2.2] at this; omega
        have e4 : rd s.h i ≠ u := by
          intro e; rw [e] at hf; have := hf.2.2; rw [hu.2.2] at this; omega
        rw [rd_wr_ne _ _ _ _ (by omega) (by omega) (Ne.symm e3)] at hf ⊢
        rw [rd_wr_ne _ _ _ _ (by omega) (by omega) (Ne.symm e4)]
        exact hf
  · simp only [HeapS.put, length_wr]
    have hf := f.placed x hx hx'
    simp only [HeapS.put, length_wr] at hf
    by_cases e1 : x = v
    · subst e1
      rw [rd_wr_eq _ _ _ hx (by omega)]
      refine ⟨by omega, fun _ => ⟨by omega, ?_⟩⟩
      rw [show j + 1 - 1 = j by omega, rd_wr_eq _ _ _ hj (by rw [length_wr]; omega)]
    · rw [rd_wr_ne _ _ _ _ (by omega) hx (Ne.symm e1)] at hf ⊢
      by_cases e2 : x = u
      · subst e2
        rw [rd_wr_eq _ _ _ hx (by omega)]
        refine ⟨by omega, fun _ => ⟨by omega, ?_⟩⟩
        rw [show k + 1 - 1 = k by omega, rd_wr_ne _ _ _ _ hj hk hne, rd_wr_eq _ _ _ hk hk']
      · rw [rd_wr_ne _ _ _ _ (by omega) hx (Ne.symm e2)]
        refine ⟨hf.1, fun hp => ?_⟩
        obtain ⟨h1, h2⟩ := hf.2 hp
        refine ⟨h1, ?_⟩
        have hk2 : rd s.place x - 1 ≠ k := by
          intro e; rw [e, rd_wr_eq _ _ _ hk hk'] at h2; exact e1 h2.symm
        have hj2 : rd s.place x - 1 ≠ j := by
          intro e; rw [e, rd_wr_ne _ _ _ _ hk hj (Ne.symm hne), hu'] at h2; exact e2 h2.symm
        rw [rd_wr_ne _ _ _ _ hk (by omega) (Ne.symm hk2)] at h2
        rw [rd_wr_ne _ _ _ _ hj (by omega) (Ne.symm hj2), rd_wr_ne _ _ _ _ hk (by omega) (Ne.symm hk2)]
        exact h2
  · simp only [HeapS.put]
    by_cases e1 : x = v
    · subst e1
      rw [rd_wr_eq _ _ _ hx (by omega), rd_wr_eq _ _ _ hx (by omega)]; omega
    · rw [rd_wr_ne _ _ _ _ (by omega) hx (Ne.symm e1), rd_wr_ne _ _ _ _ (by omega) hx (Ne.symm e1)]
      by_cases e2 : x = u
      · subst e2
        rw [rd_wr_eq _ _ _ hx (by omega)]
        have h3 := hu.2.2
        rw [rd_wr_ne _ _ _ _ (by omega) hx (Ne.symm e1)] at h3
        omega
      · rw [rd_wr_ne _ _ _ _ (by omega) hx (Ne.symm e2)]

structure UpTo (n : Nat) (s s' : HeapS) : Prop where
  score : s'.score = s.score
  len : s'.h.length = s.h.length
  fair : Fair n s'.place s'.h
  same : ∀ x : Int, 0 ≤ x → x < n → (0 < rd s'.place x ↔ 0 < rd s.place x)
structure UpInv (n : Nat) (s : HeapS) (v k : Int) (s' : HeapS) : Prop where
  score : s'.score = s.score
  len : s'.h.length = s.h.length
  plen : s'.place.length = n
  k0 : 0 ≤ k
  k1 : k < s.h.length
  fair : Fair n (s'.put k v).place (s'.put k v).h
  same : ∀ x : Int, 0 ≤ x → x < n → (0 < rd (s'.put k v).place x ↔ 0 < rd s.place x)
theorem put_self {n : Nat} {s : HeapS} {k : Int} (f : Fair n s.place s.h) (hk : 0 ≤ k) (hk' : k < s.h.length) : s.put k (rd s.h k) = s := by
  obtain ⟨h1, h2, h3⟩ := f.valid k hk hk'
  have : k + 1 = rd s.place (rd s.h k) := h3.symm
  simp only [HeapS.put, wr_rd _ _ hk hk']
  rw [this, wr_rd _ _ (by omega) (by rw [f.len]; omega)]
theorem up_ct (ρ : Frag) (b : Nat) (s : HeapS) (v1 v2 v3 : SV) (k v : Int) (n : Nat) (hgv : rd s.h k = v) (f : Fair n (s.put k v).place (s.put k v).h) (hs : s.score.length = n) (hk : 0 ≤ k) (hk' : k < s.h.length) :
    Ct Tryd.prog 61 [ptr b, int k] ρ (HeapF b s v1 v2 v3) (fun r => [hex fun s' => stars (pu (UpTo n (s.put k v) s') :: HeapF b s' v1 v2 v3)]) := by
  have hv : 0 < v ∧ v < n := by
    have := f.valid k hk (by simpa [HeapS.put, length_wr] using hk')
    simp only [HeapS.put] at this
    rw [rd_wr_eq _ _ _ hk hk'] at this
    exact ⟨this.1, this.2.1⟩
  (refine Ct.of_run Tryd.func61 rfl Tryd.ntmps61 rfl (Nat.le_of_ble_eq_true rfl) ?_)
  refine Run.short (K := KInt) (xs := s.h) (by (first | exact Reads.rhoArr (by assumption) | exact Reads.arr (by (repeat (first | with_reducible exact Pick.here | with_reducible apply Pick.there))) | exact Reads.rho (by assumption))) fun hshort => ?_
  (repeat first | refine G1 ?_ | refine G2 ?_ | refine G3 ?_ | refine G4 ?_ | refine G5 rfl ?_ | refine G6 rfl ?_ | refine G7 rfl ?_)
  (focus (refine R0 ?_; refine lM ?_; refine lN ?_; refine lG ?_; refine lL ?_; refine lM ?_; refine lX ?_; refine lL ?_; refine lA ?_; refine R1 ?_; rotate_left))

  (repeat first | refine G1 ?_ | refine G2 ?_ | refine G3 ?_ | refine G4 ?_ | refine G5 rfl ?_ | refine G6 rfl ?_ | refine G7 rfl ?_)
  rw [hgv]
  refine Run.loopI (X := Int × HeapS) (fun x => [(0, ptr b), (1, int x.1), (4, int v)]) (fun x => pu (UpInv n (s.put k v) v x.1 x.2) :: HeapF b x.2 v1 v2 v3) (fun x => x.1.toNat) (k, s) (Sub.cons rfl (Sub.cons rfl (Sub.cons rfl (Sub.nil _)))) ?_ ?_
  · (focus ((repeat first | refine E1 ?_ ?_ | refine E2 ?_ | refine E3 ?_ | refine E4 ?_ | refine E5 ?_ | refine E6 ?_ | refine E7 ?_ | refine E8 ?_); exact E9; all_goals try first | rfl | assumption | omega))
    exact ⟨rfl, by simp [length_wr], by have := f.len; simpa [length_wr] using this, hk, by simpa [length_wr] using hk', f, fun _ _ _ => Iff.rfl⟩
  · rintro ⟨k', s'⟩ ih
    refine Run.unpu fun inv => ?_
    have inv : UpInv n (s.put k v) v k' s' := inv
    have h0 := inv.k0
    have h1 := inv.k1
    have h2 : s'.h.length = s.h.length := by have := inv.len; simpa [length_wr] using this
    have h1 : k' < s.h.length := by simpa [length_wr] using h1
    have h3 : s'.score.length = n := by rw [inv.score]; exact hs
    have h4 := inv.plen
    have sw : 0 < k' → _ := fun hk => Fair.swap (j := (k' - 1) / 2) hv.1 hv.2 h0 (by omega) (by omega) (by omega) (by omega) inv.fair
    dsimp only
    (repeat first | refine G1 ?_ | refine G2 ?_ | refine G3 ?_ | refine G4 ?_ | refine G5 rfl ?_ | refine G6 rfl ?_ | refine G7 rfl ?_)
    (focus (refine R0 ?_; refine lM ?_; refine lv (by exact Ygt) ?_; refine lM ?_; (first | refine RunL.knownP (t := 14) rfl (fun c14 => ?_) (fun c14 => ?_) | refine RunL.known (t := 14) rfl (fun c14 => ?_) (fun c14 => ?_)); refine lT ?_; refine lM ?_; refine lT ?_; refine lM ?_; refine lT ?_; refine lM ?_; refine lT ?_; refine lN ?_; refine lT ?_; refine lG ?_; refine lT ?_; refine lL ?_; refine lT ?_; refine lM ?_; refine lT ?_; refine lv (by exact Ysb) ?_; refine lT ?_; refine lv (by first | exact Yqu | exact Yqt) ?_; refine lT ?_; refine lX ?_; refine lT ?_; refine lL ?_; refine lT ?_; (refine lc (HeapF b s' v1 v2 v3) rfl rfl (fun _ hle hA => ahead_ct _ b s' v1 v2 v3 v (rd s'.h ((k' - 1) / 2)) hA (by omega) (by omega) (by have := sw c14; omega) (by have := sw c14; omega)) ?_); intro v26; (try dsimp only [List.cons_append, List.nil_append, List.append_nil]); (repeat (refine RunL.unpu fun h26 => ?_; try subst h26)); refine lv (by first | exact YpT | exact YpF | exact Yields.pickB rfl rfl rfl) ?_; refine R1 ?_; rotate_left; refine lF ?_; refine lF ?_; refine lF ?_; refine lF ?_; refine lF ?_; refine lF ?_; refine lF ?_; refine lF ?_; refine lF ?_; refine lF ?_; refine lF ?_; refine lF ?_; refine lv (by first | exact YpT | exact YpF | exact Yields.pickB rfl rfl rfl) ?_; refine R1 ?_; rotate_left))

    · obtain ⟨w1, w2, w3, w4, w5⟩ := sw c14
      refine Run.cond rfl (fun c => ?_) (fun c => ?_)
      · (repeat first | refine G1 ?_ | refine G2 ?_ | refine G3 ?_ | refine G4 ?_ | refine G5 rfl ?_ | refine G6 rfl ?_ | refine G7 rfl ?_)
        (focus (refine R0 ?_; refine lM ?_; refine lM ?_; refine lM ?_; refine lN ?_; refine lG ?_; refine lL ?_; refine lM ?_; refine lv (by exact Ysb) ?_; refine lv (by first | exact Yqu | exact Yqt) ?_; refine lX ?_; refine lL ?_; refine lc [] rfl rfl (fun _ hle hA => put_ct _ b s' v1 v2 v3 k' (rd s'.h ((k' - 1) / 2)) (by omega) (by omega) (by omega) (by omega) (by omega)) ?_; intro v39; (try dsimp only [List.cons_append, List.nil_append, List.append_nil]); (repeat (refine RunL.unpu fun h39 => ?_; try subst h39)); refine R1 ?_; rotate_left))

        (repeat first | refine G1 ?_ | refine G2 ?_ | refine G3 ?_ | refine G4 ?_ | refine G5 rfl ?_ | refine G6 rfl ?_ | refine G7 rfl ?_)
        (focus (refine R0 ?_; refine lM ?_; refine lv (by exact Ysb) ?_; refine lv (by first | exact Yqu | exact Yqt) ?_; refine lA ?_; refine R1 ?_; rotate_left))

        (repeat first | refine G1 ?_ | refine G2 ?_ | refine G3 ?_ | refine G4 ?_ | refine G5 rfl ?_ | refine G6 rfl ?_ | refine G7 rfl ?_)
        refine Run.weaken ?_ ?_ (ih ((k' - 1) / 2, s'.put k' (rd s'.h ((k' - 1) / 2))) (by dsimp only; omega))
        · exact Sub.cons rfl (Sub.cons rfl (Sub.cons rfl (Sub.nil _)))
        · (focus ((repeat first | refine E1 ?_ ?_ | refine E2 ?_ | refine E3 ?_ | refine E4 ?_ | refine E5 ?_ | refine E6 ?_ | refine E7 ?_ | refine E8 ?_); exact E9; all_goals try first | rfl | assumption | omega))
          exact ⟨inv.score, by simp [HeapS.put, length_wr, h2], by simp [HeapS.put, length_wr, h4], by omega, by omega, w1, fun x hx hx' => (w5 x hx hx').trans (inv.same x hx hx')⟩
      · (repeat first | refine G1 ?_ | refine G2 ?_ | refine G3 ?_ | refine G4 ?_ | refine G5 rfl ?_ | refine G6 rfl ?_ | refine G7 rfl ?_)
        (focus (refine R0 ?_; refine lM ?_; refine lM ?_; refine lM ?_; refine lc [] rfl rfl (fun _ hle hA => put_ct _ b s' v1 v2 v3 k' v (by omega) (by omega) (by omega) (by omega) (by omega)) ?_; intro v46; (try dsimp only [List.cons_append, List.nil_append, List.append_nil]); (repeat (refine RunL.unpu fun h46 => ?_; try subst h46)); refine R1 ?_; rotate_left))

        (repeat first | refine G1 ?_ | refine G2 ?_ | refine G3 ?_ | refine G4 ?_ | refine G5 rfl ?_ | refine G6 rfl ?_ | refine G7 rfl ?_)
        (refine Run.fin0 Tryd.results61 ?_)
        refine Ent.hex (s'.put k' v) (Ent.flat ?_)
        (focus ((repeat first | refine E1 ?_ ?_ | refine E2 ?_ | refine E3 ?_ | refine E4 ?_ | refine E5 ?_ | refine E6 ?_ | refine E7 ?_ | refine E8 ?_); exact E9; all_goals try first | rfl | assumption | omega))
        exact ⟨inv.score, by simp [HeapS.put, length_wr, h2], inv.fair, inv.same⟩
    · (repeat first | refine G1 ?_ | refine G2 ?_ | refine G3 ?_ | refine G4 ?_ | refine G5 rfl ?_ | refine G6 rfl ?_ | refine G7 rfl ?_)
      (focus (refine R0 ?_; refine lM ?_; refine lM ?_; refine lM ?_; refine lc [] rfl rfl (fun _ hle hA => put_ct _ b s' v1 v2 v3 k' v (by omega) (by omega) (by omega) (by omega) (by omega)) ?_; intro v46; (try dsimp only [List.cons_append, List.nil_append, List.append_nil]); (repeat (refine RunL.unpu fun h46 => ?_; try subst h46)); refine R1 ?_; rotate_left))

      (repeat first | refine G1 ?_ | refine G2 ?_ | refine G3 ?_ | refine G4 ?_ | refine G5 rfl ?_ | refine G6 rfl ?_ | refine G7 rfl ?_)
      (refine Run.fin0 Tryd.results61 ?_)
      refine Ent.hex (s'.put k' v) (Ent.flat ?_)
      (focus ((repeat first | refine E1 ?_ ?_ | refine E2 ?_ | refine E3 ?_ | refine E4 ?_ | refine E5 ?_ | refine E6 ?_ | refine E7 ?_ | refine E8 ?_); exact E9; all_goals try first | rfl | assumption | omega))
      exact ⟨inv.score, by simp [HeapS.put, length_wr, h2], inv.fair, inv.same⟩

theorem rd_zero {n : Nat} {place : List Int} {v : Int} (h : place.length = n) (hv : n ≤ v) : rd place v = 0 := by
  have : ¬ v.toNat < place.length := by omega
  simp only [rd, List.getD]
  rw [List.getElem?_eq_none (by omega)]; rfl
/-- v is put in behind all. -/
theorem Fair.push {n : Nat} {place h : List Int} {v : Int} (f : Fair n place h) (hv : 0 < v) (hv' : v < n) (hp : rd place v = 0) : Fair n (wr place v (h.length + 1)) (h ++ [v]) := by
  have hl := f.len
  refine ⟨by rw [length_wr, hl], fun k hk hk' => ?_, fun x hx hx' => ?_⟩
  · simp only [List.length_append, List.length_cons, List.length_nil] at hk'
    by_cases e : k = h.length
    · rw [rd_app_new _ _ _ e, rd_wr_eq _ _ _ (by omega) (by omega)]
      exact ⟨hv, hv', by omega⟩
    · rw [rd_app_old _ _ _ hk (by omega)]
      have := f.valid k hk (by omega)
      have e2 : rd h k ≠ v := by intro e2; rw [e2] at this; omega
      rw [rd_wr_ne _ _ _ _ (by omega) (by omega) (Ne.symm e2)]
      exact this
  · simp only [List.length_append, List.length_cons, List.length_nil]
    by_cases e : x = v
    · subst e
      rw [rd_wr_eq _ _ _ hx (by omega)]
      refine ⟨by omega, fun _ => ⟨by omega, ?_⟩⟩
      rw [rd_app_new _ _ _ (by omega)]
    · rw [rd_wr_ne _ _ _ _ (by omega) hx (Ne.symm e)]
      have := f.placed x hx hx'
      refine ⟨this.1, fun hp => ?_⟩
      obtain ⟨h1, h2⟩ := this.2 hp
      exact ⟨by omega, by rw [rd_app_old _ _ _ (by omega) (by omega)]; exact h2⟩
theorem Fair.nodup {n : Nat} {place h : List Int} (f : Fair n place h) : h.Nodup := by
  refine List.pairwise_iff_getElem.2 fun i j hi hj hij e => ?_
  have g : ∀ (k : Nat) (hk : k < h.length), rd h (k : Int) = h[k] := fun k hk => by simp [rd, List.getD, hk]
  have a := (f.valid i (by omega) (by omega)).2.2
  have b := (f.valid j (by omega) (by omega)).2.2
  rw [g i hi, e] at a
  rw [g j hj] at b
  omega
theorem Fair.few {n : Nat} {place h : List Int} (f : Fair n place h) (hn : 0 < n) : h.length + 1 ≤ n := by
  have := pigeon (n - 1) h f.nodup fun x hx => by
    obtain ⟨k, hk, e⟩ := List.getElem_of_mem hx
    have g : rd h (k : Int) = h[k] := by simp [rd, List.getD, hk]
    have a := f.valid k (by omega) (by omega)
    rw [g, e] at a; omega
  omega
theorem push_ct (ρ : Frag) (b n : Nat) (I : Int → Prop) (v : Int) (hv : 0 < v) (hv' : v < n) :
    Ct Tryd.prog 50 [ptr b, int v] ρ [HeapA b n I] (fun r => [hex fun t : Bool => pu (r = .bool t ∧ (t = true ↔ ¬ I v)), HeapA b n (fun x => I x ∨ x = v)]) := by
  (refine Ct.of_run Tryd.func50 rfl Tryd.ntmps50 rfl (Nat.le_of_ble_eq_true rfl) ?_)
  refine Run.unhex fun s => Run.unhex fun v1 => Run.unhex fun v2 => Run.unhex fun v3 => Run.flat (Run.unpu fun ok => ?_)
  ((dsimp only [HeapF, HAppend.hAppend, Append.append, List.append, List.cons_append, List.nil_append, List.append_nil]); (try simp only [List.append_eq]))
  have hs := ok.len
  have hp := ok.fair.len
  have hm := ok.mem v (by omega) hv'
  have hpl := ok.fair.placed v (by omega) hv'
  have hfew := ok.fair.few ok.pos
  refine Run.i64 (xs := s.place) (by (first | exact Reads.rhoArr (by assumption) | exact Reads.arr (by (repeat (first | with_reducible exact Pick.here | with_reducible apply Pick.there))) | exact Reads.rho (by assumption))) fun hshort => ?_
  (repeat first | refine G1 ?_ | refine G2 ?_ | refine G3 ?_ | refine G4 ?_ | refine G5 rfl ?_ | refine G6 rfl ?_ | refine G7 rfl ?_)
  (focus (refine R0 ?_; refine lA ?_; refine R1 ?_; rotate_left))

  (repeat first | refine G1 ?_ | refine G2 ?_ | refine G3 ?_ | refine G4 ?_ | refine G5 rfl ?_ | refine G6 rfl ?_ | refine G7 rfl ?_)
  (focus (refine R0 ?_; refine lM ?_; refine lM ?_; refine lc (HeapF b s v1 v2 v3) rfl rfl (fun _ hle hA => is_ct _ b s v1 v2 v3 v hA) ?_; intro v7; (try dsimp only [List.cons_append, List.nil_append, List.append_nil]); (repeat (refine RunL.unpu fun h7 => ?_; try subst h7)); refine lv (by first | exact YnP | exact Ynt) ?_; refine lM ?_; (first | refine RunL.knownP (t := 9) rfl (fun c9 => ?_) (fun c9 => ?_) | refine RunL.known (t := 9) rfl (fun c9 => ?_) (fun c9 => ?_)); refine lF ?_; refine lF ?_; refine lF ?_; refine lF ?_; refine lF ?_; refine lF ?_; refine lF ?_; refine lF ?_; refine lv (by first | exact YpT | exact YpF | exact Yields.pickB rfl rfl rfl) ?_; refine R1 ?_; rotate_left; refine lT ?_; refine lM ?_; refine lT ?_; refine lN ?_; refine lT ?_; refine lG ?_; refine lT ?_; refine lL ?_; refine lT ?_; refine lM ?_; refine lT ?_; refine lX ?_; refine lT ?_; refine lL ?_; refine lT ?_; refine lv (by exact Ygt) ?_; refine lv (by first | exact YpT | exact YpF | exact Yields.pickB rfl rfl rfl) ?_; refine R1 ?_; rotate_left))

  (repeat first | refine G1 ?_ | refine G2 ?_ | refine G3 ?_ | refine G4 ?_ | refine G5 rfl ?_ | refine G6 rfl ?_ | refine G7 rfl ?_)
  · exact absurd ⟨hv, by omega⟩ c9
  · refine Run.condP rfl (fun c => ?_) (fun c => ?_)
    · (repeat first | refine G1 ?_ | refine G2 ?_ | refine G3 ?_ | refine G4 ?_ | refine G5 rfl ?_ | refine G6 rfl ?_ | refine G7 rfl ?_)
      (focus (refine R0 ?_; refine lA ?_; refine R1 ?_; rotate_left))

      (repeat first | refine G1 ?_ | refine G2 ?_ | refine G3 ?_ | refine G4 ?_ | refine G5 rfl ?_ | refine G6 rfl ?_ | refine G7 rfl ?_)
      (refine Run.ret1 Tryd.results50 (by rfl) ?_)
      refine Ent.hex false (Ent.pu ⟨rfl, by simp [hm, c]⟩ (Ent.hex s (Ent.hex v1 (Ent.hex v2 (Ent.hex v3 (Ent.flat ?_))))))
      (focus ((repeat first | refine E1 ?_ ?_ | refine E2 ?_ | refine E3 ?_ | refine E4 ?_ | refine E5 ?_ | refine E6 ?_ | refine E7 ?_ | refine E8 ?_); exact E9; all_goals try first | rfl | assumption | omega))
      refine ⟨ok.pos, ok.len, ok.fair, fun x hx hx' => ?_, ok.low⟩
      rw [← ok.mem x hx hx']
      refine ⟨?_, .inl⟩
      rintro (h | rfl)
      · exact h
      · exact hm.2 c
    · have hz : rd s.place v = 0 := by omega
      have fp := ok.fair.push hv hv' hz
      have fp2 : Fair n (HeapS.put { s with h := s.h ++ [v] } (((s.h ++ [v]).length : Int) - 1) v).place (HeapS.put { s with h := s.h ++ [v] } (((s.h ++ [v]).length : Int) - 1) v).h := by
        have e1 : ((s.h ++ [v]).length : Int) - 1 = s.h.length := by simp
        have e2 : wr (s.h ++ [v]) (s.h.length : Int) v = s.h ++ [v] := by simp [wr]
        simp only [HeapS.put, e1, e2]; exact fp
      (repeat first | refine G1 ?_ | refine G2 ?_ | refine G3 ?_ | refine G4 ?_ | refine G5 rfl ?_ | refine G6 rfl ?_ | refine G7 rfl ?_)
      (focus (refine R0 ?_; refine lM ?_; refine lM ?_; refine lN ?_; refine lG ?_; refine lL ?_; refine lM ?_; refine leS (by exact Db1) ?_; intro v25; (try dsimp only [List.cons_append, List.nil_append, List.append_nil]); refine leS (by exact Dap) ?_; intro v26; (try dsimp only [List.cons_append, List.nil_append, List.append_nil]); (repeat (refine RunL.unpu fun h26 => ?_; try subst h26)); refine lN ?_; refine lG ?_; refine ln (by exact Dst) ?_; intro _; (try dsimp only [List.cons_append, List.nil_append, List.append_nil]); refine R1 ?_; rotate_left))

      (repeat first | refine G1 ?_ | refine G2 ?_ | refine G3 ?_ | refine G4 ?_ | refine G5 rfl ?_ | refine G6 rfl ?_ | refine G7 rfl ?_)
      (repeat first | refine G1 ?_ | refine G2 ?_ | refine G3 ?_ | refine G4 ?_ | refine G5 rfl ?_ | refine G6 rfl ?_ | refine G7 rfl ?_)
      (focus (refine R0 ?_; refine lM ?_; refine lM ?_; refine lN ?_; refine lG ?_; refine lL ?_; refine lE ?_; refine lv (by exact Ysb) ?_; (refine lc [] rfl rfl (fun _ hle hA => up_ct _ b { s with h := s.h ++ [v] } v1 v2 v26 _ v n (rd_app_new _ _ _ (by simp)) fp2 hs (by simp) (by simp; omega)) ?_); intro v36; (try dsimp only [List.cons_append, List.nil_append, List.append_nil]); (repeat (refine RunL.unpu fun h36 => ?_; try subst h36)); refine R1 ?_; rotate_left))

      (repeat first | refine G1 ?_ | refine G2 ?_ | refine G3 ?_ | refine G4 ?_ | refine G5 rfl ?_ | refine G6 rfl ?_ | refine G7 rfl ?_)
      (focus (refine R0 ?_; refine lA ?_; refine R1 ?_; rotate_left))

      (repeat first | refine G1 ?_ | refine G2 ?_ | refine G3 ?_ | refine G4 ?_ | refine G5 rfl ?_ | refine G6 rfl ?_ | refine G7 rfl ?_)
      refine Run.unhex fun s' => Run.flat (Run.unpu fun u => ?_)
      ((dsimp only [HeapF, HAppend.hAppend, Append.append, List.append, List.cons_append, List.nil_append, List.append_nil]); (try simp only [List.append_eq]))
      (refine Run.ret1 Tryd.results50 (by rfl) ?_)
      refine Ent.hex true (Ent.pu ⟨rfl, by simp [hm, c]⟩ (Ent.hex s' (Ent.hex v1 (Ent.hex v2 (Ent.hex v26 (Ent.flat ?_))))))
      (focus ((repeat first | refine E1 ?_ ?_ | refine E2 ?_ | refine E3 ?_ | refine E4 ?_ | refine E5 ?_ | refine E6 ?_ | refine E7 ?_ | refine E8 ?_); exact E9; all_goals try first | rfl | assumption | omega))
      have e1 : ((s.h ++ [v]).length : Int) - 1 = s.h.length := by simp
      refine ⟨ok.pos, by rw [u.score]; exact hs, u.fair, fun x hx hx' => ?_, fun x hx hx' => by rw [u.score]; exact ok.low x hx hx'⟩
      rw [u.same x hx hx', ok.mem x hx hx']
      simp only [HeapS.put, e1]
      by_cases e : x = v
      · subst e
        rw [rd_wr_eq _ _ _ hx (by omega)]
        exact ⟨fun _ => by omega, fun _ => .inr rfl⟩
      · rw [rd_wr_ne _ _ _ _ (by omega) hx (Ne.symm e)]
        simp [e]
def cut (m : Int) : Int := min (max m 0) 4000
theorem cut_ct (ρ : Frag) (m : Int) : Ct Tryd.prog 49 [int m] ρ [] (fun r => [pu (r = int (cut m))]) := by
  (refine Ct.of_run Tryd.func49 rfl Tryd.ntmps49 rfl (Nat.le_of_ble_eq_true rfl) ?_)
  (repeat first | refine G1 ?_ | refine G2 ?_ | refine G3 ?_ | refine G4 ?_ | refine G5 rfl ?_ | refine G6 rfl ?_ | refine G7 rfl ?_)
  (focus (refine R0 ?_; refine lA ?_; refine R1 ?_; rotate_left))

  (repeat first | refine G1 ?_ | refine G2 ?_ | refine G3 ?_ | refine G4 ?_ | refine G5 rfl ?_ | refine G6 rfl ?_ | refine G7 rfl ?_)
  (focus (refine R0 ?_; refine lM ?_; refine lv (by exact Ymx) ?_; refine lv (by exact Ymn) ?_; refine lA ?_; refine R1 ?_; rotate_left))

  (repeat first | refine G1 ?_ | refine G2 ?_ | refine G3 ?_ | refine G4 ?_ | refine G5 rfl ?_ | refine G6 rfl ?_ | refine G7 rfl ?_)
  (refine Run.ret1 Tryd.results49 (by rfl) ?_)
  (focus ((repeat first | refine E1 ?_ ?_ | refine E2 ?_ | refine E3 ?_ | refine E4 ?_ | refine E5 ?_ | refine E6 ?_ | refine E7 ?_ | refine E8 ?_); exact E9; all_goals try first | rfl | assumption | omega))
theorem grow_ok {s : HeapS} {n : Nat} {I J : Int → Prop} (ok : HeapOk s n I) (hJ : ∀ x : Int, 0 ≤ x → x < n → (J x ↔ I x)) (hn : ¬ J n) : HeapOk { s with score := s.score ++ [0], place := s.place ++ [0] } (n + 1) J := by
  have hp := ok.fair.len
  have hs := ok.len
  refine ⟨by omega, by simp [ok.len], ⟨by simp [hp], fun k hk hk' => ?_, fun x hx hx' => ?_⟩, fun x hx hx' => ?_, fun x hx hx' => ?_⟩ <;> dsimp only at *
  · have := ok.fair.valid k hk hk'
    refine ⟨this.1, by omega, ?_⟩
    rw [rd_app_old _ _ _ (by omega) (by omega)]; exact this.2.2
  · by_cases e : x = n
    · rw [rd_app_new _ _ _ (by omega)]; exact ⟨by omega, fun h => by omega⟩
    · rw [rd_app_old _ _ _ hx (by omega)]; exact ok.fair.placed x hx (by omega)
  · by_cases e : x = n
    · subst e
      rw [rd_app_new _ _ _ (by omega)]; simp [hn]
    · rw [rd_app_old _ _ _ hx (by omega), hJ x hx (by omega)]; exact ok.mem x hx (by omega)
  · by_cases e : x = n
    · rw [rd_app_new _ _ _ (by omega)]; omega
    · rw [rd_app_old _ _ _ hx (by omega)]; exact ok.low x hx (by omega)
theorem grow_ct (ρ : Frag) (b n : Nat) (I : Int → Prop) (m : Int) :
    Ct Tryd.prog 37 [ptr b, int m] ρ [HeapA b n I] (fun r => [HeapA b (max n (cut m + 1).toNat) (fun x => (I x ∧ x < n) ∨ n ≤ x)]) := by
  have hc : 0 ≤ cut m ∧ cut m ≤ 4000 := by simp only [cut]; omega
  (refine Ct.of_run Tryd.func37 rfl Tryd.ntmps37 rfl (Nat.le_of_ble_eq_true rfl) ?_)
  (repeat first | refine G1 ?_ | refine G2 ?_ | refine G3 ?_ | refine G4 ?_ | refine G5 rfl ?_ | refine G6 rfl ?_ | refine G7 rfl ?_)
  refine Run.loopI (X := Nat) (fun x => [(0, ptr b), (1, int m)]) (fun n' => [pu (n ≤ n' ∧ n' ≤ max n (cut m + 1).toNat), HeapA b n' (fun x => (I x ∧ x < n) ∨ n ≤ x)]) (fun n' => 5000 - n') n (Sub.cons rfl (Sub.cons rfl (Sub.nil _))) ?_ ?_
  · refine Ent.pu ⟨by omega, by omega⟩ (HeapA.ent (I := I) (fun x hx hx' => ?_) (Ent.refl _))
    exact ⟨fun h => .inl ⟨h, hx'⟩, by rintro (h | h); exact h.1; omega⟩
  · intro n' ih
    refine Run.unpu fun hn => Run.unhex fun s => Run.unhex fun v1 => Run.unhex fun v2 => Run.unhex fun v3 => Run.flat (Run.unpu fun ok => ?_)
    ((dsimp only [HeapF, HAppend.hAppend, Append.append, List.append, List.cons_append, List.nil_append, List.append_nil]); (try simp only [List.append_eq]))
    have hs := ok.len
    have hp := ok.fair.len
    have h0 := ok.pos
    (repeat first | refine G1 ?_ | refine G2 ?_ | refine G3 ?_ | refine G4 ?_ | refine G5 rfl ?_ | refine G6 rfl ?_ | refine G7 rfl ?_)
    (focus (refine Run.planS mixed (.take 0 (.take 1 (.take 2 (.take 3 (.take 4 (.take 5 (.alt 6 (.take 7 (.done)) (.nomore)))))))) [(some 4, [0], []), (some 5, [4], [0]), (some 6, [5], [1]), (some 7, [6], [2]), (some 8, [7], [3]), (some 9, [1], []), (some 10, [9], [5]), (some 11, [8, 10], [4, 6])] (by kernel_rfl) (by kernel_rfl) (by kernel_rfl) ?_; refine dM rfl ?_; refine dN rfl ?_; refine dG rfl ?_; refine dL rfl ?_; refine dE rfl ?_; refine dM rfl ?_; refine R3 ?_; refine de [(4, _), (3, _), (2, _), (1, _), (0, _)] rfl (by exact Dcl [] rfl rfl (fun _ hle hA => cut_ct _ m)) rfl ?_ ?_; (focus (intro _; (try dsimp only [List.cons_append, List.nil_append, List.append_nil]); refine sE rfl ?_; refine sL rfl ?_; refine sG rfl ?_; refine sN rfl ?_; refine sM rfl ?_; exact Still.nil)); intro v10; (try dsimp only [List.cons_append, List.nil_append, List.append_nil]); (repeat (refine RunD.unpu fun h10 => ?_; try subst h10)); refine dv rfl (by exact Yle) ?_; refine R2 ?_; rotate_left))

    refine Run.condP rfl (fun c => ?_) (fun c => ?_)
    · (repeat first | refine G1 ?_ | refine G2 ?_ | refine G3 ?_ | refine G4 ?_ | refine G5 rfl ?_ | refine G6 rfl ?_ | refine G7 rfl ?_)
      (focus (refine Run.planS mixed (.take 0 (.take 1 (.take 2 (.take 3 (.take 4 (.take 5 (.take 8 (.take 9 (.take 10 (.take 11 (.alt 6 (.alt 7 (.alt 12 (.alt 13 (.take 14 (.take 15 (.alt 16 (.take 17 (.take 18 (.alt 19 (.done) (.nomore)))) (.nomore)))) (.nomore)) (.nomore)) (.alt 12 (.alt 7 (.alt 13 (.take 14 (.take 15 (.alt 16 (.take 17 (.take 18 (.alt 19 (.done) (.nomore)))) (.nomore)))) (.nomore)) (.nomore)) (.nomore))) (.alt 12 (.alt 6 (.alt 7 (.alt 13 (.take 14 (.take 15 (.alt 16 (.take 17 (.take 18 (.alt 19 (.done) (.nomore)))) (.nomore)))) (.nomore)) (.nomore)) (.nomore)) (.nomore))))))))))))) [(some 12, [0], []), (some 13, [0], []), (some 14, [0], []), (some 15, [14], [2]), (some 16, [15], [3]), (some 17, [16], [4]), (some 18, [], []), (some 19, [17, 18], [5, 6]), (some 20, [0], []), (some 21, [20], [8]), (some 22, [21], [9]), (some 23, [22], [10]), (some 24, [], []), (some 25, [23, 24], [11, 12, 7]), (some 26, [12], [0, 0, 2, 3, 4, 5, 6, 7, 11, 13]), (some 27, [26], [14, 0, 2, 3, 4, 5, 6, 7, 11, 13]), (none, [27, 19], [15, 7, 13, 0, 2, 3, 4, 5, 6, 7, 11, 13]), (some 28, [13], [1, 0, 1, 2, 3, 4, 5, 6, 7, 8, 9, 10, 11, 12, 13, 14, 15, 16]), (some 29, [28], [17, 0, 1, 2, 3, 4, 5, 6, 7, 8, 9, 10, 11, 12, 13, 14, 15, 16]), (none, [29, 25], [18, 13, 16, 0, 1, 2, 3, 4, 5, 6, 7, 8, 9, 10, 11, 12, 13, 14, 15, 16])] (by kernel_rfl) (by kernel_rfl) (by kernel_rfl) ?_; refine dM rfl ?_; refine dM rfl ?_; refine dM rfl ?_; refine dN rfl ?_; refine dG rfl ?_; refine dL rfl ?_; refine dM rfl ?_; refine dN rfl ?_; refine dG rfl ?_; refine dL rfl ?_; refine RunD.alt ?_ ?_; refine deS [(11, _), (10, _), (9, _), (8, _), (5, _), (4, _), (3, _), (2, _), (1, _), (0, _)] rfl (by exact Db1) rfl ?_ ?_; (focus (intro _; (try dsimp only [List.cons_append, List.nil_append, List.append_nil]); refine sL rfl ?_; refine sG rfl ?_; refine sN rfl ?_; refine sM rfl ?_; refine sL rfl ?_; refine sG rfl ?_; refine sN rfl ?_; refine sM rfl ?_; refine sM rfl ?_; refine sM rfl ?_; exact Still.nil)); intro v18; (try dsimp only [List.cons_append, List.nil_append, List.append_nil]); refine RunD.alt ?_ ?_; refine deS [(11, _), (10, _), (9, _), (8, _), (4, _), (3, _), (2, _), (1, _), (0, _)] rfl (by exact Dap) rfl ?_ ?_; (focus (intro _; (try dsimp only [List.cons_append, List.nil_append, List.append_nil]); refine sL rfl ?_; refine sG rfl ?_; refine sN rfl ?_; refine sM rfl ?_; refine sG rfl ?_; refine sN rfl ?_; refine sM rfl ?_; refine sM rfl ?_; refine sM rfl ?_; exact Still.nil)); intro v19; (try dsimp only [List.cons_append, List.nil_append, List.append_nil]); (repeat (refine RunD.unpu fun h19 => ?_; try subst h19)); refine R3 ?_; refine deS [(11, _), (10, _), (9, _), (8, _), (4, _), (3, _), (2, _), (1, _), (0, _)] rfl (by exact Db1) rfl ?_ ?_; (focus (intro _; (try dsimp only [List.cons_append, List.nil_append, List.append_nil]); refine sL rfl ?_; refine sG rfl ?_; refine sN rfl ?_; refine sM rfl ?_; refine sG rfl ?_; refine sN rfl ?_; refine sM rfl ?_; refine sM rfl ?_; refine sM rfl ?_; exact Still.nil)); intro v24; (try dsimp only [List.cons_append, List.nil_append, List.append_nil]); refine R3 ?_; refine deS [(10, _), (9, _), (8, _), (4, _), (3, _), (2, _), (1, _), (0, _)] rfl (by exact Dap) rfl ?_ ?_; (focus (intro _; (try dsimp only [List.cons_append, List.nil_append, List.append_nil]); refine sG rfl ?_; refine sN rfl ?_; refine sM rfl ?_; refine sG rfl ?_; refine sN rfl ?_; refine sM rfl ?_; refine sM rfl ?_; refine sM rfl ?_; exact Still.nil)); intro v25; (try dsimp only [List.cons_append, List.nil_append, List.append_nil]); (repeat (refine RunD.unpu fun h25 => ?_; try subst h25)); refine dN rfl ?_; refine dG rfl ?_; refine R3 ?_; refine dn [(14, _), (10, _), (9, _), (8, _), (1, _)] rfl (by exact Dst) rfl ?_ ?_; (focus (intro _; (try dsimp only [List.cons_append, List.nil_append, List.append_nil]); refine sN rfl ?_; refine sG rfl ?_; refine sN rfl ?_; refine sM rfl ?_; refine sM rfl ?_; exact Still.nil)); intro _; (try dsimp only [List.cons_append, List.nil_append, List.append_nil]); refine dN rfl ?_; refine dG rfl ?_; refine R3 ?_; refine dn [(17, _)] rfl (by exact Dst) rfl ?_ ?_; (focus (intro _; (try dsimp only [List.cons_append, List.nil_append, List.append_nil]); refine sN rfl ?_; exact Still.nil)); intro _; (try dsimp only [List.cons_append, List.nil_append, List.append_nil]); refine R2 ?_; rotate_left; refine RunR.alt ?_ ?_; refine deS [(11, _), (10, _), (9, _), (8, _), (5, _), (4, _), (3, _), (2, _), (1, _), (0, _)] rfl (by exact Db1) rfl ?_ ?_; (focus (intro _; (try dsimp only [List.cons_append, List.nil_append, List.append_nil]); refine sL rfl ?_; refine sG rfl ?_; refine sN rfl ?_; refine sM rfl ?_; refine sL rfl ?_; refine sG rfl ?_; refine sN rfl ?_; refine sM rfl ?_; refine sM rfl ?_; refine sM rfl ?_; exact Still.nil)); intro v24; (try dsimp only [List.cons_append, List.nil_append, List.append_nil]); refine R3 ?_; refine deS [(11, _), (10, _), (9, _), (8, _), (4, _), (3, _), (2, _), (1, _), (0, _)] rfl (by exact Dap) rfl ?_ ?_; (focus (intro _; (try dsimp only [List.cons_append, List.nil_append, List.append_nil]); refine sL rfl ?_; refine sG rfl ?_; refine sN rfl ?_; refine sM rfl ?_; refine sG rfl ?_; refine sN rfl ?_; refine sM rfl ?_; refine sM rfl ?_; refine sM rfl ?_; exact Still.nil)); intro v19; (try dsimp only [List.cons_append, List.nil_append, List.append_nil]); (repeat (refine RunD.unpu fun h19 => ?_; try subst h19)); refine R3 ?_; refine deS [(10, _), (9, _), (8, _), (4, _), (3, _), (2, _), (1, _), (0, _)] rfl (by exact Dap) rfl ?_ ?_; (focus (intro _; (try dsimp only [List.cons_append, List.nil_append, List.append_nil]); refine sG rfl ?_; refine sN rfl ?_; refine sM rfl ?_; refine sG rfl ?_; refine sN rfl ?_; refine sM rfl ?_; refine sM rfl ?_; refine sM rfl ?_; exact Still.nil)); intro v25; (try dsimp only [List.cons_append, List.nil_append, List.append_nil]); (repeat (refine RunD.unpu fun h25 => ?_; try subst h25)); refine dN rfl ?_; refine dG rfl ?_; refine R3 ?_; refine dn [(14, _), (10, _), (9, _), (8, _), (1, _)] rfl (by exact Dst) rfl ?_ ?_; (focus (intro _; (try dsimp only [List.cons_append, List.nil_append, List.append_nil]); refine sN rfl ?_; refine sG rfl ?_; refine sN rfl ?_; refine sM rfl ?_; refine sM rfl ?_; exact Still.nil)); intro _; (try dsimp only [List.cons_append, List.nil_append, List.append_nil]); refine dN rfl ?_; refine dG rfl ?_; refine R3 ?_; refine dn [(17, _)] rfl (by exact Dst) rfl ?_ ?_; (focus (intro _; (try dsimp only [List.cons_append, List.nil_append, List.append_nil]); refine sN rfl ?_; exact Still.nil)); intro _; (try dsimp only [List.cons_append, List.nil_append, List.append_nil]); refine R2 ?_; rotate_left; exact RunR.nomore; refine RunR.alt ?_ ?_; refine deS [(11, _), (10, _), (9, _), (8, _), (5, _), (4, _), (3, _), (2, _), (1, _), (0, _)] rfl (by exact Db1) rfl ?_ ?_; (focus (intro _; (try dsimp only [List.cons_append, List.nil_append, List.append_nil]); refine sL rfl ?_; refine sG rfl ?_; refine sN rfl ?_; refine sM rfl ?_; refine sL rfl ?_; refine sG rfl ?_; refine sN rfl ?_; refine sM rfl ?_; refine sM rfl ?_; refine sM rfl ?_; exact Still.nil)); intro v24; (try dsimp only [List.cons_append, List.nil_append, List.append_nil]); refine R3 ?_; refine deS [(11, _), (10, _), (9, _), (8, _), (5, _), (4, _), (3, _), (2, _), (1, _), (0, _)] rfl (by exact Db1) rfl ?_ ?_; (focus (intro _; (try dsimp only [List.cons_append, List.nil_append, List.append_nil]); refine sL rfl ?_; refine sG rfl ?_; refine sN rfl ?_; refine sM rfl ?_; refine sL rfl ?_; refine sG rfl ?_; refine sN rfl ?_; refine sM rfl ?_; refine sM rfl ?_; refine sM rfl ?_; exact Still.nil)); intro v18; (try dsimp only [List.cons_append, List.nil_append, List.append_nil]); refine R3 ?_; refine deS [(11, _), (10, _), (9, _), (8, _), (4, _), (3, _), (2, _), (1, _), (0, _)] rfl (by exact Dap) rfl ?_ ?_; (focus (intro _; (try dsimp only [List.cons_append, List.nil_append, List.append_nil]); refine sL rfl ?_; refine sG rfl ?_; refine sN rfl ?_; refine sM rfl ?_; refine sG rfl ?_; refine sN rfl ?_; refine sM rfl ?_; refine sM rfl ?_; refine sM rfl ?_; exact Still.nil)); intro v19; (try dsimp only [List.cons_append, List.nil_append, List.append_nil]); (repeat (refine RunD.unpu fun h19 => ?_; try subst h19)); refine R3 ?_; refine deS [(10, _), (9, _), (8, _), (4, _), (3, _), (2, _), (1, _), (0, _)] rfl (by exact Dap) rfl ?_ ?_; (focus (intro _; (try dsimp only [List.cons_append, List.nil_append, List.append_nil]); refine sG rfl ?_; refine sN rfl ?_; refine sM rfl ?_; refine sG rfl ?_; refine sN rfl ?_; refine sM rfl ?_; refine sM rfl ?_; refine sM rfl ?_; exact Still.nil)); intro v25; (try dsimp only [List.cons_append, List.nil_append, List.append_nil]); (repeat (refine RunD.unpu fun h25 => ?_; try subst h25)); refine dN rfl ?_; refine dG rfl ?_; refine R3 ?_; refine dn [(14, _), (10, _), (9, _), (8, _), (1, _)] rfl (by exact Dst) rfl ?_ ?_; (focus (intro _; (try dsimp only [List.cons_append, List.nil_append, List.append_nil]); refine sN rfl ?_; refine sG rfl ?_; refine sN rfl ?_; refine sM rfl ?_; refine sM rfl ?_; exact Still.nil)); intro _; (try dsimp only [List.cons_append, List.nil_append, List.append_nil]); refine dN rfl ?_; refine dG rfl ?_; refine R3 ?_; refine dn [(17, _)] rfl (by exact Dst) rfl ?_ ?_; (focus (intro _; (try dsimp only [List.cons_append, List.nil_append, List.append_nil]); refine sN rfl ?_; exact Still.nil)); intro _; (try dsimp only [List.cons_append, List.nil_append, List.append_nil]); refine R2 ?_; rotate_left; exact RunR.nomore))

      all_goals
        (repeat first | refine G1 ?_ | refine G2 ?_ | refine G3 ?_ | refine G4 ?_ | refine G5 rfl ?_ | refine G6 rfl ?_ | refine G7 rfl ?_)
        focus
          refine R0 ?_
          refine lM ?_
          refine lM ?_
          refine lN ?_
          refine lG ?_
          refine lL ?_
          refine lE ?_
          refine lv (by exact Ysb) ?_
          refine RunL.ent (L' := [HeapA b (n' + 1) (fun x => ((I x ∧ x < n) ∨ n ≤ x) ∧ x < n')]) (by
            refine Ent.hex { s with score := s.score ++ [0], place := s.place ++ [0] } (Ent.hex v19 (Ent.hex v25 (Ent.hex v3 (Ent.flat ?_))))
            (focus ((repeat first | refine E1 ?_ ?_ | refine E2 ?_ | refine E3 ?_ | refine E4 ?_ | refine E5 ?_ | refine E6 ?_ | refine E7 ?_ | refine E8 ?_); exact E9; all_goals try first | rfl | assumption | omega))
            exact grow_ok ok (fun x hx hx' => by simp [hx']) (by simp)) ?_
          refine lc [] rfl rfl (fun _ hle hA => push_ct _ b (n' + 1) (fun x => ((I x ∧ x < n) ∨ n ≤ x) ∧ x < n') _ (by simp; omega) (by simp; omega)) ?_
          intro v37
          try dsimp only [List.cons_append, List.nil_append, List.append_nil]
          repeat (refine RunL.unpu fun h37 => ?_; try subst h37)
          refine R1 ?_
          rotate_left
        (repeat first | refine G1 ?_ | refine G2 ?_ | refine G3 ?_ | refine G4 ?_ | refine G5 rfl ?_ | refine G6 rfl ?_ | refine G7 rfl ?_)
        refine Run.unhex fun t => Run.unpu fun _ => ?_
        refine Run.weaken ?_ ?_ (ih (n' + 1) (by omega))
        · exact Sub.cons rfl (Sub.cons rfl (Sub.nil _))
        · refine Ent.pu ⟨by omega, by omega⟩ (HeapA.ent (I := fun x => (((I x ∧ x < n) ∨ n ≤ x) ∧ x < n') ∨ x = ((s.score ++ [0]).length : Int) - 1) (fun x hx hx' => ?_) (by (focus ((repeat first | refine E1 ?_ ?_ | refine E2 ?_ | refine E3 ?_ | refine E4 ?_ | refine E5 ?_ | refine E6 ?_ | refine E7 ?_ | refine E8 ?_); exact E9; all_goals try first | rfl | assumption | omega))))
          simp only [List.length_append, List.length_cons, List.length_nil, hs]
          constructor
          · rintro (h | h)
            · exact h.1
            · right; omega
          · intro h
            by_cases e : x < n'
            · exact .inl ⟨h, e⟩
            · right; omega
    · (repeat first | refine G1 ?_ | refine G2 ?_ | refine G3 ?_ | refine G4 ?_ | refine G5 rfl ?_ | refine G6 rfl ?_ | refine G7 rfl ?_)
      (refine Run.fin0 Tryd.results37 ?_)
      have e : max n (cut m + 1).toNat = n' := by omega
      rw [e]
      refine Ent.hex s (Ent.hex v1 (Ent.hex v2 (Ent.hex v3 (Ent.flat ?_))))
      (focus ((repeat first | refine E1 ?_ ?_ | refine E2 ?_ | refine E3 ?_ | refine E4 ?_ | refine E5 ?_ | refine E6 ?_ | refine E7 ?_ | refine E8 ?_); exact E9; all_goals try first | rfl | assumption | omega))
theorem new_ok : HeapOk ⟨List.replicate (Int.toNat 1) 0, List.replicate (Int.toNat 1) 0, []⟩ 1 (fun x => False) := by
  have e : List.replicate (Int.toNat 1) (0 : Int) = [0] := rfl
  rw [e]
  have h : ∀ x : Int, 0 ≤ x → x < (1 : Nat) → rd [(0 : Int)] x = 0 := fun x hx hx' => by
    have : x = 0 := by omega
    subst this; rfl
  refine ⟨by omega, rfl, ⟨rfl, fun k hk hk' => ?_, fun x hx hx' => ?_⟩, fun x hx hx' => ?_, fun x hx hx' => ?_⟩ <;> dsimp only at *
  · simp at hk'; omega
  · rw [h x hx hx']; exact ⟨by omega, by omega⟩
  · rw [h x hx hx']; simp
  · rw [h x hx hx']; omega
theorem new_ct (ρ : Frag) (m : Int) :
    Ct Tryd.prog 46 [int m] ρ [] (fun r => [hex fun b : Nat => stars [pu (r = ptr b), HeapA b ((cut m + 1).toNat) (fun x => 1 ≤ x)]]) := by
  have hc : 0 ≤ cut m ∧ cut m ≤ 4000 := by simp only [cut]; omega
  (refine Ct.of_run Tryd.func46 rfl Tryd.ntmps46 rfl (Nat.le_of_ble_eq_true rfl) ?_)
  (repeat first | refine G1 ?_ | refine G2 ?_ | refine G3 ?_ | refine G4 ?_ | refine G5 rfl ?_ | refine G6 rfl ?_ | refine G7 rfl ?_)
  (focus (refine R0 ?_; refine lA ?_; refine R1 ?_; rotate_left))

  (repeat first | refine G1 ?_ | refine G2 ?_ | refine G3 ?_ | refine G4 ?_ | refine G5 rfl ?_ | refine G6 rfl ?_ | refine G7 rfl ?_)
  (focus (refine Run.planS mixed (.alt 0 (.alt 1 (.take 2 (.alt 3 (.take 4 (.done)) (.nomore))) (.nomore)) (.alt 1 (.alt 0 (.take 2 (.alt 3 (.take 4 (.done)) (.nomore))) (.nomore)) (.nomore))) [(some 4, [], []), (some 5, [], []), (some 6, [4, 5], [0, 1]), (some 7, [6], [2]), (some 3, [7], [3, 0, 1, 2, 3])] (by kernel_rfl) (by kernel_rfl) (by kernel_rfl) ?_; refine RunD.alt ?_ ?_; refine deS [] rfl (by exact Dmk) rfl ?_ ?_; (focus (intro _; (try dsimp only [List.cons_append, List.nil_append, List.append_nil]); exact Still.nil)); intro v4; (try dsimp only [List.cons_append, List.nil_append, List.append_nil]); refine R3 ?_; refine deS [] rfl (by exact Dmk) rfl ?_ ?_; (focus (intro _; (try dsimp only [List.cons_append, List.nil_append, List.append_nil]); exact Still.nil)); intro v5; (try dsimp only [List.cons_append, List.nil_append, List.append_nil]); refine dv rfl (by exact Ybd2 rfl rfl) ?_; refine R3 ?_; refine de [] rfl (by exact Dbx) rfl ?_ ?_; (focus (intro _; (try dsimp only [List.cons_append, List.nil_append, List.append_nil]); exact Still.nil)); intro v7; (try dsimp only [List.cons_append, List.nil_append, List.append_nil]); refine RunD.unhex fun b7 => ?_; refine RunD.unhex fun hb => ?_; subst hb; refine dA rfl ?_; refine R2 ?_; rotate_left; refine RunR.alt ?_ ?_; refine deS [] rfl (by exact Dmk) rfl ?_ ?_; (focus (intro _; (try dsimp only [List.cons_append, List.nil_append, List.append_nil]); exact Still.nil)); intro v5; (try dsimp only [List.cons_append, List.nil_append, List.append_nil]); refine R3 ?_; refine deS [] rfl (by exact Dmk) rfl ?_ ?_; (focus (intro _; (try dsimp only [List.cons_append, List.nil_append, List.append_nil]); exact Still.nil)); intro v4; (try dsimp only [List.cons_append, List.nil_append, List.append_nil]); refine dv rfl (by exact Ybd2 rfl rfl) ?_; refine R3 ?_; refine de [] rfl (by exact Dbx) rfl ?_ ?_; (focus (intro _; (try dsimp only [List.cons_append, List.nil_append, List.append_nil]); exact Still.nil)); intro v7; (try dsimp only [List.cons_append, List.nil_append, List.append_nil]); refine RunD.unhex fun b7 => ?_; refine RunD.unhex fun hb => ?_; subst hb; refine dA rfl ?_; refine R2 ?_; rotate_left; exact RunR.nomore))

  all_goals
    (repeat first | refine G1 ?_ | refine G2 ?_ | refine G3 ?_ | refine G4 ?_ | refine G5 rfl ?_ | refine G6 rfl ?_ | refine G7 rfl ?_)
    focus
      refine R0 ?_
      refine lM ?_
      refine lM ?_
      refine RunL.ent (L' := [HeapA b7 1 (fun x => False)]) (by
            refine Ent.hex ⟨List.replicate (Int.toNat 1) 0, List.replicate (Int.toNat 1) 0, []⟩ (Ent.hex v4 (Ent.hex v5 (Ent.hex nilS (Ent.flat ?_))))
            (focus ((repeat first | refine E1 ?_ ?_ | refine E2 ?_ | refine E3 ?_ | refine E4 ?_ | refine E5 ?_ | refine E6 ?_ | refine E7 ?_ | refine E8 ?_); exact E9; all_goals try first | rfl | assumption | omega))
            exact new_ok) ?_
      refine lc [] rfl rfl (fun _ hle hA => grow_ct _ b7 1 _ m) ?_
      intro v10
      try dsimp only [List.cons_append, List.nil_append, List.append_nil]
      repeat (refine RunL.unpu fun h10 => ?_; try subst h10)
      refine R1 ?_
      rotate_left
    (repeat first | refine G1 ?_ | refine G2 ?_ | refine G3 ?_ | refine G4 ?_ | refine G5 rfl ?_ | refine G6 rfl ?_ | refine G7 rfl ?_)
    (focus (refine R0 ?_; refine lM ?_; refine lA ?_; refine R1 ?_; rotate_left))

    (repeat first | refine G1 ?_ | refine G2 ?_ | refine G3 ?_ | refine G4 ?_ | refine G5 rfl ?_ | refine G6 rfl ?_ | refine G7 rfl ?_)
    (refine Run.ret1 Tryd.results46 (by rfl) ?_)
    have e : max 1 (cut m + 1).toNat = (cut m + 1).toNat := by omega
    rw [e]
    refine Ent.hex b7 (Ent.flat (Ent.pu rfl ?_))
    exact HeapA.ent (fun x hx hx' => by simp) (Ent.refl _)
end Go.Proofs.YtfldnnpcdjabnaaDoor
