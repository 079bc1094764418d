/-
  prop.at, prop.look, prop.Add; sat.Add: each by its contract.
-/
import Derived.Test.YtfldnnpcdjabnaaDoorNorm
import Derived.Test.YtfldnnpcdjabnaaDoorCdcl
set_option linter.unusedVariables false
set_option linter.unusedSimpArgs false
namespace Go.Proofs.YtfldnnpcdjabnaaDoor
open Go
section
variable {C : Cx} {e : Env} {L : List HP} {d : Option Tmp} {ty : TypeId} {ps : String} {af : Array Edge} {g : Option (Nat × Bool)} {α : Type} {K : EK α}
/-- A whole element is put in. -/
theorem Does.storeEl [hK : EKOk C.P K] {T : TypeId} {x y : Operand} {v u : Value} {xs : List α} {L' : List HP} {i : Int} {z : α} [hS : Siz C.P T K.k] (hx : ev e x = some (.pointer (some (el K v i 0)))) (hy : ev e y = some u)
    (hu : u.cells = (K.enc z).toArray) (p : Pick (Arr K v xs) L L') (h0 : 0 ≤ i) (h1 : i < xs.length) : Does C ⟨d, .store T x y, ty, ps, af, g⟩ e L (fun _ => Arr K v (wr xs i z) :: L') := fun a w h s => by
  obtain ⟨g1, g2, dd, rfl, ha, hb⟩ := p h s.holds
  rcases ha with ⟨rfl, _, _⟩ | ⟨gg, cap, cur, rfl, c1, c2, c3, c4, rfl⟩
  · simp at h1; omega
  · have hg : w.heap[gg]? = some (.cells cur.toArray K.e (0, 0)) := s.le gg _ (by simp [fadd, fone])
    have hlen : (K.enc z).length = K.k := hK.len z
    have hle2 : (i.toNat + 1) * K.k ≤ xs.length * K.k := Nat.mul_le_mul_right _ (by omega)
    have hle3 : (i.toNat + 1) * K.k ≤ cur.length := Nat.le_trans hle2 (Nat.le_trans (Nat.mul_le_mul_right _ c1) c3)
    rw [Nat.succ_mul] at hle2 hle3
    have hst := run_storeCells_at (P := C.P) gg (i.toNat * K.k) K.e (K.enc z) 0 cur.toArray w hg (by simp [hlen]; omega) (hK.one z)
    simp only [Nat.add_zero] at hst
    have hadd : _root_.Go.Proofs.YtfldnnpcdjabnaaDoor.el K (.slice (some ⟨gg, 0, none⟩) xs.length cap) i 0 = ⟨gg, i.toNat * K.k, none⟩ := by simp [_root_.Go.Proofs.YtfldnnpcdjabnaaDoor.el, ea, Addr.add_lit]
    rw [hadd] at hx
    obtain ⟨d', l', n'⟩ := setRow_evo (cs := (cur.take (i.toNat * K.k) ++ K.enc z ++ cur.drop (i.toNat * K.k + (K.enc z).length)).toArray) s.le dd
    have hrun : (execOp a.eval ⟨d, .store T x y, ty, ps, af, g⟩).run C.P w = .ok .skip (w.setRow gg (cur.take (i.toNat * K.k) ++ K.enc z ++ cur.drop (i.toNat * K.k + (K.enc z).length)).toArray) := by
      simp [execOp, s.eval hx, s.eval hy, Instr.storeAt, Instr.sureAddr, storeVar, hS.h, hu, hlen, hst]
    unfold Oper.wp
    rw [hrun]
    refine ⟨undef, _, rfl, ⟨_, g2, d', rfl, .inr ⟨gg, cap, _, by simp [wr], by simpa [wr] using c1, by simpa [wr] using c2, ?_, ?_, rfl⟩, hb⟩, l', n'⟩
    · simp only [List.length_append, List.length_take, List.length_drop, hlen]; omega
    · have e1 : (wr xs i z).length = xs.length := by simp [wr]
      rw [e1]
      have e2 : wr xs i z = xs.take i.toNat ++ [z] ++ xs.drop (i.toNat + 1) := by
        simp only [wr]
        rw [List.set_eq_take_append_cons_drop, if_pos (by omega)]; simp
      rw [e2, flat_append, flat_append]
      have e3 : flat K [z] = K.enc z := by simp [flat]
      have e4 : flat K (xs.take i.toNat) = cur.take (i.toNat * K.k) := by
        rw [← flat_take hK.len, ← c4, List.take_take, Nat.min_eq_left (by omega)]
      have e5 : flat K (xs.drop (i.toNat + 1)) = (cur.take (xs.length * K.k)).drop ((i.toNat + 1) * K.k) := by
        rw [c4]
        have e6 : flat K xs = flat K (xs.take (i.toNat + 1)) ++ flat K (xs.drop (i.toNat + 1)) := by rw [← flat_append, List.take_append_drop]
        have e7 : (flat K (xs.take (i.toNat + 1))).length = (i.toNat + 1) * K.k := by rw [flat_length hK.len]; congr 1; simp; omega
        rw [e6, ← e7, List.drop_left]
      rw [e3, e4, e5, hlen, Nat.succ_mul]
      have e8 : (cur.take (i.toNat * K.k) ++ K.enc z).length = i.toNat * K.k + K.k := by rw [List.length_append, hlen, List.length_take, Nat.min_eq_left (by omega)]
      rw [List.take_append, e8, List.take_of_length_le (by omega), List.drop_take]
end
/-- id is looked at anew. -/
def PropS.look (p : PropS) (id : Int) : PropS := if (rd p.fl id).2 then p else { p with fl := wr p.fl id ((rd p.fl id).1, true), loose := p.loose ++ [id] }
theorem zip_rd {cs : List SV} {fl : List (Bool × Bool)} {i : Int} (h : cs.length = fl.length) (h0 : 0 ≤ i) (h1 : i < fl.length) : rd (zipC cs fl) i = (rd cs i, rd fl i) := by
  have h2 : i.toNat < fl.length := by omega
  have h3 : i.toNat < cs.length := by omega
  have h4 : (zipC cs fl)[i.toNat]? = some (cs[i.toNat], fl[i.toNat]) := by
    rw [List.getElem?_zip_eq_some]; exact ⟨List.getElem?_eq_getElem h3, List.getElem?_eq_getElem h2⟩
  simp only [rd, List.getD_eq_getElem?_getD, h4, List.getElem?_eq_getElem h2, List.getElem?_eq_getElem h3, Option.getD_some]
theorem zip_wr {cs : List SV} {fl : List (Bool × Bool)} {i : Int} {c : SV} {f : Bool × Bool} : wr (zipC cs fl) i (c, f) = zipC (wr cs i c) (wr fl i f) := by
  simp only [wr]
  generalize i.toNat = n
  induction cs generalizing fl n with
  | nil => simp
  | cons x cs ih =>
    cases fl with
    | nil => simp
    | cons y fl => cases n <;> simp [ih]
theorem zip_len {cs : List SV} {fl : List (Bool × Bool)} (h : cs.length = fl.length) : (zipC cs fl).length = fl.length := by simp [h]
/-- How much there is, in bounds. -/
structure Room (p : PropS) (T : Nat) : Prop where
  cl : p.cl.length ≤ T
  loose : p.loose.length ≤ T
  watch : (p.watch.map List.length).sum ≤ T
theorem sum_get {xs : List (List Int)} {i : Int} (h0 : 0 ≤ i) (h1 : i < xs.length) : (rd xs i).length ≤ (xs.map List.length).sum := by
  have h2 : i.toNat < xs.length := by omega
  have e : rd xs i = xs[i.toNat] := by simp [rd, List.getD_eq_getElem?_getD, h2]
  rw [e]
  generalize i.toNat = n at h2
  clear e h0 h1
  induction xs generalizing n with
  | nil => simp at h2
  | cons x xs ih =>
    cases n with
    | zero => simp
    | succ n => simp at h2 ⊢; have := ih n h2; omega
theorem sum_wr {xs : List (List Int)} {i : Int} {y : List Int} (h0 : 0 ≤ i) (h1 : i < xs.length) : ((wr xs i y).map List.length).sum + (rd xs i).length = (xs.map List.length).sum + y.length := by
  have h2 : i.toNat < xs.length := by omega
  have e : rd xs i = xs[i.toNat] := by simp [rd, List.getD_eq_getElem?_getD, h2]
  rw [e]
  simp only [wr]
  generalize i.toNat = n at h2
  clear e h0 h1
  induction xs generalizing n with
  | nil => simp at h2
  | cons x xs ih =>
    cases n with
    | zero => simp; omega
    | succ n => simp only [List.length_cons] at h2; have := ih n (by omega); simp only [List.set_cons_succ, List.map_cons, List.sum_cons, List.getElem_cons_succ]; omega
theorem Room.look {p : PropS} {T : Nat} (h : Room p T) (id : Int) : Room (p.look id) (T + 1) := by
  unfold PropS.look
  split
  · exact ⟨Nat.le_succ_of_le h.cl, Nat.le_succ_of_le h.loose, Nat.le_succ_of_le h.watch⟩
  · exact ⟨Nat.le_succ_of_le h.cl, by simp; exact h.loose, Nat.le_succ_of_le h.watch⟩
attribute [local irreducible] Yields Does Run RunL AnyL Ct Reads Peek PeekN Poke Pick Fits Sub Ent Still Arr RArr Cells el stars In
theorem at_ct (ρ : Frag) (l : Int) (h : -4611686018427387904 < l) (h' : l < 4611686018427387904) : Ct Tryd.prog 65 [int l] ρ [] (fun r => [pu (r = int (atI l))]) := by
  (refine Ct.of_run Tryd.func65 rfl Tryd.ntmps65 rfl (Nat.le_of_ble_eq_true rfl) ?_)
  (repeat first | refine G1 ?_ | refine G2 ?_ | refine G3 ?_ | refine G4 ?_ | refine G5 rfl ?_ | refine G6 rfl ?_ | refine G7 rfl ?_)
  (focus (refine R0 ?_; refine lA ?_; refine R1 ?_; rotate_left))

  (repeat first | refine G1 ?_ | refine G2 ?_ | refine G3 ?_ | refine G4 ?_ | refine G5 rfl ?_ | refine G6 rfl ?_ | refine G7 rfl ?_)
  (focus (refine R0 ?_; refine lM ?_; refine lv (by exact Ylt) ?_; refine R1 ?_; rotate_left))

  (repeat first | refine G1 ?_ | refine G2 ?_ | refine G3 ?_ | refine G4 ?_ | refine G5 rfl ?_ | refine G6 rfl ?_ | refine G7 rfl ?_)
  refine Run.condP rfl (fun c => ?_) (fun c => ?_)
  · (repeat first | refine G1 ?_ | refine G2 ?_ | refine G3 ?_ | refine G4 ?_ | refine G5 rfl ?_ | refine G6 rfl ?_ | refine G7 rfl ?_)
    (focus (refine R0 ?_; refine lM ?_; refine lv (by exact Yml) ?_; refine lv (by exact Yad) ?_; refine lA ?_; refine R1 ?_; rotate_left))

    (repeat first | refine G1 ?_ | refine G2 ?_ | refine G3 ?_ | refine G4 ?_ | refine G5 rfl ?_ | refine G6 rfl ?_ | refine G7 rfl ?_)
    (refine Run.ret1 Tryd.results65 (by rfl) ?_)
    (focus ((repeat first | refine E1 ?_ ?_ | refine E2 ?_ | refine E3 ?_ | refine E4 ?_ | refine E5 ?_ | refine E6 ?_ | refine E7 ?_ | refine E8 ?_); exact E9; all_goals try first | rfl | assumption | omega))
    simp [atI, c]
  · (repeat first | refine G1 ?_ | refine G2 ?_ | refine G3 ?_ | refine G4 ?_ | refine G5 rfl ?_ | refine G6 rfl ?_ | refine G7 rfl ?_)
    (focus (refine R0 ?_; refine lM ?_; refine lv (by exact Yml) ?_; refine lA ?_; refine R1 ?_; rotate_left))

    (repeat first | refine G1 ?_ | refine G2 ?_ | refine G3 ?_ | refine G4 ?_ | refine G5 rfl ?_ | refine G6 rfl ?_ | refine G7 rfl ?_)
    (refine Run.ret1 Tryd.results65 (by rfl) ?_)
    (focus ((repeat first | refine E1 ?_ ?_ | refine E2 ?_ | refine E3 ?_ | refine E4 ?_ | refine E5 ?_ | refine E6 ?_ | refine E7 ?_ | refine E8 ?_); exact E9; all_goals try first | rfl | assumption | omega))
    simp [atI, c]
theorem look_ct (ρ : Frag) (b : Nat) (p : PropS) (q : PropV) (id : Int) (T : Nat) (h0 : 0 ≤ id) (h1 : id < p.fl.length) (hcl : p.fl.length = p.cl.length) (hr : Room p T) (hT : T < 4398046511104) :
    Ct Tryd.prog 66 [ptr b, int id] ρ (PropF b p q) (fun r => [hex fun q' => stars (PropF b (p.look id) q')]) := by
  have hrl := hr.loose
  (refine Ct.of_run Tryd.func66 rfl Tryd.ntmps66 rfl (Nat.le_of_ble_eq_true rfl) ?_)
  refine Run.bagLen (K := KInt) (ss := q.cs) (xs := p.cl) (by (repeat (first | with_reducible exact Pick.here | with_reducible apply Pick.there))) fun hb => ?_
  have hzl := zip_len (cs := q.cs) (fl := p.fl) (by omega)
  have hzr := zip_rd (cs := q.cs) (fl := p.fl) (i := id) (by omega) h0 h1
  (repeat first | refine G1 ?_ | refine G2 ?_ | refine G3 ?_ | refine G4 ?_ | refine G5 rfl ?_ | refine G6 rfl ?_ | refine G7 rfl ?_)
  (focus (refine R0 ?_; refine lM ?_; refine lN ?_; refine lG ?_; refine lL ?_; refine lM ?_; refine lX ?_; refine lG ?_; (refine lv (by exact YlE rfl (by (first | exact Reads.rhoArr (by assumption) | exact Reads.arr (by (repeat (first | with_reducible exact Pick.here | with_reducible apply Pick.there))) | exact Reads.rho (by assumption))) (by omega) (by omega) (by rw [hzr]; rfl)) ?_); refine lv (by first | exact YnP | exact Ynt) ?_; refine R1 ?_; rotate_left))

  refine Run.cond rfl (fun c => ?_) (fun c => ?_)
  · have c' : (rd p.fl id).2 = false := by simpa using c
    (repeat first | refine G1 ?_ | refine G2 ?_ | refine G3 ?_ | refine G4 ?_ | refine G5 rfl ?_ | refine G6 rfl ?_ | refine G7 rfl ?_)
    (focus (refine R0 ?_; refine lM ?_; refine lN ?_; refine lG ?_; refine lL ?_; refine lM ?_; refine lX ?_; refine lG ?_; (refine ln (by exact Dst rfl rfl rfl (Poke.el (by (repeat (first | with_reducible exact Pick.here | with_reducible apply Pick.there))) (by omega) (by omega) (rd q.cs id, (rd p.fl id).1, true) (Nat.le_of_ble_eq_true rfl) (by rw [hzr]; rfl))) ?_); intro _; (try dsimp only [List.cons_append, List.nil_append, List.append_nil]); refine R1 ?_; rotate_left))

    (repeat first | refine G1 ?_ | refine G2 ?_ | refine G3 ?_ | refine G4 ?_ | refine G5 rfl ?_ | refine G6 rfl ?_ | refine G7 rfl ?_)
    (focus (refine R0 ?_; refine lM ?_; refine lM ?_; refine lN ?_; refine lG ?_; refine lL ?_; refine lM ?_; refine leS (by exact Db1) ?_; intro v26; (try dsimp only [List.cons_append, List.nil_append, List.append_nil]); refine leS (by exact Dap) ?_; intro v27; (try dsimp only [List.cons_append, List.nil_append, List.append_nil]); (repeat (refine RunL.unpu fun h27 => ?_; try subst h27)); refine lN ?_; refine lG ?_; refine ln (by exact Dst) ?_; intro _; (try dsimp only [List.cons_append, List.nil_append, List.append_nil]); refine R1 ?_; rotate_left))

    (repeat first | refine G1 ?_ | refine G2 ?_ | refine G3 ?_ | refine G4 ?_ | refine G5 rfl ?_ | refine G6 rfl ?_ | refine G7 rfl ?_)
    (refine Run.fin0 Tryd.results66 ?_)
    have hw := zip_wr (cs := q.cs) (fl := p.fl) (i := id) (c := rd q.cs id) (f := ((rd p.fl id).1, true))
    rw [wr_rd _ _ h0 (by omega)] at hw
    rw [hw]
    refine Ent.hex { q with vo := v27 } (Ent.flat ?_)
    simp only [PropS.look, c', if_false, Bool.false_eq_true]
    (focus ((repeat first | refine E1 ?_ ?_ | refine E2 ?_ | refine E3 ?_ | refine E4 ?_ | refine E5 ?_ | refine E6 ?_ | refine E7 ?_ | refine E8 ?_); exact E9; all_goals try first | rfl | assumption | omega))
  · have c' : (rd p.fl id).2 = true := by simpa using c
    (repeat first | refine G1 ?_ | refine G2 ?_ | refine G3 ?_ | refine G4 ?_ | refine G5 rfl ?_ | refine G6 rfl ?_ | refine G7 rfl ?_)
    (refine Run.fin0 Tryd.results66 ?_)
    refine Ent.hex q (Ent.flat ?_)
    simp only [PropS.look, c', if_true]
    (focus ((repeat first | refine E1 ?_ ?_ | refine E2 ?_ | refine E3 ?_ | refine E4 ?_ | refine E5 ?_ | refine E6 ?_ | refine E7 ?_ | refine E8 ?_); exact E9; all_goals try first | rfl | assumption | omega))
/-- id stands among the watches of these. -/
def addWs (w : List (List Int)) (l : List Int) (id : Int) : List (List Int) := l.foldl (fun w x => wr w (atI x) (rd w (atI x) ++ [id])) w
def addW (w : List (List Int)) (l : List Int) (id : Int) : List (List Int) := if 1 < l.length then addWs w (l.take 2) id else w
/-- A clause more. -/
def PropS.add (p : PropS) (l : List Int) : PropS := PropS.look { p with cl := p.cl ++ [l], fl := p.fl ++ [(true, false)], watch := addW p.watch l p.cl.length } p.cl.length
theorem addWs_snoc (w : List (List Int)) (l : List Int) (x id : Int) : addWs w (l ++ [x]) id = wr (addWs w l id) (atI x) (rd (addWs w l id) (atI x) ++ [id]) := by simp [addWs]
theorem addWs_len (w : List (List Int)) (l : List Int) (id : Int) : (addWs w l id).length = w.length := by
  induction l generalizing w with
  | nil => rfl
  | cons x l ih => simp only [addWs, List.foldl_cons] at ih ⊢; rw [ih]; simp [wr]
theorem addWs_sum (n : Nat) (l : List Int) (id : Int) : ∀ (w : List (List Int)), w.length = 2 * n → (∀ x ∈ l, litOk n x) → ((addWs w l id).map List.length).sum = (w.map List.length).sum + l.length := by
  induction l with
  | nil => intro w _ _; rfl
  | cons x l ih =>
    intro w hw hx
    have hx0 := (hx x (by simp)).at
    have h1 := sum_wr (xs := w) (i := atI x) (y := rd w (atI x) ++ [id]) hx0.1 (by omega)
    have h2 := ih (wr w (atI x) (rd w (atI x) ++ [id])) (by simp [wr, hw]) (fun y hy => hx y (by simp [hy]))
    simp only [addWs, List.foldl_cons] at h2 ⊢
    rw [h2]; simp at h1 ⊢; omega
theorem prop_add1_ct (ρ : Frag) (b bb : Nat) (p : PropS) (q : PropV) (n : Nat) (x : Int) (hs : Sized p n) (hn : n ≤ 1000000) (hR : In (stars (PropF b p q)) ρ) (hB : In (Cells bb 74 [ptr b]) ρ) :
    Ct Tryd.prog 64 [int x, ptr bb] ρ [] (fun r => [pu (r = .bool (!isB x ((n : Int) - 1)))]) := by
  have hC := hR.stars_cons.1
  have hS : In (stars (AssF q.ba q.va p.vals)) ρ := In.ent (by (focus ((repeat first | refine E1 ?_ ?_ | refine E2 ?_ | refine E3 ?_ | refine E4 ?_ | refine E5 ?_ | refine E6 ?_ | refine E7 ?_ | refine E8 ?_); exact E9; all_goals try first | rfl | assumption | omega))) hR
  have hv := hs.vals
  have hp := hs.pos
  (refine Ct.of_run Tryd.func64 rfl Tryd.ntmps64 rfl (Nat.le_of_ble_eq_true rfl) ?_)
  (repeat first | refine G1 ?_ | refine G2 ?_ | refine G3 ?_ | refine G4 ?_ | refine G5 rfl ?_ | refine G6 rfl ?_ | refine G7 rfl ?_)
  (focus (refine R0 ?_; refine lA ?_; refine R1 ?_; rotate_left))

  (repeat first | refine G1 ?_ | refine G2 ?_ | refine G3 ?_ | refine G4 ?_ | refine G5 rfl ?_ | refine G6 rfl ?_ | refine G7 rfl ?_)
  (focus (refine R0 ?_; refine lM ?_; refine lL ?_; refine lN ?_; refine lG ?_; refine lL ?_; refine lc [] rfl rfl (fun _ hle hA => ass_vars_ct _ q.ba q.va p.vals (hS.mono hle)) ?_; intro v9; (try dsimp only [List.cons_append, List.nil_append, List.append_nil]); (repeat (refine RunL.unpu fun h9 => ?_; try subst h9)); refine lc [] rfl rfl (fun _ hle hA => is_lit_ct _ x ((p.vals.length : Int) - 1) (by omega) (by omega)) ?_; intro v10; (try dsimp only [List.cons_append, List.nil_append, List.append_nil]); (repeat (refine RunL.unpu fun h10 => ?_; try subst h10)); refine lv (by first | exact YnP | exact Ynt) ?_; refine lA ?_; refine R1 ?_; rotate_left))

  (repeat first | refine G1 ?_ | refine G2 ?_ | refine G3 ?_ | refine G4 ?_ | refine G5 rfl ?_ | refine G6 rfl ?_ | refine G7 rfl ?_)
  (refine Run.ret1 Tryd.results64 (by rfl) ?_)
  (focus ((repeat first | refine E1 ?_ ?_ | refine E2 ?_ | refine E3 ?_ | refine E4 ?_ | refine E5 ?_ | refine E6 ?_ | refine E7 ?_ | refine E8 ?_); exact E9; all_goals try first | rfl | assumption | omega))
  rw [hv]
  simp only [isB, decide_not]
theorem Reads.cutTo {C : Cx} {L : List HP} {α : Type} {K : EK α} [hK : EKOk C.P K] {v : Value} {xs : List α} {n : Int} (r : Reads C L (RArr K v xs)) (h0 : 0 ≤ n) (h1 : n ≤ xs.length) : Reads C L (RArr K (cutTo v n) (xs.take n.toNat)) :=
  r.mono fun _ a => RArr.cut (P := C.P) a h0 h1
theorem prop_add_ct (ρ : Frag) (b : Nat) (p : PropS) (q : PropV) (c : SV) (xs : List Int) (n T : Nat) (hs : Sized p n) (hn : n ≤ 1000000) (hcl : p.fl.length = p.cl.length) (hr : Room p T) (hT : T + 4 < 4398046511104)
    (hc : In (RArr KInt c.v xs) ρ) (hb : ∀ x ∈ xs, Tame x) :
    Ct Tryd.prog 55 [ptr b, c.v] ρ (PropF b p q) (fun r => [hex fun l : List Int => hex fun ok : Bool => hex fun q' => stars (pu (r = .tuple #[int (if ok then p.cl.length else 0), .bool ok] ∧ ∃ says, NormR xs l says ∧ ok = (says && l.all fun x => isB x ((n : Int) - 1))) ::
      PropF b (if ok then p.add l else p) q')]) := by
  have hrc := hr.cl
  have hrl := hr.loose
  have hrw := hr.watch
  have hwl := hs.watch
  (refine Ct.of_run Tryd.func55 rfl Tryd.ntmps55 rfl (Nat.le_of_ble_eq_true rfl) ?_)
  refine Run.bagLen (K := KInt) (ss := q.cs) (xs := p.cl) (by (repeat (first | with_reducible exact Pick.here | with_reducible apply Pick.there))) fun hbl => ?_
  refine Run.bagLen (K := KInt) (ss := q.ws) (xs := p.watch) (by (repeat (first | with_reducible exact Pick.here | with_reducible apply Pick.there))) fun hwb => ?_
  have hzl := zip_len (cs := q.cs) (fl := p.fl) (by omega)
  (repeat first | refine G1 ?_ | refine G2 ?_ | refine G3 ?_ | refine G4 ?_ | refine G5 rfl ?_ | refine G6 rfl ?_ | refine G7 rfl ?_)
  (focus (refine R0 ?_; refine le (by exact Dbx) ?_; intro v2; (try dsimp only [List.cons_append, List.nil_append, List.append_nil]); refine RunL.unhex fun b2 => ?_; refine RunL.unhex fun hb => ?_; subst hb; refine lA ?_; refine lA ?_; refine R1 ?_; rotate_left))

  (repeat first | refine G1 ?_ | refine G2 ?_ | refine G3 ?_ | refine G4 ?_ | refine G5 rfl ?_ | refine G6 rfl ?_ | refine G7 rfl ?_)
  (repeat first | refine G1 ?_ | refine G2 ?_ | refine G3 ?_ | refine G4 ?_ | refine G5 rfl ?_ | refine G6 rfl ?_ | refine G7 rfl ?_)
  (focus (refine R0 ?_; refine lM ?_; refine lc [] rfl rfl (fun _ hle hA => norm_ct _ c xs (hc.mono hle) hb) ?_; intro v13; (try dsimp only [List.cons_append, List.nil_append, List.append_nil]); (repeat (refine RunL.unpu fun h13 => ?_; try subst h13)); (refine RunL.unhex fun t => RunL.unhex fun l => RunL.unhex fun says => RunL.flat ?_; ((dsimp only [PropF, HAppend.hAppend, Append.append, List.append, List.cons_append, List.nil_append, List.append_nil]); (try simp only [List.append_eq])); refine RunL.unpu fun h => ?_; obtain ⟨rfl, hN⟩ := h); refine lM ?_; refine lv (by exact Yxt) ?_; refine lv (by exact Yxt) ?_; refine lA ?_; refine lA ?_; refine R1 ?_; rotate_left))

  (repeat first | refine G1 ?_ | refine G2 ?_ | refine G3 ?_ | refine G4 ?_ | refine G5 rfl ?_ | refine G6 rfl ?_ | refine G7 rfl ?_)
  have bad : ∀ (hok : (says && l.all fun x => isB x ((n : Int) - 1)) = false), Ent (Arr KInt t.v l :: Cells b2 74 [ptr b] :: PropF b p q)
      [hex fun l : List Int => hex fun ok : Bool => hex fun q' => stars (pu (Value.tuple #[int 0, .bool false] = .tuple #[int (if ok then p.cl.length else 0), .bool ok] ∧ ∃ says, NormR xs l says ∧ ok = (says && l.all fun x => isB x ((n : Int) - 1))) :: PropF b (if ok then p.add l else p) q')] := by
    intro hok
    refine Ent.hex l (Ent.hex false (Ent.hex q (Ent.flat (Ent.pu ⟨rfl, says, hN, hok.symm⟩ ?_))))
    rw [show (if false = true then p.add l else p) = p from rfl]
    (focus ((repeat first | refine E1 ?_ ?_ | refine E2 ?_ | refine E3 ?_ | refine E4 ?_ | refine E5 ?_ | refine E6 ?_ | refine E7 ?_ | refine E8 ?_); exact E9; all_goals try first | rfl | assumption | omega))
  (repeat first | refine G1 ?_ | refine G2 ?_ | refine G3 ?_ | refine G4 ?_ | refine G5 rfl ?_ | refine G6 rfl ?_ | refine G7 rfl ?_)
  (focus (refine R0 ?_; refine lM ?_; refine lv (by first | exact YnP | exact Ynt) ?_; refine lM ?_; (first | refine RunL.knownP (t := 18) rfl (fun c18 => ?_) (fun c18 => ?_) | refine RunL.known (t := 18) rfl (fun c18 => ?_) (fun c18 => ?_)); refine lF ?_; refine lF ?_; refine lF ?_; refine lv (by first | exact YpT | exact YpF | exact Yields.pickB rfl rfl rfl) ?_; refine R1 ?_; rotate_left; refine lT ?_; refine lM ?_; refine lT ?_; refine lv (by exact Ymf) ?_; refine lT ?_; refine lc (Arr KInt t.v l :: Cells b2 74 [ptr b] :: PropF b p q) rfl rfl (fun _ hle hA => containsFunc_ct _ t l 64 #[] #[ptr b2] (fun x => !isB x ((n : Int) - 1)) hA.stars_cons.1.read (fun x _ ρ' h' => prop_add1_ct ρ' b b2 p q n x hs hn (hA.stars_cons.2.stars_cons.2.mono h') (hA.stars_cons.2.stars_cons.1.mono h'))) ?_; intro v21; (try dsimp only [List.cons_append, List.nil_append, List.append_nil]); (repeat (refine RunL.unpu fun h21 => ?_; try subst h21)); refine lv (by first | exact YpT | exact YpF | exact Yields.pickB rfl rfl rfl) ?_; refine R1 ?_; rotate_left))

  (repeat first | refine G1 ?_ | refine G2 ?_ | refine G3 ?_ | refine G4 ?_ | refine G5 rfl ?_ | refine G6 rfl ?_ | refine G7 rfl ?_)
  · have hs0 : says = false := by simpa using c18
    (repeat first | refine G1 ?_ | refine G2 ?_ | refine G3 ?_ | refine G4 ?_ | refine G5 rfl ?_ | refine G6 rfl ?_ | refine G7 rfl ?_)
    (focus (refine R0 ?_; refine lA ?_; refine lA ?_; refine R1 ?_; rotate_left))

    (repeat first | refine G1 ?_ | refine G2 ?_ | refine G3 ?_ | refine G4 ?_ | refine G5 rfl ?_ | refine G6 rfl ?_ | refine G7 rfl ?_)
    (refine Run.ret2 Tryd.results55 (by rfl) (by rfl) ?_)
    exact bad (by rw [hs0]; rfl)
  · have hs1 : says = true := by simpa using c18
    subst hs1
    refine Run.cond rfl (fun c2 => ?_) (fun c2 => ?_)
    · (repeat first | refine G1 ?_ | refine G2 ?_ | refine G3 ?_ | refine G4 ?_ | refine G5 rfl ?_ | refine G6 rfl ?_ | refine G7 rfl ?_)
      (focus (refine R0 ?_; refine lA ?_; refine lA ?_; refine R1 ?_; rotate_left))

      (repeat first | refine G1 ?_ | refine G2 ?_ | refine G3 ?_ | refine G4 ?_ | refine G5 rfl ?_ | refine G6 rfl ?_ | refine G7 rfl ?_)
      (refine Run.ret2 Tryd.results55 (by rfl) (by rfl) ?_)
      refine bad ?_
      rw [Bool.true_and, List.all_eq_false]
      obtain ⟨x, hx, hx2⟩ := List.any_eq_true.1 c2
      exact ⟨x, hx, by simpa using hx2⟩
    · have hall : (l.all fun x => isB x ((n : Int) - 1)) = true := by
        rw [List.all_eq_true]
        intro x hx
        have := List.any_eq_false.1 c2 x hx
        simpa using this
      have hlit : ∀ x ∈ l, litOk n x := fun x hx => isB_litOk.1 (List.all_eq_true.1 hall x hx)
      have hln : l.length ≤ xs.length := hN.len
      have h64 := In.i64 hc
      have hze : zipC q.cs p.fl ++ [(t, true, false)] = zipC (q.cs ++ [t]) (p.fl ++ [(true, false)]) := by
        simp only [zipC]
        rw [List.zip_append (by omega)]; rfl
      (repeat first | refine G1 ?_ | refine G2 ?_ | refine G3 ?_ | refine G4 ?_ | refine G5 rfl ?_ | refine G6 rfl ?_ | refine G7 rfl ?_)
      (focus (refine R0 ?_; refine lL ?_; refine lN ?_; refine lG ?_; refine lL ?_; refine lE ?_; refine lA ?_; refine R1 ?_; rotate_left))

      (repeat first | refine G1 ?_ | refine G2 ?_ | refine G3 ?_ | refine G4 ?_ | refine G5 rfl ?_ | refine G6 rfl ?_ | refine G7 rfl ?_)
      (focus (refine Run.planS mixed (.take 0 (.take 1 (.take 2 (.take 3 (.take 4 (.take 5 (.take 6 (.alt 7 (.alt 8 (.take 9 (.take 10 (.alt 11 (.done) (.nomore)))) (.nomore)) (.nomore))))))))) [(some 28, [2], []), (some 29, [2], []), (some 30, [29], [1]), (some 31, [30], [2]), (some 32, [31], [3]), (some 33, [6], []), (some 34, [33], [5]), (some 35, [34], [6]), (some 36, [32, 35], [4, 7]), (some 37, [28], [0, 0, 1, 2, 3, 4, 5, 6, 7, 8]), (some 38, [37], [9, 0, 1, 2, 3, 4, 5, 6, 7, 8]), (none, [38, 36], [10, 8, 8, 0, 1, 2, 3, 4, 5, 6, 7, 8])] (by kernel_rfl) (by kernel_rfl) (by kernel_rfl) ?_; refine dL rfl ?_; refine dL rfl ?_; refine dN rfl ?_; refine dG rfl ?_; refine dL rfl ?_; refine dM rfl ?_; refine dv rfl (by exact Ybd2 rfl rfl) ?_; refine R3 ?_; refine deS [(5, _), (4, _), (3, _), (2, _), (1, _), (0, _)] rfl (by exact Db1) rfl ?_ ?_; (focus (intro _; (try dsimp only [List.cons_append, List.nil_append, List.append_nil]); refine sM rfl ?_; refine sL rfl ?_; refine sG rfl ?_; refine sN rfl ?_; refine sL rfl ?_; refine sL rfl ?_; exact Still.nil)); intro v35; (try dsimp only [List.cons_append, List.nil_append, List.append_nil]); refine R3 ?_; refine deS [(5, _), (3, _), (2, _), (1, _), (0, _)] rfl (by exact Dap) rfl ?_ ?_; (focus (intro _; (try dsimp only [List.cons_append, List.nil_append, List.append_nil]); refine sM rfl ?_; refine sG rfl ?_; refine sN rfl ?_; refine sL rfl ?_; refine sL rfl ?_; exact Still.nil)); intro v36; (try dsimp only [List.cons_append, List.nil_append, List.append_nil]); (repeat (refine RunD.unpu fun h36 => ?_; try subst h36)); refine dN rfl ?_; refine dG rfl ?_; refine R3 ?_; refine dn [(9, _)] rfl (by exact Dst) rfl ?_ ?_; (focus (intro _; (try dsimp only [List.cons_append, List.nil_append, List.append_nil]); refine sN rfl ?_; exact Still.nil)); intro _; (try dsimp only [List.cons_append, List.nil_append, List.append_nil]); refine R2 ?_; rotate_left))

      (repeat first | refine G1 ?_ | refine G2 ?_ | refine G3 ?_ | refine G4 ?_ | refine G5 rfl ?_ | refine G6 rfl ?_ | refine G7 rfl ?_)
      rw [hze, hzl, hcl]
      have hsumW : ((addW p.watch l p.cl.length).map List.length).sum ≤ T + 2 := by
        unfold addW
        split
        · rw [addWs_sum n _ _ _ hwl (fun x hx => hlit x (List.mem_of_mem_take hx)), List.length_take]; omega
        · omega
      have hroom : Room { p with cl := p.cl ++ [l], fl := p.fl ++ [(true, false)], watch := addW p.watch l p.cl.length } (T + 2) := ⟨by simp; omega, by dsimp only; omega, hsumW⟩
      (repeat first | refine G1 ?_ | refine G2 ?_ | refine G3 ?_ | refine G4 ?_ | refine G5 rfl ?_ | refine G6 rfl ?_ | refine G7 rfl ?_)
      (focus (refine R0 ?_; refine lM ?_; refine lE ?_; refine lv (by exact Ygt) ?_; refine R1 ?_; rotate_left))

      (repeat first | refine G1 ?_ | refine G2 ?_ | refine G3 ?_ | refine G4 ?_ | refine G5 rfl ?_ | refine G6 rfl ?_ | refine G7 rfl ?_)
      refine Run.condP rfl (fun c4 => ?_) (fun c4 => ?_)
      · (repeat first | refine G1 ?_ | refine G2 ?_ | refine G3 ?_ | refine G4 ?_ | refine G5 rfl ?_ | refine G6 rfl ?_ | refine G7 rfl ?_)
        (focus (refine R0 ?_; refine lM ?_; refine lv (by exact Yst) ?_; refine lv (by exact Yln (K := KInt) (xs := l.take 2) rfl (Reads.cutTo (by (first | exact Reads.rhoArr (by assumption) | exact Reads.arr (by (repeat (first | with_reducible exact Pick.here | with_reducible apply Pick.there))) | exact Reads.rho (by assumption))) (by omega) (by omega))) ?_; refine lM ?_; refine R1 ?_; rotate_left))

        (repeat first | refine G1 ?_ | refine G2 ?_ | refine G3 ?_ | refine G4 ?_ | refine G5 rfl ?_ | refine G6 rfl ?_ | refine G7 rfl ?_)
        have hl2 : (l.take 2).length = 2 := by rw [List.length_take]; omega
        have hsum : ∀ i : Int, 0 ≤ i → i ≤ 2 → ((addWs p.watch (l.take i.toNat) p.cl.length).map List.length).sum ≤ T + 2 := fun i h0 h1 => by
          rw [addWs_sum n _ _ _ hwl (fun x hx => hlit x (List.mem_of_mem_take hx)), List.length_take]; omega
        refine Run.loopI (X := Int × PropV) (fun x => [(2, ptr b2), (6, t.v), (8, int p.cl.length), (43, cutTo t.v 2), (44, int (l.take 2).length), (45, int x.1)])
          (fun x => pu (0 ≤ x.1 ∧ x.1 ≤ 2) :: Cells b2 74 [ptr b] :: Cells b 88 [ptr x.2.ba, x.2.vl.v, x.2.vr.v, x.2.vt.v, x.2.vm.v, int p.head, x.2.vc.v, x.2.vw.v, x.2.vo.v] :: Arr KInt t.v l :: Cells x.2.ba 105 [x.2.va.v] :: Arr KI8 x.2.va.v p.vals ::
            Arr KInt x.2.vl.v p.level :: Arr KInt x.2.vr.v p.reason :: Arr KInt x.2.vt.v p.trail :: Arr KInt x.2.vm.v p.marks :: Arr KCl x.2.vc.v (zipC (q.cs ++ [t]) (p.fl ++ [(true, false)])) :: Bag KInt q.cs p.cl :: Arr KSl x.2.vw.v x.2.ws :: Bag KInt x.2.ws (addWs p.watch (l.take x.1.toNat) p.cl.length) :: Arr KInt x.2.vo.v p.loose :: [])
          (fun x => (2 - x.1).toNat) (0, { q with vc := v36 }) (by (repeat (first | exact Sub.nil _ | refine Sub.cons rfl ?_))) ?_ ?_
        · show Ent _ (pu ((0 : Int) ≤ 0 ∧ (0 : Int) ≤ 2) :: Cells b2 _ _ :: _)
          rw [show addWs p.watch (l.take (Int.toNat 0)) p.cl.length = p.watch from rfl]
          (focus ((repeat first | refine E1 ?_ ?_ | refine E2 ?_ | refine E3 ?_ | refine E4 ?_ | refine E5 ?_ | refine E6 ?_ | refine E7 ?_ | refine E8 ?_); exact E9; all_goals try first | rfl | assumption | omega))
        · rintro ⟨i, q1⟩ ih
          refine Run.unpu fun hi => ?_
          obtain ⟨i0, i1⟩ := hi
          dsimp only at i0 i1 ⊢
          (repeat first | refine G1 ?_ | refine G2 ?_ | refine G3 ?_ | refine G4 ?_ | refine G5 rfl ?_ | refine G6 rfl ?_ | refine G7 rfl ?_)
          (focus (refine R0 ?_; refine lv (by exact Ylt) ?_; refine R1 ?_; rotate_left))

          (repeat first | refine G1 ?_ | refine G2 ?_ | refine G3 ?_ | refine G4 ?_ | refine G5 rfl ?_ | refine G6 rfl ?_ | refine G7 rfl ?_)
          refine Run.condP rfl (fun c5 => ?_) (fun c5 => ?_)
          · have hx : rd (l.take 2) i ∈ l := List.mem_of_mem_take (List.mem_of_getElem? (rd_some i0 (by omega)))
            have hxl := hlit _ hx
            have hat := hxl.at
            have hxb : -4611686018427387904 < rd (l.take 2) i ∧ rd (l.take 2) i < 4611686018427387904 := by simp only [litOk] at hxl; omega
            have hlw := addWs_len p.watch (l.take i.toNat) p.cl.length
            have hget := sum_get (xs := addWs p.watch (l.take i.toNat) p.cl.length) hat.1 (by omega)
            have hsi := hsum i i0 (by omega)
            refine Run.bagLen (K := KInt) (ss := q1.ws) (xs := addWs p.watch (l.take i.toNat) p.cl.length) (by (repeat (first | with_reducible exact Pick.here | with_reducible apply Pick.there))) fun hb1 => ?_
            (repeat first | refine G1 ?_ | refine G2 ?_ | refine G3 ?_ | refine G4 ?_ | refine G5 rfl ?_ | refine G6 rfl ?_ | refine G7 rfl ?_)
            (focus (refine R0 ?_; refine lv (by exact Yix (K := KInt) (xs := l.take 2) rfl rfl (Reads.cutTo (by (first | exact Reads.rhoArr (by assumption) | exact Reads.arr (by (repeat (first | with_reducible exact Pick.here | with_reducible apply Pick.there))) | exact Reads.rho (by assumption))) (by omega) (by omega)) (by omega) (by omega)) ?_; refine lv (by exact YlE (K := KInt) (xs := l.take 2) rfl (Reads.cutTo (by (first | exact Reads.rhoArr (by assumption) | exact Reads.arr (by (repeat (first | with_reducible exact Pick.here | with_reducible apply Pick.there))) | exact Reads.rho (by assumption))) (by omega) (by omega)) (by omega) (by omega)) ?_; refine lA ?_; refine R1 ?_; rotate_left))

            refine Run.pick (Pick.focus (K := KInt) (ss := q1.ws) (xs := addWs p.watch (l.take i.toNat) p.cl.length) (atI (rd (l.take 2) i)) (by (repeat (first | with_reducible exact Pick.here | with_reducible apply Pick.there))) hat.1 (by omega)) ?_
            (repeat first | refine G1 ?_ | refine G2 ?_ | refine G3 ?_ | refine G4 ?_ | refine G5 rfl ?_ | refine G6 rfl ?_ | refine G7 rfl ?_)
            (focus (refine Run.planS mixed (.take 0 (.take 1 (.take 2 (.take 3 (.take 4 (.take 6 (.take 7 (.take 8 (.take 9 (.take 10 (.take 14 (.alt 5 (.alt 11 (.take 12 (.take 13 (.alt 15 (.alt 16 (.take 17 (.alt 18 (.done) (.nomore))) (.nomore)) (.nomore)))) (.alt 15 (.alt 11 (.take 12 (.take 13 (.alt 16 (.take 17 (.alt 18 (.done) (.nomore))) (.nomore)))) (.nomore)) (.nomore))) (.alt 15 (.alt 5 (.alt 11 (.take 12 (.take 13 (.alt 16 (.take 17 (.alt 18 (.done) (.nomore))) (.nomore)))) (.nomore)) (.nomore)) (.nomore)))))))))))))) [(some 49, [2], []), (some 50, [49], [0]), (some 51, [50], [1]), (some 52, [51], [2]), (some 53, [10], []), (some 54, [53], [4]), (some 55, [2], []), (some 56, [55], [6]), (some 57, [56], [7]), (some 58, [57], [8]), (some 59, [10], []), (some 60, [59], [10, 5]), (some 61, [58, 60], [9, 11]), (some 62, [61], [12]), (some 63, [8], []), (some 64, [63], [14]), (some 65, [62, 64], [13, 15, 11]), (some 66, [52, 54], [3, 5, 0, 1, 2, 3, 4, 5, 6, 7, 8, 9, 10, 11, 12, 13, 14, 15, 16]), (none, [66, 65], [17, 16, 16, 0, 1, 2, 3, 4, 5, 6, 7, 8, 9, 10, 11, 12, 13, 14, 15, 16])] (by kernel_rfl) (by kernel_rfl) (by kernel_rfl) ?_; refine dL rfl ?_; refine dN rfl ?_; refine dG rfl ?_; refine dL rfl ?_; refine dM rfl ?_; refine dL rfl ?_; refine dN rfl ?_; refine dG rfl ?_; refine dL rfl ?_; refine dM rfl ?_; refine dM rfl ?_; refine RunD.alt ?_ ?_; refine de [(14, _), (10, _), (9, _), (8, _), (7, _), (6, _), (3, _), (2, _), (1, _), (0, _)] rfl (by exact Dcl [] rfl rfl (fun _ hle hA => at_ct _ (rd (l.take 2) i) hxb.1 hxb.2)) rfl ?_ ?_; (focus (intro _; (try dsimp only [List.cons_append, List.nil_append, List.append_nil]); refine sM rfl ?_; refine sM rfl ?_; refine sL rfl ?_; refine sG rfl ?_; refine sN rfl ?_; refine sL rfl ?_; refine sL rfl ?_; refine sG rfl ?_; refine sN rfl ?_; refine sL rfl ?_; exact Still.nil)); intro v54; (try dsimp only [List.cons_append, List.nil_append, List.append_nil]); (repeat (refine RunD.unpu fun h54 => ?_; try subst h54)); refine RunD.alt ?_ ?_; refine de [(14, _), (9, _), (8, _), (7, _), (6, _), (3, _), (2, _), (1, _), (0, _)] rfl (by exact Dcl [] rfl rfl (fun _ hle hA => at_ct _ (rd (l.take 2) i) hxb.1 hxb.2)) rfl ?_ ?_; (focus (intro _; (try dsimp only [List.cons_append, List.nil_append, List.append_nil]); refine sM rfl ?_; refine sL rfl ?_; refine sG rfl ?_; refine sN rfl ?_; refine sL rfl ?_; refine sL rfl ?_; refine sG rfl ?_; refine sN rfl ?_; refine sL rfl ?_; exact Still.nil)); intro v60; (try dsimp only [List.cons_append, List.nil_append, List.append_nil]); (repeat (refine RunD.unpu fun h60 => ?_; try subst h60)); refine dX rfl ?_; refine dL rfl ?_; refine R3 ?_; refine deS [(13, _), (12, _), (9, _), (8, _), (7, _), (6, _), (3, _), (2, _), (1, _), (0, _)] rfl (by exact Db1) rfl ?_ ?_; (focus (intro _; (try dsimp only [List.cons_append, List.nil_append, List.append_nil]); refine sL rfl ?_; refine sX rfl ?_; refine sL rfl ?_; refine sG rfl ?_; refine sN rfl ?_; refine sL rfl ?_; refine sL rfl ?_; refine sG rfl ?_; refine sN rfl ?_; refine sL rfl ?_; exact Still.nil)); intro v64; (try dsimp only [List.cons_append, List.nil_append, List.append_nil]); refine R3 ?_; refine deS [(12, _), (9, _), (8, _), (7, _), (6, _), (3, _), (2, _), (1, _), (0, _)] rfl (by exact Dap) rfl ?_ ?_; (focus (intro _; (try dsimp only [List.cons_append, List.nil_append, List.append_nil]); refine sX rfl ?_; refine sL rfl ?_; refine sG rfl ?_; refine sN rfl ?_; refine sL rfl ?_; refine sL rfl ?_; refine sG rfl ?_; refine sN rfl ?_; refine sL rfl ?_; exact Still.nil)); intro v65; (try dsimp only [List.cons_append, List.nil_append, List.append_nil]); (repeat (refine RunD.unpu fun h65 => ?_; try subst h65)); refine dX rfl ?_; refine R3 ?_; refine dn [] rfl (by exact Dst) rfl ?_ ?_; (focus (intro _; (try dsimp only [List.cons_append, List.nil_append, List.append_nil]); exact Still.nil)); intro _; (try dsimp only [List.cons_append, List.nil_append, List.append_nil]); refine R2 ?_; rotate_left; refine RunR.alt ?_ ?_; refine deS [(10, _), (9, _), (8, _), (7, _), (6, _), (3, _), (2, _), (1, _), (0, _)] rfl (by exact Db1) rfl ?_ ?_; (focus (intro _; (try dsimp only [List.cons_append, List.nil_append, List.append_nil]); refine sM rfl ?_; refine sL rfl ?_; refine sG rfl ?_; refine sN rfl ?_; refine sL rfl ?_; refine sL rfl ?_; refine sG rfl ?_; refine sN rfl ?_; refine sL rfl ?_; exact Still.nil)); intro v64; (try dsimp only [List.cons_append, List.nil_append, List.append_nil]); refine R3 ?_; refine de [(9, _), (8, _), (7, _), (6, _), (3, _), (2, _), (1, _), (0, _)] rfl (by exact Dcl [] rfl rfl (fun _ hle hA => at_ct _ (rd (l.take 2) i) hxb.1 hxb.2)) rfl ?_ ?_; (focus (intro _; (try dsimp only [List.cons_append, List.nil_append, List.append_nil]); refine sL rfl ?_; refine sG rfl ?_; refine sN rfl ?_; refine sL rfl ?_; refine sL rfl ?_; refine sG rfl ?_; refine sN rfl ?_; refine sL rfl ?_; exact Still.nil)); intro v60; (try dsimp only [List.cons_append, List.nil_append, List.append_nil]); (repeat (refine RunD.unpu fun h60 => ?_; try subst h60)); refine dX rfl ?_; refine dL rfl ?_; refine R3 ?_; refine deS [(12, _), (9, _), (8, _), (7, _), (6, _), (3, _), (2, _), (1, _), (0, _)] rfl (by exact Dap) rfl ?_ ?_; (focus (intro _; (try dsimp only [List.cons_append, List.nil_append, List.append_nil]); refine sX rfl ?_; refine sL rfl ?_; refine sG rfl ?_; refine sN rfl ?_; refine sL rfl ?_; refine sL rfl ?_; refine sG rfl ?_; refine sN rfl ?_; refine sL rfl ?_; exact Still.nil)); intro v65; (try dsimp only [List.cons_append, List.nil_append, List.append_nil]); (repeat (refine RunD.unpu fun h65 => ?_; try subst h65)); refine dX rfl ?_; refine R3 ?_; refine dn [] rfl (by exact Dst) rfl ?_ ?_; (focus (intro _; (try dsimp only [List.cons_append, List.nil_append, List.append_nil]); exact Still.nil)); intro _; (try dsimp only [List.cons_append, List.nil_append, List.append_nil]); refine R2 ?_; rotate_left; exact RunR.nomore; refine RunR.alt ?_ ?_; refine deS [(10, _), (9, _), (8, _), (7, _), (6, _), (4, _), (3, _), (2, _), (1, _), (0, _)] rfl (by exact Db1) rfl ?_ ?_; (focus (intro _; (try dsimp only [List.cons_append, List.nil_append, List.append_nil]); refine sM rfl ?_; refine sL rfl ?_; refine sG rfl ?_; refine sN rfl ?_; refine sL rfl ?_; refine sM rfl ?_; refine sL rfl ?_; refine sG rfl ?_; refine sN rfl ?_; refine sL rfl ?_; exact Still.nil)); intro v64; (try dsimp only [List.cons_append, List.nil_append, List.append_nil]); refine R3 ?_; refine de [(10, _), (9, _), (8, _), (7, _), (6, _), (3, _), (2, _), (1, _), (0, _)] rfl (by exact Dcl [] rfl rfl (fun _ hle hA => at_ct _ (rd (l.take 2) i) hxb.1 hxb.2)) rfl ?_ ?_; (focus (intro _; (try dsimp only [List.cons_append, List.nil_append, List.append_nil]); refine sM rfl ?_; refine sL rfl ?_; refine sG rfl ?_; refine sN rfl ?_; refine sL rfl ?_; refine sL rfl ?_; refine sG rfl ?_; refine sN rfl ?_; refine sL rfl ?_; exact Still.nil)); intro v54; (try dsimp only [List.cons_append, List.nil_append, List.append_nil]); (repeat (refine RunD.unpu fun h54 => ?_; try subst h54)); refine R3 ?_; refine de [(9, _), (8, _), (7, _), (6, _), (3, _), (2, _), (1, _), (0, _)] rfl (by exact Dcl [] rfl rfl (fun _ hle hA => at_ct _ (rd (l.take 2) i) hxb.1 hxb.2)) rfl ?_ ?_; (focus (intro _; (try dsimp only [List.cons_append, List.nil_append, List.append_nil]); refine sL rfl ?_; refine sG rfl ?_; refine sN rfl ?_; refine sL rfl ?_; refine sL rfl ?_; refine sG rfl ?_; refine sN rfl ?_; refine sL rfl ?_; exact Still.nil)); intro v60; (try dsimp only [List.cons_append, List.nil_append, List.append_nil]); (repeat (refine RunD.unpu fun h60 => ?_; try subst h60)); refine dX rfl ?_; refine dL rfl ?_; refine R3 ?_; refine deS [(12, _), (9, _), (8, _), (7, _), (6, _), (3, _), (2, _), (1, _), (0, _)] rfl (by exact Dap) rfl ?_ ?_; (focus (intro _; (try dsimp only [List.cons_append, List.nil_append, List.append_nil]); refine sX rfl ?_; refine sL rfl ?_; refine sG rfl ?_; refine sN rfl ?_; refine sL rfl ?_; refine sL rfl ?_; refine sG rfl ?_; refine sN rfl ?_; refine sL rfl ?_; exact Still.nil)); intro v65; (try dsimp only [List.cons_append, List.nil_append, List.append_nil]); (repeat (refine RunD.unpu fun h65 => ?_; try subst h65)); refine dX rfl ?_; refine R3 ?_; refine dn [] rfl (by exact Dst) rfl ?_ ?_; (focus (intro _; (try dsimp only [List.cons_append, List.nil_append, List.append_nil]); exact Still.nil)); intro _; (try dsimp only [List.cons_append, List.nil_append, List.append_nil]); refine R2 ?_; rotate_left; exact RunR.nomore))

            (repeat first | refine G1 ?_ | refine G2 ?_ | refine G3 ?_ | refine G4 ?_ | refine G5 rfl ?_ | refine G6 rfl ?_ | refine G7 rfl ?_)
            all_goals
              (repeat first | refine G1 ?_ | refine G2 ?_ | refine G3 ?_ | refine G4 ?_ | refine G5 rfl ?_ | refine G6 rfl ?_ | refine G7 rfl ?_)
              (focus (refine R0 ?_; refine lv (by exact Yad) ?_; refine lM ?_; refine R1 ?_; rotate_left))

              (repeat first | refine G1 ?_ | refine G2 ?_ | refine G3 ?_ | refine G4 ?_ | refine G5 rfl ?_ | refine G6 rfl ?_ | refine G7 rfl ?_)
              refine Run.weaken (by (repeat (first | exact Sub.nil _ | refine Sub.cons rfl ?_))) ?_ (ih (i + 1, { q1 with ws := wr q1.ws (atI (rd (l.take 2) i)) v65 }) (by dsimp only; omega))
              dsimp only
              have e1 : rd l i = rd (l.take 2) i := by
                simp only [rd, List.getD_eq_getElem?_getD, List.getElem?_take]
                rw [if_pos (by omega)]
              rw [take_snoc l i i0 (by omega), e1, addWs_snoc]
              (focus ((repeat first | refine E1 ?_ ?_ | refine E2 ?_ | refine E3 ?_ | refine E4 ?_ | refine E5 ?_ | refine E6 ?_ | refine E7 ?_ | refine E8 ?_); exact E9; all_goals try first | rfl | assumption | omega))
          · have e2 : i = 2 := by omega
            subst e2
            have e3 : addW p.watch l p.cl.length = addWs p.watch (l.take (Int.toNat 2)) p.cl.length := by unfold addW; rw [if_pos (by omega)]; rfl
            (repeat first | refine G1 ?_ | refine G2 ?_ | refine G3 ?_ | refine G4 ?_ | refine G5 rfl ?_ | refine G6 rfl ?_ | refine G7 rfl ?_)
            rw [← e3]
            (repeat first | refine G1 ?_ | refine G2 ?_ | refine G3 ?_ | refine G4 ?_ | refine G5 rfl ?_ | refine G6 rfl ?_ | refine G7 rfl ?_)
            (focus (refine R0 ?_; refine lL ?_; refine lM ?_; refine RunL.ent (L' := PropF b { p with cl := p.cl ++ [l], fl := p.fl ++ [(true, false)], watch := addW p.watch l p.cl.length } { q1 with cs := q.cs ++ [t] }) (by (focus ((repeat first | refine E1 ?_ ?_ | refine E2 ?_ | refine E3 ?_ | refine E4 ?_ | refine E5 ?_ | refine E6 ?_ | refine E7 ?_ | refine E8 ?_); exact E9; all_goals try first | rfl | assumption | omega))) ?_; (refine lc [] rfl rfl (fun _ hle hA => look_ct _ b { p with cl := p.cl ++ [l], fl := p.fl ++ [(true, false)], watch := addW p.watch l p.cl.length } { q1 with cs := q.cs ++ [t] } p.cl.length (T + 2) (by omega) (by simp; omega) (by simp [hcl]) hroom (by omega)) ?_); intro v70; (try dsimp only [List.cons_append, List.nil_append, List.append_nil]); (repeat (refine RunL.unpu fun h70 => ?_; try subst h70)); (refine RunL.unhex fun q2 => RunL.flat ?_; ((dsimp only [PropF, HAppend.hAppend, Append.append, List.append, List.cons_append, List.nil_append, List.append_nil]); (try simp only [List.append_eq]))); refine R1 ?_; rotate_left))

            (repeat first | refine G1 ?_ | refine G2 ?_ | refine G3 ?_ | refine G4 ?_ | refine G5 rfl ?_ | refine G6 rfl ?_ | refine G7 rfl ?_)
            (repeat first | refine G1 ?_ | refine G2 ?_ | refine G3 ?_ | refine G4 ?_ | refine G5 rfl ?_ | refine G6 rfl ?_ | refine G7 rfl ?_)
            (focus (refine R0 ?_; refine lM ?_; refine lA ?_; refine lA ?_; refine R1 ?_; rotate_left))

            (repeat first | refine G1 ?_ | refine G2 ?_ | refine G3 ?_ | refine G4 ?_ | refine G5 rfl ?_ | refine G6 rfl ?_ | refine G7 rfl ?_)
            (refine Run.ret2 Tryd.results55 (by rfl) (by rfl) ?_)
            refine Ent.hex l (Ent.hex true (Ent.hex q2 (Ent.flat (Ent.pu ⟨rfl, true, hN, by rw [hall]; rfl⟩ ?_))))
            rw [show (if true = true then p.add l else p) = PropS.look { p with cl := p.cl ++ [l], fl := p.fl ++ [(true, false)], watch := addW p.watch l p.cl.length } p.cl.length from rfl]
            (focus ((repeat first | refine E1 ?_ ?_ | refine E2 ?_ | refine E3 ?_ | refine E4 ?_ | refine E5 ?_ | refine E6 ?_ | refine E7 ?_ | refine E8 ?_); exact E9; all_goals try first | rfl | assumption | omega))
      · have e3 : addW p.watch l p.cl.length = p.watch := by unfold addW; rw [if_neg (by omega)]
        rw [e3] at hroom
        (repeat first | refine G1 ?_ | refine G2 ?_ | refine G3 ?_ | refine G4 ?_ | refine G5 rfl ?_ | refine G6 rfl ?_ | refine G7 rfl ?_)
        (focus (refine R0 ?_; refine lL ?_; refine lM ?_; refine RunL.ent (L' := PropF b { p with cl := p.cl ++ [l], fl := p.fl ++ [(true, false)] } { q with vc := v36, cs := q.cs ++ [t] }) (by (focus ((repeat first | refine E1 ?_ ?_ | refine E2 ?_ | refine E3 ?_ | refine E4 ?_ | refine E5 ?_ | refine E6 ?_ | refine E7 ?_ | refine E8 ?_); exact E9; all_goals try first | rfl | assumption | omega))) ?_; (refine lc [] rfl rfl (fun _ hle hA => look_ct _ b { p with cl := p.cl ++ [l], fl := p.fl ++ [(true, false)] } { q with vc := v36, cs := q.cs ++ [t] } p.cl.length (T + 2) (by omega) (by simp; omega) (by simp [hcl]) hroom (by omega)) ?_); intro v70; (try dsimp only [List.cons_append, List.nil_append, List.append_nil]); (repeat (refine RunL.unpu fun h70 => ?_; try subst h70)); (refine RunL.unhex fun q2 => RunL.flat ?_; ((dsimp only [PropF, HAppend.hAppend, Append.append, List.append, List.cons_append, List.nil_append, List.append_nil]); (try simp only [List.append_eq]))); refine R1 ?_; rotate_left))

        (repeat first | refine G1 ?_ | refine G2 ?_ | refine G3 ?_ | refine G4 ?_ | refine G5 rfl ?_ | refine G6 rfl ?_ | refine G7 rfl ?_)
        (repeat first | refine G1 ?_ | refine G2 ?_ | refine G3 ?_ | refine G4 ?_ | refine G5 rfl ?_ | refine G6 rfl ?_ | refine G7 rfl ?_)
        (focus (refine R0 ?_; refine lM ?_; refine lA ?_; refine lA ?_; refine R1 ?_; rotate_left))

        (repeat first | refine G1 ?_ | refine G2 ?_ | refine G3 ?_ | refine G4 ?_ | refine G5 rfl ?_ | refine G6 rfl ?_ | refine G7 rfl ?_)
        (refine Run.ret2 Tryd.results55 (by rfl) (by rfl) ?_)
        refine Ent.hex l (Ent.hex true (Ent.hex q2 (Ent.flat (Ent.pu ⟨rfl, true, hN, by rw [hall]; rfl⟩ ?_))))
        rw [show (if true = true then p.add l else p) = PropS.look { p with cl := p.cl ++ [l], fl := p.fl ++ [(true, false)], watch := addW p.watch l p.cl.length } p.cl.length from rfl, e3]
        (focus ((repeat first | refine E1 ?_ ?_ | refine E2 ?_ | refine E3 ?_ | refine E4 ?_ | refine E5 ?_ | refine E6 ?_ | refine E7 ?_ | refine E8 ?_); exact E9; all_goals try first | rfl | assumption | omega))
end Go.Proofs.YtfldnnpcdjabnaaDoor
