/-
  A region that draws its order, walked once: what only computes or reads goes first; what it has read is held against each operation that may come ahead of it.
-/
import Derived.Orders
import Derived.Test.YtfldnnpcdjabnaaDoorCore
set_option linter.unusedVariables false
set_option linter.unusedSimpArgs false
namespace Go.Proofs.YtfldnnpcdjabnaaDoor
open Go

/-- The operation yields v here. -/
def HoldsAt (P : Program) (ops : Array Oper) (o : Oper) (v : Value) (a : Act) (w : World) : Prop :=
  (Region.wanted o (yielded ops a.tmps) = true ∧ (execOp a.eval o).run P w = .ok (.value v) w) ∨ (Region.wanted o (yielded ops a.tmps) = false ∧ v = undef)
theorem HoldsAt.wpOp {P : Program} {ops : Array Oper} {Q : Exit → Act → World → Prop} {i : Nat} {o : Oper} {v : Value} {a : Act} (hi : ops[i]? = some o) {w : World} (hy : HoldsAt P ops o v a w)
    {K : Act → World → Prop} (h : K (a.put o.dst v) w) : wpOp P ops Q i K a w := by
  unfold Go.wpOp
  simp only [hi]
  rcases hy with ⟨hw, hv⟩ | ⟨hw, rfl⟩
  · simp only [hw, if_true, Oper.wp, hv, Oper.upon]; exact .inl h
  · simp only [hw, Bool.false_eq_true, if_false]; exact h
theorem HoldsAt.put {P : Program} {ops : Array Oper} {o : Oper} {v u : Value} {a : Act} {w : World} {d : Option Tmp} (hs : ∀ cs b, o.op ≠ .select cs b) (hd : ∀ x, d = some x → x ∉ o.looksAt ops) :
    HoldsAt P ops o v (a.put d u) w ↔ HoldsAt P ops o v a w := by
  unfold HoldsAt
  rw [execOp_put o hs a d u hd, wanted_put o a d u hd]
/-- What was taken ahead of its turn, and what it yielded; gone once what hangs on it has been carried out. -/
abbrev Fl := List (Nat × Value)
def hangs (ops : Array Oper) (j i : Nat) : Bool :=
  match ops[j]? with
  | some o => o.after.toList.any fun e => Region.binds .any e && e.on == i
  | none => false
def stays (ops : Array Oper) (j : Nat) (fl : Fl) : Fl := fl.filter fun p => !hangs ops j p.1
def AllHold (P : Program) (ops : Array Oper) (fl : Fl) (a : Act) (w : World) : Prop := ∀ p ∈ fl, ∀ o, ops[p.1]? = some o → HoldsAt P ops o p.2 a w
def wpAnyF (P : Program) (ops : Array Oper) (Q : Exit → Act → World → Prop) : Fl → Nat → Array Bool → Act → World → Prop
  | _, 0, listed, a, w => Region.ready .any ops listed = [] ∧ Q .normal a w
  | fl, fuel + 1, listed, a, w =>
    (Region.ready .any ops listed = [] → Q .normal a w) ∧
    ∀ j ∈ Region.ready .any ops listed, wpOp P ops Q j (fun a' w' => AllHold P ops (stays ops j fl) a' w' ∧ wpAnyF P ops Q (stays ops j fl) fuel (listed.setIfInBounds j true) a' w') a w
theorem wpAny_of_F {P : Program} {ops : Array Oper} {Q : Exit → Act → World → Prop} : ∀ (fuel : Nat) (fl : Fl) (listed : Array Bool) (a : Act) (w : World), wpAnyF P ops Q fl fuel listed a w →
    wpAny P .any ops Q fuel listed a w
  | 0, _, _, _, _, h => h
  | fuel + 1, fl, listed, a, w, h => ⟨h.1, fun j hj => wpOp_mono (fun a' w' h' => wpAny_of_F fuel _ _ a' w' h'.2) (h.2 j hj)⟩
/-- Selfless: it does not look at what it writes. -/
def selfless (ops : Array Oper) (i : Nat) : Bool :=
  match ops[i]? with
  | some o => match o.dst with
    | some d => !(o.looksAt ops).contains d
    | none => true
  | none => true
theorem wpOp_shift {P : Program} {ops : Array Oper} {Q : Exit → Act → World → Prop} {j : Nat} {oi oj : Oper} {v : Value} (hj : ops[j]? = some oj) (hap : oi.apart ops oj = true)
    (hsj : ∀ cs b, oj.op ≠ .select cs b) (hQ : ∀ c a w, ¬ Q (.panic c) a w) {K : Act → World → Prop} {a : Act} {w : World}
    (h : wpOp P ops Q j K (a.put oi.dst v) w) : wpOp P ops Q j (fun a' w' => K (a'.put oi.dst v) w') a w := by
  let o' : Oper := ⟨oi.dst, .move (.const v), 0, "", #[], none⟩
  have hap' : o'.apart ops oj = true := by
    simp only [Oper.apart, Bool.and_eq_true] at hap ⊢
    refine ⟨hap.1, ?_⟩
    cases oj.dst <;> simp [o', Oper.looksAt, Op.operands]
  have hy : Go.Yields P ops o' v a := .inl ⟨by simp [Region.wanted, o'], fun w => by simp [execOp, o', Act.eval]⟩
  exact wpOp_mono (fun a' w' hh => hh.2) (wpOp_put (oi := o') hj hap' (fun cs b => by simp [o']) hsj (fun c a w hq => absurd hq (hQ c _ w)) hy h)
theorem stays_sub {ops : Array Oper} {j : Nat} {fl fl' : Fl} (h : ∀ p ∈ fl, p ∈ fl') : ∀ p ∈ stays ops j fl, p ∈ stays ops j fl' := fun p hp => by
  simp only [stays, List.mem_filter] at hp ⊢
  exact ⟨h p hp.1, hp.2⟩
theorem wpAnyF_sub {P : Program} {ops : Array Oper} {Q : Exit → Act → World → Prop} : ∀ (fuel : Nat) (fl fl' : Fl) (listed : Array Bool) (a : Act) (w : World), (∀ p ∈ fl, p ∈ fl') →
    wpAnyF P ops Q fl' fuel listed a w → wpAnyF P ops Q fl fuel listed a w
  | 0, _, _, _, _, _, _, h => h
  | fuel + 1, fl, fl', listed, a, w, hs, h => ⟨h.1, fun j hj => wpOp_mono (fun a' w' h' => ⟨fun p hp => h'.1 p (stays_sub hs p hp), wpAnyF_sub fuel _ _ _ a' w' (stays_sub hs) h'.2⟩) (h.2 j hj)⟩
theorem hangs_ready {ops : Array Oper} {listed : Array Bool} {i j : Nat} (hr : i ∈ Region.ready .any ops listed) (hj : j ∈ Region.ready .any ops listed) : hangs ops j i = false := by
  obtain ⟨hun, oj, hoj, hal⟩ := mem_ready.1 hj
  unfold hangs
  rw [hoj, Bool.eq_false_iff]
  intro hany
  obtain ⟨e, he, hb⟩ := List.any_eq_true.1 hany
  simp only [Bool.and_eq_true, beq_iff_eq] at hb
  have h1 := hal e (Array.mem_toList_iff.1 he) hb.1
  have h0 := (mem_ready.1 hr).1
  rw [hb.2] at h1
  rcases Nat.lt_or_ge i listed.size with h' | h'
  · simp [h'] at h0 h1; rw [h0] at h1; cases h1
  · simp [Array.getElem?_eq_none h'] at h1
theorem wpAnyF_take {P : Program} {ops : Array Oper} {Q : Exit → Act → World → Prop} (hQ : ∀ c a w, ¬ Q (.panic c) a w) {i : Nat} {oi : Oper} {v : Value} (hi : ops[i]? = some oi)
    (hsel : ∀ (j : Nat) (o : Oper) cs b, ops[j]? = some o → o.op ≠ .select cs b) (hself : ∀ x, oi.dst = some x → x ∉ oi.looksAt ops) :
    ∀ (fuel : Nat) (fl : Fl) (listed : Array Bool) (a : Act) (w : World),
      (∀ j oj, ops[j]? = some oj → j ≠ i → listed.getD j true = false → (∀ e ∈ oj.after, Region.binds .any e = true → e.on ≠ i) → oi.apart ops oj = true) →
      (∀ p ∈ fl, ∀ o, ops[p.1]? = some o → ∀ x, oi.dst = some x → x ∉ o.looksAt ops) →
      i ∈ Region.ready .any ops listed → HoldsAt P ops oi v a w → AllHold P ops fl a w →
      wpAnyF P ops Q ((i, v) :: fl) fuel (listed.setIfInBounds i true) (a.put oi.dst v) w → wpAnyF P ops Q fl (fuel + 1) listed a w := by
  intro fuel
  induction fuel with
  | zero =>
    intro fl listed a w _ hfl hr hy hall H
    refine ⟨fun h => (by rw [h] at hr; cases hr), fun j hj => ?_⟩
    by_cases hji : j = i
    · subst hji
      refine hy.wpOp hi ⟨fun p hp o ho => ?_, H⟩
      have hp' : p ∈ fl := (List.mem_filter.1 hp).1
      exact (HoldsAt.put (hsel _ _ · · ho) (hfl p hp' o ho)).2 (hall p hp' o ho)
    · have := ready_mono hj hji
      rw [H.1] at this
      cases this
  | succ fuel ih =>
    intro fl listed a w hfree hfl hr hy hall H
    refine ⟨fun h => (by rw [h] at hr; cases hr), fun j hj => ?_⟩
    by_cases hji : j = i
    · subst hji
      refine hy.wpOp hi ⟨fun p hp o ho => ?_, wpAnyF_sub _ _ _ _ _ _ (fun p hp => List.mem_cons_of_mem _ (List.mem_filter.1 hp).1) H⟩
      have hp' : p ∈ fl := (List.mem_filter.1 hp).1
      exact (HoldsAt.put (hsel _ _ · · ho) (hfl p hp' o ho)).2 (hall p hp' o ho)
    · have h1 := H.2 j (ready_mono hj hji)
      obtain ⟨hjun, oj, hoj, hal⟩ := mem_ready.1 hj
      have hhang := hangs_ready hr hj
      have hnot : ∀ e ∈ oj.after, Region.binds .any e = true → e.on ≠ i := fun e he hb heq => by
        unfold hangs at hhang
        rw [hoj, Bool.eq_false_iff] at hhang
        exact hhang (List.any_eq_true.2 ⟨e, Array.mem_toList_iff.2 he, by simp [hb, heq]⟩)
      have hst : stays ops j ((i, v) :: fl) = (i, v) :: stays ops j fl := by simp [stays, hhang]
      rw [hst] at h1
      have h2 := wpOp_shift hoj (hfree j oj hoj hji hjun hnot) (fun cs b => hsel j oj cs b hoj) hQ h1
      have hfree' : ∀ k ok, ops[k]? = some ok → k ≠ i → (listed.setIfInBounds j true).getD k true = false →
          (∀ e ∈ ok.after, Region.binds .any e = true → e.on ≠ i) → oi.apart ops ok = true := fun k ok hk hki hun hno => by
        refine hfree k ok hk hki ?_ hno
        by_cases hjk : j = k
        · subst hjk; exact hjun
        · rw [getD_set_ne true hjk] at hun; exact hun
      have hfl' : ∀ p ∈ stays ops j fl, ∀ o, ops[p.1]? = some o → ∀ x, oi.dst = some x → x ∉ o.looksAt ops := fun p hp => hfl p (List.mem_filter.1 hp).1
      refine wpOp_mono (fun a' w' h3 => ?_) h2
      obtain ⟨h4, h5⟩ := h3
      have hyi : HoldsAt P ops oi v a' w' := (HoldsAt.put (hsel _ _ · · hi) hself).1 (h4 (i, v) (List.mem_cons_self ..) oi hi)
      have hall' : AllHold P ops (stays ops j fl) a' w' := fun p hp o ho =>
        (HoldsAt.put (hsel _ _ · · ho) (hfl' p hp o ho)).1 (h4 p (List.mem_cons_of_mem _ hp) o ho)
      refine ⟨hall', ih _ (listed.setIfInBounds j true) a' w' hfree' hfl' (ready_mono hr (Ne.symm hji)) hyi hall' ?_⟩
      rw [Array.setIfInBounds_comm _ _ hji]
      exact h5

/-! ## The rule -/
/-- The region from where 'listed' have been carried out; 'fl': what has been taken ahead. -/
def AnyL (C : Cx) (ops : Array Oper) (fl : Fl) (fuel : Nat) (listed : Array Bool) (k : List Item) (e : Env) (L : List HP) : Prop :=
  ∀ w0 h0 a w h, Evo h0 w0 w h → St C e (stars L) a w h → AllHold C.P ops fl a w → wpAnyF C.P ops (QK C k w0 h0) fl fuel listed a w
theorem St.drew {C : Cx} {e : Env} {H : HP} {a : Act} {w : World} {h : Frag} (s : St C e H a w h) : St C e H a { w with drawn := w.drawn + 1 } h :=
  ⟨s.size, s.defers, s.env, s.holds, s.le, s.rho, s.dj⟩
theorem Evo.drewOf {h0 h : Frag} {w0 w : World} (n : Evo h0 w0 w h) : Evo h0 w0 { w with drawn := w.drawn + 1 } h := ⟨n.size, n.same, n.dom, n.os, n.out, n.tape, Nat.le_succ_of_le n.drawn⟩
theorem Run.draw {C : Cx} {id : Nat} {ops : List Oper} {k : List Item} {e : Env} {L : List HP} (hm : C.P.follows .mixedOrders = true) (n : Nat) (hn : ops.toArray.size = n)
    (r : AnyL C ops.toArray [] n (Array.replicate n false) k e L) : Run C (.code (.region id ops.toArray true) :: k) e L := by
  intro a w h s
  refine Good.of_wp (wp_region_any hm (wpAny_of_F _ [] _ _ _ ?_))
  rw [hn]
  exact r w h a _ h (Evo.drewOf (Evo.refl h w)) s.drew (fun p hp => by cases hp)
theorem AnyL.done {C : Cx} {ops : Array Oper} {fl : Fl} {fuel : Nat} {listed : Array Bool} {k : List Item} {e : Env} {L : List HP} (hr : Region.ready .any ops listed = [])
    (r : Run C k e L) : AnyL C ops fl fuel listed k e L := by
  intro w0 h0 a w h hn s _
  have q : QK C k w0 h0 .normal a w := ⟨h, hn, r a w h s⟩
  cases fuel with
  | zero => exact ⟨hr, q⟩
  | succ f => exact ⟨fun _ => q, by rw [hr]; simp⟩
/-- What may be asked ahead: i is ready, nothing that may come ahead of it meets its slot, nor does what was taken. -/
def mayTake (ops : Array Oper) (fl : List Nat) (listed : Array Bool) (i : Nat) : Bool :=
  Region.noSelect ops && Region.free .any ops listed i && (Region.ready .any ops listed).contains i && selfless ops i &&
    (match ops[i]? with
     | some oi => (match oi.dst with
       | some d => fl.all fun p => match ops[p]? with | some o => !(o.looksAt ops).contains d | none => true
       | none => true)
     | none => false)
theorem AnyL.takeH {C : Cx} {ops : Array Oper} {fl : Fl} {fuel : Nat} {listed : Array Bool} {k : List Item} {e : Env} {L : List HP} (i : Nat) {o : Oper} {v : Value} (hi : ops[i]? = some o)
    (hmay : mayTake ops (fl.map (·.1)) listed i = true) (hd : lowD C.n o.dst = true) (hy : ∀ a w h, St C e (stars L) a w h → HoldsAt C.P ops o v a w)
    (r : AnyL C ops ((i, v) :: fl) fuel (listed.setIfInBounds i true) k (putE e o.dst v) L) : AnyL C ops fl (fuel + 1) listed k e L := by
  intro w0 h0 a w h hn s hall
  simp only [mayTake, hi, Bool.and_eq_true] at hmay
  obtain ⟨⟨⟨⟨hsel, hfree⟩, hready⟩, hself⟩, hfl⟩ := hmay
  have hfl' : ∀ p ∈ fl, ∀ o', ops[p.1]? = some o' → ∀ x, o.dst = some x → x ∉ o'.looksAt ops := by
    intro p hp o' ho' x hx
    rw [hx] at hfl
    have := List.all_eq_true.1 hfl p.1 (List.mem_map.2 ⟨p, hp, rfl⟩)
    rw [ho'] at this
    simpa using this
  have hself' : ∀ x, o.dst = some x → x ∉ o.looksAt ops := by
    intro x hx
    unfold selfless at hself
    rw [hi] at hself
    simp only [hx] at hself
    simpa using hself
  have hh := hy a w h s
  refine wpAnyF_take (fun c a w hq => hq) hi (Region.noSelect_spec hsel) hself' fuel fl listed a w (Region.free_spec hi hfree) hfl' (by simpa using hready) hh hall ?_
  refine r w0 h0 _ w h hn (s.put hd v s.holds s.le (Evo.refl h w)) ?_
  intro p hp o' ho'
  rcases List.mem_cons.1 hp with rfl | hp
  · simp only [hi, Option.some.injEq] at ho'
    subst ho'
    exact (HoldsAt.put (Region.noSelect_spec hsel _ _ · · hi) hself').2 hh
  · exact (HoldsAt.put (Region.noSelect_spec hsel _ _ · · ho') (hfl' p hp o' ho')).2 (hall p hp o' ho')
/-- Taken ahead: what yields v and touches nothing. -/
theorem AnyL.take {C : Cx} {ops : Array Oper} {fl : Fl} {fuel : Nat} {listed : Array Bool} {k : List Item} {e : Env} {L : List HP} (i : Nat) {o : Oper} {v : Value} (hi : ops[i]? = some o)
    (hmay : mayTake ops (fl.map (·.1)) listed i = true) (hd : lowD C.n o.dst = true) (hg : o.guard = none) (hy : Yields C o e L v)
    (r : AnyL C ops ((i, v) :: fl) fuel (listed.setIfInBounds i true) k (putE e o.dst v) L) : AnyL C ops fl (fuel + 1) listed k e L :=
  AnyL.takeH i hi hmay hd (fun a w h s => .inl ⟨by simp [Region.wanted, hg], hy a w h s⟩) r
theorem AnyL.takeT {C : Cx} {ops : Array Oper} {fl : Fl} {fuel : Nat} {listed : Array Bool} {k : List Item} {e : Env} {L : List HP} (i : Nat) {o : Oper} {v : Value} (hi : ops[i]? = some o)
    (hmay : mayTake ops (fl.map (·.1)) listed i = true) (hd : lowD C.n o.dst = true) {j dj : Nat} {b : Bool} (hg : o.guard = some (j, b)) (hj : (ops[j]?).bind (·.dst) = some dj) (hlt : Nat.blt dj C.n = true)
    (hb : get e dj = some (.bool b)) (hy : Yields C o e L v)
    (r : AnyL C ops ((i, v) :: fl) fuel (listed.setIfInBounds i true) k (putE e o.dst v) L) : AnyL C ops fl (fuel + 1) listed k e L :=
  AnyL.takeH i hi hmay hd (fun a w h s => .inl ⟨by simp [Region.wanted, hg, yielded_of s hj hlt hb], hy a w h s⟩) r
theorem AnyL.takeF {C : Cx} {ops : Array Oper} {fl : Fl} {fuel : Nat} {listed : Array Bool} {k : List Item} {e : Env} {L : List HP} (i : Nat) {o : Oper} (hi : ops[i]? = some o)
    (hmay : mayTake ops (fl.map (·.1)) listed i = true) (hd : lowD C.n o.dst = true) {j dj : Nat} {b : Bool} {v' : Value} (hg : o.guard = some (j, b)) (hj : (ops[j]?).bind (·.dst) = some dj) (hlt : Nat.blt dj C.n = true)
    (hb : get e dj = some v') (hne : offV v' b = true)
    (r : AnyL C ops ((i, undef) :: fl) fuel (listed.setIfInBounds i true) k (putE e o.dst undef) L) : AnyL C ops fl (fuel + 1) listed k e L :=
  AnyL.takeH i hi hmay hd (fun a w h s => .inr ⟨by simp [Region.wanted, hg, off_of s hj hlt hb hne], rfl⟩) r
/-- What has been taken yields still what it yielded. -/
def Still (C : Cx) (ops : Array Oper) (fl : Fl) (e : Env) (L : List HP) : Prop := ∀ a w h, St C e (stars L) a w h → AllHold C.P ops fl a w
theorem Still.nil {C : Cx} {ops : Array Oper} {e : Env} {L : List HP} : Still C ops [] e L := fun a w h s p hp => by cases hp
theorem Still.cons {C : Cx} {ops : Array Oper} {fl : Fl} {e : Env} {L : List HP} {i : Nat} {o : Oper} {v : Value} (hi : ops[i]? = some o) (hg : o.guard = none) (hy : Yields C o e L v)
    (r : Still C ops fl e L) : Still C ops ((i, v) :: fl) e L := by
  intro a w h s p hp o' ho'
  rcases List.mem_cons.1 hp with rfl | hp
  · simp only [hi, Option.some.injEq] at ho'
    subst ho'
    exact .inl ⟨by simp [Region.wanted, hg], hy a w h s⟩
  · exact r a w h s p hp o' ho'
theorem Still.consT {C : Cx} {ops : Array Oper} {fl : Fl} {e : Env} {L : List HP} {i : Nat} {o : Oper} {v : Value} (hi : ops[i]? = some o) {j dj : Nat} {b : Bool} (hg : o.guard = some (j, b))
    (hj : (ops[j]?).bind (·.dst) = some dj) (hlt : Nat.blt dj C.n = true) (hb : get e dj = some (.bool b)) (hy : Yields C o e L v)
    (r : Still C ops fl e L) : Still C ops ((i, v) :: fl) e L := by
  intro a w h s p hp o' ho'
  rcases List.mem_cons.1 hp with rfl | hp
  · simp only [hi, Option.some.injEq] at ho'
    subst ho'
    exact .inl ⟨by simp [Region.wanted, hg, yielded_of s hj hlt hb], hy a w h s⟩
  · exact r a w h s p hp o' ho'
theorem Still.consF {C : Cx} {ops : Array Oper} {fl : Fl} {e : Env} {L : List HP} {i : Nat} {o : Oper} (hi : ops[i]? = some o) {j dj : Nat} {b : Bool} {v' : Value} (hg : o.guard = some (j, b))
    (hj : (ops[j]?).bind (·.dst) = some dj) (hlt : Nat.blt dj C.n = true) (hb : get e dj = some v') (hne : offV v' b = true)
    (r : Still C ops fl e L) : Still C ops ((i, undef) :: fl) e L := by
  intro a w h s p hp o' ho'
  rcases List.mem_cons.1 hp with rfl | hp
  · simp only [hi, Option.some.injEq] at ho'
    subst ho'
    exact .inr ⟨by simp [Region.wanted, hg, off_of s hj hlt hb hne], rfl⟩
  · exact r a w h s p hp o' ho'
/-- An operation that acts, where it alone is ready. -/
theorem AnyL.eff {C : Cx} {ops : Array Oper} {fl : Fl} {fuel : Nat} {listed : Array Bool} {k : List Item} {e : Env} {L : List HP} (i : Nat) {o : Oper} (R : Value → List HP) (hi : ops[i]? = some o)
    (hr : Region.ready .any ops listed = [i]) (hg : o.guard = none) (hd : lowD C.n o.dst = true) (hs : Does C o e L R) (fl' : Fl) (hfl : stays ops i fl = fl')
    (hst : ∀ v, Still C ops fl' (putE e o.dst v) (R v))
    (r : ∀ v, AnyL C ops fl' fuel (listed.setIfInBounds i true) k (putE e o.dst v) (R v)) : AnyL C ops fl (fuel + 1) listed k e L := by
  intro w0 h0 a w h hn s hall
  refine ⟨fun h => (by rw [hr] at h; cases h), fun j hj => ?_⟩
  rw [hr] at hj
  have hji : j = i := by simpa using hj
  subst hji
  unfold wpOp
  simp only [hi]
  rw [if_pos (by simp [Region.wanted, hg]), hfl]
  have hwp := hs a w h s
  · refine .inl (upon_mono ?_ ?_ hwp)
    · rintro a' w' ⟨v, h', rfl, hR, hl, hn'⟩
      have s' := s.put hd v hR hl hn'
      have hall' := hst v _ _ _ s'
      exact ⟨hall', r v w0 h0 _ w' h' (hn.trans hn') s' hall'⟩
    · rintro x a' w' hf
      exact hf.elim
/-- Where several that act are ready: each of them. -/
def EffAt (C : Cx) (ops : Array Oper) (fl : Fl) (fuel : Nat) (listed : Array Bool) (k : List Item) (e : Env) (L : List HP) (i : Nat) : Prop :=
  ∃ (o : Oper) (R : Value → List HP) (fl' : Fl), ops[i]? = some o ∧ o.guard = none ∧ lowD C.n o.dst = true ∧ Does C o e L R ∧ stays ops i fl = fl' ∧
    (∀ v, Still C ops fl' (putE e o.dst v) (R v)) ∧ ∀ v, AnyL C ops fl' fuel (listed.setIfInBounds i true) k (putE e o.dst v) (R v)
theorem AnyL.effs {C : Cx} {ops : Array Oper} {fl : Fl} {fuel : Nat} {listed : Array Bool} {k : List Item} {e : Env} {L : List HP} (rs : List Nat) (hr : Region.ready .any ops listed = rs) (hne : rs ≠ [])
    (hs : ∀ i ∈ rs, EffAt C ops fl fuel listed k e L i) : AnyL C ops fl (fuel + 1) listed k e L := by
  intro w0 h0 a w h hn s hall
  refine ⟨fun h => absurd (hr ▸ h) hne, fun j hj => ?_⟩
  rw [hr] at hj
  obtain ⟨o, R, fl', hi, hg, hd, hs, hfl, hst, r⟩ := hs j hj
  unfold wpOp
  simp only [hi]
  rw [if_pos (by simp [Region.wanted, hg]), hfl]
  have hwp := hs a w h s
  · refine .inl (upon_mono ?_ ?_ hwp)
    · rintro a' w' ⟨v, h', rfl, hR, hl, hn'⟩
      have s' := s.put hd v hR hl hn'
      have hall' := hst v _ _ _ s'
      exact ⟨hall', r v w0 h0 _ w' h' (hn.trans hn') s' hall'⟩
    · rintro x a' w' hf
      exact hf.elim
theorem AnyL.weakenE {C : Cx} {ops : Array Oper} {fl : Fl} {fuel : Nat} {listed : Array Bool} {k : List Item} {e e' : Env} {L : List HP} (he : Sub e' e) (r : AnyL C ops fl fuel listed k e' L) :
    AnyL C ops fl fuel listed k e L :=
  fun w0 h0 a w h hn s hall => r w0 h0 a w h hn (s.weaken he s.holds (fle_refl h)) hall
theorem AnyL.known {C : Cx} {ops : Array Oper} {fl : Fl} {fuel : Nat} {listed : Array Bool} {k : List Item} {e : Env} {L : List HP} {t : Nat} {b : Bool} (hb : get e t = some (.bool b))
    (hT : b = true → AnyL C ops fl fuel listed k ((t, .bool true) :: e) L) (hF : b = false → AnyL C ops fl fuel listed k ((t, .bool false) :: e) L) : AnyL C ops fl fuel listed k e L := by
  cases b with
  | true => exact AnyL.weakenE (Sub.cons hb fun _ _ h => h) (hT rfl)
  | false => exact AnyL.weakenE (Sub.cons hb fun _ _ h => h) (hF rfl)
theorem AnyL.knownP {C : Cx} {ops : Array Oper} {fl : Fl} {fuel : Nat} {listed : Array Bool} {k : List Item} {e : Env} {L : List HP} {t : Nat} {p : Prop} [Decidable p] (hb : get e t = some (.bool (decide p)))
    (hT : p → AnyL C ops fl fuel listed k ((t, .bool true) :: e) L) (hF : ¬ p → AnyL C ops fl fuel listed k ((t, .bool false) :: e) L) : AnyL C ops fl fuel listed k e L :=
  AnyL.known hb (fun h => hT (of_decide_eq_true h)) (fun h => hF (of_decide_eq_false h))
theorem AnyL.pick {C : Cx} {ops : Array Oper} {fl : Fl} {fuel : Nat} {listed : Array Bool} {k : List Item} {e : Env} {A : HP} {L L' : List HP} (p : Pick A L L') (r : AnyL C ops fl fuel listed k e (A :: L')) :
    AnyL C ops fl fuel listed k e L :=
  fun w0 h0 a w h hn s => r w0 h0 a w h hn { s with holds := p h s.holds }
theorem AnyL.unhex {C : Cx} {ops : Array Oper} {fl : Fl} {fuel : Nat} {listed : Array Bool} {k : List Item} {e : Env} {α : Sort _} {A : α → HP} {L : List HP} (r : ∀ x, AnyL C ops fl fuel listed k e (A x :: L)) :
    AnyL C ops fl fuel listed k e (hex A :: L) :=
  fun w0 h0 a w h hn s hall => by
    obtain ⟨h1, h2, d, rfl, ⟨x, hx⟩, b⟩ := s.holds
    exact r x w0 h0 a w _ hn { s with holds := ⟨h1, h2, d, rfl, hx, b⟩ } hall
theorem AnyL.unpu {C : Cx} {ops : Array Oper} {fl : Fl} {fuel : Nat} {listed : Array Bool} {k : List Item} {e : Env} {p : Prop} {L : List HP} (r : p → AnyL C ops fl fuel listed k e L) :
    AnyL C ops fl fuel listed k e (pu p :: L) :=
  fun w0 h0 a w h hn s hall => by
    obtain ⟨h1, h2, d, rfl, ⟨hp, rfl⟩, b⟩ := s.holds
    rw [nil_fadd] at hn s
    exact r hp w0 h0 a w _ hn { s with holds := b } hall
theorem AnyL.flat {C : Cx} {ops : Array Oper} {fl : Fl} {fuel : Nat} {listed : Array Bool} {k : List Item} {e : Env} {M L : List HP} (r : AnyL C ops fl fuel listed k e (M ++ L)) :
    AnyL C ops fl fuel listed k e (stars M :: L) :=
  fun w0 h0 a w h hn s => r w0 h0 a w h hn { s with holds := stars_append.2 s.holds }
end Go.Proofs.YtfldnnpcdjabnaaDoor
