/-
  A region that draws its order, by a plan that a program has laid: which operation is taken when. And calls, in both kinds of regions.
-/
import Derived.Test.YtfldnnpcdjabnaaDoorFn
set_option linter.unusedVariables false
set_option linter.unusedSimpArgs false
namespace Go.Proofs.YtfldnnpcdjabnaaDoor
open Go

/-- take i: i only computes or reads, and is taken now; alt i p (alt j q ..): i, j, .. act, and just one of these can come now. -/
inductive Plan where
  | done
  | take (i : Nat) (p : Plan)
  | alt (i : Nat) (p rest : Plan)
  | nomore
def Plan.len : Plan → Nat
  | .done | .nomore => 0
  | .take _ p => p.len + 1
  | .alt _ p _ => p.len + 1
def Plan.idx : Plan → List Nat
  | .alt i _ rest => i :: rest.idx
  | _ => []
/-- first: is this the first of several that may come now? -/
def checkPlan (ops : Array Oper) : Bool → Plan → Nat → List Nat → Array Bool → Bool
  | true, .done, n, _, listed => (n == 0) && (Region.ready .any ops listed).isEmpty
  | true, .take i p, n + 1, fl, listed => mayTake ops fl listed i && checkPlan ops true p n (i :: fl) (listed.setIfInBounds i true)
  | true, .alt i p rest, n + 1, fl, listed => (Region.ready .any ops listed == i :: rest.idx) && checkPlan ops true p n (fl.filter fun x => !hangs ops i x) (listed.setIfInBounds i true) && checkPlan ops false rest (n + 1) fl listed
  | false, .alt i p rest, n + 1, fl, listed => checkPlan ops true p n (fl.filter fun x => !hangs ops i x) (listed.setIfInBounds i true) && checkPlan ops false rest (n + 1) fl listed
  | false, .nomore, _, _, _ => true
  | _, _, _, _, _ => false
def RunD (C : Cx) (ops : Array Oper) (plan : Plan) (fl : Fl) (k : List Item) (e : Env) (L : List HP) : Prop :=
  ∀ (n : Nat) (listed : Array Bool), checkPlan ops true plan n (fl.map (·.1)) listed = true → AnyL C ops fl n listed k e L
/-- i is what comes now. -/
def RunA (C : Cx) (ops : Array Oper) (i : Nat) (plan : Plan) (fl : Fl) (k : List Item) (e : Env) (L : List HP) : Prop :=
  ∀ (n : Nat) (listed : Array Bool), checkPlan ops true plan n ((fl.map (·.1)).filter fun x => !hangs ops i x) (listed.setIfInBounds i true) = true → ∀ w0 h0 a w h, Evo h0 w0 w h → St C e (stars L) a w h →
    wpOp C.P ops (QK C k w0 h0) i (fun a' w' => AllHold C.P ops (stays ops i fl) a' w' ∧ wpAnyF C.P ops (QK C k w0 h0) (stays ops i fl) n (listed.setIfInBounds i true) a' w') a w
/-- One of these comes now. -/
def RunR (C : Cx) (ops : Array Oper) (plan : Plan) (fl : Fl) (k : List Item) (e : Env) (L : List HP) : Prop :=
  ∀ (n : Nat) (listed : Array Bool), checkPlan ops false plan (n + 1) (fl.map (·.1)) listed = true → ∀ i ∈ plan.idx, ∀ w0 h0 a w h, Evo h0 w0 w h → St C e (stars L) a w h →
    wpOp C.P ops (QK C k w0 h0) i (fun a' w' => AllHold C.P ops (stays ops i fl) a' w' ∧ wpAnyF C.P ops (QK C k w0 h0) (stays ops i fl) n (listed.setIfInBounds i true) a' w') a w
theorem Run.plan {C : Cx} {id : Nat} {ops : List Oper} {k : List Item} {e : Env} {L : List HP} (hm : C.P.follows .mixedOrders = true) (plan : Plan) (n : Nat)
    (hc : (checkPlan ops.toArray true plan n [] (Array.replicate n false) && (ops.length == n)) = true) (r : RunD C ops.toArray plan [] k e L) : Run C (.code (.region id ops.toArray true) :: k) e L := by
  simp only [Bool.and_eq_true, beq_iff_eq] at hc
  obtain ⟨h1, h2⟩ := hc
  exact Run.draw hm n (by simpa using h2) (r n _ (by simpa using h1))
theorem stays_map (ops : Array Oper) (i : Nat) (fl : Fl) : (stays ops i fl).map (·.1) = (fl.map (·.1)).filter fun x => !hangs ops i x := by
  simp only [stays, List.filter_map]; rfl
section
variable {C : Cx} {ops : Array Oper} {plan rest : Plan} {fl fl' : Fl} {k : List Item} {e : Env} {L : List HP} {i : Nat} {dd : Tmp} {op : Op} {t : TypeId} {ps : String} {af : Array Edge}
theorem RunD.done (r : Run C k e L) : RunD C ops .done fl k e L := fun n listed hc => AnyL.done (by simp [checkPlan] at hc; exact hc.2) r
theorem RunD.take {v : Value} (hi : ops[i]? = some ⟨some dd, op, t, ps, af, none⟩) (hd : Nat.blt dd C.n = true) (hy : Yields C ⟨some dd, op, t, ps, af, none⟩ e L v)
    (r : RunD C ops plan ((i, v) :: fl) k ((dd, v) :: e) L) : RunD C ops (.take i plan) fl k e L := fun n listed hc => by
  cases n with
  | zero => simp [checkPlan] at hc
  | succ n =>
    simp only [checkPlan, Bool.and_eq_true] at hc
    exact AnyL.take i hi hc.1 hd rfl hy (r _ _ hc.2)
theorem RunD.takeT {v : Value} {j dj : Nat} {b : Bool} (hi : ops[i]? = some ⟨some dd, op, t, ps, af, some (j, b)⟩) (hj : (ops[j]?).bind (·.dst) = some dj) (hb : get e dj = some (.bool b)) (hlt : Nat.blt dj C.n = true) (hd : Nat.blt dd C.n = true)
    (hy : Yields C ⟨some dd, op, t, ps, af, some (j, b)⟩ e L v) (r : RunD C ops plan ((i, v) :: fl) k ((dd, v) :: e) L) : RunD C ops (.take i plan) fl k e L := fun n listed hc => by
  cases n with
  | zero => simp [checkPlan] at hc
  | succ n =>
    simp only [checkPlan, Bool.and_eq_true] at hc
    exact AnyL.takeT i hi hc.1 hd rfl hj hlt hb hy (r _ _ hc.2)
theorem RunD.takeF {j dj : Nat} {b : Bool} {v' : Value} (hi : ops[i]? = some ⟨some dd, op, t, ps, af, some (j, b)⟩) (hj : (ops[j]?).bind (·.dst) = some dj) (hb : get e dj = some v') (hne : offV v' b = true) (hlt : Nat.blt dj C.n = true) (hd : Nat.blt dd C.n = true)
    (r : RunD C ops plan ((i, undef) :: fl) k ((dd, undef) :: e) L) : RunD C ops (.take i plan) fl k e L := fun n listed hc => by
  cases n with
  | zero => simp [checkPlan] at hc
  | succ n =>
    simp only [checkPlan, Bool.and_eq_true] at hc
    exact AnyL.takeF i hi hc.1 hd rfl hj hlt hb hne (r _ _ hc.2)
theorem RunA.eff {o : Oper} (R : Value → List HP) (hi : ops[i]? = some o) (hg : o.guard = none) (hd : lowD C.n o.dst = true) (hs : Does C o e L R) (hfl : stays ops i fl = fl') (hst : ∀ v, Still C ops fl' (putE e o.dst v) (R v))
    (r : ∀ v, RunD C ops plan fl' k (putE e o.dst v) (R v)) : RunA C ops i plan fl k e L := fun n listed hc w0 h0 a w h hn s => by
  subst hfl
  unfold wpOp
  simp only [hi]
  rw [if_pos (by simp [Region.wanted, hg])]
  have hwp := hs a w h s
  · refine .inl (upon_mono ?_ ?_ hwp)
    · rintro a' w' ⟨v, h', rfl, hR, hl, hn'⟩
      have s' := s.put hd v hR hl hn'
      have hall' := hst v _ _ _ s'
      exact ⟨hall', r v _ _ (by rw [stays_map]; exact hc) w0 h0 _ w' h' (hn.trans hn') s' hall'⟩
    · rintro y a' w' hf
      exact hf.elim
/-- Its guard is known: wanted. -/
theorem RunA.effT {j dj : Nat} {b : Bool} (R : Value → List HP) (hi : ops[i]? = some ⟨some dd, op, t, ps, af, some (j, b)⟩) (hj : (ops[j]?).bind (·.dst) = some dj) (hb : get e dj = some (.bool b)) (hlt : Nat.blt dj C.n = true) (hd : Nat.blt dd C.n = true)
    (hs : Does C ⟨some dd, op, t, ps, af, some (j, b)⟩ e L R) (hfl : stays ops i fl = fl') (hst : ∀ v, Still C ops fl' ((dd, v) :: e) (R v))
    (r : ∀ v, RunD C ops plan fl' k ((dd, v) :: e) (R v)) : RunA C ops i plan fl k e L := fun n listed hc w0 h0 a w h hn s => by
  subst hfl
  unfold wpOp
  simp only [hi]
  rw [if_pos (by simp [Region.wanted, yielded_of s hj hlt hb])]
  have hwp := hs a w h s
  · refine .inl (upon_mono ?_ ?_ hwp)
    · rintro a' w' ⟨v, h', rfl, hR, hl, hn'⟩
      have s' := s.put (d := some dd) hd v hR hl hn'
      have hall' := hst v _ _ _ s'
      exact ⟨hall', r v _ _ (by rw [stays_map]; exact hc) w0 h0 _ w' h' (hn.trans hn') s' hall'⟩
    · rintro y a' w' hf
      exact hf.elim
/-- .. not wanted. -/
theorem RunA.effF {j dj : Nat} {b : Bool} {v' : Value} (hi : ops[i]? = some ⟨some dd, op, t, ps, af, some (j, b)⟩) (hj : (ops[j]?).bind (·.dst) = some dj) (hb : get e dj = some v') (hne : offV v' b = true) (hlt : Nat.blt dj C.n = true) (hd : Nat.blt dd C.n = true)
    (hfl : stays ops i fl = fl') (hst : Still C ops fl' ((dd, undef) :: e) L) (r : RunD C ops plan fl' k ((dd, undef) :: e) L) : RunA C ops i plan fl k e L := fun n listed hc w0 h0 a w h hn s => by
  subst hfl
  unfold wpOp
  simp only [hi]
  rw [if_neg (by simp [Region.wanted, off_of s hj hlt hb hne])]
  have s' := s.put (d := some dd) hd undef s.holds s.le (Evo.refl h w)
  have hall' := hst _ _ _ s'
  exact ⟨hall', r _ _ (by rw [stays_map]; exact hc) w0 h0 _ w h hn s' hall'⟩
theorem RunR.nomore : RunR C ops .nomore fl k e L := fun n listed hc i hi => by simp [Plan.idx] at hi
theorem RunR.alt (ha : RunA C ops i plan fl k e L) (hr : RunR C ops rest fl k e L) : RunR C ops (.alt i plan rest) fl k e L := fun n listed hc j hj w0 h0 a w h hn s => by
  simp only [checkPlan, Bool.and_eq_true] at hc
  simp only [Plan.idx, List.mem_cons] at hj
  rcases hj with rfl | hj
  · exact ha n listed hc.1 w0 h0 a w h hn s
  · exact hr n listed hc.2 j hj w0 h0 a w h hn s
theorem RunD.alt (ha : RunA C ops i plan fl k e L) (hr : RunR C ops rest fl k e L) : RunD C ops (.alt i plan rest) fl k e L := fun n listed hc => by
  cases n with
  | zero => simp [checkPlan] at hc
  | succ n =>
    simp only [checkPlan, Bool.and_eq_true, beq_iff_eq] at hc
    obtain ⟨⟨h1, h2⟩, h3⟩ := hc
    intro w0 h0 a w h hn s hall
    refine ⟨fun h => (by rw [h1] at h; cases h), fun x hx => ?_⟩
    rw [h1] at hx
    rcases List.mem_cons.1 hx with rfl | hx
    · exact ha n listed h2 w0 h0 a w h hn s
    · exact hr n listed h3 x hx w0 h0 a w h hn s
theorem RunD.one (ha : RunA C ops i plan fl k e L) : RunD C ops (.alt i plan .nomore) fl k e L := RunD.alt ha RunR.nomore
theorem RunD.known {t : Nat} {b : Bool} (hb : get e t = some (.bool b)) (hT : b = true → RunD C ops plan fl k ((t, .bool true) :: e) L) (hF : b = false → RunD C ops plan fl k ((t, .bool false) :: e) L) : RunD C ops plan fl k e L :=
  fun n listed hc => AnyL.known hb (fun h => hT h n listed hc) (fun h => hF h n listed hc)
theorem RunD.knownP {t : Nat} {p : Prop} [Decidable p] (hb : get e t = some (.bool (decide p))) (hT : p → RunD C ops plan fl k ((t, .bool true) :: e) L) (hF : ¬ p → RunD C ops plan fl k ((t, .bool false) :: e) L) : RunD C ops plan fl k e L :=
  fun n listed hc => AnyL.knownP hb (fun h => hT h n listed hc) (fun h => hF h n listed hc)
theorem RunD.pick {A : HP} {L' : List HP} (p : Pick A L L') (r : RunD C ops plan fl k e (A :: L')) : RunD C ops plan fl k e L := fun n listed hc => AnyL.pick p (r n listed hc)
theorem RunD.unhex {α : Sort _} {A : α → HP} (r : ∀ x, RunD C ops plan fl k e (A x :: L)) : RunD C ops plan fl k e (hex A :: L) := fun n listed hc => AnyL.unhex fun x => r x n listed hc
theorem RunD.unpu {p : Prop} (r : p → RunD C ops plan fl k e L) : RunD C ops plan fl k e (pu p :: L) := fun n listed hc => AnyL.unpu fun x => r x n listed hc
theorem RunD.flat {M : List HP} (r : RunD C ops plan fl k e (M ++ L)) : RunD C ops plan fl k e (stars M :: L) := fun n listed hc => AnyL.flat (r n listed hc)
end

/-! ## The check, over numbers alone -/
abbrev Sm := List (Option Nat × List Nat × List Nat)
def depsOf (o : Oper) : List Nat := (o.after.toList.filter (Region.binds .any)).map (·.on)
def sumOf (ops : Array Oper) : Sm := ops.toList.map fun o => (o.dst, o.looksAt ops, depsOf o)
def memN : List Nat → Nat → Bool
  | [], _ => false
  | x :: l, y => Nat.beq x y || memN l y
theorem memN_iff {l : List Nat} {y : Nat} : memN l y = true ↔ y ∈ l := by
  induction l with
  | nil => simp [memN]
  | cons x l ih => simp only [memN, Bool.or_eq_true, ih, List.mem_cons, Nat.beq_eq]; constructor <;> rintro (h | h) <;> simp_all
def okS (done : List Nat) (s : Option Nat × List Nat × List Nat) : Bool := s.2.2.all fun x => memN done x
def readyS : Sm → Nat → List Nat → List Nat
  | [], _, _ => []
  | s :: S, i, done => if !memN done i && okS done s then i :: readyS S (i + 1) done else readyS S (i + 1) done
def apartS (x y : Option Nat × List Nat × List Nat) : Bool :=
  (match x.1 with
   | some d => !memN y.2.1 d && (match y.1 with | some d' => !Nat.beq d' d | none => true)
   | none => true) &&
  (match y.1 with
   | some d => !memN x.2.1 d
   | none => true)
def freeS (s : Option Nat × List Nat × List Nat) (i : Nat) (done : List Nat) : Sm → Nat → Bool
  | [], _ => true
  | t :: S, j => (Nat.beq j i || memN done j || memN t.2.2 i || apartS s t) && freeS s i done S (j + 1)
def mayTakeS (S : Sm) (fl done : List Nat) (i : Nat) : Bool :=
  match S[i]? with
  | some s => freeS s i done S 0 && !memN done i && okS done s &&
    (match s.1 with
     | some d => !memN s.2.1 d && fl.all fun p => match S[p]? with | some t => !memN t.2.1 d | none => true
     | none => true)
  | none => false
def hangsS (S : Sm) (j i : Nat) : Bool :=
  match S[j]? with
  | some s => memN s.2.2 i
  | none => false
def checkS (S : Sm) : Bool → Plan → Nat → List Nat → List Nat → Bool
  | true, .done, n, _, done => Nat.beq n 0 && (readyS S 0 done).isEmpty
  | true, .take i p, n + 1, fl, done => mayTakeS S fl done i && checkS S true p n (i :: fl) (i :: done)
  | true, .alt i p rest, n + 1, fl, done => (readyS S 0 done == i :: rest.idx) && checkS S true p n (fl.filter fun x => !hangsS S i x) (i :: done) && checkS S false rest (n + 1) fl done
  | false, .alt i p rest, n + 1, fl, done => (Nat.blt i S.length) && checkS S true p n (fl.filter fun x => !hangsS S i x) (i :: done) && checkS S false rest (n + 1) fl done
  | false, .nomore, _, _, _ => true
  | _, _, _, _, _ => false
/-- The array and the list tell the same. -/
def Told (ops : Array Oper) (listed : Array Bool) (done : List Nat) : Prop := listed.size = ops.size ∧ ∀ j, j < ops.size → listed.getD j true = memN done j
theorem sumOf_get (ops : Array Oper) (i : Nat) : (sumOf ops)[i]? = (ops[i]?).map fun o => (o.dst, o.looksAt ops, depsOf o) := by
  simp [sumOf]
theorem Told.getF {ops : Array Oper} {listed : Array Bool} {done : List Nat} (t : Told ops listed done) (j : Nat) : listed.getD j false = (decide (j < ops.size) && memN done j) := by
  by_cases h : j < ops.size
  · have h1 := t.2 j h
    have h2 : j < listed.size := by rw [t.1]; exact h
    simp only [Array.getD_eq_getD_getElem?, Array.getElem?_eq_getElem h2, Option.getD_some] at h1 ⊢
    simp [h1, h]
  · have h2 : ¬ j < listed.size := by rw [t.1]; exact h
    simp [Array.getD_eq_getD_getElem?, h2, h]
theorem Told.step {ops : Array Oper} {listed : Array Bool} {done : List Nat} (t : Told ops listed done) {i : Nat} (hi : i < ops.size) : Told ops (listed.setIfInBounds i true) (i :: done) := by
  refine ⟨by simp [t.1], fun j hj => ?_⟩
  have h2 : i < listed.size := by rw [t.1]; exact hi
  simp only [memN]
  by_cases e : i = j
  · subst e; simp [h2]
  · have hb : Nat.beq i j = false := by rw [Bool.eq_false_iff]; intro hh; exact e (Nat.eq_of_beq_eq_true hh)
    rw [getD_set_ne true e, t.2 j hj, hb]; rfl
theorem depsOf_mem {o : Oper} {x : Nat} : x ∈ depsOf o ↔ ∃ e ∈ o.after, Region.binds .any e = true ∧ e.on = x := by
  simp only [depsOf, List.mem_map, List.mem_filter, Array.mem_toList_iff]
  constructor
  · rintro ⟨e, ⟨h1, h2⟩, h3⟩; exact ⟨e, h1, h2, h3⟩
  · rintro ⟨e, h1, h2, h3⟩; exact ⟨e, ⟨h1, h2⟩, h3⟩
/-- Every edge is from an operation of the region. -/
def closedS (S : Sm) : Bool := S.all fun s => s.2.2.all fun x => Nat.blt x S.length
theorem ready_eq {ops : Array Oper} {listed : Array Bool} {done : List Nat} (t : Told ops listed done) (hcl : closedS (sumOf ops) = true) : Region.ready .any ops listed = readyS (sumOf ops) 0 done := by
  have key : ∀ (l : List Oper) (k : Nat), (∀ j, l[j]? = ops[k + j]?) → (List.range' k l.length).filter (fun i => !listed.getD i true && ((ops[i]?).map (·.after.all fun e => !Region.binds .any e || listed.getD e.on false)).getD false) =
      readyS (l.map fun o => (o.dst, o.looksAt ops, depsOf o)) k done := by
    intro l
    induction l with
    | nil => intro k _; simp [readyS]
    | cons o l ih =>
      intro k h
      have h0 : ops[k]? = some o := by simpa using (h 0).symm
      have hk : k < ops.size := (Array.getElem?_eq_some_iff.1 h0).1
      have ih' := ih (k + 1) (fun j => by have := h (j + 1); simpa [Nat.add_assoc, Nat.add_comm 1 j] using this)
      simp only [List.length_cons, List.range'_succ, List.filter_cons, List.map_cons, readyS, h0, Option.map_some, Option.getD_some, t.2 k hk]
      have e1 : (o.after.all fun e => !Region.binds .any e || listed.getD e.on false) = okS done (o.dst, o.looksAt ops, depsOf o) := by
        rw [Bool.eq_iff_iff, Array.all_eq_true_iff_forall_mem, okS, List.all_eq_true]
        constructor
        · intro ha x hx
          obtain ⟨e, he, hb, rfl⟩ := depsOf_mem.1 hx
          have := ha e he
          rw [hb, t.getF] at this
          simp at this
          exact this.2
        · intro ha e he
          cases hb : Region.binds .any e with
          | false => rfl
          | true =>
            have hx : e.on ∈ depsOf o := depsOf_mem.2 ⟨e, he, hb, rfl⟩
            have hlt : e.on < ops.size := by
              simp only [closedS, List.all_eq_true] at hcl
              have := hcl (o.dst, o.looksAt ops, depsOf o) (by simp only [sumOf, List.mem_map]; exact ⟨o, by rw [Array.mem_toList_iff]; exact Array.mem_of_getElem? h0, rfl⟩) e.on hx
              simpa [sumOf] using this
            rw [t.getF]
            simp [hlt, ha e.on hx]
      rw [e1, ih']
  have := key ops.toList 0 (by simp)
  unfold Region.ready
  rw [List.range_eq_range']
  simpa [sumOf] using this
theorem contains_eq (l : List Nat) (d : Nat) : l.contains d = memN l d := by
  rw [Bool.eq_iff_iff, memN_iff]; simp
theorem apart_eq {ops : Array Oper} (x y : Oper) : x.apart ops y = apartS (x.dst, x.looksAt ops, depsOf x) (y.dst, y.looksAt ops, depsOf y) := by
  unfold Oper.apart apartS
  cases hx : x.dst <;> cases hy : y.dst
  · rfl
  · simp only [contains_eq]
  · simp only [contains_eq]; simp
  · simp only [contains_eq]
    rename_i a b
    by_cases e : b = a
    · subst e; simp
    · have hb : Nat.beq b a = false := by rw [Bool.eq_false_iff]; intro hh; exact e (Nat.eq_of_beq_eq_true hh)
      have hs : (some b != some a) = true := by simp [e]
      simp [hb, hs]
def oj_any (o : Oper) (i : Nat) : Bool := o.after.any fun e => Region.binds .any e && e.on == i
theorem free_of {ops : Array Oper} {listed : Array Bool} {done : List Nat} (t : Told ops listed done) {i : Nat} {oi : Oper} (hi : ops[i]? = some oi) (h : freeS (oi.dst, oi.looksAt ops, depsOf oi) i done (sumOf ops) 0 = true) : Region.free .any ops listed i = true := by
  have key : ∀ (l : List Oper) (k : Nat), (∀ j, l[j]? = ops[k + j]?) → freeS (oi.dst, oi.looksAt ops, depsOf oi) i done (l.map fun o => (o.dst, o.looksAt ops, depsOf o)) k = true → ∀ j, k ≤ j → j < k + l.length →
      (j == i || listed.getD j true || match ops[j]? with | some oj => oj.after.any (fun e => Region.binds .any e && e.on == i) || oi.apart ops oj | none => true) = true := by
    intro l
    induction l with
    | nil => intro k _ _ j h1 h2; simp at h2; omega
    | cons o l ih =>
      intro k hl hf j h1 h2
      have h0 : ops[k]? = some o := by simpa using (hl 0).symm
      have hk : k < ops.size := (Array.getElem?_eq_some_iff.1 h0).1
      simp only [List.map_cons, freeS, Bool.and_eq_true, Bool.or_eq_true, Nat.beq_eq] at hf
      by_cases e : j = k
      · subst e
        rcases hf.1 with ((h3 | h3) | h3) | h3
        · simp [h3]
        · rw [t.2 j hk, h3]; simp
        · rw [h0]
          obtain ⟨e, he, hb, hx⟩ := depsOf_mem.1 (memN_iff.1 h3)
          have : oj_any o i = true := by
            unfold oj_any; rw [Array.any_eq_true']; exact ⟨e, he, by simp [hb, hx]⟩
          unfold oj_any at this
          simp [this]
        · rw [h0]; simp only [apart_eq, h3]; simp
      · exact ih (k + 1) (fun j => by have := hl (j + 1); simpa [Nat.add_assoc, Nat.add_comm 1 j] using this) hf.2 j (by omega) (by simp at h2; omega)
  unfold Region.free
  rw [hi]
  simp only [List.all_eq_true, List.mem_range]
  intro j hj
  exact key ops.toList 0 (by simp) h j (by omega) (by simpa using hj)
theorem mayTake_of {ops : Array Oper} {listed : Array Bool} {done fl : List Nat} (t : Told ops listed done) (hsel : Region.noSelect ops = true) (hcl : closedS (sumOf ops) = true) {i : Nat} (h : mayTakeS (sumOf ops) fl done i = true) :
    mayTake ops fl listed i = true ∧ i < ops.size := by
  unfold mayTakeS at h
  rw [sumOf_get] at h
  cases hi : ops[i]? with
  | none => rw [hi] at h; simp at h
  | some oi =>
    have hlt : i < ops.size := (Array.getElem?_eq_some_iff.1 hi).1
    rw [hi] at h
    simp only [Option.map_some, Bool.and_eq_true] at h
    obtain ⟨⟨⟨h1, h2⟩, h3⟩, h4⟩ := h
    refine ⟨?_, hlt⟩
    unfold mayTake
    have hready : (Region.ready .any ops listed).contains i = true := by
      rw [List.contains_iff_mem, mem_ready]
      refine ⟨by rw [t.2 i hlt]; simpa using h2, oi, hi, fun e he hb => ?_⟩
      have hx : e.on ∈ depsOf oi := depsOf_mem.2 ⟨e, he, hb, rfl⟩
      have hlt' : e.on < ops.size := by
        simp only [closedS, List.all_eq_true] at hcl
        have := hcl (oi.dst, oi.looksAt ops, depsOf oi) (by simp only [sumOf, List.mem_map]; exact ⟨oi, by rw [Array.mem_toList_iff]; exact Array.mem_of_getElem? hi, rfl⟩) e.on hx
        simpa [sumOf] using this
      rw [t.getF]
      simp only [okS, List.all_eq_true] at h3
      simp [hlt', h3 e.on hx]
    have hself : selfless ops i = true := by
      have e1 : selfless ops i = (match oi.dst with | some d => !(oi.looksAt ops).contains d | none => true) := by unfold selfless; rw [hi]; rfl
      rw [e1]
      cases hd : oi.dst with
      | none => rfl
      | some d =>
        simp only [hd, Bool.and_eq_true] at h4
        simp only [contains_eq]; exact h4.1
    rw [hsel, free_of t hi h1, hready, hself, hi]
    simp only [Bool.true_and]
    cases hd : oi.dst with
    | none => rfl
    | some d =>
      simp only [hd, Bool.and_eq_true, List.all_eq_true] at h4
      simp only [List.all_eq_true]
      intro p hp
      have := h4.2 p hp
      rw [sumOf_get] at this
      cases ho : ops[p]? with
      | none => rfl
      | some o => rw [ho] at this; simp only [contains_eq]; simpa using this
theorem hangs_eq (ops : Array Oper) (j i : Nat) : hangs ops j i = hangsS (sumOf ops) j i := by
  unfold hangs hangsS
  rw [sumOf_get]
  cases h : ops[j]? with
  | none => rfl
  | some o =>
    simp only [Option.map_some]
    rw [Bool.eq_iff_iff, memN_iff, depsOf_mem, List.any_eq_true]
    constructor
    · rintro ⟨e, he, hb⟩; simp only [Bool.and_eq_true, beq_iff_eq] at hb; exact ⟨e, Array.mem_toList_iff.1 he, hb.1, hb.2⟩
    · rintro ⟨e, he, hb, hx⟩; exact ⟨e, Array.mem_toList_iff.2 he, by simp [hb, hx]⟩
theorem check_of {ops : Array Oper} (hsel : Region.noSelect ops = true) (hcl : closedS (sumOf ops) = true) : ∀ (plan : Plan) (b : Bool) (n : Nat) (fl done : List Nat) (listed : Array Bool), Told ops listed done →
    checkS (sumOf ops) b plan n fl done = true → checkPlan ops b plan n fl listed = true
  | .done, b, n, fl, done, listed, t, h => by
    cases b with
    | true => simp only [checkS, Bool.and_eq_true] at h; simp only [checkPlan, Bool.and_eq_true, ready_eq t hcl]; exact ⟨by simpa using h.1, h.2⟩
    | false => simp [checkS] at h
  | .take i p, b, n, fl, done, listed, t, h => by
    cases b with
    | false => simp [checkS] at h
    | true =>
      cases n with
      | zero => simp [checkS] at h
      | succ n =>
        simp only [checkS, Bool.and_eq_true] at h
        obtain ⟨h1, hlt⟩ := mayTake_of t hsel hcl h.1
        simp only [checkPlan, Bool.and_eq_true]
        exact ⟨h1, check_of hsel hcl p true n _ _ _ (t.step hlt) h.2⟩
  | .alt i p rest, b, n, fl, done, listed, t, h => by
    cases n with
    | zero => cases b <;> simp [checkS] at h
    | succ n =>
      have hf : (fun x => !hangs ops i x) = fun x => !hangsS (sumOf ops) i x := funext fun x => by rw [hangs_eq]
      cases b with
      | true =>
        simp only [checkS, Bool.and_eq_true, beq_iff_eq] at h
        obtain ⟨⟨h1, h2⟩, h3⟩ := h
        have hr := ready_eq t hcl
        rw [h1] at hr
        have hlt : i < ops.size := by
          have : i ∈ Region.ready .any ops listed := by rw [hr]; simp
          obtain ⟨_, o, ho, _⟩ := mem_ready.1 this
          exact (Array.getElem?_eq_some_iff.1 ho).1
        simp only [checkPlan, Bool.and_eq_true, beq_iff_eq, hf]
        exact ⟨⟨hr, check_of hsel hcl p true n _ _ _ (t.step hlt) h2⟩, check_of hsel hcl rest false (n + 1) _ _ _ t h3⟩
      | false =>
        simp only [checkS, Bool.and_eq_true] at h
        obtain ⟨⟨h1, h2⟩, h3⟩ := h
        have hlt : i < ops.size := by simpa [sumOf] using h1
        simp only [checkPlan, Bool.and_eq_true, hf]
        exact ⟨check_of hsel hcl p true n _ _ _ (t.step hlt) h2, check_of hsel hcl rest false (n + 1) _ _ _ t h3⟩
  | .nomore, b, n, fl, done, listed, t, h => by
    cases b with
    | true => simp [checkS] at h
    | false => simp [checkPlan]
theorem Run.planS {C : Cx} {id : Nat} {ops : List Oper} {k : List Item} {e : Env} {L : List HP} (hm : C.P.follows .mixedOrders = true) (plan : Plan) (S : Sm) (hS : sumOf ops.toArray = S) (hsel : Region.noSelect ops.toArray = true)
    (hc : (checkS S true plan S.length [] [] && closedS S) = true) (r : RunD C ops.toArray plan [] k e L) : Run C (.code (.region id ops.toArray true) :: k) e L := by
  subst hS
  simp only [Bool.and_eq_true] at hc
  have hlen : (sumOf ops.toArray).length = ops.length := by simp [sumOf]
  refine Run.draw hm _ rfl (r _ _ (check_of hsel hc.2 plan true _ [] [] _ ⟨by simp, fun j hj => ?_⟩ ?_))
  · have : j < ops.length := by simpa using hj
    simp [memN, this]
  · have := hc.1
    rw [hlen] at this
    simpa using this

/-! ## Calls -/
class CallOk (P : Program) (f : FuncId) : Prop where
  h : ∀ args w, (callFunc f args).run P w = .ok (.enter f args) w
section
variable {C : Cx} {ops : Array Oper} {os : List Oper} {plan : Plan} {fl fl' : Fl} {k : List Item} {e : Env} {L : List HP} {i : Nat} {d : Option Tmp} {t : TypeId} {ps : String} {af : Array Edge}
  {x : Operand} {xs : List Operand} {tys : Array TypeId} {f : FuncId} {fst cap : Array Value} {vs : List Value} {R : Value → List HP} {A M F : List HP}
theorem RunL.call (hx : ev e x = some (.func (.func f) fst cap)) (hxs : evs e xs = some vs) [hc : CallOk C.P f] (hd : lowD C.n d = true)
    (hspec : ∀ ρ', fle C.ρ ρ' → In (stars A) ρ' → Ct C.P f (fst.toList ++ vs ++ cap.toList) ρ' M R) (hfit : Fits L (A ++ M) F)
    (r : ∀ v, RunL C ops os k (putE e d v) (R v ++ (A ++ F))) : RunL C ops (⟨d, .call ⟨.value x, xs.toArray, tys⟩, t, ps, af, none⟩ :: os) k e L :=
  RunL.eff _ rfl hd (Does.call rfl hx hxs hc.h hfit hspec) r
theorem RunA.call (hi : ops[i]? = some ⟨d, .call ⟨.value x, xs.toArray, tys⟩, t, ps, af, none⟩) (hfl : stays ops i fl = fl') (hx : ev e x = some (.func (.func f) fst cap)) (hxs : evs e xs = some vs) [hc : CallOk C.P f] (hd : lowD C.n d = true)
    (hspec : ∀ ρ', fle C.ρ ρ' → In (stars A) ρ' → Ct C.P f (fst.toList ++ vs ++ cap.toList) ρ' M R) (hfit : Fits L (A ++ M) F)
    (hst : ∀ v, Still C ops fl' (putE e d v) (R v ++ (A ++ F)))
    (r : ∀ v, RunD C ops plan fl' k (putE e d v) (R v ++ (A ++ F))) : RunA C ops i plan fl k e L :=
  RunA.eff _ hi rfl hd (Does.call rfl hx hxs hc.h hfit hspec) hfl hst r
end
end Go.Proofs.YtfldnnpcdjabnaaDoor
