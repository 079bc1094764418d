/-
  Clauses and what is true, in plain Lean: what the state of a Prop tells, with no program in sight.
-/
import Derived.Test.YtfldnnpcdjabnaaDoorProp
set_option linter.unusedVariables false
set_option linter.unusedSimpArgs false
namespace Go.Proofs.YtfldnnpcdjabnaaDoor
open Go

def litOk (n : Nat) (l : Int) : Prop := l ≠ 0 ∧ -(n : Int) < l ∧ l < n
abbrev vr (l : Int) : Int := max l (-l)
def atI (l : Int) : Int := if l < 0 then -2 * l + 1 else 2 * l
def there (p : PropS) (id : Int) : Prop := 0 ≤ id ∧ id < p.fl.length ∧ (rd p.fl id).1 = true
abbrev cls (p : PropS) (id : Int) : List Int := rd p.cl id
def flg (p : PropS) (id : Int) : Prop := (rd p.fl id).2 = true
def lev (marks : List Int) (k : Int) : Int := (marks.countP (fun m => decide (m ≤ k)) : Nat)
theorem litOk.neg {n : Nat} {l : Int} (h : litOk n l) : litOk n (-l) := by simp only [litOk] at *; ((try simp only [vr] at *); omega)
theorem litOk.vrb {n : Nat} {l : Int} (h : litOk n l) : 1 ≤ vr l ∧ vr l < n := by simp only [litOk] at h; ((try simp only [vr] at *); omega)
theorem litOk.at {n : Nat} {l : Int} (h : litOk n l) : 0 ≤ atI l ∧ atI l < 2 * n := by simp only [litOk, atI] at *; split <;> ((try simp only [vr] at *); omega)
theorem atI_inj {a b : Int} (h : atI a = atI b) : a = b := by simp only [atI] at h; split at h <;> split at h <;> ((try simp only [vr] at *); omega)
theorem vr_eq {a b : Int} (h : vr a = vr b) : a = b ∨ a = -b := by ((try simp only [vr] at *); omega)
theorem isB_litOk {n : Nat} {l : Int} : isB l ((n : Int) - 1) = true ↔ litOk n l := by simp only [isB, litOk, decide_eq_true_eq]; ((try simp only [vr] at *); omega)
theorem rd_wr {α : Type} [Inhabited α] (xs : List α) (i j : Int) (y : α) (h0 : 0 ≤ i) (h1 : i < xs.length) (hj : 0 ≤ j) : rd (wr xs i y) j = if j = i then y else rd xs j := by
  by_cases h : j = i
  · subst h; rw [if_pos rfl, rd_wr_eq _ _ _ h0 h1]
  · rw [if_neg h, rd_wr_ne _ _ _ _ h0 hj (fun e => h e.symm)]
theorem snoc_split {α : Type} {xs A B : List α} {x l : α} (h : xs ++ [x] = A ++ l :: B) : (∃ B', B = B' ++ [x] ∧ xs = A ++ l :: B') ∨ (B = [] ∧ A = xs ∧ l = x) := by
  rcases List.eq_nil_or_concat B with rfl | ⟨B', y, rfl⟩
  · right
    have := List.append_inj' h rfl
    simp at this
    exact ⟨rfl, this.1.symm, this.2.symm⟩
  · left
    rw [List.concat_eq_append] at h ⊢
    have h2 : xs ++ [x] = (A ++ l :: B') ++ [y] := by rw [h]; simp
    have := List.append_inj' h2 rfl
    simp at this
    exact ⟨B', by rw [this.2], this.1⟩
theorem mem_split {α : Type} {xs : List α} {x : α} (h : x ∈ xs) : ∃ A B, xs = A ++ x :: B := List.append_of_mem h

/-- Why l is true: the clause id, of which all others are false in T. -/
def ReasonOk (p : PropS) (T : List Int) (l id : Int) : Prop := there p id ∧ l ∈ cls p id ∧ ∀ x ∈ cls p id, x ≠ l → -x ∈ T
structure TrOk (n : Nat) (p : PropS) : Prop where
  sized : Sized p n
  lit : ∀ l ∈ p.trail, litOk n l
  dist : ∀ A l B, p.trail = A ++ l :: B → ∀ x ∈ A, vr x ≠ vr l
  val : ∀ v : Int, 1 ≤ v → v < n → rd p.vals v = if v ∈ p.trail then 1 else if -v ∈ p.trail then 2 else 0
  free : ∀ v : Int, 1 ≤ v → v < n → v ∉ p.trail → -v ∉ p.trail → rd p.level v = -1 ∧ rd p.reason v = -1
  mkp : p.marks.Pairwise (· < ·)
  mkr : ∀ m ∈ p.marks, 0 ≤ m ∧ m < p.trail.length
  sp : ∀ A l B, p.trail = A ++ l :: B → rd p.level (vr l) = lev p.marks A.length ∧ ((A.length : Int) ∈ p.marks → rd p.reason (vr l) = -1) ∧ ((A.length : Int) ∉ p.marks → ReasonOk p A l (rd p.reason (vr l)))
/-- The same clauses, their literals perhaps in another order. -/
structure SameDB (p p' : PropS) : Prop where
  len : p'.cl.length = p.cl.length
  flen : p'.fl.length = p.fl.length
  th : ∀ id, there p' id ↔ there p id
  pm : ∀ id, there p id → (cls p' id).Perm (cls p id)
theorem SameDB.refl (p : PropS) : SameDB p p := ⟨rfl, rfl, fun _ => Iff.rfl, fun _ _ => List.Perm.refl _⟩
theorem SameDB.trans {p q r : PropS} (a : SameDB p q) (b : SameDB q r) : SameDB p r :=
  ⟨b.len.trans a.len, b.flen.trans a.flen, fun id => (b.th id).trans (a.th id), fun id h => (b.pm id ((a.th id).2 h)).trans (a.pm id h)⟩
theorem ReasonOk.congr {p p' : PropS} {T : List Int} {l id : Int} (h : ReasonOk p T l id) (s : SameDB p p') : ReasonOk p' T l id :=
  ⟨(s.th id).2 h.1, (s.pm id h.1).mem_iff.2 h.2.1, fun x hx hne => h.2.2 x ((s.pm id h.1).mem_iff.1 hx) hne⟩
theorem ReasonOk.mono {p : PropS} {T T' : List Int} {l id : Int} (h : ReasonOk p T l id) (hs : ∀ x ∈ T, x ∈ T') : ReasonOk p T' l id := ⟨h.1, h.2.1, fun x hx hne => hs _ (h.2.2 x hx hne)⟩
theorem TrOk.congr {n : Nat} {p p' : PropS} (h : TrOk n p) (s : SameDB p p') (hz : Sized p' n) (e1 : p'.vals = p.vals) (e2 : p'.level = p.level) (e3 : p'.reason = p.reason) (e4 : p'.trail = p.trail) (e5 : p'.marks = p.marks) : TrOk n p' :=
  ⟨hz, by rw [e4]; exact h.lit, by rw [e4]; exact h.dist, by rw [e4, e1]; exact h.val, by rw [e4, e2, e3]; exact h.free, by rw [e5]; exact h.mkp, by rw [e4, e5]; exact h.mkr,
   by rw [e4, e5, e2, e3]; exact fun A l B e => let ⟨a, b, c⟩ := h.sp A l B e; ⟨a, b, fun hm => (c hm).congr s⟩⟩
theorem TrOk.not_both {n : Nat} {p : PropS} (h : TrOk n p) {l : Int} (h1 : l ∈ p.trail) (h2 : -l ∈ p.trail) : False := by
  have hl := h.lit l h1
  obtain ⟨A, B, e⟩ := mem_split h1
  rw [e] at h2
  rcases List.mem_append.1 h2 with h3 | h3
  · exact h.dist A l B e _ h3 (by ((try simp only [vr] at *); omega))
  · rcases List.mem_cons.1 h3 with h4 | h4
    · simp only [litOk] at hl; ((try simp only [vr] at *); omega)
    · obtain ⟨C, D, e2⟩ := mem_split h4
      exact h.dist (A ++ l :: C) (-l) D (by rw [e, e2]; simp) l (by simp) (by ((try simp only [vr] at *); omega))
abbrev PropS.setl (p : PropS) (l r : Int) : PropS := { p with vals := wr p.vals (vr l) (if 0 < l then 1 else 2), level := wr p.level (vr l) p.marks.length, reason := wr p.reason (vr l) r, trail := p.trail ++ [l] }
theorem lev_all {marks : List Int} {k : Int} (h : ∀ m ∈ marks, m ≤ k) : lev marks k = marks.length := by
  have : marks.countP (fun m => decide (m ≤ k)) = marks.length := List.countP_eq_length.2 fun m hm => by simpa using h m hm
  simp [lev, this]
theorem lev_mono (marks : List Int) {j k : Int} (h : j ≤ k) : lev marks j ≤ lev marks k := by
  simp only [lev]
  have := List.countP_mono_left (l := marks) (p := fun m => decide (m ≤ j)) (q := fun m => decide (m ≤ k)) (fun m _ hm => by simp at hm ⊢; ((try simp only [vr] at *); omega))
  ((try simp only [vr] at *); omega)
theorem TrOk.push {n : Nat} {p : PropS} {l r : Int} (h : TrOk n p) (hl : litOk n l) (h1 : l ∉ p.trail) (h2 : -l ∉ p.trail) (mk' : List Int)
    (hm : (mk' = p.marks ∧ ReasonOk p p.trail l r) ∨ (mk' = p.marks ++ [(p.trail.length : Int)] ∧ r = -1)) : TrOk n (PropS.setl { p with marks := mk' } l r) := by
  obtain ⟨v0, v1⟩ := hl.vrb
  have hz := h.sized
  have hne : ∀ x ∈ p.trail, vr x ≠ vr l := fun x hx e => by
    rcases vr_eq e with rfl | rfl
    · exact h1 hx
    · exact h2 hx
  have hmk : ∀ m ∈ mk', m ∈ p.marks ∨ (m = (p.trail.length : Int) ∧ r = -1) := by
    rcases hm with ⟨e, _⟩ | ⟨e, e'⟩ <;> subst e
    · exact fun m hm => .inl hm
    · intro m hm; simp at hm; rcases hm with hm | hm
      · exact .inl hm
      · exact .inr ⟨hm, e'⟩
  refine ⟨⟨hz.pos, by simp [length_wr, hz.vals], by simp [length_wr, hz.level], by simp [length_wr, hz.reason], hz.watch⟩, ?_, ?_, ?_, ?_, ?_, ?_, ?_⟩
  · intro x hx
    rcases List.mem_append.1 hx with hx | hx
    · exact h.lit x hx
    · simp at hx; subst hx; exact hl
  · intro A x B e
    rcases snoc_split e with ⟨B', _, e'⟩ | ⟨_, rfl, rfl⟩
    · exact h.dist A x B' e'
    · exact hne
  · intro v hv0 hv1
    dsimp only
    rw [rd_wr _ _ _ _ (by ((try simp only [vr] at *); omega)) (by rw [hz.vals]; ((try simp only [vr] at *); omega)) (by ((try simp only [vr] at *); omega))]
    have hv := h.val v hv0 hv1
    by_cases e : v = vr l
    · rw [if_pos e]
      by_cases hp : 0 < l
      · have : v = l := by ((try simp only [vr] at *); omega)
        subst this; simp [hp]
      · have e2 : -v = l := by simp only [litOk] at hl; ((try simp only [vr] at *); omega)
        have e3 : v ∉ p.trail ++ [l] := by
          intro hx; rcases List.mem_append.1 hx with hx | hx
          · exact h2 (by rwa [← e2, Int.neg_neg])
          · simp at hx; ((try simp only [vr] at *); omega)
        rw [if_neg hp, if_neg e3, if_pos (by simp [e2])]
    · rw [if_neg e, hv]
      have a1 : v ∈ p.trail ++ [l] ↔ v ∈ p.trail := by
        simp only [List.mem_append, List.mem_singleton]; constructor
        · rintro (x | x)
          · exact x
          · ((try simp only [vr] at *); omega)
        · exact .inl
      have a2 : -v ∈ p.trail ++ [l] ↔ -v ∈ p.trail := by
        simp only [List.mem_append, List.mem_singleton]; constructor
        · rintro (x | x)
          · exact x
          · ((try simp only [vr] at *); omega)
        · exact .inl
      simp only [a1, a2]
  · intro v hv0 hv1 n1 n2
    have e : v ≠ vr l := by
      intro e
      by_cases hp : 0 < l
      · exact n1 (by simp; right; ((try simp only [vr] at *); omega))
      · exact n2 (by simp; right; simp only [litOk] at hl; ((try simp only [vr] at *); omega))
    dsimp only
    rw [rd_wr _ _ _ _ (by ((try simp only [vr] at *); omega)) (by rw [hz.level]; ((try simp only [vr] at *); omega)) (by ((try simp only [vr] at *); omega)), rd_wr _ _ _ _ (by ((try simp only [vr] at *); omega)) (by rw [hz.reason]; ((try simp only [vr] at *); omega)) (by ((try simp only [vr] at *); omega)), if_neg e, if_neg e]
    exact h.free v hv0 hv1 (fun hx => n1 (by simp [hx])) (fun hx => n2 (by simp [hx]))
  · rcases hm with ⟨e, _⟩ | ⟨e, _⟩ <;> subst e
    · exact h.mkp
    · refine List.pairwise_append.2 ⟨h.mkp, by simp, fun a ha b hb => ?_⟩
      simp at hb; subst hb; exact (h.mkr a ha).2
  · intro m hm'
    dsimp only
    rcases hmk m hm' with hx | ⟨hx, _⟩
    · have := h.mkr m hx; simp; ((try simp only [vr] at *); omega)
    · subst hx; simp; ((try simp only [vr] at *); omega)
  · intro A x B e
    dsimp only at e ⊢
    rcases snoc_split e with ⟨B', _, e'⟩ | ⟨_, e1, e2⟩
    · have hx : x ∈ p.trail := by rw [e']; simp
      have hvx := (h.lit x hx).vrb
      have hlt : (A.length : Int) < p.trail.length := by rw [e']; simp; ((try simp only [vr] at *); omega)
      obtain ⟨s1, s2, s3⟩ := h.sp A x B' e'
      rw [rd_wr _ _ _ _ (by ((try simp only [vr] at *); omega)) (by rw [hz.level]; ((try simp only [vr] at *); omega)) (by ((try simp only [vr] at *); omega)), rd_wr _ _ _ _ (by ((try simp only [vr] at *); omega)) (by rw [hz.reason]; ((try simp only [vr] at *); omega)) (by ((try simp only [vr] at *); omega)), if_neg (hne x hx), if_neg (hne x hx)]
      have e3 : lev mk' A.length = lev p.marks A.length := by
        rcases hm with ⟨e, _⟩ | ⟨e, _⟩ <;> subst e
        · rfl
        · have : ¬ ((p.trail.length : Int) ≤ A.length) := by ((try simp only [vr] at *); omega)
          simp [lev, List.countP_cons_of_neg, this]
      have e4 : (A.length : Int) ∈ mk' ↔ (A.length : Int) ∈ p.marks := by
        constructor
        · intro hy; rcases hmk _ hy with hy | ⟨hy, _⟩
          · exact hy
          · ((try simp only [vr] at *); omega)
        · intro hy; rcases hm with ⟨e, _⟩ | ⟨e, _⟩ <;> subst e <;> simp [hy]
      rw [e3, e4]
      exact ⟨s1, s2, fun hy => let r := s3 hy; ⟨r.1, r.2.1, r.2.2⟩⟩
    · subst e1; subst e2
      rw [rd_wr _ _ _ _ (by ((try simp only [vr] at *); omega)) (by rw [hz.level]; ((try simp only [vr] at *); omega)) (by ((try simp only [vr] at *); omega)), rd_wr _ _ _ _ (by ((try simp only [vr] at *); omega)) (by rw [hz.reason]; ((try simp only [vr] at *); omega)) (by ((try simp only [vr] at *); omega)), if_pos rfl, if_pos rfl]
      refine ⟨?_, ?_, ?_⟩
      · rw [lev_all]
        intro m hm'
        rcases hmk m hm' with hx | ⟨hx, _⟩
        · have := (h.mkr m hx).2; ((try simp only [vr] at *); omega)
        · ((try simp only [vr] at *); omega)
      · intro hy; rcases hmk _ hy with hy | ⟨_, hy⟩
        · have := (h.mkr _ hy).2; ((try simp only [vr] at *); omega)
        · exact hy
      · intro hy; rcases hm with ⟨e, hr⟩ | ⟨e, _⟩
        · exact ⟨hr.1, hr.2.1, hr.2.2⟩
        · subst e; simp at hy
theorem TrOk.set {n : Nat} {p : PropS} {l r : Int} (h : TrOk n p) (hl : litOk n l) (h1 : l ∉ p.trail) (h2 : -l ∉ p.trail) (hr : ReasonOk p p.trail l r) : TrOk n (p.setl l r) := h.push hl h1 h2 p.marks (.inl ⟨rfl, hr⟩)
abbrev PropS.decide (p : PropS) (l : Int) : PropS := PropS.setl { p with marks := p.marks ++ [(p.trail.length : Int)] } l (-1)
theorem TrOk.decide {n : Nat} {p : PropS} {l : Int} (h : TrOk n p) (hl : litOk n l) (h1 : l ∉ p.trail) (h2 : -l ∉ p.trail) : TrOk n (p.decide l) := h.push hl h1 h2 _ (.inr ⟨rfl, rfl⟩)

/-! ## To go back -/
structure BackR (n : Nat) (p p' : PropS) (L from' : Int) : Prop where
  cl : p'.cl = p.cl
  fl : p'.fl = p.fl
  watch : p'.watch = p.watch
  loose : p'.loose = p.loose
  l1 : p'.vals.length = p.vals.length
  l2 : p'.level.length = p.level.length
  l3 : p'.reason.length = p.reason.length
  trail : p'.trail = p.trail.take from'.toNat
  marks : p'.marks = p.marks.take L.toNat
  head : p'.head = min p.head from'
  und : ∀ v : Int, 1 ≤ v → v < n → (v ∈ p.trail.drop from'.toNat ∨ -v ∈ p.trail.drop from'.toNat) → rd p'.vals v = 0 ∧ rd p'.level v = -1 ∧ rd p'.reason v = -1
  keep : ∀ v : Int, 1 ≤ v → v < n → v ∉ p.trail.drop from'.toNat → -v ∉ p.trail.drop from'.toNat → rd p'.vals v = rd p.vals v ∧ rd p'.level v = rd p.level v ∧ rd p'.reason v = rd p.reason v
theorem BackR.db {n : Nat} {p p' : PropS} {L from' : Int} (b : BackR n p p' L from') : SameDB p p' := by
  refine ⟨by rw [b.cl], by rw [b.fl], fun id => by simp [there, b.fl], fun id _ => by simp [cls, b.cl]⟩
theorem marks_lt {marks : List Int} (h : marks.Pairwise (· < ·)) {i : Nat} {f : Int} (hi : marks[i]? = some f) : ∀ m ∈ marks, m ∈ marks.take i ↔ m < f := by
  intro m hm
  have hlt : i < marks.length := (List.getElem?_eq_some_iff.1 hi).1
  have e : marks = marks.take i ++ f :: marks.drop (i + 1) := by
    have : marks[i] = f := (List.getElem?_eq_some_iff.1 hi).2
    rw [← this]; simp
  rw [e] at h hm
  have h2 := List.pairwise_append.1 h
  constructor
  · intro hx; exact h2.2.2 m hx f (by simp)
  · intro hx
    rcases List.mem_append.1 hm with hy | hy
    · exact hy
    · exfalso
      rcases List.mem_cons.1 hy with hy | hy
      · ((try simp only [vr] at *); omega)
      · have := (List.pairwise_cons.1 h2.2.1).1 m hy; ((try simp only [vr] at *); omega)
theorem lev_take {marks : List Int} (h : marks.Pairwise (· < ·)) {i : Nat} {f : Int} (hi : marks[i]? = some f) {k : Int} (hk : k < f) : lev (marks.take i) k = lev marks k := by
  have hlt : i < marks.length := (List.getElem?_eq_some_iff.1 hi).1
  have e : marks = marks.take i ++ marks.drop i := (List.take_append_drop i marks).symm
  have hz : (marks.drop i).countP (fun m => decide (m ≤ k)) = 0 := by
    rw [List.countP_eq_zero]
    intro m hm
    have h1 := (fun hx => (marks_lt h hi m (List.mem_of_mem_drop hm)).2 hx : m < f → m ∈ marks.take i)
    have h2 := (fun hx => by
      have hnd : marks.Pairwise (· ≠ ·) := h.imp (fun a => by ((try simp only [vr] at *); omega))
      rw [e] at hnd
      exact (List.pairwise_append.1 hnd).2.2 m hx m hm rfl : m ∈ marks.take i → False)
    simp only [decide_eq_true_eq]
    intro h3
    exact h2 (h1 (by ((try simp only [vr] at *); omega)))
  unfold lev
  conv => rhs; rw [e, List.countP_append, hz]
  simp
theorem lev_full {marks : List Int} (h : marks.Pairwise (· < ·)) {i : Nat} {f : Int} (hi : marks[i]? = some f) {k : Int} : (lev marks k ≤ i ↔ k < f) := by
  have hlt : i < marks.length := (List.getElem?_eq_some_iff.1 hi).1
  have e : marks = marks.take i ++ f :: marks.drop (i + 1) := by
    have : marks[i] = f := (List.getElem?_eq_some_iff.1 hi).2
    rw [← this]; simp
  constructor
  · intro hle
    refine Int.not_le.1 fun hk => ?_
    have h1 : (marks.take i).countP (fun m => decide (m ≤ k)) = i := by
      have : (marks.take i).countP (fun m => decide (m ≤ k)) = (marks.take i).length := List.countP_eq_length.2 fun m hm => by
        have := (marks_lt h hi m (List.mem_of_mem_take hm)).1 hm
        simp; ((try simp only [vr] at *); omega)
      rw [this]; simp; ((try simp only [vr] at *); omega)
    unfold lev at hle
    rw [e, List.countP_append, h1, List.countP_cons_of_pos (by simpa using hk)] at hle
    ((try simp only [vr] at *); omega)
  · intro hk
    rw [← lev_take h hi hk]
    unfold lev
    have := List.countP_le_length (p := fun m => decide (m ≤ k)) (l := marks.take i)
    simp at this ⊢; ((try simp only [vr] at *); omega)
theorem TrOk.back {n : Nat} {p p' : PropS} {L f : Int} (h : TrOk n p) (hL : 0 ≤ L) (hf : p.marks[L.toNat]? = some f) (b : BackR n p p' L f) : TrOk n p' := by
  have hz := h.sized
  have hfm : f ∈ p.marks := List.mem_of_getElem? hf
  have hfr := h.mkr f hfm
  have sub : ∀ x, x ∈ p'.trail → x ∈ p.trail := fun x hx => by rw [b.trail] at hx; exact List.mem_of_mem_take hx
  have spl : ∀ A l B, p'.trail = A ++ l :: B → p.trail = A ++ l :: (B ++ p.trail.drop f.toNat) ∧ (A.length : Int) < f := fun A l B e => by
    rw [b.trail] at e
    refine ⟨?_, ?_⟩
    · have := List.take_append_drop f.toNat p.trail
      rw [e] at this; simpa using this.symm
    · have : (p.trail.take f.toNat).length = A.length + (B.length + 1) := by rw [e]; simp
      rw [List.length_take] at this; ((try simp only [vr] at *); omega)
  -- what stands ahead does not stand behind
  have apart : ∀ x ∈ p'.trail, ∀ y ∈ p.trail.drop f.toNat, vr x ≠ vr y := by
    intro x hx y hy
    rw [b.trail] at hx
    obtain ⟨C, D, e⟩ := mem_split hy
    refine h.dist (p.trail.take f.toNat ++ C) y D ?_ x (by simp [hx])
    rw [List.append_assoc, ← e, List.take_append_drop]
  have cases' : ∀ v : Int, v ∈ p.trail ↔ v ∈ p'.trail ∨ v ∈ p.trail.drop f.toNat := fun v => by
    rw [b.trail, ← List.mem_append, List.take_append_drop]
  refine ⟨⟨hz.pos, by rw [b.l1, hz.vals], by rw [b.l2, hz.level], by rw [b.l3, hz.reason], by rw [b.watch, hz.watch]⟩, fun l hl => h.lit l (sub l hl), ?_, ?_, ?_, ?_, ?_, ?_⟩
  · intro A l B e x hx
    exact h.dist A l _ (spl A l B e).1 x hx
  · intro v h0 h1
    by_cases hd : v ∈ p.trail.drop f.toNat ∨ -v ∈ p.trail.drop f.toNat
    · rw [(b.und v h0 h1 hd).1, if_neg, if_neg]
      · intro hx
        rcases hd with hd | hd
        · exact apart _ hx _ hd (by ((try simp only [vr] at *); omega))
        · exact apart _ hx _ hd rfl
      · intro hx
        rcases hd with hd | hd
        · exact apart _ hx _ hd rfl
        · exact apart _ hx _ hd (by ((try simp only [vr] at *); omega))
    · have hd1 : v ∉ p.trail.drop f.toNat := fun x => hd (.inl x)
      have hd2 : -v ∉ p.trail.drop f.toNat := fun x => hd (.inr x)
      rw [(b.keep v h0 h1 hd1 hd2).1, h.val v h0 h1]
      have a1 := cases' v
      have a2 := cases' (-v)
      simp only [hd1, hd2, or_false] at a1 a2
      simp only [a1, a2]
  · intro v h0 h1 n1 n2
    by_cases hd : v ∈ p.trail.drop f.toNat ∨ -v ∈ p.trail.drop f.toNat
    · exact (b.und v h0 h1 hd).2
    · have hd1 : v ∉ p.trail.drop f.toNat := fun x => hd (.inl x)
      have hd2 : -v ∉ p.trail.drop f.toNat := fun x => hd (.inr x)
      rw [(b.keep v h0 h1 hd1 hd2).2.1, (b.keep v h0 h1 hd1 hd2).2.2]
      exact h.free v h0 h1 (fun hx => (cases' v).1 hx |>.elim n1 hd1) (fun hx => (cases' (-v)).1 hx |>.elim n2 hd2)
  · rw [b.marks]; exact List.Pairwise.sublist (List.take_sublist _ _) h.mkp
  · intro m hm
    rw [b.marks] at hm
    have h1 := h.mkr m (List.mem_of_mem_take hm)
    have h2 := (marks_lt h.mkp hf m (List.mem_of_mem_take hm)).1 hm
    rw [b.trail, List.length_take]; ((try simp only [vr] at *); omega)
  · intro A l B e
    obtain ⟨e1, e2⟩ := spl A l B e
    have hl : l ∈ p'.trail := by rw [e]; simp
    have hv := (h.lit l (sub l hl)).vrb
    obtain ⟨s1, s2, s3⟩ := h.sp A l _ e1
    have k1 : vr l ∉ p.trail.drop f.toNat := fun hx => apart l hl _ hx (by ((try simp only [vr] at *); omega))
    have k2 : -(vr l) ∉ p.trail.drop f.toNat := fun hx => apart l hl _ hx (by ((try simp only [vr] at *); omega))
    obtain ⟨q1, q2, q3⟩ := b.keep (vr l) hv.1 hv.2 k1 k2
    rw [q2, q3, b.marks, lev_take h.mkp hf e2]
    have e4 : (A.length : Int) ∈ p.marks.take L.toNat ↔ (A.length : Int) ∈ p.marks :=
      ⟨fun hx => List.mem_of_mem_take hx, fun hx => (marks_lt h.mkp hf _ hx).2 e2⟩
    rw [e4]
    exact ⟨s1, s2, fun hx => (s3 hx).congr b.db⟩
/-- A level tells whether a literal stays. -/
theorem TrOk.stays {n : Nat} {p p' : PropS} {L f : Int} (h : TrOk n p) (hL : 0 ≤ L) (hf : p.marks[L.toNat]? = some f) (b : BackR n p p' L f) {l : Int} (hl : l ∈ p.trail) : l ∈ p'.trail ↔ rd p.level (vr l) ≤ L := by
  obtain ⟨A, B, e⟩ := mem_split hl
  obtain ⟨s1, _, _⟩ := h.sp A l B e
  have hfr := h.mkr f (List.mem_of_getElem? hf)
  have := lev_full h.mkp hf (k := A.length)
  rw [s1, show lev p.marks A.length ≤ L ↔ lev p.marks A.length ≤ (L.toNat : Int) by ((try simp only [vr] at *); omega), this, b.trail]
  constructor
  · intro hx
    refine Int.not_le.1 fun hk => ?_
    have : p.trail.take f.toNat = A.take f.toNat := by rw [e, List.take_append_of_le_length (by ((try simp only [vr] at *); omega))]
    rw [this] at hx
    exact h.dist A l B e l (List.mem_of_mem_take hx) rfl
  · intro hk
    have : p.trail.take f.toNat = A ++ (l :: B).take (f.toNat - A.length) := by rw [e, List.take_append, List.take_of_length_le (by ((try simp only [vr] at *); omega))]
    rw [this]
    have : f.toNat - A.length = (f.toNat - A.length - 1) + 1 := by ((try simp only [vr] at *); omega)
    rw [this]; simp
theorem BackR.kept {n : Nat} {p p' : PropS} {L f : Int} (h : TrOk n p) (b : BackR n p p' L f) {l : Int} (hl : l ∈ p'.trail) : rd p'.level (vr l) = rd p.level (vr l) := by
  rw [b.trail] at hl
  have hp := List.mem_of_mem_take hl
  have hv := (h.lit l hp).vrb
  have apart : ∀ y ∈ p.trail.drop f.toNat, vr l ≠ vr y := by
    intro y hy
    obtain ⟨C, D, e⟩ := mem_split hy
    refine h.dist (p.trail.take f.toNat ++ C) y D ?_ l (by simp [hl])
    rw [List.append_assoc, ← e, List.take_append_drop]
  exact (b.keep (vr l) hv.1 hv.2 (fun hx => apart _ hx (by ((try simp only [vr] at *); omega))) (fun hx => apart _ hx (by ((try simp only [vr] at *); omega)))).2.1
end Go.Proofs.YtfldnnpcdjabnaaDoor
