/-
  A small logic of heaps for Go's calls: what a call owns, what it may read, what it leaves; one rule for each form of code. No program stands in it.
-/
import Derived.Calls
import Derived.Defers
import Derived.Tactics
import Derived.Room.AppendOwn
import Derived.KernelRfl
set_option linter.unusedVariables false
set_option linter.unusedSimpArgs false
namespace Go.Proofs.YtfldnnpcdjabnaaDoor
open Go

/-! ## Heaps -/
abbrev Frag := Nat → Option Obj
def hp (w : World) : Frag := fun b => w.heap[b]?
def fle (h g : Frag) : Prop := ∀ b o, h b = some o → g b = some o
def dj (h g : Frag) : Prop := ∀ b, h b = none ∨ g b = none
def fadd (h g : Frag) : Frag := fun b => (h b).or (g b)
def fone (b : Nat) (o : Obj) : Frag := fun c => if c = b then some o else none
def fnil : Frag := fun _ => none

theorem fle_refl (h : Frag) : fle h h := fun _ _ e => e
theorem fle_trans {h g k : Frag} (a : fle h g) (b : fle g k) : fle h k := fun x o e => b x o (a x o e)
theorem fnil_le (h : Frag) : fle fnil h := fun b o e => by simp [fnil] at e
theorem dj_comm {h g : Frag} (d : dj h g) : dj g h := fun b => (d b).symm
theorem dj_nil (h : Frag) : dj h fnil := fun _ => .inr rfl
theorem fadd_nil (h : Frag) : fadd h fnil = h := by funext b; simp [fadd, fnil]
theorem nil_fadd (h : Frag) : fadd fnil h = h := by funext b; simp [fadd, fnil]
theorem fadd_comm {h g : Frag} (d : dj h g) : fadd h g = fadd g h := by
  funext b; rcases d b with e | e <;> simp [fadd, e]
theorem fadd_assoc (h g k : Frag) : fadd (fadd h g) k = fadd h (fadd g k) := by
  funext b; simp [fadd, Option.or_assoc]
theorem le_fadd_left (h g : Frag) : fle h (fadd h g) := fun b o e => by simp [fadd, e]
theorem le_fadd_right {h g : Frag} (d : dj h g) : fle g (fadd h g) := fun b o e => by
  rcases d b with e' | e' <;> simp [fadd, e', e]; simp [e] at e'
theorem fadd_le {h g k : Frag} (a : fle h k) (b : fle g k) : fle (fadd h g) k := fun x o e => by
  simp only [fadd, Option.or_eq_some_iff] at e
  rcases e with e | ⟨_, e⟩
  · exact a x o e
  · exact b x o e
theorem dj_fadd {h g k : Frag} : dj (fadd h g) k ↔ dj h k ∧ dj g k := by
  constructor
  · intro d
    refine ⟨fun b => ?_, fun b => ?_⟩ <;> rcases d b with e | e <;> simp_all [fadd]
  · rintro ⟨d1, d2⟩ b
    rcases d1 b with e | e
    · rcases d2 b with e' | e'
      · left; simp [fadd, e, e']
      · exact .inr e'
    · exact .inr e
theorem dj_fadd' {h g k : Frag} : dj k (fadd h g) ↔ dj k h ∧ dj k g :=
  ⟨fun d => let ⟨a, b⟩ := dj_fadd.1 (dj_comm d); ⟨dj_comm a, dj_comm b⟩, fun ⟨a, b⟩ => dj_comm (dj_fadd.2 ⟨dj_comm a, dj_comm b⟩)⟩
theorem fone_le {b : Nat} {o : Obj} {g : Frag} (e : g b = some o) : fle (fone b o) g := fun c u h => by
  unfold fone at h; split at h
  · rename_i hc; rw [hc, e]; exact h
  · cases h
theorem fone_self (b : Nat) (o : Obj) : fone b o b = some o := by simp [fone]

abbrev HP := Frag → Prop
def emp : HP := fun h => h = fnil
def star (A B : HP) : HP := fun h => ∃ h1 h2, dj h1 h2 ∧ h = fadd h1 h2 ∧ A h1 ∧ B h2
def stars : List HP → HP
  | [] => emp
  | A :: L => star A (stars L)
def hex {α : Sort _} (A : α → HP) : HP := fun h => ∃ x, A x h
def pu (p : Prop) : HP := fun h => p ∧ h = fnil
def blk (b : Nat) (o : Obj) : HP := fun h => h = fone b o
def In (A : HP) (ρ : Frag) : Prop := ∃ h, A h ∧ fle h ρ
theorem In.mono {A : HP} {ρ ρ' : Frag} (h : In A ρ) (l : fle ρ ρ') : In A ρ' := let ⟨k, a, b⟩ := h; ⟨k, a, fle_trans b l⟩

theorem star_comm {A B : HP} {h : Frag} (s : star A B h) : star B A h := by
  obtain ⟨h1, h2, d, rfl, a, b⟩ := s
  exact ⟨h2, h1, dj_comm d, fadd_comm d, b, a⟩
theorem star_assoc {A B C : HP} {h : Frag} (s : star (star A B) C h) : star A (star B C) h := by
  obtain ⟨h12, h3, d, rfl, ⟨h1, h2, d', rfl, a, b⟩, c⟩ := s
  obtain ⟨d1, d2⟩ := dj_fadd.1 d
  exact ⟨h1, fadd h2 h3, dj_fadd'.2 ⟨d', d1⟩, fadd_assoc _ _ _, a, h2, h3, d2, rfl, b, c⟩
theorem star_assoc' {A B C : HP} {h : Frag} (s : star A (star B C) h) : star (star A B) C h := by
  obtain ⟨h1, h23, d, rfl, a, ⟨h2, h3, d', rfl, b, c⟩⟩ := s
  obtain ⟨d1, d2⟩ := dj_fadd'.1 d
  exact ⟨fadd h1 h2, h3, dj_fadd.2 ⟨d2, d'⟩, (fadd_assoc _ _ _).symm, ⟨h1, h2, d1, rfl, a, b⟩, c⟩
theorem star_mono {A A' B B' : HP} (ha : ∀ h, A h → A' h) (hb : ∀ h, B h → B' h) {h : Frag} (s : star A B h) : star A' B' h :=
  let ⟨h1, h2, d, e, a, b⟩ := s; ⟨h1, h2, d, e, ha _ a, hb _ b⟩
theorem star_swap {A B C : HP} {h : Frag} (s : star A (star B C) h) : star B (star A C) h :=
  star_assoc (star_mono (fun _ s => star_comm s) (fun _ x => x) (star_assoc' s))
theorem star_emp {A : HP} {h : Frag} : star A emp h ↔ A h := by
  constructor
  · rintro ⟨h1, h2, d, rfl, a, rfl⟩; rwa [fadd_nil]
  · intro a; exact ⟨h, fnil, dj_nil h, (fadd_nil h).symm, a, rfl⟩
theorem stars_append {L M : List HP} {h : Frag} : stars (L ++ M) h ↔ star (stars L) (stars M) h := by
  induction L generalizing h with
  | nil => simp only [List.nil_append, stars]; exact ⟨fun s => star_comm (star_emp.2 s), fun s => star_emp.1 (star_comm s)⟩
  | cons A L ih =>
    simp only [List.cons_append, stars]
    exact ⟨fun s => star_assoc' (star_mono (fun _ x => x) (fun _ x => ih.1 x) s), fun s => star_mono (fun _ x => x) (fun _ x => ih.2 x) (star_assoc s)⟩

/-! ## To find an assertion in a list, and to take several out of one -/
def Pick (A : HP) (L L' : List HP) : Prop := ∀ h, stars L h → stars (A :: L') h
theorem Pick.here {A : HP} {L : List HP} : Pick A (A :: L) L := fun _ s => s
theorem Pick.there {A B : HP} {L L' : List HP} (p : Pick A L L') : Pick A (B :: L) (B :: L') := fun h s => by
  have : star B (star A (stars L')) h := star_mono (fun _ x => x) p s
  exact star_swap this
/-- L holds all of M, and F beside. -/
def Fits (L M F : List HP) : Prop := ∀ h, stars L h → star (stars M) (stars F) h
theorem Fits.nil {L : List HP} : Fits L [] L := fun _ s => star_comm (star_emp.2 s)
theorem Fits.cons {A : HP} {L L' M F : List HP} (p : Pick A L L') (f : Fits L' M F) : Fits L (A :: M) F := fun h s =>
  star_assoc' (star_mono (fun _ x => x) f (p h s))
theorem Fits.all {L : List HP} : Fits L L [] := fun _ s => star_emp.2 s

/-! ## What a step may do to memory -/
structure Evo (h : Frag) (w w' : World) (h' : Frag) : Prop where
  size : w.heap.size ≤ w'.heap.size
  same : ∀ b, b < w.heap.size → h b = none → hp w' b = hp w b
  dom : ∀ b, h' b ≠ none → h b ≠ none ∨ w.heap.size ≤ b
  os : w'.os = w.os
  out : w'.output = w.output
  tape : w'.tape = w.tape
  drawn : w.drawn ≤ w'.drawn
theorem Evo.refl (h : Frag) (w : World) : Evo h w w h := ⟨Nat.le_refl _, fun _ _ _ => rfl, fun _ e => .inl e, rfl, rfl, rfl, Nat.le_refl _⟩
theorem Evo.trans {h h1 h2 : Frag} {w w1 w2 : World} (a : Evo h w w1 h1) (b : Evo h1 w1 w2 h2) : Evo h w w2 h2 := by
  refine ⟨Nat.le_trans a.size b.size, fun c hc hn => ?_, fun c hc => ?_, b.os.trans a.os, b.out.trans a.out, b.tape.trans a.tape, Nat.le_trans a.drawn b.drawn⟩
  · have h1n : h1 c = none := by
      rcases Option.eq_none_or_eq_some (h1 c) with e | ⟨o, e⟩
      · exact e
      · rcases a.dom c (by simp [e]) with e' | e'
        · exact absurd hn e'
        · omega
    rw [b.same c (Nat.lt_of_lt_of_le hc a.size) h1n, a.same c hc hn]
  · rcases b.dom c hc with e | e
    · exact a.dom c e
    · exact .inr (Nat.le_trans a.size e)
theorem hp_lt {w : World} {b : Nat} {o : Obj} (h : hp w b = some o) : b < w.heap.size := (Array.getElem?_eq_some_iff.1 h).1
theorem Evo.rho {h h' ρ : Frag} {w w' : World} (a : Evo h w w' h') (d : dj ρ h) (l : fle ρ (hp w)) : fle ρ (hp w') ∧ dj ρ h' := by
  refine ⟨fun b o e => ?_, fun b => ?_⟩
  · have hb := hp_lt (l b o e)
    rw [a.same b hb ((d b).resolve_left (by simp [e]))]
    exact l b o e
  · rcases Option.eq_none_or_eq_some (ρ b) with e | ⟨o, e⟩
    · exact .inl e
    · right
      have hb := hp_lt (l b o e)
      rcases Option.eq_none_or_eq_some (h' b) with e' | ⟨o', e'⟩
      · exact e'
      · rcases a.dom b (by simp [e']) with e2 | e2
        · exact absurd ((d b).resolve_left (by simp [e])) e2
        · omega
/-- A part of what is owned goes on its way alone; the rest is as it was. -/
theorem Evo.frame {h h' g : Frag} {w w' : World} (a : Evo h w w' h') (d : dj h g) (l : fle g (hp w)) :
    Evo (fadd h g) w w' (fadd h' g) ∧ dj h' g ∧ fle g (hp w') := by
  obtain ⟨l', d'⟩ := a.rho (dj_comm d) l
  refine ⟨⟨a.size, fun b hb e => a.same b hb ?_, fun b e => ?_, a.os, a.out, a.tape, a.drawn⟩, dj_comm d', l'⟩
  · simp only [fadd, Option.or_eq_none_iff] at e; exact e.1
  · rcases Option.eq_none_or_eq_some (h' b) with e' | ⟨o', e'⟩
    · left; simp only [fadd, e', Option.none_or] at e ⊢; intro he; simp only [Option.or_eq_none_iff] at he; exact e he.2
    · rcases a.dom b (by simp [e']) with e2 | e2
      · left; intro he; simp only [fadd, Option.or_eq_none_iff] at he; exact e2 he.1
      · exact .inr e2

/-! ## Slots -/
abbrev Env := List (Nat × Value)
def get : Env → Nat → Option Value
  | [], _ => none
  | (k, v) :: e, t => bif Nat.beq k t then some v else get e t
def ev (e : Env) : Operand → Option Value
  | .tmp t => get e t
  | .const v => some v
  | .global g => some (.pointer (some ⟨g, 0, none⟩))
  | .func f => some (.func (.func f) #[] #[])
def evs (e : Env) : List Operand → Option (List Value)
  | [] => some []
  | x :: l => (ev e x).bind fun v => (evs e l).bind fun vs => some (v :: vs)
def putE (e : Env) : Option Tmp → Value → Env
  | some d, v => (d, v) :: e
  | none, _ => e
def lowD (n : Nat) : Option Tmp → Bool
  | some d => Nat.blt d n
  | none => true

structure Cx where
  P : Program
  n : Nat
  ds : List Deferred
  ρ : Frag
  Q : Act → World → Frag → Prop

structure St (C : Cx) (e : Env) (H : HP) (a : Act) (w : World) (h : Frag) : Prop where
  size : a.tmps.size = C.n
  defers : a.defers = C.ds
  env : ∀ t v, get e t = some v → a.tmps.getD t undef = v
  holds : H h
  le : fle h (hp w)
  rho : fle C.ρ (hp w)
  dj : dj C.ρ h

theorem St.eval {C : Cx} {e : Env} {H : HP} {a : Act} {w : World} {h : Frag} (s : St C e H a w h) {x : Operand} {v : Value} (hx : ev e x = some v) : a.eval x = v := by
  cases x with
  | tmp t => exact s.env t v hx
  | const u => simpa [ev, Act.eval] using hx
  | global g => simpa [ev, Act.eval] using hx
  | func f => simpa [ev, Act.eval] using hx
theorem St.evals {C : Cx} {e : Env} {H : HP} {a : Act} {w : World} {h : Frag} (s : St C e H a w h) : ∀ {l : List Operand} {vs : List Value}, evs e l = some vs → l.map a.eval = vs
  | [], vs, hx => by simpa [evs] using hx
  | x :: l, vs, hx => by
    simp only [evs, Option.bind_eq_some_iff] at hx
    obtain ⟨v, hv, us, hus, e'⟩ := hx
    simp only [Option.some.injEq] at e'
    subst e'
    simp [s.eval hv, s.evals hus]
theorem getD_set (a : Array Value) (d t : Nat) (v : Value) (hd : d < a.size) : (a.setIfInBounds d v).getD t undef = if d = t then v else a.getD t undef := by
  simp only [Array.getD_eq_getD_getElem?, Array.getElem?_setIfInBounds]
  by_cases e : d = t
  · subst e; simp [hd]
  · simp [e]
theorem St.put {C : Cx} {e : Env} {H H' : HP} {a : Act} {w w' : World} {h h' : Frag} (s : St C e H a w h) {d : Option Tmp} (hd : lowD C.n d = true) (v : Value)
    (hh : H' h') (hl : fle h' (hp w')) (hn : Evo h w w' h') : St C (putE e d v) H' (a.put d v) w' h' := by
  obtain ⟨hr, hdj⟩ := hn.rho s.dj s.rho
  cases d with
  | none => exact ⟨s.size, s.defers, s.env, hh, hl, hr, hdj⟩
  | some d =>
    have hlt : d < a.tmps.size := by rw [s.size]; simpa [lowD] using hd
    refine ⟨by simpa [Act.put] using s.size, s.defers, fun t u hu => ?_, hh, hl, hr, hdj⟩
    simp only [Act.put]
    rw [getD_set _ _ _ _ hlt]
    simp only [putE, get] at hu
    by_cases ht : d = t
    · subst ht; simp at hu; simp [hu]
    · have : Nat.beq d t = false := by rw [Bool.eq_false_iff]; intro h; exact ht (Nat.eq_of_beq_eq_true h)
      simp only [this, cond_false] at hu
      rw [if_neg ht]; exact s.env t u hu
theorem St.weaken {C : Cx} {e e' : Env} {H H' : HP} {a : Act} {w : World} {h h' : Frag} (s : St C e H a w h) (he : ∀ t v, get e' t = some v → get e t = some v)
    (hh : H' h') (hl : fle h' h) : St C e' H' a w h' := by
  refine ⟨s.size, s.defers, fun t v ht => s.env t v (he t v ht), hh, fle_trans hl s.le, s.rho, fun b => ?_⟩
  rcases s.dj b with x | x
  · exact .inl x
  · right
    rcases Option.eq_none_or_eq_some (h' b) with y | ⟨o, y⟩
    · exact y
    · have := hl b o y; simp [x] at this

/-! ## Runs -/
def Good (C : Cx) (k : List Item) (a : Act) (w : World) (h : Frag) : Prop :=
  ∀ (b : Frame) (cs : List Frame), b.kind ≠ .early →
    ∃ a' w' h' todo, Evo h w w' h' ∧ Steps C.P (lone (b.at a k) cs w) (lone { b.at a' todo with mode := .returning } cs w') ∧ C.Q a' w' h'
def Run (C : Cx) (k : List Item) (e : Env) (L : List HP) : Prop := ∀ a w h, St C e (stars L) a w h → Good C k a w h

theorem Good.step {C : Cx} {k k' : List Item} {a : Act} {w : World} {h : Frag} (hs : ∀ (b : Frame) (cs : List Frame), Go.step C.P (lone (b.at a k) cs w) = .next (lone (b.at a k') cs w))
    (g : Good C k' a w h) : Good C k a w h := by
  intro b cs hb
  obtain ⟨a', w', h', todo, hn, hst, hq⟩ := g b cs hb
  exact ⟨a', w', h', todo, hn, .head (hs b cs) hst, hq⟩
theorem Run.step {C : Cx} {k k' : List Item} {e : Env} {L : List HP} (hs : ∀ (a : Act) (w : World) (b : Frame) (cs : List Frame), Go.step C.P (lone (b.at a k) cs w) = .next (lone (b.at a k') cs w))
    (r : Run C k' e L) : Run C k e L := fun a w h s => (r a w h s).step (hs a w)

theorem Run.seq {C : Cx} {x y : Code} {k : List Item} {e : Env} {L : List HP} (r : Run C (.code x :: .code y :: k) e L) : Run C (.code (.seq x y) :: k) e L :=
  r.step fun _ _ _ _ => step_seq
theorem Run.skip {C : Cx} {k : List Item} {e : Env} {L : List HP} (r : Run C k e L) : Run C (.code .skip :: k) e L := r.step fun _ _ _ _ => step_skip
theorem Run.label {C : Cx} {l : Nat} {k : List Item} {e : Env} {L : List HP} (r : Run C k e L) : Run C (.code (.label l) :: k) e L := r.step fun _ _ _ _ => step_label
theorem Run.block {C : Cx} {id : Nat} {c : Code} {k : List Item} {e : Env} {L : List HP} (r : Run C (.code c :: .inBlock id :: k) e L) : Run C (.code (.block id c) :: k) e L :=
  r.step fun _ _ _ _ => step_block
theorem Run.inBlock {C : Cx} {id : Nat} {k : List Item} {e : Env} {L : List HP} (r : Run C k e L) : Run C (.inBlock id :: k) e L := r.step fun _ _ _ _ => step_inBlock
theorem Run.exit {C : Cx} {id : Nat} {k k' : List Item} {e : Env} {L : List HP} (hk : exitTo id k = some k') (r : Run C k' e L) : Run C (.code (.exit id) :: k) e L :=
  r.step fun _ _ _ _ => step_exit hk
theorem Run.loop {C : Cx} {c : Code} {k : List Item} {e : Env} {L : List HP} (r : Run C (.code c :: .inLoop c :: k) e L) : Run C (.code (.loop c) :: k) e L :=
  r.step fun _ _ _ _ => step_loop
theorem Run.inLoop {C : Cx} {c : Code} {k : List Item} {e : Env} {L : List HP} (r : Run C (.code c :: .inLoop c :: k) e L) : Run C (.inLoop c :: k) e L :=
  r.step fun _ _ _ _ => step_inLoop

/-- Fewer slots are known, and of memory less is said. -/
def Sub (e' e : Env) : Prop := ∀ t v, get e' t = some v → get e t = some v
theorem Sub.nil (e : Env) : Sub [] e := fun _ _ h => by simp [get] at h
theorem Sub.cons {e' e : Env} {d : Nat} {v : Value} (h : get e d = some v) (s : Sub e' e) : Sub ((d, v) :: e') e := fun t u ht => by
  simp only [get] at ht
  by_cases hd : d = t
  · subst hd; simp at ht; subst ht; exact h
  · have : Nat.beq d t = false := by rw [Bool.eq_false_iff]; intro h; exact hd (Nat.eq_of_beq_eq_true h)
    simp only [this, cond_false] at ht; exact s t u ht
/-- What L says, M says (and may say less). -/
def Ent (L M : List HP) : Prop := ∀ h, stars L h → ∃ h', stars M h' ∧ fle h' h
theorem Ent.refl (L : List HP) : Ent L L := fun h s => ⟨h, s, fle_refl h⟩
theorem Ent.pu {p : Prop} {L M : List HP} (hp : p) (h : Ent L M) : Ent L (pu p :: M) := fun g s => by
  obtain ⟨g', s', l⟩ := h g s
  exact ⟨g', ⟨fnil, g', dj_comm (dj_nil _), (nil_fadd _).symm, ⟨hp, rfl⟩, s'⟩, l⟩
theorem entPus {p : Prop} {L M : List HP} (h : Ent L M) (hp : p) : Ent L (pu p :: M) := Ent.pu hp h
theorem Ent.hex {α : Sort _} {A : α → HP} {L M : List HP} (x : α) (h : Ent L (A x :: M)) : Ent L (hex A :: M) := fun g s => by
  obtain ⟨g', ⟨h1, h2, d, e, a, b⟩, l⟩ := h g s
  exact ⟨g', ⟨h1, h2, d, e, ⟨x, a⟩, b⟩, l⟩
theorem Ent.flat {L M N : List HP} (h : Ent L (M ++ N)) : Ent L (stars M :: N) := fun g s => by
  obtain ⟨g', s', l⟩ := h g s
  exact ⟨g', stars_append.1 s', l⟩
theorem Ent.of_fits {L M F : List HP} (f : Fits L M F) : Ent L M := fun h s => by
  obtain ⟨h1, h2, d, rfl, a, b⟩ := f h s
  exact ⟨h1, a, le_fadd_left _ _⟩
theorem Run.weaken {C : Cx} {k : List Item} {e e' : Env} {L L' : List HP} (he : Sub e' e) (hl : Ent L L') (r : Run C k e' L') : Run C k e L := by
  intro a w h s
  obtain ⟨h', hs, hle⟩ := hl h s.holds
  have g := r a w h' (s.weaken he hs hle)
  intro b cs hb
  obtain ⟨a', w', h2, todo, hn, hst, hq⟩ := g b cs hb
  · refine ⟨a', w', h2, todo, ⟨hn.size, fun c hc hx => hn.same c hc ?_, fun c hc => ?_, hn.os, hn.out, hn.tape, hn.drawn⟩, hst, hq⟩
    · rcases Option.eq_none_or_eq_some (h' c) with y | ⟨o, y⟩
      · exact y
      · have := hle c o y; simp [hx] at this
    · rcases hn.dom c hc with y | y
      · rcases Option.eq_none_or_eq_some (h' c) with z | ⟨o, z⟩
        · exact absurd z y
        · left; simp [hle c o z]
      · exact .inr y
/-- A loop: from each state of a family a round leads out of the loop, or to a state of the family that is less. -/
theorem Run.loopI {C : Cx} {c : Code} {k : List Item} {e : Env} {L : List HP} {X : Type} (E : X → Env) (M : X → List HP) (μ : X → Nat) (x : X) (he : Sub (E x) e) (hl : Ent L (M x))
    (round : ∀ x, (∀ y, μ y < μ x → Run C (.inLoop c :: k) (E y) (M y)) → Run C (.code c :: .inLoop c :: k) (E x) (M x)) : Run C (.code (.loop c) :: k) e L := by
  refine Run.loop (Run.weaken he hl ?_)
  have key : ∀ n x, μ x = n → Run C (.code c :: .inLoop c :: k) (E x) (M x) := by
    intro n
    induction n using Nat.strongRecOn with
    | _ n ih => intro x hx; exact round x fun y hy => Run.inLoop (ih (μ y) (hx ▸ hy) y rfl)
  exact key _ x rfl

theorem Run.cond {C : Cx} {c : Operand} {x y : Code} {k : List Item} {e : Env} {L : List HP} {t : Bool} (hc : ev e c = some (.bool t))
    (ht : t = true → Run C (.code x :: k) e L) (hf : t = false → Run C (.code y :: k) e L) : Run C (.code (.cond c x y) :: k) e L := by
  intro a w h s
  cases t with
  | true => exact (ht rfl a w h s).step fun _ _ => step_cond (s.eval hc)
  | false => exact (hf rfl a w h s).step fun _ _ => step_cond (s.eval hc)
theorem Run.condT {C : Cx} {c : Operand} {x y : Code} {k : List Item} {e : Env} {L : List HP} (hc : ev e c = some (.bool true)) (r : Run C (.code x :: k) e L) : Run C (.code (.cond c x y) :: k) e L :=
  Run.cond hc (fun _ => r) (fun h => by cases h)
theorem Run.condF {C : Cx} {c : Operand} {x y : Code} {k : List Item} {e : Env} {L : List HP} (hc : ev e c = some (.bool false)) (r : Run C (.code y :: k) e L) : Run C (.code (.cond c x y) :: k) e L :=
  Run.cond hc (fun h => by cases h) (fun _ => r)
theorem Run.condP {C : Cx} {c : Operand} {x y : Code} {k : List Item} {e : Env} {L : List HP} {p : Prop} [Decidable p] (hc : ev e c = some (.bool (decide p)))
    (ht : p → Run C (.code x :: k) e L) (hf : ¬ p → Run C (.code y :: k) e L) : Run C (.code (.cond c x y) :: k) e L :=
  Run.cond hc (fun h => ht (of_decide_eq_true h)) (fun h => hf (of_decide_eq_false h))
/-- The function returns. -/
theorem Run.ret {C : Cx} {k : List Item} {e : Env} {L : List HP} (hq : ∀ a w h, St C e (stars L) a w h → C.Q a w h) : Run C (.code .ret :: k) e L := by
  intro a w h s b cs hb
  exact ⟨a, w, h, .code .ret :: k, Evo.refl h w, .one step_ret, hq a w h s⟩
theorem Run.fin {C : Cx} {e : Env} {L : List HP} (hq : ∀ a w h, St C e (stars L) a w h → C.Q a w h) : Run C [] e L := by
  intro a w h s b cs hb
  exact ⟨a, w, h, [], Evo.refl h w, .one step_end, hq a w h s⟩
/-! What stands at the head of the list is laid open -/
theorem Run.pick {C : Cx} {k : List Item} {e : Env} {A : HP} {L L' : List HP} (p : Pick A L L') (r : Run C k e (A :: L')) : Run C k e L := fun a w h s =>
  r a w h { s with holds := p h s.holds }
theorem Run.unhex {C : Cx} {k : List Item} {e : Env} {α : Sort _} {A : α → HP} {L : List HP} (r : ∀ x, Run C k e (A x :: L)) : Run C k e (hex A :: L) := fun a w h s => by
  obtain ⟨h1, h2, d, rfl, ⟨x, hx⟩, b⟩ := s.holds
  exact r x a w _ { s with holds := ⟨h1, h2, d, rfl, hx, b⟩ }
theorem Run.unpu {C : Cx} {k : List Item} {e : Env} {p : Prop} {L : List HP} (r : p → Run C k e L) : Run C k e (pu p :: L) := fun a w h s => by
  obtain ⟨h1, h2, d, rfl, ⟨hp, rfl⟩, b⟩ := s.holds
  exact r hp a w _ { s with holds := by rw [nil_fadd]; exact b }
theorem Run.flat {C : Cx} {k : List Item} {e : Env} {M L : List HP} (r : Run C k e (M ++ L)) : Run C k e (stars M :: L) := fun a w h s =>
  r a w h { s with holds := stars_append.2 s.holds }

/-! ## Regions, operation by operation -/
def QK (C : Cx) (k : List Item) (w0 : World) (h0 : Frag) : Exit → Act → World → Prop
  | .normal, a, w => ∃ h, Evo h0 w0 w h ∧ Good C k a w h
  | _, _, _ => False
def RunL (C : Cx) (ops : Array Oper) (os : List Oper) (k : List Item) (e : Env) (L : List HP) : Prop :=
  ∀ w0 h0 a w h, Evo h0 w0 w h → St C e (stars L) a w h → wpList C.P ops (QK C k w0 h0) os a w
theorem Good.of_wp {C : Cx} {c : Code} {k : List Item} {a : Act} {w : World} {h : Frag} (g : c.wp C.P (QK C k w h) a w) : Good C (.code c :: k) a w h := by
  intro b cs hb
  obtain ⟨x, a1, w1, hq, harr⟩ := g b k cs
  cases x with
  | normal =>
    obtain ⟨h1, hn, hg⟩ := hq
    obtain ⟨a', w', h', todo, hn', hst, hq'⟩ := hg b cs hb
    exact ⟨a', w', h', todo, hn.trans hn', Steps.trans harr hst, hq'⟩
  | outgrown => exact hq.elim
  | exit id => exact hq.elim
  | goto l => exact hq.elim
  | ret => exact hq.elim
  | panic ch => exact hq.elim
theorem Run.region {C : Cx} {id : Nat} {l : List Oper} {k : List Item} {e : Env} {L : List HP} (r : RunL C l.toArray l k e L) : Run C (.code (.region id l.toArray false) :: k) e L :=
  fun a w h s => Good.of_wp (wp_region_lit (r w h a w h (Evo.refl h w) s))
theorem RunL.nil {C : Cx} {ops : Array Oper} {k : List Item} {e : Env} {L : List HP} (r : Run C k e L) : RunL C ops [] k e L :=
  fun w0 h0 a w h hn s => wpList_nil ⟨h, hn, r a w h s⟩
theorem RunL.pick {C : Cx} {ops : Array Oper} {os : List Oper} {k : List Item} {e : Env} {A : HP} {L L' : List HP} (p : Pick A L L') (r : RunL C ops os k e (A :: L')) : RunL C ops os k e L :=
  fun w0 h0 a w h hn s => r w0 h0 a w h hn { s with holds := p h s.holds }
theorem RunL.unhex {C : Cx} {ops : Array Oper} {os : List Oper} {k : List Item} {e : Env} {α : Sort _} {A : α → HP} {L : List HP} (r : ∀ x, RunL C ops os k e (A x :: L)) : RunL C ops os k e (hex A :: L) :=
  fun w0 h0 a w h hn s => by
    obtain ⟨h1, h2, d, rfl, ⟨x, hx⟩, b⟩ := s.holds
    exact r x w0 h0 a w _ hn { s with holds := ⟨h1, h2, d, rfl, hx, b⟩ }
theorem RunL.unpu {C : Cx} {ops : Array Oper} {os : List Oper} {k : List Item} {e : Env} {p : Prop} {L : List HP} (r : p → RunL C ops os k e L) : RunL C ops os k e (pu p :: L) :=
  fun w0 h0 a w h hn s => by
    obtain ⟨h1, h2, d, rfl, ⟨hp, rfl⟩, b⟩ := s.holds
    rw [nil_fadd] at hn s
    exact r hp w0 h0 a w _ hn { s with holds := b }
theorem RunL.flat {C : Cx} {ops : Array Oper} {os : List Oper} {k : List Item} {e : Env} {M L : List HP} (r : RunL C ops os k e (M ++ L)) : RunL C ops os k e (stars M :: L) :=
  fun w0 h0 a w h hn s => r w0 h0 a w h hn { s with holds := stars_append.2 s.holds }
theorem RunL.weaken {C : Cx} {ops : Array Oper} {os : List Oper} {k : List Item} {e e' : Env} {L : List HP} (he : Sub e' e) (r : RunL C ops os k e' L) : RunL C ops os k e L :=
  fun w0 h0 a w h hn s => r w0 h0 a w h hn (s.weaken he s.holds (fle_refl h))

/-- The operation yields v, and touches nothing. -/
def Yields (C : Cx) (o : Oper) (e : Env) (L : List HP) (v : Value) : Prop :=
  ∀ a w h, St C e (stars L) a w h → (execOp a.eval o).run C.P w = .ok (.value v) w
theorem RunL.val {C : Cx} {ops : Array Oper} {os : List Oper} {k : List Item} {e : Env} {L : List HP} {o : Oper} {v : Value} (hg : o.guard = none) (hd : lowD C.n o.dst = true)
    (hy : Yields C o e L v) (r : RunL C ops os k (putE e o.dst v) L) : RunL C ops (o :: os) k e L := by
  intro w0 h0 a w h hn s
  refine wpList_plain hg fun K hK => ?_
  unfold Oper.wp
  rw [hy a w h s]
  exact hK _ _ (r w0 h0 _ w h hn (s.put hd v s.holds s.le (Evo.refl h w)))
/-- The operation makes v, and turns memory from L to R v. -/
def Does (C : Cx) (o : Oper) (e : Env) (L : List HP) (R : Value → List HP) : Prop :=
  ∀ a w h, St C e (stars L) a w h →
    o.wp C.P a w (fun a' w' => ∃ v h', a' = a.put o.dst v ∧ stars (R v) h' ∧ fle h' (hp w') ∧ Evo h w w' h') (fun _ _ _ => False)
theorem upon_mono {P : Program} {o : Oper} {a : Act} {K K' : Act → World → Prop} {Q Q' : Exit → Act → World → Prop} (hK : ∀ a w, K a w → K' a w) (hQ : ∀ x a w, Q x a w → Q' x a w) {r : Result Go.Next}
    (h : o.upon P a K Q r) : o.upon P a K' Q' r := by
  cases r with
  | ok x w =>
    cases x with
    | value v => exact hK _ _ h
    | skip => exact hK _ _ h
    | defer d => exact hK _ _ h
    | enter f args =>
      refine Calls.mono h fun en w' hh => ?_
      cases en with
      | returned v => exact hK _ _ hh
      | panicked ch => exact hQ _ _ _ hh
      | outgrown => exact let ⟨a, w, q⟩ := hh; ⟨a, w, hQ _ _ _ q⟩
    | row row args => exact Rows.mono h fun v w' hh => hK _ _ hh
    | _ => exact h
  | halt x w =>
    cases x with
    | panic v => exact hQ _ _ _ h
    | _ => exact h
theorem RunL.eff {C : Cx} {ops : Array Oper} {os : List Oper} {k : List Item} {e : Env} {L : List HP} {o : Oper} (R : Value → List HP) (hg : o.guard = none) (hd : lowD C.n o.dst = true)
    (hs : Does C o e L R) (r : ∀ v, RunL C ops os k (putE e o.dst v) (R v)) : RunL C ops (o :: os) k e L := by
  intro w0 h0 a w h hn s
  have hwp := hs a w h s
  refine wpList_plain hg fun K hK => ?_
  refine upon_mono ?_ ?_ hwp
  · rintro a' w' ⟨v, h', rfl, hR, hl, hn'⟩
    exact hK _ _ (r v w0 h0 _ w' h' (hn.trans hn') (s.put hd v hR hl hn'))
  · rintro x a' w' hf
    exact hf.elim
/-! A guarded operation -/
theorem yielded_of {C : Cx} {ops : Array Oper} {e : Env} {H : HP} {a : Act} {w : World} {h : Frag} (s : St C e H a w h) {j dj : Nat} {b : Bool} (hj : (ops[j]?).bind (·.dst) = some dj) (hlt : Nat.blt dj C.n = true)
    (hb : get e dj = some (.bool b)) : yielded ops a.tmps j = some b := by
  have h1 := s.env dj _ hb
  have hlt' : dj < a.tmps.size := by rw [s.size]; simpa using hlt
  unfold yielded
  rw [hj]
  simp only [Option.bind_some, Array.getElem?_eq_getElem hlt']
  simp only [Array.getD_eq_getD_getElem?, Array.getElem?_eq_getElem hlt', Option.getD_some] at h1
  rw [h1]
def offV (v : Value) (b : Bool) : Bool := match v with | .bool c => c == !b | _ => true
theorem off_of {C : Cx} {ops : Array Oper} {e : Env} {H : HP} {a : Act} {w : World} {h : Frag} (s : St C e H a w h) {j dj : Nat} {b : Bool} {v : Value} (hj : (ops[j]?).bind (·.dst) = some dj) (hlt : Nat.blt dj C.n = true)
    (hb : get e dj = some v) (hne : offV v b = true) : (yielded ops a.tmps j == some b) = false := by
  have h1 := s.env dj _ hb
  have hlt' : dj < a.tmps.size := by rw [s.size]; simpa using hlt
  unfold yielded
  rw [hj]
  simp only [Option.bind_some, Array.getElem?_eq_getElem hlt']
  simp only [Array.getD_eq_getD_getElem?, Array.getElem?_eq_getElem hlt', Option.getD_some] at h1
  rw [h1]
  cases v with
  | bool c => cases c <;> cases b <;> simp_all [offV]
  | _ => rfl
theorem RunL.guardT {C : Cx} {ops : Array Oper} {os : List Oper} {k : List Item} {e : Env} {L : List HP} {d : Option Tmp} {op : Op} {t : TypeId} {ps : String} {af : Array Edge} {j : Nat} {b : Bool} {dj : Nat}
    (hj : (ops[j]?).bind (·.dst) = some dj) (hlt : Nat.blt dj C.n = true) (hb : get e dj = some (.bool b))
    (r : RunL C ops (⟨d, op, t, ps, af, none⟩ :: os) k e L) : RunL C ops (⟨d, op, t, ps, af, some (j, b)⟩ :: os) k e L := by
  intro w0 h0 a w h hn s
  have h1 := r w0 h0 a w h hn s
  have hy := yielded_of s hj hlt hb
  unfold wpList at h1 ⊢
  rw [if_pos (by simp [Region.wanted])] at h1
  rw [if_pos (by simp [Region.wanted, hy])]
  exact h1
theorem RunL.guardF {C : Cx} {ops : Array Oper} {os : List Oper} {k : List Item} {e : Env} {L : List HP} {d : Option Tmp} {op : Op} {t : TypeId} {ps : String} {af : Array Edge} {j : Nat} {b : Bool} {v' : Value} {dj : Nat}
    (hj : (ops[j]?).bind (·.dst) = some dj) (hlt : Nat.blt dj C.n = true) (hb : get e dj = some v') (hne : offV v' b = true) (hd : lowD C.n d = true)
    (r : RunL C ops os k (putE e d undef) L) : RunL C ops (⟨d, op, t, ps, af, some (j, b)⟩ :: os) k e L := by
  intro w0 h0 a w h hn s
  have hy := off_of s hj hlt hb hne
  unfold wpList
  rw [if_neg (by simp [Region.wanted, hy])]
  exact r w0 h0 _ w h hn (s.put hd undef s.holds s.le (Evo.refl h w))
/-- A bool that is known from here on. -/
theorem RunL.known {C : Cx} {ops : Array Oper} {os : List Oper} {k : List Item} {e : Env} {L : List HP} {t : Nat} {b : Bool} (hb : get e t = some (.bool b))
    (hT : b = true → RunL C ops os k ((t, .bool true) :: e) L) (hF : b = false → RunL C ops os k ((t, .bool false) :: e) L) : RunL C ops os k e L := by
  cases b with
  | true => exact RunL.weaken (Sub.cons hb fun _ _ h => h) (hT rfl)
  | false => exact RunL.weaken (Sub.cons hb fun _ _ h => h) (hF rfl)
theorem RunL.knownP {C : Cx} {ops : Array Oper} {os : List Oper} {k : List Item} {e : Env} {L : List HP} {t : Nat} {p : Prop} [Decidable p] (hb : get e t = some (.bool (decide p)))
    (hT : p → RunL C ops os k ((t, .bool true) :: e) L) (hF : ¬ p → RunL C ops os k ((t, .bool false) :: e) L) : RunL C ops os k e L :=
  RunL.known hb (fun h => hT (of_decide_eq_true h)) (fun h => hF (of_decide_eq_false h))
end Go.Proofs.YtfldnnpcdjabnaaDoor
