/-
  What a function does to the memory that it owns; its entry, its return, a call of it.
-/
import Derived.Test.YtfldnnpcdjabnaaDoorDraw
set_option linter.unusedVariables false
set_option linter.unusedSimpArgs false
namespace Go.Proofs.YtfldnnpcdjabnaaDoor
open Go

/-- Called with these, owning L, free to read ρ: it returns v and leaves R v. -/
def Ct (P : Program) (f : FuncId) (args : List Value) (ρ : Frag) (L : List HP) (R : Value → List HP) : Prop :=
  ∀ w h, stars L h → fle h (hp w) → fle ρ (hp w) → dj ρ h → Calls P f args.toArray w fun
    | .returned v, w' => ∃ h', stars (R v) h' ∧ fle h' (hp w') ∧ Evo h w w' h'
    | .panicked _, _ => False
    | .outgrown, _ => False
def retQ (P : Program) (fn : Func) (R : Value → List HP) : Act → World → Frag → Prop := fun a w h =>
  a.defers = [] ∧ ∃ v, (results fn a.tmps).run P w = .ok v w ∧ stars (R v) h ∧ fle h (hp w)
abbrev FCx (P : Program) (n : Nat) (ρ : Frag) (fn : Func) (R : Value → List HP) : Cx := ⟨P, n, [], ρ, retQ P fn R⟩
def argE : Nat → List Value → Env
  | _, [] => []
  | i, v :: l => (i, v) :: argE (i + 1) l
theorem get_argE : ∀ (l : List Value) (i t : Nat) (v : Value), get (argE i l) t = some v → i ≤ t ∧ l[t - i]? = some v
  | [], _, _, _, h => by simp [argE, get] at h
  | u :: l, i, t, v, h => by
    simp only [argE, get] at h
    by_cases ht : i = t
    · subst ht; simp at h; subst h; simp
    · have hb : Nat.beq i t = false := by rw [Bool.eq_false_iff]; intro hh; exact ht (Nat.eq_of_beq_eq_true hh)
      simp only [hb, cond_false] at h
      obtain ⟨h1, h2⟩ := get_argE l (i + 1) t v h
      refine ⟨by omega, ?_⟩
      have : t - i = (t - (i + 1)) + 1 := by omega
      rw [this]; simpa using h2
theorem Ct.of_run {P : Program} {f : FuncId} {fn : Func} {c : Code} {n : Nat} {args : List Value} {e : Env} {ρ : Frag} {L : List HP} {R : Value → List HP} (hf : P.funcs[f]? = some fn) (hb : fn.body = some c)
    (hn : fn.ntmps = n) (he : argE 0 args = e) (hlen : args.length ≤ n) (r : Run (FCx P n ρ fn R) [.code c] e L) : Ct P f args ρ L R := by
  intro w h hL hle hρ hd cs
  subst he
  let b : Frame := { (default : Frame) with fn := f, kind := .normal }
  let a : Act := { tmps := args.toArray ++ Array.replicate (fn.ntmps - args.toArray.size) undef, defers := [] }
  have henter : Frame.enter P f args.toArray .normal = b.at a [.code c] := by
    simp [Frame.enter, Frame.at, hf, hb, b, a]
  have hs : St (FCx P n ρ fn R) (argE 0 args) (stars L) a w h := by
    refine ⟨by simp [a, hn]; omega, rfl, fun t v ht => ?_, hL, hle, hρ, hd⟩
    obtain ⟨_, h2⟩ := get_argE args 0 t v ht
    have hlt : t < args.length := by
      rcases Nat.lt_or_ge t args.length with h' | h'
      · exact h'
      · simp [List.getElem?_eq_none h'] at h2
    have h3 : args[t] = v := by simpa [List.getElem?_eq_getElem hlt] using h2
    simp [a, Array.getElem?_append, hlt, h3]
  obtain ⟨a', w', h', todo, hn', hst, hdf, v, hr, hR, hl⟩ := r a w h hs b cs (by simp [b])
  · exact ⟨.returned v, w', _, ⟨h', hR, hl, hn'⟩, by rw [henter]; exact hst, rfl, rfl, hdf, rfl, fn, hf, hr⟩
theorem Ct.mono {P : Program} {f : FuncId} {args : List Value} {ρ : Frag} {L : List HP} {R R' : Value → List HP} (h : Ct P f args ρ L R) (hr : ∀ v, Ent (R v) (R' v)) : Ct P f args ρ L R' :=
  fun w g hL hle hρ hd => (h w g hL hle hρ hd).mono fun en w' q => by
    cases en with
    | returned v =>
      obtain ⟨h', hR, hl, hn⟩ := q
      obtain ⟨h2, hs, hle2⟩ := hr v h' hR
      refine ⟨h2, hs, fle_trans hle2 hl, ⟨hn.size, hn.same, fun b hb => hn.dom b ?_, hn.os, hn.out, hn.tape, hn.drawn⟩⟩
      rcases Option.eq_none_or_eq_some (h2 b) with y | ⟨o, y⟩
      · exact absurd y hb
      · simp [hle2 b o y]
    | panicked ch => exact q
    | outgrown => exact q
/-- A contract may be asked of less, and may be asked with more than is needed at hand. -/
theorem Ct.frame {P : Program} {f : FuncId} {args : List Value} {ρ : Frag} {L M F : List HP} {R : Value → List HP} (hfit : Fits L M F) (h : Ct P f args ρ M R) : Ct P f args ρ L (fun v => R v ++ F) := by
  intro w g hL hle hρ hd
  obtain ⟨h1, h2, d, rfl, hM, hF⟩ := hfit g hL
  obtain ⟨d1, d2⟩ := dj_fadd'.1 hd
  refine (h w h1 hM (fle_trans (le_fadd_left _ _) hle) hρ d1).mono fun en w' q => ?_
  cases en with
  | returned v =>
    obtain ⟨h', hR, hl, hn⟩ := q
    obtain ⟨hn', d', l'⟩ := hn.frame d (fle_trans (le_fadd_right d) hle)
    exact ⟨_, stars_append.2 ⟨h', h2, d', rfl, hR, hF⟩, fadd_le hl l', hn'⟩
  | panicked ch => exact q
  | outgrown => exact q

/-! ## Return -/
theorem Run.retV {P : Program} {n : Nat} {ρ : Frag} {fn : Func} {R : Value → List HP} {k : List Item} {e : Env} {L : List HP} {v : Value}
    (hv : ∀ a w h, St (FCx P n ρ fn R) e (stars L) a w h → (results fn a.tmps).run P w = .ok v w) (hL : Ent L (R v)) : Run (FCx P n ρ fn R) (.code .ret :: k) e L := by
  intro a w h s b cs hb
  obtain ⟨h', hR, hle⟩ := hL h s.holds
  refine ⟨a, w, h', .code .ret :: k, ⟨Nat.le_refl _, fun _ _ _ => rfl, fun b hb => .inl ?_, rfl, rfl, rfl, Nat.le_refl _⟩, .one step_ret, s.defers, v, hv a w h s, hR, fle_trans hle s.le⟩
  rcases Option.eq_none_or_eq_some (h' b) with y | ⟨o, y⟩
  · exact absurd y hb
  · simp [hle b o y]
theorem Run.finV {P : Program} {n : Nat} {ρ : Frag} {fn : Func} {R : Value → List HP} {e : Env} {L : List HP} {v : Value}
    (hv : ∀ a w h, St (FCx P n ρ fn R) e (stars L) a w h → (results fn a.tmps).run P w = .ok v w) (hL : Ent L (R v)) : Run (FCx P n ρ fn R) [] e L := by
  intro a w h s b cs hb
  obtain ⟨h', hR, hle⟩ := hL h s.holds
  refine ⟨a, w, h', [], ⟨Nat.le_refl _, fun _ _ _ => rfl, fun b hb => .inl ?_, rfl, rfl, rfl, Nat.le_refl _⟩, .one step_end, s.defers, v, hv a w h s, hR, fle_trans hle s.le⟩
  rcases Option.eq_none_or_eq_some (h' b) with y | ⟨o, y⟩
  · exact absurd y hb
  · simp [hle b o y]
theorem Run.ret0 {P : Program} {n : Nat} {ρ : Frag} {fn : Func} {R : Value → List HP} {k : List Item} {e : Env} {L : List HP} (hr : fn.results = #[]) (hL : Ent L (R (.tuple #[]))) :
    Run (FCx P n ρ fn R) (.code .ret :: k) e L := Run.retV (fun a w h s => results_none hr _ _ _) hL
theorem Run.fin0 {P : Program} {n : Nat} {ρ : Frag} {fn : Func} {R : Value → List HP} {e : Env} {L : List HP} (hr : fn.results = #[]) (hL : Ent L (R (.tuple #[]))) :
    Run (FCx P n ρ fn R) [] e L := Run.finV (fun a w h s => results_none hr _ _ _) hL
theorem Run.ret1 {P : Program} {n : Nat} {ρ : Frag} {fn : Func} {R : Value → List HP} {k : List Item} {e : Env} {L : List HP} {t : Tmp} {v : Value} (hr : fn.results = #[.tmp t]) (ht : get e t = some v) (hL : Ent L (R v)) :
    Run (FCx P n ρ fn R) (.code .ret :: k) e L := Run.retV (fun a w h s => by rw [results_tmp hr, s.env t v ht]) hL
theorem Run.ret2 {P : Program} {n : Nat} {ρ : Frag} {fn : Func} {R : Value → List HP} {k : List Item} {e : Env} {L : List HP} {t u : Tmp} {v x : Value} (hr : fn.results = #[.tmp t, .tmp u]) (ht : get e t = some v)
    (hu : get e u = some x) (hL : Ent L (R (.tuple #[v, x]))) :
    Run (FCx P n ρ fn R) (.code .ret :: k) e L := Run.retV (fun a w h s => by rw [results_tmp2 hr, s.env t v ht, s.env u x hu]) hL

/-! ## A call -/
theorem In.stars_cons {A : HP} {L : List HP} {ρ : Frag} (h : In (stars (A :: L)) ρ) : In A ρ ∧ In (stars L) ρ := by
  obtain ⟨g, ⟨h1, h2, d, rfl, a, b⟩, hle⟩ := h
  exact ⟨⟨h1, a, fle_trans (le_fadd_left _ _) hle⟩, ⟨h2, b, fle_trans (le_fadd_right d) hle⟩⟩
theorem In.stars_one {A : HP} {ρ : Frag} (h : In (stars [A]) ρ) : In A ρ := h.stars_cons.1
/-- A stands aside and may be read; M is handed over; F stays behind. -/
theorem Does.call {C : Cx} {o : Oper} {e : Env} {L : List HP} {x : Operand} {xs : List Operand} {tys : Array TypeId} {f : FuncId} {fst cap : Array Value} {vs : List Value} {R : Value → List HP} {A M F : List HP}
    (hop : o.op = .call ⟨.value x, xs.toArray, tys⟩) (hx : ev e x = some (.func (.func f) fst cap)) (hxs : evs e xs = some vs)
    (hc : ∀ args w, (callFunc f args).run C.P w = .ok (.enter f args) w) (hfit : Fits L (A ++ M) F)
    (hspec : ∀ ρ', fle C.ρ ρ' → In (stars A) ρ' → Ct C.P f (fst.toList ++ vs ++ cap.toList) ρ' M R) : Does C o e L (fun v => R v ++ (A ++ F)) := by
  intro a w h s
  obtain ⟨h12, h3, d, rfl, hAM, hF⟩ := hfit h s.holds
  obtain ⟨h1, h2, d', rfl, hA, hM⟩ := stars_append.1 hAM
  obtain ⟨d1, d2⟩ := dj_fadd.1 d
  obtain ⟨r12, r3⟩ := dj_fadd'.1 s.dj
  obtain ⟨r1, r2⟩ := dj_fadd'.1 r12
  have l12 := fle_trans (le_fadd_left _ _) s.le
  have l3 : fle h3 (hp w) := fle_trans (le_fadd_right d) s.le
  have l1 : fle h1 (hp w) := fle_trans (le_fadd_left _ _) l12
  have l2 : fle h2 (hp w) := fle_trans (le_fadd_right d') l12
  have hρ' : fle (fadd C.ρ h1) (hp w) := fadd_le s.rho l1
  have hcalls := hspec (fadd C.ρ h1) (le_fadd_left _ _) ⟨h1, hA, le_fadd_right r1⟩ w h2 hM l2 hρ' (dj_fadd.2 ⟨r2, d'⟩)
  unfold Oper.wp
  have hrun : (execOp a.eval o).run C.P w = .ok (.enter f (fst.toList ++ vs ++ cap.toList).toArray) w := by
    have hargs : xs.toArray.map a.eval = vs.toArray := by rw [List.map_toArray, s.evals hxs]
    have ha : fst ++ vs.toArray ++ cap = (fst.toList ++ vs ++ cap.toList).toArray := by
      apply Array.ext'; simp
    simp only [execOp, hop, resolve, s.eval hx, Deferred.ofValue, hargs, invoke]
    rw [← ha]
    exact hc _ _
  rw [hrun]
  show Calls C.P f _ w _
  refine hcalls.mono fun en w' q => ?_
  cases en with
  | returned v =>
    obtain ⟨h', hR, hl, hn⟩ := q
    obtain ⟨hn', dd, l'⟩ := hn.frame (g := fadd h1 h3) (dj_fadd'.2 ⟨dj_comm d', d2⟩) (fadd_le l1 l3)
    refine ⟨v, fadd h' (fadd h1 h3), rfl, ?_, fadd_le hl l', ?_⟩
    · exact stars_append.2 ⟨h', fadd h1 h3, dd, rfl, hR, stars_append.2 ⟨h1, h3, d1, rfl, hA, hF⟩⟩
    · have e1 : fadd h2 (fadd h1 h3) = fadd (fadd h1 h2) h3 := by
        rw [← fadd_assoc, fadd_comm (dj_comm d')]
      rw [← e1]; exact hn'
  | panicked ch => exact q.elim
  | outgrown => exact q.elim
theorem Does.mono {C : Cx} {o : Oper} {e : Env} {L : List HP} {R R' : Value → List HP} (h : Does C o e L R) (hr : ∀ v g, stars (R v) g → stars (R' v) g) : Does C o e L R' := by
  intro a w g s
  refine upon_mono ?_ (fun x a w q => q) (h a w g s)
  rintro a' w' ⟨v, h', e1, e2, e3, e4⟩
  exact ⟨v, h', e1, hr v h' e2, e3, e4⟩
end Go.Proofs.YtfldnnpcdjabnaaDoor
