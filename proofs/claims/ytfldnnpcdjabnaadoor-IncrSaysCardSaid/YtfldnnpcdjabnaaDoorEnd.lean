/-
  From a law's contract to its row: it answers true, and what came in reads as it did.
-/
import Derived.Test.YtfldnnpcdjabnaaDoorLaidE
import Derived.Test.YtfldnnpcdjabnaaDoorCards
import Derived.Test.YtfldnnpcdjabnaaDoorTie
import Derived.WalkKit
import Derived.ProofKit
import Derived.OpenShut
import Derived.Carry
import Derived.LaidMore
import Derived.Deep.DeepHandedRow
import Derived.Deep.DeepWitnessRowRef
set_option linter.unusedVariables false
set_option linter.unusedSimpArgs false
namespace Go.Proofs.YtfldnnpcdjabnaaDoor
open Go Go.ChangeShapes Go.WideShapes Go.ChangeAt Go.RowKit

theorem own : ownKnob Tryd.prog.godebug = none := by kernel_rfl
theorem laidOut : laidOutB Tryd.prog = true := by kernel_rfl
theorem kept_of_evo {w w' : World} {h' : Frag} (n : Evo fnil w w' h') (may : MemPlace → Prop) : w.keptBut w' may := by
  refine ⟨n.os, n.out, fun i hi => ?_⟩
  have e : w'.heap[i]? = w.heap[i]? := n.same i hi rfl
  rw [e]
  cases w.heap[i]? with
  | none => rfl
  | some o => cases o <;> simp
theorem same_of_evo {w w' : World} {h' : Frag} (n : Evo fnil w w' h') {p : MemPlace} (hp : p.block < w.heap.size) : w.sameAt w' p := by
  cases p with
  | cell b o => exact World.cell?_of_block (w := w) (n.same b hp rfl)
  | map b => exact n.same b hp rfl
theorem trodAll_stays {H : Type} {enc : TypeId × Value → H} {P : Program} (hl : laidOutB P = true) {W W' : World} {h' : Frag} (n : Evo fnil W W' h') (sp : Nat → Bool) (hsp : ∀ b, b < W.heap.size → sp b = true) :
    ∀ {ts : List TypeId} {vs : List Value} {ds : List (DataW H)} {ps : List MemPlace}, (∀ t ∈ ts, P.readableRec t = true ∧ t < P.types.size) → DataW.TrodAll enc P W 0 (fun _ => true) true ts vs ds ps → (∀ p ∈ ps, p.block < W.heap.size) →
      DataW.TrodAll enc P W' 0 sp true ts vs ds ps
  | [], _, _, _, _, h, _ => by
    obtain ⟨rfl, rfl, rfl⟩ := trodAll_nil h
    exact trodAll_mk0
  | t :: ts, _, _, _, ht, h, hb => by
    obtain ⟨v, vs, d, ds, p, q, rfl, rfl, rfl, h1, h2⟩ := trodAll_cons h
    have hr := ht t (List.mem_cons_self ..)
    refine trodAll_cons_mk (WideElems.Trod_stays hl hr.1 hr.2 h1 (fun x hx => same_of_evo n (hb x (List.mem_append_left _ hx))) (fun x hx => hsp _ (hb x (List.mem_append_left _ hx)))) ?_
    exact trodAll_stays hl n sp hsp (fun u hu => ht u (List.mem_cons_of_mem _ hu)) h2 (fun x hx => hb x (List.mem_append_right _ hx))
theorem post_of_evo {H : Type} {enc : TypeId × Value → H} {f : Func} {s : ChangeSpec} {apart fresh : Bool} {W W' : World} {args : Array Value} {ds gs : List (DataW H)} {before : List MemPlace} {tb : TypeId} {h' : Frag}
    (hW : DataW.Whole enc Tryd.prog f.params.toList s.vars apart W args.toList ds gs before) (hv : s.vars = []) (hty : f.resultTypes = #[tb]) (htb : Tryd.prog.underlying tb = some .bool) (hr : f.params.toList.all (fun t => Tryd.prog.readableRec t && decide (t < Tryd.prog.types.size)) = true)
    (h1 : (s.fn H ds).results = [.lit (.bool true)]) (h2 : (s.fn H ds).args = ds) (h3 : (s.fn H ds).vars = []) (n : Evo fnil W W' h') : s.post enc Tryd.prog f apart fresh false false W args (.bool true) W' := by
  have hlt := hW.lt
  have hW0 := hW
  obtain ⟨p, q, hA, hV, rfl, _, _⟩ := hW
  rw [hv] at hV
  obtain ⟨rfl, rfl⟩ := trodVars_none hV
  have hR : ∀ t ∈ f.params.toList, Tryd.prog.readableRec t = true ∧ t < Tryd.prog.types.size := fun t ht => by
    have := List.all_eq_true.1 hr t ht
    simpa using this
  refine ⟨ds, [], _, [], p, [], hW0, ?_, ?_, ?_, kept_of_evo n _, fun h => by cases h⟩
  · rw [List.append_nil, h1, hty]
    exact trodAll_cons_mk (shut_bool htb _) trodAll_mk0
  · rw [List.append_nil, h2]
    exact trodAll_stays laidOut n _ (fun b hb => by simpa using hb) hR hA (fun x hx => hlt x (by simpa using hx))
  · rw [List.append_nil, hv, h3]; rfl
/-- A contract of a law that owns nothing, as a call. -/
theorem calls_of_ct {P : Program} {f : FuncId} {args : List Value} {W : World} (h : Ct P f args (hp W) [] (fun r => [pu (r = .bool true)])) :
    Calls P f args.toArray W fun e W' => e = .returned (.bool true) ∧ ∃ h', Evo fnil W W' h' := by
  refine (h W fnil rfl (fnil_le _) (fle_refl _) (dj_nil _)).mono fun e W' q => ?_
  cases e with
  | returned v =>
    obtain ⟨h', hs, hl, n⟩ := q
    obtain ⟨_, _, _, _, ⟨rfl, _⟩, _⟩ := hs
    exact ⟨rfl, h', n⟩
  | panicked ch => exact q.elim
  | outgrown => exact q.elim
/-! What comes in. -/
set_option maxRecDepth 100000 in
theorem int_in {H : Type} {enc : TypeId × Value → H} {W : World} {t : TypeId} {k : IntKind} {v : Value} {d : DataW H} {ps : List MemPlace} {base : Nat} (ht : Tryd.prog.underlying t = some (.int k)) (hv : Value.okWide Tryd.prog W .any base t v)
    (h : DataW.Trod enc Tryd.prog W 0 (fun _ => true) true t v d ps) : ∃ n : Int, v = .int k n ∧ (Lit.int k n).wf = true := by
  obtain ⟨n, e, _, _, w⟩ := open_int ht hv h
  exact ⟨n, e, w⟩
set_option maxRecDepth 100000 in
theorem i64_in {H : Type} {enc : TypeId × Value → H} {W : World} {t : TypeId} {v : Value} {d : DataW H} {ps : List MemPlace} {base : Nat} (ht : Tryd.prog.underlying t = some (.int .i64)) (hv : Value.okWide Tryd.prog W .any base t v)
    (h : DataW.Trod enc Tryd.prog W 0 (fun _ => true) true t v d ps) : ∃ n : Int, v = .int .i64 n ∧ -9223372036854775808 ≤ n ∧ n ≤ 9223372036854775807 := by
  obtain ⟨n, e, w⟩ := int_in ht hv h
  have e1 : IntKind.i64.min = -9223372036854775808 := by rfl
  have e2 : IntKind.i64.max = 9223372036854775807 := by rfl
  simp only [Lit.wf, e1, e2, Bool.and_eq_true, decide_eq_true_eq] at w
  exact ⟨n, e, w⟩
end Go.Proofs.YtfldnnpcdjabnaaDoor
