/-
  skolemlaw19.IncrSays: for every input the call returns true and its arguments read as before, where api's seven errors stand in their variables as the program's text lays them (the card ties that).
-/
import Derived.Test.YtfldnnpcdjabnaaDoorIns
import Derived.Test.YtfldnnpcdjabnaaDoorSays
set_option linter.unusedVariables false
set_option linter.unusedSimpArgs false
namespace Go.Proofs.YtfldnnpcdjabnaaDoor
open Go Go.ChangeShapes Go.WideShapes Go.ChangeAt Go.RowKit

theorem says_laid : Rows.incrSaysRow.laid = texts.map sentL := by kernel_rfl
set_option maxRecDepth 100000 in
theorem says_contract (H : Type) (enc : TypeId × Value → H) (W : World) (base : Nat) (args : Array Value) (ds gs : List (DataW H)) (before : List MemPlace)
    (hval : ∀ (j : Nat) t v, Tryd.f4.params[j]? = some t → args[j]? = some v → Value.okWide Tryd.prog W .any base t v)
    (hW : DataW.Whole enc Tryd.prog Tryd.f4.params.toList Rows.incrSaysSpec.vars false W args.toList ds gs before)
    (hsz : (DataW.weightsEach Tryd.prog (Tryd.f4.params.toList ++ (OpenSpec.ofChange Rows.incrSaysSpec).bare.plain.varTypes Tryd.prog) (ds ++ gs)).all (· ≤ reachBytes) = true) (hL : laidMetH Tryd.prog Rows.incrSaysRow.laid W) :
    Calls Tryd.prog 4 args W fun e W' => ∃ v, e = .returned v ∧ Rows.incrSaysSpec.post enc Tryd.prog Tryd.f4 false true false false W args v W' := by
  have hW' := hW
  obtain ⟨p, q, hA0, hV, rfl, hfz, hnd⟩ := hW
  have hA : DataW.TrodAll enc Tryd.prog W 0 (fun _ => true) true Tryd.f4.params.toList args.toList ds p := hA0
  rw [Tryd.params4] at hA hval hsz
  obtain ⟨v0, vs0, d0, ds0, p0, q0, hargs, rfl, rfl, h0, r0⟩ := trodAll_cons hA
  obtain ⟨v1, vs1, d1, ds1, p1, q1, rfl, rfl, rfl, h1, r1⟩ := trodAll_cons r0
  obtain ⟨v2, vs2, d2, ds2, p2, q2, rfl, rfl, rfl, h2, r2⟩ := trodAll_cons r1
  obtain ⟨v3, vs3, d3, ds3, p3, q3, rfl, rfl, rfl, h3, r3⟩ := trodAll_cons r2
  obtain ⟨v4, vs4, d4, ds4, p4, q4, rfl, rfl, rfl, h4, r4⟩ := trodAll_cons r3
  obtain ⟨v5, vs5, d5, ds5, p5, q5, rfl, rfl, rfl, h5, r5⟩ := trodAll_cons r4
  obtain ⟨rfl, rfl, rfl⟩ := trodAll_nil r5
  obtain rfl : args = #[v0, v1, v2, v3, v4, v5] := by cases args; simp_all
  obtain ⟨rfl, rfl⟩ := trodVars_none hV
  have hw : ∀ (j : Nat) (t : TypeId) (d : DataW H), ([26, 28, 26, 26, 3, 26] : List TypeId)[j]? = some t → ([d0, d1, d2, d3, d4, d5] : List (DataW H))[j]? = some d → ∀ n ∈ d.weights Tryd.prog t, n ≤ reachBytes := by
    intro j t d hj hd n hn
    have := List.all_eq_true.1 hsz n (DataW.weights_mem_each (j := j) (t := t) (by
      have hlt := (List.getElem?_eq_some_iff.1 hj).1
      rw [List.getElem?_append_left hlt]; exact hj) (by rw [List.append_nil]; exact hd) n hn)
    simpa using this
  obtain ⟨l, ls, e0, hl, rl⟩ := ints_in (hval 0 26 v0 rfl rfl) h0 (hw 0 _ _ rfl rfl)
  obtain ⟨s, sq, e1, hs⟩ := script_in (hval 1 28 v1 rfl rfl) h1 (hw 1 _ _ rfl rfl)
  obtain ⟨pu', ps, e2, hp, rp⟩ := ints_in (hval 2 26 v2 rfl rfl) h2 (hw 2 _ _ rfl rfl)
  obtain ⟨bb, bys, e3, hy, ry⟩ := ints_in (hval 3 26 v3 rfl rfl) h3 (hw 3 _ _ rfl rfl)
  obtain ⟨n, e4, n0, n1⟩ := i64_in Tryd.underlying3 (hval 4 3 v4 rfl rfl) h4
  obtain ⟨bd, bads, e5, hb, rb⟩ := ints_in (hval 5 26 v5 rfl rfl) h5 (hw 5 _ _ rfl rfl)
  subst e0; subst e1; subst e2; subst e3; subst e4; subst e5
  rw [says_laid] at hL
  obtain ⟨er, hE⟩ := errs_of_laid hL
  refine (calls_of_ct (incrSays_ct (_root_.Go.Proofs.YtfldnnpcdjabnaaDoor.hp W) er l pu' bb bd ls ps bys bads s sq n hE hs hl hp hy hb rl rp ry rb ⟨n0, n1⟩)).mono fun e W' ⟨he, h', nn⟩ => ?_
  subst he
  exact ⟨_, rfl, post_of_evo hW' rfl (tb := 4) rfl Tryd.underlying4 (by kernel_rfl) rfl rfl rfl nn⟩
abbrev says_args : Array Value := #[.slice none 0 0, .agg #[.slice none 0 0, .slice none 0 0, .slice none 0 0, .slice none 0 0, .int .i64 0, .int .i64 0], .slice none 0 0, .slice none 0 0, .int .i64 0, .slice none 0 0]
theorem says_door (os : Os) (args : Array Value) : laidMetH Tryd.prog Rows.incrSaysRow.laid ((World.doorLaid Tryd.prog 142 os).forCall (fun _ _ => 0) ⟨#[], args, []⟩).memory :=
  laidMetH_of_parts3 (fuel := 8) (laidMet_of_run' 8 (by kernel_rfl) (by kernel_rfl)) (by kernel_rfl) (by kernel_rfl)
theorem says_reads (os : Os) {H : Type} (enc : TypeId × Value → H) : ∃ places, DataW.whole enc Tryd.prog ((World.doorLaid Tryd.prog 142 os).forCall (fun _ _ => 0) ⟨#[], says_args, []⟩).memory Tryd.f4.params.toList Rows.incrSaysSpec.vars false says_args.toList 8 =
    some ([.nil, .agg [.nil, .nil, .nil, .nil, .lit (.int .i64 0), .lit (.int .i64 0)], .nil, .nil, .lit (.int .i64 0), .nil], [], places) :=
  ⟨[], by kernel_rfl⟩
set_option maxRecDepth 100000 in
theorem says_lifted (os : Os) (started : os.Started) (H : Type) (enc : TypeId × Value → H) (F : Stop.Interp) :
    ReturnsInHanded {} Tryd.checked os 4 .any ((OpenSpec.ofChange Rows.incrSaysSpec).preRow enc Tryd.prog Tryd.f4 Rows.incrSaysRow.domain false Rows.incrSaysRow.laid) (((OpenSpec.ofChange Rows.incrSaysSpec).at F).post enc Tryd.prog Tryd.f4 false true false false) := by
  obtain ⟨places, hx⟩ := says_reads os enc
  refine returnsInHanded_of_row (C := Tryd.checked) (s := OpenSpec.ofChange Rows.incrSaysSpec) own started (by kernel_rfl) Tryd.func4
    (witness_row_atRef (enc := enc) (C := Tryd.checked) false (World.doorLaid Tryd.prog 142 os) says_args rfl (by kernel_rfl) (by kernel_rfl) (by kernel_rfl)
      (OpenSpec.preRow_of_cond 8 hx (by kernel_rfl) (fun k hk => by cases hk) (by kernel_rfl) (says_door os _))) ?_
  intro W base args ds gs before hval hW _ _ hsz hL _ _
  exact says_contract H enc W base args ds gs before hval hW hsz hL
theorem says_said : Rows.IncrSaysSaid :=
  OpenClaim.holds_of_cond 4 Tryd.f4 rfl rfl rfl rfl rfl rfl rfl ⟨rfl, rfl, rfl, rfl, rfl⟩ rfl rfl rfl rfl rfl (by kernel_rfl) Tryd.func4 (by kernel_rfl)
    (of_decide_eq_true (by kernel_rfl)) (by unfold Func.isWrapper; first | (rw [if_pos (by decide +kernel)]; kernel_rfl) | (rw [if_neg (by decide +kernel)]; exact ⟨rfl, rfl⟩))
    (fun os started H enc _ F => by rw [OpenClaim.pre_eq_preRow]; exact says_lifted os started H enc F)
theorem says_plain (f : FuncId) (fn : Func) (hf : Tryd.pinned.checked.prog.funcNamed "skolem/skolemlaw19.IncrSays" = some f) (hfn : Tryd.pinned.checked.prog.funcs[f]? = some fn) :
    true = Tryd.pinned.checked.prog.looks [] ∧ ∀ (j : Nat) t, fn.params[j]? = some t → Tryd.pinned.checked.prog.wantsStandIn t = false := by
  obtain rfl : f = 4 := Option.some.inj ((show Tryd.prog.funcNamed "skolem/skolemlaw19.IncrSays" = some 4 by kernel_rfl).symm.trans hf) |>.symm
  obtain rfl : fn = Tryd.f4 := (Option.some.inj (Tryd.func4.symm.trans hfn)).symm
  refine ⟨by kernel_rfl, fun j t ht => ?_⟩
  rw [Tryd.params4] at ht
  have hm : t ∈ [26, 28, 26, 26, 3, 26] := by simpa using Array.mem_of_getElem? ht
  have hall : ([26, 28, 26, 26, 3, 26].all fun u => !Tryd.prog.wantsStandIn u) = true := by kernel_rfl
  exact (show Tryd.prog.wantsStandIn t = false by simpa using List.all_eq_true.1 hall t hm)
theorem incrSays_card : Rows.IncrSaysCardSaid :=
  Claim7.holds_tied_plain_at .later [] _ _ _ _ says_said (fun _ h => by cases h) (by kernel_rfl) (fun _ h => by cases h) incrSays_row_tie rfl ⟨rfl, rfl⟩ (by kernel_rfl) rfl says_plain (by kernel_rfl)
#print axioms incrSays_card
end Go.Proofs.YtfldnnpcdjabnaaDoor
