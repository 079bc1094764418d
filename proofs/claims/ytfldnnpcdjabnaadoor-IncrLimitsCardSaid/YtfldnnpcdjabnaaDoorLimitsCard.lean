/-
  skolemlaw19.IncrLimits: for every a, b the call returns true and its arguments read as before, where api's seven errors stand in their variables as the program's text lays them (the card ties that).
-/
import Derived.Test.YtfldnnpcdjabnaaDoorEnd
import Derived.Test.YtfldnnpcdjabnaaDoorLimits
set_option linter.unusedVariables false
set_option linter.unusedSimpArgs false
namespace Go.Proofs.YtfldnnpcdjabnaaDoor
open Go Go.ChangeShapes Go.WideShapes Go.ChangeAt Go.RowKit

theorem limits_laid : Rows.incrLimitsRow.laid = texts.map sentL := by kernel_rfl
set_option maxRecDepth 100000 in
theorem limits_contract (H : Type) (enc : TypeId × Value → H) (W : World) (base : Nat) (args : Array Value) (ds gs : List (DataW H)) (before : List MemPlace)
    (hval : ∀ (j : Nat) t v, Tryd.f3.params[j]? = some t → args[j]? = some v → Value.okWide Tryd.prog W .any base t v)
    (hW : DataW.Whole enc Tryd.prog Tryd.f3.params.toList Rows.incrLimitsSpec.vars false W args.toList ds gs before) (hL : laidMetH Tryd.prog Rows.incrLimitsRow.laid W) :
    Calls Tryd.prog 3 args W fun e W' => ∃ v, e = .returned v ∧ Rows.incrLimitsSpec.post enc Tryd.prog Tryd.f3 false true false false W args v W' := by
  have hW' := hW
  obtain ⟨p, q, hA0, hV, rfl, hfz, hnd⟩ := hW
  have hA : DataW.TrodAll enc Tryd.prog W 0 (fun _ => true) true Tryd.f3.params.toList args.toList ds p := hA0
  rw [Tryd.params3] at hA hval
  obtain ⟨v0, vs0, d0, ds0, p0, q0, hargs, rfl, rfl, h0, r0⟩ := trodAll_cons hA
  obtain ⟨v1, vs1, d1, ds1, p1, q1, rfl, rfl, rfl, h1, r1⟩ := trodAll_cons r0
  obtain ⟨rfl, rfl, rfl⟩ := trodAll_nil r1
  obtain rfl : args = #[v0, v1] := by cases args; simp_all
  obtain ⟨rfl, rfl⟩ := trodVars_none hV
  have k0 := hval 0 3 v0 rfl rfl
  have k1 := hval 1 3 v1 rfl rfl
  obtain ⟨a, ea, a0, a1⟩ := i64_in Tryd.underlying3 k0 h0
  obtain ⟨b, eb, b0, b1⟩ := i64_in Tryd.underlying3 k1 h1
  subst ea
  subst eb
  rw [limits_laid] at hL
  obtain ⟨er, hE⟩ := errs_of_laid hL
  refine (calls_of_ct (incrLimits_ct (hp W) er a b a0 a1 b0 b1 hE)).mono fun e W' ⟨he, h', n⟩ => ?_
  subst he
  exact ⟨_, rfl, post_of_evo hW' rfl (tb := 4) rfl Tryd.underlying4 (by kernel_rfl) rfl rfl rfl n⟩

theorem limits_door (os : Os) (args : Array Value) : laidMetH Tryd.prog Rows.incrLimitsRow.laid ((World.doorLaid Tryd.prog 142 os).forCall (fun _ _ => 0) ⟨#[], args, []⟩).memory :=
  laidMetH_of_parts3 (fuel := 8) (laidMet_of_run' 8 (by kernel_rfl) (by kernel_rfl)) (by kernel_rfl) (by kernel_rfl)
theorem limits_reads (os : Os) {H : Type} (enc : TypeId × Value → H) : ∃ places, DataW.whole enc Tryd.prog ((World.doorLaid Tryd.prog 142 os).forCall (fun _ _ => 0) ⟨#[], #[.int .i64 0, .int .i64 0], []⟩).memory Tryd.f3.params.toList Rows.incrLimitsSpec.vars false #[Value.int .i64 0, Value.int .i64 0].toList 8 = some ([.lit (.int .i64 0), .lit (.int .i64 0)], [], places) :=
  ⟨[], by kernel_rfl⟩
set_option maxRecDepth 100000 in
theorem limits_lifted (os : Os) (started : os.Started) (H : Type) (enc : TypeId × Value → H) (F : Stop.Interp) :
    ReturnsInHanded {} Tryd.checked os 3 .any ((OpenSpec.ofChange Rows.incrLimitsSpec).preRow enc Tryd.prog Tryd.f3 Rows.incrLimitsRow.domain false Rows.incrLimitsRow.laid) (((OpenSpec.ofChange Rows.incrLimitsSpec).at F).post enc Tryd.prog Tryd.f3 false true false false) := by
  obtain ⟨places, hx⟩ := limits_reads os enc
  refine returnsInHanded_of_row (C := Tryd.checked) (s := OpenSpec.ofChange Rows.incrLimitsSpec) own started (by kernel_rfl) Tryd.func3
    (witness_row_atRef (enc := enc) (C := Tryd.checked) false (World.doorLaid Tryd.prog 142 os) #[.int .i64 0, .int .i64 0] rfl (by kernel_rfl) (by kernel_rfl) (by kernel_rfl)
      (OpenSpec.preRow_of_cond 8 hx (by kernel_rfl) (fun k hk => by cases hk) (by kernel_rfl) (limits_door os _))) ?_
  intro W base args ds gs before hval hW _ _ _ hL _ _
  exact limits_contract H enc W base args ds gs before hval hW hL
theorem limits_said : Rows.IncrLimitsSaid :=
  OpenClaim.holds_of_cond 3 Tryd.f3 rfl rfl rfl rfl rfl rfl rfl ⟨rfl, rfl, rfl, rfl, rfl⟩ rfl rfl rfl rfl rfl (by kernel_rfl) Tryd.func3 (by kernel_rfl)
    (of_decide_eq_true (by kernel_rfl)) (by unfold Func.isWrapper; first | (rw [if_pos (by decide +kernel)]; kernel_rfl) | (rw [if_neg (by decide +kernel)]; exact ⟨rfl, rfl⟩))
    (fun os started H enc _ F => by rw [OpenClaim.pre_eq_preRow]; exact limits_lifted os started H enc F)
theorem limits_plain (f : FuncId) (fn : Func) (hf : Tryd.pinned.checked.prog.funcNamed "skolem/skolemlaw19.IncrLimits" = some f) (hfn : Tryd.pinned.checked.prog.funcs[f]? = some fn) :
    true = Tryd.pinned.checked.prog.looks [] ∧ ∀ (j : Nat) t, fn.params[j]? = some t → Tryd.pinned.checked.prog.wantsStandIn t = false := by
  obtain rfl : f = 3 := Option.some.inj ((show Tryd.prog.funcNamed "skolem/skolemlaw19.IncrLimits" = some 3 by kernel_rfl).symm.trans hf) |>.symm
  obtain rfl : fn = Tryd.f3 := (Option.some.inj (Tryd.func3.symm.trans hfn)).symm
  refine ⟨by kernel_rfl, fun j t ht => ?_⟩
  rw [Tryd.params3] at ht
  have hm : t ∈ [3] := by simpa using Array.mem_of_getElem? ht
  have hall : ([3].all fun u => !Tryd.prog.wantsStandIn u) = true := by kernel_rfl
  exact (show Tryd.prog.wantsStandIn t = false by simpa using List.all_eq_true.1 hall t hm)
theorem incrLimits_card : Rows.IncrLimitsCardSaid :=
  Claim7.holds_tied_plain_at .later [] _ _ _ _ limits_said (fun _ h => by cases h) (by kernel_rfl) (fun _ h => by cases h) incrLimits_row_tie rfl ⟨rfl, rfl⟩ (by kernel_rfl) rfl limits_plain (by kernel_rfl)
#print axioms incrLimits_card
end Go.Proofs.YtfldnnpcdjabnaaDoor
