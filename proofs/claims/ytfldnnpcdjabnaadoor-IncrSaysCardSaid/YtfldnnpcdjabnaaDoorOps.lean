/-
  The operations: what each yields, out of what the slots and the memory at hand hold.
-/
import Derived.Test.YtfldnnpcdjabnaaDoorPlan
import Derived.WideLaws
import Derived.LaidEql
import Derived.IntWalk
import Derived.Laws.Pointers
import Derived.Laws.Cover3
set_option linter.unusedVariables false
set_option linter.unusedSimpArgs false
namespace Go.Proofs.YtfldnnpcdjabnaaDoor
open Go

class Und (P : Program) (T : TypeId) (d : outParam TypeDesc) : Prop where
  h : P.underlying T = some d
class Siz (P : Program) (T : TypeId) (s : outParam Nat) : Prop where
  h : ∀ w, (sizeOf T).run P w = .ok s w
class Sca (P : Program) (T : TypeId) : Prop where
  h : ∀ w, (isAgg T).run P w = .ok false w
class Agg (P : Program) (T : TypeId) : Prop where
  h : ∀ w, (isAgg T).run P w = .ok true w
class FAd (P : Program) (T : TypeId) (i : Nat) (off : outParam Nat) : Prop where
  h : ∀ a w, (Instr.fieldAt T (.pointer (some a)) i).run P w = .ok (.pointer (some (a.add off))) w
theorem FAd.of {P : Program} {T : TypeId} {fs : Array Field} {i s : Nat} {f : Field} (hu : P.underlying T = some (.struct fs)) (hf : fs[i]? = some f) (hs : ∀ w, (sizeOf f.type).run P w = .ok s w) (h0 : s ≠ 0) :
    FAd P T i f.offset where
  h a w := by simp [Instr.fieldAt, run_underlying hu, hf, Instr.sureAddr, fieldPlace, hs, h0]

theorem wrap_in {n : Int} (h1 : -9223372036854775808 ≤ n) (h2 : n ≤ 9223372036854775807) : IntKind.i64.wrap n = n := IntWalk.i64_in n ⟨h1, h2⟩

theorem eval_const (a : Act) (v : Value) : a.eval (.const v) = v := rfl
section
variable {C : Cx} {e : Env} {L : List HP} {d : Option Tmp} {ty : TypeId} {ps : String} {af : Array Edge} {g : Option (Nat × Bool)}

theorem Yields.move {x : Operand} {v : Value} (hx : ev e x = some v) : Yields C ⟨d, .move x, ty, ps, af, g⟩ e L v := fun a w h s => by
  simp [execOp, s.eval hx]
theorem Yields.assign {x : Operand} {v : Value} (hx : ev e x = some v) : Yields C ⟨d, .assign x, ty, ps, af, g⟩ e L v := fun a w h s => by
  simp [execOp, s.eval hx]
theorem Yields.pickT {c x y : Operand} {v : Value} (hc : ev e c = some (.bool true)) (hx : ev e x = some v) : Yields C ⟨d, .pick c x y, ty, ps, af, g⟩ e L v := fun a w h s => by
  simp [execOp, s.eval hc, s.eval hx, asBool]
theorem Yields.pickF {c x y : Operand} {v : Value} (hc : ev e c = some (.bool false)) (hy : ev e y = some v) : Yields C ⟨d, .pick c x y, ty, ps, af, g⟩ e L v := fun a w h s => by
  simp [execOp, s.eval hc, s.eval hy, asBool]
theorem Yields.pickB {c x y : Operand} {b p q : Bool} (hc : ev e c = some (.bool b)) (hx : ev e x = some (.bool p)) (hy : ev e y = some (.bool q)) :
    Yields C ⟨d, .pick c x y, ty, ps, af, g⟩ e L (.bool (bif b then p else q)) := fun a w h s => by
  cases b <;> simp [execOp, s.eval hc, s.eval hx, s.eval hy, asBool]
theorem Yields.nilCheck {x : Operand} {p : Addr} (hx : ev e x = some (.pointer (some p))) : Yields C ⟨d, .nilCheck x, ty, ps, af, g⟩ e L (.pointer (some p)) := fun a w h s => by
  simp [execOp, s.eval hx]
theorem Yields.fieldAddr {T : TypeId} {x : Operand} {i off : Nat} {p : Addr} [hF : FAd C.P T i off] (hx : ev e x = some (.pointer (some p))) :
    Yields C ⟨d, .fieldAddr T x i, ty, ps, af, g⟩ e L (.pointer (some (p.add off))) := fun a w h s => by
  simp [execOp, s.eval hx, hF.h]
theorem Yields.makeFunc {f : Fn} {cs : List Operand} {vs : List Value} (hc : evs e cs = some vs) : Yields C ⟨d, .makeFunc f #[] cs.toArray, ty, ps, af, g⟩ e L (.func f #[] vs.toArray) := fun a w h s => by
  have := s.evals hc
  simp [execOp, Instr.makeFunc, this]
theorem Yields.extract {x : Operand} {vs : List Value} {i : Nat} {v : Value} (hx : ev e x = some (.tuple vs.toArray)) (hv : vs[i]? = some v) : Yields C ⟨d, .extract x i, ty, ps, af, g⟩ e L v := fun a w h s => by
  simp [execOp, s.eval hx, Instr.extract, hv]
theorem Yields.makeInterface {T : TypeId} {x : Operand} {v : Value} {dd : TypeDesc} [hT : Und C.P T dd] (hn : (dd matches .interface _) = false) (hx : ev e x = some v) :
    Yields C ⟨d, .makeInterface T x, ty, ps, af, g⟩ e L (.iface T v) := fun a w h s => by
  simp only [execOp, s.eval hx, Instr.makeInterface, Sem.run_bind, run_underlying hT.h, Result.andThen_ok]
  cases dd <;> simp at hn ⊢
theorem Yields.field {T : TypeId} {x : Operand} {fs : Array Field} {i : Nat} {f : Field} {cs : List Value} {v : Value} [hT : Und C.P T (.struct fs)] (hf : fs[i]? = some f) [hS : Sca C.P f.type]
    (hx : ev e x = some (.agg cs.toArray)) (hv : cs[f.offset]? = some v) : Yields C ⟨d, .field T x i, ty, ps, af, g⟩ e L v := fun a w h s => by
  simp [execOp, s.eval hx, Instr.field, run_underlying hT.h, hf, asAgg, part, hS.h, hv]

/-! Numbers -/
theorem Yields.add {T u : TypeId} {x y : Operand} {m n : Int} (hx : ev e x = some (.int .i64 m)) (hy : ev e y = some (.int .i64 n)) (h1 : -9223372036854775808 ≤ m + n) (h2 : m + n ≤ 9223372036854775807) :
    Yields C ⟨d, .binOp .add T x y u, ty, ps, af, g⟩ e L (.int .i64 (m + n)) := fun a w h s => by
  simp [execOp, s.eval hx, s.eval hy, eqGuard, binOp, Op.intArith, wrap_in h1 h2]
theorem Yields.addW {T u : TypeId} {x y : Operand} {m n : Int} (hx : ev e x = some (.int .i64 m)) (hy : ev e y = some (.int .i64 n)) :
    Yields C ⟨d, .binOp .add T x y u, ty, ps, af, g⟩ e L (.int .i64 (IntKind.i64.wrap (m + n))) := fun a w h s => by
  simp [execOp, s.eval hx, s.eval hy, eqGuard, binOp, Op.intArith]
theorem Yields.sub {T u : TypeId} {x y : Operand} {m n : Int} (hx : ev e x = some (.int .i64 m)) (hy : ev e y = some (.int .i64 n)) (h1 : -9223372036854775808 ≤ m - n) (h2 : m - n ≤ 9223372036854775807) :
    Yields C ⟨d, .binOp .sub T x y u, ty, ps, af, g⟩ e L (.int .i64 (m - n)) := fun a w h s => by
  simp [execOp, s.eval hx, s.eval hy, eqGuard, binOp, Op.intArith, wrap_in h1 h2]
theorem Yields.subW {T u : TypeId} {x y : Operand} {m n : Int} (hx : ev e x = some (.int .i64 m)) (hy : ev e y = some (.int .i64 n)) :
    Yields C ⟨d, .binOp .sub T x y u, ty, ps, af, g⟩ e L (.int .i64 (IntKind.i64.wrap (m - n))) := fun a w h s => by
  simp [execOp, s.eval hx, s.eval hy, eqGuard, binOp, Op.intArith]
theorem Yields.mul {T u : TypeId} {x y : Operand} {m n : Int} (hx : ev e x = some (.int .i64 m)) (hy : ev e y = some (.int .i64 n)) (h1 : -9223372036854775808 ≤ m * n) (h2 : m * n ≤ 9223372036854775807) :
    Yields C ⟨d, .binOp .mul T x y u, ty, ps, af, g⟩ e L (.int .i64 (m * n)) := fun a w h s => by
  simp [execOp, s.eval hx, s.eval hy, eqGuard, binOp, Op.intArith, wrap_in h1 h2]
theorem Yields.neg {T : TypeId} {x : Operand} {n : Int} (hx : ev e x = some (.int .i64 n)) (h1 : -9223372036854775808 ≤ -n) (h2 : -n ≤ 9223372036854775807) :
    Yields C ⟨d, .unOp .neg T x, ty, ps, af, g⟩ e L (.int .i64 (-n)) := fun a w h s => by
  simp [execOp, s.eval hx, Op.unary, Op.intArith, wrap_in h1 h2]
theorem Yields.negW {T : TypeId} {x : Operand} {n : Int} (hx : ev e x = some (.int .i64 n)) :
    Yields C ⟨d, .unOp .neg T x, ty, ps, af, g⟩ e L (.int .i64 (IntKind.i64.wrap (-n))) := fun a w h s => by
  simp [execOp, s.eval hx, Op.unary, Op.intArith]
theorem Yields.not {T : TypeId} {x : Operand} {b : Bool} (hx : ev e x = some (.bool b)) : Yields C ⟨d, .unOp .not T x, ty, ps, af, g⟩ e L (.bool (!b)) := fun a w h s => by
  simp [execOp, s.eval hx, Op.unary]
theorem Yields.notP {T : TypeId} {x : Operand} {p : Prop} [Decidable p] (hx : ev e x = some (.bool (decide p))) : Yields C ⟨d, .unOp .not T x, ty, ps, af, g⟩ e L (.bool (decide (¬ p))) := fun a w h s => by
  simp [execOp, s.eval hx, Op.unary]
theorem Yields.lss {T u : TypeId} {x y : Operand} {k : IntKind} {m n : Int} (hx : ev e x = some (.int k m)) (hy : ev e y = some (.int k n)) :
    Yields C ⟨d, .binOp .lss T x y u, ty, ps, af, g⟩ e L (.bool (decide (m < n))) := fun a w h s => by
  simp [execOp, s.eval hx, s.eval hy, eqGuard, binOp, Op.intCmp]
theorem Yields.leq {T u : TypeId} {x y : Operand} {k : IntKind} {m n : Int} (hx : ev e x = some (.int k m)) (hy : ev e y = some (.int k n)) :
    Yields C ⟨d, .binOp .leq T x y u, ty, ps, af, g⟩ e L (.bool (decide (m ≤ n))) := fun a w h s => by
  simp [execOp, s.eval hx, s.eval hy, eqGuard, binOp, Op.intCmp]
theorem Yields.gtr {T u : TypeId} {x y : Operand} {k : IntKind} {m n : Int} (hx : ev e x = some (.int k m)) (hy : ev e y = some (.int k n)) :
    Yields C ⟨d, .binOp .gtr T x y u, ty, ps, af, g⟩ e L (.bool (decide (n < m))) := fun a w h s => by
  simp [execOp, s.eval hx, s.eval hy, eqGuard, binOp, Op.intCmp]
theorem Yields.geq {T u : TypeId} {x y : Operand} {k : IntKind} {m n : Int} (hx : ev e x = some (.int k m)) (hy : ev e y = some (.int k n)) :
    Yields C ⟨d, .binOp .geq T x y u, ty, ps, af, g⟩ e L (.bool (decide (n ≤ m))) := fun a w h s => by
  simp [execOp, s.eval hx, s.eval hy, eqGuard, binOp, Op.intCmp]
theorem int_beq (m n : Int) : (m == n) = decide (m = n) := by rw [Bool.eq_iff_iff]; simp
theorem int_bne (m n : Int) : (m != n) = decide (m ≠ n) := by rw [Bool.eq_iff_iff]; simp
theorem Yields.eql {T u : TypeId} {x y : Operand} {k : IntKind} {m n : Int} (hx : ev e x = some (.int k m)) (hy : ev e y = some (.int k n)) :
    Yields C ⟨d, .binOp .eql T x y u, ty, ps, af, g⟩ e L (.bool (decide (m = n))) := fun a w h s => by
  simp [execOp, s.eval hx, s.eval hy, eqGuard, binOp, Op.intCmp, int_beq]
theorem Yields.neq {T u : TypeId} {x y : Operand} {k : IntKind} {m n : Int} (hx : ev e x = some (.int k m)) (hy : ev e y = some (.int k n)) :
    Yields C ⟨d, .binOp .neq T x y u, ty, ps, af, g⟩ e L (.bool (decide (m ≠ n))) := fun a w h s => by
  simp [execOp, s.eval hx, s.eval hy, eqGuard, binOp, Op.intCmp, int_bne]
theorem Yields.eqlB {T u : TypeId} {x y : Operand} {p q : Bool} [hT : Und C.P T .bool] (hx : ev e x = some (.bool p)) (hy : ev e y = some (.bool q)) :
    Yields C ⟨d, .binOp .eql T x y u, ty, ps, af, g⟩ e L (.bool (p == q)) := fun a w h s => by
  simp [execOp, s.eval hx, s.eval hy, eqGuard, binOp, run_equal_bool w T p q hT.h]
theorem Yields.neqB {T u : TypeId} {x y : Operand} {p q : Bool} [hT : Und C.P T .bool] (hx : ev e x = some (.bool p)) (hy : ev e y = some (.bool q)) :
    Yields C ⟨d, .binOp .neq T x y u, ty, ps, af, g⟩ e L (.bool (p != q)) := fun a w h s => by
  simp [execOp, s.eval hx, s.eval hy, eqGuard, binOp, run_equal_bool w T p q hT.h]; cases p <;> cases q <;> rfl
theorem Yields.quo {T u : TypeId} {x y : Operand} {m n : Int} (hx : ev e x = some (.int .i64 m)) (hy : ev e y = some (.int .i64 n)) (h0 : n ≠ 0) (h1 : -9223372036854775808 ≤ m.tdiv n) (h2 : m.tdiv n ≤ 9223372036854775807) :
    Yields C ⟨d, .binOp .quo T x y u, ty, ps, af, g⟩ e L (.int .i64 (m.tdiv n)) := fun a w h s => by
  simp [execOp, s.eval hx, s.eval hy, eqGuard, binOp, Op.intDiv, h0, wrap_in h1 h2]
theorem Yields.rem {T u : TypeId} {x y : Operand} {m n : Int} (hx : ev e x = some (.int .i64 m)) (hy : ev e y = some (.int .i64 n)) (h0 : n ≠ 0) :
    Yields C ⟨d, .binOp .rem T x y u, ty, ps, af, g⟩ e L (.int .i64 (m.tmod n)) := fun a w h s => by
  simp [execOp, s.eval hx, s.eval hy, eqGuard, binOp, Op.intDiv, h0]
/-- n / 2, of what is not below 0. -/
theorem Yields.quoN {T u : TypeId} {x y : Operand} {m n : Int} (hx : ev e x = some (.int .i64 m)) (hy : ev e y = some (.int .i64 n)) (h0 : 0 ≤ m) (hm : m ≤ 9223372036854775807) (hn : 0 < n) :
    Yields C ⟨d, .binOp .quo T x y u, ty, ps, af, g⟩ e L (.int .i64 (m / n)) := fun a w h s => by
  have e1 : m.tdiv n = m / n := Int.tdiv_eq_ediv_of_nonneg h0
  have h1 : 0 ≤ m / n := Int.ediv_nonneg h0 (by omega)
  have h2 : m / n ≤ m := Int.ediv_le_self n h0
  simp [execOp, s.eval hx, s.eval hy, eqGuard, binOp, Op.intDiv, show n ≠ 0 by omega, e1, wrap_in (show -9223372036854775808 ≤ m / n by omega) (by omega)]
theorem Yields.remN {T u : TypeId} {x y : Operand} {m n : Int} (hx : ev e x = some (.int .i64 m)) (hy : ev e y = some (.int .i64 n)) (h0 : 0 ≤ m) (hn : 0 < n) :
    Yields C ⟨d, .binOp .rem T x y u, ty, ps, af, g⟩ e L (.int .i64 (m % n)) := fun a w h s => by
  simp [execOp, s.eval hx, s.eval hy, eqGuard, binOp, Op.intDiv, show n ≠ 0 by omega, Int.tmod_eq_emod_of_nonneg h0]
theorem Yields.max {T : Array TypeId} {x y : Operand} {m n : Int} (hx : ev e x = some (.int .i64 m)) (hy : ev e y = some (.int .i64 n)) :
    Yields C ⟨d, .call ⟨.builtin .max, #[x, y], T⟩, ty, ps, af, g⟩ e L (.int .i64 (max m n)) := fun a w h s => by
  simp [execOp, resolve, invoke, builtin, s.eval hx, s.eval hy, Builtin.max_, Builtin.max2]; omega
theorem Yields.min {T : Array TypeId} {x y : Operand} {m n : Int} (hx : ev e x = some (.int .i64 m)) (hy : ev e y = some (.int .i64 n)) :
    Yields C ⟨d, .call ⟨.builtin .min, #[x, y], T⟩, ty, ps, af, g⟩ e L (.int .i64 (min m n)) := fun a w h s => by
  simp [execOp, resolve, invoke, builtin, s.eval hx, s.eval hy, Builtin.min_, Builtin.min2]; omega

/-! What is nil -/
end
section
variable {P : Program} (w : World)
theorem run_equalIn_slN (d : Nat) (t e : TypeId) (a : Option Addr) (l c : Nat) (h : P.underlying t = some (.slice e)) : (Op.equalIn (d + 1) t (.slice a l c) (.slice none 0 0)).run P w = .ok a.isNone w := by
  cases a <;> simp [Op.equalIn, run_underlying h]
theorem run_equalIn_ptN (d : Nat) (t e : TypeId) (a : Option Addr) (h : P.underlying t = some (.pointer e)) : (Op.equalIn (d + 1) t (.pointer a) (.pointer none)).run P w = .ok a.isNone w := by
  cases a <;> simp [Op.equalIn, run_underlying h]
theorem run_equalIn_ifNN (d : Nat) (t : TypeId) (ms : Array (String × TypeId)) (h : P.underlying t = some (.interface ms)) : (Op.equalIn (d + 1) t .nilIface .nilIface).run P w = .ok true w := by
  simp [Op.equalIn, run_underlying h]
theorem run_equalIn_ifVN (d : Nat) (t u : TypeId) (v : Value) (ms : Array (String × TypeId)) (h : P.underlying t = some (.interface ms)) : (Op.equalIn (d + 1) t (.iface u v) .nilIface).run P w = .ok false w := by
  simp [Op.equalIn, run_underlying h]
theorem run_eq_slN (t e : TypeId) (a : Option Addr) (l c : Nat) (h : P.underlying t = some (.slice e)) : (Op.equal t (.slice a l c) (.slice none 0 0)).run P w = .ok a.isNone w := run_equalIn_slN w 9999 t e a l c h
theorem run_eq_ptN (t e : TypeId) (a : Option Addr) (h : P.underlying t = some (.pointer e)) : (Op.equal t (.pointer a) (.pointer none)).run P w = .ok a.isNone w := run_equalIn_ptN w 9999 t e a h
theorem run_eq_ifNN (t : TypeId) (ms : Array (String × TypeId)) (h : P.underlying t = some (.interface ms)) : (Op.equal t .nilIface .nilIface).run P w = .ok true w := run_equalIn_ifNN w 9999 t ms h
theorem run_eq_ifVN (t u : TypeId) (v : Value) (ms : Array (String × TypeId)) (h : P.underlying t = some (.interface ms)) : (Op.equal t (.iface u v) .nilIface).run P w = .ok false w := run_equalIn_ifVN w 9999 t u v ms h
end
section
variable {C : Cx} {e : Env} {L : List HP} {d : Option Tmp} {ty : TypeId} {ps : String} {af : Array Edge} {g : Option (Nat × Bool)}
theorem Yields.eqlPN {T u E : TypeId} {x : Operand} {p : Option Addr} [hT : Und C.P T (.pointer E)] (hx : ev e x = some (.pointer p)) :
    Yields C ⟨d, .binOp .eql T x (.const (.pointer none)) u, ty, ps, af, g⟩ e L (.bool p.isNone) := fun a w h s => by
  simp [execOp, s.eval hx, eval_const, eqGuard, binOp, run_eq_ptN w T E p hT.h]
theorem Yields.neqPN {T u E : TypeId} {x : Operand} {p : Option Addr} [hT : Und C.P T (.pointer E)] (hx : ev e x = some (.pointer p)) :
    Yields C ⟨d, .binOp .neq T x (.const (.pointer none)) u, ty, ps, af, g⟩ e L (.bool p.isSome) := fun a w h s => by
  simp [execOp, s.eval hx, eval_const, eqGuard, binOp, run_eq_ptN w T E p hT.h]
theorem Yields.eqlSN {T u E : TypeId} {x : Operand} {p : Option Addr} {n c : Nat} [hT : Und C.P T (.slice E)] (hx : ev e x = some (.slice p n c)) :
    Yields C ⟨d, .binOp .eql T x (.const (.slice none 0 0)) u, ty, ps, af, g⟩ e L (.bool p.isNone) := fun a w h s => by
  simp [execOp, s.eval hx, eval_const, eqGuard, binOp, run_eq_slN w T E p n c hT.h]
theorem Yields.neqSN {T u E : TypeId} {x : Operand} {p : Option Addr} {n c : Nat} [hT : Und C.P T (.slice E)] (hx : ev e x = some (.slice p n c)) :
    Yields C ⟨d, .binOp .neq T x (.const (.slice none 0 0)) u, ty, ps, af, g⟩ e L (.bool p.isSome) := fun a w h s => by
  simp [execOp, s.eval hx, eval_const, eqGuard, binOp, run_eq_slN w T E p n c hT.h]
theorem Yields.eqlIN {T u : TypeId} {x : Operand} {ms : Array (String × TypeId)} [hT : Und C.P T (.interface ms)] (hx : ev e x = some .nilIface) :
    Yields C ⟨d, .binOp .eql T x (.const .nilIface) u, ty, ps, af, g⟩ e L (.bool true) := fun a w h s => by
  simp [execOp, s.eval hx, eval_const, eqGuard, binOp, run_eq_ifNN w T ms hT.h]
theorem Yields.neqIN {T u : TypeId} {x : Operand} {ms : Array (String × TypeId)} [hT : Und C.P T (.interface ms)] (hx : ev e x = some .nilIface) :
    Yields C ⟨d, .binOp .neq T x (.const .nilIface) u, ty, ps, af, g⟩ e L (.bool false) := fun a w h s => by
  simp [execOp, s.eval hx, eval_const, eqGuard, binOp, run_eq_ifNN w T ms hT.h]
theorem Yields.eqlIV {T u : TypeId} {x : Operand} {t : TypeId} {v : Value} {ms : Array (String × TypeId)} [hT : Und C.P T (.interface ms)] (hx : ev e x = some (.iface t v)) :
    Yields C ⟨d, .binOp .eql T x (.const .nilIface) u, ty, ps, af, g⟩ e L (.bool false) := fun a w h s => by
  simp [execOp, s.eval hx, eval_const, eqGuard, binOp, run_eq_ifVN w T t v ms hT.h]
theorem Yields.neqIV {T u : TypeId} {x : Operand} {t : TypeId} {v : Value} {ms : Array (String × TypeId)} [hT : Und C.P T (.interface ms)] (hx : ev e x = some (.iface t v)) :
    Yields C ⟨d, .binOp .neq T x (.const .nilIface) u, ty, ps, af, g⟩ e L (.bool true) := fun a w h s => by
  simp [execOp, s.eval hx, eval_const, eqGuard, binOp, run_eq_ifVN w T t v ms hT.h]
end
end Go.Proofs.YtfldnnpcdjabnaaDoor
