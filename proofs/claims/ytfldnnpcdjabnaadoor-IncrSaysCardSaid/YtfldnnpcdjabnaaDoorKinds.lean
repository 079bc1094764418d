/-
  The kinds of elements of this program's slices; the walk's short forms.
-/
import Derived.Test.YtfldnnpcdjabnaaDoorTypes
set_option linter.unusedVariables false
set_option linter.unusedSimpArgs false
namespace Go.Proofs.YtfldnnpcdjabnaaDoor
open Go

abbrev KInt : EK Int := ⟨3, 1, 8, fun x => [.int .i64 x]⟩
abbrev KI8 : EK Int := ⟨106, 1, 1, fun x => [.int .i8 x]⟩
abbrev KSl : EK SV := ⟨26, 1, 24, fun s => [s.v]⟩
abbrev KCl : EK (SV × Bool × Bool) := ⟨110, 3, 32, fun c => [c.1.v, .bool c.2.1, .bool c.2.2]⟩
abbrev KLe : EK (Int × Int) := ⟨156, 2, 16, fun c => [.int .i64 c.1, .int .i64 c.2]⟩
abbrev KSt : EK (Bool × SV) := ⟨158, 2, 32, fun c => [.bool c.1, c.2.v]⟩
abbrev KEr : EK SV := ⟨31, 1, 16, fun s => [s.v]⟩

theorem mixed : Tryd.prog.follows .mixedOrders = true := by kernel_rfl

/-- The slices of type T have elements of kind K. -/
class SK (P : Program) (T : TypeId) (α : outParam Type) (K : outParam (EK α)) : Prop where
  ok : EKOk P K
  und : P.underlying T = some (.slice K.e)
theorem okKInt : EKOk Tryd.prog KInt := ⟨fun _ => rfl, fun x u hu => by simp at hu; subst hu; rfl, by decide, by decide, by decide, by decide, _, _, (by kernel_rfl : Tryd.prog.info? 3 = some Tryd.t3), rfl, rfl, rfl, rfl⟩
theorem okKI8 : EKOk Tryd.prog KI8 := ⟨fun _ => rfl, fun x u hu => by simp at hu; subst hu; rfl, by decide, by decide, by decide, by decide, _, _, (by kernel_rfl : Tryd.prog.info? 106 = some Tryd.t106), rfl, rfl, rfl, rfl⟩
theorem okKSl : EKOk Tryd.prog KSl := ⟨fun _ => rfl, fun x u hu => by simp at hu; subst hu; rfl, by decide, by decide, by decide, by decide, _, _, (by kernel_rfl : Tryd.prog.info? 26 = some Tryd.t26), rfl, rfl, rfl, rfl⟩
theorem okKCl : EKOk Tryd.prog KCl := ⟨fun _ => rfl, fun x u hu => by simp at hu; rcases hu with rfl | rfl | rfl <;> rfl, by decide, by decide, by decide, by decide, _, _, (by kernel_rfl : Tryd.prog.info? 110 = some Tryd.t110), rfl, rfl, rfl, rfl⟩
theorem okKLe : EKOk Tryd.prog KLe := ⟨fun _ => rfl, fun x u hu => by simp at hu; rcases hu with rfl | rfl <;> rfl, by decide, by decide, by decide, by decide, _, _, (by kernel_rfl : Tryd.prog.info? 156 = some Tryd.t156), rfl, rfl, rfl, rfl⟩
theorem okKSt : EKOk Tryd.prog KSt := ⟨fun _ => rfl, fun x u hu => by simp at hu; rcases hu with rfl | rfl <;> rfl, by decide, by decide, by decide, by decide, _, _, (by kernel_rfl : Tryd.prog.info? 158 = some Tryd.t158), rfl, rfl, rfl, rfl⟩
instance : EKOk Tryd.prog KInt := okKInt
instance : EKOk Tryd.prog KI8 := okKI8
instance : EKOk Tryd.prog KSl := okKSl
instance : EKOk Tryd.prog KCl := okKCl
instance : EKOk Tryd.prog KLe := okKLe
instance : EKOk Tryd.prog KSt := okKSt
instance : SK Tryd.prog 26 Int KInt := ⟨okKInt, Tryd.underlying26⟩
instance : SK Tryd.prog 103 Int KI8 := ⟨okKI8, Tryd.underlying103⟩
instance : SK Tryd.prog 35 SV KSl := ⟨okKSl, Tryd.underlying35⟩
instance : SK Tryd.prog 86 (SV × Bool × Bool) KCl := ⟨okKCl, Tryd.underlying86⟩
instance : SK Tryd.prog 76 (Int × Int) KLe := ⟨okKLe, Tryd.underlying76⟩
instance : SK Tryd.prog 77 (Bool × SV) KSt := ⟨okKSt, Tryd.underlying77⟩

section
variable {C : Cx} {ops : Array Oper} {os : List Oper} {k : List Item} {e : Env} {L : List HP} {d : Option Tmp} {dd : Tmp} {ty : TypeId} {ps : String} {af : Array Edge} {g : Option (Nat × Bool)} {op : Op} {vv : Value}
theorem RunL.v {v : Value} (hd : Nat.blt dd C.n = true) (hy : Yields C ⟨some dd, op, ty, ps, af, none⟩ e L v) (r : RunL C ops os k ((dd, v) :: e) L) : RunL C ops (⟨some dd, op, ty, ps, af, none⟩ :: os) k e L :=
  RunL.val rfl hd hy r
theorem Yields.lenK {v : Value} {T : TypeId} {x : Operand} {α : Type} {K : EK α} [hS : SK C.P T α K] {xs : List α} (hx : ev e x = some v) (r : Reads C L (RArr K v xs)) :
    Yields C ⟨d, .call ⟨.builtin .len, #[x], #[T]⟩, ty, ps, af, g⟩ e L (.int .i64 xs.length) := by
  haveI : Und C.P T (.slice K.e) := ⟨hS.und⟩
  exact Yields.len hx r
theorem Yields.indexK {v : Value} {T : TypeId} {x y : Operand} {kk : IntKind} {i : Int} {α : Type} {K : EK α} [hS : SK C.P T α K] {xs : List α} (hx : ev e x = some v) (hy : ev e y = some (.int kk i)) (r : Reads C L (RArr K v xs)) (h0 : 0 ≤ i) (h1 : i < xs.length) :
    Yields C ⟨d, .indexAddr T x y, ty, ps, af, g⟩ e L (.pointer (some (el K v i 0))) := by
  haveI : Und C.P T (.slice K.e) := ⟨hS.und⟩
  haveI := hS.ok
  exact Yields.indexAddr hx hy r h0 h1
theorem Yields.fieldAddrK {v : Value} {T : TypeId} {x : Operand} {i off : Nat} {ix : Int} {j : Nat} {α : Type} {K : EK α} {xs : List α} [hF : FAd C.P T i off] (hx : ev e x = some (.pointer (some (el K v ix j)))) (r : Reads C L (RArr K v xs)) (hix : 0 ≤ ix) (hlt : ix < xs.length) :
    Yields C ⟨d, .fieldAddr T x i, ty, ps, af, g⟩ e L (.pointer (some (el K v ix (j + off)))) := Yields.fieldAddrE hx r hix hlt
/-- A store. -/
theorem RunL.st {v : Value} {T : TypeId} {x y : Operand} {p : Addr} {L' : List HP} [hT : Sca C.P T] [hS : Siz C.P T 1] (hx : ev e x = some (.pointer (some p))) (hy : ev e y = some v) (h1 : v.oneCell' = true) (hp : Poke C L p v L')
    (r : RunL C ops os k e L') : RunL C ops (⟨none, .store T x y, ty, ps, af, none⟩ :: os) k e L :=
  RunL.eff (fun _ => L') rfl rfl (Does.store hx hy h1 hp) fun _ => r
end
end Go.Proofs.YtfldnnpcdjabnaaDoor
