/-
  Short words of the walk: a rule for each kind of operation, its side conditions found by the tactic that stands at each.
-/
import Derived.Test.YtfldnnpcdjabnaaDoorKinds
set_option linter.unusedVariables false
set_option linter.unusedSimpArgs false
namespace Go.Proofs.YtfldnnpcdjabnaaDoor
open Go

theorem length_wr {α : Type} (xs : List α) (i : Int) (y : α) : (wr xs i y).length = xs.length := by simp [wr]
/-- The value v is one element x. -/
class Enc {α : Type} (K : EK α) (v : Value) (x : outParam α) : Prop where
  h : v.cells = (K.enc x).toArray
instance (n : Int) : Enc KInt (.int .i64 n) n := ⟨rfl⟩
instance (n : Int) : Enc KI8 (.int .i8 n) n := ⟨rfl⟩
instance (s : SV) : Enc KSl s.v s := ⟨rfl⟩
instance (a : Option Addr) (n c : Nat) : Enc KSl (.slice a n c) ⟨a, n, c⟩ := ⟨rfl⟩
instance (s : SV) (a b : Bool) : Enc KCl (.agg #[s.v, .bool a, .bool b]) (s, a, b) := ⟨rfl⟩
instance (m n : Int) : Enc KLe (.agg #[.int .i64 m, .int .i64 n]) (m, n) := ⟨rfl⟩
instance (s : SV) (a : Bool) : Enc KSt (.agg #[.bool a, s.v]) (a, s) := ⟨rfl⟩

theorem zerOf {α : Type} {P : Program} {K : EK α} {z : α} {i : TypeInfo} {v : Value} (hi : P.info? K.e = some i) (hz : i.zero = some v) (hc : v.cells = (K.enc z).toArray) : ∀ i' z', P.info? K.e = some i' → i'.zero = some z' → z'.cells = (K.enc z).toArray :=
  fun i' z' h1 h2 => by rw [hi] at h1; cases h1; rw [hz] at h2; cases h2; exact hc
section
variable {C : Cx} {ops : Array Oper} {os : List Oper} {plan : Plan} {fl fl' : Fl} {k : List Item} {e : Env} {L : List HP} {d : Option Tmp} {dd : Tmp} {ty : TypeId} {ps : String} {af : Array Edge} {g : Option (Nat × Bool)} {op : Op} {i : Nat}
theorem Ymv {x : Operand} {v : Value} (hx : ev e x = some v := by rfl) : Yields C ⟨d, .move x, ty, ps, af, g⟩ e L v := Yields.move hx
theorem Yas {x : Operand} {v : Value} (hx : ev e x = some v := by rfl) : Yields C ⟨d, .assign x, ty, ps, af, g⟩ e L v := Yields.assign hx
theorem YmN : Yields C ⟨d, .move (.const (.slice none 0 0)), ty, ps, af, g⟩ e L nilS.v := Yields.move rfl
theorem YaN : Yields C ⟨d, .assign (.const (.slice none 0 0)), ty, ps, af, g⟩ e L nilS.v := Yields.assign rfl
theorem Ync {x : Operand} {p : Addr} (hx : ev e x = some (.pointer (some p)) := by rfl) : Yields C ⟨d, .nilCheck x, ty, ps, af, g⟩ e L (.pointer (some p)) := Yields.nilCheck hx
theorem YfB {T : TypeId} {x : Operand} {i off b n : Nat} [hF : FAd C.P T i off] (hx : ev e x = some (.pointer (some ⟨b, n, none⟩)) := by rfl) :
    Yields C ⟨d, .fieldAddr T x i, ty, ps, af, g⟩ e L (.pointer (some ⟨b, n + off, none⟩)) := Yields.fieldAddrB hx
theorem YfE {v : Value} {T : TypeId} {x : Operand} {i off : Nat} {ix : Int} {j : Nat} {α : Type} {K : EK α} {xs : List α} [hF : FAd C.P T i off] (hx : ev e x = some (.pointer (some (el K v ix j))) := by rfl)
    (r : Reads C L (RArr K v xs) := by (first | exact Reads.rhoArr (by assumption) | exact Reads.arr (by (repeat (first | with_reducible exact Pick.here | with_reducible apply Pick.there))) | exact Reads.rho (by assumption))) (hix : 0 ≤ ix := by (first | omega | (simp only [List.length_append, List.length_cons, List.length_nil, length_wr, List.length_replicate]; omega))) (hlt : ix < xs.length := by (first | omega | (simp only [List.length_append, List.length_cons, List.length_nil, length_wr, List.length_replicate]; omega))) :
    Yields C ⟨d, .fieldAddr T x i, ty, ps, af, g⟩ e L (.pointer (some (el K v ix (j + off)))) := Yields.fieldAddrE hx r hix hlt
theorem YlC {T T' : TypeId} {x : Operand} {b off : Nat} {cs : List Value} {v : Value} [hT : Sca C.P T] (hx : ev e x = some (.pointer (some ⟨b, off, none⟩)) := by rfl)
    (r : Reads C L (Cells b T' cs) := by (first | exact Reads.rho (by assumption) | exact Reads.pick (by (repeat (first | with_reducible exact Pick.here | with_reducible apply Pick.there))))) (hv : cs[off]? = some v := by rfl) : Yields C ⟨d, .load T x, ty, ps, af, g⟩ e L v := Yields.load hx (Peek.cells r hv)
theorem YlE {T : TypeId} {x : Operand} {α : Type} [Inhabited α] {K : EK α} [hK : EKOk C.P K] {v u : Value} {i : Int} {j : Nat} {xs : List α} [hT : Sca C.P T] (hx : ev e x = some (.pointer (some (el K v i j))) := by rfl)
    (r : Reads C L (RArr K v xs) := by (first | exact Reads.rhoArr (by assumption) | exact Reads.arr (by (repeat (first | with_reducible exact Pick.here | with_reducible apply Pick.there))) | exact Reads.rho (by assumption))) (h0 : 0 ≤ i := by (first | omega | (simp only [List.length_append, List.length_cons, List.length_nil, length_wr, List.length_replicate]; omega))) (h1 : i < xs.length := by (first | omega | (simp only [List.length_append, List.length_cons, List.length_nil, length_wr, List.length_replicate]; omega))) (hj : (K.enc (rd xs i))[j]? = some u := by rfl) : Yields C ⟨d, .load T x, ty, ps, af, g⟩ e L u := Yields.load hx (Peek.el r h0 h1 hj)
theorem YaC {T T' : TypeId} {x : Operand} {b off n : Nat} {cs vs : List Value} [hT : Agg C.P T] [hS : Siz C.P T n] (hx : ev e x = some (.pointer (some ⟨b, off, none⟩)) := by rfl)
    (r : Reads C L (Cells b T' cs) := by (first | exact Reads.rho (by assumption) | exact Reads.pick (by (repeat (first | with_reducible exact Pick.here | with_reducible apply Pick.there))))) (hv : (cs.drop off).take n = vs := by rfl) (hn : vs.length = n := by rfl) : Yields C ⟨d, .load T x, ty, ps, af, g⟩ e L (.agg vs.toArray) := Yields.loadA hx (PeekN.cells r hv) hn
theorem YaE {T : TypeId} {x : Operand} {n : Nat} {α : Type} [Inhabited α] {K : EK α} [hK : EKOk C.P K] {v : Value} {i : Int} {xs : List α} {vs : List Value} [hT : Agg C.P T] [hS : Siz C.P T n] (hx : ev e x = some (.pointer (some (el K v i 0))) := by rfl)
    (r : Reads C L (RArr K v xs) := by (first | exact Reads.rhoArr (by assumption) | exact Reads.arr (by (repeat (first | with_reducible exact Pick.here | with_reducible apply Pick.there))) | exact Reads.rho (by assumption))) (h0 : 0 ≤ i := by (first | omega | (simp only [List.length_append, List.length_cons, List.length_nil, length_wr, List.length_replicate]; omega))) (h1 : i < xs.length := by (first | omega | (simp only [List.length_append, List.length_cons, List.length_nil, length_wr, List.length_replicate]; omega))) (hj : K.enc (rd xs i) = vs := by rfl) (hn : vs.length = n := by rfl) : Yields C ⟨d, .load T x, ty, ps, af, g⟩ e L (.agg vs.toArray) :=
  Yields.loadA hx (PeekN.el r h0 h1 hj) hn
theorem Yln {v : Value} {T : TypeId} {x : Operand} {α : Type} {K : EK α} [hS : SK C.P T α K] {xs : List α} (hx : ev e x = some v := by rfl) (r : Reads C L (RArr K v xs) := by (first | exact Reads.rhoArr (by assumption) | exact Reads.arr (by (repeat (first | with_reducible exact Pick.here | with_reducible apply Pick.there))) | exact Reads.rho (by assumption))) :
    Yields C ⟨d, .call ⟨.builtin .len, #[x], #[T]⟩, ty, ps, af, g⟩ e L (.int .i64 xs.length) := Yields.lenK hx r
theorem Yix {v : Value} {T : TypeId} {x y : Operand} {kk : IntKind} {i : Int} {α : Type} {K : EK α} [hS : SK C.P T α K] {xs : List α} (hx : ev e x = some v := by rfl) (hy : ev e y = some (.int kk i) := by rfl)
    (r : Reads C L (RArr K v xs) := by (first | exact Reads.rhoArr (by assumption) | exact Reads.arr (by (repeat (first | with_reducible exact Pick.here | with_reducible apply Pick.there))) | exact Reads.rho (by assumption))) (h0 : 0 ≤ i := by (first | omega | (simp only [List.length_append, List.length_cons, List.length_nil, length_wr, List.length_replicate]; omega))) (h1 : i < xs.length := by (first | omega | (simp only [List.length_append, List.length_cons, List.length_nil, length_wr, List.length_replicate]; omega))) : Yields C ⟨d, .indexAddr T x y, ty, ps, af, g⟩ e L (.pointer (some (el K v i 0))) := Yields.indexK hx hy r h0 h1
theorem Yst {v : Value} {T : TypeId} {x y : Operand} {n : Int} {α : Type} {K : EK α} [hS : SK C.P T α K] {xs : List α} (hx : ev e x = some v := by rfl) (hy : ev e y = some (.int .i64 n) := by rfl)
    (r : Reads C L (RArr K v xs) := by (first | exact Reads.rhoArr (by assumption) | exact Reads.arr (by (repeat (first | with_reducible exact Pick.here | with_reducible apply Pick.there))) | exact Reads.rho (by assumption))) (h0 : 0 ≤ n := by (first | omega | (simp only [List.length_append, List.length_cons, List.length_nil, length_wr, List.length_replicate]; omega))) (h1 : n ≤ xs.length := by (first | omega | (simp only [List.length_append, List.length_cons, List.length_nil, length_wr, List.length_replicate]; omega))) : Yields C ⟨d, .slice T x none (some y) none, ty, ps, af, g⟩ e L (cutTo v n) := by
  haveI : Und C.P T (.slice K.e) := ⟨hS.und⟩
  haveI := hS.ok
  exact Yields.sliceTo hx hy r h0 h1
theorem Ysf {v : Value} {T : TypeId} {x y : Operand} {n : Int} {α : Type} {K : EK α} [hS : SK C.P T α K] {xs : List α} (hx : ev e x = some v := by rfl) (hy : ev e y = some (.int .i64 n) := by rfl)
    (r : Reads C L (RArr K v xs) := by (first | exact Reads.rhoArr (by assumption) | exact Reads.arr (by (repeat (first | with_reducible exact Pick.here | with_reducible apply Pick.there))) | exact Reads.rho (by assumption))) (h0 : 0 ≤ n := by (first | omega | (simp only [List.length_append, List.length_cons, List.length_nil, length_wr, List.length_replicate]; omega))) (h1 : n ≤ xs.length := by (first | omega | (simp only [List.length_append, List.length_cons, List.length_nil, length_wr, List.length_replicate]; omega))) : Yields C ⟨d, .slice T x (some y) none none, ty, ps, af, g⟩ e L (cutFrom K.k v n) := by
  haveI : Und C.P T (.slice K.e) := ⟨hS.und⟩
  haveI := hS.ok
  exact Yields.sliceFrom hx hy r h0 h1
theorem Yad {T u : TypeId} {x y : Operand} {m n : Int} (hx : ev e x = some (.int .i64 m) := by rfl) (hy : ev e y = some (.int .i64 n) := by rfl) (h1 : -9223372036854775808 ≤ m + n := by (first | omega | (simp only [List.length_append, List.length_cons, List.length_nil, length_wr, List.length_replicate]; omega))) (h2 : m + n ≤ 9223372036854775807 := by (first | omega | (simp only [List.length_append, List.length_cons, List.length_nil, length_wr, List.length_replicate]; omega))) :
    Yields C ⟨d, .binOp .add T x y u, ty, ps, af, g⟩ e L (.int .i64 (m + n)) := Yields.add hx hy h1 h2
theorem Ysb {T u : TypeId} {x y : Operand} {m n : Int} (hx : ev e x = some (.int .i64 m) := by rfl) (hy : ev e y = some (.int .i64 n) := by rfl) (h1 : -9223372036854775808 ≤ m - n := by (first | omega | (simp only [List.length_append, List.length_cons, List.length_nil, length_wr, List.length_replicate]; omega))) (h2 : m - n ≤ 9223372036854775807 := by (first | omega | (simp only [List.length_append, List.length_cons, List.length_nil, length_wr, List.length_replicate]; omega))) :
    Yields C ⟨d, .binOp .sub T x y u, ty, ps, af, g⟩ e L (.int .i64 (m - n)) := Yields.sub hx hy h1 h2
theorem Yml {T u : TypeId} {x y : Operand} {m n : Int} (hx : ev e x = some (.int .i64 m) := by rfl) (hy : ev e y = some (.int .i64 n) := by rfl) (h1 : -9223372036854775808 ≤ m * n := by (first | omega | (simp only [List.length_append, List.length_cons, List.length_nil, length_wr, List.length_replicate]; omega))) (h2 : m * n ≤ 9223372036854775807 := by (first | omega | (simp only [List.length_append, List.length_cons, List.length_nil, length_wr, List.length_replicate]; omega))) :
    Yields C ⟨d, .binOp .mul T x y u, ty, ps, af, g⟩ e L (.int .i64 (m * n)) := Yields.mul hx hy h1 h2
theorem Yqu {T u : TypeId} {x y : Operand} {m n : Int} (hx : ev e x = some (.int .i64 m) := by rfl) (hy : ev e y = some (.int .i64 n) := by rfl) (h0 : 0 ≤ m := by (first | omega | (simp only [List.length_append, List.length_cons, List.length_nil, length_wr, List.length_replicate]; omega))) (hm : m ≤ 9223372036854775807 := by (first | omega | (simp only [List.length_append, List.length_cons, List.length_nil, length_wr, List.length_replicate]; omega))) (hn : 0 < n := by (first | omega | (simp only [List.length_append, List.length_cons, List.length_nil, length_wr, List.length_replicate]; omega))) :
    Yields C ⟨d, .binOp .quo T x y u, ty, ps, af, g⟩ e L (.int .i64 (m / n)) := Yields.quoN hx hy h0 hm hn
theorem Yqt {T u : TypeId} {x y : Operand} {m n : Int} (hx : ev e x = some (.int .i64 m) := by rfl) (hy : ev e y = some (.int .i64 n) := by rfl) (h0 : n ≠ 0 := by (first | omega | (simp only [List.length_append, List.length_cons, List.length_nil, length_wr, List.length_replicate]; omega))) (h1 : -9223372036854775808 ≤ m.tdiv n := by (first | omega | (simp only [List.length_append, List.length_cons, List.length_nil, length_wr, List.length_replicate]; omega))) (h2 : m.tdiv n ≤ 9223372036854775807 := by (first | omega | (simp only [List.length_append, List.length_cons, List.length_nil, length_wr, List.length_replicate]; omega))) :
    Yields C ⟨d, .binOp .quo T x y u, ty, ps, af, g⟩ e L (.int .i64 (m.tdiv n)) := Yields.quo hx hy h0 h1 h2
theorem Yre {T u : TypeId} {x y : Operand} {m n : Int} (hx : ev e x = some (.int .i64 m) := by rfl) (hy : ev e y = some (.int .i64 n) := by rfl) (h0 : 0 ≤ m := by (first | omega | (simp only [List.length_append, List.length_cons, List.length_nil, length_wr, List.length_replicate]; omega))) (hn : 0 < n := by (first | omega | (simp only [List.length_append, List.length_cons, List.length_nil, length_wr, List.length_replicate]; omega))) :
    Yields C ⟨d, .binOp .rem T x y u, ty, ps, af, g⟩ e L (.int .i64 (m % n)) := Yields.remN hx hy h0 hn
theorem Yrt {T u : TypeId} {x y : Operand} {m n : Int} (hx : ev e x = some (.int .i64 m) := by rfl) (hy : ev e y = some (.int .i64 n) := by rfl) (h0 : n ≠ 0 := by (first | omega | (simp only [List.length_append, List.length_cons, List.length_nil, length_wr, List.length_replicate]; omega))) :
    Yields C ⟨d, .binOp .rem T x y u, ty, ps, af, g⟩ e L (.int .i64 (m.tmod n)) := Yields.rem hx hy h0
theorem Yng {T : TypeId} {x : Operand} {n : Int} (hx : ev e x = some (.int .i64 n) := by rfl) (h1 : -9223372036854775808 ≤ -n := by (first | omega | (simp only [List.length_append, List.length_cons, List.length_nil, length_wr, List.length_replicate]; omega))) (h2 : -n ≤ 9223372036854775807 := by (first | omega | (simp only [List.length_append, List.length_cons, List.length_nil, length_wr, List.length_replicate]; omega))) :
    Yields C ⟨d, .unOp .neg T x, ty, ps, af, g⟩ e L (.int .i64 (-n)) := Yields.neg hx h1 h2
theorem Ylt {T u : TypeId} {x y : Operand} {kk : IntKind} {m n : Int} (hx : ev e x = some (.int kk m) := by rfl) (hy : ev e y = some (.int kk n) := by rfl) : Yields C ⟨d, .binOp .lss T x y u, ty, ps, af, g⟩ e L (.bool (decide (m < n))) := Yields.lss hx hy
theorem Yle {T u : TypeId} {x y : Operand} {kk : IntKind} {m n : Int} (hx : ev e x = some (.int kk m) := by rfl) (hy : ev e y = some (.int kk n) := by rfl) : Yields C ⟨d, .binOp .leq T x y u, ty, ps, af, g⟩ e L (.bool (decide (m ≤ n))) := Yields.leq hx hy
theorem Ygt {T u : TypeId} {x y : Operand} {kk : IntKind} {m n : Int} (hx : ev e x = some (.int kk m) := by rfl) (hy : ev e y = some (.int kk n) := by rfl) : Yields C ⟨d, .binOp .gtr T x y u, ty, ps, af, g⟩ e L (.bool (decide (n < m))) := Yields.gtr hx hy
theorem Yge {T u : TypeId} {x y : Operand} {kk : IntKind} {m n : Int} (hx : ev e x = some (.int kk m) := by rfl) (hy : ev e y = some (.int kk n) := by rfl) : Yields C ⟨d, .binOp .geq T x y u, ty, ps, af, g⟩ e L (.bool (decide (n ≤ m))) := Yields.geq hx hy
theorem Yeq {T u : TypeId} {x y : Operand} {kk : IntKind} {m n : Int} (hx : ev e x = some (.int kk m) := by rfl) (hy : ev e y = some (.int kk n) := by rfl) : Yields C ⟨d, .binOp .eql T x y u, ty, ps, af, g⟩ e L (.bool (decide (m = n))) := Yields.eql hx hy
theorem Yne {T u : TypeId} {x y : Operand} {kk : IntKind} {m n : Int} (hx : ev e x = some (.int kk m) := by rfl) (hy : ev e y = some (.int kk n) := by rfl) : Yields C ⟨d, .binOp .neq T x y u, ty, ps, af, g⟩ e L (.bool (decide (m ≠ n))) := Yields.neq hx hy
theorem YeB {T u : TypeId} {x y : Operand} {p q : Bool} [hT : Und C.P T .bool] (hx : ev e x = some (.bool p) := by rfl) (hy : ev e y = some (.bool q) := by rfl) : Yields C ⟨d, .binOp .eql T x y u, ty, ps, af, g⟩ e L (.bool (p == q)) := Yields.eqlB hx hy
theorem YnB {T u : TypeId} {x y : Operand} {p q : Bool} [hT : Und C.P T .bool] (hx : ev e x = some (.bool p) := by rfl) (hy : ev e y = some (.bool q) := by rfl) : Yields C ⟨d, .binOp .neq T x y u, ty, ps, af, g⟩ e L (.bool (p != q)) := Yields.neqB hx hy
theorem YnP {T : TypeId} {x : Operand} {p : Prop} [Decidable p] (hx : ev e x = some (.bool (decide p)) := by rfl) : Yields C ⟨d, .unOp .not T x, ty, ps, af, g⟩ e L (.bool (decide (¬ p))) := Yields.notP hx
theorem Ynt {T : TypeId} {x : Operand} {b : Bool} (hx : ev e x = some (.bool b) := by rfl) : Yields C ⟨d, .unOp .not T x, ty, ps, af, g⟩ e L (.bool (!b)) := Yields.not hx
theorem YpT {c x y : Operand} {v : Value} (hc : ev e c = some (.bool true) := by rfl) (hx : ev e x = some v := by rfl) : Yields C ⟨d, .pick c x y, ty, ps, af, g⟩ e L v := Yields.pickT hc hx
theorem YpF {c x y : Operand} {v : Value} (hc : ev e c = some (.bool false) := by rfl) (hx : ev e y = some v := by rfl) : Yields C ⟨d, .pick c x y, ty, ps, af, g⟩ e L v := Yields.pickF hc hx
theorem Ymx {T : Array TypeId} {x y : Operand} {m n : Int} (hx : ev e x = some (.int .i64 m) := by rfl) (hy : ev e y = some (.int .i64 n) := by rfl) : Yields C ⟨d, .call ⟨.builtin .max, #[x, y], T⟩, ty, ps, af, g⟩ e L (.int .i64 (max m n)) := Yields.max hx hy
theorem Ymn {T : Array TypeId} {x y : Operand} {m n : Int} (hx : ev e x = some (.int .i64 m) := by rfl) (hy : ev e y = some (.int .i64 n) := by rfl) : Yields C ⟨d, .call ⟨.builtin .min, #[x, y], T⟩, ty, ps, af, g⟩ e L (.int .i64 (min m n)) := Yields.min hx hy
theorem Yxt {x : Operand} {vs : List Value} {i : Nat} {v : Value} (hx : ev e x = some (.tuple vs.toArray) := by rfl) (hv : vs[i]? = some v := by rfl) : Yields C ⟨d, .extract x i, ty, ps, af, g⟩ e L v := Yields.extract hx hv
theorem Yfd {T : TypeId} {x : Operand} {fs : Array Field} {i : Nat} {f : Field} {cs : List Value} {v : Value} [hT : Und C.P T (.struct fs)] (hf : fs[i]? = some f := by rfl) (hx : ev e x = some (.agg cs.toArray) := by rfl)
    (hS : Sca C.P f.type := by first | infer_instance | (dsimp only [List.getElem_toArray, List.getElem_cons_succ, List.getElem_cons_zero]; infer_instance)) (hv : cs[f.offset]? = some v := by rfl) : Yields C ⟨d, .field T x i, ty, ps, af, g⟩ e L v := Yields.field hf hx hv
theorem Ymf {f : Fn} {cs : List Operand} {vs : List Value} (hc : evs e cs = some vs := by rfl) : Yields C ⟨d, .makeFunc f #[] cs.toArray, ty, ps, af, g⟩ e L (.func f #[] vs.toArray) := Yields.makeFunc hc

theorem Poke.c0 {L L' : List HP} {b : Nat} {T : TypeId} {x0 v : Value} {l : List Value} (p : Pick (Cells b T (x0 :: l)) L L') : Poke C L ⟨b, 0, none⟩ v (Cells b T (v :: l) :: L') := Poke.cells (off := 0) p (by simp)
theorem Poke.c1 {L L' : List HP} {b : Nat} {T : TypeId} {x0 x1 v : Value} {l : List Value} (p : Pick (Cells b T (x0 :: x1 :: l)) L L') : Poke C L ⟨b, 1, none⟩ v (Cells b T (x0 :: v :: l) :: L') := Poke.cells (off := 1) p (by simp)
theorem Poke.c2 {L L' : List HP} {b : Nat} {T : TypeId} {x0 x1 x2 v : Value} {l : List Value} (p : Pick (Cells b T (x0 :: x1 :: x2 :: l)) L L') : Poke C L ⟨b, 2, none⟩ v (Cells b T (x0 :: x1 :: v :: l) :: L') := Poke.cells (off := 2) p (by simp)
theorem Poke.c3 {L L' : List HP} {b : Nat} {T : TypeId} {x0 x1 x2 x3 v : Value} {l : List Value} (p : Pick (Cells b T (x0 :: x1 :: x2 :: x3 :: l)) L L') : Poke C L ⟨b, 3, none⟩ v (Cells b T (x0 :: x1 :: x2 :: v :: l) :: L') := Poke.cells (off := 3) p (by simp)
theorem Poke.c4 {L L' : List HP} {b : Nat} {T : TypeId} {x0 x1 x2 x3 x4 v : Value} {l : List Value} (p : Pick (Cells b T (x0 :: x1 :: x2 :: x3 :: x4 :: l)) L L') : Poke C L ⟨b, 4, none⟩ v (Cells b T (x0 :: x1 :: x2 :: x3 :: v :: l) :: L') := Poke.cells (off := 4) p (by simp)
theorem Poke.c5 {L L' : List HP} {b : Nat} {T : TypeId} {x0 x1 x2 x3 x4 x5 v : Value} {l : List Value} (p : Pick (Cells b T (x0 :: x1 :: x2 :: x3 :: x4 :: x5 :: l)) L L') : Poke C L ⟨b, 5, none⟩ v (Cells b T (x0 :: x1 :: x2 :: x3 :: x4 :: v :: l) :: L') := Poke.cells (off := 5) p (by simp)
theorem Poke.c6 {L L' : List HP} {b : Nat} {T : TypeId} {x0 x1 x2 x3 x4 x5 x6 v : Value} {l : List Value} (p : Pick (Cells b T (x0 :: x1 :: x2 :: x3 :: x4 :: x5 :: x6 :: l)) L L') : Poke C L ⟨b, 6, none⟩ v (Cells b T (x0 :: x1 :: x2 :: x3 :: x4 :: x5 :: v :: l) :: L') := Poke.cells (off := 6) p (by simp)
theorem Poke.c7 {L L' : List HP} {b : Nat} {T : TypeId} {x0 x1 x2 x3 x4 x5 x6 x7 v : Value} {l : List Value} (p : Pick (Cells b T (x0 :: x1 :: x2 :: x3 :: x4 :: x5 :: x6 :: x7 :: l)) L L') : Poke C L ⟨b, 7, none⟩ v (Cells b T (x0 :: x1 :: x2 :: x3 :: x4 :: x5 :: x6 :: v :: l) :: L') := Poke.cells (off := 7) p (by simp)
theorem Poke.c8 {L L' : List HP} {b : Nat} {T : TypeId} {x0 x1 x2 x3 x4 x5 x6 x7 x8 v : Value} {l : List Value} (p : Pick (Cells b T (x0 :: x1 :: x2 :: x3 :: x4 :: x5 :: x6 :: x7 :: x8 :: l)) L L') : Poke C L ⟨b, 8, none⟩ v (Cells b T (x0 :: x1 :: x2 :: x3 :: x4 :: x5 :: x6 :: x7 :: v :: l) :: L') := Poke.cells (off := 8) p (by simp)
theorem Poke.c9 {L L' : List HP} {b : Nat} {T : TypeId} {x0 x1 x2 x3 x4 x5 x6 x7 x8 x9 v : Value} {l : List Value} (p : Pick (Cells b T (x0 :: x1 :: x2 :: x3 :: x4 :: x5 :: x6 :: x7 :: x8 :: x9 :: l)) L L') : Poke C L ⟨b, 9, none⟩ v (Cells b T (x0 :: x1 :: x2 :: x3 :: x4 :: x5 :: x6 :: x7 :: x8 :: v :: l) :: L') := Poke.cells (off := 9) p (by simp)
theorem Poke.c10 {L L' : List HP} {b : Nat} {T : TypeId} {x0 x1 x2 x3 x4 x5 x6 x7 x8 x9 x10 v : Value} {l : List Value} (p : Pick (Cells b T (x0 :: x1 :: x2 :: x3 :: x4 :: x5 :: x6 :: x7 :: x8 :: x9 :: x10 :: l)) L L') : Poke C L ⟨b, 10, none⟩ v (Cells b T (x0 :: x1 :: x2 :: x3 :: x4 :: x5 :: x6 :: x7 :: x8 :: x9 :: v :: l) :: L') := Poke.cells (off := 10) p (by simp)
theorem Poke.c11 {L L' : List HP} {b : Nat} {T : TypeId} {x0 x1 x2 x3 x4 x5 x6 x7 x8 x9 x10 x11 v : Value} {l : List Value} (p : Pick (Cells b T (x0 :: x1 :: x2 :: x3 :: x4 :: x5 :: x6 :: x7 :: x8 :: x9 :: x10 :: x11 :: l)) L L') : Poke C L ⟨b, 11, none⟩ v (Cells b T (x0 :: x1 :: x2 :: x3 :: x4 :: x5 :: x6 :: x7 :: x8 :: x9 :: x10 :: v :: l) :: L') := Poke.cells (off := 11) p (by simp)
theorem Poke.c12 {L L' : List HP} {b : Nat} {T : TypeId} {x0 x1 x2 x3 x4 x5 x6 x7 x8 x9 x10 x11 x12 v : Value} {l : List Value} (p : Pick (Cells b T (x0 :: x1 :: x2 :: x3 :: x4 :: x5 :: x6 :: x7 :: x8 :: x9 :: x10 :: x11 :: x12 :: l)) L L') : Poke C L ⟨b, 12, none⟩ v (Cells b T (x0 :: x1 :: x2 :: x3 :: x4 :: x5 :: x6 :: x7 :: x8 :: x9 :: x10 :: x11 :: v :: l) :: L') := Poke.cells (off := 12) p (by simp)

/-! A region in order -/
theorem lv {v : Value} (hy : Yields C ⟨some dd, op, ty, ps, af, none⟩ e L v) (r : RunL C ops os k ((dd, v) :: e) L) (hd : Nat.blt dd C.n = true := by rfl) : RunL C ops (⟨some dd, op, ty, ps, af, none⟩ :: os) k e L :=
  RunL.val rfl hd hy r
theorem lT {j dj : Nat} {b : Bool} (r : RunL C ops (⟨d, op, ty, ps, af, none⟩ :: os) k e L) (hj : (ops[j]?).bind (·.dst) = some dj := by rfl) (hlt : Nat.blt dj C.n = true := by rfl) (hb : get e dj = some (.bool b) := by rfl) :
    RunL C ops (⟨d, op, ty, ps, af, some (j, b)⟩ :: os) k e L := RunL.guardT hj hlt hb r
theorem lF {j dj : Nat} {b : Bool} {v' : Value} (r : RunL C ops os k ((dd, undef) :: e) L) (hj : (ops[j]?).bind (·.dst) = some dj := by rfl) (hlt : Nat.blt dj C.n = true := by rfl) (hb : get e dj = some v' := by rfl) (hne : offV v' b = true := by rfl)
    (hd : Nat.blt dd C.n = true := by rfl) : RunL C ops (⟨some dd, op, ty, ps, af, some (j, b)⟩ :: os) k e L := RunL.guardF hj hlt hb hne (d := some dd) hd r
theorem lst {v : Value} {T : TypeId} {x y : Operand} {p : Addr} {L' : List HP} [hT : Sca C.P T] [hS : Siz C.P T 1] (r : RunL C ops os k e L') (hx : ev e x = some (.pointer (some p)) := by rfl) (hy : ev e y = some v := by rfl) (h1 : v.oneCell' = true := by rfl)
    (hp : Poke C L p v L' := by first | exact Poke.c0 (by (repeat (first | with_reducible exact Pick.here | with_reducible apply Pick.there))) | exact Poke.c1 (by (repeat (first | with_reducible exact Pick.here | with_reducible apply Pick.there))) | exact Poke.c2 (by (repeat (first | with_reducible exact Pick.here | with_reducible apply Pick.there))) | exact Poke.c3 (by (repeat (first | with_reducible exact Pick.here | with_reducible apply Pick.there))) | exact Poke.c4 (by (repeat (first | with_reducible exact Pick.here | with_reducible apply Pick.there))) | exact Poke.c5 (by (repeat (first | with_reducible exact Pick.here | with_reducible apply Pick.there))) | exact Poke.c6 (by (repeat (first | with_reducible exact Pick.here | with_reducible apply Pick.there))) | exact Poke.c7 (by (repeat (first | with_reducible exact Pick.here | with_reducible apply Pick.there))) | exact Poke.c8 (by (repeat (first | with_reducible exact Pick.here | with_reducible apply Pick.there))) | exact Poke.c9 (by (repeat (first | with_reducible exact Pick.here | with_reducible apply Pick.there))) | exact Poke.c10 (by (repeat (first | with_reducible exact Pick.here | with_reducible apply Pick.there))) | exact Poke.c11 (by (repeat (first | with_reducible exact Pick.here | with_reducible apply Pick.there))) | exact Poke.c12 (by (repeat (first | with_reducible exact Pick.here | with_reducible apply Pick.there))) | exact Poke.el (by (repeat (first | with_reducible exact Pick.here | with_reducible apply Pick.there))) (by (first | omega | (simp only [List.length_append, List.length_cons, List.length_nil, length_wr, List.length_replicate]; omega))) (by (first | omega | (simp only [List.length_append, List.length_cons, List.length_nil, length_wr, List.length_replicate]; omega))) _ (Nat.le_of_ble_eq_true rfl) (by rfl)) : RunL C ops (⟨none, .store T x y, ty, ps, af, none⟩ :: os) k e L := RunL.st hx hy h1 hp r
theorem Dap {T : TypeId} {s x : Operand} {v u : Value} {α : Type} {K : EK α} [hS : SK C.P T α K] {xs ys : List α} {L' : List HP} (hs : ev e s = some v := by rfl) (hx : ev e x = some u := by rfl) (p : Pick (Arr K v xs) L L' := by (repeat (first | with_reducible exact Pick.here | with_reducible apply Pick.there)))
    (r : Reads C L' (RArr K u ys) := by (first | exact Reads.rhoArr (by assumption) | exact Reads.arr (by (repeat (first | with_reducible exact Pick.here | with_reducible apply Pick.there))) | exact Reads.rho (by assumption)))
    (hfits : (xs.length + ys.length) * K.b ≤ 140737488355328 := by (simp only [EK.b]; (first | omega | (simp only [List.length_append, List.length_cons, List.length_nil, length_wr, List.length_replicate]; omega)))) : Does C ⟨d, .call ⟨.builtin .append, #[s, x], #[T, T]⟩, ty, ps, af, g⟩ e L (fun v' => Arr K v' (xs ++ ys) :: L') := by
  haveI : Und C.P T (.slice K.e) := ⟨hS.und⟩
  haveI := hS.ok
  exact Does.append hs hx p r hfits
theorem Db0 {T : TypeId} {α : Type} {K : EK α} [hS : SK C.P T α K] : Does C ⟨d, .buildSlice T 0 #[], ty, ps, af, g⟩ e L (fun u => Arr K u [] :: L) := by
  haveI : Und C.P T (.slice K.e) := ⟨hS.und⟩
  haveI := hS.ok
  exact Does.buildSlice (os := []) (vs := []) (xs := []) rfl (by decide) rfl rfl rfl fun j y u hy hu => by simp at hy
theorem Db1 {T : TypeId} {x : Operand} {v : Value} {α : Type} {K : EK α} [hS : SK C.P T α K] {a : α} [hE : Enc K v a] (hx : ev e x = some v := by rfl) : Does C ⟨d, .buildSlice T 1 #[(0, x)], ty, ps, af, g⟩ e L (fun u => Arr K u [a] :: L) := by
  haveI : Und C.P T (.slice K.e) := ⟨hS.und⟩
  haveI := hS.ok
  refine Does.buildSlice (os := [x]) (vs := [v]) (xs := [a]) rfl (by decide) rfl rfl (by simp [evs, hx]) fun j y u hy hu => ?_
  cases j with
  | zero => simp at hy hu; subst hy; subst hu; exact hE.h
  | succ j => simp at hy
theorem Db2 {T : TypeId} {x y : Operand} {v v' : Value} {α : Type} {K : EK α} [hS : SK C.P T α K] {a b : α} [hE : Enc K v a] [hE' : Enc K v' b] (hx : ev e x = some v := by rfl) (hy : ev e y = some v' := by rfl) :
    Does C ⟨d, .buildSlice T 2 #[(0, x), (1, y)], ty, ps, af, g⟩ e L (fun u => Arr K u [a, b] :: L) := by
  haveI : Und C.P T (.slice K.e) := ⟨hS.und⟩
  haveI := hS.ok
  refine Does.buildSlice (os := [x, y]) (vs := [v, v']) (xs := [a, b]) rfl (by decide) rfl rfl (by simp [evs, hx, hy]) fun j z u hz hu => ?_
  match j with
  | 0 => simp at hz hu; subst hz; subst hu; exact hE.h
  | 1 => simp at hz hu; subst hz; subst hu; exact hE'.h
  | j + 2 => simp at hz
/-- What stands in new places. -/
class Zer {α : Type} (P : Program) (K : EK α) (z : outParam α) : Prop where
  h : ∀ i z', P.info? K.e = some i → i.zero = some z' → z'.cells = (K.enc z).toArray
theorem Dmk {T : TypeId} {x y : Operand} {l c : Int} {α : Type} {K : EK α} [hS : SK C.P T α K] {z : α} [hZ : Zer C.P K z] (hx : ev e x = some (.int .i64 l) := by rfl) (hy : ev e y = some (.int .i64 c) := by rfl)
    (h0 : 0 ≤ l := by (first | omega | (simp only [List.length_append, List.length_cons, List.length_nil, length_wr, List.length_replicate]; omega))) (h1 : l ≤ c := by (first | omega | (simp only [List.length_append, List.length_cons, List.length_nil, length_wr, List.length_replicate]; omega))) (h2 : c * K.b ≤ 140737488355328 := by (simp only [EK.b]; (first | omega | (simp only [List.length_append, List.length_cons, List.length_nil, length_wr, List.length_replicate]; omega)))) : Does C ⟨d, .makeSlice T x y, ty, ps, af, g⟩ e L (fun v => Arr K v (List.replicate l.toNat z) :: L) := by
  haveI : Und C.P T (.slice K.e) := ⟨hS.und⟩
  haveI := hS.ok
  exact Does.makeSlice z hx hy hZ.h h0 h1 h2
theorem Dst {v : Value} {T : TypeId} {x y : Operand} {p : Addr} {L' : List HP} [hT : Sca C.P T] [hS : Siz C.P T 1] (hx : ev e x = some (.pointer (some p)) := by rfl) (hy : ev e y = some v := by rfl) (h1 : v.oneCell' = true := by rfl)
    (hp : Poke C L p v L' := by first | exact Poke.c0 (by (repeat (first | with_reducible exact Pick.here | with_reducible apply Pick.there))) | exact Poke.c1 (by (repeat (first | with_reducible exact Pick.here | with_reducible apply Pick.there))) | exact Poke.c2 (by (repeat (first | with_reducible exact Pick.here | with_reducible apply Pick.there))) | exact Poke.c3 (by (repeat (first | with_reducible exact Pick.here | with_reducible apply Pick.there))) | exact Poke.c4 (by (repeat (first | with_reducible exact Pick.here | with_reducible apply Pick.there))) | exact Poke.c5 (by (repeat (first | with_reducible exact Pick.here | with_reducible apply Pick.there))) | exact Poke.c6 (by (repeat (first | with_reducible exact Pick.here | with_reducible apply Pick.there))) | exact Poke.c7 (by (repeat (first | with_reducible exact Pick.here | with_reducible apply Pick.there))) | exact Poke.c8 (by (repeat (first | with_reducible exact Pick.here | with_reducible apply Pick.there))) | exact Poke.c9 (by (repeat (first | with_reducible exact Pick.here | with_reducible apply Pick.there))) | exact Poke.c10 (by (repeat (first | with_reducible exact Pick.here | with_reducible apply Pick.there))) | exact Poke.c11 (by (repeat (first | with_reducible exact Pick.here | with_reducible apply Pick.there))) | exact Poke.c12 (by (repeat (first | with_reducible exact Pick.here | with_reducible apply Pick.there))) | exact Poke.el (by (repeat (first | with_reducible exact Pick.here | with_reducible apply Pick.there))) (by (first | omega | (simp only [List.length_append, List.length_cons, List.length_nil, length_wr, List.length_replicate]; omega))) (by (first | omega | (simp only [List.length_append, List.length_cons, List.length_nil, length_wr, List.length_replicate]; omega))) _ (Nat.le_of_ble_eq_true rfl) (by rfl)) : Does C ⟨d, .store T x y, ty, ps, af, g⟩ e L (fun _ => L') := Does.store hx hy h1 hp
theorem Dsa {T T' : TypeId} {x y : Operand} {b n : Nat} {cs vs : List Value} {L' : List HP} [hS : Siz C.P T n] (hx : ev e x = some (.pointer (some ⟨b, 0, none⟩)) := by rfl) (hy : ev e y = some (.agg vs.toArray) := by rfl)
    (hp : Pick (Cells b T' cs) L L' := by (repeat (first | with_reducible exact Pick.here | with_reducible apply Pick.there))) (h1 : ∀ v ∈ vs, v.oneCell' = true := by simp [Value.oneCell', SV.v]) (hn : vs.length = n := by rfl) (hc : cs.length = n := by rfl) : Does C ⟨d, .store T x y, ty, ps, af, g⟩ e L (fun _ => Cells b T' vs :: L') :=
  Does.storeAll hx hy h1 hn hc hp
theorem Dbx {T : TypeId} {x : Operand} {v : Value} {cs : List Value} (hx : ev e x = some v := by rfl) (hc : v.cells = cs.toArray := by rfl) : Does C ⟨d, .box T x, ty, ps, af, g⟩ e L (fun u => At T cs u :: L) := Does.box hx hc
theorem Dal {T : TypeId} {v : Value} {cs : List Value} (hz : ∀ w, (zeroValue T).run C.P w = .ok v w) (hc : v.cells = cs.toArray := by rfl) : Does C ⟨d, .alloc T, ty, ps, af, g⟩ e L (fun u => At T cs u :: L) := Does.alloc hz hc
theorem le {R : Value → List HP} (hs : Does C ⟨some dd, op, ty, ps, af, none⟩ e L R) (r : ∀ v, RunL C ops os k ((dd, v) :: e) (R v)) (hd : Nat.blt dd C.n = true := by rfl) : RunL C ops (⟨some dd, op, ty, ps, af, none⟩ :: os) k e L :=
  RunL.eff R rfl hd hs r
theorem ln {R : Value → List HP} (hs : Does C ⟨none, op, ty, ps, af, none⟩ e L R) (r : ∀ v, RunL C ops os k e (R v)) : RunL C ops (⟨none, op, ty, ps, af, none⟩ :: os) k e L :=
  RunL.eff R rfl rfl hs r
theorem Arr.sv {α : Type} {K : EK α} {v : Value} {xs : List α} {h : Frag} (a : Arr K v xs h) : ∃ s : SV, v = s.v := by
  obtain ⟨_, ao, c, hv, _⟩ := a.read
  exact ⟨⟨ao, xs.length, c⟩, hv⟩
/-- What makes a slice. -/
theorem leS {α : Type} {K : EK α} {xs : List α} {L' : List HP} (hs : Does C ⟨some dd, op, ty, ps, af, none⟩ e L (fun v => Arr K v xs :: L')) (r : ∀ s : SV, RunL C ops os k ((dd, s.v) :: e) (Arr K s.v xs :: L')) (hd : Nat.blt dd C.n = true := by rfl) :
    RunL C ops (⟨some dd, op, ty, ps, af, none⟩ :: os) k e L :=
  RunL.eff _ rfl hd hs fun v w0 h0 a w h hn s => by
    obtain ⟨h1, h2, dj', rfl, ha, hb⟩ := s.holds
    obtain ⟨sv, rfl⟩ := ha.sv
    exact r sv w0 h0 a w _ hn s
/-- A call: A may be read, M is handed over. -/
theorem lc (A : List HP) {x : Operand} {xs : List Operand} {tys : Array TypeId} {f : FuncId} {fst cap : Array Value} {vs : List Value} {R : Value → List HP} {M F : List HP} (hx : ev e x = some (.func (.func f) fst cap)) (hxs : evs e xs = some vs) [hc : CallOk C.P f]
    (hspec : ∀ ρ', fle C.ρ ρ' → In (stars A) ρ' → Ct C.P f (fst.toList ++ vs ++ cap.toList) ρ' M R) (r : ∀ v, RunL C ops os k ((dd, v) :: e) (R v ++ (A ++ F))) (hfit : Fits L (A ++ M) F := by (repeat (first | exact Fits.nil | (apply Fits.cons; focus (repeat (first | with_reducible exact Pick.here | with_reducible apply Pick.there)))))) (hd : Nat.blt dd C.n = true := by rfl) :
    RunL C ops (⟨some dd, .call ⟨.value x, xs.toArray, tys⟩, ty, ps, af, none⟩ :: os) k e L :=
  RunL.call hx hxs hd hspec hfit r

/-! A region that draws -/
theorem dv {v : Value} (hi : ops[i]? = some ⟨some dd, op, ty, ps, af, none⟩) (hy : Yields C ⟨some dd, op, ty, ps, af, none⟩ e L v) (r : RunD C ops plan ((i, v) :: fl) k ((dd, v) :: e) L) (hd : Nat.blt dd C.n = true := by rfl) :
    RunD C ops (.take i plan) fl k e L := RunD.take hi hd hy r
theorem dT {v : Value} {j dj : Nat} {b : Bool} (hi : ops[i]? = some ⟨some dd, op, ty, ps, af, some (j, b)⟩) (hy : Yields C ⟨some dd, op, ty, ps, af, some (j, b)⟩ e L v) (r : RunD C ops plan ((i, v) :: fl) k ((dd, v) :: e) L)
    (hj : (ops[j]?).bind (·.dst) = some dj := by rfl) (hb : get e dj = some (.bool b) := by rfl) (hlt : Nat.blt dj C.n = true := by rfl) (hd : Nat.blt dd C.n = true := by rfl) : RunD C ops (.take i plan) fl k e L := RunD.takeT hi hj hb hlt hd hy r
theorem dF {j dj : Nat} {b : Bool} {v' : Value} (hi : ops[i]? = some ⟨some dd, op, ty, ps, af, some (j, b)⟩) (r : RunD C ops plan ((i, undef) :: fl) k ((dd, undef) :: e) L)
    (hj : (ops[j]?).bind (·.dst) = some dj := by rfl) (hb : get e dj = some v' := by rfl) (hne : offV v' b = true := by rfl) (hlt : Nat.blt dj C.n = true := by rfl) (hd : Nat.blt dd C.n = true := by rfl) : RunD C ops (.take i plan) fl k e L :=
  RunD.takeF hi hj hb hne hlt hd r
theorem de {R : Value → List HP} (fl' : Fl) (hi : ops[i]? = some ⟨some dd, op, ty, ps, af, none⟩) (hs : Does C ⟨some dd, op, ty, ps, af, none⟩ e L R) (hfl : stays ops i fl = fl') (hst : ∀ v, Still C ops fl' ((dd, v) :: e) (R v))
    (r : ∀ v, RunD C ops plan fl' k ((dd, v) :: e) (R v)) (hd : Nat.blt dd C.n = true := by rfl) : RunA C ops i plan fl k e L := RunA.eff R hi rfl hd hs hfl hst r
theorem dn {R : Value → List HP} (fl' : Fl) (hi : ops[i]? = some ⟨none, op, ty, ps, af, none⟩) (hs : Does C ⟨none, op, ty, ps, af, none⟩ e L R) (hfl : stays ops i fl = fl') (hst : ∀ v, Still C ops fl' e (R v))
    (r : ∀ v, RunD C ops plan fl' k e (R v)) : RunA C ops i plan fl k e L := RunA.eff R hi rfl rfl hs hfl hst r
theorem deT {R : Value → List HP} {j dj : Nat} {b : Bool} (fl' : Fl) (hi : ops[i]? = some ⟨some dd, op, ty, ps, af, some (j, b)⟩) (hs : Does C ⟨some dd, op, ty, ps, af, some (j, b)⟩ e L R) (hfl : stays ops i fl = fl') (hst : ∀ v, Still C ops fl' ((dd, v) :: e) (R v))
    (r : ∀ v, RunD C ops plan fl' k ((dd, v) :: e) (R v)) (hj : (ops[j]?).bind (·.dst) = some dj := by rfl) (hb : get e dj = some (.bool b) := by rfl) (hlt : Nat.blt dj C.n = true := by rfl) (hd : Nat.blt dd C.n = true := by rfl) : RunA C ops i plan fl k e L :=
  RunA.effT R hi hj hb hlt hd hs hfl hst r
theorem deF {j dj : Nat} {b : Bool} {v' : Value} (fl' : Fl) (hi : ops[i]? = some ⟨some dd, op, ty, ps, af, some (j, b)⟩) (hfl : stays ops i fl = fl') (hst : Still C ops fl' ((dd, undef) :: e) L) (r : RunD C ops plan fl' k ((dd, undef) :: e) L)
    (hj : (ops[j]?).bind (·.dst) = some dj := by rfl) (hb : get e dj = some v' := by rfl) (hne : offV v' b = true := by rfl) (hlt : Nat.blt dj C.n = true := by rfl) (hd : Nat.blt dd C.n = true := by rfl) : RunA C ops i plan fl k e L :=
  RunA.effF hi hj hb hne hlt hd hfl hst r
theorem deS {α : Type} {K : EK α} {xs : List α} {L' : List HP} (fl' : Fl) (hi : ops[i]? = some ⟨some dd, op, ty, ps, af, none⟩) (hs : Does C ⟨some dd, op, ty, ps, af, none⟩ e L (fun v => Arr K v xs :: L')) (hfl : stays ops i fl = fl')
    (hst : ∀ s : SV, Still C ops fl' ((dd, s.v) :: e) (Arr K s.v xs :: L')) (r : ∀ s : SV, RunD C ops plan fl' k ((dd, s.v) :: e) (Arr K s.v xs :: L')) (hd : Nat.blt dd C.n = true := by rfl) : RunA C ops i plan fl k e L :=
  RunA.eff _ hi rfl hd hs hfl (fun v a w h s => by
    obtain ⟨h1, h2, dj', rfl, ha, hb⟩ := s.holds
    obtain ⟨sv, rfl⟩ := ha.sv
    exact hst sv a w _ s) fun v n listed hc w0 h0 a w h hn s => by
    obtain ⟨h1, h2, dj', rfl, ha, hb⟩ := s.holds
    obtain ⟨sv, rfl⟩ := ha.sv
    exact r sv n listed hc w0 h0 a w _ hn s
/-- A call, as an effect. -/
theorem Dcl (A : List HP) {x : Operand} {xs : List Operand} {tys : Array TypeId} {f : FuncId} {fst cap : Array Value} {vs : List Value} {R : Value → List HP} {M F : List HP} (hx : ev e x = some (.func (.func f) fst cap)) (hxs : evs e xs = some vs) [hc : CallOk C.P f]
    (hspec : ∀ ρ', fle C.ρ ρ' → In (stars A) ρ' → Ct C.P f (fst.toList ++ vs ++ cap.toList) ρ' M R) (hfit : Fits L (A ++ M) F := by (repeat (first | exact Fits.nil | (apply Fits.cons; focus (repeat (first | with_reducible exact Pick.here | with_reducible apply Pick.there)))))) : Does C ⟨d, .call ⟨.value x, xs.toArray, tys⟩, ty, ps, af, g⟩ e L (fun v => R v ++ (A ++ F)) :=
  Does.call rfl hx hxs hc.h hfit hspec
theorem sv {v : Value} (hi : ops[i]? = some ⟨some dd, op, ty, ps, af, none⟩) (hy : Yields C ⟨some dd, op, ty, ps, af, none⟩ e L v) (r : Still C ops fl e L) : Still C ops ((i, v) :: fl) e L := Still.cons hi rfl hy r
theorem sT {v : Value} {j dj : Nat} {b : Bool} (hi : ops[i]? = some ⟨some dd, op, ty, ps, af, some (j, b)⟩) (hy : Yields C ⟨some dd, op, ty, ps, af, some (j, b)⟩ e L v) (r : Still C ops fl e L)
    (hj : (ops[j]?).bind (·.dst) = some dj := by rfl) (hb : get e dj = some (.bool b) := by rfl) (hlt : Nat.blt dj C.n = true := by rfl) : Still C ops ((i, v) :: fl) e L := Still.consT hi rfl hj hlt hb hy r
theorem sF {j dj : Nat} {b : Bool} {v' : Value} (hi : ops[i]? = some ⟨some dd, op, ty, ps, af, some (j, b)⟩) (r : Still C ops fl e L)
    (hj : (ops[j]?).bind (·.dst) = some dj := by rfl) (hb : get e dj = some v' := by rfl) (hne : offV v' b = true := by rfl) (hlt : Nat.blt dj C.n = true := by rfl) : Still C ops ((i, undef) :: fl) e L := Still.consF hi rfl hj hlt hb hne r
theorem Ent.pre {A A' : HP} {L M : List HP} (h : ∀ g, A g → A' g) (r : Ent L (A :: M)) : Ent L (A' :: M) := fun g s => by
  obtain ⟨g', ⟨h1, h2, d, rfl, a, hb⟩, l⟩ := r g s
  exact ⟨_, ⟨h1, h2, d, rfl, h h1 a, hb⟩, l⟩
theorem Ent.take {A : HP} {L L' M : List HP} (p : Pick A L L') (r : Ent L' M) : Ent L (A :: M) := fun g s => by
  obtain ⟨h1, h2, d, rfl, a, b⟩ := p g s
  obtain ⟨h3, s3, l3⟩ := r h2 b
  refine ⟨fadd h1 h3, ⟨h1, h3, fun b => ?_, rfl, a, s3⟩, fadd_le (le_fadd_left _ _) (fle_trans l3 (le_fadd_right d))⟩
  rcases d b with e | e
  · exact .inl e
  · right
    rcases Option.eq_none_or_eq_some (h3 b) with y | ⟨o, y⟩
    · exact y
    · have := l3 b o y; simp [e] at this
/-- As Pick, found as an instance is. -/
class PickC (A : HP) (L : List HP) (L' : outParam (List HP)) : Prop where
  h : Pick A L L'
instance (priority := high) pickHere (A : HP) (L : List HP) : PickC A (A :: L) L := ⟨Pick.here⟩
instance pickThere (A B : HP) (L L' : List HP) [p : PickC A L L'] : PickC A (B :: L) (B :: L') := ⟨Pick.there p.h⟩
theorem Ent.takeC {A : HP} {L L' M : List HP} [p : PickC A L L'] (r : Ent L' M) : Ent L (A :: M) := Ent.take p.h r
theorem Ent.done {L : List HP} : Ent L [] := fun g s => ⟨fnil, rfl, fnil_le _⟩
theorem Arr.nil {α : Type} (K : EK α) (a : Option Addr) : Arr K (.slice a 0 0) [] fnil := .inl ⟨rfl, rfl, a, rfl⟩
theorem Ent.nilA {α : Type} {K : EK α} {L M : List HP} (r : Ent L M) : Ent L (Arr K nilS.v [] :: M) := fun g s => by
  obtain ⟨h, s', l⟩ := r g s
  exact ⟨fadd fnil h, ⟨fnil, h, fun _ => .inl rfl, rfl, Arr.nil K none, s'⟩, by rw [nil_fadd]; exact l⟩
theorem In.ent {L M : List HP} {ρ : Frag} (e : Ent L M) (h : In (stars L) ρ) : In (stars M) ρ := by
  obtain ⟨g, hg, l⟩ := h
  obtain ⟨g', hg', l'⟩ := e g hg
  exact ⟨g', hg', fle_trans l' l⟩
theorem Run.ent {L' : List HP} (hl : Ent L L') (r : Run C k e L') : Run C k e L := Run.weaken (fun _ _ h => h) hl r
theorem RunL.ent {L' : List HP} (hl : Ent L L') (r : RunL C ops os k e L') : RunL C ops os k e L := fun w0 h0 a w h hn s => by
  obtain ⟨h', hs, hle⟩ := hl h s.holds
  have hn' : Evo h0 w0 w h' := ⟨hn.size, hn.same, fun c hc => hn.dom c (by
    intro y; rcases Option.eq_none_or_eq_some (h' c) with z | ⟨o, z⟩
    · exact hc z
    · have := hle c o z; simp [y] at this), hn.os, hn.out, hn.tape, hn.drawn⟩
  exact r w0 h0 a w h' hn' (s.weaken (fun _ _ h => h) hs hle)
/-! Package variables -/
/-- The variable g reads as v. -/
def GlobIs (g : Nat) (v : Value) : HP := fun h => ∃ cur T fr, h g = some (.cells cur T fr) ∧ cur[0]? = some v
theorem YlG {T : TypeId} {gl : Nat} {v : Value} [hT : Sca C.P T] (r : In (GlobIs gl v) C.ρ) : Yields C ⟨d, .load T (.global gl), ty, ps, af, g⟩ e L v := Yields.load rfl fun w h s l l' dd => by
  obtain ⟨k, ⟨cur, T', fr, e1, e2⟩, l2⟩ := r
  have : w.heap[gl]? = some (.cells cur T' fr) := l' gl _ (l2 gl _ e1)
  simp [World.cell?, this, e2]
/-- api's errors stand in their variables, each at a place of its own. -/
structure Errs (ρ : Frag) (er : Nat → Addr) : Prop where
  h : ∀ k, k < 7 → In (GlobIs k (.iface 140 (.pointer (some (er k))))) ρ
  inj : ∀ i j, i < 7 → j < 7 → er i = er j → i = j
  at' : ∀ k, k < 7 → ∃ c T, ρ (er k).block = some (.cells c T (0, 0))
theorem Errs.mono {ρ ρ' : Frag} {er : Nat → Addr} (h : Errs ρ er) (l : fle ρ ρ') : Errs ρ' er := ⟨fun k hk => (h.h k hk).mono l, h.inj, fun k hk => let ⟨c, T, e⟩ := h.at' k hk; ⟨c, T, l _ _ e⟩⟩
abbrev errV (er : Nat → Addr) (k : Nat) : Value := .iface 140 (.pointer (some (er k)))
/-- Two of api's errors are the same just when they are the same one. -/
theorem YeE {u : TypeId} {x y : Operand} {ti tp te : TypeId} {ms : Array (String × TypeId)} {i' j' : TypeInfo} {er : Nat → Addr} {m n : Nat} (hE : Errs C.ρ er) (hm : m < 7) (hn : n < 7) (hx : ev e x = some (.iface tp (.pointer (some (er m))))) (hy : ev e y = some (.iface tp (.pointer (some (er n)))))
    (hi : C.P.underlying ti = some (.interface ms)) (hp : C.P.underlying tp = some (.pointer te)) (hinfo : C.P.info? tp = some i') (hcomp : i'.comparable = true) (hte : C.P.info? te = some j') (hsz : j'.size ≠ 0) :
    Yields C ⟨d, .binOp .eql ti x y u, ty, ps, af, g⟩ e L (.bool (decide (m = n))) := fun a w h s => by
  have hb : (binOp .eql ti (.iface tp (.pointer (some (er m)))) (.iface tp (.pointer (some (er n))))).run C.P w = .ok (.bool (decide (m = n))) w := by
    by_cases hmn : m = n
    · subst hmn
      rw [run_eql_iface_ptr_same w (er m) hi hp hinfo hcomp hte]; simp
    · obtain ⟨c1, T1, e1⟩ := hE.at' m hm
      obtain ⟨c2, T2, e2⟩ := hE.at' n hn
      rw [run_eql_iface_ptr_other w hi hp hinfo hcomp hte hsz (fun h => hmn (hE.inj m n hm hn h)) (s.rho _ _ e1) (s.rho _ _ e2)]; simp [hmn]
  simp [execOp, s.eval hx, s.eval hy, eqGuard, hb]
theorem YtaF {T te t E : TypeId} {x : Operand} {v z : Value} [hT : Und C.P te (.pointer E)] (hz : ∀ w, (zeroValue te).run C.P w = .ok z w) (hne : t ≠ te) (hx : ev e x = some (.iface t v)) :
    Yields C ⟨d, .typeAssert x T te true, ty, ps, af, g⟩ e L (.tuple [z, .bool false].toArray) := fun a w h s => by
  simp [execOp, s.eval hx, Instr.typeAssert, run_underlying hT.h, hne, hz]
theorem YtaT {T te E : TypeId} {x : Operand} {v : Value} [hT : Und C.P te (.pointer E)] (hx : ev e x = some (.iface te v)) :
    Yields C ⟨d, .typeAssert x T te true, ty, ps, af, g⟩ e L (.tuple [v, .bool true].toArray) := fun a w h s => by
  simp [execOp, s.eval hx, Instr.typeAssert, run_underlying hT.h]
/-- What a test tells, where it is known. -/
theorem RunL.isT {t : Nat} {p : Prop} [Decidable p] (hb : get e t = some (.bool (decide p))) (hp : p) (r : RunL C ops os k ((t, .bool true) :: e) L) : RunL C ops os k e L := RunL.knownP hb (fun _ => r) (fun h => absurd hp h)
theorem RunL.isF {t : Nat} {p : Prop} [Decidable p] (hb : get e t = some (.bool (decide p))) (hp : ¬ p) (r : RunL C ops os k ((t, .bool false) :: e) L) : RunL C ops os k e L := RunL.knownP hb (fun h => absurd h hp) (fun _ => r)
theorem RunD.isT {t : Nat} {p : Prop} [Decidable p] (hb : get e t = some (.bool (decide p))) (hp : p) (r : RunD C ops plan fl k ((t, .bool true) :: e) L) : RunD C ops plan fl k e L := RunD.knownP hb (fun _ => r) (fun h => absurd hp h)
theorem RunD.isF {t : Nat} {p : Prop} [Decidable p] (hb : get e t = some (.bool (decide p))) (hp : ¬ p) (r : RunD C ops plan fl k ((t, .bool false) :: e) L) : RunD C ops plan fl k e L := RunD.knownP hb (fun h => absurd h hp) (fun _ => r)
/-! A result that stands in cells -/
theorem load_cells {P : Program} {T : TypeId} {n : Nat} {vs : List Value} {b : Nat} [hT : Agg P T] [hS : Siz P T n] {w : World} (hc : ∀ j u, vs[j]? = some u → w.cell? ((⟨b, 0, none⟩ : Addr).add j) = some u) (hn : vs.length = n) :
    (loadVar T ⟨b, 0, none⟩).run P w = .ok (.agg vs.toArray) w := by
  have h1 := run_loadCells_list (P := P) w ⟨b, 0, none⟩ vs hc
  rw [hn] at h1
  simp [loadVar, hT.h, hS.h, h1]
section
variable {P : Program} {n m : Nat} {ρ : Frag} {fn : Func} {R : Value → List HP} {k : List Item} {e : Env} {L : List HP} {t u : Tmp} {T T' : TypeId} {b : Nat} {cs : List Value} {x : Value}
theorem Run.retC1 (hr : fn.results = #[.cell t T]) [hT : Agg P T] [hS : Siz P T m] (ht : get e t = some (.pointer (some ⟨b, 0, none⟩)) := by rfl) (r : Reads (FCx P n ρ fn R) L (Cells b T' cs) := by (first | exact Reads.rho (by assumption) | exact Reads.pick (by (repeat (first | with_reducible exact Pick.here | with_reducible apply Pick.there))))) (hn : cs.length = m := by rfl)
    (hL : Ent L (R (.agg cs.toArray))) : Run (FCx P n ρ fn R) (.code .ret :: k) e L := Run.retV (fun a w h s => by
  have h1 := s.env t _ ht
  have h2 := PeekN.cells (off := 0) (n := m) r rfl w h s.holds s.le s.rho s.dj
  have e1 : (cs.drop 0).take m = cs := by rw [← hn]; simp
  rw [e1] at h2
  rw [Array.getD_eq_getD_getElem?] at h1
  simp [results, hr, h1, load_cells h2 hn, asAddr]) hL
theorem Run.retC2 (hr : fn.results = #[.cell t T, .tmp u]) [hT : Agg P T] [hS : Siz P T m] (ht : get e t = some (.pointer (some ⟨b, 0, none⟩)) := by rfl) (hu : get e u = some x := by rfl) (r : Reads (FCx P n ρ fn R) L (Cells b T' cs) := by (first | exact Reads.rho (by assumption) | exact Reads.pick (by (repeat (first | with_reducible exact Pick.here | with_reducible apply Pick.there))))) (hn : cs.length = m := by rfl)
    (hL : Ent L (R (.tuple #[.agg cs.toArray, x]))) : Run (FCx P n ρ fn R) (.code .ret :: k) e L := Run.retV (fun a w h s => by
  have h1 := s.env t _ ht
  have h3 := s.env u _ hu
  have h2 := PeekN.cells (off := 0) (n := m) r rfl w h s.holds s.le s.rho s.dj
  have e1 : (cs.drop 0).take m = cs := by rw [← hn]; simp
  rw [e1] at h2
  rw [Array.getD_eq_getD_getElem?] at h1 h3
  simp [results, hr, h1, h3, load_cells h2 hn, asAddr]) hL
theorem Run.retC3 (hr : fn.results = #[.tmp u, .cell t T]) [hT : Agg P T] [hS : Siz P T m] (ht : get e t = some (.pointer (some ⟨b, 0, none⟩)) := by rfl) (hu : get e u = some x := by rfl) (r : Reads (FCx P n ρ fn R) L (Cells b T' cs) := by (first | exact Reads.rho (by assumption) | exact Reads.pick (by (repeat (first | with_reducible exact Pick.here | with_reducible apply Pick.there))))) (hn : cs.length = m := by rfl)
    (hL : Ent L (R (.tuple #[x, .agg cs.toArray]))) : Run (FCx P n ρ fn R) (.code .ret :: k) e L := Run.retV (fun a w h s => by
  have h1 := s.env t _ ht
  have h3 := s.env u _ hu
  have h2 := PeekN.cells (off := 0) (n := m) r rfl w h s.holds s.le s.rho s.dj
  have e1 : (cs.drop 0).take m = cs := by rw [← hn]; simp
  rw [e1] at h2
  rw [Array.getD_eq_getD_getElem?] at h1 h3
  simp [results, hr, h1, h3, load_cells h2 hn, asAddr]) hL
end
/-! Many arrays -/
def Bag {α : Type} (K : EK α) : List SV → List (List α) → HP
  | [], [] => emp
  | s :: ss, x :: xs => star (Arr K s.v x) (Bag K ss xs)
  | _, _ => fun _ => False
theorem Bag.length {α : Type} {K : EK α} : ∀ {ss : List SV} {xs : List (List α)} {h : Frag}, Bag K ss xs h → ss.length = xs.length
  | [], [], _, _ => rfl
  | s :: ss, x :: xs, h, ⟨_, _, _, _, _, b⟩ => by simp [Bag.length b]
theorem Bag.snoc {α : Type} {K : EK α} : ∀ {ss : List SV} {xs : List (List α)} {s : SV} {x : List α} {h g : Frag}, dj h g → Bag K ss xs h → Arr K s.v x g → Bag K (ss ++ [s]) (xs ++ [x]) (fadd h g)
  | [], [], s, x, h, g, d, hb, ha => by
    have : h = fnil := hb
    subst this
    rw [nil_fadd]
    exact ⟨g, fnil, dj_nil g, (fadd_nil g).symm, ha, rfl⟩
  | s0 :: ss, x0 :: xs, s, x, h, g, d, ⟨h1, h2, d1, e, a, b⟩, ha => by
    subst e
    obtain ⟨d2, d3⟩ := dj_fadd.1 d
    refine ⟨h1, fadd h2 g, dj_fadd'.2 ⟨d1, d2⟩, fadd_assoc _ _ _, a, Bag.snoc d3 b ha⟩
/-- All but the one at i. -/
def Hole {α : Type} (K : EK α) (i : Int) (ss : List SV) (xs : List (List α)) : HP := fun h => ∀ (s : SV) (x : List α) (g : Frag), dj g h → Arr K s.v x g → Bag K (wr ss i s) (wr xs i x) (fadd g h)
theorem Bag.focusN {α : Type} {K : EK α} : ∀ {ss : List SV} {xs : List (List α)} {h : Frag} (i : Nat), i < xs.length → Bag K ss xs h →
    ∃ s x h1 h2, ss[i]? = some s ∧ xs[i]? = some x ∧ dj h1 h2 ∧ h = fadd h1 h2 ∧ Arr K s.v x h1 ∧ ∀ (s' : SV) (x' : List α) (g : Frag), dj g h2 → Arr K s'.v x' g → Bag K (ss.set i s') (xs.set i x') (fadd g h2)
  | [], [], _, i, hi, _ => by simp at hi
  | s :: ss, x :: xs, h, 0, hi, ⟨h1, h2, d, e, a, b⟩ => ⟨s, x, h1, h2, rfl, rfl, d, e, a, fun s' x' g d' a' => ⟨g, h2, d', rfl, a', b⟩⟩
  | s :: ss, x :: xs, h, i + 1, hi, ⟨h1, h2, d, e, a, b⟩ => by
    obtain ⟨s0, x0, g1, g2, e1, e2, d2, rfl, a2, c⟩ := Bag.focusN i (by simpa using hi) b
    subst e
    obtain ⟨d3, d4⟩ := dj_fadd'.1 d
    refine ⟨s0, x0, g1, fadd h1 g2, by simpa using e1, by simpa using e2, dj_fadd'.2 ⟨dj_comm d3, d2⟩, ?_, a2, fun s' x' g d' a' => ?_⟩
    · rw [← fadd_assoc, ← fadd_assoc, fadd_comm d3]
    · obtain ⟨d5, d6⟩ := dj_fadd'.1 d'
      exact ⟨h1, fadd g g2, dj_fadd'.2 ⟨dj_comm d5, d4⟩, by rw [← fadd_assoc, ← fadd_assoc, fadd_comm d5], a, c s' x' g d6 a'⟩
theorem Bag.focus {α : Type} {K : EK α} {ss : List SV} {xs : List (List α)} {h : Frag} {i : Int} (h0 : 0 ≤ i) (h1 : i < xs.length) (b : Bag K ss xs h) : star (Arr K (rd ss i).v (rd xs i)) (Hole K i ss xs) h := by
  obtain ⟨s, x, g1, g2, e1, e2, d, e, a, c⟩ := b.focusN i.toNat (by omega)
  have e3 : rd ss i = s := by simp [rd, List.getD, e1]
  have e4 : rd xs i = x := by simp [rd, List.getD, e2]
  rw [e3, e4]
  exact ⟨g1, g2, d, e, a, fun s' x' g d' a' => c s' x' g d' a'⟩
/-- One is taken out of the bag; one is put in. -/
theorem Pick.focus {α : Type} {K : EK α} {ss : List SV} {xs : List (List α)} {L L' : List HP} (i : Int) (p : Pick (Bag K ss xs) L L') (h0 : 0 ≤ i) (h1 : i < xs.length) : Pick (Arr K (rd ss i).v (rd xs i)) L (Hole K i ss xs :: L') := fun h s => by
  obtain ⟨g1, g2, d, rfl, b, c⟩ := p h s
  obtain ⟨k1, k2, d2, rfl, a, hh⟩ := Bag.focus h0 h1 b
  obtain ⟨d3, d4⟩ := dj_fadd.1 d
  exact ⟨k1, fadd k2 g2, dj_fadd'.2 ⟨d2, d3⟩, fadd_assoc _ _ _, a, k2, g2, d4, rfl, hh, c⟩
theorem Pick.fill {α : Type} {K : EK α} {ss : List SV} {xs : List (List α)} {L L' L'' : List HP} {i : Int} {s : SV} {x : List α} (p : Pick (Hole K i ss xs) L L') (q : Pick (Arr K s.v x) L' L'') : Pick (Bag K (wr ss i s) (wr xs i x)) L L'' := fun h hs => by
  obtain ⟨g1, g2, d, rfl, b, c⟩ := p h hs
  obtain ⟨k1, k2, d2, rfl, a, c2⟩ := q g2 c
  obtain ⟨d3, d4⟩ := dj_fadd'.1 d
  exact ⟨fadd k1 g1, k2, dj_fadd.2 ⟨d2, d4⟩, by rw [← fadd_assoc, fadd_comm d3], b s x k1 (dj_comm d3) a, c2⟩
theorem Pick.snoc {α : Type} {K : EK α} {ss : List SV} {xs : List (List α)} {L L' L'' : List HP} {s : SV} {x : List α} (p : Pick (Bag K ss xs) L L') (q : Pick (Arr K s.v x) L' L'') : Pick (Bag K (ss ++ [s]) (xs ++ [x])) L L'' := fun h hs => by
  obtain ⟨g1, g2, d, rfl, b, c⟩ := p h hs
  obtain ⟨k1, k2, d2, rfl, a, c2⟩ := q g2 c
  obtain ⟨d3, d4⟩ := dj_fadd'.1 d
  exact ⟨fadd g1 k1, k2, dj_fadd.2 ⟨d4, d2⟩, (fadd_assoc _ _ _).symm, Bag.snoc d3 b a, c2⟩
theorem Ent.nilBag {α : Type} {K : EK α} {L M : List HP} {ss : List SV} {xs : List (List α)} (r : Ent L (Bag K ss xs :: M)) : Ent L (Bag K (ss ++ [⟨none, 0, 0⟩]) (xs ++ [[]]) :: M) :=
  Ent.pre (fun g b => by
    have := Bag.snoc (s := nilS) (x := []) (dj_nil g) b (Arr.nil K none)
    rwa [fadd_nil] at this) r
theorem Ent.nilBag2 {α : Type} {K : EK α} {L M : List HP} {ss : List SV} {xs : List (List α)} (r : Ent L (Bag K ss xs :: M)) : Ent L (Bag K (ss ++ [⟨none, 0, 0⟩, ⟨none, 0, 0⟩]) (xs ++ [[], []]) :: M) := by
  have := Ent.nilBag (Ent.nilBag r)
  simpa using this
theorem Ent.bag0 {α : Type} {K : EK α} {L M : List HP} (r : Ent L M) : Ent L (Bag K [] [] :: M) := fun g s => by
  obtain ⟨h, s', l⟩ := r g s
  exact ⟨fadd fnil h, ⟨fnil, h, fun _ => .inl rfl, rfl, rfl, s'⟩, by rw [nil_fadd]; exact l⟩
theorem Ent.bag2 {α : Type} {K : EK α} {L M : List HP} (r : Ent L M) : Ent L (Bag K [⟨none, 0, 0⟩, ⟨none, 0, 0⟩] [[], []] :: M) := Ent.nilBag2 (ss := []) (xs := []) (Ent.bag0 r)
theorem Ent.snocC {α : Type} {K : EK α} {ss : List SV} {xs : List (List α)} {s : SV} {x : List α} {L L' L'' M : List HP} [p : PickC (Bag K ss xs) L L'] [q : PickC (Arr K s.v x) L' L''] (r : Ent L'' M) : Ent L (Bag K (ss ++ [s]) (xs ++ [x]) :: M) :=
  Ent.take (Pick.snoc p.h q.h) r
theorem Ent.fillC {α : Type} {K : EK α} {ss : List SV} {xs : List (List α)} {i : Int} {s : SV} {x : List α} {L L' L'' M : List HP} [p : PickC (Hole K i ss xs) L L'] [q : PickC (Arr K s.v x) L' L''] (r : Ent L'' M) : Ent L (Bag K (wr ss i s) (wr xs i x) :: M) :=
  Ent.take (Pick.fill p.h q.h) r
theorem Run.bagLen {α : Type} {K : EK α} {ss : List SV} {xs : List (List α)} {L' : List HP} (p : Pick (Bag K ss xs) L L') (r : ss.length = xs.length → Run C k e L) : Run C k e L := fun a w h s => by
  obtain ⟨h1, h2, d, _, b, _⟩ := p h s.holds
  exact r b.length a w h s
/-- Rows of their own. -/
def Rows {α : Type} (K : EK α) (ρ : Frag) (ls : List SV) (xs : List (List α)) : Prop := ls.length = xs.length ∧ ∀ i : Int, 0 ≤ i → i < xs.length → In (RArr K (rd ls i).v (rd xs i)) ρ
theorem Rows.mono {α : Type} {K : EK α} {ρ ρ' : Frag} {ls : List SV} {xs : List (List α)} (h : Rows K ρ ls xs) (l : fle ρ ρ') : Rows K ρ' ls xs := ⟨h.1, fun i h0 h1 => (h.2 i h0 h1).mono l⟩
theorem Rows.of_bag {α : Type} {K : EK α} {ρ : Frag} {ls : List SV} {xs : List (List α)} (h : In (Bag K ls xs) ρ) : Rows K ρ ls xs := by
  obtain ⟨g, hg, l⟩ := h
  refine ⟨hg.length, fun i h0 h1 => ?_⟩
  obtain ⟨h2, h3, d, rfl, a, _⟩ := Bag.focus h0 h1 hg
  exact ⟨h2, a.read, fle_trans (le_fadd_left _ _) l⟩
theorem Rows.one {α : Type} {K : EK α} {ρ : Frag} {s : SV} {x : List α} (h : In (RArr K s.v x) ρ) : Rows K ρ [s] [x] := ⟨rfl, fun i h0 h1 => by
  have : i = 0 := by simp at h1; omega
  subst this; exact h⟩
/-! How long an array may be -/
theorem RArr.short {α : Type} {K : EK α} {P : Program} [hK : EKOk P K] {v : Value} {xs : List α} {h : Frag} (r : RArr K v xs h) : (xs.length : Int) ≤ 281474976710656 := by
  have h1 := r.1
  have h2 := hK.b0
  have : xs.length ≤ xs.length * K.b := Nat.le_mul_of_pos_right _ h2
  have e : roomBytes ≤ 281474976710656 := by decide
  omega
theorem Run.short {α : Type} {K : EK α} [hK : EKOk C.P K] {v : Value} {xs : List α} (r : Reads C L (RArr K v xs)) (k' : (xs.length : Int) ≤ 281474976710656 → Run C k e L) : Run C k e L := fun a w h s => by
  obtain ⟨g, hg, l⟩ := r h s.holds s.dj
  exact k' (RArr.short (P := C.P) hg) a w h s
theorem In.short {α : Type} {K : EK α} {P : Program} [hK : EKOk P K] {v : Value} {xs : List α} {ρ : Frag} (h : In (Arr K v xs) ρ) : (xs.length : Int) ≤ 281474976710656 := by
  obtain ⟨g, hg, l⟩ := h
  exact RArr.short (P := P) hg.read
instance : Zer Tryd.prog KInt 0 := ⟨zerOf (i := Tryd.t3) (by kernel_rfl) rfl rfl⟩
instance : Zer Tryd.prog KI8 0 := ⟨zerOf (i := Tryd.t106) (by kernel_rfl) rfl rfl⟩
instance : Zer Tryd.prog KSl ⟨none, 0, 0⟩ := ⟨zerOf (i := Tryd.t26) (by kernel_rfl) rfl rfl⟩
theorem In.read {α : Type} {K : EK α} {v : Value} {xs : List α} {ρ : Frag} (h : In (Arr K v xs) ρ) : In (RArr K v xs) ρ := by
  obtain ⟨g, hg, l⟩ := h
  exact ⟨g, hg.read, l⟩
theorem In.shortR {α : Type} {K : EK α} {P : Program} [hK : EKOk P K] {v : Value} {xs : List α} {ρ : Frag} (h : In (RArr K v xs) ρ) : (xs.length : Int) ≤ 281474976710656 := by
  obtain ⟨g, hg, l⟩ := h
  exact RArr.short (P := P) hg
/-- A slice that is nil has nothing. -/
theorem In.nilR {α : Type} {K : EK α} {s : SV} {xs : List α} {ρ : Frag} (h : In (RArr K s.v xs) ρ) (hn : s.a.isNone = true) : xs = [] := by
  obtain ⟨g, ⟨_, ao, c, hv, _, hx | ⟨g1, off, cur, T, fr, rfl, _⟩⟩, l⟩ := h
  · exact hx
  · simp only [SV.v, Value.slice.injEq] at hv
    rw [hv.1] at hn; cases hn
/-- How long a row of whole numbers, of slices may be. -/
theorem In.fits {α : Type} {K : EK α} {v : Value} {xs : List α} {ρ : Frag} (h : In (RArr K v xs) ρ) : xs.length * K.b ≤ 140737488355328 := by
  obtain ⟨g, hg, l⟩ := h
  exact hg.1
theorem In.i64 {v : Value} {xs : List Int} {ρ : Frag} (h : In (RArr KInt v xs) ρ) : xs.length ≤ 17592186044416 := by
  have := In.fits h
  simp only [EK.b] at this; omega
theorem In.i64' {v : Value} {xs : List Int} {ρ : Frag} (h : In (Arr KInt v xs) ρ) : xs.length ≤ 17592186044416 := In.i64 (In.read h)
theorem Run.fits {α : Type} {K : EK α} {v : Value} {xs : List α} (r : Reads C L (RArr K v xs)) (k' : xs.length * K.b ≤ 140737488355328 → Run C k e L) : Run C k e L := fun a w h s => by
  obtain ⟨g, hg, l⟩ := r h s.holds s.dj
  exact k' hg.1 a w h s
theorem Run.i64 {v : Value} {xs : List Int} (r : Reads C L (RArr KInt v xs)) (k' : xs.length ≤ 17592186044416 → Run C k e L) : Run C k e L :=
  Run.fits r fun h => k' (by simp only [EK.b] at h; omega)
/-- So many different numbers at most. -/
theorem pigeon : ∀ (n : Nat) (l : List Int), l.Nodup → (∀ x ∈ l, 0 < x ∧ x < (n : Int) + 1) → l.length ≤ n
  | 0, l, _, h => by
    cases l with
    | nil => simp
    | cons x l => have := h x (by simp); omega
  | n + 1, l, hn, h => by
    by_cases hm : ((n : Int) + 1) ∈ l
    · have h1 := pigeon n (l.erase ((n : Int) + 1)) (hn.erase _) fun x hx => by
        have h2 := (List.Nodup.mem_erase_iff hn).1 hx
        have h3 := h x h2.2
        have h4 := h2.1
        push_cast at h3
        omega
      rw [List.length_erase_of_mem hm] at h1
      omega
    · have := pigeon n l hn fun x hx => by
        have h3 := h x hx
        have : x ≠ (n : Int) + 1 := fun e => hm (e ▸ hx)
        push_cast at h3
        omega
      omega
/-! Lists -/
theorem rd_wr_eq {α : Type} [Inhabited α] (xs : List α) (i : Int) (y : α) (h0 : 0 ≤ i) (h1 : i < xs.length) : rd (wr xs i y) i = y := by
  have : i.toNat < xs.length := by omega
  simp [rd, wr, this, List.getD]
theorem rd_wr_ne {α : Type} [Inhabited α] (xs : List α) (i j : Int) (y : α) (h0 : 0 ≤ i) (hj : 0 ≤ j) (hne : i ≠ j) : rd (wr xs i y) j = rd xs j := by
  have : i.toNat ≠ j.toNat := by omega
  simp [rd, wr, List.getD, List.getElem?_set_ne this]
theorem rd_app_old {α : Type} [Inhabited α] (xs ys : List α) (i : Int) (h0 : 0 ≤ i) (h1 : i < xs.length) : rd (xs ++ ys) i = rd xs i := by
  have : i.toNat < xs.length := by omega
  simp [rd, List.getD, List.getElem?_append_left this]
theorem rd_app_new {α : Type} [Inhabited α] (xs : List α) (y : α) (i : Int) (h1 : i = xs.length) : rd (xs ++ [y]) i = y := by
  subst h1; simp [rd, List.getD]
theorem take_snoc {α : Type} [Inhabited α] (xs : List α) (i : Int) (h0 : 0 ≤ i) (h1 : i < xs.length) : xs.take (i + 1).toNat = xs.take i.toNat ++ [rd xs i] := by
  rw [show (i + 1).toNat = i.toNat + 1 by omega, List.take_add_one, rd_some h0 h1]; rfl
theorem wr_rd {α : Type} [Inhabited α] (xs : List α) (i : Int) (h0 : 0 ≤ i) (h1 : i < xs.length) : wr xs i (rd xs i) = xs := by
  have : i.toNat < xs.length := by omega
  apply List.ext_getElem?
  intro j
  simp only [wr, rd, List.getElem?_set]
  split
  · rename_i h; subst h; simp [List.getD, this]
  · rfl
end
/-! Shorter words, for what a program writes. -/
section
variable {C : Cx} {ops : Array Oper} {os : List Oper} {plan : Plan} {fl fl' : Fl} {k k' : List Item} {e : Env} {L : List HP} {d : Option Tmp} {dd : Tmp} {ty T : TypeId} {ps : String} {af : Array Edge} {g : Option (Nat × Bool)} {op : Op} {i fi : Nat} {x y : Operand} {v : Value}
theorem lM (r : RunL C ops os k ((dd, v) :: e) L) (hx : ev e x = some v := by rfl) (hd : Nat.blt dd C.n = true := by rfl) : RunL C ops (⟨some dd, .move x, ty, ps, af, none⟩ :: os) k e L := lv (Ymv hx) r hd
theorem lA (r : RunL C ops os k ((dd, v) :: e) L) (hx : ev e x = some v := by rfl) (hd : Nat.blt dd C.n = true := by rfl) : RunL C ops (⟨some dd, .assign x, ty, ps, af, none⟩ :: os) k e L := lv (Yas hx) r hd
theorem lN {p : Addr} (r : RunL C ops os k ((dd, .pointer (some p)) :: e) L) (hx : ev e x = some (.pointer (some p)) := by rfl) (hd : Nat.blt dd C.n = true := by rfl) : RunL C ops (⟨some dd, .nilCheck x, ty, ps, af, none⟩ :: os) k e L := lv (Ync hx) r hd
theorem lG (r : RunL C ops os k ((dd, v) :: e) L) (hy : Yields C ⟨some dd, .fieldAddr T x fi, ty, ps, af, none⟩ e L v := by first | exact YfB | exact YfE) (hd : Nat.blt dd C.n = true := by rfl) : RunL C ops (⟨some dd, .fieldAddr T x fi, ty, ps, af, none⟩ :: os) k e L := lv hy r hd
theorem lL (r : RunL C ops os k ((dd, v) :: e) L) (hy : Yields C ⟨some dd, .load T x, ty, ps, af, none⟩ e L v := by first | exact YlC | exact YlE) (hd : Nat.blt dd C.n = true := by rfl) : RunL C ops (⟨some dd, .load T x, ty, ps, af, none⟩ :: os) k e L := lv hy r hd
theorem lX (r : RunL C ops os k ((dd, v) :: e) L) (hy : Yields C ⟨some dd, .indexAddr T x y, ty, ps, af, none⟩ e L v := by exact Yix) (hd : Nat.blt dd C.n = true := by rfl) : RunL C ops (⟨some dd, .indexAddr T x y, ty, ps, af, none⟩ :: os) k e L := lv hy r hd
theorem lE (r : RunL C ops os k ((dd, v) :: e) L) (hy : Yields C ⟨some dd, .call ⟨.builtin .len, #[x], #[T]⟩, ty, ps, af, none⟩ e L v := by exact Yln) (hd : Nat.blt dd C.n = true := by rfl) : RunL C ops (⟨some dd, .call ⟨.builtin .len, #[x], #[T]⟩, ty, ps, af, none⟩ :: os) k e L := lv hy r hd
theorem dM (hi : ops[i]? = some ⟨some dd, .move x, ty, ps, af, none⟩) (r : RunD C ops plan ((i, v) :: fl) k ((dd, v) :: e) L) (hx : ev e x = some v := by rfl) (hd : Nat.blt dd C.n = true := by rfl) : RunD C ops (.take i plan) fl k e L := dv hi (Ymv hx) r hd
theorem dA (hi : ops[i]? = some ⟨some dd, .assign x, ty, ps, af, none⟩) (r : RunD C ops plan ((i, v) :: fl) k ((dd, v) :: e) L) (hx : ev e x = some v := by rfl) (hd : Nat.blt dd C.n = true := by rfl) : RunD C ops (.take i plan) fl k e L := dv hi (Yas hx) r hd
theorem dN {p : Addr} (hi : ops[i]? = some ⟨some dd, .nilCheck x, ty, ps, af, none⟩) (r : RunD C ops plan ((i, .pointer (some p)) :: fl) k ((dd, .pointer (some p)) :: e) L) (hx : ev e x = some (.pointer (some p)) := by rfl) (hd : Nat.blt dd C.n = true := by rfl) : RunD C ops (.take i plan) fl k e L := dv hi (Ync hx) r hd
theorem dG (hi : ops[i]? = some ⟨some dd, .fieldAddr T x fi, ty, ps, af, none⟩) (r : RunD C ops plan ((i, v) :: fl) k ((dd, v) :: e) L) (hy : Yields C ⟨some dd, .fieldAddr T x fi, ty, ps, af, none⟩ e L v := by first | exact YfB | exact YfE) (hd : Nat.blt dd C.n = true := by rfl) : RunD C ops (.take i plan) fl k e L := dv hi hy r hd
theorem dL (hi : ops[i]? = some ⟨some dd, .load T x, ty, ps, af, none⟩) (r : RunD C ops plan ((i, v) :: fl) k ((dd, v) :: e) L) (hy : Yields C ⟨some dd, .load T x, ty, ps, af, none⟩ e L v := by first | exact YlC | exact YlE) (hd : Nat.blt dd C.n = true := by rfl) : RunD C ops (.take i plan) fl k e L := dv hi hy r hd
theorem dX (hi : ops[i]? = some ⟨some dd, .indexAddr T x y, ty, ps, af, none⟩) (r : RunD C ops plan ((i, v) :: fl) k ((dd, v) :: e) L) (hy : Yields C ⟨some dd, .indexAddr T x y, ty, ps, af, none⟩ e L v := by exact Yix) (hd : Nat.blt dd C.n = true := by rfl) : RunD C ops (.take i plan) fl k e L := dv hi hy r hd
theorem dE (hi : ops[i]? = some ⟨some dd, .call ⟨.builtin .len, #[x], #[T]⟩, ty, ps, af, none⟩) (r : RunD C ops plan ((i, v) :: fl) k ((dd, v) :: e) L) (hy : Yields C ⟨some dd, .call ⟨.builtin .len, #[x], #[T]⟩, ty, ps, af, none⟩ e L v := by exact Yln) (hd : Nat.blt dd C.n = true := by rfl) : RunD C ops (.take i plan) fl k e L := dv hi hy r hd
theorem sM (hi : ops[i]? = some ⟨some dd, .move x, ty, ps, af, none⟩) (r : Still C ops fl e L) (hx : ev e x = some v := by rfl) : Still C ops ((i, v) :: fl) e L := sv hi (Ymv hx) r
theorem sA (hi : ops[i]? = some ⟨some dd, .assign x, ty, ps, af, none⟩) (r : Still C ops fl e L) (hx : ev e x = some v := by rfl) : Still C ops ((i, v) :: fl) e L := sv hi (Yas hx) r
theorem sN (hi : ops[i]? = some ⟨some dd, .nilCheck x, ty, ps, af, none⟩) (r : Still C ops fl e L) (hy : Yields C ⟨some dd, .nilCheck x, ty, ps, af, none⟩ e L v := by exact Ync) : Still C ops ((i, v) :: fl) e L := sv hi hy r
theorem sG (hi : ops[i]? = some ⟨some dd, .fieldAddr T x fi, ty, ps, af, none⟩) (r : Still C ops fl e L) (hy : Yields C ⟨some dd, .fieldAddr T x fi, ty, ps, af, none⟩ e L v := by first | exact YfB | exact YfE) : Still C ops ((i, v) :: fl) e L := sv hi hy r
theorem sL (hi : ops[i]? = some ⟨some dd, .load T x, ty, ps, af, none⟩) (r : Still C ops fl e L) (hy : Yields C ⟨some dd, .load T x, ty, ps, af, none⟩ e L v := by first | exact YlC | exact YlE) : Still C ops ((i, v) :: fl) e L := sv hi hy r
theorem sX (hi : ops[i]? = some ⟨some dd, .indexAddr T x y, ty, ps, af, none⟩) (r : Still C ops fl e L) (hy : Yields C ⟨some dd, .indexAddr T x y, ty, ps, af, none⟩ e L v := by exact Yix) : Still C ops ((i, v) :: fl) e L := sv hi hy r
theorem sE (hi : ops[i]? = some ⟨some dd, .call ⟨.builtin .len, #[x], #[T]⟩, ty, ps, af, none⟩) (r : Still C ops fl e L) (hy : Yields C ⟨some dd, .call ⟨.builtin .len, #[x], #[T]⟩, ty, ps, af, none⟩ e L v := by exact Yln) : Still C ops ((i, v) :: fl) e L := sv hi hy r
end
theorem G1 {C : Cx} {x y : Code} {k : List Item} {e : Env} {L : List HP} (r : Run C (.code x :: .code y :: k) e L) : Run C (.code (.seq x y) :: k) e L := Run.seq r
theorem G2 {C : Cx} {k : List Item} {e : Env} {L : List HP} (r : Run C k e L) : Run C (.code .skip :: k) e L := Run.skip r
theorem G3 {C : Cx} {id : Nat} {c : Code} {k : List Item} {e : Env} {L : List HP} (r : Run C (.code c :: .inBlock id :: k) e L) : Run C (.code (.block id c) :: k) e L := Run.block r
theorem G4 {C : Cx} {id : Nat} {k : List Item} {e : Env} {L : List HP} (r : Run C k e L) : Run C (.inBlock id :: k) e L := Run.inBlock r
theorem G5 {C : Cx} {id : Nat} {k k' : List Item} {e : Env} {L : List HP} (hk : exitTo id k = some k') (r : Run C k' e L) : Run C (.code (.exit id) :: k) e L := Run.exit hk r
theorem G6 {C : Cx} {c : Operand} {x y : Code} {k : List Item} {e : Env} {L : List HP} (hc : ev e c = some (.bool true)) (r : Run C (.code x :: k) e L) : Run C (.code (.cond c x y) :: k) e L := Run.condT hc r
theorem G7 {C : Cx} {c : Operand} {x y : Code} {k : List Item} {e : Env} {L : List HP} (hc : ev e c = some (.bool false)) (r : Run C (.code y :: k) e L) : Run C (.code (.cond c x y) :: k) e L := Run.condF hc r
theorem R0 {C : Cx} {id : Nat} {l : List Oper} {k : List Item} {e : Env} {L : List HP} (r : RunL C l.toArray l k e L) : Run C (.code (.region id l.toArray false) :: k) e L := Run.region r
theorem R1 {C : Cx} {ops : Array Oper} {k : List Item} {e : Env} {L : List HP} (r : Run C k e L) : RunL C ops [] k e L := RunL.nil r
section
variable {C : Cx} {ops : Array Oper} {plan : Plan} {fl : Fl} {k : List Item} {e : Env} {L : List HP} {i : Nat}
theorem R2 (r : Run C k e L) : RunD C ops .done fl k e L := RunD.done r
theorem R3 (ha : RunA C ops i plan fl k e L) : RunD C ops (.alt i plan .nomore) fl k e L := RunD.one ha
end
theorem E1 {p : Prop} {L M : List HP} (h : Ent L M) (hp : p) : Ent L (pu p :: M) := entPus h hp
theorem E2 {α : Type} {K : EK α} {L M : List HP} (r : Ent L M) : Ent L (Arr K nilS.v [] :: M) := Ent.nilA r
theorem E3 {A : HP} {L L' M : List HP} [p : PickC A L L'] (r : Ent L' M) : Ent L (A :: M) := Ent.takeC r
theorem E4 {α : Type} {K : EK α} {L M : List HP} {ss : List SV} {xs : List (List α)} (r : Ent L (Bag K ss xs :: M)) : Ent L (Bag K (ss ++ [⟨none, 0, 0⟩, ⟨none, 0, 0⟩]) (xs ++ [[], []]) :: M) := Ent.nilBag2 r
theorem E5 {α : Type} {K : EK α} {L M : List HP} (r : Ent L M) : Ent L (Bag K [] [] :: M) := Ent.bag0 r
theorem E6 {α : Type} {K : EK α} {L M : List HP} (r : Ent L M) : Ent L (Bag K [⟨none, 0, 0⟩, ⟨none, 0, 0⟩] [[], []] :: M) := Ent.bag2 r
theorem E7 {α : Type} {K : EK α} {ss : List SV} {xs : List (List α)} {s : SV} {x : List α} {L L' L'' M : List HP} [p : PickC (Bag K ss xs) L L'] [q : PickC (Arr K s.v x) L' L''] (r : Ent L'' M) : Ent L (Bag K (ss ++ [s]) (xs ++ [x]) :: M) := Ent.snocC r
theorem E8 {α : Type} {K : EK α} {ss : List SV} {xs : List (List α)} {i : Int} {s : SV} {x : List α} {L L' L'' M : List HP} [p : PickC (Hole K i ss xs) L L'] [q : PickC (Arr K s.v x) L' L''] (r : Ent L'' M) : Ent L (Bag K (wr ss i s) (wr xs i x) :: M) := Ent.fillC r
theorem E9 {L : List HP} : Ent L [] := Ent.done
end Go.Proofs.YtfldnnpcdjabnaaDoor
