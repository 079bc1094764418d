/-
  What the rows' cell 'laid' gives: api's errors, each in its variable, each at a place of its own. And the way from a contract to a call.
-/
import Derived.Test.YtfldnnpcdjabnaaDoorWalk
import Derived.Stop.LaidErr
import Derived.Test.YtfldnnpcdjabnaaDoorRows
set_option linter.unusedVariables false
set_option linter.unusedSimpArgs false
namespace Go.Proofs.YtfldnnpcdjabnaaDoor
open Go Go.RowKit Go.ChangeShapes

def sentL (x : String × List UInt8) : String × DataW Unit := (x.1, .iface "*errors.errorString" (.ptr (.agg [.lit (.string x.2)])))
/-- The variable g holds the error at a. -/
def Held (P : Program) (W : World) (tp : TypeId) (n : String) (a : Addr) : Prop := ∃ g cs T fr, P.globalNamed n = some g ∧ W.heap[g]? = some (.cells cs T fr) ∧ cs[0]? = some (.iface tp (.pointer (some a))) ∧ ∃ c T', W.heap[a.block]? = some (.cells c T' (0, 0))
theorem sents_of {P : Program} {W : World} {ti tp te ts : TypeId} {ms : Array (String × TypeId)} {f : Field} (hi : P.underlying ti = some (.interface ms)) (hrow : ∀ u, P.typeName? 3 u = some "*errors.errorString" → u = tp)
    (hp : P.underlying tp = some (.pointer te)) (he : P.underlying te = some (.struct #[f])) (hft : f.type = ts) (hfo : f.offset = 0) (hs : P.underlying ts = some .string) (hc : P.cellsOf te = 1) (hcs : P.cellsOf ts = 1) :
    ∀ (l : List (String × List UInt8)) (ps : List MemPlace), (∀ x ∈ l, ∃ g, P.globalNamed x.1 = some g ∧ (P.globals[g]?).map (·.type) = some ti) → DataW.LaidVars P W (l.map sentL) ps → ps.Nodup →
      (∀ b off, MemPlace.cell b off ∈ ps → (∃ c t, W.heap[b]? = some (.cells c t (0, 0))) ∧ ∀ u v, W.cell? ⟨b, off, none⟩ = some (.iface u v) → Value.okWide P W .any 0 u v) →
      ∃ az : List Addr, az.length = l.length ∧ (∀ (i : Nat) (x : String × List UInt8) (a : Addr), l[i]? = some x → az[i]? = some a → Held P W tp x.1 a) ∧ az.Nodup ∧ ∀ a ∈ az, ∀ p ∈ MemPlace.row a 1, p ∈ ps
  | [], ps, _, _, _, _ => ⟨[], rfl, fun i x a h => by simp at h, List.nodup_nil, fun a h => by cases h⟩
  | x :: l, ps, hg, ⟨g, t, cs, fuel, p, q, hgn, hgt, hv, hd, hq, e⟩, hnd, hrows => by
    subst e
    obtain ⟨g', e1, e2⟩ := hg x (List.mem_cons_self ..)
    obtain rfl := Option.some.inj (e1.symm.trans hgn)
    obtain rfl := Option.some.inj (e2.symm.trans hgt)
    obtain ⟨l0⟩ := cs
    have ok0 : ∀ u v, l0 = [.iface u v] → Value.okWide P W .any 0 u v := fun u v e => by
      subst e
      exact (hrows g' 0 (by simp [MemPlace.row])).2 u v (by simpa using World.var?_cell hgn hv 0)
    obtain ⟨a, s, rfl, hca, hsa, hza, rfl⟩ := errorString_of_trod hi hrow hp he hft hfo hs hc hcs hd ok0
    have hnd' := List.nodup_append.1 hnd
    have hnd2 := hnd'.1
    obtain ⟨az, h1, h2, h3, h4⟩ := sents_of hi hrow hp he hft hfo hs hc hcs l q (fun y hy => hg y (List.mem_cons_of_mem _ hy)) hq hnd'.2.1 (fun b off hm => hrows b off (List.mem_append_right _ hm))
    have hmem : MemPlace.cell a.block a.off ∈ MemPlace.row a 1 := by simp [MemPlace.row]
    refine ⟨a :: az, by simp [h1], fun i y b hy hb => ?_, List.nodup_cons.2 ⟨fun hin => ?_, h3⟩, fun b hb p hpp => ?_⟩
    · cases i with
      | zero =>
        simp only [List.getElem?_cons_zero, Option.some.injEq] at hy hb
        subst hy; subst hb
        have hcell := World.var?_cell hgn hv 0
        obtain ⟨c, T, hh⟩ := (hrows a.block a.off (List.mem_append_left _ (List.mem_append_right _ hmem))).1
        obtain ⟨c2, T2, hh2⟩ := (hrows g' 0 (by simp [MemPlace.row])).1
        refine ⟨g', c2, T2, _, hgn, hh2, ?_, c, T, hh⟩
        simpa [World.cell?, hh2] using hcell
      | succ i => exact h2 i y b (by simpa using hy) (by simpa using hb)
    · have := h4 a hin _ hmem
      exact hnd'.2.2 _ (List.mem_append_right _ hmem) _ this rfl
    · rcases List.mem_cons.1 hb with rfl | hb
      · exact List.mem_append_left _ (List.mem_append_right _ hpp)
      · exact List.mem_append_right _ (h4 b hb p hpp)
end Go.Proofs.YtfldnnpcdjabnaaDoor
