/-
  lits.order; slices.SortFunc by it.
-/
import Derived.Test.YtfldnnpcdjabnaaDoorSort1
import Derived.Test.YtfldnnpcdjabnaaDoorShelf
import Derived.Shelf.SlSortCmp.NoneTotal
set_option linter.unusedVariables false
set_option linter.unusedSimpArgs false
namespace Go.Proofs.YtfldnnpcdjabnaaDoor
open Go Go.Sort Go.Shelf Go.RowKit
def ordLt (a b : Int) : Prop := max a (-a) < max b (-b) ∨ (max a (-a) = max b (-b) ∧ a < b)
def ordLe (a b : Int) : Prop := max a (-a) < max b (-b) ∨ (max a (-a) = max b (-b) ∧ a ≤ b)
def ordF (a b : Int) : Int := if cmpI (max a (-a)) (max b (-b)) = 0 then cmpI a b else cmpI (max a (-a)) (max b (-b))
def Tame (x : Int) : Prop := -9223372036854775807 ≤ x ∧ x ≤ 9223372036854775807
section
attribute [local irreducible] Yields Does Run RunL AnyL Ct Reads Peek PeekN Poke Pick Fits Sub Ent Still Arr RArr Cells el stars In
theorem order_ct (ρ : Frag) (a b : Int) (ha : Tame a) (hb : Tame b) : Ct Tryd.prog 72 [int a, int b] ρ [] (fun r => [pu (r = int (ordF a b))]) := by
  (refine Ct.of_run Tryd.func72 rfl Tryd.ntmps72 rfl (Nat.le_of_ble_eq_true rfl) ?_)
  (repeat first | refine G1 ?_ | refine G2 ?_ | refine G3 ?_ | refine G4 ?_ | refine G5 rfl ?_ | refine G6 rfl ?_ | refine G7 rfl ?_)
  (focus (refine R0 ?_; refine lA ?_; refine R1 ?_; rotate_left))

  (repeat first | refine G1 ?_ | refine G2 ?_ | refine G3 ?_ | refine G4 ?_ | refine G5 rfl ?_ | refine G6 rfl ?_ | refine G7 rfl ?_)
  (focus (refine R0 ?_; refine lM ?_; refine lc [] rfl rfl (fun _ hle hA => var_ct _ a ha.1 ha.2) ?_; intro v6; (try dsimp only [List.cons_append, List.nil_append, List.append_nil]); (repeat (refine RunL.unpu fun h6 => ?_; try subst h6)); refine lM ?_; refine lc [] rfl rfl (fun _ hle hA => var_ct _ b hb.1 hb.2) ?_; intro v8; (try dsimp only [List.cons_append, List.nil_append, List.append_nil]); (repeat (refine RunL.unpu fun h8 => ?_; try subst h8)); refine lc [] rfl rfl (fun _ hle hA => compare_ct _ (max a (-a)) (max b (-b))) ?_; intro v9; (try dsimp only [List.cons_append, List.nil_append, List.append_nil]); (repeat (refine RunL.unpu fun h9 => ?_; try subst h9)); refine lM ?_; refine lM ?_; refine lc [] rfl rfl (fun _ hle hA => compare_ct _ a b) ?_; intro v12; (try dsimp only [List.cons_append, List.nil_append, List.append_nil]); (repeat (refine RunL.unpu fun h12 => ?_; try subst h12)); refine leS (by exact Db2) ?_; intro v13; (try dsimp only [List.cons_append, List.nil_append, List.append_nil]); refine lc [Arr KInt v13.v [cmpI (max a (-a)) (max b (-b)), cmpI a b]] rfl rfl (fun _ hle hA => or_ct _ v13 _ _ hA.stars_one.read) ?_; intro v14; (try dsimp only [List.cons_append, List.nil_append, List.append_nil]); (repeat (refine RunL.unpu fun h14 => ?_; try subst h14)); refine lA ?_; refine R1 ?_; rotate_left))

  (repeat first | refine G1 ?_ | refine G2 ?_ | refine G3 ?_ | refine G4 ?_ | refine G5 rfl ?_ | refine G6 rfl ?_ | refine G7 rfl ?_)
  (refine Run.ret1 Tryd.results72 (by rfl) ?_)
  (focus ((repeat first | refine E1 ?_ ?_ | refine E2 ?_ | refine E3 ?_ | refine E4 ?_ | refine E5 ?_ | refine E6 ?_ | refine E7 ?_ | refine E8 ?_); exact E9; all_goals try first | rfl | assumption | omega))
end
/-- A world in which nothing but new blocks and draws came. -/
theorem grow_of_evo {w w' : World} {h' : Frag} (n : Evo fnil w w' h') : ∃ q os, w' = grow (w.drewN q) os := by
  refine ⟨w'.drawn - w.drawn, w'.heap.extract w.heap.size w'.heap.size, ?_⟩
  have hh : w'.heap = w.heap ++ w'.heap.extract w.heap.size w'.heap.size := by
    apply Array.ext_getElem?
    intro i
    rw [Array.getElem?_append]
    split
    · rename_i hi; exact n.same i hi rfl
    · rename_i hi
      rw [Array.getElem?_extract]
      split
      · congr 1; omega
      · rw [Array.getElem?_eq_none]; omega
  have hd : w'.drawn = w.drawn + (w'.drawn - w.drawn) := by have := n.drawn; omega
  have e1 := n.os
  have e2 := n.out
  have e3 := n.tape
  cases w'
  cases w
  simp only [grow, World.drewN] at *
  simp only [World.mk.injEq]
  exact ⟨hh, e3, hd, e1, e2⟩
abbrev TI := { x : Int // Tame x }
instance : Inhabited TI := ⟨⟨0, by decide, by decide⟩⟩
abbrev encT (a : TI) : Value := .int .i64 a.1
abbrev ordT (a b : TI) : Int := ordF a.1 b.1
instance (a b : Int) : Decidable (ordLt a b) := by unfold ordLt; infer_instance
theorem ordF_lt (a b : Int) : ordF a b < 0 ↔ ordLt a b := by
  simp only [ordF, cmpI, ordLt]
  by_cases h1 : max a (-a) < max b (-b)
  · simp [h1]
  · by_cases h2 : max b (-b) < max a (-a)
    · simp [h1, h2]; omega
    · by_cases h3 : a < b
      · simp [h1, h2, h3]; omega
      · by_cases h4 : b < a
        · simp [h1, h2, h3, h4]
        · simp [h1, h2, h3, h4]
theorem ltT (a b : TI) : Go.Proofs.ltOf ordT a b = decide (ordLt a.1 b.1) := by
  unfold Go.Proofs.ltOf
  exact decide_eq_decide.2 (ordF_lt a.1 b.1)
theorem swoT : Go.Sort.SWO (Go.Proofs.ltOf ordT) where
  irrefl x := by rw [ltT]; simp [ordLt]
  trans x y z h1 h2 := by
    have a := of_decide_eq_true ((ltT x y).symm.trans h1)
    have b := of_decide_eq_true ((ltT y z).symm.trans h2)
    rw [ltT]
    refine decide_eq_true ?_
    simp only [ordLt] at *; omega
  ntrans x y z h1 h2 := by
    have a := of_decide_eq_false ((ltT x y).symm.trans h1)
    have b := of_decide_eq_false ((ltT y z).symm.trans h2)
    rw [ltT]
    refine decide_eq_false ?_
    simp only [ordLt] at *; omega
theorem sort_ct (ρ : Frag) (s : SV) (xs : List Int) (hb : ∀ x ∈ xs, Tame x) :
    Ct Tryd.prog 71 [s.v, .func (.func 72) #[] #[]] ρ [Arr KInt s.v xs] (fun r => [hex fun ys : List Int => stars [pu (ys.Perm xs ∧ ys.Pairwise ordLe), Arr KInt s.v ys]]) := by
  intro w h hs hl hρ hd
  obtain ⟨h1, h2, d12, rfl, ha, rfl⟩ := hs
  rw [fadd_nil] at hl hd ⊢
  have done : ∀ (w' : World) (ys : List Int) (g : Frag), ys.Perm xs → ys.Pairwise ordLe → Arr KInt s.v ys g → fle g (hp w') → Evo h1 w w' g →
      ∃ h', stars ((fun r : Value => [hex fun ys : List Int => stars [pu (ys.Perm xs ∧ ys.Pairwise ordLe), Arr KInt s.v ys]]) (.tuple #[])) h' ∧ fle h' (hp w') ∧ Evo h1 w w' h' := by
    intro w' ys g hp ho ha hl n
    refine ⟨g, star_emp.2 ⟨ys, ?_⟩, hl, n⟩
    exact ⟨fnil, g, dj_comm (dj_nil _), (nil_fadd _).symm, ⟨⟨hp, ho⟩, rfl⟩, star_emp.2 ha⟩
  have none : ∀ (p : Option Addr) (cap : Nat), xs = [] → s.v = .slice p 0 cap → Calls Tryd.prog 71 [s.v, .func (.func 72) #[] #[]].toArray w fun
      | .returned v, w' => ∃ h', stars ((fun r : Value => [hex fun ys : List Int => stars [pu (ys.Perm xs ∧ ys.Pairwise ordLe), Arr KInt s.v ys]]) v) h' ∧ fle h' (hp w') ∧ Evo h1 w w' h'
      | .panicked _, _ => False
      | .outgrown, _ => False := by
    intro p cap hx hv
    have hS := AnyF.slices_SortFunc_none (P := Tryd.prog) (ρ := Tryd.sortL_ren) { Tryd.sortL with } p cap (.func (.func 72) #[] #[]) w
    change Calls Tryd.prog 71 _ _ _ at hS
    rw [hv]
    refine hS.mono fun e w' ⟨he, hw⟩ => ?_
    subst he; subst hw
    rw [← hv]
    exact done w' xs h1 (List.Perm.refl _) (by subst hx; exact List.Pairwise.nil) ha hl (Evo.refl _ _)
  by_cases hx : xs = []
  · rcases ha with ⟨_, _, ao, hv⟩ | ⟨gg, cap, cur, hv, _⟩
    · exact none ao 0 hx hv
    · subst hx; exact none _ cap rfl hv
  · rcases ha with ⟨e, _⟩ | ⟨gg, cap, cur, hv, c1, c2, c3, c4, rfl⟩
    · exact absurd e hx
    · have hg : w.heap[gg]? = some (.cells cur.toArray 3 (0, 0)) := hl gg _ (by simp [fone])
      let d : Array TI := (xs.attach.map fun x => (⟨x.1, hb x.1 x.2⟩ : TI)).toArray
      have hdl : d.toList.map (·.1) = xs := by simp [d, List.map_map, Function.comp_def]
      have hds : d.size = xs.length := by simp [d]
      have hflat : flat KInt xs = xs.map (Value.int .i64) := (List.map_eq_flatMap ..).symm
      have hcur : ∀ j, j < xs.length → cur[j]? = some (encT d[j]!) := fun j hj => by
        have h1 : (flat KInt xs)[j]? = cur[j]? := by
          rw [← c4, List.getElem?_take, if_pos (by simpa using hj)]
        rw [← h1, hflat, List.getElem?_map]
        have h2 : xs[j]? = some d[j]!.1 := by
          rw [getElem!_pos d j (by omega)]
          simp [d]
        rw [h2]; rfl
      have hH : Go.Sort.Holds encT w gg 0 d := fun j hj => by
        rw [Nat.zero_add]
        refine ⟨?_, by simp [World.frozen?, hg]⟩
        simp only [World.cell?, hg]
        simpa using hcur j (by omega)
      have hgl : gg < w.heap.size := (Array.getElem?_eq_some_iff.1 hg).1
      have h64 : xs.length * 8 ≤ 140737488355328 := c2
      have hcmp : CmpLays1 Tryd.prog 72 #[] encT ordT gg 0 d.size w := fun m os dk hsz x y => by
        have h := order_ct fnil x.1 y.1 x.2 y.2 (sortWorld encT w gg 0 m dk os) fnil rfl (fnil_le _) (fnil_le _) (dj_nil _)
        refine h.mono fun e w' q => ?_
        cases e with
        | returned v =>
          obtain ⟨h', hs, _, n⟩ := q
          obtain ⟨_, _, _, _, ⟨rfl, _⟩, _⟩ := hs
          exact ⟨rfl, grow_of_evo n⟩
        | panicked ch => exact q.elim
        | outgrown => exact q.elim
      have eg : ∀ args w, (callFunc 72 args).run Tryd.prog w = .ok (.enter 72 args) w := fun args w => (inferInstance : CallOk Tryd.prog 72).h args w
      have hS := Any.slices_SortFunc Tryd.sortL encT (fun _ => rfl) ordT swoT 72 #[] gg 0 cap d w eg hcmp hH hgl (by omega)
      change Calls Tryd.prog 71 _ _ _ at hS
      rw [hds] at hS
      rw [hv]
      refine hS.mono fun e w' ⟨he, d', n, os, hperm, hsort, hw⟩ => ?_
      subst he
      rw [← hv]
      have hd's : d'.size = xs.length := hperm.1.trans hds
      have hheap : w'.heap = w.heap.modify gg (onCells (putCells encT 0 d')) ++ os := by rw [hw]; rfl
      let cur' := (putCells encT 0 d' cur.toArray).toList
      have hcl : cur'.length = cur.length := by simp [cur', putCells]
      have hgg : w'.heap[gg]? = some (.cells cur'.toArray 3 (0, 0)) := by
        rw [hheap, Array.getElem?_append_left (by simpa using hgl), Array.getElem?_modify, if_pos rfl, hg]
        simp [onCells, cur']
      have hother : ∀ b, b < w.heap.size → b ≠ gg → w'.heap[b]? = w.heap[b]? := fun b hb hne => by
        rw [hheap, Array.getElem?_append_left (by simpa using hb), Array.getElem?_modify, if_neg (Ne.symm hne)]
      have hyl : (d'.toList.map (·.1)).length = xs.length := by simp [hd's]
      refine done w' (d'.toList.map (·.1)) (fone gg (.cells cur'.toArray 3 (0, 0))) ?_ ?_ ?_ (fone_le hgg) ?_
      · obtain ⟨_, _, hp⟩ := hperm
        have e1 : d'.extract 0 xs.length = d' := by rw [← hd's]; exact Array.extract_size
        have e2 : d.extract 0 xs.length = d := by rw [← hds]; exact Array.extract_size
        rw [e1, e2] at hp
        have := hp.map (fun x : TI => x.1)
        rwa [hdl] at this
      · refine List.pairwise_iff_getElem.2 fun i j hi hj hij => ?_
        have hi' : i < d'.size := by simpa using hi
        have hj' : j < d'.size := by simpa using hj
        have := hsort i j (Nat.zero_le _) hij (by omega)
        rw [ltT, getElem!_pos d' i hi', getElem!_pos d' j hj'] at this
        have := of_decide_eq_false this
        simp only [List.getElem_map, Array.getElem_toList]
        simp only [ordLt, ordLe] at *
        omega
      · refine .inr ⟨gg, cap, cur', by rw [hyl, hv], by rw [hyl]; exact c1, by rw [hyl]; exact c2, by rw [hcl]; exact c3, ?_, rfl⟩
        rw [hyl]
        have hflat2 : flat KInt (d'.toList.map (·.1)) = d'.toList.map encT := by
          have : ∀ l : List TI, flat KInt (l.map (·.1)) = l.map encT := fun l => by
            induction l with
            | nil => rfl
            | cons a l ih => simp only [List.map_cons, flat, List.flatMap_cons] at ih ⊢; rw [ih]; rfl
          exact this _
        rw [hflat2]
        apply List.ext_getElem?
        intro j
        simp only [Nat.mul_one]
        rw [List.getElem?_take]
        have hc3 : xs.length ≤ cur.length := by have := c3; simp only [Nat.mul_one] at this; omega
        by_cases hj : j < xs.length
        · rw [if_pos hj, List.getElem?_map]
          have : (putCells encT 0 d' cur.toArray)[j]? = some (encT d'[j]!) := by
            simp only [putCells, Array.getElem?_mapIdx]
            rw [Array.getElem?_eq_getElem (by simp; omega)]
            simp only [Option.map_some, Nat.zero_le, true_and, Nat.zero_add, Nat.sub_zero]
            rw [if_pos (by omega)]
          rw [show cur'[j]? = (putCells encT 0 d' cur.toArray)[j]? by simp [cur'], this, getElem!_pos d' j (by omega)]
          simp [List.getElem?_eq_getElem, hd's, hj]
        · rw [if_neg hj, List.getElem?_eq_none (by simp; omega)]
      · refine ⟨by rw [hheap]; simp, fun b hb' hn => ?_, fun b hb' => ?_, by rw [hw]; rfl, by rw [hw]; rfl, by rw [hw]; rfl, by rw [hw]; exact Nat.le_add_right _ _⟩
        · refine hother b hb' fun e => ?_
          subst e; simp [fone] at hn
        · left; unfold fone at hb' ⊢
          split at hb' <;> simp_all
end Go.Proofs.YtfldnnpcdjabnaaDoor
