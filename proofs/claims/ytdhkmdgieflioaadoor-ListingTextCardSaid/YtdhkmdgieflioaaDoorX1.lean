/- Texts of this claim: contracts of functions that the law reaches, and plain lemmas. -/
import Derived.OrdersHeld
import Derived.Deep.RegionHeld3
import Derived.Laws.BitsLemmas
import Derived.RowKit
import Derived.Laws.StructEq
import Derived.Test.YtdhkmdgieflioaaDoorProg
import Derived.Below
import Derived.Deep.Draws
import Derived.Deep.AppendLies
import Derived.Maps.AppendAt
import Derived.OwnWalk
import Derived.Laws.BytesArg
import Derived.Laws.MakeOwn
import Derived.Laws.OwnMore
import Derived.Deep.OwnRows
import Derived.Tactics
import Derived.Lib.ConvBytes
import Derived.Laws.Slices
import Derived.WalkKit
import Derived.KernelRfl
import Derived.RowKit3
import Derived.Deep.LoopGhost
import Derived.Deep.QuietTactic
import Derived.BigQuiet
import Derived.WideLaws
import Derived.Deep.DeepCutAuto
import Derived.Deep.CutBlock
import Derived.Laws.Rows
import Derived.Lib.AppendStr
import Derived.ArgAppend
import Derived.Laws.IdiomCopy
import Derived.Lib.SmallJoins
import Derived.Lib.LaidTab
import Derived.Shelf.LaysM
import Derived.Lib.ItoaMem
import Derived.ChangeShapes
import Derived.ChangeSlices
import Derived.Carry
import Derived.Shelf.Strings.Builder1
import Derived.Shelf.Strings.Builder2
import Derived.Shelf.Strings.OnBuilder
import Derived.Shelf.Small.Strs
import Derived.Shelf.Small.Wraps
import Derived.Shelf.Strings.BuilderF
import Derived.Shelf.Strings.BuilderK
import Derived.Shelf.Strings.Builder2Cap
import Derived.Shelf.Strconv.Itoa0
import Derived.Shelf.Strconv.Itoa1
import Derived.Shelf.Strconv.Itoa2
import Derived.Shelf.Strconv.Itoa3
import Derived.Shelf.Strings.Search1
import Derived.Shelf.Sort.Plain
import Derived.Shelf.Strings.Prefix
import Derived.Shelf.Strings.BuilderCap
import Derived.Shelf.Slices.In.SortNone
import Derived.Outline
import Derived.WalkLawsBesides
import Derived.WalkSpells
import Derived.RegionTactic
import Derived.Lib.OthersKept
import Derived.Laws.RangeString
import Derived.Lib.AppendIntMem
import Derived.Lib.ItoaLen
import Derived.Lib.TrimByte
import Derived.Maps.Own
import Derived.Maps.OwnOps
import Derived.Maps.OwnSet
import Derived.Maps.RangeWalk
import Derived.Maps.Views
import Derived.Sort.OwnSortedInts
import Derived.Test.YtdhkmdgieflioaaDoorX0
namespace Go.Proofs.YtdhkmdgieflioaaDoorW.PrintLast
section
variable {P : Program} {ops : Array Oper} {Q : Exit → Act → World → Prop} {md : Region.Mode} {S : World → Prop} {ds : List Nat}
def Region.reachB (md : Region.Mode) (ops : Array Oper) (i : Nat) : Nat → Nat → Bool
  | 0, _ => false
  | fuel + 1, d => match ops[d]? with
    | some o => o.after.any fun e => Region.binds md e && (e.on == i || Region.reachB md ops i fuel e.on)
    | none => false
def Region.closedB (md : Region.Mode) (ops : Array Oper) (listed : Array Bool) : Bool :=
  (List.range ops.size).all fun j => !listed.getD j false || match ops[j]? with
    | some o => o.after.all fun e => !Region.binds md e || listed.getD e.on false
    | none => true
def Region.lastB (md : Region.Mode) (ops : Array Oper) (listed : Array Bool) (ds : List Nat) (i : Nat) : Bool :=
  ds.all fun d => listed.getD d true || Region.reachB md ops i ops.size d
def ListedClosed (md : Region.Mode) (ops : Array Oper) (listed : Array Bool) : Prop :=
  ∀ j oj, ops[j]? = some oj → listed.getD j false = true → ∀ e ∈ oj.after, Region.binds md e = true → listed.getD e.on false = true
theorem Region.closedB_spec {listed : Array Bool} (h : Region.closedB md ops listed = true) : ListedClosed md ops listed := by
  intro j oj hj hl e he hb
  have hlt : j < ops.size := (Array.getElem?_eq_some_iff.1 hj).1
  have h1 := List.all_eq_true.1 h j (List.mem_range.2 hlt)
  simp only [hl, hj, Bool.not_true, Bool.false_or] at h1
  have h2 := Array.all_eq_true_iff_forall_mem.1 h1 e he
  simpa [hb] using h2
theorem ListedClosed.set {listed : Array Bool} {i : Nat} (h : ListedClosed md ops listed) (hi : i ∈ Region.ready md ops listed) : ListedClosed md ops (listed.setIfInBounds i true) := by
  obtain ⟨_, oi, hoi, hall⟩ := mem_ready.1 hi
  intro j oj hj hl e he hb
  by_cases hij : i = j
  · subst hij
    have : oj = oi := Option.some.inj (hj.symm.trans hoi)
    subst this
    exact getD_set_true (hall e he hb)
  · rw [getD_set_ne false hij] at hl
    exact getD_set_true (h j oj hj hl e he hb)
theorem Region.reach_listed {listed : Array Bool} {i : Nat} (hc : ListedClosed md ops listed) : ∀ (fuel d : Nat), Region.reachB md ops i fuel d = true → listed.getD d false = true → listed.getD i false = true
  | 0, _, h, _ => by simp [Region.reachB] at h
  | fuel + 1, d, h, hl => by
    unfold Region.reachB at h
    cases ho : ops[d]? with
    | none => rw [ho] at h; simp at h
    | some o =>
      rw [ho] at h
      obtain ⟨e, he, h1⟩ := Array.any_eq_true'.1 h
      simp only [Bool.and_eq_true, Bool.or_eq_true, beq_iff_eq] at h1
      have hle := hc d o ho hl e he h1.1
      rcases h1.2 with h2 | h2
      · rw [← h2]; exact hle
      · exact Region.reach_listed hc fuel e.on h2 hle
theorem Region.reach_not_ready {listed : Array Bool} {i d fuel : Nat} (hc : ListedClosed md ops listed) (hr : Region.reachB md ops i fuel d = true) (hun : listed.getD i true = false) : d ∉ Region.ready md ops listed := by
  intro hd
  obtain ⟨_, o, ho, hall⟩ := mem_ready.1 hd
  have hi : listed.getD i false = true := by
    cases fuel with
    | zero => simp [Region.reachB] at hr
    | succ n =>
      unfold Region.reachB at hr
      rw [ho] at hr
      obtain ⟨e, he, h1⟩ := Array.any_eq_true'.1 hr
      simp only [Bool.and_eq_true, Bool.or_eq_true, beq_iff_eq] at h1
      have hle := hall e he h1.1
      rcases h1.2 with h2 | h2
      · rw [← h2]; exact hle
      · exact Region.reach_listed hc n e.on h2 hle
  rcases Nat.lt_or_ge i listed.size with h' | h'
  · simp [h'] at hun hi
    rw [hun] at hi
    cases hi
  · simp [Array.getElem?_eq_none h'] at hun
def wpAnyLast (P : Program) (md : Region.Mode) (ops : Array Oper) (Q : Exit → Act → World → Prop) (S : World → Prop) (ds : List Nat) : Nat → Array Bool → Act → World → Prop
  | 0, listed, a, w => Region.ready md ops listed = [] ∧ Q .normal a w
  | fuel + 1, listed, a, w =>
    (Region.ready md ops listed = [] → Q .normal a w) ∧
    ∀ i ∈ Region.ready md ops listed, wpOp P ops Q i (fun a' w' => (i ∉ ds → S w → S w') ∧ wpAnyLast P md ops Q S ds fuel (listed.setIfInBounds i true) a' w') a w
theorem wpAny_of_last : ∀ (fuel : Nat) (listed : Array Bool) (a : Act) (w : World), wpAnyLast P md ops Q S ds fuel listed a w → wpAny P md ops Q fuel listed a w
  | 0, _, _, _, h => h
  | fuel + 1, _, _, _, h => ⟨h.1, fun i hi => wpOp_mono (fun a' w' h' => wpAny_of_last fuel _ a' w' h'.2) (h.2 i hi)⟩
theorem wpAnyLast_first {i : Nat} {oi : Oper} {v : Value} (hi : ops[i]? = some oi) (hsel : ∀ (j : Nat) (o : Oper) cs b, ops[j]? = some o → o.op ≠ .select cs b)
    (hQ : ∀ c a w, Q (.panic c) (a.put oi.dst v) w → Q (.panic c) a w) (n : Nat) :
    ∀ (fuel : Nat) (listed : Array Bool) (a : Act) (w : World),
      (∀ j oj, ops[j]? = some oj → j ≠ i → listed.getD j true = false → (∀ e ∈ oj.after, Region.binds md e = true → e.on ≠ i) → oi.apart ops oj = true) →
      ListedClosed md ops listed → (∀ d ∈ ds, listed.getD d true = false → Region.reachB md ops i n d = true) →
      i ∈ Region.ready md ops listed → YieldsIf P ops S oi v a → S w →
      wpAnyLast P md ops Q S ds fuel (listed.setIfInBounds i true) (a.put oi.dst v) w → wpAnyLast P md ops Q S ds (fuel + 1) listed a w := by
  intro fuel
  induction fuel with
  | zero =>
    intro listed a w _ _ _ hr hy hS H
    refine ⟨fun h => (by rw [h] at hr; cases hr), fun j hj => ?_⟩
    by_cases hji : j = i
    · subst hji; exact hy.wpOp hi hS ⟨fun _ h => h, H⟩
    · have := ready_mono hj hji
      rw [H.1] at this
      cases this
  | succ fuel ih =>
    intro listed a w hfree hc hd hr hy hS H
    refine ⟨fun h => (by rw [h] at hr; cases hr), fun j hj => ?_⟩
    by_cases hji : j = i
    · subst hji; exact hy.wpOp hi hS ⟨fun _ h => h, H⟩
    · have h1 := H.2 j (ready_mono hj hji)
      obtain ⟨hjun, oj, hoj, hall⟩ := mem_ready.1 hj
      have hiun := (mem_ready.1 hr).1
      have hnot : ∀ e ∈ oj.after, Region.binds md e = true → e.on ≠ i := fun e he hb heq => by
        have h1 := hall e he hb
        rw [heq] at h1
        rcases Nat.lt_or_ge i listed.size with h' | h'
        · simp [h'] at hiun h1; rw [hiun] at h1; cases h1
        · simp [Array.getElem?_eq_none h'] at h1
      have hjd : j ∉ ds := fun hm => Region.reach_not_ready hc (hd j hm hjun) hiun hj
      have h2 := wpOp_putIf hoj (hfree j oj hoj hji hjun hnot) (fun cs b => hsel i oi cs b hi) (fun cs b => hsel j oj cs b hoj) hQ hy h1
      have hfree' : ∀ k ok, ops[k]? = some ok → k ≠ i → (listed.setIfInBounds j true).getD k true = false →
          (∀ e ∈ ok.after, Region.binds md e = true → e.on ≠ i) → oi.apart ops ok = true := fun k ok hk hki hun hno => by
        refine hfree k ok hk hki ?_ hno
        by_cases hjk : j = k
        · subst hjk; exact hjun
        · rw [getD_set_ne true hjk] at hun; exact hun
      have hd' : ∀ d ∈ ds, (listed.setIfInBounds j true).getD d true = false → Region.reachB md ops i n d = true := fun d hm hun => by
        refine hd d hm ?_
        by_cases hjk : j = d
        · subst hjk; exact hjun
        · rw [getD_set_ne true hjk] at hun; exact hun
      refine wpOp_mono (fun a' w' h3 => ⟨h3.2.1, ih (listed.setIfInBounds j true) a' w' hfree' (hc.set hj) hd' (ready_mono hr (Ne.symm hji)) h3.1 (h3.2.1 hjd hS) ?_⟩) h2
      rw [Array.setIfInBounds_comm _ _ hji]
      exact h3.2.2
theorem wpAnyLast_any {i : Nat} {oi : Oper} {v : Value} (hi : ops[i]? = some oi) (hsel : ∀ (j : Nat) (o : Oper) cs b, ops[j]? = some o → o.op ≠ .select cs b)
    (hQ : ∀ c a w, Q (.panic c) (a.put oi.dst v) w → Q (.panic c) a w) :
    ∀ (fuel : Nat) (listed : Array Bool) (a : Act) (w : World),
      (∀ j oj, ops[j]? = some oj → j ≠ i → listed.getD j true = false → (∀ e ∈ oj.after, Region.binds md e = true → e.on ≠ i) → oi.apart ops oj = true) →
      i ∈ Region.ready md ops listed → Yields P ops oi v a →
      wpAnyLast P md ops Q S ds fuel (listed.setIfInBounds i true) (a.put oi.dst v) w → wpAnyLast P md ops Q S ds (fuel + 1) listed a w := by
  intro fuel
  induction fuel with
  | zero =>
    intro listed a w _ hr hy H
    refine ⟨fun h => (by rw [h] at hr; cases hr), fun j hj => ?_⟩
    by_cases hji : j = i
    · subst hji; exact (hy.yieldsIf (S := fun _ => True)).wpOp hi trivial ⟨fun _ h => h, H⟩
    · have := ready_mono hj hji
      rw [H.1] at this
      cases this
  | succ fuel ih =>
    intro listed a w hfree hr hy H
    refine ⟨fun h => (by rw [h] at hr; cases hr), fun j hj => ?_⟩
    by_cases hji : j = i
    · subst hji; exact (hy.yieldsIf (S := fun _ => True)).wpOp hi trivial ⟨fun _ h => h, H⟩
    · have h1 := H.2 j (ready_mono hj hji)
      obtain ⟨hjun, oj, hoj, hall⟩ := mem_ready.1 hj
      have hiun := (mem_ready.1 hr).1
      have hnot : ∀ e ∈ oj.after, Region.binds md e = true → e.on ≠ i := fun e he hb heq => by
        have h1 := hall e he hb
        rw [heq] at h1
        rcases Nat.lt_or_ge i listed.size with h' | h'
        · simp [h'] at hiun h1; rw [hiun] at h1; cases h1
        · simp [Array.getElem?_eq_none h'] at h1
      have h2 := wpOp_put hoj (hfree j oj hoj hji hjun hnot) (fun cs b => hsel i oi cs b hi) (fun cs b => hsel j oj cs b hoj) hQ hy h1
      have hfree' : ∀ k ok, ops[k]? = some ok → k ≠ i → (listed.setIfInBounds j true).getD k true = false →
          (∀ e ∈ ok.after, Region.binds md e = true → e.on ≠ i) → oi.apart ops ok = true := fun k ok hk hki hun hno => by
        refine hfree k ok hk hki ?_ hno
        by_cases hjk : j = k
        · subst hjk; exact hjun
        · rw [getD_set_ne true hjk] at hun; exact hun
      refine wpOp_mono (fun a' w' h3 => ⟨h3.2.1, ih (listed.setIfInBounds j true) a' w' hfree' (ready_mono hr (Ne.symm hji)) h3.1 ?_⟩) h2
      rw [Array.setIfInBounds_comm _ _ hji]
      exact h3.2.2
theorem wpAnyLast_take {i : Nat} {oi : Oper} {v : Value} {fuel : Nat} {listed : Array Bool} {a : Act} {w : World} (hi : ops[i]? = some oi)
    (hs : Region.noSelect ops = true) (hf : Region.free md ops listed i = true) (hr : (Region.ready md ops listed).contains i = true)
    (hc : Region.closedB md ops listed = true) (hl : Region.lastB md ops listed ds i = true)
    (hQ : ∀ c a w, Q (.panic c) (a.put oi.dst v) w → Q (.panic c) a w) (hy : YieldsIf P ops S oi v a) (hS : S w)
    (h : wpAnyLast P md ops Q S ds fuel (listed.setIfInBounds i true) (a.put oi.dst v) w) : wpAnyLast P md ops Q S ds (fuel + 1) listed a w :=
  wpAnyLast_first hi (Region.noSelect_spec hs) hQ ops.size fuel listed a w (Region.free_spec hi hf) (Region.closedB_spec hc)
    (fun d hm hun => by have := List.all_eq_true.1 hl d hm; rw [hun] at this; simpa using this) (by simpa using hr) hy hS h
theorem wpAnyLast_all {rs : List Nat} {fuel : Nat} {listed : Array Bool} {a : Act} {w : World} (hr : Region.ready md ops listed = rs) (hne : rs ≠ [])
    (h : ∀ i ∈ rs, wpOp P ops Q i (fun a' w' => (i ∉ ds → S w → S w') ∧ wpAnyLast P md ops Q S ds fuel (listed.setIfInBounds i true) a' w') a w) : wpAnyLast P md ops Q S ds (fuel + 1) listed a w :=
  ⟨fun h0 => absurd (hr ▸ h0) hne, hr ▸ h⟩
theorem wpAnyLast_done {listed : Array Bool} {a : Act} {w : World} (hr : Region.ready md ops listed = []) (h : Q .normal a w) :
    ∀ fuel, wpAnyLast P md ops Q S ds fuel listed a w
  | 0 => ⟨hr, h⟩
  | _ + 1 => ⟨fun _ => h, by rw [hr]; simp⟩
theorem wp_region_last {id : Nat} {a : Act} {w : World} (hm : P.follows .mixedOrders = true)
    (h : wpAnyLast P .any ops Q S ds ops.size (Array.replicate ops.size false) a { w with drawn := w.drawn + 1 }) : (Code.region id ops true).wp P Q a w :=
  wp_region_any hm (wpAny_of_last _ _ _ _ h)
end
section
variable {P : Program} {ops : Array Oper} {Q : Exit → Act → World → Prop} {md : Region.Mode} {S : World → Prop} {ds : List Nat}
def AllReadyL (P : Program) (md : Region.Mode) (ops : Array Oper) (Q : Exit → Act → World → Prop) (S : World → Prop) (ds : List Nat) (fuel : Nat) (listed : Array Bool) (a : Act) (w : World) (rs : List Nat) : Prop :=
  ∀ i ∈ rs, wpOp P ops Q i (fun a' w' => (i ∉ ds → S w → S w') ∧ wpAnyLast P md ops Q S ds fuel (listed.setIfInBounds i true) a' w') a w
theorem AllReadyL.nil {fuel : Nat} {listed : Array Bool} {a : Act} {w : World} : AllReadyL P md ops Q S ds fuel listed a w [] := fun _ h => by cases h
theorem AllReadyL.cons {fuel : Nat} {listed : Array Bool} {a : Act} {w : World} {i : Nat} {o : Oper} {rs : List Nat} (ho : ops[i]? = some o) (hd : i ∉ ds)
    (h : ∀ K' : Act → World → Prop, Shut (∀ a w, S w → (S w → wpAnyLast P md ops Q S ds fuel (listed.setIfInBounds i true) a w) → K' a w) → if Region.wanted o (yielded ops a.tmps) = true then Oper.wp P o a w K' Q else K' (a.put o.dst undef) w)
    (hs : AllReadyL P md ops Q S ds fuel listed a w rs) : AllReadyL P md ops Q S ds fuel listed a w (i :: rs) := fun j hj => by
  rcases List.mem_cons.1 hj with rfl | hj
  · exact wpOp_step ho (fun K' hK => h K' (fun a w hS hW => hK a w ⟨fun _ _ => hS, hW hS⟩))
  · exact hs j hj
theorem AllReadyL.cons_last {fuel : Nat} {listed : Array Bool} {a : Act} {w : World} {i : Nat} {o : Oper} {rs : List Nat} (ho : ops[i]? = some o) (hd : i ∈ ds)
    (h : ∀ K' : Act → World → Prop, Shut (∀ a w, wpAnyLast P md ops Q S ds fuel (listed.setIfInBounds i true) a w → K' a w) → if Region.wanted o (yielded ops a.tmps) = true then Oper.wp P o a w K' Q else K' (a.put o.dst undef) w)
    (hs : AllReadyL P md ops Q S ds fuel listed a w rs) : AllReadyL P md ops Q S ds fuel listed a w (i :: rs) := fun j hj => by
  rcases List.mem_cons.1 hj with rfl | hj
  · exact wpOp_step ho (fun K' hK => h K' (fun a w hW => hK a w ⟨fun hn => absurd hd hn, hW⟩))
  · exact hs j hj
theorem wpAnyLast_ready {rs : List Nat} {fuel : Nat} {listed : Array Bool} {a : Act} {w : World} (hr : Region.ready md ops listed = rs) (hne : rs ≠ [])
    (h : AllReadyL P md ops Q S ds fuel listed a w rs) : wpAnyLast P md ops Q S ds (fuel + 1) listed a w := wpAnyLast_all hr hne h
theorem start_ {id n : Nat} {a : Act} {w : World} (l : Array Bool) (hm : P.follows .mixedOrders = true) (hn : ops.size = n) (hl : Array.replicate n false = l) (hS : S w.drew)
    (h : S w.drew → wpAnyLast P .any ops Q S ds n l a w.drew) : (Code.region id ops true).wp P Q a w := by
  subst hn
  subst hl
  exact wp_region_last hm (h hS)
def takeB (md : Region.Mode) (ops : Array Oper) (ds : List Nat) (l l' : Array Bool) (i : Nat) : Bool :=
  Region.noSelect ops && Region.free md ops l i && (Region.ready md ops l).contains i && Region.closedB md ops l && Region.lastB md ops l ds i && (l.setIfInBounds i true == l')
theorem take_ {i : Nat} {N : Option Tmp} {oi : Oper} {v : Value} {fuel : Nat} {l : Array Bool} {a : Act} {w : World} (l' : Array Bool) (hi : ops[i]? = some oi) (hN : oi.dst = N) (hc : takeB md ops ds l l' i = true)
    (hQ : ∀ c a w, Q (.panic c) (a.put oi.dst v) w → Q (.panic c) a w) (hy : YieldsIf P ops S oi v a) (hS : S w) {a' : Act} (ha : a.put N v = a')
    (h : wpAnyLast P md ops Q S ds fuel l' a' w) : wpAnyLast P md ops Q S ds (fuel + 1) l a w := by
  subst ha
  subst hN
  simp only [takeB, Bool.and_eq_true, beq_iff_eq] at hc
  obtain ⟨⟨⟨⟨⟨h1, h2⟩, h3⟩, h4⟩, h5⟩, h6⟩ := hc
  subst h6
  exact wpAnyLast_take hi h1 h2 h3 h4 h5 hQ hy hS h
def anyB (md : Region.Mode) (ops : Array Oper) (l l' : Array Bool) (i : Nat) : Bool :=
  Region.noSelect ops && Region.free md ops l i && (Region.ready md ops l).contains i && (l.setIfInBounds i true == l')
theorem pure_ {i : Nat} {N : Option Tmp} {oi : Oper} {v : Value} {fuel : Nat} {l : Array Bool} {a : Act} {w : World} (l' : Array Bool) (hi : ops[i]? = some oi) (hN : oi.dst = N) (hc : anyB md ops l l' i = true)
    (hQ : ∀ c a w, Q (.panic c) (a.put oi.dst v) w → Q (.panic c) a w) (hy : Yields P ops oi v a) {a' : Act} (ha : a.put N v = a')
    (h : wpAnyLast P md ops Q S ds fuel l' a' w) : wpAnyLast P md ops Q S ds (fuel + 1) l a w := by
  subst ha
  subst hN
  simp only [anyB, Bool.and_eq_true, beq_iff_eq] at hc
  obtain ⟨⟨⟨h1, h2⟩, h3⟩, h6⟩ := hc
  subst h6
  exact wpAnyLast_any hi (Region.noSelect_spec h1) hQ fuel l a w (Region.free_spec hi h2) (by simpa using h3) hy h
def readyB (md : Region.Mode) (ops : Array Oper) (l l' : Array Bool) (i : Nat) : Bool := (Region.ready md ops l == [i]) && (l.setIfInBounds i true == l')
theorem one_ {i : Nat} {N : Option Tmp} {oi : Oper} {fuel : Nat} {l : Array Bool} {a : Act} {w : World} (l' : Array Bool) (hi : ops[i]? = some oi) (hN : oi.dst = N) (hc : readyB md ops l l' i = true) (hd : i ∉ ds)
    (h : ∀ K : Act → World → Prop, Shut (∀ a' w', S w' → (S w' → wpAnyLast P md ops Q S ds fuel l' a' w') → K a' w') → if Region.wanted oi (yielded ops a.tmps) = true then Oper.wp P oi a w K Q else K (a.put N undef) w) :
    wpAnyLast P md ops Q S ds (fuel + 1) l a w := by
  subst hN
  simp only [readyB, Bool.and_eq_true, beq_iff_eq] at hc
  obtain ⟨h1, h2⟩ := hc
  subst h2
  exact wpAnyLast_ready h1 (by simp) (AllReadyL.cons hi hd (fun K hK => h K hK) AllReadyL.nil)
theorem last_ {i : Nat} {N : Option Tmp} {oi : Oper} {fuel : Nat} {l : Array Bool} {a : Act} {w : World} (l' : Array Bool) (hi : ops[i]? = some oi) (hN : oi.dst = N) (hc : readyB md ops l l' i = true) (hd : i ∈ ds)
    (h : ∀ K : Act → World → Prop, Shut (∀ a' w', wpAnyLast P md ops Q S ds fuel l' a' w' → K a' w') → if Region.wanted oi (yielded ops a.tmps) = true then Oper.wp P oi a w K Q else K (a.put N undef) w) :
    wpAnyLast P md ops Q S ds (fuel + 1) l a w := by
  subst hN
  simp only [readyB, Bool.and_eq_true, beq_iff_eq] at hc
  obtain ⟨h1, h2⟩ := hc
  subst h2
  exact wpAnyLast_ready h1 (by simp) (AllReadyL.cons_last hi hd (fun K hK => h K hK) AllReadyL.nil)
theorem done_ {l : Array Bool} {a : Act} {w : World} {n : Nat} (hr : (Region.ready md ops l == []) = true) (h : Q .normal a w) : wpAnyLast P md ops Q S ds n l a w := wpAnyLast_done (by simpa using hr) h n
theorem norm_ {fuel : Nat} {l : Array Bool} {a a' : Act} {w : World} (ha : a = a') (h : wpAnyLast P md ops Q S ds fuel l a' w) : wpAnyLast P md ops Q S ds fuel l a w := by
  subst ha
  exact h
theorem call_ {oi : Oper} {N : Option Tmp} {a : Act} {w : World} {K : Act → World → Prop} (f : FuncId) (args : Array Value) (hw : Region.wanted oi (yielded ops a.tmps) = true) (hN : oi.dst = N) (hrun : (execOp a.eval oi).run P w = .ok (.enter f args) w)
    (h : Calls P f args w fun e w' => ∃ v, e = .returned v ∧ K (a.put N v) w') : if Region.wanted oi (yielded ops a.tmps) = true then Oper.wp P oi a w K Q else K (a.put N undef) w := by
  rw [if_pos hw]
  subst hN
  unfold Oper.wp
  rw [hrun, Oper.upon_enter]
  refine h.mono fun e w'' hh => ?_
  obtain ⟨v, rfl, hk⟩ := hh
  exact hk
theorem enters_ {f : FuncId} {fn : Func} (hf : P.funcs[f]? = some fn) (hname : (fn.name == "runtime.NumGoroutine") = false) (hb : fn.body.isSome = true) (args : Array Value) (w : World) : (callFunc f args).run P w = .ok (.enter f args) w := by
  have h1 : fn.name ≠ "runtime.NumGoroutine" := by simpa using hname
  obtain ⟨c, hc⟩ := Option.isSome_iff_exists.1 hb
  simp [callFunc, hf, h1, hc]
theorem goes_ {oi : Oper} {N : Option Tmp} {a : Act} {w : World} {K : Act → World → Prop} {f : FuncId} {fn : Func} {as0 : Array Operand} {ts : Array TypeId} (hf : P.funcs[f]? = some fn) (hname : (fn.name == "runtime.NumGoroutine") = false) (hb : fn.body.isSome = true) (args : Array Value)
    (hw : Region.wanted oi (yielded ops a.tmps) = true) (hN : oi.dst = N) (hop : oi.op = .call { callee := .value (.func f), args := as0, argTypes := ts }) (hargs : as0.map a.eval = args)
    (h : Calls P f args w fun e w' => ∃ v, e = .returned v ∧ K (a.put N v) w') : if Region.wanted oi (yielded ops a.tmps) = true then Oper.wp P oi a w K Q else K (a.put N undef) w := by
  refine call_ f args hw hN ?_ h
  have he := enters_ hf hname hb args w
  unfold execOp
  simp [hop, resolve, Deferred.ofValue, invoke, Act.eval, hargs, he]
theorem goesL_ {rest : List Oper} {oi : Oper} {a : Act} {w : World} (N : Option Tmp) (hd : oi.dst = N) (hg : oi.guard = none) {f : FuncId} {fn : Func} {as0 : Array Operand} {ts : Array TypeId} (hf : P.funcs[f]? = some fn) (hname : (fn.name == "runtime.NumGoroutine") = false) (hb : fn.body.isSome = true) (args : Array Value)
    (hop : oi.op = .call { callee := .value (.func f), args := as0, argTypes := ts }) (hargs : as0.map a.eval = args)
    (h : Calls P f args w fun e w' => ∃ v, e = .returned v ∧ wpList P ops Q rest (a.put N v) w') : wpList P ops Q (oi :: rest) a w := by
  refine wpList_plain hg fun K hK => ?_
  have he := enters_ hf hname hb args w
  have hrun : (execOp a.eval oi).run P w = .ok (.enter f args) w := by
    unfold execOp
    simp [hop, resolve, Deferred.ofValue, invoke, Act.eval, hargs, he]
  unfold Oper.wp
  rw [hrun, Oper.upon_enter]
  refine h.mono fun e w'' hh => ?_
  obtain ⟨v, rfl, hk⟩ := hh
  subst hd
  exact hK _ _ hk
theorem value_ {oi : Oper} {N : Option Tmp} {a : Act} {w w1 : World} {v : Value} {K : Act → World → Prop} (hw : Region.wanted oi (yielded ops a.tmps) = true) (hN : oi.dst = N) (hrun : (execOp a.eval oi).run P w = .ok (.value v) w1)
    (h : K (a.put N v) w1) : if Region.wanted oi (yielded ops a.tmps) = true then Oper.wp P oi a w K Q else K (a.put N undef) w := by
  rw [if_pos hw]
  subst hN
  unfold Oper.wp
  rw [hrun]
  exact h
theorem i64_w (n : Int) : IntKind.i64.wrap n = Go.RowKit.wrap64 n := by unfold Go.RowKit.wrap64; exact IntKind.wrap_i64 n
theorem i32_w (n : Int) : IntKind.i32.wrap n = Go.RowKit.wrap32 n := by unfold Go.RowKit.wrap32; exact IntKind.wrap_i32 n
end
end Go.Proofs.YtdhkmdgieflioaaDoorW.PrintLast
namespace Go.Proofs.YtdhkmdgieflioaaDoorW.PrintLast
open Go.Proofs.YtdhkmdgieflioaaDoorW.PrintWords (Aside0)
section
variable {md : Region.Mode} {ops : Array Oper} {T : Bool × List (List Nat × List Nat)} {l l' li lj lk : Array Bool} {ds : List Nat} {i j k : Nat}
end
end Go.Proofs.YtdhkmdgieflioaaDoorW.PrintLast
namespace Go.Proofs.YtdhkmdgieflioaaDoorW.PrintLast
section
variable {P : Program} {ops : Array Oper} {Q : Exit → Act → World → Prop} {md : Region.Mode} {S : World → Prop} {ds : List Nat} {T : Bool × List (List Nat × List Nat)}
end
end Go.Proofs.YtdhkmdgieflioaaDoorW.PrintLast
namespace Go.Proofs.YtdhkmdgieflioaaDoorW.PrintWords
open Go.RowKit
namespace Kd
section
variable {α : Type} {d : Kd α} {e base g o n cap : Nat} {ok okp : Nat → Prop} {w W : World} {v : Value} {xs : List α}
end
section
variable {α : Type} {enc : α → Value} {h1 : ∀ x, (enc x).oneCell' = true} {e base g o n cap : Nat} {ok : Nat → Prop} {W : World} {xs : List α}
end
end Kd
end Go.Proofs.YtdhkmdgieflioaaDoorW.PrintWords
namespace Go.Proofs.YtdhkmdgieflioaaDoorW.PrintWords
open Go.RowKit
namespace Kd
def tag {α : Type} (f : Nat → Nat) (d : Kd α) : Kd (α × Nat) where
  sz := d.sz
  E := d.E
  K := fun w x cs => d.K w x.1 cs
  M := fun w base ok x cs => d.M w base (fun k => ok k ∧ f k = x.2) x.1 cs
  K_len := fun h => d.K_len h
  K_one := fun h => d.K_one h
  K_below := fun hb h => d.K_below hb h
  K_of_M := fun h => d.K_of_M h
  M_mono := fun hok h => d.M_mono (fun k hk => ⟨hok k hk.1, hk.2⟩) h
  M_bound := fun h => d.M_mono (fun _ hk => ⟨⟨hk.1.1, hk.2⟩, hk.1.2⟩) (d.M_bound h)
  M_move := fun hm h => d.M_move (fun k hk => hm k hk.1) h
  M_lower := fun hb h => d.M_lower hb h
def bare {α : Type} (d : Kd α) : Kd α where
  sz := d.sz
  E := d.E
  K := d.K
  M := fun w base _ x cs => d.M w base (fun _ => False) x cs
  K_len := fun h => d.K_len h
  K_one := fun h => d.K_one h
  K_below := fun hb h => d.K_below hb h
  K_of_M := fun h => d.K_of_M h
  M_mono := fun _ h => h
  M_bound := fun h => h
  M_move := fun _ h => d.M_move (fun _ hk => hk.elim) h
  M_lower := fun hb h => d.M_lower hb h
def raw (sz : Nat) : Kd (List Value) where
  sz := sz
  E := []
  K := fun _ x cs => cs = x ∧ cs.length = sz ∧ ∀ u ∈ cs, u.oneCell' = true
  M := fun _ _ _ x cs => cs = x ∧ cs.length = sz ∧ ∀ u ∈ cs, u.oneCell' = true
  K_len := fun h => h.2.1
  K_one := fun h => h.2.2
  K_below := fun _ h => h
  K_of_M := fun h => h
  M_mono := fun _ h => h
  M_bound := fun h => h
  M_move := fun _ h => h
  M_lower := fun _ h => h
def S {α : Type} (d : Kd α) (e : Nat) (w : World) (base : Nat) (ok : Nat → Prop) (v : Value) (xs : List α) : Prop := ∃ f, (tag f d).R e w base ok v xs.zipIdx
section
variable {α β : Type} {d : Kd α} {d' : Kd β} {e e' : Nat} {w w1 W : World} {base b : Nat} {ok ok' okv oku : Nat → Prop} {u v : Value} {xs : List α} {ys : List β}
theorem S_nil (d : Kd α) (e : Nat) (w : World) (base : Nat) (ok : Nat → Prop) : S d e w base ok (.slice none 0 0) [] := ⟨fun _ => 0, R_nil _ _ _ _ _⟩
end
section
variable {α β : Type} {d : Kd α} {d' : Kd β} {e e' g : Nat} {w w1 W : World} {base b : Nat} {ok ok' okv oku : Nat → Prop} {u v : Value} {xs : List α} {ys : List β}
end
section
variable {P : Program} {ops : Array Oper} {rest : List Oper} {o : Oper} {a : Act} {Q : Exit → Act → World → Prop} {Kc : Act → World → Prop} {α : Type}
end
def gap {α : Type} (f : Nat → Nat) (d : Kd α) (i : Nat) (c : List Value) : Kd (α × Nat) where
  sz := d.sz
  E := d.E
  K := fun w x cs => (x.2 = i → cs = c ∧ cs.length = d.sz ∧ ∀ u ∈ cs, u.oneCell' = true) ∧ (x.2 ≠ i → d.K w x.1 cs)
  M := fun w base ok x cs => (x.2 = i → cs = c ∧ cs.length = d.sz ∧ ∀ u ∈ cs, u.oneCell' = true) ∧ (x.2 ≠ i → d.M w base (fun k => ok k ∧ f k = x.2) x.1 cs)
  K_len := fun {w x cs} h => by
    by_cases hx : x.2 = i
    · exact (h.1 hx).2.1
    · exact d.K_len (h.2 hx)
  K_one := fun {w x cs} h => by
    by_cases hx : x.2 = i
    · exact (h.1 hx).2.2
    · exact d.K_one (h.2 hx)
  K_below := fun hb h => ⟨h.1, fun hx => d.K_below hb (h.2 hx)⟩
  K_of_M := fun h => ⟨h.1, fun hx => d.K_of_M (h.2 hx)⟩
  M_mono := fun hok h => ⟨h.1, fun hx => d.M_mono (fun k hk => ⟨hok k hk.1, hk.2⟩) (h.2 hx)⟩
  M_bound := fun h => ⟨h.1, fun hx => d.M_mono (fun _ hk => ⟨⟨hk.1.1, hk.2⟩, hk.1.2⟩) (d.M_bound (h.2 hx))⟩
  M_move := fun hm h => ⟨h.1, fun hx => d.M_move (fun k hk => hm k hk.1) (h.2 hx)⟩
  M_lower := fun hb h => ⟨h.1, fun hx => d.M_lower hb (h.2 hx)⟩
def H {α : Type} (d : Kd α) (e : Nat) (w : World) (base : Nat) (ok : Nat → Prop) (v : Value) (xs : List α) (i : Int) (oki : Nat → Prop) (c : List Value) : Prop :=
  (∀ k, oki k → ok k) ∧ ∃ f, (gap f d i.toNat c).R e w base (fun k => ok k ∧ ¬ oki k) v xs.zipIdx
section
variable {α β : Type} {d : Kd α} {e e' g n cap : Nat} {w w1 W : World} {base : Nat} {ok ok' oki okp : Nat → Prop} {u v : Value} {xs : List α} {i : Int} {c : List Value}
end
section
variable {P : Program} {ops : Array Oper} {rest : List Oper} {o : Oper} {a : Act} {Q : Exit → Act → World → Prop} {α : Type}
end
end Kd
end Go.Proofs.YtdhkmdgieflioaaDoorW.PrintWords
namespace Go.Proofs.YtdhkmdgieflioaaDoorW.PrintWords
open Go.RowKit
namespace Kd
section
variable {α : Type} {n : Nat} {d : Kd α} {hs : 0 < d.sz} {w : World} {base : Nat} {ok : Nat → Prop} {xs : List α} {cs : List Value}
end
section
variable {α : Type} {n : Nat} {enc : α → Value} {h1 : ∀ x, (enc x).oneCell' = true} {hs : 0 < (scalar enc h1).sz} {w : World} {base : Nat} {ok : Nat → Prop} {xs : List α} {cs : List Value}
end
end Kd
end Go.Proofs.YtdhkmdgieflioaaDoorW.PrintWords
namespace Go.Proofs.YtdhkmdgieflioaaDoorW.PrintWords
open Go.RowKit
section
variable {P : Program}
end
namespace Kd
section
variable {P : Program} {ops : Array Oper} {rest : List Oper} {o : Oper} {a : Act} {Q : Exit → Act → World → Prop} {Kc : Act → World → Prop} {α : Type}
end
section
variable {α : Type} {d : Kd α} {e : Nat} {w : World} {base : Nat} {ok : Nat → Prop} {v : Value} {xs : List α}
end
section
variable {P : Program} {ops : Array Oper} {rest : List Oper} {o : Oper} {a : Act} {Q : Exit → Act → World → Prop} {Kc : Act → World → Prop} {α : Type}
end
end Kd
end Go.Proofs.YtdhkmdgieflioaaDoorW.PrintWords
namespace Go.Proofs.YtdhkmdgieflioaaDoorW.PrintWords
open Go.RowKit
namespace Kd
structure Heap {α : Type} (d : Kd α) : Prop where
  K : ∀ {w w1 : World} {x : α} {cs : List Value}, (∀ k, k < w.heap.size → w1.heap[k]? = w.heap[k]?) → d.K w x cs → d.K w1 x cs
theorem cell_heap {w w1 : World} (hb : ∀ k, k < w.heap.size → w1.heap[k]? = w.heap[k]?) {a : Addr} {v : Value} (h : w.cell? a = some v) : w1.cell? a = some v := by
  have := hb a.block (World.block_lt_of_cell? w a h)
  simpa [World.cell?, this] using h
theorem Heap.C {α : Type} {d : Kd α} (hd : Heap d) {w w1 : World} {A : Option Addr} {n : Nat} {xs : List α} (hb : ∀ k, k < w.heap.size → w1.heap[k]? = w.heap[k]?) (h : d.C w A n xs) : d.C w1 A n xs :=
  ⟨h.1, h.2.1, fun hn => by
    obtain ⟨ad, e, hc⟩ := h.2.2 hn
    refine ⟨ad, e, fun j p hj => ?_⟩
    obtain ⟨c, hs, hr, hcell⟩ := hc j p hj
    exact ⟨c, hs, hd.K hb hr, fun i u hu => cell_heap hb (hcell i u hu)⟩⟩
section
variable {α : Type} {d : Kd α} {e base g n c : Nat} {ok : Nat → Prop} {w w0 W : World} {A : Option Addr} {xs : List α}
end
end Kd
end Go.Proofs.YtdhkmdgieflioaaDoorW.PrintWords
namespace Go.Proofs.YtdhkmdgieflioaaDoorW.PrintWords
open Go.RowKit
def Kept (w W : World) (S : Nat → Prop) : Prop := w.heap.size ≤ W.heap.size ∧ ∀ i, i < w.heap.size → ¬ S i → W.heap[i]? = w.heap[i]?
section
variable {w W W2 : World} {S S2 S' : Nat → Prop}
theorem Kept.refl (w : World) (S : Nat → Prop) : Kept w w S := ⟨Nat.le_refl _, fun _ _ _ => rfl⟩
theorem Kept.of_below (h : Below w.heap.size w W) (S : Nat → Prop) : Kept w W S := ⟨h.size, fun i hi _ => h.block i hi⟩
theorem Kept.mono (h : Kept w W S) (hs : ∀ k, S k → S' k) : Kept w W S' := ⟨h.1, fun i hi hn => h.2 i hi (fun hk => hn (hs i hk))⟩
theorem Kept.then_ (h : Kept w W S) (k : Kept W W2 S2) (hs : ∀ k, S2 k → S k ∨ w.heap.size ≤ k) : Kept w W2 S :=
  ⟨Nat.le_trans h.1 k.1, fun i hi hn => (k.2 i (Nat.lt_of_lt_of_le hi h.1) (fun h2 => (hs i h2).elim hn (fun h3 => by omega))).trans (h.2 i hi hn)⟩
theorem Kept.below (h : Kept w W S) (hb : Below W.heap.size W W2) : Kept w W2 S := h.then_ (Kept.of_below hb (fun _ => False)) (fun _ hk => hk.elim)
theorem Kept.alloc (h : Kept w W S) (o : Obj) : Kept w (W.alloc o) S := h.below (below_alloc (Below.refl _ _) o)
theorem Kept.drew (h : Kept w W S) : Kept w W.drew S := h
theorem Kept.drewN (h : Kept w W S) (m : Nat) : Kept w (W.drewN m) S := h
theorem Kept.setCell (h : Kept w W S) {p : Addr} (hp : S p.block ∨ w.heap.size ≤ p.block) (u : Value) : Kept w (W.setCell p u) S :=
  h.then_ (S2 := fun k => k = p.block) ⟨by simp [World.setCell], fun i _ hn => Below.heap_setCell W p u i hn⟩ (fun k hk => by rw [hk]; exact hp)
theorem Kept.keep {g : Nat} (h : KeepBut w W g none) (k : Kept W W2 S2) (hs : ∀ k, S2 k → w.heap.size ≤ k) : KeepBut w W2 g none :=
  ⟨Nat.le_trans h.1 k.1, fun i hi hg hr => (k.2 i (Nat.lt_of_lt_of_le hi h.1) (fun h2 => by have := hs i h2; omega)).trans (h.2 i hi hg hr)⟩
end
namespace Kd
section
variable {α : Type} {d : Kd α} {e base n c : Nat} {ok oki S S2 : Nat → Prop} {w w0 W W1 W2 : World} {v : Value} {A : Option Addr} {xs : List α} {i : Int} {cs : List Value}
end
end Kd
end Go.Proofs.YtdhkmdgieflioaaDoorW.PrintWords
namespace Go.Proofs.YtdhkmdgieflioaaDoorW.PrintWords
open Go.RowKit
def Foot (P : World → Prop) (W : World) (ok : Nat → Prop) : Prop := ∀ W' : World, (∀ k, ok k → k < W.heap.size → W'.heap[k]? = W.heap[k]?) → P W'
theorem heap_lt {W W1 : World} {k : Nat} (h : W1.heap[k]? = W.heap[k]?) (hlt : k < W.heap.size) : k < W1.heap.size := by
  rw [Array.getElem?_eq_getElem hlt] at h
  exact (Array.getElem?_eq_some_iff.1 h).1
namespace Foot
variable {P Q : World → Prop} {W W1 : World} {ok ok' : Nat → Prop}
theorem now (h : Foot P W ok) : P W := h W (fun _ _ _ => rfl)
theorem mono (h : Foot P W ok) (hok : ∀ k, ok k → ok' k) : Foot P W ok' := fun W' hW => h W' (fun k hk hlt => hW k (hok k hk) hlt)
theorem step (h : Foot P W ok) (hm : ∀ k, ok k → k < W.heap.size → W1.heap[k]? = W.heap[k]?) : Foot P W1 ok := fun W' hW => h W' (fun k hk hlt => (hW k hk (heap_lt (hm k hk hlt) hlt)).trans (hm k hk hlt))
theorem imp (h : Foot P W ok) (hi : ∀ W', P W' → Q W') : Foot Q W ok := fun W' hW => hi W' (h W' hW)
end Foot
namespace Kd
def F {α : Type} (d : Kd α) (W : World) (ok : Nat → Prop) (A : Option Addr) (n : Nat) (xs : List α) : Prop := Foot (fun W => d.C W A n xs) W ok
def FK {α : Type} (d : Kd α) (W : World) (ok : Nat → Prop) (x : α) (c : List Value) : Prop := Foot (fun W => d.K W x c) W ok
section
variable {α β : Type} {d : Kd α} {e base n n' cc g N : Nat} {ok ok' okp S : Nat → Prop} {w w0 w1 W W1 : World} {A A' : Option Addr} {u v v1 : Value} {xs : List α} {xs' : List β} {d' : Kd β} {x : α} {c : List Value}
theorem F_nil (d : Kd α) (W : World) (ok : Nat → Prop) : F d W ok none ([] : List α).length [] := fun W' _ => C_nil d W'
theorem FK_of_M (h : d.M W base ok x c) : FK d W ok x c := fun _ hW => d.K_of_M (M_step h hW)
end
end Kd
end Go.Proofs.YtdhkmdgieflioaaDoorW.PrintWords
namespace Go.Proofs.YtdhkmdgieflioaaDoorW.PrintWords
open Go.RowKit
namespace Kd
def chunks (sz : Nat) (n : Nat) (inner : List Value) : List (List Value) := (List.range n).map fun j => (inner.drop (j * sz)).take sz
theorem chunks_length (sz n : Nat) (inner : List Value) : (chunks sz n inner).length = n := by simp [chunks]
theorem chunks_at {sz n : Nat} {inner : List Value} {j : Nat} (hj : j < n) : (chunks sz n inner)[j]? = some ((inner.drop (j * sz)).take sz) := by simp [chunks, hj]
theorem chunks_get {sz n : Nat} {inner : List Value} {j : Nat} {c : List Value} (h : (chunks sz n inner)[j]? = some c) : c = (inner.drop (j * sz)).take sz := by
  have hj : j < n := by have := (List.getElem?_eq_some_iff.1 h).1; rwa [chunks_length] at this
  rw [chunks_at hj] at h
  injection h with h
  exact h.symm
theorem reps_raw {α : Type} {Rr : α → List Value → Prop} {sz : Nat} {xs : List α} {inner : List Value} (h : Reps Rr sz xs inner) (hR : ∀ x c, Rr x c → c.length = sz ∧ ∀ u ∈ c, u.oneCell' = true) : Reps (fun x cs => cs = x ∧ cs.length = sz ∧ ∀ u ∈ cs, u.oneCell' = true) sz (chunks sz xs.length inner) inner := by
  refine ⟨by rw [chunks_length]; exact h.1, fun j p hj => ?_⟩
  have hjl : j < xs.length := by have := (List.getElem?_eq_some_iff.1 hj).1; rwa [chunks_length] at this
  have hp := chunks_get hj
  exact ⟨hp.symm, hR _ _ (h.2 j _ (List.getElem?_eq_getElem hjl))⟩
section
variable {α : Type} {d : Kd α} {e base n cc g : Nat} {ok ok' okp S : Nat → Prop} {w w1 W W1 : World} {A : Option Addr} {u v v1 : Value} {xs : List α} {x : α} {c : List Value}
def N {α : Type} (d : Kd α) (e : Nat) (w : World) (base : Nat) (ok : Nat → Prop) (v : Value) (xs : List α) : Prop :=
  (∀ k, v.ownBlock = some k → ok k) ∧ ∃ rows : List (List Value), rows.length = xs.length ∧ (raw d.sz).R e w base (fun k => some k = v.ownBlock) v rows ∧ ∀ (j : Nat) (x : α) (c : List Value), xs[j]? = some x → rows[j]? = some c → FK d w (fun k => ok k ∧ some k ≠ v.ownBlock) x c
theorem R_N (h : d.R e w base ok v xs) : N d e w base ok v xs := by
  obtain ⟨h0, inner, ho, hr⟩ := h
  refine ⟨h0, chunks d.sz xs.length inner, chunks_length _ _ _, ⟨fun k hk => hk.symm, inner, by rw [chunks_length]; exact ho, reps_raw hr (fun x c hp => ⟨d.K_len (d.K_of_M hp), d.K_one (d.K_of_M hp)⟩)⟩, fun j x c hx hc => ?_⟩
  rw [chunks_get hc]
  exact FK_of_M (hr.2 j x hx)
theorem N_nil (d : Kd α) (e : Nat) (w : World) (base : Nat) (ok : Nat → Prop) : N d e w base ok (.slice none 0 0) [] := R_N (R_nil _ _ _ _ _)
end
end Kd
end Go.Proofs.YtdhkmdgieflioaaDoorW.PrintWords
namespace Go.Proofs.YtdhkmdgieflioaaDoorW.PrintWords
open Go.RowKit
namespace Kd
section
variable {α : Type} {d : Kd α} {W : World} {g n : Nat} {S ok : Nat → Prop} {A : Option Addr} {ad : Addr} {xs : List α}
end
end Kd
end Go.Proofs.YtdhkmdgieflioaaDoorW.PrintWords
namespace Go.Proofs.YtdhkmdgieflioaaDoorW.PrintWords
open Go.RowKit
section
variable {w w' u : World} {m B g : Nat} {o : Obj} {row : Option Nat} {S : Nat → Prop} {a : Addr} {v : Value}
end
namespace Kd
section
variable {α : Type} {d : Kd α} {e base n m : Nat} {ok : Nat → Prop} {w w' : World} {v : Value} {A : Option Addr} {xs : List α}
end
end Kd
end Go.Proofs.YtdhkmdgieflioaaDoorW.PrintWords
namespace Go.Proofs.YtdhkmdgieflioaaDoorW.PrintWords
open Go.RowKit
section
variable {P : Program} {d : Nat} {xs ys : Array Value} {f : Field} {fs : List Field} {a b : Value} {r s : Bool} {w : World}
theorem eqf_last (hn : (f.name == "_") = false) (ha : (part f.type xs f.offset).run P w = .ok a w) (hb : (part f.type ys f.offset).run P w = .ok b w) (he : (Op.equalIn d f.type a b).run P w = .ok r w) : (Op.eqFields d xs ys [f]).run P w = .ok r w := by
  have hn' : f.name ≠ "_" := by simpa using hn
  simp only [Op.eqFields, if_pos hn', Sem.run_bind, ha, hb, he, Result.andThen_ok]
  cases r <;> simp
theorem eqf_cons (hn : (f.name == "_") = false) (ha : (part f.type xs f.offset).run P w = .ok a w) (hb : (part f.type ys f.offset).run P w = .ok b w) (he : (Op.equalIn d f.type a b).run P w = .ok r w) (hr : (Op.eqFields d xs ys fs).run P w = .ok s w) : (Op.eqFields d xs ys (f :: fs)).run P w = .ok (r && s) w := by
  have hn' : f.name ≠ "_" := by simpa using hn
  rw [Op.eqFields]
  simp only [if_pos hn', Sem.run_bind, ha, hb, he, Result.andThen_ok]
  cases r
  · simp
  · simpa using hr
theorem eqA_of {t : TypeId} {fs : Array Field} (hu : P.underlying t = some (.struct fs)) (hp : P.stoodInHeld t = false) (h : (Op.eqFields d xs ys fs.toList).run P w = .ok r w) : (Op.equalIn (d + 1) t (.agg xs) (.agg ys)).run P w = .ok r w := by
  have hf : P.fieldsOf t = fs := by simp [Program.fieldsOf, hu]
  rw [run_equalIn_struct (P := P) w d t xs ys (by rw [hf]; exact hu) hp, hf]
  exact h
end
end Go.Proofs.YtdhkmdgieflioaaDoorW.PrintWords
namespace Go.Proofs.YtdhkmdgieflioaaDoorW.PrintWords
theorem Reps.one {α : Type} {R : α → List Value → Prop} {ps : List α} {cs : List Value} {p : α} {v : Value} (hp : R p [v]) (h : Reps R 1 ps cs) : Reps R 1 (p :: ps) (v :: cs) := by
  refine ⟨by simp [h.1], fun j q hq => ?_⟩
  cases j with
  | zero =>
    simp only [List.getElem?_cons_zero, Option.some.injEq] at hq
    subst hq
    simpa using hp
  | succ j =>
    simp only [List.getElem?_cons_succ] at hq
    have h1 := h.2 j q hq
    simpa [Nat.mul_one] using h1
theorem Reps.front {α : Type} {R : α → List Value → Prop} {size : Nat} {ps : List α} {cs c all : List Value} {p : α} (hp : R p c) (hc : c.length = size) (h : Reps R size ps cs) (ha : c ++ cs = all) : Reps R size (p :: ps) all := by
  subst ha
  refine ⟨by rw [List.length_append, hc, h.1, List.length_cons, Nat.succ_mul, Nat.add_comm], fun j q hq => ?_⟩
  cases j with
  | zero =>
    simp only [List.getElem?_cons_zero, Option.some.injEq] at hq
    subst hq
    rw [Nat.zero_mul, List.drop_zero, List.take_append_of_le_length (by omega), List.take_of_length_le (by omega)]
    exact hp
  | succ j =>
    simp only [List.getElem?_cons_succ] at hq
    have h1 := h.2 j q hq
    rw [Nat.succ_mul, List.drop_append, List.drop_of_length_le (by rw [hc]; exact Nat.le_add_left _ _), List.nil_append, hc, Nat.add_sub_cancel]
    exact h1
theorem Reps.c2 {α : Type} {R : α → List Value → Prop} {ps : List α} {cs : List Value} {p : α} {va vb : Value} (hp : R p [va, vb]) (h : Reps R 2 ps cs) : Reps R 2 (p :: ps) (va :: vb :: cs) := Reps.front hp rfl h rfl
theorem Reps.c3 {α : Type} {R : α → List Value → Prop} {ps : List α} {cs : List Value} {p : α} {va vb vc : Value} (hp : R p [va, vb, vc]) (h : Reps R 3 ps cs) : Reps R 3 (p :: ps) (va :: vb :: vc :: cs) := Reps.front hp rfl h rfl
theorem Reps.c4 {α : Type} {R : α → List Value → Prop} {ps : List α} {cs : List Value} {p : α} {va vb vc vd : Value} (hp : R p [va, vb, vc, vd]) (h : Reps R 4 ps cs) : Reps R 4 (p :: ps) (va :: vb :: vc :: vd :: cs) := Reps.front hp rfl h rfl
theorem Reps.c5 {α : Type} {R : α → List Value → Prop} {ps : List α} {cs : List Value} {p : α} {va vb vc vd ve : Value} (hp : R p [va, vb, vc, vd, ve]) (h : Reps R 5 ps cs) : Reps R 5 (p :: ps) (va :: vb :: vc :: vd :: ve :: cs) := Reps.front hp rfl h rfl
theorem Reps.c6 {α : Type} {R : α → List Value → Prop} {ps : List α} {cs : List Value} {p : α} {va vb vc vd ve vf : Value} (hp : R p [va, vb, vc, vd, ve, vf]) (h : Reps R 6 ps cs) : Reps R 6 (p :: ps) (va :: vb :: vc :: vd :: ve :: vf :: cs) := Reps.front hp rfl h rfl
theorem Reps.c7 {α : Type} {R : α → List Value → Prop} {ps : List α} {cs : List Value} {p : α} {va vb vc vd ve vf vg : Value} (hp : R p [va, vb, vc, vd, ve, vf, vg]) (h : Reps R 7 ps cs) : Reps R 7 (p :: ps) (va :: vb :: vc :: vd :: ve :: vf :: vg :: cs) := Reps.front hp rfl h rfl
theorem Reps.c8 {α : Type} {R : α → List Value → Prop} {ps : List α} {cs : List Value} {p : α} {va vb vc vd ve vf vg vh : Value} (hp : R p [va, vb, vc, vd, ve, vf, vg, vh]) (h : Reps R 8 ps cs) : Reps R 8 (p :: ps) (va :: vb :: vc :: vd :: ve :: vf :: vg :: vh :: cs) := Reps.front hp rfl h rfl
theorem Reps.c9 {α : Type} {R : α → List Value → Prop} {ps : List α} {cs : List Value} {p : α} {va vb vc vd ve vf vg vh vi : Value} (hp : R p [va, vb, vc, vd, ve, vf, vg, vh, vi]) (h : Reps R 9 ps cs) : Reps R 9 (p :: ps) (va :: vb :: vc :: vd :: ve :: vf :: vg :: vh :: vi :: cs) := Reps.front hp rfl h rfl
theorem Reps.c10 {α : Type} {R : α → List Value → Prop} {ps : List α} {cs : List Value} {p : α} {va vb vc vd ve vf vg vh vi vj : Value} (hp : R p [va, vb, vc, vd, ve, vf, vg, vh, vi, vj]) (h : Reps R 10 ps cs) : Reps R 10 (p :: ps) (va :: vb :: vc :: vd :: ve :: vf :: vg :: vh :: vi :: vj :: cs) := Reps.front hp rfl h rfl
end Go.Proofs.YtdhkmdgieflioaaDoorW.PrintWords
namespace Go.Proofs.YtdhkmdgieflioaaDoorW.PrintLast
def up (b : Nat → Bool) (i : Nat) : Nat → Bool := fun j => if j = i then true else b j
section
variable {P : Program} {ops : Array Oper} {Q : Exit → Act → World → Prop} {md : Region.Mode} {T : Bool × List (List Nat × List Nat)} {B : List Nat} {O : List Nat} {b : Nat → Bool} {i j n : Nat}
end
end Go.Proofs.YtdhkmdgieflioaaDoorW.PrintLast
namespace Go.Proofs.YtdhkmdgieflioaaDoorW.PrintWords
open Go.RowKit
end Go.Proofs.YtdhkmdgieflioaaDoorW.PrintWords
namespace Go.Proofs.YtdhkmdgieflioaaDoorW.PrintLast
section
variable {ops : Array Oper} {a : Act} {o og : Oper} {g : Nat} {t : Tmp} {u : Bool}
end
end Go.Proofs.YtdhkmdgieflioaaDoorW.PrintLast
namespace Go.Proofs.YtdhkmdgieflioaaDoorW.PrintWords
open Go.RowKit
section
variable {P : Program} {ops : Array Oper} {rest : List Oper} {o : Oper} {a : Act} {Q : Exit → Act → World → Prop} {W : World}
theorem gate_guard (hw : Region.wanted o (yielded ops a.tmps) = true) (h : wpList P ops Q ({ o with guard := none } :: rest) a W) : wpList P ops Q (o :: rest) a W := by
  have h1 : Region.wanted { o with guard := none } (yielded ops a.tmps) = true := rfl
  unfold wpList at h ⊢
  rw [if_pos h1] at h
  rw [if_pos hw]
  exact h
end
end Go.Proofs.YtdhkmdgieflioaaDoorW.PrintWords
namespace Go.Proofs.YtdhkmdgieflioaaDoorW.PrintWords
open Go.RowKit
namespace Kd
section
variable {α : Type} {d : Kd α} {e base n cap g : Nat} {ok ok' okp : Nat → Prop} {w w1 W : World} {v v1 : Value} {xs ys : List α}
end
section
variable {P : Program} {ops : Array Oper} {rest : List Oper} {o : Oper} {a : Act} {Q : Exit → Act → World → Prop} {Kc : Act → World → Prop} {α : Type}
end
end Kd
end Go.Proofs.YtdhkmdgieflioaaDoorW.PrintWords
namespace Go.Proofs.YtdhkmdgieflioaaDoorW.PrintMore
open Go.RowKit Go.Proofs.YtdhkmdgieflioaaDoorW.PrintWords
namespace Kd
open Go.Proofs.YtdhkmdgieflioaaDoorW.PrintWords.Kd
end Kd
namespace Kd
open Go.Proofs.YtdhkmdgieflioaaDoorW.PrintWords.Kd
section
variable {α : Type} {d : Kd α} {e base g N : Nat} {ok : Nat → Prop} {W w1 : World} {u v : Value} {xs : List α}
end
end Kd
theorem max2_int (k k' : IntKind) (x y : Int) : Builtin.max2 (.int k x) (.int k' y) = pure (.int k (if x < y then y else x)) := by simp only [Builtin.max2, gt_iff_lt]
theorem min2_int (k k' : IntKind) (x y : Int) : Builtin.min2 (.int k x) (.int k' y) = pure (.int k (if y < x then y else x)) := by simp only [Builtin.min2]
theorem max_two (ats : Array TypeId) (ty : TypeId) (a b : Value) : Builtin.max_ ats ty #[a, b] = (Builtin.max2 a b >>= fun s => pure s) := by simp only [Builtin.max_, List.foldlM_cons, List.foldlM_nil]
theorem min_two (ats : Array TypeId) (ty : TypeId) (a b : Value) : Builtin.min_ ats ty #[a, b] = (Builtin.min2 a b >>= fun s => pure s) := by simp only [Builtin.min_, List.foldlM_cons, List.foldlM_nil]
theorem max_three (ats : Array TypeId) (ty : TypeId) (a b c : Value) : Builtin.max_ ats ty #[a, b, c] = (Builtin.max2 a b >>= fun s => Builtin.max2 s c >>= fun s => pure s) := by simp only [Builtin.max_, List.foldlM_cons, List.foldlM_nil]
theorem min_three (ats : Array TypeId) (ty : TypeId) (a b c : Value) : Builtin.min_ ats ty #[a, b, c] = (Builtin.min2 a b >>= fun s => Builtin.min2 s c >>= fun s => pure s) := by simp only [Builtin.min_, List.foldlM_cons, List.foldlM_nil]
theorem max_four (ats : Array TypeId) (ty : TypeId) (a b c d : Value) : Builtin.max_ ats ty #[a, b, c, d] = (Builtin.max2 a b >>= fun s => Builtin.max2 s c >>= fun s => Builtin.max2 s d >>= fun s => pure s) := by simp only [Builtin.max_, List.foldlM_cons, List.foldlM_nil]
theorem min_four (ats : Array TypeId) (ty : TypeId) (a b c d : Value) : Builtin.min_ ats ty #[a, b, c, d] = (Builtin.min2 a b >>= fun s => Builtin.min2 s c >>= fun s => Builtin.min2 s d >>= fun s => pure s) := by simp only [Builtin.min_, List.foldlM_cons, List.foldlM_nil]
end Go.Proofs.YtdhkmdgieflioaaDoorW.PrintMore
namespace Go.Proofs.YtdhkmdgieflioaaDoorW.PrintWords
open Go.RowKit
section
variable {P : Program} {ops : Array Oper} {rest : List Oper} {o : Oper} {a : Act} {Q : Exit → Act → World → Prop} {W : World}
theorem gate_callee {f : FuncId} {as0 : Array Operand} {ts : Array TypeId} (_ho : o.op = .call { callee := .value (.func f), args := as0, argTypes := ts }) (h : wpList P ops Q (o :: rest) a W) : wpList P ops Q (o :: rest) a W := h
theorem gate_builtin {b : Builtin} {xs : Array Operand} {ts : Array TypeId} (_ho : o.op = .call { callee := .builtin b, args := xs, argTypes := ts }) (h : wpList P ops Q (o :: rest) a W) : wpList P ops Q (o :: rest) a W := h
end
namespace Kd
section
variable {α : Type} {d : Kd α} {e base : Nat} {ok : Nat → Prop} {W w1 : World} {v : Value} {xs : List α}
end
section
variable {α : Type} {d : Kd α} {e base g n cap : Nat} {ok oki okp : Nat → Prop} {W : World} {xs : List α} {i : Int} {c : List Value}
end
section
variable {α : Type} {d : Kd α} {e base b b' g N : Nat} {ok ok1 : Nat → Prop} {W W2 w1 : World} {u v : Value} {xs ys : List α} {S : Nat → Prop}
end
end Kd
end Go.Proofs.YtdhkmdgieflioaaDoorW.PrintWords
namespace Go.Proofs.YtdhkmdgieflioaaDoorW.PrintWords
open Go.RowKit
namespace Kd
def V {α : Type} (d : Kd α) (_e : Nat) (W : World) (_base : Nat) (ok : Nat → Prop) (v : Value) (xs : List α) : Prop := ∃ A c, v = .slice A xs.length c ∧ xs.length ≤ c ∧ F d W ok A xs.length xs
section
variable {α β : Type} {d : Kd α} {e base base' n m c g N' lo hi : Nat} {ok ok' S : Nat → Prop} {w W w1 : World} {A : Option Addr} {ad : Addr} {u v v1 : Value} {xs : List α}
theorem V_nil (d : Kd α) (e : Nat) (W : World) (base : Nat) (ok : Nat → Prop) : V d e W base ok (.slice none 0 0) [] := ⟨none, 0, rfl, Nat.le_refl _, F_nil d W ok⟩
end
end Kd
end Go.Proofs.YtdhkmdgieflioaaDoorW.PrintWords
namespace Go.Proofs.YtdhkmdgieflioaaDoor.F
open Go.RowKit Go.Proofs.YtdhkmdgieflioaaDoorW.PrintWords Go.Proofs.YtdhkmdgieflioaaDoorW.PrintLast Go.Proofs.YtdhkmdgieflioaaDoorW.PrintMore
attribute [local go_sem] max2_int min2_int max_two min_two max_three min_three max_four min_four
set_option linter.unusedVariables false
set_option linter.unusedSimpArgs false
def errW : Option Int → Value
  | none => .nilIface
  | some c => .iface 0 (.int .i64 c)
theorem errW_none : errW none = .nilIface := rfl
theorem errW_some (c : Int) : errW (some c) = .iface 0 (.int .i64 c) := rfl
theorem info3 : (Tryd.prog.info? 3).map (fun i => (i.zero, i.size, i.bytes)) = some (some (.int .i64 0), 1, 8) := by kernel_rfl
theorem info4 : (Tryd.prog.info? 4).map (fun i => (i.zero, i.size, i.bytes)) = some (some (.bool false), 1, 1) := by kernel_rfl
theorem info5 : (Tryd.prog.info? 5).map (fun i => (i.zero, i.size, i.bytes)) = some (some (.int .u8 0), 1, 1) := by kernel_rfl
theorem info9 : (Tryd.prog.info? 9).map (fun i => (i.zero, i.size, i.bytes)) = some (some (.string ⟨#[]⟩), 1, 16) := by kernel_rfl
structure S46 where
  f0 : Int
  f1 : Int
  f2 : Int
  f3 : Int
def z46 : S46 := ⟨(0 : Int), (0 : Int), (0 : Int), (0 : Int)⟩
structure S28 where
  f0 : (List Int)
  f1 : Int
def z28 : S28 := ⟨([] : List Int), (0 : Int)⟩
def k28 : Kd S28 := Kd.iso (Kd.pair (Kd.slice 47 (Kd.int .u32)) (Kd.int .i64)) (fun x : S28 => (x.f0, x.f1))
structure S38 where
  f0 : Int
  f1 : ByteArray
  f2 : Int
end Go.Proofs.YtdhkmdgieflioaaDoor.F
namespace Go.Proofs.YtdhkmdgieflioaaDoor.F
open Go.RowKit Go.Proofs.YtdhkmdgieflioaaDoorW.PrintWords Go.Proofs.YtdhkmdgieflioaaDoorW.PrintLast Go.Proofs.YtdhkmdgieflioaaDoorW.PrintMore
set_option linter.unusedVariables false
set_option linter.unusedSimpArgs false
def kindRows : List (List UInt8 × List UInt8) := [([], []), ([108, 105], [97, 99]), ([108, 117, 105], [97, 99]), ([109, 111, 118], [97, 98]), ([97, 100, 100], [97, 98, 114]), ([115, 117, 98], [97, 98, 114]), ([109, 117, 108], [97, 98, 114]), ([100, 105, 118], [97, 98, 114]), ([109, 111, 100], [97, 98, 114]), ([97, 110, 100], [97, 98, 114]), ([111, 114], [97, 98, 114]), ([120, 111, 114], [97, 98, 114]), ([115, 104, 108], [97, 98, 114]), ([115, 104, 114], [97, 98, 114]), ([108, 116], [97, 98, 114]), ([101, 113], [97, 98, 114]), ([108, 100], [97, 98, 99]), ([115, 116], [97, 98, 99]), ([106, 109, 112], [99]), ([106, 122], [97, 99]), ([106, 110, 122], [97, 99]), ([99, 97, 108, 108], [97, 99]), ([114, 101, 116], [97]), ([103, 101, 116], [97]), ([112, 117, 116], [97]), ([99, 104, 107], [97, 99]), ([104, 97, 108, 116], []), ([108, 100, 99], [97, 98, 99])]
def kindsCells : Array Value := (kindRows.flatMap fun k => [Value.string ⟨k.1.toArray⟩, Value.string ⟨k.2.toArray⟩]).toArray
def codeRows : List (List Int × List UInt8) := [([1, 10, 0, 16], [49, 54]), ([1, 11, 0, 10], [49, 48, 44, 32, 97, 32, 108, 105, 110, 101, 32, 102, 101, 101, 100, 44, 32, 116, 111, 111]), ([23, 1, 0, 0], [116, 104, 101, 32, 110, 101, 120, 116, 32, 98, 121, 116, 101]), ([1, 2, 0, 256], [116, 104, 101, 32, 101, 110, 100, 63]), ([15, 5, 1, 2], []), ([20, 5, 0, 36], [116, 104, 101, 110, 32, 104, 97, 108, 116]), ([1, 2, 0, 35], [97, 32, 110, 111, 116, 101, 63]), ([15, 5, 1, 2], []), ([20, 5, 0, 29], [116, 104, 101, 110, 32, 111, 110, 32, 116, 111, 32, 105, 116, 115, 32, 101, 110, 100]), ([1, 2, 0, 48], [102, 114, 111, 109, 32, 48, 32, 116, 111, 32, 57, 63]), ([5, 6, 1, 2], []), ([14, 5, 6, 11], []), ([20, 5, 0, 21], [116, 104, 101, 110, 32, 97, 32, 100, 105, 103, 105, 116]), ([1, 2, 0, 32], [97, 32, 103, 114, 101, 97, 116, 32, 108, 101, 116, 116, 101, 114, 32, 97, 115, 32, 97, 32, 115, 109, 97, 108, 108, 32, 111, 110, 101]), ([10, 6, 1, 2], []), ([1, 2, 0, 97], [102, 114, 111, 109, 32, 97, 32, 116, 111, 32, 102, 63]), ([5, 6, 6, 2], []), ([1, 2, 0, 6], []), ([14, 5, 6, 2], []), ([19, 5, 0, 2], [101, 108, 115, 101, 32, 116, 104, 101, 32, 110, 101, 120, 116, 32, 98, 121, 116, 101]), ([4, 6, 6, 11], [49, 48, 32, 116, 111, 32, 49, 53]), ([20, 4, 0, 25], [116, 104, 101, 32, 108, 111, 119, 101, 114, 32, 111, 110, 101, 63]), ([6, 3, 6, 10], [116, 104, 101, 32, 104, 105, 103, 104, 101, 114, 32, 111, 110, 101]), ([1, 4, 0, 1], []), ([18, 0, 0, 2], []), ([4, 3, 3, 6], [98, 111, 116, 104]), ([24, 3, 0, 0], [97, 114, 101, 32, 97, 32, 98, 121, 116, 101]), ([1, 4, 0, 0], []), ([18, 0, 0, 2], []), ([23, 1, 0, 0], [97, 32, 110, 111, 116, 101, 39, 115, 32, 110, 101, 120, 116, 32, 98, 121, 116, 101]), ([1, 2, 0, 256], [116, 104, 101, 32, 101, 110, 100, 63]), ([15, 5, 1, 2], []), ([20, 5, 0, 36], [116, 104, 101, 110, 32, 104, 97, 108, 116]), ([15, 5, 1, 11], [97, 32, 108, 105, 110, 101, 32, 102, 101, 101, 100, 63]), ([19, 5, 0, 29], [110, 111, 58, 32, 111, 110]), ([18, 0, 0, 2], [121, 101, 115]), ([26, 0, 0, 0], [100, 111, 110, 101])]
def codeCells : Array Value := (codeRows.flatMap fun k => k.1.map (Value.int .i64) ++ [Value.string ⟨k.2.toArray⟩]).toArray
structure GK (w : World) : Prop where mk :: (out : w.var? Tryd.prog "seedcorn/inst.kinds" = some kindsCells)
structure GC (w : World) : Prop where mk :: (out : w.var? Tryd.prog "seedcorn/seed.code" = some codeCells)
structure GT (w : World) : Prop where mk :: (out : Lib.TabIs Tryd.prog w "internal/strconv.uint64pow10" .u64 Lib.pow10Tab)
theorem g_kinds : Tryd.prog.globalNamed "seedcorn/inst.kinds" = some 0 := by kernel_rfl
theorem g_code : Tryd.prog.globalNamed "seedcorn/seed.code" = some 1 := by kernel_rfl
theorem g_pow : Tryd.prog.globalNamed "internal/strconv.uint64pow10" = some 2 := by kernel_rfl
theorem GK.below {w w' : World} (h : GK w) (hb : Below w.heap.size w w') : GK w' := ⟨Go.Joins.var_stays g_kinds h.out hb (Nat.le_refl _)⟩
theorem GC.below {w w' : World} (h : GC w) (hb : Below w.heap.size w w') : GC w' := ⟨Go.Joins.var_stays g_code h.out hb (Nat.le_refl _)⟩
theorem GT.below {w w' : World} (h : GT w) (hb : Below w.heap.size w w') : GT w' := ⟨Go.Joins.tab_stays g_pow h.out hb (Nat.le_refl _)⟩
def partsOf (op : Int) : ByteArray := ⟨((kindRows.getD op.toNat ([], [])).2).toArray⟩
def nameOf (op : Int) : ByteArray := if 0 ≤ op ∧ op < 28 then ⟨((kindRows.getD op.toNat ([], [])).1).toArray⟩ else ⟨#[]⟩
end Go.Proofs.YtdhkmdgieflioaaDoor.F
namespace Go.Proofs.YtdhkmdgieflioaaDoor
open Go.ChangeShapes Go.WideShapes Go.ChangeAt Go.RowKit
set_option linter.unusedVariables false
def RowOf (k : IntKind) (w : World) (a : Option Addr) (len cap : Nat) (zs : List Int) : Prop :=
  (a = none ∧ len = 0 ∧ cap = 0 ∧ zs = []) ∨ ∃ x, a = some x ∧ len ≤ cap ∧ cap ≤ maxLen ∧ zs.length = cap ∧ (∀ i, i < zs.length → w.cell? (x.add i) = some (.int k (zs.getD i 0))) ∧ ∀ n ∈ zs, (Lit.int k n).wf = true
section
variable {H : Type} {enc : TypeId × Value → H} {w : World} {base : Nat} {held : Bool}
set_option maxRecDepth 100000 in
theorem open_row {fuel : Nat} {v : Value} {x : DataW H × List MemPlace} (h : DataW.trod enc Tryd.prog w base (fun _ => true) held fuel 26 [v] = some x) :
    ∃ a len cap zs, v = .slice a len cap ∧ RowOf .u32 w a len cap zs := by
  rcases open_ints Tryd.underlying26 Tryd.underlying47 (by kernel_rfl) h with ⟨hcs, _⟩ | ⟨y, l, c, zs, hcs, _, hl, hm, hz, _, hcell, hwz⟩
  · simp only [List.cons.injEq, and_true] at hcs
    exact ⟨none, 0, 0, [], hcs, .inl ⟨rfl, rfl, rfl, rfl⟩⟩
  · simp only [List.cons.injEq, and_true] at hcs
    exact ⟨some y, l, c, zs, hcs, .inr ⟨y, rfl, hl, hm, by simpa using hz, hcell, hwz⟩⟩
set_option maxRecDepth 100000 in
theorem open_img {r : Reach} {b0 : Nat} {v : Value} {d : DataW H} {p : List MemPlace} (hv : Value.okWide Tryd.prog w r b0 28 v) (h : DataW.Trod enc Tryd.prog w base (fun _ => true) held 28 v d p) :
    ∃ a len cap zs n, v = .agg #[.slice a len cap, .int .i64 n] ∧ RowOf .u32 w a len cap zs ∧ (Lit.int .i64 n).wf = true := by
  obtain ⟨v0, v1, y0, y1, n, rfl, rfl, rfl, h0, h1⟩ := Go.Joins.open_agg2 Tryd.underlying28 (by kernel_rfl) (by kernel_rfl) hv h
  obtain ⟨m, e1, x1, w1⟩ := DataW.trod_int Tryd.underlying3 h1
  simp only [List.cons.injEq, and_true] at e1
  subst e1
  obtain ⟨a, len, cap, zs, rfl, hr⟩ := open_row h0
  exact ⟨a, len, cap, zs, m, rfl, hr, w1⟩
end
end Go.Proofs.YtdhkmdgieflioaaDoor
namespace Go.Proofs
open Go.Shelf
def Tryd.lays169_ren : Go.Shelf.Ren := ⟨fun | 169 => 74 | n => n, fun | 70 => 79 | 9 => 9 | 0 => 0 | 72 => 81 | 37 => 72 | 127 => 115 | 3 => 3 | 5 => 5 | n => n, fun | n => n⟩
theorem Tryd.lays169 : Go.Proofs.Lays.n169 Tryd.prog Tryd.lays169_ren := {
  mixed := by kernel_rfl
  f169 := Tryd.func74.trans (congrArg some (by kernel_rfl))
  t0 := Tryd.underlying0
  a0 := Tryd.isAgg0
  z0 := Tryd.sizeOf0
  v0 := Tryd.zeroValue0
  t3 := Tryd.underlying3
  a3 := Tryd.isAgg3
  z3 := Tryd.sizeOf3
  v3 := Tryd.zeroValue3
  t9 := Tryd.underlying9
  a9 := Tryd.isAgg9
  z9 := Tryd.sizeOf9
  v9 := Tryd.zeroValue9
  t37 := Tryd.underlying72
  a37 := Tryd.isAgg72
  z37 := Tryd.sizeOf72
  v37 := Tryd.zeroValue72
  t70 := Tryd.underlying79
  a70 := Tryd.isAgg79
  z70 := Tryd.sizeOf79
  v70 := Tryd.zeroValue79
  t72 := Tryd.underlying81
  a72 := Tryd.isAgg81
  z72 := Tryd.sizeOf81
  v72 := Tryd.zeroValue81
  t127 := Tryd.underlying115
  a127 := Tryd.isAgg115
  z127 := Tryd.sizeOf115
  v127 := Tryd.zeroValue115 }
theorem Tryd.Builder_Extra_169 : Builder.Extra Tryd.prog Tryd.lays169_ren := {
  sizeBuilder := by kernel_rfl
  liesBuilder := by kernel_rfl
  t5 := Tryd.underlying5
  a5 := Tryd.isAgg5
  z5 := Tryd.sizeOf5
  v5 := Tryd.zeroValue5
  infoByte := by kernel_rfl
  cellsByte := by kernel_rfl
  sizeByte := by kernel_rfl
  neB5 := by decide }
def Tryd.lays156_ren : Go.Shelf.Ren := ⟨fun | 156 => 80 | 165 => 102 | 166 => 70 | 169 => 74 | 240 => 97 | 241 => 125 | 276 => 121 | 277 => 139 | n => n, fun | 31 => 65 | 9 => 9 | 3 => 3 | 4 => 4 | 0 => 0 | 20 => 20 | 72 => 81 | 76 => 84 | 70 => 79 | 37 => 72 | 75 => 83 | 127 => 115 | 164 => 134 | 5 => 5 | 80 => 24 | n => n, fun | n => n⟩
theorem Tryd.lays156 : Go.Proofs.Lays.n156 Tryd.prog Tryd.lays156_ren := {
  mixed := by kernel_rfl
  f156 := Tryd.func80.trans (congrArg some (by kernel_rfl))
  f165 := Tryd.func102.trans (congrArg some (by kernel_rfl))
  f166 := Tryd.func70.trans (congrArg some (by kernel_rfl))
  f169 := Tryd.func74.trans (congrArg some (by kernel_rfl))
  f240 := Tryd.func97.trans (congrArg some (by kernel_rfl))
  f241 := Tryd.func125.trans (congrArg some (by kernel_rfl))
  f276 := Tryd.func121.trans (congrArg some (by kernel_rfl))
  f277 := Tryd.func139.trans (congrArg some (by kernel_rfl))
  t0 := Tryd.underlying0
  a0 := Tryd.isAgg0
  z0 := Tryd.sizeOf0
  v0 := Tryd.zeroValue0
  t3 := Tryd.underlying3
  a3 := Tryd.isAgg3
  z3 := Tryd.sizeOf3
  v3 := Tryd.zeroValue3
  t4 := Tryd.underlying4
  a4 := Tryd.isAgg4
  z4 := Tryd.sizeOf4
  v4 := Tryd.zeroValue4
  t9 := Tryd.underlying9
  a9 := Tryd.isAgg9
  z9 := Tryd.sizeOf9
  v9 := Tryd.zeroValue9
  t20 := Tryd.underlying20
  a20 := Tryd.isAgg20
  z20 := Tryd.sizeOf20
  v20 := Tryd.zeroValue20
  t31 := Tryd.underlying65
  a31 := Tryd.isAgg65
  z31 := Tryd.sizeOf65
  v31 := Tryd.zeroValue65
  t37 := Tryd.underlying72
  a37 := Tryd.isAgg72
  z37 := Tryd.sizeOf72
  v37 := Tryd.zeroValue72
  t70 := Tryd.underlying79
  a70 := Tryd.isAgg79
  z70 := Tryd.sizeOf79
  v70 := Tryd.zeroValue79
  t72 := Tryd.underlying81
  a72 := Tryd.isAgg81
  z72 := Tryd.sizeOf81
  v72 := Tryd.zeroValue81
  t75 := Tryd.underlying83
  a75 := Tryd.isAgg83
  z75 := Tryd.sizeOf83
  v75 := Tryd.zeroValue83
  t76 := Tryd.underlying84
  a76 := Tryd.isAgg84
  z76 := Tryd.sizeOf84
  v76 := Tryd.zeroValue84
  t127 := Tryd.underlying115
  a127 := Tryd.isAgg115
  z127 := Tryd.sizeOf115
  v127 := Tryd.zeroValue115
  t164 := Tryd.underlying134
  a164 := Tryd.isAgg134
  z164 := Tryd.sizeOf134
  v164 := Tryd.zeroValue134 }
theorem Tryd.Builder_Extra_156 : Builder.Extra Tryd.prog Tryd.lays156_ren := {
  sizeBuilder := by kernel_rfl
  liesBuilder := by kernel_rfl
  t5 := Tryd.underlying5
  a5 := Tryd.isAgg5
  z5 := Tryd.sizeOf5
  v5 := Tryd.zeroValue5
  infoByte := by kernel_rfl
  cellsByte := by kernel_rfl
  sizeByte := by kernel_rfl
  neB5 := by decide }
open Go.RowKit in
theorem Tryd.strings_Join (bk o c : Nat) (xs : List ByteArray) (sep : ByteArray) (w : World) (hcells : ∀ (j : Nat) x, xs[j]? = some x → w.cell? ⟨bk, o + j, none⟩ = some (.string x)) (hbk : bk < w.heap.size) (hN : xs.length ≤ 140737488355328) (hcap : xs.length ≤ c) (hlen : (Lib.join (xs.map (·.data.toList)) sep.data.toList).length ≤ 140737488355328) :
    Calls Tryd.prog 80 #[.slice (some ⟨bk, o, none⟩) xs.length c, .string sep] w fun e w' => e = .returned (.string ⟨(Lib.join (xs.map (·.data.toList)) sep.data.toList).toArray⟩) ∧ Below w.heap.size w w' := Any.strings_Join Tryd.lays156 Tryd.Builder_Extra_156 bk o c xs sep w hcells hbk hN hcap hlen
def Tryd.lays137_ren : Go.Shelf.Ren := ⟨fun | 137 => 99 | 217 => 123 | 266 => 138 | n => n, fun | 9 => 9 | 5 => 5 | 3 => 3 | n => n, fun | n => n⟩
theorem Tryd.lays137 : Go.Proofs.Lays.n137 Tryd.prog Tryd.lays137_ren := {
  mixed := by kernel_rfl
  f137 := Tryd.func99.trans (congrArg some (by kernel_rfl))
  f217 := Tryd.func123.trans (congrArg some (by kernel_rfl))
  f266 := Tryd.func138.trans (congrArg some (by kernel_rfl))
  t3 := Tryd.underlying3
  a3 := Tryd.isAgg3
  z3 := Tryd.sizeOf3
  v3 := Tryd.zeroValue3
  t5 := Tryd.underlying5
  a5 := Tryd.isAgg5
  z5 := Tryd.sizeOf5
  v5 := Tryd.zeroValue5
  t9 := Tryd.underlying9
  a9 := Tryd.isAgg9
  z9 := Tryd.sizeOf9
  v9 := Tryd.zeroValue9 }
open Go.RowKit in
theorem Tryd.strings_IndexByte (s : ByteArray) (c : Int) (w : World) :
    Calls Tryd.prog 99 #[.string s, .int .u8 c] w fun e w' => e = .returned (.int .i64 (Lib.indexByte s.data.toList c.toNat.toUInt8)) ∧ w' = w := Any.strings_IndexByte Tryd.lays137 s c w
open Go.RowKit in
theorem Tryd.Builder_String_any_k (B b : Nat) (l : List UInt8) (w : World) (h : Lib.IsBuilderF 81 5 B b (Lib.byteCells l) w) (hBw : B ≤ w.heap.size) :
    Calls Tryd.prog 74 #[.pointer (some ⟨b, 0, none⟩)] w fun e w' => e = .returned (.string ⟨l.toArray⟩) ∧ (Lib.IsBuilderF 81 5 B b (Lib.byteCells l) w' ∧ Below B w w' ∧ Lib.OthersKept 5 (some b) w w') := Any.Builder_String_any_k Tryd.lays169 Tryd.Builder_Extra_169 B b l w h hBw
def Tryd.laysM171_ren : Go.Shelf.Ren := ⟨fun | 171 => 79 | 243 => 101 | 246 => 124 | 283 => 126 | 284 => 127 | 285 => 128 | 286 => 129 | 129 => 120 | 317 => 140 | 318 => 141 | 319 => 142 | 320 => 143 | 337 => 148 | 338 => 149 | n => n, fun | 3 => 3 | 9 => 9 | 2 => 2 | 4 => 4 | 171 => 137 | 0 => 0 | 53 => 96 | 37 => 72 | 5 => 5 | 173 => 139 | 212 => 154 | 51 => 47 | 20 => 20 | 213 => 155 | 46 => 59 | 232 => 164 | 233 => 165 | n => n, fun | 17 => 2 | 18 => 4 | 19 => 5 | n => n⟩
theorem Tryd.laysM171 : Go.Proofs.LaysM.n171 Tryd.prog Tryd.laysM171_ren := {
  mixed := by kernel_rfl
  f129 := Tryd.func120.trans (congrArg some (by kernel_rfl))
  f171 := Tryd.func79.trans (congrArg some (by kernel_rfl))
  f243 := Tryd.func101.trans (congrArg some (by kernel_rfl))
  f246 := Tryd.func124.trans (congrArg some (by kernel_rfl))
  f283 := Tryd.func126.trans (congrArg some (by kernel_rfl))
  f284 := Tryd.func127.trans (congrArg some (by kernel_rfl))
  f285 := Tryd.func128.trans (congrArg some (by kernel_rfl))
  f286 := Tryd.func129.trans (congrArg some (by kernel_rfl))
  f317 := Tryd.func140.trans (congrArg some (by kernel_rfl))
  f318 := Tryd.func141.trans (congrArg some (by kernel_rfl))
  f319 := Tryd.func142.trans (congrArg some (by kernel_rfl))
  f320 := Tryd.func143.trans (congrArg some (by kernel_rfl))
  f337 := Tryd.func148.trans (congrArg some (by kernel_rfl))
  f338 := Tryd.func149.trans (congrArg some (by kernel_rfl))
  t0 := Tryd.underlying0
  a0 := Tryd.isAgg0
  z0 := Tryd.sizeOf0
  v0 := Tryd.zeroValue0
  t2 := Tryd.underlying2
  a2 := Tryd.isAgg2
  z2 := Tryd.sizeOf2
  v2 := Tryd.zeroValue2
  t3 := Tryd.underlying3
  a3 := Tryd.isAgg3
  z3 := Tryd.sizeOf3
  v3 := Tryd.zeroValue3
  t4 := Tryd.underlying4
  a4 := Tryd.isAgg4
  z4 := Tryd.sizeOf4
  v4 := Tryd.zeroValue4
  t5 := Tryd.underlying5
  a5 := Tryd.isAgg5
  z5 := Tryd.sizeOf5
  v5 := Tryd.zeroValue5
  t9 := Tryd.underlying9
  a9 := Tryd.isAgg9
  z9 := Tryd.sizeOf9
  v9 := Tryd.zeroValue9
  t20 := Tryd.underlying20
  a20 := Tryd.isAgg20
  z20 := Tryd.sizeOf20
  v20 := Tryd.zeroValue20
  t37 := Tryd.underlying72
  a37 := Tryd.isAgg72
  z37 := Tryd.sizeOf72
  v37 := Tryd.zeroValue72
  t46 := Tryd.underlying59
  a46 := Tryd.isAgg59
  z46 := Tryd.sizeOf59
  v46 := Tryd.zeroValue59
  t51 := Tryd.underlying47
  a51 := Tryd.isAgg47
  z51 := Tryd.sizeOf47
  v51 := Tryd.zeroValue47
  t53 := Tryd.underlying96
  a53 := Tryd.isAgg96
  z53 := Tryd.sizeOf96
  v53 := Tryd.zeroValue96
  t171 := Tryd.underlying137
  a171 := Tryd.isAgg137
  z171 := Tryd.sizeOf137
  v171 := Tryd.zeroValue137
  t173 := Tryd.underlying139
  a173 := Tryd.isAgg139
  z173 := Tryd.sizeOf139
  v173 := Tryd.zeroValue139
  t212 := Tryd.underlying154
  a212 := Tryd.isAgg154
  z212 := Tryd.sizeOf154
  v212 := Tryd.zeroValue154
  t213 := Tryd.underlying155
  a213 := Tryd.isAgg155
  z213 := Tryd.sizeOf155
  t232 := Tryd.underlying164
  a232 := Tryd.isAgg164
  z232 := Tryd.sizeOf164
  v232 := Tryd.zeroValue164
  t233 := Tryd.underlying165
  a233 := Tryd.isAgg165
  z233 := Tryd.sizeOf165
  v233 := Tryd.zeroValue165
  g17 := by kernel_rfl
  g18 := by kernel_rfl
  g19 := by kernel_rfl
  i0 := by kernel_rfl
  i2 := by kernel_rfl
  i3 := by kernel_rfl
  i4 := by kernel_rfl
  i5 := by kernel_rfl
  i9 := by kernel_rfl
  i20 := by kernel_rfl
  i37 := by kernel_rfl
  i46 := by kernel_rfl
  i51 := by kernel_rfl
  i53 := by kernel_rfl
  i171 := by kernel_rfl
  i173 := by kernel_rfl
  i212 := by kernel_rfl
  i232 := by kernel_rfl
  i233 := by kernel_rfl
  m17 := by kernel_rfl
  m18 := by kernel_rfl
  m19 := by kernel_rfl }
open Go.RowKit Go.Sort Go.Lib in
theorem Tryd.strconv_Itoa (n : Int) (h0 : -9223372036854775808 ≤ n) (h1 : n ≤ 9223372036854775807) (w : World) (htab : Lib.TabIs Tryd.prog w "internal/strconv.uint64pow10" .u64 Lib.pow10Tab) :
    Calls Tryd.prog 79 #[.int .i64 n] w fun e w' => e = .returned (.string ⟨(Lib.itoa n).toArray⟩) ∧ ∃ k os, w' = grow (w.drewN k) os := Any.strconv_Itoa Tryd.laysM171 n h0 h1 w htab
def Tryd.lays189_ren : Go.Shelf.Ren := ⟨fun | 189 => 67 | 125 => 96 | 257 => 95 | 128 => 119 | 129 => 120 | 294 => 110 | 295 => 111 | 296 => 112 | 297 => 113 | 298 => 114 | 299 => 115 | 216 => 116 | 300 => 117 | 301 => 118 | 328 => 132 | 329 => 133 | 330 => 134 | 331 => 135 | 332 => 136 | 215 => 137 | 343 => 147 | n => n, fun | 28 => 42 | 3 => 3 | 46 => 59 | 0 => 0 | 51 => 47 | 53 => 96 | 4 => 4 | 183 => 126 | 182 => 125 | 131 => 104 | 5 => 5 | 9 => 9 | 218 => 146 | 222 => 150 | 228 => 161 | 229 => 162 | n => n, fun | n => n⟩
theorem Tryd.lays189 : Go.Proofs.Lays.n189 Tryd.prog Tryd.lays189_ren := {
  mixed := by kernel_rfl
  f125 := Tryd.func96.trans (congrArg some (by kernel_rfl))
  f128 := Tryd.func119.trans (congrArg some (by kernel_rfl))
  f129 := Tryd.func120.trans (congrArg some (by kernel_rfl))
  f189 := Tryd.func67.trans (congrArg some (by kernel_rfl))
  f215 := Tryd.func137.trans (congrArg some (by kernel_rfl))
  f216 := Tryd.func116.trans (congrArg some (by kernel_rfl))
  f257 := Tryd.func95.trans (congrArg some (by kernel_rfl))
  f294 := Tryd.func110.trans (congrArg some (by kernel_rfl))
  f295 := Tryd.func111.trans (congrArg some (by kernel_rfl))
  f296 := Tryd.func112.trans (congrArg some (by kernel_rfl))
  f297 := Tryd.func113.trans (congrArg some (by kernel_rfl))
  f298 := Tryd.func114.trans (congrArg some (by kernel_rfl))
  f299 := Tryd.func115.trans (congrArg some (by kernel_rfl))
  f300 := Tryd.func117.trans (congrArg some (by kernel_rfl))
  f301 := Tryd.func118.trans (congrArg some (by kernel_rfl))
  f328 := Tryd.func132.trans (congrArg some (by kernel_rfl))
  f329 := Tryd.func133.trans (congrArg some (by kernel_rfl))
  f330 := Tryd.func134.trans (congrArg some (by kernel_rfl))
  f331 := Tryd.func135.trans (congrArg some (by kernel_rfl))
  f332 := Tryd.func136.trans (congrArg some (by kernel_rfl))
  f343 := Tryd.func147.trans (congrArg some (by kernel_rfl))
  t0 := Tryd.underlying0
  a0 := Tryd.isAgg0
  z0 := Tryd.sizeOf0
  v0 := Tryd.zeroValue0
  t3 := Tryd.underlying3
  a3 := Tryd.isAgg3
  z3 := Tryd.sizeOf3
  v3 := Tryd.zeroValue3
  t4 := Tryd.underlying4
  a4 := Tryd.isAgg4
  z4 := Tryd.sizeOf4
  v4 := Tryd.zeroValue4
  t5 := Tryd.underlying5
  a5 := Tryd.isAgg5
  z5 := Tryd.sizeOf5
  v5 := Tryd.zeroValue5
  t9 := Tryd.underlying9
  a9 := Tryd.isAgg9
  z9 := Tryd.sizeOf9
  v9 := Tryd.zeroValue9
  t28 := Tryd.underlying42
  a28 := Tryd.isAgg42
  z28 := Tryd.sizeOf42
  v28 := Tryd.zeroValue42
  t46 := Tryd.underlying59
  a46 := Tryd.isAgg59
  z46 := Tryd.sizeOf59
  v46 := Tryd.zeroValue59
  t51 := Tryd.underlying47
  a51 := Tryd.isAgg47
  z51 := Tryd.sizeOf47
  v51 := Tryd.zeroValue47
  t53 := Tryd.underlying96
  a53 := Tryd.isAgg96
  z53 := Tryd.sizeOf96
  v53 := Tryd.zeroValue96
  t131 := Tryd.underlying104
  a131 := Tryd.isAgg104
  z131 := Tryd.sizeOf104
  v131 := Tryd.zeroValue104
  t182 := Tryd.underlying125
  a182 := Tryd.isAgg125
  z182 := Tryd.sizeOf125
  v182 := Tryd.zeroValue125
  t183 := Tryd.underlying126
  a183 := Tryd.isAgg126
  z183 := Tryd.sizeOf126
  v183 := Tryd.zeroValue126
  t218 := Tryd.underlying146
  a218 := Tryd.isAgg146
  z218 := Tryd.sizeOf146
  v218 := Tryd.zeroValue146
  t222 := Tryd.underlying150
  a222 := Tryd.isAgg150
  z222 := Tryd.sizeOf150
  v222 := Tryd.zeroValue150
  t228 := Tryd.underlying161
  a228 := Tryd.isAgg161
  z228 := Tryd.sizeOf161
  v228 := Tryd.zeroValue161
  t229 := Tryd.underlying162
  a229 := Tryd.isAgg162
  z229 := Tryd.sizeOf162
  v229 := Tryd.zeroValue162 }
open Go.Sort Go.RowKit in
theorem Tryd.slices_Sort_int (blk off cap : Nat) (zs : List Int) (w : World) (hH : Holds (Value.int .i64) w blk off zs.toArray) (hblk : blk < w.heap.size) (hsz : zs.length < 4611686018427387904) :
    Calls Tryd.prog 67 #[.slice (some ⟨blk, off, none⟩) zs.length cap] w fun e w' =>
      e = .returned (.tuple #[]) ∧ ∃ n os, w' = grow (putRow (Value.int .i64) (Sort.ahead w n) blk off (zs.mergeSort fun x y => decide (x ≤ y)).toArray) os := Any.slices_Sort_int Tryd.lays189 blk off cap zs w hH hblk hsz
def Tryd.lays100_ren : Go.Shelf.Ren := ⟨fun | 100 => 76 | 207 => 100 | n => n, fun | 9 => 9 | 4 => 4 | 3 => 3 | n => n, fun | n => n⟩
theorem Tryd.lays100 : Go.Proofs.Lays.n100 Tryd.prog Tryd.lays100_ren := {
  mixed := by kernel_rfl
  f100 := Tryd.func76.trans (congrArg some (by kernel_rfl))
  f207 := Tryd.func100.trans (congrArg some (by kernel_rfl))
  t3 := Tryd.underlying3
  a3 := Tryd.isAgg3
  z3 := Tryd.sizeOf3
  v3 := Tryd.zeroValue3
  t4 := Tryd.underlying4
  a4 := Tryd.isAgg4
  z4 := Tryd.sizeOf4
  v4 := Tryd.zeroValue4
  t9 := Tryd.underlying9
  a9 := Tryd.isAgg9
  z9 := Tryd.sizeOf9
  v9 := Tryd.zeroValue9 }
open Go.RowKit Go.Lib in
theorem Tryd.strings_HasSuffix (s p : ByteArray) (w : World) (hs : s.size ≤ 9223372036854775807) :
    Calls Tryd.prog 76 #[.string s, .string p] w fun e w' => e = .returned (.bool (Lib.hasSuffix s.data.toList p.data.toList)) ∧ w' = w := Any.strings_HasSuffix Tryd.lays100 s p w hs
def Tryd.lays102_ren : Go.Shelf.Ren := ⟨fun | 102 => 98 | 209 => 122 | 207 => 100 | n => n, fun | 9 => 9 | 4 => 4 | 3 => 3 | n => n, fun | n => n⟩
theorem Tryd.lays102 : Go.Proofs.Lays.n102 Tryd.prog Tryd.lays102_ren := {
  mixed := by kernel_rfl
  f102 := Tryd.func98.trans (congrArg some (by kernel_rfl))
  f207 := Tryd.func100.trans (congrArg some (by kernel_rfl))
  f209 := Tryd.func122.trans (congrArg some (by kernel_rfl))
  t3 := Tryd.underlying3
  a3 := Tryd.isAgg3
  z3 := Tryd.sizeOf3
  v3 := Tryd.zeroValue3
  t4 := Tryd.underlying4
  a4 := Tryd.isAgg4
  z4 := Tryd.sizeOf4
  v4 := Tryd.zeroValue4
  t9 := Tryd.underlying9
  a9 := Tryd.isAgg9
  z9 := Tryd.sizeOf9
  v9 := Tryd.zeroValue9 }
open Go.RowKit Go.Lib in
theorem Tryd.strings_TrimSuffix (s p : ByteArray) (w : World) (hs : s.size ≤ 9223372036854775807) :
    Calls Tryd.prog 98 #[.string s, .string p] w fun e w' => e = .returned (.string ⟨(Lib.trimSuffix s.data.toList p.data.toList).toArray⟩) ∧ w' = w := Any.strings_TrimSuffix Tryd.lays102 s p w hs
open Go.RowKit Go.Sort in
theorem Tryd.slices_Sort_int_none (p : Option Addr) (cap : Nat) (w : World) :
    Calls Tryd.prog 67 #[.slice p 0 cap] w fun e w' => e = .returned (.tuple #[]) ∧ w' = w := Any.slices_Sort_int_none Tryd.lays189 p cap w
end Go.Proofs
namespace Go.Proofs.YtdhkmdgieflioaaDoor.F
open Go.RowKit Go.Proofs.YtdhkmdgieflioaaDoorW.PrintWords Go.Proofs.YtdhkmdgieflioaaDoorW.PrintLast Go.Proofs.YtdhkmdgieflioaaDoorW.PrintMore
set_option linter.unusedVariables false
set_option linter.unusedSimpArgs false
def hasB (p : ByteArray) (c n m : Int) : Bool := if Lib.indexByte p.data.toList c.toNat.toUInt8 < 0 then n == 0 else if n ≥ 0 then decide (n ≤ m) else false
theorem has_any (p : ByteArray) (c n m : Int) (w : World) :
    Calls Tryd.prog 75 #[.string p, .int .u8 c, .int .i64 n, .int .i64 m] w fun e w' => e = .returned (.bool (hasB p c n m)) ∧ w = w' := by
  generalize hr : hasB p c n m = r
  unfold hasB at hr
  generalize hi : Lib.indexByte p.data.toList c.toNat.toUInt8 = i at hr
  have HI := Lib.hid hi
  clear hi
  by_cases h1 : i < 0
  · rw [if_pos h1] at hr
    subst hr
    go_enter Tryd.func75, Tryd.ntmps75
    go_wp2_with (go_at_call 99; refine (Tryd.strings_IndexByte p c _).mono ?_; rintro e w' ⟨rfl, rfl⟩; rw [HI.out])
    go_ret
    exact ⟨rfl, rfl⟩
  · rw [if_neg h1] at hr
    by_cases h2 : n ≥ 0
    · rw [if_pos h2] at hr
      subst hr
      go_enter Tryd.func75, Tryd.ntmps75
      go_wp2_with (go_at_call 99; refine (Tryd.strings_IndexByte p c _).mono ?_; rintro e w' ⟨rfl, rfl⟩; rw [HI.out])
      go_ret
      exact ⟨rfl, rfl⟩
    · rw [if_neg h2] at hr
      subst hr
      go_enter Tryd.func75, Tryd.ntmps75
      go_wp2_with (go_at_call 99; refine (Tryd.strings_IndexByte p c _).mono ?_; rintro e w' ⟨rfl, rfl⟩; rw [HI.out])
      go_ret
      exact ⟨rfl, rfl⟩
theorem kind_cell {w : World} (h : GK w) (j : Nat) (v : Value) (hj : kindsCells[j]? = some v) : w.cell? ⟨0, j, none⟩ = some v := by
  have := World.var?_cell g_kinds h.out j
  rw [this, hj]
def endsR (p : ByteArray) : Bool := Lib.hasSuffix p.data.toList [114]
def rightB (op a b c : Int) : Bool :=
  if op < 1 ∨ 28 ≤ op then false
  else
    if hasB (partsOf op) 97 a 15 = false then false
    else if hasB (partsOf op) 98 b 15 = false then false
    else if endsR (partsOf op) = true then (if c ≥ 0 then decide (c ≤ 15) else false)
    else hasB (partsOf op) 99 c 65535
def inst_Right.f (a0_0 : Int) (a0_1 : Int) (a0_2 : Int) (a0_3 : Int) : Option Bool := some (rightB a0_0 a0_1 a0_2 a0_3)
set_option maxRecDepth 100000 in
set_option maxHeartbeats 1000000 in
theorem right_lt (op a b c : Int) (w : World) (h1 : op < 1) :
    Calls Tryd.prog 40 #[.agg #[.int .i64 op, .int .i64 a, .int .i64 b, .int .i64 c]] w fun e w' => e = .returned (.bool false) ∧ Below w.heap.size w w' := by
  have hu46 := Tryd.underlying46
  go_enter Tryd.func40, Tryd.ntmps40
  go_wp2_with fail
  go_ret
  exact ⟨rfl, (Below.refl _ _).alloc (Nat.le_refl _) _⟩
set_option maxRecDepth 100000 in
set_option maxHeartbeats 1000000 in
theorem right_ge (op a b c : Int) (w : World) (h1 : 28 ≤ op) :
    Calls Tryd.prog 40 #[.agg #[.int .i64 op, .int .i64 a, .int .i64 b, .int .i64 c]] w fun e w' => e = .returned (.bool false) ∧ Below w.heap.size w w' := by
  have hu46 := Tryd.underlying46
  go_enter Tryd.func40, Tryd.ntmps40
  go_wp2_with fail
  go_ret
  exact ⟨rfl, (Below.refl _ _).alloc (Nat.le_refl _) _⟩
set_option maxRecDepth 100000 in
set_option maxHeartbeats 1000000 in
theorem right_n1 (op a b c : Int) (p : ByteArray) (w : World) (h1 : 1 ≤ op) (h2 : op < 28) (h0 : 0 < w.heap.size) (hs : p.size ≤ 9223372036854775807) (hp : w.cell? ⟨0, op.toNat * 2 + 1, none⟩ = some (.string p)) (H1 : Hid (hasB p 97 a 15 = false)) :
    Calls Tryd.prog 40 #[.agg #[.int .i64 op, .int .i64 a, .int .i64 b, .int .i64 c]] w fun e w' => e = .returned (.bool false) ∧ Below w.heap.size w w' := by
  have hu46 := Tryd.underlying46
  have H2 := Lib.hid (rfl : (0 : Nat) = 0)
  have H3 := Lib.hid (rfl : (0 : Nat) = 0)
  have HE := Lib.hid (rfl : (0 : Nat) = 0)
  go_enter Tryd.func40, Tryd.ntmps40
  go_wp2_with (first | (go_at_call 75; refine (has_any _ _ _ _ _).mono ?_; rintro e w' ⟨rfl, rfl⟩; (first | rw [H1.out] | rw [H2.out] | rw [H3.out])) | (go_at_call 76; refine (Tryd.strings_HasSuffix _ _ _ (by omega)).mono ?_; rintro e w' ⟨rfl, rfl⟩; rw [HE.out]))
  go_ret
  exact ⟨rfl, (Below.refl _ _).alloc (Nat.le_refl _) _⟩
set_option maxRecDepth 100000 in
set_option maxHeartbeats 1000000 in
theorem right_n2 (op a b c : Int) (p : ByteArray) (w : World) (h1 : 1 ≤ op) (h2 : op < 28) (h0 : 0 < w.heap.size) (hs : p.size ≤ 9223372036854775807) (hp : w.cell? ⟨0, op.toNat * 2 + 1, none⟩ = some (.string p)) (H1 : Hid (hasB p 97 a 15 = true)) (H2 : Hid (hasB p 98 b 15 = false)) :
    Calls Tryd.prog 40 #[.agg #[.int .i64 op, .int .i64 a, .int .i64 b, .int .i64 c]] w fun e w' => e = .returned (.bool false) ∧ Below w.heap.size w w' := by
  have hu46 := Tryd.underlying46
  have H3 := Lib.hid (rfl : (0 : Nat) = 0)
  have HE := Lib.hid (rfl : (0 : Nat) = 0)
  go_enter Tryd.func40, Tryd.ntmps40
  go_wp2_with (first | (go_at_call 75; refine (has_any _ _ _ _ _).mono ?_; rintro e w' ⟨rfl, rfl⟩; (first | rw [H1.out] | rw [H2.out] | rw [H3.out])) | (go_at_call 76; refine (Tryd.strings_HasSuffix _ _ _ (by omega)).mono ?_; rintro e w' ⟨rfl, rfl⟩; rw [HE.out]))
  go_ret
  exact ⟨rfl, (Below.refl _ _).alloc (Nat.le_refl _) _⟩
set_option maxRecDepth 100000 in
set_option maxHeartbeats 1000000 in
theorem right_e0 (op a b c : Int) (p : ByteArray) (w : World) (h1 : 1 ≤ op) (h2 : op < 28) (h0 : 0 < w.heap.size) (hs : p.size ≤ 9223372036854775807) (hp : w.cell? ⟨0, op.toNat * 2 + 1, none⟩ = some (.string p)) (H1 : Hid (hasB p 97 a 15 = true)) (H2 : Hid (hasB p 98 b 15 = true)) (HE : Hid (Lib.hasSuffix p.data.toList [114] = true)) (hc : ¬ c ≥ 0) :
    Calls Tryd.prog 40 #[.agg #[.int .i64 op, .int .i64 a, .int .i64 b, .int .i64 c]] w fun e w' => e = .returned (.bool false) ∧ Below w.heap.size w w' := by
  have hu46 := Tryd.underlying46
  have H3 := Lib.hid (rfl : (0 : Nat) = 0)
  go_enter Tryd.func40, Tryd.ntmps40
  go_wp2_with (first | (go_at_call 75; refine (has_any _ _ _ _ _).mono ?_; rintro e w' ⟨rfl, rfl⟩; (first | rw [H1.out] | rw [H2.out] | rw [H3.out])) | (go_at_call 76; refine (Tryd.strings_HasSuffix _ _ _ (by omega)).mono ?_; rintro e w' ⟨rfl, rfl⟩; rw [HE.out]))
  go_ret
  exact ⟨rfl, (Below.refl _ _).alloc (Nat.le_refl _) _⟩
set_option maxRecDepth 100000 in
set_option maxHeartbeats 1000000 in
theorem right_e1 (op a b c : Int) (p : ByteArray) (w : World) (h1 : 1 ≤ op) (h2 : op < 28) (h0 : 0 < w.heap.size) (hs : p.size ≤ 9223372036854775807) (hp : w.cell? ⟨0, op.toNat * 2 + 1, none⟩ = some (.string p)) (H1 : Hid (hasB p 97 a 15 = true)) (H2 : Hid (hasB p 98 b 15 = true)) (HE : Hid (Lib.hasSuffix p.data.toList [114] = true)) (hc : c ≥ 0) :
    Calls Tryd.prog 40 #[.agg #[.int .i64 op, .int .i64 a, .int .i64 b, .int .i64 c]] w fun e w' => e = .returned (.bool (decide (c ≤ 15))) ∧ Below w.heap.size w w' := by
  have hu46 := Tryd.underlying46
  have H3 := Lib.hid (rfl : (0 : Nat) = 0)
  go_enter Tryd.func40, Tryd.ntmps40
  go_wp2_with (first | (go_at_call 75; refine (has_any _ _ _ _ _).mono ?_; rintro e w' ⟨rfl, rfl⟩; (first | rw [H1.out] | rw [H2.out] | rw [H3.out])) | (go_at_call 76; refine (Tryd.strings_HasSuffix _ _ _ (by omega)).mono ?_; rintro e w' ⟨rfl, rfl⟩; rw [HE.out]))
  go_ret
  exact ⟨rfl, (Below.refl _ _).alloc (Nat.le_refl _) _⟩
set_option maxRecDepth 100000 in
set_option maxHeartbeats 1000000 in
theorem right_f (op a b c : Int) (p : ByteArray) (w : World) (h1 : 1 ≤ op) (h2 : op < 28) (h0 : 0 < w.heap.size) (hs : p.size ≤ 9223372036854775807) (hp : w.cell? ⟨0, op.toNat * 2 + 1, none⟩ = some (.string p)) (H1 : Hid (hasB p 97 a 15 = true)) (H2 : Hid (hasB p 98 b 15 = true)) (HE : Hid (Lib.hasSuffix p.data.toList [114] = false)) (r : Bool) (H3 : Hid (hasB p 99 c 65535 = r)) :
    Calls Tryd.prog 40 #[.agg #[.int .i64 op, .int .i64 a, .int .i64 b, .int .i64 c]] w fun e w' => e = .returned (.bool r) ∧ Below w.heap.size w w' := by
  have hu46 := Tryd.underlying46
  go_enter Tryd.func40, Tryd.ntmps40
  go_wp2_with (first | (go_at_call 75; refine (has_any _ _ _ _ _).mono ?_; rintro e w' ⟨rfl, rfl⟩; (first | rw [H1.out] | rw [H2.out] | rw [H3.out])) | (go_at_call 76; refine (Tryd.strings_HasSuffix _ _ _ (by omega)).mono ?_; rintro e w' ⟨rfl, rfl⟩; rw [HE.out]))
  go_ret
  exact ⟨rfl, (Below.refl _ _).alloc (Nat.le_refl _) _⟩
theorem partsOf_size (op : Int) (h1 : 1 ≤ op) (h2 : op < 28) : (partsOf op).size ≤ 9223372036854775807 ∧ kindsCells[op.toNat * 2 + 1]? = some (.string (partsOf op)) := by
  obtain ⟨n, rfl⟩ : ∃ n : Nat, op = n := ⟨op.toNat, by omega⟩
  have h3 : n < 28 := by omega
  clear h2
  have all : ∀ n, n < 28 → (partsOf (n : Nat)).size ≤ 9223372036854775807 ∧ (kindRows.flatMap fun k => [Value.string ⟨k.1.toArray⟩, Value.string ⟨k.2.toArray⟩])[n * 2 + 1]? = some (.string (partsOf (n : Nat))) := by
    intro n hn
    have : n = 0 ∨ n = 1 ∨ n = 2 ∨ n = 3 ∨ n = 4 ∨ n = 5 ∨ n = 6 ∨ n = 7 ∨ n = 8 ∨ n = 9 ∨ n = 10 ∨ n = 11 ∨ n = 12 ∨ n = 13 ∨ n = 14 ∨ n = 15 ∨ n = 16 ∨ n = 17 ∨ n = 18 ∨ n = 19 ∨ n = 20 ∨ n = 21 ∨ n = 22 ∨ n = 23 ∨ n = 24 ∨ n = 25 ∨ n = 26 ∨ n = 27 := by omega
    rcases this with rfl | rfl | rfl | rfl | rfl | rfl | rfl | rfl | rfl | rfl | rfl | rfl | rfl | rfl | rfl | rfl | rfl | rfl | rfl | rfl | rfl | rfl | rfl | rfl | rfl | rfl | rfl | rfl
    all_goals exact ⟨by decide, rfl⟩
  obtain ⟨a1, a2⟩ := all n h3
  exact ⟨a1, by unfold kindsCells; simpa using a2⟩
theorem GK.pos {w : World} (h : GK w) : 0 < w.heap.size := World.block_lt_of_cell? w _ (kind_cell h 0 _ rfl)
theorem inst_Right.calls (a0_0 : Int) (a0_1 : Int) (a0_2 : Int) (a0_3 : Int) (r : Bool) (w : World) (hGK : GK w) (h : inst_Right.f a0_0 a0_1 a0_2 a0_3 = some r) :
    Calls Tryd.prog 40 #[.agg #[.int .i64 a0_0, .int .i64 a0_1, .int .i64 a0_2, .int .i64 a0_3]] w fun e w' => e = .returned (.bool r) ∧ Below w.heap.size w w' := by
  obtain rfl := Option.some.inj h
  unfold rightB
  split
  · rename_i hb
    rcases hb with hb | hb
    · exact right_lt _ _ _ _ _ hb
    · exact right_ge _ _ _ _ _ hb
  · rename_i hb
    obtain ⟨h1, h2⟩ : 1 ≤ a0_0 ∧ a0_0 < 28 := by omega
    obtain ⟨hs, hk⟩ := partsOf_size a0_0 h1 h2
    have hp := kind_cell hGK _ _ hk
    have hpos := hGK.pos
    split
    · rename_i g1
      exact right_n1 _ _ _ _ _ _ h1 h2 hpos hs hp (Lib.hid g1)
    · rename_i g1
      have g1 : hasB (partsOf a0_0) 97 a0_1 15 = true := by simpa using g1
      split
      · rename_i g2
        exact right_n2 _ _ _ _ _ _ h1 h2 hpos hs hp (Lib.hid g1) (Lib.hid g2)
      · rename_i g2
        have g2 : hasB (partsOf a0_0) 98 a0_2 15 = true := by simpa using g2
        split
        · rename_i g3
          split
          · rename_i g4
            exact right_e1 _ _ _ _ _ _ h1 h2 hpos hs hp (Lib.hid g1) (Lib.hid g2) (Lib.hid g3) g4
          · rename_i g4
            exact right_e0 _ _ _ _ _ _ h1 h2 hpos hs hp (Lib.hid g1) (Lib.hid g2) (Lib.hid g3) g4
        · rename_i g3
          have g3 : endsR (partsOf a0_0) = false := by simpa using g3
          exact right_f _ _ _ _ _ _ h1 h2 hpos hs hp (Lib.hid g1) (Lib.hid g2) (Lib.hid g3) _ (Lib.hid rfl)
end Go.Proofs.YtdhkmdgieflioaaDoor.F
namespace Go.Proofs.YtdhkmdgieflioaaDoor.F
open Go.RowKit Go.Proofs.YtdhkmdgieflioaaDoorW.PrintWords Go.Proofs.YtdhkmdgieflioaaDoorW.PrintLast Go.Proofs.YtdhkmdgieflioaaDoorW.PrintMore
attribute [local go_sem] max2_int min2_int max_two min_two max_three min_three max_four min_four
set_option linter.unusedVariables false
set_option linter.unusedSimpArgs false
def inst_Encode.f (a0_0 : Int) (a0_1 : Int) (a0_2 : Int) (a0_3 : Int) : Option (Int × Int) := (inst_Right.f a0_0 a0_1 a0_2 a0_3).bind fun t176 => (if t176 = true then (some (Go.bits .or .u32 (Go.bits .or .u32 (Go.bits .or .u32 ((((a0_0) % 4294967296) * 16777216) % 4294967296) ((((a0_1) % 4294967296) * 1048576) % 4294967296)) ((((a0_2) % 4294967296) * 65536) % 4294967296)) ((a0_3) % 4294967296), 0)) else (some (0, 1)))
set_option maxHeartbeats 8000000 in
set_option maxRecDepth 100000 in
theorem inst_Encode.calls (a0_0 : Int) (a0_1 : Int) (a0_2 : Int) (a0_3 : Int) (r1 : Int) (r2 : Int) (w : World) (hGK : GK w) (h : inst_Encode.f a0_0 a0_1 a0_2 a0_3 = some (r1, r2)) :
    Calls Tryd.prog 38 #[.agg #[.int .i64 a0_0, .int .i64 a0_1, .int .i64 a0_2, .int .i64 a0_3]] w fun e w' => e = .returned (.tuple #[.int .u32 r1, .int .i64 r2]) ∧ Below w.heap.size w w' := by
  have hu46 := Tryd.underlying46
  have HGK := Aside0.mk hGK
  clear hGK
  have HB := Aside0.mk (Below.refl w.heap.size w)
  have H : ((inst_Right.f a0_0 a0_1 a0_2 a0_3).bind fun t176 => (if t176 = true then (some (Go.bits .or .u32 (Go.bits .or .u32 (Go.bits .or .u32 ((((a0_0) % 4294967296) * 16777216) % 4294967296) ((((a0_1) % 4294967296) * 1048576) % 4294967296)) ((((a0_2) % 4294967296) * 65536) % 4294967296)) ((a0_3) % 4294967296), 0)) else (some (0, 1)))) = some (r1, r2) := h
  clear h
  replace H := Option.bind_eq_some_iff.mp H
  obtain ⟨t176, A20, H⟩ := H
  replace H : (if t176 = true then (some (Go.bits .or .u32 (Go.bits .or .u32 (Go.bits .or .u32 ((((a0_0) % 4294967296) * 16777216) % 4294967296) ((((a0_1) % 4294967296) * 1048576) % 4294967296)) ((((a0_2) % 4294967296) * 65536) % 4294967296)) ((a0_3) % 4294967296), 0)) else (some (0, 1))) = some (r1, r2) := H
  have A2 := Aside0.mk A20
  clear A20
  by_cases c3 : t176 = true
  · subst c3
    have H1 : (some (Go.bits .or .u32 (Go.bits .or .u32 (Go.bits .or .u32 ((((a0_0) % 4294967296) * 16777216) % 4294967296) ((((a0_1) % 4294967296) * 1048576) % 4294967296)) ((((a0_2) % 4294967296) * 65536) % 4294967296)) ((a0_3) % 4294967296), 0)) = some (r1, r2) := by rw [if_pos rfl] at H; exact H
    clear H
    have H := H1
    clear H1
    simp only [Option.some.injEq, Prod.mk.injEq] at H
    obtain ⟨rfl, rfl⟩ := H
    go_enter Tryd.func38, Tryd.ntmps38
    go_wp2_with (first | ((with_reducible refine gate_dst (N := 1) rfl ?_); refine box_event ?hg (N := 1) ?hd (cs := #[.int .i64 a0_0, .int .i64 a0_1, .int .i64 a0_2, .int .i64 a0_3]) (t := 46) ?hr ?_; (case hd => rfl); (case hg => rfl); (case hr => first | (go_simp; done) | (go_simp; rfl)); intro gb175 hg w4 hbox hb; have n0_ := Aside0.mk (below_step (by repeat (first | (with_reducible first | exact HB.out | apply below_alloc | apply pw_below_drewN | apply below_drew1) | exact HB.out)) hb); have n1_ := Aside0.mk (hbox); have n2_ := Aside0.mk ((by rw [hg]; exact (below_size (by repeat (first | (with_reducible first | exact HB.out | apply below_alloc | apply pw_below_drewN | apply below_drew1) | exact HB.out))) : w.heap.size ≤ gb175)); have n3_ := Aside0.mk ((by rw [hg]; exact (below_size (by repeat (first | (with_reducible first | exact HB.out | apply below_alloc | apply pw_below_drewN | apply below_drew1) | exact HB.out))) : w.heap.size ≤ gb175)); clear HB; have HB := n0_; have BK175 := n1_; have GW175 := n2_; have GE175 := n3_; clear n0_ n1_ n2_ n3_; clear hb hbox hg; have hcz5_0 : w4.cell? ⟨gb175, 0, none⟩ = some (.int .i64 a0_0) := (blk_cell BK175.out 0).trans rfl; have hcz5_1 : w4.cell? ⟨gb175, 1, none⟩ = some (.int .i64 a0_1) := (blk_cell BK175.out 1).trans rfl; have hcz5_2 : w4.cell? ⟨gb175, 2, none⟩ = some (.int .i64 a0_2) := (blk_cell BK175.out 2).trans rfl; have hcz5_3 : w4.cell? ⟨gb175, 3, none⟩ = some (.int .i64 a0_3) := (blk_cell BK175.out 3).trans rfl; have hfz5_0 := blk_frozen BK175.out 0; have hfz5_1 := blk_frozen BK175.out 1; have hfz5_2 := blk_frozen BK175.out 2; have hfz5_3 := blk_frozen BK175.out 3) | ((with_reducible refine gate_callee (f := 40) rfl ?_); refine goesL_ (some 5) rfl rfl Tryd.func40 (by kernel_rfl) rfl #[.agg #[.int .i64 a0_0, .int .i64 a0_1, .int .i64 a0_2, .int .i64 a0_3]] rfl (by (try simp only [List.map_toArray, List.map_cons, List.map_nil]); first | done | rfl | (simp only [List.length_drop, List.length_take]; rfl)) ?_; (with_reducible refine (inst_Right.calls a0_0 a0_1 a0_2 a0_3 true _ ?side1 A2.out).mono ?_); (case side1 => exact GK.below HGK.out (by repeat (first | (with_reducible first | exact HB.out | apply below_alloc | apply pw_below_drewN | apply below_drew1 | refine below_set ?_ GE175.out) | exact HB.out))); rintro e w6 ⟨rfl, hb⟩; refine ⟨_, rfl, ?_⟩; have n0_ := Aside0.mk (blk_below (g := gb175) (o := .cells #[.int .i64 a0_0, .int .i64 a0_1, .int .i64 a0_2, .int .i64 a0_3] 46 (0, 0)) (by (with_reducible repeat (first | refine blk_drewN ?_ _ | refine blk_drew ?_ | refine blk_alloc ?_ _)); exact BK175.out) hb); have n1_ := Aside0.mk (below_step (by repeat (first | (with_reducible first | exact HB.out | apply below_alloc | apply pw_below_drewN | apply below_drew1 | refine below_set ?_ GE175.out) | exact HB.out)) hb); clear BK175; clear HB; have BK175 := n0_; have HB := n1_; clear n0_ n1_; (try clear hb); (try clear hb2); (try clear hk); (try clear hi); have hcz7_0 : w6.cell? ⟨gb175, 0, none⟩ = some (.int .i64 a0_0) := (blk_cell BK175.out 0).trans rfl; have hcz7_1 : w6.cell? ⟨gb175, 1, none⟩ = some (.int .i64 a0_1) := (blk_cell BK175.out 1).trans rfl; have hcz7_2 : w6.cell? ⟨gb175, 2, none⟩ = some (.int .i64 a0_2) := (blk_cell BK175.out 2).trans rfl; have hcz7_3 : w6.cell? ⟨gb175, 3, none⟩ = some (.int .i64 a0_3) := (blk_cell BK175.out 3).trans rfl; have hfz7_0 := blk_frozen BK175.out 0; have hfz7_1 := blk_frozen BK175.out 1; have hfz7_2 := blk_frozen BK175.out 2; have hfz7_3 := blk_frozen BK175.out 3))
    go_ret2
    exact ⟨by first | rfl | (simp [errW_none, errW_some] <;> rfl) | (simp [*, errW_none, errW_some] <;> rfl), by repeat (first | (with_reducible first | exact HB.out | apply below_alloc | apply pw_below_drewN | apply below_drew1 | refine below_set ?_ GE175.out) | exact HB.out)⟩
  · replace c3 := Bool.eq_false_iff.mpr c3
    subst c3
    have H1 : (some (0, 1)) = some (r1, r2) := by rw [if_neg (show ¬ (false = true) by decide)] at H; exact H
    clear H
    have H := H1
    clear H1
    simp only [Option.some.injEq, Prod.mk.injEq] at H
    obtain ⟨rfl, rfl⟩ := H
    go_enter Tryd.func38, Tryd.ntmps38
    go_wp2_with (first | ((with_reducible refine gate_dst (N := 1) rfl ?_); refine box_event ?hg (N := 1) ?hd (cs := #[.int .i64 a0_0, .int .i64 a0_1, .int .i64 a0_2, .int .i64 a0_3]) (t := 46) ?hr ?_; (case hd => rfl); (case hg => rfl); (case hr => first | (go_simp; done) | (go_simp; rfl)); intro gb175 hg w8 hbox hb; have n0_ := Aside0.mk (below_step (by repeat (first | (with_reducible first | exact HB.out | apply below_alloc | apply pw_below_drewN | apply below_drew1) | exact HB.out)) hb); have n1_ := Aside0.mk (hbox); have n2_ := Aside0.mk ((by rw [hg]; exact (below_size (by repeat (first | (with_reducible first | exact HB.out | apply below_alloc | apply pw_below_drewN | apply below_drew1) | exact HB.out))) : w.heap.size ≤ gb175)); have n3_ := Aside0.mk ((by rw [hg]; exact (below_size (by repeat (first | (with_reducible first | exact HB.out | apply below_alloc | apply pw_below_drewN | apply below_drew1) | exact HB.out))) : w.heap.size ≤ gb175)); clear HB; have HB := n0_; have BK175 := n1_; have GW175 := n2_; have GE175 := n3_; clear n0_ n1_ n2_ n3_; clear hb hbox hg; have hcz9_0 : w8.cell? ⟨gb175, 0, none⟩ = some (.int .i64 a0_0) := (blk_cell BK175.out 0).trans rfl; have hcz9_1 : w8.cell? ⟨gb175, 1, none⟩ = some (.int .i64 a0_1) := (blk_cell BK175.out 1).trans rfl; have hcz9_2 : w8.cell? ⟨gb175, 2, none⟩ = some (.int .i64 a0_2) := (blk_cell BK175.out 2).trans rfl; have hcz9_3 : w8.cell? ⟨gb175, 3, none⟩ = some (.int .i64 a0_3) := (blk_cell BK175.out 3).trans rfl; have hfz9_0 := blk_frozen BK175.out 0; have hfz9_1 := blk_frozen BK175.out 1; have hfz9_2 := blk_frozen BK175.out 2; have hfz9_3 := blk_frozen BK175.out 3) | ((with_reducible refine gate_callee (f := 40) rfl ?_); refine goesL_ (some 5) rfl rfl Tryd.func40 (by kernel_rfl) rfl #[.agg #[.int .i64 a0_0, .int .i64 a0_1, .int .i64 a0_2, .int .i64 a0_3]] rfl (by (try simp only [List.map_toArray, List.map_cons, List.map_nil]); first | done | rfl | (simp only [List.length_drop, List.length_take]; rfl)) ?_; (with_reducible refine (inst_Right.calls a0_0 a0_1 a0_2 a0_3 false _ ?side1 A2.out).mono ?_); (case side1 => exact GK.below HGK.out (by repeat (first | (with_reducible first | exact HB.out | apply below_alloc | apply pw_below_drewN | apply below_drew1 | refine below_set ?_ GE175.out) | exact HB.out))); rintro e w10 ⟨rfl, hb⟩; refine ⟨_, rfl, ?_⟩; have n0_ := Aside0.mk (blk_below (g := gb175) (o := .cells #[.int .i64 a0_0, .int .i64 a0_1, .int .i64 a0_2, .int .i64 a0_3] 46 (0, 0)) (by (with_reducible repeat (first | refine blk_drewN ?_ _ | refine blk_drew ?_ | refine blk_alloc ?_ _)); exact BK175.out) hb); have n1_ := Aside0.mk (below_step (by repeat (first | (with_reducible first | exact HB.out | apply below_alloc | apply pw_below_drewN | apply below_drew1 | refine below_set ?_ GE175.out) | exact HB.out)) hb); clear BK175; clear HB; have BK175 := n0_; have HB := n1_; clear n0_ n1_; (try clear hb); (try clear hb2); (try clear hk); (try clear hi)))
    go_ret2
    exact ⟨by first | rfl | (simp [errW_none, errW_some] <;> rfl) | (simp [*, errW_none, errW_some] <;> rfl), by repeat (first | (with_reducible first | exact HB.out | apply below_alloc | apply pw_below_drewN | apply below_drew1 | refine below_set ?_ GE175.out) | exact HB.out)⟩
end Go.Proofs.YtdhkmdgieflioaaDoor.F
namespace Go.Proofs.YtdhkmdgieflioaaDoor.F
open Go.RowKit Go.Proofs.YtdhkmdgieflioaaDoorW.PrintWords Go.Proofs.YtdhkmdgieflioaaDoorW.PrintLast Go.Proofs.YtdhkmdgieflioaaDoorW.PrintMore
set_option linter.unusedVariables false
set_option linter.unusedSimpArgs false
theorem nameOf_cell (op : Int) (h1 : 0 ≤ op) (h2 : op < 28) : kindsCells[op.toNat * 2]? = some (.string (nameOf op)) := by
  obtain ⟨n, rfl⟩ : ∃ n : Nat, op = n := ⟨op.toNat, by omega⟩
  have h3 : n < 28 := by omega
  clear h2
  have all : ∀ n, n < 28 → (kindRows.flatMap fun k => [Value.string ⟨k.1.toArray⟩, Value.string ⟨k.2.toArray⟩])[n * 2]? = some (.string (nameOf (n : Nat))) := by
    intro n hn
    have : n = 0 ∨ n = 1 ∨ n = 2 ∨ n = 3 ∨ n = 4 ∨ n = 5 ∨ n = 6 ∨ n = 7 ∨ n = 8 ∨ n = 9 ∨ n = 10 ∨ n = 11 ∨ n = 12 ∨ n = 13 ∨ n = 14 ∨ n = 15 ∨ n = 16 ∨ n = 17 ∨ n = 18 ∨ n = 19 ∨ n = 20 ∨ n = 21 ∨ n = 22 ∨ n = 23 ∨ n = 24 ∨ n = 25 ∨ n = 26 ∨ n = 27 := by omega
    rcases this with rfl | rfl | rfl | rfl | rfl | rfl | rfl | rfl | rfl | rfl | rfl | rfl | rfl | rfl | rfl | rfl | rfl | rfl | rfl | rfl | rfl | rfl | rfl | rfl | rfl | rfl | rfl | rfl
    all_goals rfl
  unfold kindsCells
  simpa using all n h3
set_option maxRecDepth 100000 in
set_option maxHeartbeats 1000000 in
theorem name_lt (a0 : Int) (w : World) (h : a0 < 0) : Calls Tryd.prog 49 #[.int .i64 a0] w fun e w' => e = .returned (.string ⟨#[]⟩) ∧ w = w' := by
  have h1 : decide (a0 < 0) = true := decide_eq_true h
  go_enter Tryd.func49, Tryd.ntmps49
  go_wp2
  go_ret
  exact ⟨rfl, rfl⟩
set_option maxRecDepth 100000 in
set_option maxHeartbeats 1000000 in
theorem name_ge (a0 : Int) (w : World) (h : 28 ≤ a0) : Calls Tryd.prog 49 #[.int .i64 a0] w fun e w' => e = .returned (.string ⟨#[]⟩) ∧ w = w' := by
  have h1 : decide (a0 < 0) = false := decide_eq_false (by omega)
  go_enter Tryd.func49, Tryd.ntmps49
  go_wp2
  go_ret
  exact ⟨rfl, rfl⟩
set_option maxRecDepth 100000 in
set_option maxHeartbeats 1000000 in
theorem name_in (a0 : Int) (n : ByteArray) (w : World) (h : 0 ≤ a0) (h2 : a0 < 28) (hp : w.cell? ⟨0, a0.toNat * 2, none⟩ = some (.string n)) : Calls Tryd.prog 49 #[.int .i64 a0] w fun e w' => e = .returned (.string n) ∧ w = w' := by
  have h1 : decide (a0 < 0) = false := decide_eq_false (by omega)
  go_enter Tryd.func49, Tryd.ntmps49
  go_wp2
  go_ret
  exact ⟨rfl, rfl⟩
theorem name_any (a0 : Int) (w : World) (hGK : GK w) : Calls Tryd.prog 49 #[.int .i64 a0] w fun e w' => e = .returned (.string (nameOf a0)) ∧ w = w' := by
  by_cases h1 : 0 ≤ a0
  · by_cases h2 : a0 < 28
    · exact name_in a0 _ w h1 h2 (kind_cell hGK _ _ (nameOf_cell a0 h1 h2))
    · have e : nameOf a0 = ⟨#[]⟩ := if_neg (by omega)
      rw [e]
      exact name_ge a0 w (by omega)
  · have e : nameOf a0 = ⟨#[]⟩ := if_neg (by omega)
    rw [e]
    exact name_lt a0 w (by omega)
theorem bytes_eq {a b : ByteArray} (h : a.toList = b.toList) : a = b := by
  rw [ByteArray.toList_eq, ByteArray.toList_eq] at h
  cases a; cases b
  simp only [ByteArray.mk.injEq]
  exact Array.toList_inj.1 h
end Go.Proofs.YtdhkmdgieflioaaDoor.F
namespace Go.Proofs.YtdhkmdgieflioaaDoor.F
open Go.RowKit Go.Proofs.YtdhkmdgieflioaaDoorW.PrintWords Go.Proofs.YtdhkmdgieflioaaDoorW.PrintLast Go.Proofs.YtdhkmdgieflioaaDoorW.PrintMore
set_option linter.unusedVariables false
set_option linter.unusedSimpArgs false
def itemOf (a b c : Int) (ch : UInt8) : ByteArray :=
  if ch = 97 then ⟨#[114]⟩ ++ ⟨(Lib.itoa a).toArray⟩ else if ch = 98 then ⟨#[114]⟩ ++ ⟨(Lib.itoa b).toArray⟩ else if ch = 114 then ⟨#[114]⟩ ++ ⟨(Lib.itoa c).toArray⟩ else ⟨(Lib.itoa c).toArray⟩
def itemsOf (op a b c : Int) : List ByteArray := (partsOf op).data.toList.map (itemOf a b c)
def textOf (op a b c : Int) : ByteArray :=
  if rightB op a b c = false then ⟨#[]⟩ else if itemsOf op a b c = [] then nameOf op
  else nameOf op ++ (⟨#[32]⟩ : ByteArray) ++ ⟨(Lib.join ((itemsOf op a b c).map (·.data.toList)) [44, 32]).toArray⟩
def inst_Text.f (a0_0 : Int) (a0_1 : Int) (a0_2 : Int) (a0_3 : Int) : Option ByteArray := some (textOf a0_0 a0_1 a0_2 a0_3)
theorem item_size (a b c : Int) (ch : UInt8) (ha : 0 ≤ a ∧ a ≤ 65535) (hb : 0 ≤ b ∧ b ≤ 65535) (hc : 0 ≤ c ∧ c ≤ 65535) : (itemOf a b c ch).size ≤ 22 := by
  have h (n : Int) (hn : 0 ≤ n ∧ n ≤ 65535) : (⟨(Lib.itoa n).toArray⟩ : ByteArray).size ≤ 21 := by
    have := Lib.itoa_length_le n (by omega) (by omega)
    simpa [ByteArray.size] using this
  have h1 := h a ha
  have h2 := h b hb
  have h3 := h c hc
  have h0 : (⟨#[114]⟩ : ByteArray).size = 1 := rfl
  unfold itemOf
  split
  · rw [ByteArray.size_append]; omega
  · split
    · rw [ByteArray.size_append]; omega
    · split
      · rw [ByteArray.size_append]; omega
      · omega
theorem lens_small : ∀ l : List ByteArray, (∀ x ∈ l, x.size ≤ 22) → Lib.lens (l.map (·.data.toList)) ≤ 22 * l.length
  | [], _ => by simp [Lib.lens]
  | x :: r, h => by
    have h1 := lens_small r (fun y hy => h y (List.mem_cons_of_mem _ hy))
    have h2 := h x (List.mem_cons_self ..)
    have h3 : x.data.toList.length = x.size := rfl
    simp only [List.map_cons, Lib.lens, List.length_cons, List.sum_cons] at *
    omega
theorem join_small (l : List ByteArray) (h : ∀ x ∈ l, x.size ≤ 22) (hl : l.length ≤ 100) : (Lib.join (l.map (·.data.toList)) [44, 32]).length ≤ 10000 := by
  cases l with
  | nil => simp [Lib.join]
  | cons x r =>
    have h1 := lens_small (x :: r) h
    rw [List.map_cons] at h1 ⊢
    rw [Lib.join_length]
    simp only [List.length_cons, List.length_map, List.length_nil] at *
    omega
theorem name_as (op : Int) (n : ByteArray) (w : World) (hGK : GK w) (hn : n = nameOf op) : Calls Tryd.prog 49 #[.int .i64 op] w fun e w' => e = .returned (.string n) ∧ w = w' := by
  subst hn
  exact name_any op w hGK
theorem join_as (g cap : Nat) (items : List ByteArray) (j : ByteArray) (w : World) (hc : ∀ (j : Nat) x, items[j]? = some x → w.cell? ⟨g, 0 + j, none⟩ = some (.string x)) (hg : g < w.heap.size) (h1 : items.length ≤ 100) (h2 : items.length ≤ cap)
    (h3 : (Lib.join (items.map (·.data.toList)) [44, 32]).length ≤ 10000) (hj : j = ⟨(Lib.join (items.map (·.data.toList)) [44, 32]).toArray⟩) :
    Calls Tryd.prog 80 #[.slice (some ⟨g, 0, none⟩) items.length cap, .string ⟨#[44, 32]⟩] w fun e w' => e = .returned (.string j) ∧ Below w.heap.size w w' := by
  subst hj
  exact Tryd.strings_Join g 0 cap items ⟨#[44, 32]⟩ w hc hg (by omega) h2 (Nat.le_trans h3 (by decide))
theorem name_size (op : Int) (h1 : 1 ≤ op) (h2 : op < 28) : (nameOf op).size ≤ 100 := by
  obtain ⟨n, rfl⟩ : ∃ n : Nat, op = n := ⟨op.toNat, by omega⟩
  have h3 : n < 28 := by omega
  clear h1 h2
  have : n = 0 ∨ n = 1 ∨ n = 2 ∨ n = 3 ∨ n = 4 ∨ n = 5 ∨ n = 6 ∨ n = 7 ∨ n = 8 ∨ n = 9 ∨ n = 10 ∨ n = 11 ∨ n = 12 ∨ n = 13 ∨ n = 14 ∨ n = 15 ∨ n = 16 ∨ n = 17 ∨ n = 18 ∨ n = 19 ∨ n = 20 ∨ n = 21 ∨ n = 22 ∨ n = 23 ∨ n = 24 ∨ n = 25 ∨ n = 26 ∨ n = 27 := by omega
  rcases this with rfl | rfl | rfl | rfl | rfl | rfl | rfl | rfl | rfl | rfl | rfl | rfl | rfl | rfl | rfl | rfl | rfl | rfl | rfl | rfl | rfl | rfl | rfl | rfl | rfl | rfl | rfl | rfl
  all_goals decide
theorem own_iterAt {w : World} {k : Nat} {v : Value} {n : Nat} {xs : List Value} (h : w.ownsRow (k + 1) 9 1 v n xs) (s : ByteArray) (pos : Nat) : (w.iterAt k s pos).ownsRow (k + 1) 9 1 v n xs := by
  obtain ⟨h1, h2⟩ := h
  refine ⟨h1, ?_⟩
  rcases h2 with h2 | ⟨g, cap, cur, hv, hg, hc, h3⟩
  · exact Or.inl h2
  · exact Or.inr ⟨g, cap, cur, hv, hg, (Lib.iterAt_other w k g s pos (by omega)).trans hc, h3⟩
theorem itoa_calls (n : Int) (t : ByteArray) (w : World) (hGT : GT w) (h0 : 0 ≤ n) (h1 : n ≤ 65535) (ht : t = ⟨(Lib.itoa n).toArray⟩) :
    Calls Tryd.prog 79 #[.int .i64 n] w fun e w' => e = .returned (.string t) ∧ Below w.heap.size w w' := by
  refine (Tryd.strconv_Itoa n (by omega) (by omega) w hGT.out).mono ?_
  rintro e W1 ⟨rfl, k, os, rfl⟩
  exact ⟨by rw [ht], Lib.below_grow _ w (Nat.le_refl _) k os⟩
set_option maxRecDepth 100000 in
set_option maxHeartbeats 1000000 in
theorem text_wrong (op a b c : Int) (w : World) (hGK : GK w) (hr : rightB op a b c = false) :
    Calls Tryd.prog 42 #[.agg #[.int .i64 op, .int .i64 a, .int .i64 b, .int .i64 c]] w fun e w' => e = .returned (.string ⟨#[]⟩) ∧ Below w.heap.size w w' := by
  have hu46 := Tryd.underlying46
  have HR := Lib.hid hr
  have HGK := Lib.hid (GK.below hGK ((Below.refl w.heap.size w).alloc (Nat.le_refl _) (.cells #[.int .i64 op, .int .i64 a, .int .i64 b, .int .i64 c] 46)))
  clear hGK hr
  go_enter Tryd.func42, Tryd.ntmps42
  go_wp2_with (go_at_call 40; refine (inst_Right.calls op a b c false _ HGK.out (congrArg some HR.out)).mono ?_; rintro e w1 ⟨rfl, hb⟩)
  go_ret
  exact ⟨rfl, below_step ((Below.refl _ _).alloc (Nat.le_refl _) _) hb⟩
set_option maxRecDepth 100000 in
set_option maxHeartbeats 1000000 in
theorem text_right (op a b c : Int) (p : ByteArray) (w : World) (hGK : GK w) (hGT : GT w) (hr : rightB op a b c = true) (h1 : 1 ≤ op) (h2 : op < 28) (hpar : partsOf op = p)
    (hp : ∀ ch ∈ p.data.toList, ch.toNat < 128) (hps : p.size ≤ 100) (ha : 0 ≤ a ∧ a ≤ 65535) (hb : 0 ≤ b ∧ b ≤ 65535) (hc : 0 ≤ c ∧ c ≤ 65535) :
    Calls Tryd.prog 42 #[.agg #[.int .i64 op, .int .i64 a, .int .i64 b, .int .i64 c]] w fun e w' => e = .returned (.string (textOf op a b c)) ∧ Below w.heap.size w w' := by
  have hu46 := Tryd.underlying46
  have hu65 := Tryd.underlying65
  have HR := Lib.hid hr
  have HGK0 := Lib.hid hGK
  have HGT := Lib.hid hGT
  have HGK := Lib.hid (GK.below hGK ((Below.refl w.heap.size w).alloc (Nat.le_refl _) (.cells #[.int .i64 op, .int .i64 a, .int .i64 b, .int .i64 c] 46)))
  have hpos := hGK.pos
  clear hGK hr hGT
  go_enter Tryd.func42, Tryd.ntmps42
  have HPC := Lib.hid (partsOf_size op h1 h2).2
  rw [hpar] at HPC
  go_wp2_with (go_at_call 40; refine (inst_Right.calls op a b c true _ HGK.out (congrArg some HR.out)).mono ?_; rintro e w1 ⟨rfl, hb⟩; have hbox := Lib.hid (blk_below (blk_new w (.cells #[.int .i64 op, .int .i64 a, .int .i64 b, .int .i64 c] 46)) hb); have HB := Lib.hid (below_step ((Below.refl w.heap.size w).alloc (Nat.le_refl _) _) hb); have HGK1 := Lib.hid (GK.below HGK0.out HB.out); have hpp := kind_cell HGK1.out _ _ HPC.out; have hpos1 := HGK1.out.pos; have hsz1 : w.heap.size < w1.heap.size := blk_lt hbox.out; clear hb; have hcz_0 : w1.cell? ⟨w.heap.size, 0, none⟩ = some (.int .i64 op) := (blk_cell hbox.out 0).trans rfl)
  go_loopg [3] (p.size + 1) (fun kq v3 wr => ∃ (pos : Nat) (xs : List Value), Aside0 (kq + pos = p.size + 1) ∧ Aside0 (pos ≤ p.size) ∧ Aside0 (xs = ((p.data.toList.take pos).map (itemOf a b c)).map .string) ∧ Aside0 (wr.ownsRow (w1.heap.size + 1) 9 1 v3 xs.length xs) ∧ Aside0 (wr.heap[w1.heap.size]? = some (.stringIter p pos)) ∧ Aside0 (wr.heap[w.heap.size]? = some (.cells #[.int .i64 op, .int .i64 a, .int .i64 b, .int .i64 c] 46 (0, 0))) ∧ Aside0 (Below w.heap.size w wr))
  case atStart =>
    refine ⟨0, [], ⟨rfl⟩, ⟨by omega⟩, ⟨rfl⟩, ⟨⟨rfl, Or.inl ⟨rfl, rfl⟩⟩⟩, ⟨?_⟩, ⟨blk_alloc hbox.out _⟩, ⟨below_alloc HB.out _⟩⟩
    have := World.iter_heap w1 p 0
    simpa using this
  case round =>
    obtain ⟨pos, xs, HK1, HK2, HX, HO, HI, HBX, HB2⟩ := hrel
    have hsz2 : w1.heap.size < wr.heap.size := blk_lt HI.out
    have hxl : xs.length ≤ 100 := by have := HK2.out; rw [HX.out]; simp; omega
    by_cases hpos2 : pos < p.size
    · have hnx : ∀ ty, (Instr.next (.pointer (some ⟨w1.heap.size, 0, none⟩)) true ty).run Tryd.prog wr = _ := fun ty => Lib.run_next_ascii_at wr w1.heap.size p pos ty HI.out hpos2 (hp _ (Array.getElem_mem_toList ..))
      have hnext : p.data.toList.take (pos + 1) = p.data.toList.take pos ++ [p[pos]'hpos2] := by
        rw [List.take_add_one]
        congr 1
        have : p.data.toList[pos]? = some (p[pos]'hpos2) := by rw [Array.getElem?_toList]; exact Array.getElem?_eq_getElem (by simpa using hpos2)
        rw [this]
        rfl
      replace hnext : (p.data.toList.take (pos + 1)).map (itemOf a b c) = (p.data.toList.take pos).map (itemOf a b c) ++ [itemOf a b c (p[pos]'hpos2)] := by rw [hnext, List.map_append]; rfl
      generalize hch : p[pos]'hpos2 = ch at hnx hnext
      clear hch
      have HI2 := Lib.hid (Lib.iterAt_heap wr w1.heap.size p pos (pos + 1) HI.out)
      have HBX2 := Lib.hid ((Lib.iterAt_other wr w1.heap.size w.heap.size p (pos + 1) (by omega)).trans HBX.out)
      have HB3 := Lib.hid (Lib.below_iterAt HB2.out (k := w1.heap.size) (by omega) p (pos + 1))
      have HO2 := Lib.hid (own_iterAt HO.out p (pos + 1))
      have hsz3 : w1.heap.size < (wr.iterAt w1.heap.size p (pos + 1)).heap.size := blk_lt HI2.out
      by_cases k97 : ch = 97
      · have k98 : ch ≠ 98 := by rw [k97]; decide
        have k114 : ch ≠ 114 := by rw [k97]; decide
        have hcz_1 : (wr.iterAt w1.heap.size p (pos + 1)).cell? ⟨w.heap.size, 1, none⟩ = some (.int .i64 a) := (blk_cell HBX2.out 1).trans rfl
        generalize wr.iterAt w1.heap.size p (pos + 1) = W2 at hnx HI2 HBX2 HB3 HO2 hsz3 hcz_1
        obtain ⟨t, ht⟩ : ∃ t : ByteArray, t = ⟨(Lib.itoa a).toArray⟩ := ⟨_, rfl⟩
        have hit : itemOf a b c ch = (⟨#[114]⟩ ++ t : ByteArray) := by rw [ht]; simp [itemOf, k97, k98, k114]
        rw [hit] at hnext
        clear hit
        have hts := Lib.itoa_length_le a (by omega) (by omega)
        have htl : t.size ≤ 21 := by rw [ht]; simpa [ByteArray.size] using hts
        have HT := Lib.hid ht
        clear ht
        clear hts
        have HN := Lib.hid hnext
        clear hnext
        go_wp2_with (first | (go_at_call 79; refine (itoa_calls a t _ (GT.below HGT.out HB3.out) (by omega) (by omega) HT.out).mono ?_; rintro e W3 ⟨rfl, hb3⟩; have HB4 := Lib.hid (below_step HB3.out hb3); have HI3 := Lib.hid (blk_below HI2.out hb3); have HBX3 := Lib.hid (blk_below HBX2.out hb3); have HO3 := Lib.hid (pw_own_below HO2.out hb3); clear HI2 HBX2 HB3 HO2; have hsz4 : w1.heap.size + 1 ≤ W3.heap.size := blk_lt HI3.out) | (at_builtin; go_must (refine print_append (w1.heap.size + 1) ?hgd (.tmp 27) (.tmp 32) 65 9 (.string ⟨#[]⟩) 16 ?hop Tryd.underlying65 info9 rfl (by decide) u3 xs (.string (⟨#[114]⟩ ++ t : ByteArray)) ?hs ?hx rfl HO3.out (Below.refl _ _) ?hba ?hle ?_; (case hgd => rfl); (case hop => rfl); (case hs => rfl); (case hx => rfl); (case hba => exact hsz4); (case hle => omega)); intro v1 w4 hown hbb hgg hat))
        go_roundg (gk - 1)
        case measure => have := HK1.out; omega
        case rel =>
          refine ⟨pos + 1, xs ++ [.string (⟨#[114]⟩ ++ t : ByteArray)], ⟨by have := HK1.out; omega⟩, ⟨by omega⟩, ⟨by rw [HN.out, List.map_append, HX.out]; rfl⟩, ⟨hown⟩, ⟨(hbb.block _ (by omega)).trans HI3.out⟩, ⟨(hbb.block _ (by omega)).trans HBX3.out⟩, ⟨HB4.out.trans (hbb.mono (by omega))⟩⟩
      · have e97 : ((ch.toNat : Int) == 97) = false := by rw [beq_eq_false_iff_ne]; exact fun h => k97 (UInt8.toNat_inj.1 (by have : (97 : UInt8).toNat = 97 := rfl; omega))
        by_cases k98 : ch = 98
        · have k114 : ch ≠ 114 := by rw [k98]; decide
          have hcz_1 : (wr.iterAt w1.heap.size p (pos + 1)).cell? ⟨w.heap.size, 2, none⟩ = some (.int .i64 b) := (blk_cell HBX2.out 2).trans rfl
          generalize wr.iterAt w1.heap.size p (pos + 1) = W2 at hnx HI2 HBX2 HB3 HO2 hsz3 hcz_1
          obtain ⟨t, ht⟩ : ∃ t : ByteArray, t = ⟨(Lib.itoa b).toArray⟩ := ⟨_, rfl⟩
          have hit : itemOf a b c ch = (⟨#[114]⟩ ++ t : ByteArray) := by rw [ht]; simp [itemOf, k97, k98, k114]
          rw [hit] at hnext
          clear hit
          have hts := Lib.itoa_length_le b (by omega) (by omega)
          have htl : t.size ≤ 21 := by rw [ht]; simpa [ByteArray.size] using hts
          have HT := Lib.hid ht
          clear ht
          clear hts
          have HN := Lib.hid hnext
          clear hnext
          go_wp2_with (first | (go_at_call 79; refine (itoa_calls b t _ (GT.below HGT.out HB3.out) (by omega) (by omega) HT.out).mono ?_; rintro e W3 ⟨rfl, hb3⟩; have HB4 := Lib.hid (below_step HB3.out hb3); have HI3 := Lib.hid (blk_below HI2.out hb3); have HBX3 := Lib.hid (blk_below HBX2.out hb3); have HO3 := Lib.hid (pw_own_below HO2.out hb3); clear HI2 HBX2 HB3 HO2; have hsz4 : w1.heap.size + 1 ≤ W3.heap.size := blk_lt HI3.out) | (at_builtin; go_must (refine print_append (w1.heap.size + 1) ?hgd (.tmp 36) (.tmp 41) 65 9 (.string ⟨#[]⟩) 16 ?hop Tryd.underlying65 info9 rfl (by decide) u3 xs (.string (⟨#[114]⟩ ++ t : ByteArray)) ?hs ?hx rfl HO3.out (Below.refl _ _) ?hba ?hle ?_; (case hgd => rfl); (case hop => rfl); (case hs => rfl); (case hx => rfl); (case hba => exact hsz4); (case hle => omega)); intro v1 w4 hown hbb hgg hat))
          go_roundg (gk - 1)
          case measure => have := HK1.out; omega
          case rel =>
            refine ⟨pos + 1, xs ++ [.string (⟨#[114]⟩ ++ t : ByteArray)], ⟨by have := HK1.out; omega⟩, ⟨by omega⟩, ⟨by rw [HN.out, List.map_append, HX.out]; rfl⟩, ⟨hown⟩, ⟨(hbb.block _ (by omega)).trans HI3.out⟩, ⟨(hbb.block _ (by omega)).trans HBX3.out⟩, ⟨HB4.out.trans (hbb.mono (by omega))⟩⟩
        · have e98 : ((ch.toNat : Int) == 98) = false := by rw [beq_eq_false_iff_ne]; exact fun h => k98 (UInt8.toNat_inj.1 (by have : (98 : UInt8).toNat = 98 := rfl; omega))
          by_cases k114 : ch = 114
          · skip
            have hcz_1 : (wr.iterAt w1.heap.size p (pos + 1)).cell? ⟨w.heap.size, 3, none⟩ = some (.int .i64 c) := (blk_cell HBX2.out 3).trans rfl
            generalize wr.iterAt w1.heap.size p (pos + 1) = W2 at hnx HI2 HBX2 HB3 HO2 hsz3 hcz_1
            obtain ⟨t, ht⟩ : ∃ t : ByteArray, t = ⟨(Lib.itoa c).toArray⟩ := ⟨_, rfl⟩
            have hit : itemOf a b c ch = (⟨#[114]⟩ ++ t : ByteArray) := by rw [ht]; simp [itemOf, k97, k98, k114]
            rw [hit] at hnext
            clear hit
            have hts := Lib.itoa_length_le c (by omega) (by omega)
            have htl : t.size ≤ 21 := by rw [ht]; simpa [ByteArray.size] using hts
            have HT := Lib.hid ht
            clear ht
            clear hts
            have HN := Lib.hid hnext
            clear hnext
            go_wp2_with (first | (go_at_call 79; refine (itoa_calls c t _ (GT.below HGT.out HB3.out) (by omega) (by omega) HT.out).mono ?_; rintro e W3 ⟨rfl, hb3⟩; have HB4 := Lib.hid (below_step HB3.out hb3); have HI3 := Lib.hid (blk_below HI2.out hb3); have HBX3 := Lib.hid (blk_below HBX2.out hb3); have HO3 := Lib.hid (pw_own_below HO2.out hb3); clear HI2 HBX2 HB3 HO2; have hsz4 : w1.heap.size + 1 ≤ W3.heap.size := blk_lt HI3.out) | (at_builtin; go_must (refine print_append (w1.heap.size + 1) ?hgd (.tmp 45) (.tmp 50) 65 9 (.string ⟨#[]⟩) 16 ?hop Tryd.underlying65 info9 rfl (by decide) u3 xs (.string (⟨#[114]⟩ ++ t : ByteArray)) ?hs ?hx rfl HO3.out (Below.refl _ _) ?hba ?hle ?_; (case hgd => rfl); (case hop => rfl); (case hs => rfl); (case hx => rfl); (case hba => exact hsz4); (case hle => omega)); intro v1 w4 hown hbb hgg hat))
            go_roundg (gk - 1)
            case measure => have := HK1.out; omega
            case rel =>
              refine ⟨pos + 1, xs ++ [.string (⟨#[114]⟩ ++ t : ByteArray)], ⟨by have := HK1.out; omega⟩, ⟨by omega⟩, ⟨by rw [HN.out, List.map_append, HX.out]; rfl⟩, ⟨hown⟩, ⟨(hbb.block _ (by omega)).trans HI3.out⟩, ⟨(hbb.block _ (by omega)).trans HBX3.out⟩, ⟨HB4.out.trans (hbb.mono (by omega))⟩⟩
          · have e114 : ((ch.toNat : Int) == 114) = false := by rw [beq_eq_false_iff_ne]; exact fun h => k114 (UInt8.toNat_inj.1 (by have : (114 : UInt8).toNat = 114 := rfl; omega))
            have hcz_1 : (wr.iterAt w1.heap.size p (pos + 1)).cell? ⟨w.heap.size, 3, none⟩ = some (.int .i64 c) := (blk_cell HBX2.out 3).trans rfl
            generalize wr.iterAt w1.heap.size p (pos + 1) = W2 at hnx HI2 HBX2 HB3 HO2 hsz3 hcz_1
            obtain ⟨t, ht⟩ : ∃ t : ByteArray, t = ⟨(Lib.itoa c).toArray⟩ := ⟨_, rfl⟩
            have hit : itemOf a b c ch = (t : ByteArray) := by rw [ht]; simp [itemOf, k97, k98, k114]
            rw [hit] at hnext
            clear hit
            have hts := Lib.itoa_length_le c (by omega) (by omega)
            have htl : t.size ≤ 21 := by rw [ht]; simpa [ByteArray.size] using hts
            have HT := Lib.hid ht
            clear ht
            clear hts
            have HN := Lib.hid hnext
            clear hnext
            go_wp2_with (first | (go_at_call 79; refine (itoa_calls c t _ (GT.below HGT.out HB3.out) (by omega) (by omega) HT.out).mono ?_; rintro e W3 ⟨rfl, hb3⟩; have HB4 := Lib.hid (below_step HB3.out hb3); have HI3 := Lib.hid (blk_below HI2.out hb3); have HBX3 := Lib.hid (blk_below HBX2.out hb3); have HO3 := Lib.hid (pw_own_below HO2.out hb3); clear HI2 HBX2 HB3 HO2; have hsz4 : w1.heap.size + 1 ≤ W3.heap.size := blk_lt HI3.out) | (at_builtin; go_must (refine print_append (w1.heap.size + 1) ?hgd (.tmp 19) (.tmp 23) 65 9 (.string ⟨#[]⟩) 16 ?hop Tryd.underlying65 info9 rfl (by decide) u3 xs (.string (t : ByteArray)) ?hs ?hx rfl HO3.out (Below.refl _ _) ?hba ?hle ?_; (case hgd => rfl); (case hop => rfl); (case hs => rfl); (case hx => rfl); (case hba => exact hsz4); (case hle => omega)); intro v1 w4 hown hbb hgg hat))
            go_roundg (gk - 1)
            case measure => have := HK1.out; omega
            case rel =>
              refine ⟨pos + 1, xs ++ [.string (t : ByteArray)], ⟨by have := HK1.out; omega⟩, ⟨by omega⟩, ⟨by rw [HN.out, List.map_append, HX.out]; rfl⟩, ⟨hown⟩, ⟨(hbb.block _ (by omega)).trans HI3.out⟩, ⟨(hbb.block _ (by omega)).trans HBX3.out⟩, ⟨HB4.out.trans (hbb.mono (by omega))⟩⟩
    · have hnx : ∀ ty, (Instr.next (.pointer (some ⟨w1.heap.size, 0, none⟩)) true ty).run Tryd.prog wr = _ := fun ty => Lib.run_next_end_at wr w1.heap.size p pos ty HI.out hpos2
      have hcz_1 : wr.cell? ⟨w.heap.size, 0, none⟩ = some (.int .i64 op) := (blk_cell HBX.out 0).trans rfl
      have HGK3 := Lib.hid (GK.below HGK0.out HB2.out)
      have hfull : p.data.toList.take pos = p.data.toList := List.take_of_length_le (by have : p.data.toList.length = p.size := rfl; omega)
      rw [hfull] at HX
      have HXS := Lib.hid HX.out
      clear HX
      by_cases hxe : xs = []
      · subst hxe
        have hit : textOf op a b c = nameOf op := by
          have h0 : itemsOf op a b c = [] := by have := HXS.out; unfold itemsOf; rw [hpar]; exact (List.map_eq_nil_iff.1 this.symm)
          unfold textOf
          rw [if_neg (by rw [HR.out]; decide), if_pos h0]
        have HE := Lib.hid hit
        clear hit
        obtain ⟨av, cv, rfl⟩ : ∃ av cv, u3 = .slice av 0 cv := by
          rcases HO.out.2 with ⟨h, _⟩ | ⟨g, cap, cur, h, _⟩
          · exact ⟨_, _, h⟩
          · exact ⟨_, _, h⟩
        go_wp2_with (go_at_call 49; refine (name_any op _ HGK3.out).mono ?_; rintro e W3 ⟨rfl, rfl⟩)
        go_ret
        exact ⟨by rw [HE.out]; rfl, HB2.out⟩
      · obtain ⟨items, hitems⟩ : ∃ items, items = p.data.toList.map (itemOf a b c) := ⟨_, rfl⟩
        have hxs := HXS.out
        rw [← hitems] at hxs
        clear HXS
        subst hxs
        have hne : items ≠ [] := fun h => hxe (by rw [h]; rfl)
        have hit : textOf op a b c = nameOf op ++ (⟨#[32]⟩ : ByteArray) ++ ⟨(Lib.join (items.map (·.data.toList)) [44, 32]).toArray⟩ := by
          have h0 : itemsOf op a b c = items := by unfold itemsOf; rw [hpar, hitems]
          unfold textOf
          rw [if_neg (by rw [HR.out]; decide), h0, if_neg hne]
        have hsm : ∀ x ∈ items, x.size ≤ 22 := by
          intro x hx
          rw [hitems] at hx
          obtain ⟨ch, _, rfl⟩ := List.mem_map.1 hx
          exact item_size a b c ch ha hb hc
        have hil : items.length ≤ 100 := by rw [List.length_map] at hxl; exact hxl
        have HJL := Lib.hid (join_small items hsm hil)
        have HE := Lib.hid hit
        have hi1 : items.length ≠ 0 := fun h => hne (List.eq_nil_of_length_eq_zero h)
        clear hit hitems hsm hxe hne
        rcases HO.out.2 with ⟨_, h⟩ | ⟨g, cap, cur, hv, hg, hcur, hcap, hmax, hcs, htk⟩
        · rw [List.length_map] at h; exact absurd h hi1
        · rw [List.length_map] at hv hcap htk
          subst hv
          have hbk := blk_lt hcur
          have hcells : ∀ (j : Nat) x, items[j]? = some x → wr.cell? ⟨g, 0 + j, none⟩ = some (.string x) := by
            intro j x hj
            have hlt : j < items.length := (List.getElem?_eq_some_iff.1 hj).1
            rw [Nat.zero_add, cell_of_row wr g j cur 9 (0, 0) hcur]
            have : (cur.toList.take (items.length * 1))[j]? = some (.string x) := by rw [htk, List.getElem?_map, hj]; rfl
            rw [List.getElem?_take_of_lt (by omega)] at this
            simpa using this
          have HC := Lib.hid hcells
          obtain ⟨nm, hnm⟩ : ∃ nm, nm = nameOf op := ⟨_, rfl⟩
          obtain ⟨jn, hjn⟩ : ∃ jn : ByteArray, jn = ⟨(Lib.join (items.map (·.data.toList)) [44, 32]).toArray⟩ := ⟨_, rfl⟩
          have hnms : nm.size ≤ 100 := by rw [hnm]; exact name_size op h1 h2
          have hjns : jn.size ≤ 10000 := by have := HJL.out; rw [hjn]; simpa [ByteArray.size] using this
          have hns : (nm ++ (⟨#[32]⟩ : ByteArray)).size ≤ 101 := by rw [ByteArray.size_append]; have : (⟨#[32]⟩ : ByteArray).size = 1 := rfl; omega
          have he := HE.out
          rw [← hnm, ← hjn] at he
          have HE2 := Lib.hid he
          have HNM := Lib.hid hnm
          have HJN := Lib.hid hjn
          clear he hnm hjn HE
          have hd : ((items.length : Int) == 0) = false := by rw [beq_eq_false_iff_ne]; omega
          clear hcells hcur hcs htk HO
          go_wp2_with (first | (go_at_call 49; refine (name_as op nm _ HGK3.out HNM.out).mono ?_; rintro e W3 ⟨rfl, rfl⟩) | (go_at_call 80; refine (join_as g cap items jn _ HC.out hbk (by omega) hcap HJL.out HJN.out).mono ?_; rintro e W4 ⟨rfl, hb4⟩))
          go_ret
          exact ⟨by rw [HE2.out]; rfl, below_step HB2.out hb4⟩
theorem right_facts (op a b c : Int) (h : rightB op a b c = true) : 1 ≤ op ∧ op < 28 ∧ (0 ≤ a ∧ a ≤ 65535) ∧ (0 ≤ b ∧ b ≤ 65535) ∧ (0 ≤ c ∧ c ≤ 65535) := by
  have hb : ∀ (p : ByteArray) (ch n m : Int), m ≤ 65535 → hasB p ch n m = true → 0 ≤ n ∧ n ≤ 65535 := by
    intro p ch n m hm hh
    unfold hasB at hh
    split at hh
    · have := eq_of_beq hh; omega
    · split at hh
      · have := of_decide_eq_true hh; omega
      · cases hh
  unfold rightB at h
  split at h
  · cases h
  · rename_i h0
    split at h
    · cases h
    · rename_i h1
      split at h
      · cases h
      · rename_i h2
        have h1 : hasB (partsOf op) 97 a 15 = true := by simpa using h1
        have h2 : hasB (partsOf op) 98 b 15 = true := by simpa using h2
        refine ⟨by omega, by omega, hb _ _ _ _ (by decide) h1, hb _ _ _ _ (by decide) h2, ?_⟩
        split at h
        · split at h
          · have := of_decide_eq_true h; omega
          · cases h
        · exact hb _ _ _ _ (by decide) h
theorem parts_ascii (op : Int) (h1 : 1 ≤ op) (h2 : op < 28) : (partsOf op).size ≤ 100 ∧ ∀ ch ∈ (partsOf op).data.toList, ch.toNat < 128 := by
  obtain ⟨n, rfl⟩ : ∃ n : Nat, op = n := ⟨op.toNat, by omega⟩
  have h3 : n < 28 := by omega
  clear h1 h2
  have : n = 0 ∨ n = 1 ∨ n = 2 ∨ n = 3 ∨ n = 4 ∨ n = 5 ∨ n = 6 ∨ n = 7 ∨ n = 8 ∨ n = 9 ∨ n = 10 ∨ n = 11 ∨ n = 12 ∨ n = 13 ∨ n = 14 ∨ n = 15 ∨ n = 16 ∨ n = 17 ∨ n = 18 ∨ n = 19 ∨ n = 20 ∨ n = 21 ∨ n = 22 ∨ n = 23 ∨ n = 24 ∨ n = 25 ∨ n = 26 ∨ n = 27 := by omega
  rcases this with rfl | rfl | rfl | rfl | rfl | rfl | rfl | rfl | rfl | rfl | rfl | rfl | rfl | rfl | rfl | rfl | rfl | rfl | rfl | rfl | rfl | rfl | rfl | rfl | rfl | rfl | rfl | rfl
  all_goals exact ⟨by decide, by decide⟩
theorem inst_Text.calls (a0_0 : Int) (a0_1 : Int) (a0_2 : Int) (a0_3 : Int) (r : ByteArray) (w : World) (hGK : GK w) (hGT : GT w) (h : inst_Text.f a0_0 a0_1 a0_2 a0_3 = some r) :
    Calls Tryd.prog 42 #[.agg #[.int .i64 a0_0, .int .i64 a0_1, .int .i64 a0_2, .int .i64 a0_3]] w fun e w' => e = .returned (.string r) ∧ Below w.heap.size w w' := by
  obtain rfl := Option.some.inj h
  by_cases hr : rightB a0_0 a0_1 a0_2 a0_3 = true
  · obtain ⟨h1, h2, ha, hb, hc⟩ := right_facts _ _ _ _ hr
    obtain ⟨hs, hp⟩ := parts_ascii _ h1 h2
    exact text_right _ _ _ _ _ w hGK hGT hr h1 h2 rfl hp hs ha hb hc
  · have hr : rightB a0_0 a0_1 a0_2 a0_3 = false := by simpa using hr
    have : textOf a0_0 a0_1 a0_2 a0_3 = ⟨#[]⟩ := by unfold textOf; rw [if_pos hr]
    rw [this]
    exact text_wrong _ _ _ _ w hGK hr
end Go.Proofs.YtdhkmdgieflioaaDoor.F
namespace Go.Proofs.YtdhkmdgieflioaaDoor.F
open Go.RowKit Go.Proofs.YtdhkmdgieflioaaDoorW.PrintWords Go.Proofs.YtdhkmdgieflioaaDoorW.PrintLast Go.Proofs.YtdhkmdgieflioaaDoorW.PrintMore
set_option linter.unusedVariables false
set_option linter.unusedSimpArgs false
def opB (v : Int) : Int := v / 16777216
def raB (v : Int) : Int := v / 1048576 % 16
def rbB (v : Int) : Int := v / 65536 % 16
def rcB (v : Int) : Int := v % 65536
def decB (v : Int) : Bool := rightB (opB v) (raB v) (rbB v) (rcB v)
def jumpB (v : Int) : Bool := decB v && decide (18 ≤ opB v ∧ opB v ≤ 21)
def tgtB (l : List Int) (i : Int) : Bool := decide (i < l.length) && l.any (fun v => jumpB v && (rcB v == i))
def tgts (l : List Int) : List Int := ((List.range l.length).map (fun n : Nat => (n : Int))).filter (tgtB l)
def num (n : Int) : List UInt8 := Lib.itoa n
def instrB (t : Int → Bool) (v : Int) : List UInt8 :=
  if decB v = false then [46, 119, 111, 114, 100, 32] ++ num v
  else if (jumpB v && t (rcB v)) = true then Lib.trimSuffix (textOf (opB v) (raB v) (rbB v) (rcB v)).data.toList (num (rcB v)) ++ [76] ++ num (rcB v)
  else (textOf (opB v) (raB v) (rbB v) (rcB v)).data.toList
def lineB (t : Int → Bool) (i : Nat) (v : Int) : List UInt8 := (if t (i : Int) = true then [76] ++ num i ++ [58, 10] else []) ++ ([32, 32] ++ instrB t v ++ [10])
def bodyB (t : Int → Bool) : Nat → List Int → List UInt8
  | _, [] => []
  | i, v :: r => lineB t i v ++ bodyB t (i + 1) r
def headB (d : Int) : List UInt8 := [46, 100, 97, 116, 97, 32] ++ num d ++ [10]
def listB (l : List Int) (d : Int) : List UInt8 := headB d ++ bodyB (tgtB l) 0 l
def okL (l : List Int) : Bool := decide (l.length ≤ 1000) && l.all (fun x => decide (0 ≤ x ∧ x < 4294967296))
theorem okL_len {l : List Int} (h : okL l = true) : l.length ≤ 1000 := by unfold okL at h; rw [Bool.and_eq_true] at h; exact of_decide_eq_true h.1
theorem okL_mem {l : List Int} (h : okL l = true) : ∀ x ∈ l, 0 ≤ x ∧ x < 4294967296 := by
  unfold okL at h
  rw [Bool.and_eq_true] at h
  exact fun x hx => of_decide_eq_true (List.all_eq_true.1 h.2 x hx)
theorem okL_of {l : List Int} (h1 : l.length ≤ 1000) (h2 : ∀ x ∈ l, 0 ≤ x ∧ x < 4294967296) : okL l = true := by
  unfold okL
  rw [Bool.and_eq_true]
  exact ⟨decide_eq_true h1, List.all_eq_true.2 fun x hx => decide_eq_true (h2 x hx)⟩
end Go.Proofs.YtdhkmdgieflioaaDoor.F
namespace Go.Proofs.YtdhkmdgieflioaaDoor.F
open Go.RowKit Go.Proofs.YtdhkmdgieflioaaDoorW.PrintWords Go.Proofs.YtdhkmdgieflioaaDoorW.PrintLast Go.Proofs.YtdhkmdgieflioaaDoorW.PrintMore
attribute [local go_sem] max2_int min2_int max_two min_two max_three min_three max_four min_four
set_option linter.unusedVariables false
set_option linter.unusedSimpArgs false
def inst_Decode.f (a0 : Int) : Option (Int × Int × Int × Int × Int) := (inst_Right.f (wrap64 (a0 / 16777216)) (wrap64 (Go.bits .and .u32 (a0 / 1048576) 15)) (wrap64 (Go.bits .and .u32 (a0 / 65536) 15)) (wrap64 (Go.bits .and .u32 a0 65535))).bind fun t300 => (if t300 = true then (some (wrap64 (a0 / 16777216), wrap64 (Go.bits .and .u32 (a0 / 1048576) 15), wrap64 (Go.bits .and .u32 (a0 / 65536) 15), wrap64 (Go.bits .and .u32 a0 65535), 0)) else (some (0, 0, 0, 0, 7)))
set_option maxHeartbeats 8000000 in
set_option maxRecDepth 100000 in
theorem inst_Decode.calls (a0 : Int) (r1 : Int) (r2 : Int) (r3 : Int) (r4 : Int) (r5 : Int) (w : World) (hGK : GK w) (h : inst_Decode.f a0 = some (r1, r2, r3, r4, r5)) :
    Calls Tryd.prog 44 #[.int .u32 a0] w fun e w' => e = .returned (.tuple #[.agg #[.int .i64 r1, .int .i64 r2, .int .i64 r3, .int .i64 r4], .int .i64 r5]) ∧ Below w.heap.size w w' := by
  have hu46 := Tryd.underlying46
  have HGK := Aside0.mk hGK
  clear hGK
  have HB := Aside0.mk (Below.refl w.heap.size w)
  have H : ((inst_Right.f (wrap64 (a0 / 16777216)) (wrap64 (Go.bits .and .u32 (a0 / 1048576) 15)) (wrap64 (Go.bits .and .u32 (a0 / 65536) 15)) (wrap64 (Go.bits .and .u32 a0 65535))).bind fun t300 => (if t300 = true then (some (wrap64 (a0 / 16777216), wrap64 (Go.bits .and .u32 (a0 / 1048576) 15), wrap64 (Go.bits .and .u32 (a0 / 65536) 15), wrap64 (Go.bits .and .u32 a0 65535), 0)) else (some (0, 0, 0, 0, 7)))) = some (r1, r2, r3, r4, r5) := h
  clear h
  replace H := Option.bind_eq_some_iff.mp H
  obtain ⟨t300, A20, H⟩ := H
  replace H : (if t300 = true then (some (wrap64 (a0 / 16777216), wrap64 (Go.bits .and .u32 (a0 / 1048576) 15), wrap64 (Go.bits .and .u32 (a0 / 65536) 15), wrap64 (Go.bits .and .u32 a0 65535), 0)) else (some (0, 0, 0, 0, 7))) = some (r1, r2, r3, r4, r5) := H
  have A2 := Aside0.mk A20
  clear A20
  by_cases c3 : t300 = true
  · subst c3
    have H1 : (some (wrap64 (a0 / 16777216), wrap64 (Go.bits .and .u32 (a0 / 1048576) 15), wrap64 (Go.bits .and .u32 (a0 / 65536) 15), wrap64 (Go.bits .and .u32 a0 65535), 0)) = some (r1, r2, r3, r4, r5) := by rw [if_pos rfl] at H; exact H
    clear H
    have H := H1
    clear H1
    simp only [Option.some.injEq, Prod.mk.injEq] at H
    obtain ⟨rfl, rfl, rfl, rfl, rfl⟩ := H
    go_enter Tryd.func44, Tryd.ntmps44
    go_wp2_with (first | ((with_reducible refine gate_dst (N := 2) rfl ?_); refine box_event ?hg (N := 2) ?hd (cs := #[.int .i64 0, .int .i64 0, .int .i64 0, .int .i64 0]) (t := 46) ?hr ?_; (case hd => rfl); (case hg => rfl); (case hr => first | (go_simp; done) | (go_simp; rfl)); intro gb298 hg w4 hbox hb; have n0_ := Aside0.mk (below_step (by repeat (first | (with_reducible first | exact HB.out | apply below_alloc | apply pw_below_drewN | apply below_drew1) | exact HB.out)) hb); have n1_ := Aside0.mk (hbox); have n2_ := Aside0.mk ((by rw [hg]; exact (below_size (by repeat (first | (with_reducible first | exact HB.out | apply below_alloc | apply pw_below_drewN | apply below_drew1) | exact HB.out))) : w.heap.size ≤ gb298)); have n3_ := Aside0.mk ((by rw [hg]; exact (below_size (by repeat (first | (with_reducible first | exact HB.out | apply below_alloc | apply pw_below_drewN | apply below_drew1) | exact HB.out))) : w.heap.size ≤ gb298)); clear HB; have HB := n0_; have BK298 := n1_; have GW298 := n2_; have GE298 := n3_; clear n0_ n1_ n2_ n3_; clear hb hbox hg) | ((with_reducible refine gate_dst (N := 4) rfl ?_); refine box_event ?hg (N := 4) ?hd (cs := #[.int .i64 0, .int .i64 0, .int .i64 0, .int .i64 0]) (t := 46) ?hr ?_; (case hd => rfl); (case hg => rfl); (case hr => first | (go_simp; done) | (go_simp; rfl)); intro gb299 hg w5 hbox hb; have n0_ := Aside0.mk (blk_below (g := gb298) (o := .cells #[.int .i64 0, .int .i64 0, .int .i64 0, .int .i64 0] 46 (0, 0)) (by (with_reducible repeat (first | refine blk_drewN ?_ _ | refine blk_drew ?_ | refine blk_alloc ?_ _)); exact BK298.out) hb); have n1_ := Aside0.mk (below_step (by repeat (first | (with_reducible first | exact HB.out | apply below_alloc | apply pw_below_drewN | apply below_drew1 | refine below_set ?_ GE298.out) | exact HB.out)) hb); have n2_ := Aside0.mk (hbox); have n3_ := Aside0.mk ((by rw [hg]; exact (below_size (by repeat (first | (with_reducible first | exact HB.out | apply below_alloc | apply pw_below_drewN | apply below_drew1 | refine below_set ?_ GE298.out) | exact HB.out))) : w.heap.size ≤ gb299)); have n4_ := Aside0.mk ((by rw [hg]; exact (below_size (by repeat (first | (with_reducible first | exact HB.out | apply below_alloc | apply pw_below_drewN | apply below_drew1 | refine below_set ?_ GE298.out) | exact HB.out))) : w.heap.size ≤ gb299)); have n5_ := Aside0.mk ((by rw [hg]; exact Nat.ne_of_lt (blk_lt (g := gb298) (o := .cells #[.int .i64 0, .int .i64 0, .int .i64 0, .int .i64 0] 46 (0, 0)) (by (with_reducible repeat (first | refine blk_drewN ?_ _ | refine blk_drew ?_ | refine blk_alloc ?_ _)); exact BK298.out)) : gb298 ≠ gb299)); have n6_ := Aside0.mk ((by rw [hg]; exact Nat.ne_of_gt (blk_lt (g := gb298) (o := .cells #[.int .i64 0, .int .i64 0, .int .i64 0, .int .i64 0] 46 (0, 0)) (by (with_reducible repeat (first | refine blk_drewN ?_ _ | refine blk_drew ?_ | refine blk_alloc ?_ _)); exact BK298.out)) : gb299 ≠ gb298)); clear BK298; clear HB; have BK298 := n0_; have HB := n1_; have BK299 := n2_; have GW299 := n3_; have GE299 := n4_; have NB298_299 := n5_; have NB299_298 := n6_; clear n0_ n1_ n2_ n3_ n4_ n5_ n6_; clear hb hbox hg; have hnb6 := NB299_298.out; have hnc6 := NB298_299.out; have hcz7_0 : w5.cell? ⟨gb299, 0, none⟩ = some (.int .i64 0) := (blk_cell BK299.out 0).trans rfl; have hcz7_1 : w5.cell? ⟨gb299, 1, none⟩ = some (.int .i64 0) := (blk_cell BK299.out 1).trans rfl; have hcz7_2 : w5.cell? ⟨gb299, 2, none⟩ = some (.int .i64 0) := (blk_cell BK299.out 2).trans rfl; have hcz7_3 : w5.cell? ⟨gb299, 3, none⟩ = some (.int .i64 0) := (blk_cell BK299.out 3).trans rfl; have hfz7_0 := blk_frozen BK299.out 0; have hfz7_1 := blk_frozen BK299.out 1; have hfz7_2 := blk_frozen BK299.out 2; have hfz7_3 := blk_frozen BK299.out 3) | ((with_reducible refine gate_callee (f := 40) rfl ?_); refine goesL_ (some 21) rfl rfl Tryd.func40 (by kernel_rfl) rfl #[.agg #[.int .i64 (wrap64 (a0 / 16777216)), .int .i64 (wrap64 (Go.bits .and .u32 (a0 / 1048576) 15)), .int .i64 (wrap64 (Go.bits .and .u32 (a0 / 65536) 15)), .int .i64 (wrap64 (Go.bits .and .u32 a0 65535))]] rfl (by (try simp only [List.map_toArray, List.map_cons, List.map_nil]); first | done | rfl | (simp only [List.length_drop, List.length_take]; rfl)) ?_; (with_reducible refine (inst_Right.calls (wrap64 (a0 / 16777216)) (wrap64 (Go.bits .and .u32 (a0 / 1048576) 15)) (wrap64 (Go.bits .and .u32 (a0 / 65536) 15)) (wrap64 (Go.bits .and .u32 a0 65535)) true _ ?side1 A2.out).mono ?_); (case side1 => exact GK.below HGK.out (by repeat (first | (with_reducible first | exact HB.out | apply below_alloc | apply pw_below_drewN | apply below_drew1 | refine below_set ?_ GE298.out | refine below_set ?_ GE299.out) | exact HB.out))); rintro e w8 ⟨rfl, hb⟩; refine ⟨_, rfl, ?_⟩; have n0_ := Aside0.mk (blk_below (g := gb298) (o := .cells #[.int .i64 0, .int .i64 0, .int .i64 0, .int .i64 0] 46 (0, 0)) (by (with_reducible repeat (first | refine blk_drewN ?_ _ | refine blk_drew ?_ | refine blk_alloc ?_ _)); refine blk_far ?_ NB298_299.out _; (with_reducible repeat (first | refine blk_drewN ?_ _ | refine blk_drew ?_ | refine blk_alloc ?_ _)); refine blk_far ?_ NB298_299.out _; (with_reducible repeat (first | refine blk_drewN ?_ _ | refine blk_drew ?_ | refine blk_alloc ?_ _)); refine blk_far ?_ NB298_299.out _; (with_reducible repeat (first | refine blk_drewN ?_ _ | refine blk_drew ?_ | refine blk_alloc ?_ _)); refine blk_far ?_ NB298_299.out _; (with_reducible repeat (first | refine blk_drewN ?_ _ | refine blk_drew ?_ | refine blk_alloc ?_ _)); exact BK298.out) hb); have n1_ := Aside0.mk (blk_below (g := gb299) (o := .cells #[.int .i64 (wrap64 (a0 / 16777216)), .int .i64 (wrap64 (Go.bits .and .u32 (a0 / 1048576) 15)), .int .i64 (wrap64 (Go.bits .and .u32 (a0 / 65536) 15)), .int .i64 (wrap64 (Go.bits .and .u32 a0 65535))] 46 (0, 0)) (by (with_reducible repeat (first | refine blk_drewN ?_ _ | refine blk_drew ?_ | refine blk_alloc ?_ _)); refine blk_put (cs := #[.int .i64 (wrap64 (a0 / 16777216)), .int .i64 (wrap64 (Go.bits .and .u32 (a0 / 1048576) 15)), .int .i64 (wrap64 (Go.bits .and .u32 (a0 / 65536) 15)), .int .i64 0]) ?_ 3 _ rfl; (with_reducible repeat (first | refine blk_drewN ?_ _ | refine blk_drew ?_ | refine blk_alloc ?_ _)); refine blk_put (cs := #[.int .i64 (wrap64 (a0 / 16777216)), .int .i64 (wrap64 (Go.bits .and .u32 (a0 / 1048576) 15)), .int .i64 0, .int .i64 0]) ?_ 2 _ rfl; (with_reducible repeat (first | refine blk_drewN ?_ _ | refine blk_drew ?_ | refine blk_alloc ?_ _)); refine blk_put (cs := #[.int .i64 (wrap64 (a0 / 16777216)), .int .i64 0, .int .i64 0, .int .i64 0]) ?_ 1 _ rfl; (with_reducible repeat (first | refine blk_drewN ?_ _ | refine blk_drew ?_ | refine blk_alloc ?_ _)); refine blk_put (cs := #[.int .i64 0, .int .i64 0, .int .i64 0, .int .i64 0]) ?_ 0 _ rfl; (with_reducible repeat (first | refine blk_drewN ?_ _ | refine blk_drew ?_ | refine blk_alloc ?_ _)); exact BK299.out) hb); have n2_ := Aside0.mk (below_step (by repeat (first | (with_reducible first | exact HB.out | apply below_alloc | apply pw_below_drewN | apply below_drew1 | refine below_set ?_ GE298.out | refine below_set ?_ GE299.out) | exact HB.out)) hb); clear BK298; clear BK299; clear HB; have BK298 := n0_; have BK299 := n1_; have HB := n2_; clear n0_ n1_ n2_; (try clear hb); (try clear hb2); (try clear hk); (try clear hi); have hcz9_0 : w8.cell? ⟨gb299, 0, none⟩ = some (.int .i64 (wrap64 (a0 / 16777216))) := (blk_cell BK299.out 0).trans rfl; have hcz9_1 : w8.cell? ⟨gb299, 1, none⟩ = some (.int .i64 (wrap64 (Go.bits .and .u32 (a0 / 1048576) 15))) := (blk_cell BK299.out 1).trans rfl; have hcz9_2 : w8.cell? ⟨gb299, 2, none⟩ = some (.int .i64 (wrap64 (Go.bits .and .u32 (a0 / 65536) 15))) := (blk_cell BK299.out 2).trans rfl; have hcz9_3 : w8.cell? ⟨gb299, 3, none⟩ = some (.int .i64 (wrap64 (Go.bits .and .u32 a0 65535))) := (blk_cell BK299.out 3).trans rfl; have hfz9_0 := blk_frozen BK299.out 0; have hfz9_1 := blk_frozen BK299.out 1; have hfz9_2 := blk_frozen BK299.out 2; have hfz9_3 := blk_frozen BK299.out 3; have hcz10_0 : w8.cell? ⟨gb298, 0, none⟩ = some (.int .i64 0) := (blk_cell BK298.out 0).trans rfl; have hcz10_1 : w8.cell? ⟨gb298, 1, none⟩ = some (.int .i64 0) := (blk_cell BK298.out 1).trans rfl; have hcz10_2 : w8.cell? ⟨gb298, 2, none⟩ = some (.int .i64 0) := (blk_cell BK298.out 2).trans rfl; have hcz10_3 : w8.cell? ⟨gb298, 3, none⟩ = some (.int .i64 0) := (blk_cell BK298.out 3).trans rfl; have hfz10_0 := blk_frozen BK298.out 0; have hfz10_1 := blk_frozen BK298.out 1; have hfz10_2 := blk_frozen BK298.out 2; have hfz10_3 := blk_frozen BK298.out 3))
    refine bodyPost_ret (results_ct rfl _ _ gb298 46 #[.int .i64 (wrap64 (a0 / 16777216)), .int .i64 (wrap64 (Go.bits .and .u32 (a0 / 1048576) 15)), .int .i64 (wrap64 (Go.bits .and .u32 (a0 / 65536) 15)), .int .i64 (wrap64 (Go.bits .and .u32 a0 65535))] (0, 0) _ rfl (by (with_reducible repeat (first | refine blk_drewN ?_ _ | refine blk_drew ?_ | refine blk_alloc ?_ _)); refine blk_put (cs := #[.int .i64 (wrap64 (a0 / 16777216)), .int .i64 (wrap64 (Go.bits .and .u32 (a0 / 1048576) 15)), .int .i64 (wrap64 (Go.bits .and .u32 (a0 / 65536) 15)), .int .i64 0]) ?_ 3 _ rfl; (with_reducible repeat (first | refine blk_drewN ?_ _ | refine blk_drew ?_ | refine blk_alloc ?_ _)); refine blk_put (cs := #[.int .i64 (wrap64 (a0 / 16777216)), .int .i64 (wrap64 (Go.bits .and .u32 (a0 / 1048576) 15)), .int .i64 0, .int .i64 0]) ?_ 2 _ rfl; (with_reducible repeat (first | refine blk_drewN ?_ _ | refine blk_drew ?_ | refine blk_alloc ?_ _)); refine blk_put (cs := #[.int .i64 (wrap64 (a0 / 16777216)), .int .i64 0, .int .i64 0, .int .i64 0]) ?_ 1 _ rfl; (with_reducible repeat (first | refine blk_drewN ?_ _ | refine blk_drew ?_ | refine blk_alloc ?_ _)); refine blk_put (cs := #[.int .i64 0, .int .i64 0, .int .i64 0, .int .i64 0]) ?_ 0 _ rfl; (with_reducible repeat (first | refine blk_drewN ?_ _ | refine blk_drew ?_ | refine blk_alloc ?_ _)); exact BK298.out) Tryd.underlying46 rfl (by kernel_rfl)) rfl ?_
    exact ⟨by first | rfl | (simp [errW_none, errW_some] <;> rfl) | (simp [*, errW_none, errW_some] <;> rfl), by repeat (first | (with_reducible first | exact HB.out | apply below_alloc | apply pw_below_drewN | apply below_drew1 | refine below_set ?_ GE298.out | refine below_set ?_ GE299.out) | exact HB.out)⟩
  · replace c3 := Bool.eq_false_iff.mpr c3
    subst c3
    have H1 : (some (0, 0, 0, 0, 7)) = some (r1, r2, r3, r4, r5) := by rw [if_neg (show ¬ (false = true) by decide)] at H; exact H
    clear H
    have H := H1
    clear H1
    simp only [Option.some.injEq, Prod.mk.injEq] at H
    obtain ⟨rfl, rfl, rfl, rfl, rfl⟩ := H
    go_enter Tryd.func44, Tryd.ntmps44
    go_wp2_with (first | ((with_reducible refine gate_dst (N := 2) rfl ?_); refine box_event ?hg (N := 2) ?hd (cs := #[.int .i64 0, .int .i64 0, .int .i64 0, .int .i64 0]) (t := 46) ?hr ?_; (case hd => rfl); (case hg => rfl); (case hr => first | (go_simp; done) | (go_simp; rfl)); intro gb298 hg w11 hbox hb; have n0_ := Aside0.mk (below_step (by repeat (first | (with_reducible first | exact HB.out | apply below_alloc | apply pw_below_drewN | apply below_drew1) | exact HB.out)) hb); have n1_ := Aside0.mk (hbox); have n2_ := Aside0.mk ((by rw [hg]; exact (below_size (by repeat (first | (with_reducible first | exact HB.out | apply below_alloc | apply pw_below_drewN | apply below_drew1) | exact HB.out))) : w.heap.size ≤ gb298)); have n3_ := Aside0.mk ((by rw [hg]; exact (below_size (by repeat (first | (with_reducible first | exact HB.out | apply below_alloc | apply pw_below_drewN | apply below_drew1) | exact HB.out))) : w.heap.size ≤ gb298)); clear HB; have HB := n0_; have BK298 := n1_; have GW298 := n2_; have GE298 := n3_; clear n0_ n1_ n2_ n3_; clear hb hbox hg) | ((with_reducible refine gate_dst (N := 4) rfl ?_); refine box_event ?hg (N := 4) ?hd (cs := #[.int .i64 0, .int .i64 0, .int .i64 0, .int .i64 0]) (t := 46) ?hr ?_; (case hd => rfl); (case hg => rfl); (case hr => first | (go_simp; done) | (go_simp; rfl)); intro gb299 hg w12 hbox hb; have n0_ := Aside0.mk (blk_below (g := gb298) (o := .cells #[.int .i64 0, .int .i64 0, .int .i64 0, .int .i64 0] 46 (0, 0)) (by (with_reducible repeat (first | refine blk_drewN ?_ _ | refine blk_drew ?_ | refine blk_alloc ?_ _)); exact BK298.out) hb); have n1_ := Aside0.mk (below_step (by repeat (first | (with_reducible first | exact HB.out | apply below_alloc | apply pw_below_drewN | apply below_drew1 | refine below_set ?_ GE298.out) | exact HB.out)) hb); have n2_ := Aside0.mk (hbox); have n3_ := Aside0.mk ((by rw [hg]; exact (below_size (by repeat (first | (with_reducible first | exact HB.out | apply below_alloc | apply pw_below_drewN | apply below_drew1 | refine below_set ?_ GE298.out) | exact HB.out))) : w.heap.size ≤ gb299)); have n4_ := Aside0.mk ((by rw [hg]; exact (below_size (by repeat (first | (with_reducible first | exact HB.out | apply below_alloc | apply pw_below_drewN | apply below_drew1 | refine below_set ?_ GE298.out) | exact HB.out))) : w.heap.size ≤ gb299)); have n5_ := Aside0.mk ((by rw [hg]; exact Nat.ne_of_lt (blk_lt (g := gb298) (o := .cells #[.int .i64 0, .int .i64 0, .int .i64 0, .int .i64 0] 46 (0, 0)) (by (with_reducible repeat (first | refine blk_drewN ?_ _ | refine blk_drew ?_ | refine blk_alloc ?_ _)); exact BK298.out)) : gb298 ≠ gb299)); have n6_ := Aside0.mk ((by rw [hg]; exact Nat.ne_of_gt (blk_lt (g := gb298) (o := .cells #[.int .i64 0, .int .i64 0, .int .i64 0, .int .i64 0] 46 (0, 0)) (by (with_reducible repeat (first | refine blk_drewN ?_ _ | refine blk_drew ?_ | refine blk_alloc ?_ _)); exact BK298.out)) : gb299 ≠ gb298)); clear BK298; clear HB; have BK298 := n0_; have HB := n1_; have BK299 := n2_; have GW299 := n3_; have GE299 := n4_; have NB298_299 := n5_; have NB299_298 := n6_; clear n0_ n1_ n2_ n3_ n4_ n5_ n6_; clear hb hbox hg; have hnb13 := NB299_298.out; have hnc13 := NB298_299.out; have hcz14_0 : w12.cell? ⟨gb299, 0, none⟩ = some (.int .i64 0) := (blk_cell BK299.out 0).trans rfl; have hcz14_1 : w12.cell? ⟨gb299, 1, none⟩ = some (.int .i64 0) := (blk_cell BK299.out 1).trans rfl; have hcz14_2 : w12.cell? ⟨gb299, 2, none⟩ = some (.int .i64 0) := (blk_cell BK299.out 2).trans rfl; have hcz14_3 : w12.cell? ⟨gb299, 3, none⟩ = some (.int .i64 0) := (blk_cell BK299.out 3).trans rfl; have hfz14_0 := blk_frozen BK299.out 0; have hfz14_1 := blk_frozen BK299.out 1; have hfz14_2 := blk_frozen BK299.out 2; have hfz14_3 := blk_frozen BK299.out 3) | ((with_reducible refine gate_callee (f := 40) rfl ?_); refine goesL_ (some 21) rfl rfl Tryd.func40 (by kernel_rfl) rfl #[.agg #[.int .i64 (wrap64 (a0 / 16777216)), .int .i64 (wrap64 (Go.bits .and .u32 (a0 / 1048576) 15)), .int .i64 (wrap64 (Go.bits .and .u32 (a0 / 65536) 15)), .int .i64 (wrap64 (Go.bits .and .u32 a0 65535))]] rfl (by (try simp only [List.map_toArray, List.map_cons, List.map_nil]); first | done | rfl | (simp only [List.length_drop, List.length_take]; rfl)) ?_; (with_reducible refine (inst_Right.calls (wrap64 (a0 / 16777216)) (wrap64 (Go.bits .and .u32 (a0 / 1048576) 15)) (wrap64 (Go.bits .and .u32 (a0 / 65536) 15)) (wrap64 (Go.bits .and .u32 a0 65535)) false _ ?side1 A2.out).mono ?_); (case side1 => exact GK.below HGK.out (by repeat (first | (with_reducible first | exact HB.out | apply below_alloc | apply pw_below_drewN | apply below_drew1 | refine below_set ?_ GE298.out | refine below_set ?_ GE299.out) | exact HB.out))); rintro e w15 ⟨rfl, hb⟩; refine ⟨_, rfl, ?_⟩; have n0_ := Aside0.mk (blk_below (g := gb298) (o := .cells #[.int .i64 0, .int .i64 0, .int .i64 0, .int .i64 0] 46 (0, 0)) (by (with_reducible repeat (first | refine blk_drewN ?_ _ | refine blk_drew ?_ | refine blk_alloc ?_ _)); refine blk_far ?_ NB298_299.out _; (with_reducible repeat (first | refine blk_drewN ?_ _ | refine blk_drew ?_ | refine blk_alloc ?_ _)); refine blk_far ?_ NB298_299.out _; (with_reducible repeat (first | refine blk_drewN ?_ _ | refine blk_drew ?_ | refine blk_alloc ?_ _)); refine blk_far ?_ NB298_299.out _; (with_reducible repeat (first | refine blk_drewN ?_ _ | refine blk_drew ?_ | refine blk_alloc ?_ _)); refine blk_far ?_ NB298_299.out _; (with_reducible repeat (first | refine blk_drewN ?_ _ | refine blk_drew ?_ | refine blk_alloc ?_ _)); exact BK298.out) hb); have n1_ := Aside0.mk (blk_below (g := gb299) (o := .cells #[.int .i64 (wrap64 (a0 / 16777216)), .int .i64 (wrap64 (Go.bits .and .u32 (a0 / 1048576) 15)), .int .i64 (wrap64 (Go.bits .and .u32 (a0 / 65536) 15)), .int .i64 (wrap64 (Go.bits .and .u32 a0 65535))] 46 (0, 0)) (by (with_reducible repeat (first | refine blk_drewN ?_ _ | refine blk_drew ?_ | refine blk_alloc ?_ _)); refine blk_put (cs := #[.int .i64 (wrap64 (a0 / 16777216)), .int .i64 (wrap64 (Go.bits .and .u32 (a0 / 1048576) 15)), .int .i64 (wrap64 (Go.bits .and .u32 (a0 / 65536) 15)), .int .i64 0]) ?_ 3 _ rfl; (with_reducible repeat (first | refine blk_drewN ?_ _ | refine blk_drew ?_ | refine blk_alloc ?_ _)); refine blk_put (cs := #[.int .i64 (wrap64 (a0 / 16777216)), .int .i64 (wrap64 (Go.bits .and .u32 (a0 / 1048576) 15)), .int .i64 0, .int .i64 0]) ?_ 2 _ rfl; (with_reducible repeat (first | refine blk_drewN ?_ _ | refine blk_drew ?_ | refine blk_alloc ?_ _)); refine blk_put (cs := #[.int .i64 (wrap64 (a0 / 16777216)), .int .i64 0, .int .i64 0, .int .i64 0]) ?_ 1 _ rfl; (with_reducible repeat (first | refine blk_drewN ?_ _ | refine blk_drew ?_ | refine blk_alloc ?_ _)); refine blk_put (cs := #[.int .i64 0, .int .i64 0, .int .i64 0, .int .i64 0]) ?_ 0 _ rfl; (with_reducible repeat (first | refine blk_drewN ?_ _ | refine blk_drew ?_ | refine blk_alloc ?_ _)); exact BK299.out) hb); have n2_ := Aside0.mk (below_step (by repeat (first | (with_reducible first | exact HB.out | apply below_alloc | apply pw_below_drewN | apply below_drew1 | refine below_set ?_ GE298.out | refine below_set ?_ GE299.out) | exact HB.out)) hb); clear BK298; clear BK299; clear HB; have BK298 := n0_; have BK299 := n1_; have HB := n2_; clear n0_ n1_ n2_; (try clear hb); (try clear hb2); (try clear hk); (try clear hi); have hcz16_0 : w15.cell? ⟨gb298, 0, none⟩ = some (.int .i64 0) := (blk_cell BK298.out 0).trans rfl; have hcz16_1 : w15.cell? ⟨gb298, 1, none⟩ = some (.int .i64 0) := (blk_cell BK298.out 1).trans rfl; have hcz16_2 : w15.cell? ⟨gb298, 2, none⟩ = some (.int .i64 0) := (blk_cell BK298.out 2).trans rfl; have hcz16_3 : w15.cell? ⟨gb298, 3, none⟩ = some (.int .i64 0) := (blk_cell BK298.out 3).trans rfl; have hfz16_0 := blk_frozen BK298.out 0; have hfz16_1 := blk_frozen BK298.out 1; have hfz16_2 := blk_frozen BK298.out 2; have hfz16_3 := blk_frozen BK298.out 3))
    refine bodyPost_ret (results_ct rfl _ _ gb298 46 #[.int .i64 0, .int .i64 0, .int .i64 0, .int .i64 0] (0, 0) _ rfl (by (with_reducible repeat (first | refine blk_drewN ?_ _ | refine blk_drew ?_ | refine blk_alloc ?_ _)); refine blk_put (cs := #[.int .i64 0, .int .i64 0, .int .i64 0, .int .i64 0]) ?_ 3 _ rfl; (with_reducible repeat (first | refine blk_drewN ?_ _ | refine blk_drew ?_ | refine blk_alloc ?_ _)); refine blk_put (cs := #[.int .i64 0, .int .i64 0, .int .i64 0, .int .i64 0]) ?_ 2 _ rfl; (with_reducible repeat (first | refine blk_drewN ?_ _ | refine blk_drew ?_ | refine blk_alloc ?_ _)); refine blk_put (cs := #[.int .i64 0, .int .i64 0, .int .i64 0, .int .i64 0]) ?_ 1 _ rfl; (with_reducible repeat (first | refine blk_drewN ?_ _ | refine blk_drew ?_ | refine blk_alloc ?_ _)); refine blk_put (cs := #[.int .i64 0, .int .i64 0, .int .i64 0, .int .i64 0]) ?_ 0 _ rfl; (with_reducible repeat (first | refine blk_drewN ?_ _ | refine blk_drew ?_ | refine blk_alloc ?_ _)); exact BK298.out) Tryd.underlying46 rfl (by kernel_rfl)) rfl ?_
    exact ⟨by first | rfl | (simp [errW_none, errW_some] <;> rfl) | (simp [*, errW_none, errW_some] <;> rfl), by repeat (first | (with_reducible first | exact HB.out | apply below_alloc | apply pw_below_drewN | apply below_drew1 | refine below_set ?_ GE298.out | refine below_set ?_ GE299.out) | exact HB.out)⟩
end Go.Proofs.YtdhkmdgieflioaaDoor.F
namespace Go.Proofs.YtdhkmdgieflioaaDoor.F
open Go.RowKit Go.Proofs.YtdhkmdgieflioaaDoorW.PrintWords Go.Proofs.YtdhkmdgieflioaaDoorW.PrintLast Go.Proofs.YtdhkmdgieflioaaDoorW.PrintMore
attribute [local go_sem] max2_int min2_int max_two min_two max_three min_three max_four min_four
set_option linter.unusedVariables false
set_option linter.unusedSimpArgs false
def listing_jump.f (a0 : Int) : Option (Int × Bool) := (inst_Decode.f a0).bind fun bt404 => (if bt404.2.2.2.2 = 0 then (if bt404.1 = 18 then (some (bt404.2.2.2.1, true)) else (if bt404.1 = 19 then (some (bt404.2.2.2.1, true)) else (if bt404.1 = 20 then (some (bt404.2.2.2.1, true)) else (if bt404.1 = 21 then (some (bt404.2.2.2.1, true)) else (some (0, false)))))) else (some (0, false)))
set_option maxHeartbeats 8000000 in
set_option maxRecDepth 100000 in
theorem listing_jump.calls (a0 : Int) (r1 : Int) (r2 : Bool) (w : World) (hGK : GK w) (h : listing_jump.f a0 = some (r1, r2)) :
    Calls Tryd.prog 94 #[.int .u32 a0] w fun e w' => e = .returned (.tuple #[.int .i64 r1, .bool r2]) ∧ Below w.heap.size w w' := by
  have hu46 := Tryd.underlying46
  have HGK := Aside0.mk hGK
  clear hGK
  have HB := Aside0.mk (Below.refl w.heap.size w)
  have H : ((inst_Decode.f a0).bind fun bt404 => (if bt404.2.2.2.2 = 0 then (if bt404.1 = 18 then (some (bt404.2.2.2.1, true)) else (if bt404.1 = 19 then (some (bt404.2.2.2.1, true)) else (if bt404.1 = 20 then (some (bt404.2.2.2.1, true)) else (if bt404.1 = 21 then (some (bt404.2.2.2.1, true)) else (some (0, false)))))) else (some (0, false)))) = some (r1, r2) := h
  clear h
  replace H := Option.bind_eq_some_iff.mp H
  obtain ⟨⟨t404, t405, t406, t407, t408⟩, A20, H⟩ := H
  replace H : (if t408 = 0 then (if t404 = 18 then (some (t407, true)) else (if t404 = 19 then (some (t407, true)) else (if t404 = 20 then (some (t407, true)) else (if t404 = 21 then (some (t407, true)) else (some (0, false)))))) else (some (0, false))) = some (r1, r2) := H
  have A2 := Aside0.mk A20
  clear A20
  by_cases c3 : t408 = 0
  · rw [if_pos c3] at H
    have c3b0 : (t408 == 0) = true := beq_iff_eq.mpr c3
    have c3b1 : (t408 != 0) = false := bne_eq_false_iff_eq.mpr c3
    clear c3
    by_cases c4 : t404 = 18
    · rw [if_pos c4] at H
      have c4b0 : (t404 == 18) = true := beq_iff_eq.mpr c4
      have c4b1 : (t404 != 18) = false := bne_eq_false_iff_eq.mpr c4
      clear c4
      simp only [Option.some.injEq, Prod.mk.injEq] at H
      obtain ⟨rfl, rfl⟩ := H
      go_enter Tryd.func94, Tryd.ntmps94
      go_wp2_with (first | ((with_reducible refine gate_callee (f := 44) rfl ?_); refine goesL_ (some 8) rfl rfl Tryd.func44 (by kernel_rfl) rfl #[.int .u32 a0] rfl (by (try simp only [List.map_toArray, List.map_cons, List.map_nil]); first | done | rfl | (simp only [List.length_drop, List.length_take]; rfl)) ?_; (with_reducible refine (inst_Decode.calls a0 t404 t405 t406 t407 t408 _ ?side1 A2.out).mono ?_); (case side1 => exact GK.below HGK.out (by repeat (first | (with_reducible first | exact HB.out | apply below_alloc | apply pw_below_drewN | apply below_drew1) | exact HB.out))); rintro e w5 ⟨rfl, hb⟩; refine ⟨_, rfl, ?_⟩; have n0_ := Aside0.mk (below_step (by repeat (first | (with_reducible first | exact HB.out | apply below_alloc | apply pw_below_drewN | apply below_drew1) | exact HB.out)) hb); clear HB; have HB := n0_; clear n0_; (try clear hb); (try clear hb2); (try clear hk); (try clear hi)) | ((with_reducible refine gate_dst (N := 4) rfl ?_); refine box_event ?hg (N := 4) ?hd (cs := #[.int .i64 0, .int .i64 0, .int .i64 0, .int .i64 0]) (t := 46) ?hr ?_; (case hd => rfl); (case hg => rfl); (case hr => first | (go_simp; done) | (go_simp; rfl)); intro gb409 hg w6 hbox hb; have n0_ := Aside0.mk (below_step (by repeat (first | (with_reducible first | exact HB.out | apply below_alloc | apply pw_below_drewN | apply below_drew1) | exact HB.out)) hb); have n1_ := Aside0.mk (hbox); have n2_ := Aside0.mk ((by rw [hg]; exact (below_size (by repeat (first | (with_reducible first | exact HB.out | apply below_alloc | apply pw_below_drewN | apply below_drew1) | exact HB.out))) : w.heap.size ≤ gb409)); have n3_ := Aside0.mk ((by rw [hg]; exact (below_size (by repeat (first | (with_reducible first | exact HB.out | apply below_alloc | apply pw_below_drewN | apply below_drew1) | exact HB.out))) : w.heap.size ≤ gb409)); clear HB; have HB := n0_; have BK409 := n1_; have GW409 := n2_; have GE409 := n3_; clear n0_ n1_ n2_ n3_; clear hb hbox hg; have hcz7_0 : w6.cell? ⟨gb409, 0, none⟩ = some (.int .i64 0) := (blk_cell BK409.out 0).trans rfl; have hcz7_1 : w6.cell? ⟨gb409, 1, none⟩ = some (.int .i64 0) := (blk_cell BK409.out 1).trans rfl; have hcz7_2 : w6.cell? ⟨gb409, 2, none⟩ = some (.int .i64 0) := (blk_cell BK409.out 2).trans rfl; have hcz7_3 : w6.cell? ⟨gb409, 3, none⟩ = some (.int .i64 0) := (blk_cell BK409.out 3).trans rfl; have hfz7_0 := blk_frozen BK409.out 0; have hfz7_1 := blk_frozen BK409.out 1; have hfz7_2 := blk_frozen BK409.out 2; have hfz7_3 := blk_frozen BK409.out 3))
      go_ret2
      exact ⟨by first | rfl | (simp [errW_none, errW_some] <;> rfl) | (simp [*, errW_none, errW_some] <;> rfl), by repeat (first | (with_reducible first | exact HB.out | apply below_alloc | apply pw_below_drewN | apply below_drew1 | refine below_set ?_ GE409.out) | exact HB.out)⟩
    · rw [if_neg c4] at H
      have c4b0 : (t404 == 18) = false := beq_eq_false_iff_ne.mpr c4
      have c4b1 : (t404 != 18) = true := bne_iff_ne.mpr c4
      by_cases c8 : t404 = 19
      · rw [if_pos c8] at H
        have c8b0 : (t404 == 19) = true := beq_iff_eq.mpr c8
        have c8b1 : (t404 != 19) = false := bne_eq_false_iff_eq.mpr c8
        clear c8
        simp only [Option.some.injEq, Prod.mk.injEq] at H
        obtain ⟨rfl, rfl⟩ := H
        go_enter Tryd.func94, Tryd.ntmps94
        go_wp2_with (first | ((with_reducible refine gate_callee (f := 44) rfl ?_); refine goesL_ (some 8) rfl rfl Tryd.func44 (by kernel_rfl) rfl #[.int .u32 a0] rfl (by (try simp only [List.map_toArray, List.map_cons, List.map_nil]); first | done | rfl | (simp only [List.length_drop, List.length_take]; rfl)) ?_; (with_reducible refine (inst_Decode.calls a0 t404 t405 t406 t407 t408 _ ?side1 A2.out).mono ?_); (case side1 => exact GK.below HGK.out (by repeat (first | (with_reducible first | exact HB.out | apply below_alloc | apply pw_below_drewN | apply below_drew1) | exact HB.out))); rintro e w9 ⟨rfl, hb⟩; refine ⟨_, rfl, ?_⟩; have n0_ := Aside0.mk (below_step (by repeat (first | (with_reducible first | exact HB.out | apply below_alloc | apply pw_below_drewN | apply below_drew1) | exact HB.out)) hb); clear HB; have HB := n0_; clear n0_; (try clear hb); (try clear hb2); (try clear hk); (try clear hi)) | ((with_reducible refine gate_dst (N := 4) rfl ?_); refine box_event ?hg (N := 4) ?hd (cs := #[.int .i64 0, .int .i64 0, .int .i64 0, .int .i64 0]) (t := 46) ?hr ?_; (case hd => rfl); (case hg => rfl); (case hr => first | (go_simp; done) | (go_simp; rfl)); intro gb409 hg w10 hbox hb; have n0_ := Aside0.mk (below_step (by repeat (first | (with_reducible first | exact HB.out | apply below_alloc | apply pw_below_drewN | apply below_drew1) | exact HB.out)) hb); have n1_ := Aside0.mk (hbox); have n2_ := Aside0.mk ((by rw [hg]; exact (below_size (by repeat (first | (with_reducible first | exact HB.out | apply below_alloc | apply pw_below_drewN | apply below_drew1) | exact HB.out))) : w.heap.size ≤ gb409)); have n3_ := Aside0.mk ((by rw [hg]; exact (below_size (by repeat (first | (with_reducible first | exact HB.out | apply below_alloc | apply pw_below_drewN | apply below_drew1) | exact HB.out))) : w.heap.size ≤ gb409)); clear HB; have HB := n0_; have BK409 := n1_; have GW409 := n2_; have GE409 := n3_; clear n0_ n1_ n2_ n3_; clear hb hbox hg; have hcz11_0 : w10.cell? ⟨gb409, 0, none⟩ = some (.int .i64 0) := (blk_cell BK409.out 0).trans rfl; have hcz11_1 : w10.cell? ⟨gb409, 1, none⟩ = some (.int .i64 0) := (blk_cell BK409.out 1).trans rfl; have hcz11_2 : w10.cell? ⟨gb409, 2, none⟩ = some (.int .i64 0) := (blk_cell BK409.out 2).trans rfl; have hcz11_3 : w10.cell? ⟨gb409, 3, none⟩ = some (.int .i64 0) := (blk_cell BK409.out 3).trans rfl; have hfz11_0 := blk_frozen BK409.out 0; have hfz11_1 := blk_frozen BK409.out 1; have hfz11_2 := blk_frozen BK409.out 2; have hfz11_3 := blk_frozen BK409.out 3))
        go_ret2
        exact ⟨by first | rfl | (simp [errW_none, errW_some] <;> rfl) | (simp [*, errW_none, errW_some] <;> rfl), by repeat (first | (with_reducible first | exact HB.out | apply below_alloc | apply pw_below_drewN | apply below_drew1 | refine below_set ?_ GE409.out) | exact HB.out)⟩
      · rw [if_neg c8] at H
        have c8b0 : (t404 == 19) = false := beq_eq_false_iff_ne.mpr c8
        have c8b1 : (t404 != 19) = true := bne_iff_ne.mpr c8
        by_cases c12 : t404 = 20
        · rw [if_pos c12] at H
          have c12b0 : (t404 == 20) = true := beq_iff_eq.mpr c12
          have c12b1 : (t404 != 20) = false := bne_eq_false_iff_eq.mpr c12
          clear c12
          simp only [Option.some.injEq, Prod.mk.injEq] at H
          obtain ⟨rfl, rfl⟩ := H
          go_enter Tryd.func94, Tryd.ntmps94
          go_wp2_with (first | ((with_reducible refine gate_callee (f := 44) rfl ?_); refine goesL_ (some 8) rfl rfl Tryd.func44 (by kernel_rfl) rfl #[.int .u32 a0] rfl (by (try simp only [List.map_toArray, List.map_cons, List.map_nil]); first | done | rfl | (simp only [List.length_drop, List.length_take]; rfl)) ?_; (with_reducible refine (inst_Decode.calls a0 t404 t405 t406 t407 t408 _ ?side1 A2.out).mono ?_); (case side1 => exact GK.below HGK.out (by repeat (first | (with_reducible first | exact HB.out | apply below_alloc | apply pw_below_drewN | apply below_drew1) | exact HB.out))); rintro e w13 ⟨rfl, hb⟩; refine ⟨_, rfl, ?_⟩; have n0_ := Aside0.mk (below_step (by repeat (first | (with_reducible first | exact HB.out | apply below_alloc | apply pw_below_drewN | apply below_drew1) | exact HB.out)) hb); clear HB; have HB := n0_; clear n0_; (try clear hb); (try clear hb2); (try clear hk); (try clear hi)) | ((with_reducible refine gate_dst (N := 4) rfl ?_); refine box_event ?hg (N := 4) ?hd (cs := #[.int .i64 0, .int .i64 0, .int .i64 0, .int .i64 0]) (t := 46) ?hr ?_; (case hd => rfl); (case hg => rfl); (case hr => first | (go_simp; done) | (go_simp; rfl)); intro gb409 hg w14 hbox hb; have n0_ := Aside0.mk (below_step (by repeat (first | (with_reducible first | exact HB.out | apply below_alloc | apply pw_below_drewN | apply below_drew1) | exact HB.out)) hb); have n1_ := Aside0.mk (hbox); have n2_ := Aside0.mk ((by rw [hg]; exact (below_size (by repeat (first | (with_reducible first | exact HB.out | apply below_alloc | apply pw_below_drewN | apply below_drew1) | exact HB.out))) : w.heap.size ≤ gb409)); have n3_ := Aside0.mk ((by rw [hg]; exact (below_size (by repeat (first | (with_reducible first | exact HB.out | apply below_alloc | apply pw_below_drewN | apply below_drew1) | exact HB.out))) : w.heap.size ≤ gb409)); clear HB; have HB := n0_; have BK409 := n1_; have GW409 := n2_; have GE409 := n3_; clear n0_ n1_ n2_ n3_; clear hb hbox hg; have hcz15_0 : w14.cell? ⟨gb409, 0, none⟩ = some (.int .i64 0) := (blk_cell BK409.out 0).trans rfl; have hcz15_1 : w14.cell? ⟨gb409, 1, none⟩ = some (.int .i64 0) := (blk_cell BK409.out 1).trans rfl; have hcz15_2 : w14.cell? ⟨gb409, 2, none⟩ = some (.int .i64 0) := (blk_cell BK409.out 2).trans rfl; have hcz15_3 : w14.cell? ⟨gb409, 3, none⟩ = some (.int .i64 0) := (blk_cell BK409.out 3).trans rfl; have hfz15_0 := blk_frozen BK409.out 0; have hfz15_1 := blk_frozen BK409.out 1; have hfz15_2 := blk_frozen BK409.out 2; have hfz15_3 := blk_frozen BK409.out 3))
          go_ret2
          exact ⟨by first | rfl | (simp [errW_none, errW_some] <;> rfl) | (simp [*, errW_none, errW_some] <;> rfl), by repeat (first | (with_reducible first | exact HB.out | apply below_alloc | apply pw_below_drewN | apply below_drew1 | refine below_set ?_ GE409.out) | exact HB.out)⟩
        · rw [if_neg c12] at H
          have c12b0 : (t404 == 20) = false := beq_eq_false_iff_ne.mpr c12
          have c12b1 : (t404 != 20) = true := bne_iff_ne.mpr c12
          by_cases c16 : t404 = 21
          · rw [if_pos c16] at H
            have c16b0 : (t404 == 21) = true := beq_iff_eq.mpr c16
            have c16b1 : (t404 != 21) = false := bne_eq_false_iff_eq.mpr c16
            clear c16
            simp only [Option.some.injEq, Prod.mk.injEq] at H
            obtain ⟨rfl, rfl⟩ := H
            go_enter Tryd.func94, Tryd.ntmps94
            go_wp2_with (first | ((with_reducible refine gate_callee (f := 44) rfl ?_); refine goesL_ (some 8) rfl rfl Tryd.func44 (by kernel_rfl) rfl #[.int .u32 a0] rfl (by (try simp only [List.map_toArray, List.map_cons, List.map_nil]); first | done | rfl | (simp only [List.length_drop, List.length_take]; rfl)) ?_; (with_reducible refine (inst_Decode.calls a0 t404 t405 t406 t407 t408 _ ?side1 A2.out).mono ?_); (case side1 => exact GK.below HGK.out (by repeat (first | (with_reducible first | exact HB.out | apply below_alloc | apply pw_below_drewN | apply below_drew1) | exact HB.out))); rintro e w17 ⟨rfl, hb⟩; refine ⟨_, rfl, ?_⟩; have n0_ := Aside0.mk (below_step (by repeat (first | (with_reducible first | exact HB.out | apply below_alloc | apply pw_below_drewN | apply below_drew1) | exact HB.out)) hb); clear HB; have HB := n0_; clear n0_; (try clear hb); (try clear hb2); (try clear hk); (try clear hi)) | ((with_reducible refine gate_dst (N := 4) rfl ?_); refine box_event ?hg (N := 4) ?hd (cs := #[.int .i64 0, .int .i64 0, .int .i64 0, .int .i64 0]) (t := 46) ?hr ?_; (case hd => rfl); (case hg => rfl); (case hr => first | (go_simp; done) | (go_simp; rfl)); intro gb409 hg w18 hbox hb; have n0_ := Aside0.mk (below_step (by repeat (first | (with_reducible first | exact HB.out | apply below_alloc | apply pw_below_drewN | apply below_drew1) | exact HB.out)) hb); have n1_ := Aside0.mk (hbox); have n2_ := Aside0.mk ((by rw [hg]; exact (below_size (by repeat (first | (with_reducible first | exact HB.out | apply below_alloc | apply pw_below_drewN | apply below_drew1) | exact HB.out))) : w.heap.size ≤ gb409)); have n3_ := Aside0.mk ((by rw [hg]; exact (below_size (by repeat (first | (with_reducible first | exact HB.out | apply below_alloc | apply pw_below_drewN | apply below_drew1) | exact HB.out))) : w.heap.size ≤ gb409)); clear HB; have HB := n0_; have BK409 := n1_; have GW409 := n2_; have GE409 := n3_; clear n0_ n1_ n2_ n3_; clear hb hbox hg; have hcz19_0 : w18.cell? ⟨gb409, 0, none⟩ = some (.int .i64 0) := (blk_cell BK409.out 0).trans rfl; have hcz19_1 : w18.cell? ⟨gb409, 1, none⟩ = some (.int .i64 0) := (blk_cell BK409.out 1).trans rfl; have hcz19_2 : w18.cell? ⟨gb409, 2, none⟩ = some (.int .i64 0) := (blk_cell BK409.out 2).trans rfl; have hcz19_3 : w18.cell? ⟨gb409, 3, none⟩ = some (.int .i64 0) := (blk_cell BK409.out 3).trans rfl; have hfz19_0 := blk_frozen BK409.out 0; have hfz19_1 := blk_frozen BK409.out 1; have hfz19_2 := blk_frozen BK409.out 2; have hfz19_3 := blk_frozen BK409.out 3))
            go_ret2
            exact ⟨by first | rfl | (simp [errW_none, errW_some] <;> rfl) | (simp [*, errW_none, errW_some] <;> rfl), by repeat (first | (with_reducible first | exact HB.out | apply below_alloc | apply pw_below_drewN | apply below_drew1 | refine below_set ?_ GE409.out) | exact HB.out)⟩
          · rw [if_neg c16] at H
            have c16b0 : (t404 == 21) = false := beq_eq_false_iff_ne.mpr c16
            have c16b1 : (t404 != 21) = true := bne_iff_ne.mpr c16
            simp only [Option.some.injEq, Prod.mk.injEq] at H
            obtain ⟨rfl, rfl⟩ := H
            go_enter Tryd.func94, Tryd.ntmps94
            go_wp2_with (first | ((with_reducible refine gate_callee (f := 44) rfl ?_); refine goesL_ (some 8) rfl rfl Tryd.func44 (by kernel_rfl) rfl #[.int .u32 a0] rfl (by (try simp only [List.map_toArray, List.map_cons, List.map_nil]); first | done | rfl | (simp only [List.length_drop, List.length_take]; rfl)) ?_; (with_reducible refine (inst_Decode.calls a0 t404 t405 t406 t407 t408 _ ?side1 A2.out).mono ?_); (case side1 => exact GK.below HGK.out (by repeat (first | (with_reducible first | exact HB.out | apply below_alloc | apply pw_below_drewN | apply below_drew1) | exact HB.out))); rintro e w20 ⟨rfl, hb⟩; refine ⟨_, rfl, ?_⟩; have n0_ := Aside0.mk (below_step (by repeat (first | (with_reducible first | exact HB.out | apply below_alloc | apply pw_below_drewN | apply below_drew1) | exact HB.out)) hb); clear HB; have HB := n0_; clear n0_; (try clear hb); (try clear hb2); (try clear hk); (try clear hi)) | ((with_reducible refine gate_dst (N := 4) rfl ?_); refine box_event ?hg (N := 4) ?hd (cs := #[.int .i64 0, .int .i64 0, .int .i64 0, .int .i64 0]) (t := 46) ?hr ?_; (case hd => rfl); (case hg => rfl); (case hr => first | (go_simp; done) | (go_simp; rfl)); intro gb409 hg w21 hbox hb; have n0_ := Aside0.mk (below_step (by repeat (first | (with_reducible first | exact HB.out | apply below_alloc | apply pw_below_drewN | apply below_drew1) | exact HB.out)) hb); have n1_ := Aside0.mk (hbox); have n2_ := Aside0.mk ((by rw [hg]; exact (below_size (by repeat (first | (with_reducible first | exact HB.out | apply below_alloc | apply pw_below_drewN | apply below_drew1) | exact HB.out))) : w.heap.size ≤ gb409)); have n3_ := Aside0.mk ((by rw [hg]; exact (below_size (by repeat (first | (with_reducible first | exact HB.out | apply below_alloc | apply pw_below_drewN | apply below_drew1) | exact HB.out))) : w.heap.size ≤ gb409)); clear HB; have HB := n0_; have BK409 := n1_; have GW409 := n2_; have GE409 := n3_; clear n0_ n1_ n2_ n3_; clear hb hbox hg; have hcz22_0 : w21.cell? ⟨gb409, 0, none⟩ = some (.int .i64 0) := (blk_cell BK409.out 0).trans rfl; have hcz22_1 : w21.cell? ⟨gb409, 1, none⟩ = some (.int .i64 0) := (blk_cell BK409.out 1).trans rfl; have hcz22_2 : w21.cell? ⟨gb409, 2, none⟩ = some (.int .i64 0) := (blk_cell BK409.out 2).trans rfl; have hcz22_3 : w21.cell? ⟨gb409, 3, none⟩ = some (.int .i64 0) := (blk_cell BK409.out 3).trans rfl; have hfz22_0 := blk_frozen BK409.out 0; have hfz22_1 := blk_frozen BK409.out 1; have hfz22_2 := blk_frozen BK409.out 2; have hfz22_3 := blk_frozen BK409.out 3))
            go_ret2
            exact ⟨by first | rfl | (simp [errW_none, errW_some] <;> rfl) | (simp [*, errW_none, errW_some] <;> rfl), by repeat (first | (with_reducible first | exact HB.out | apply below_alloc | apply pw_below_drewN | apply below_drew1 | refine below_set ?_ GE409.out) | exact HB.out)⟩
  · rw [if_neg c3] at H
    have c3b0 : (t408 == 0) = false := beq_eq_false_iff_ne.mpr c3
    have c3b1 : (t408 != 0) = true := bne_iff_ne.mpr c3
    simp only [Option.some.injEq, Prod.mk.injEq] at H
    obtain ⟨rfl, rfl⟩ := H
    go_enter Tryd.func94, Tryd.ntmps94
    go_wp2_with (first | ((with_reducible refine gate_callee (f := 44) rfl ?_); refine goesL_ (some 8) rfl rfl Tryd.func44 (by kernel_rfl) rfl #[.int .u32 a0] rfl (by (try simp only [List.map_toArray, List.map_cons, List.map_nil]); first | done | rfl | (simp only [List.length_drop, List.length_take]; rfl)) ?_; (with_reducible refine (inst_Decode.calls a0 t404 t405 t406 t407 t408 _ ?side1 A2.out).mono ?_); (case side1 => exact GK.below HGK.out (by repeat (first | (with_reducible first | exact HB.out | apply below_alloc | apply pw_below_drewN | apply below_drew1) | exact HB.out))); rintro e w23 ⟨rfl, hb⟩; refine ⟨_, rfl, ?_⟩; have n0_ := Aside0.mk (below_step (by repeat (first | (with_reducible first | exact HB.out | apply below_alloc | apply pw_below_drewN | apply below_drew1) | exact HB.out)) hb); clear HB; have HB := n0_; clear n0_; (try clear hb); (try clear hb2); (try clear hk); (try clear hi)) | ((with_reducible refine gate_dst (N := 4) rfl ?_); refine box_event ?hg (N := 4) ?hd (cs := #[.int .i64 0, .int .i64 0, .int .i64 0, .int .i64 0]) (t := 46) ?hr ?_; (case hd => rfl); (case hg => rfl); (case hr => first | (go_simp; done) | (go_simp; rfl)); intro gb409 hg w24 hbox hb; have n0_ := Aside0.mk (below_step (by repeat (first | (with_reducible first | exact HB.out | apply below_alloc | apply pw_below_drewN | apply below_drew1) | exact HB.out)) hb); have n1_ := Aside0.mk (hbox); have n2_ := Aside0.mk ((by rw [hg]; exact (below_size (by repeat (first | (with_reducible first | exact HB.out | apply below_alloc | apply pw_below_drewN | apply below_drew1) | exact HB.out))) : w.heap.size ≤ gb409)); have n3_ := Aside0.mk ((by rw [hg]; exact (below_size (by repeat (first | (with_reducible first | exact HB.out | apply below_alloc | apply pw_below_drewN | apply below_drew1) | exact HB.out))) : w.heap.size ≤ gb409)); clear HB; have HB := n0_; have BK409 := n1_; have GW409 := n2_; have GE409 := n3_; clear n0_ n1_ n2_ n3_; clear hb hbox hg; have hcz25_0 : w24.cell? ⟨gb409, 0, none⟩ = some (.int .i64 0) := (blk_cell BK409.out 0).trans rfl; have hcz25_1 : w24.cell? ⟨gb409, 1, none⟩ = some (.int .i64 0) := (blk_cell BK409.out 1).trans rfl; have hcz25_2 : w24.cell? ⟨gb409, 2, none⟩ = some (.int .i64 0) := (blk_cell BK409.out 2).trans rfl; have hcz25_3 : w24.cell? ⟨gb409, 3, none⟩ = some (.int .i64 0) := (blk_cell BK409.out 3).trans rfl; have hfz25_0 := blk_frozen BK409.out 0; have hfz25_1 := blk_frozen BK409.out 1; have hfz25_2 := blk_frozen BK409.out 2; have hfz25_3 := blk_frozen BK409.out 3))
    go_ret2
    exact ⟨by first | rfl | (simp [errW_none, errW_some] <;> rfl) | (simp [*, errW_none, errW_some] <;> rfl), by repeat (first | (with_reducible first | exact HB.out | apply below_alloc | apply pw_below_drewN | apply below_drew1 | refine below_set ?_ GE409.out) | exact HB.out)⟩
end Go.Proofs.YtdhkmdgieflioaaDoor.F
namespace Go.Proofs.YtdhkmdgieflioaaDoor.F
open Go.RowKit Go.Proofs.YtdhkmdgieflioaaDoorW.PrintWords Go.Proofs.YtdhkmdgieflioaaDoorW.PrintLast Go.Proofs.YtdhkmdgieflioaaDoorW.PrintMore
set_option linter.unusedVariables false
set_option linter.unusedSimpArgs false
open Go.Maps
theorem own_map_below {H : Type} {P : Program} {k : TypeId} {R : Value → Option (DataW H × List MemPlace)} {w w' : World} {b n : Nat} {D : DataW H} (h : w.ownsMap P k R b n D) (hb : Below w.heap.size w w') : w'.ownsMap P k R b n D := by
  have hlt := h.lt
  obtain ⟨es, clock, he, F, hs, hD⟩ := h
  exact ⟨es, clock, (hb.block b hlt).trans he, F, hs, hD⟩
theorem law3 : Keyed Tryd.prog 3 := int_keyed Tryd.underlying3
def TMap {H : Type} (D : DataW H) (t : Int → Bool) : Prop := IsMap D ∧ (∀ i : Int, has D (.int .i64 i) = t i) ∧ ∀ (i : Int) (z : DataW H), t i = true → D.atKey (.int .i64 i) z = .lit (.bool true)
theorem TMap.start {H : Type} : TMap (.map [] : DataW H) (fun _ => false) := ⟨isMap_empty, fun _ => rfl, fun _ _ h => by cases h⟩
theorem TMap.put {H : Type} {D : DataW H} {t : Int → Bool} (h : TMap D t) (x : Int) : TMap (D.put (.int .i64 x) (.lit (.bool true))) (fun i => t i || (x == i)) := by
  obtain ⟨h1, h2, h3⟩ := h
  refine ⟨h1.put _ _, fun i => ?_, fun i z hi => ?_⟩
  · show has _ _ = (t i || (x == i))
    by_cases e : i = x
    · subst e
      rw [has_put_same (k := .int .i64 i) h1 (show WideAt.IsKeyLit (.int .i64 i) from trivial)]
      simp
    · have hb : (x == i) = false := beq_eq_false_iff_ne.2 (fun h => e h.symm)
      rw [has_put_other (by simpa using e), h2, hb, Bool.or_false]
  · by_cases e : i = x
    · subst e
      exact atKey_put_same (k := .int .i64 i) h1 (show WideAt.IsKeyLit (.int .i64 i) from trivial) _ _
    · have hb : (x == i) = false := beq_eq_false_iff_ne.2 (fun h => e h.symm)
      simp only [hb, Bool.or_false] at hi
      rw [atKey_put_other (by simpa using e)]
      exact h3 i z hi
theorem TMap.look {H : Type} {D : DataW H} {t : Int → Bool} (h : TMap D t) (i : Int) : D.atKey (.int .i64 i) (.lit (.bool false)) = .lit (.bool (t i)) := by
  cases ht : t i with
  | true => exact h.2.2 i _ ht
  | false => exact atKey_of_not_has (by rw [h.2.1, ht]) _
def tgtK (l : List Int) (k : Nat) (i : Int) : Bool := decide (i < l.length) && (l.take k).any (fun v => jumpB v && (rcB v == i))
theorem tgtK_zero (l : List Int) : tgtK l 0 = fun _ => false := by funext i; simp [tgtK]
theorem tgtK_all (l : List Int) : tgtK l l.length = tgtB l := by funext i; simp [tgtK, tgtB]
theorem rd_at (l : List Int) (k : Nat) (h : k < l.length) : l[k]? = some (rd l (k : Int)) := by
  have : rd l (k : Int) = l[k] := by simp [rd, List.getD_eq_getElem?_getD, h]
  rw [this]
  exact List.getElem?_eq_getElem h
theorem tgtK_step (l : List Int) (k : Nat) (h : k < l.length) : tgtK l (k + 1) = fun i => tgtK l k i || (decide (i < l.length) && (jumpB (rd l (k : Int)) && (rcB (rd l (k : Int)) == i))) := by
  funext i
  unfold tgtK
  rw [List.take_add_one, rd_at l k h, List.any_append]
  simp only [Option.toList_some, List.any_cons, List.any_nil, Bool.or_false]
  cases decide (i < (l.length : Int)) <;> simp
theorem tgtK_no (l : List Int) (k : Nat) (h : k < l.length) (hn : jumpB (rd l (k : Int)) = false ∨ ¬ rcB (rd l (k : Int)) < (l.length : Int)) : tgtK l (k + 1) = tgtK l k := by
  rw [tgtK_step l k h]
  funext i
  rcases hn with hn | hn
  · rw [hn]; simp
  · by_cases e : rcB (rd l (k : Int)) = i
    · rw [← e, decide_eq_false hn]; simp
    · rw [beq_eq_false_iff_ne.2 e]; simp
theorem tgtK_yes (l : List Int) (k : Nat) (h : k < l.length) (hj : jumpB (rd l (k : Int)) = true) (hn : rcB (rd l (k : Int)) < (l.length : Int)) : tgtK l (k + 1) = fun i => tgtK l k i || (rcB (rd l (k : Int)) == i) := by
  rw [tgtK_step l k h]
  funext i
  by_cases e : rcB (rd l (k : Int)) = i
  · rw [hj, ← e, decide_eq_true hn]; simp
  · rw [beq_eq_false_iff_ne.2 e]; simp
theorem dec_part (v : Int) (h0 : 0 ≤ v) (h1 : v < 4294967296) : wrap64 (v / 16777216) = opB v ∧ wrap64 (Go.bits .and .u32 (v / 1048576) 15) = raB v ∧ wrap64 (Go.bits .and .u32 (v / 65536) 15) = rbB v ∧ wrap64 (Go.bits .and .u32 v 65535) = rcB v := by
  unfold opB raB rbB rcB
  have wr : ∀ n : Int, 0 ≤ n → n < 2 ^ 32 → IntKind.u32.wrap n = n := by intro n g0 g1; rw [IntKind.wrap_u32]; omega
  have m1 := bits_mask .u32 32 (by decide) wr 4 (by decide) (v / 1048576) (by omega) (by omega)
  have m2 := bits_mask .u32 32 (by decide) wr 4 (by decide) (v / 65536) (by omega) (by omega)
  have m3 := bits_mask .u32 32 (by decide) wr 16 (by decide) v (by omega) (by omega)
  have e1 : (2 ^ 4 - 1 : Int) = 15 := by decide
  have e2 : (2 ^ 16 - 1 : Int) = 65535 := by decide
  have e3 : (2 ^ 4 : Int) = 16 := by decide
  have e4 : (2 ^ 16 : Int) = 65536 := by decide
  rw [e1, e3] at m1 m2
  rw [e2, e4] at m3
  rw [m1, m2, m3]
  have wi : ∀ x : Int, -9223372036854775808 ≤ x → x ≤ 9223372036854775807 → wrap64 x = x := by intro x g0 g1; unfold wrap64; omega
  exact ⟨wi _ (by omega) (by omega), wi _ (by omega) (by omega), wi _ (by omega) (by omega), wi _ (by omega) (by omega)⟩
theorem decode_f (v : Int) (h0 : 0 ≤ v) (h1 : v < 4294967296) : inst_Decode.f v = some (if decB v = true then (opB v, raB v, rbB v, rcB v, 0) else (0, 0, 0, 0, 7)) := by
  obtain ⟨d1, d2, d3, d4⟩ := dec_part v h0 h1
  unfold inst_Decode.f inst_Right.f
  rw [d1, d2, d3, d4]
  unfold decB
  simp only [Option.bind_some]
  split <;> rfl
theorem jump_f (v : Int) (h0 : 0 ≤ v) (h1 : v < 4294967296) : listing_jump.f v = some (if jumpB v = true then (rcB v, true) else (0, false)) := by
  unfold listing_jump.f
  rw [decode_f v h0 h1]
  simp only [Option.bind_some]
  cases hd : decB v with
  | false =>
    have hj : jumpB v = false := by unfold jumpB; rw [hd]; rfl
    rw [hj]
    rfl
  | true =>
    by_cases hr : 18 ≤ opB v ∧ opB v ≤ 21
    · have hj : jumpB v = true := by unfold jumpB; rw [hd, decide_eq_true hr]; rfl
      rw [hj, if_pos rfl, if_pos rfl, if_pos rfl]
      rcases (show opB v = 18 ∨ opB v = 19 ∨ opB v = 20 ∨ opB v = 21 by omega) with e | e | e | e
      · rw [if_pos e]
      · rw [if_neg (by omega), if_pos e]
      · rw [if_neg (by omega), if_neg (by omega), if_pos e]
      · rw [if_neg (by omega), if_neg (by omega), if_neg (by omega), if_pos e]
    · have hj : jumpB v = false := by unfold jumpB; rw [hd, decide_eq_false hr]; rfl
      rw [hj]
      simp only [if_true, Bool.false_eq_true, if_false]
      rw [if_neg (by omega), if_neg (by omega), if_neg (by omega), if_neg (by omega)]
end Go.Proofs.YtdhkmdgieflioaaDoor.F
namespace Go.Proofs.YtdhkmdgieflioaaDoor.F
open Go.RowKit Go.Proofs.YtdhkmdgieflioaaDoorW.PrintWords Go.Proofs.YtdhkmdgieflioaaDoorW.PrintLast Go.Proofs.YtdhkmdgieflioaaDoorW.PrintMore
set_option linter.unusedVariables false
set_option linter.unusedSimpArgs false
open Go.Sort Go.Lib
theorem small_calls (i : Nat) (hi : i < 100) (w : World) : Calls Tryd.prog 126 #[.int .i64 i] w fun e w' => e = .returned (.string ⟨(Lib.decDigits i).toArray⟩) ∧ w' = w :=
  Any.internal_strconv_small (ρ := Tryd.laysM171_ren) { Tryd.laysM171 with } i hi w
theorem digits_calls (u : Nat) (h1 : 1 ≤ u) (h2 : u < 18446744073709551616) (w : World) (htab : Lib.TabIs Tryd.prog w "internal/strconv.uint64pow10" .u64 Lib.pow10Tab) :
    Calls Tryd.prog 127 #[.int .u64 u] w fun e w' => e = .returned (.int .i64 (Lib.nDigits u)) ∧ w' = w :=
  Any.internal_strconv_numDigits (ρ := Tryd.laysM171_ren) { Tryd.laysM171 with } u h1 h2 w htab
theorem base10_calls (blk off cap : Nat) (u : Nat) (d : Array UInt8) (w : World) (hH : Holds (fun (b : UInt8) => Value.int .u8 (b.toNat : Int)) w blk off d) (hu : u < 10 ^ d.size) (hu64 : u < 18446744073709551616) (hsz : d.size < 4611686018427387904) :
    Calls Tryd.prog 128 #[.slice (some ⟨blk, off, none⟩) d.size cap, .int .u64 u] w fun e w' =>
      e = .returned (.tuple #[]) ∧ ∃ (n v' : Nat) (dk : Array UInt8), w' = (putRow (fun (b : UInt8) => Value.int .u8 (b.toNat : Int)) w blk off dk).drewN n ∧ FmtInv d.size u 0 v' dk :=
  Any.internal_strconv_formatBase10 (ρ := Tryd.laysM171_ren) { Tryd.laysM171 with } blk off cap u d w hH hu hu64 hsz
set_option maxHeartbeats 4000000 in
set_option maxRecDepth 100000 in
theorem fmtUint_small (u : Nat) (hs : u < 100) (w : World) :
    Calls Tryd.prog 104 #[.int .u64 u, .int .i64 10] w fun e w' => e = .returned (.string ⟨(Lib.decDigits u).toArray⟩) ∧ Below w.heap.size w w' := by
  go_enter Tryd.func104, Tryd.ntmps104
  go_wp2_with (go_at_call 126; refine (small_calls u hs _).mono ?_; rintro e w' ⟨rfl, rfl⟩)
  go_ret
  exact ⟨rfl, Below.refl _ _⟩
set_option maxHeartbeats 8000000 in
set_option maxRecDepth 100000 in
theorem fmtUint_big (u : Nat) (hs : 100 ≤ u) (hu64 : u < 18446744073709551616) (w : World) (hGT : GT w) :
    Calls Tryd.prog 104 #[.int .u64 u, .int .i64 10] w fun e w' => e = .returned (.string ⟨(Lib.decDigits u).toArray⟩) ∧ Below w.heap.size w w' := by
  have hu1 : 1 ≤ u := by omega
  have hnd20 : Lib.nDigits u ≤ 20 := by have := Lib.numDigits_eq u hu1 hu64; split at this <;> omega
  have hal : Tryd.prog.arrayLen 137 = 24 := by simp [Program.arrayLen, Tryd.underlying137]
  have hsl : ∀ W, (Instr.sliceAt 137 (.pointer (some ⟨w.heap.size, 0, none⟩)) none (some (.int .i64 (Lib.nDigits u : Int))) none).run Tryd.prog W = .ok (.slice (some ⟨w.heap.size, 0, none⟩) (Lib.nDigits u) 24) W := fun W => by
    rw [run_sliceAt_array_h W 137 ⟨w.heap.size, 0, none⟩ (by simp [Program.arrayLen, Program.elem, Tryd.underlying137]) .i64 (Lib.nDigits u : Int) (by omega) (by rw [hal]; omega)]
    go_simp
  have hH0 := Lib.holds_zero0 w 137 (Lib.nDigits u) (by omega)
  have hfmt := base10_calls w.heap.size 0 24 u (Array.replicate (Lib.nDigits u) 0) (w.alloc (.cells Lib.zeros24 137)) hH0 (by rw [Array.size_replicate]; exact Lib.lt_pow_nDigits u) hu64 (by rw [Array.size_replicate]; omega)
  rw [Array.size_replicate] at hfmt
  have HH0 := Lib.hid hH0
  have HGT := Lib.hid hGT
  have iu : (100 : Int) ≤ (u : Int) := by omega
  clear hH0 hal hGT
  go_enter Tryd.func104, Tryd.ntmps104
  go_wp2_with (first
    | (go_at_call 127; refine (digits_calls u hu1 hu64 _ (Lib.tabIs_alloc HGT.out.out _)).mono ?_; rintro e w' ⟨rfl, rfl⟩))
  go_at_call 128
  refine hfmt.mono ?_
  rintro e w' ⟨rfl, k, v', dk, rfl, hF⟩
  have hcv : (convert 72 9 (.slice (some ⟨w.heap.size, 0, none⟩) (Lib.nDigits u) 24)).run Tryd.prog ((putRow (fun (b : UInt8) => Value.int .u8 (b.toNat : Int)) (w.alloc (.cells Lib.zeros24 137)) w.heap.size 0 dk).drewN k) = .ok (.string ⟨(Lib.decDigits u).toArray⟩) ((putRow (fun (b : UInt8) => Value.int .u8 (b.toNat : Int)) (w.alloc (.cells Lib.zeros24 137)) w.heap.size 0 dk).drewN k) := by
    have h := run_convert_bytes_back (P := Tryd.prog) ((putRow (fun (b : UInt8) => Value.int .u8 (b.toNat : Int)) (w.alloc (.cells Lib.zeros24 137)) w.heap.size 0 dk).drewN k) 72 9 5 ⟨w.heap.size, 0, none⟩ 24 (Lib.decDigits u) Tryd.underlying72 Tryd.underlying5 Tryd.underlying9 (fun j hj => by
      rw [Lib.row_is_numeral hF j hj, Lib.add_plain, World.cell?_drewN]
      exact cell?_putRow (fun (b : UInt8) => Value.int .u8 (b.toNat : Int)) _ w.heap.size 0 _ dk HH0.out (by rw [hF.size, Array.size_replicate]) j (by rw [hF.size]; rw [Lib.decDigits_length] at hj; exact hj))
    rw [Lib.decDigits_length] at h
    exact h
  go_wp2
  go_ret
  obtain ⟨os, eo⟩ := Lib.fin_at w (.cells Lib.zeros24 137) dk k 0
  refine ⟨rfl, ?_⟩
  rw [eo]
  exact Lib.below_grow _ w (Nat.le_refl _) k os
theorem fmtUint_any (u : Nat) (hu64 : u < 18446744073709551616) (w : World) (hGT : GT w) :
    Calls Tryd.prog 104 #[.int .u64 u, .int .i64 10] w fun e w' => e = .returned (.string ⟨(Lib.decDigits u).toArray⟩) ∧ Below w.heap.size w w' := by
  by_cases h : u < 100
  · exact fmtUint_small u h w
  · exact fmtUint_big u (by omega) hu64 w hGT
theorem fmtUint_pub (u : Nat) (hu64 : u < 18446744073709551616) (w : World) (hGT : GT w) :
    Calls Tryd.prog 82 #[.int .u64 u, .int .i64 10] w fun e w' => e = .returned (.string ⟨(Lib.decDigits u).toArray⟩) ∧ Below w.heap.size w w' := by
  have HGT := Lib.hid hGT
  clear hGT
  go_enter Tryd.func82, Tryd.ntmps82
  go_wp2_with (go_at_call 104; refine (fmtUint_any u hu64 _ HGT.out).mono ?_; rintro e w' ⟨rfl, hb⟩)
  go_ret
  exact ⟨rfl, hb⟩
def word_Text.f (a0 : Int) : Option ByteArray := if 0 ≤ a0 ∧ a0 < 4294967296 then some ⟨(Lib.itoa a0).toArray⟩ else none
theorem word_Text.calls (a0 : Int) (r : ByteArray) (w : World) (hGT : GT w) (h : word_Text.f a0 = some r) :
    Calls Tryd.prog 45 #[.int .u32 a0] w fun e w' => e = .returned (.string r) ∧ Below w.heap.size w w' := by
  unfold word_Text.f at h
  split at h
  · rename_i hb
    obtain rfl := Option.some.inj h
    obtain ⟨u, rfl⟩ : ∃ u : Nat, a0 = u := ⟨a0.toNat, by omega⟩
    have HGT := Lib.hid hGT
    have hu : u < 18446744073709551616 := by omega
    have hw : IntKind.u64.wrap (u : Int) = (u : Int) := by rw [IntKind.wrap_u64]; omega
    have he : Lib.itoa (u : Int) = Lib.decDigits u := by unfold Lib.itoa; rw [if_neg (by omega)]; simp
    rw [he]
    clear hGT h he
    go_enter Tryd.func45, Tryd.ntmps45
    go_wp2_with (go_at_call 82; refine (fmtUint_pub u hu _ HGT.out).mono ?_; rintro e w' ⟨rfl, hb⟩)
    go_ret
    exact ⟨rfl, hb⟩
  · cases h
end Go.Proofs.YtdhkmdgieflioaaDoor.F
namespace Go.Proofs.YtdhkmdgieflioaaDoor.F
open Go.RowKit Go.Proofs.YtdhkmdgieflioaaDoorW.PrintWords Go.Proofs.YtdhkmdgieflioaaDoorW.PrintLast Go.Proofs.YtdhkmdgieflioaaDoorW.PrintMore
attribute [local go_sem] max2_int min2_int max_two min_two max_three min_three max_four min_four
set_option linter.unusedVariables false
set_option linter.unusedSimpArgs false
def listing_number.f (a0 : Int) : Option (ByteArray) := (word_Text.f ((a0) % 4294967296)).bind fun t531 => (some t531)
set_option maxHeartbeats 8000000 in
set_option maxRecDepth 100000 in
theorem listing_number.calls (a0 : Int) (r : ByteArray) (w : World) (hGT : GT w) (h : listing_number.f a0 = some r) :
    Calls Tryd.prog 72 #[.int .i64 a0] w fun e w' => e = .returned (.string r) ∧ Below w.heap.size w w' := by
  have HGT := Aside0.mk hGT
  clear hGT
  have HB := Aside0.mk (Below.refl w.heap.size w)
  have H : ((word_Text.f ((a0) % 4294967296)).bind fun t531 => (some t531)) = some r := h
  clear h
  replace H := Option.bind_eq_some_iff.mp H
  obtain ⟨t531, A20, H⟩ := H
  replace H : (some t531) = some r := H
  have A2 := Aside0.mk A20
  clear A20
  obtain rfl := Option.some.inj H
  go_enter Tryd.func72, Tryd.ntmps72
  go_wp2_with (first | ((with_reducible refine gate_callee (f := 45) rfl ?_); refine goesL_ (some 5) rfl rfl Tryd.func45 (by kernel_rfl) rfl #[.int .u32 ((a0) % 4294967296)] rfl (by (try simp only [List.map_toArray, List.map_cons, List.map_nil]); first | done | rfl | (simp only [List.length_drop, List.length_take]; rfl)) ?_; (with_reducible refine (word_Text.calls ((a0) % 4294967296) t531 _ ?side1 A2.out).mono ?_); (case side1 => exact GT.below HGT.out (by repeat (first | (with_reducible first | exact HB.out | apply below_alloc | apply pw_below_drewN | apply below_drew1) | exact HB.out))); rintro e w3 ⟨rfl, hb⟩; refine ⟨_, rfl, ?_⟩; have n0_ := Aside0.mk (below_step (by repeat (first | (with_reducible first | exact HB.out | apply below_alloc | apply pw_below_drewN | apply below_drew1) | exact HB.out)) hb); clear HB; have HB := n0_; clear n0_; (try clear hb); (try clear hb2); (try clear hk); (try clear hi)))
  go_ret
  exact ⟨by first | rfl | (simp [errW_none, errW_some] <;> rfl) | (simp [*, errW_none, errW_some] <;> rfl), by repeat (first | (with_reducible first | exact HB.out | apply below_alloc | apply pw_below_drewN | apply below_drew1) | exact HB.out)⟩
end Go.Proofs.YtdhkmdgieflioaaDoor.F
namespace Go.Proofs.YtdhkmdgieflioaaDoor.F
open Go.RowKit Go.Proofs.YtdhkmdgieflioaaDoorW.PrintWords Go.Proofs.YtdhkmdgieflioaaDoorW.PrintLast Go.Proofs.YtdhkmdgieflioaaDoorW.PrintMore
set_option linter.unusedVariables false
set_option linter.unusedSimpArgs false
open Go.Maps
theorem zero4 (w : World) : (zeroValue 4).run Tryd.prog w = .ok (.bool false) w := by kernel_rfl
set_option maxRecDepth 100000 in
theorem bool_inv {v : Value} {z : DataW Unit × List MemPlace} (h : plainElem Tryd.prog 4 v = some z) : ∃ x, v = .bool x ∧ z.1 = .lit (.bool x) := by
  unfold plainElem at h
  rw [Tryd.underlying4] at h
  cases v <;> simp at h
  subst h
  exact ⟨_, rfl, rfl⟩
set_option maxRecDepth 100000 in
theorem look_bool {w : World} {b n : Nat} {D : DataW Unit} {t : Int → Bool} (hown : w.ownsMap Tryd.prog 3 (plainElem Tryd.prog 4) b n D) (hT : TMap D t) (c : Int) (h0 : 0 ≤ c) (h1 : c ≤ 9223372036854775807) (x : Bool) (hx : t c = x) :
    (Instr.lookup 76 (.map (some b)) (.int .i64 c) false).run Tryd.prog w = .ok (.bool x) w := by
  obtain ⟨v, ps, hrun, hv⟩ := hown.lookup law3 Tryd.underlying76 (zero4 w) (plainElem_bool Tryd.underlying4 false) (keyOf_int_mk Tryd.underlying3 (show (Lit.int .i64 c).wf = true from WalkArith.wf_i64 (by omega)))
  rw [hT.look] at hv
  obtain ⟨y, rfl, hy⟩ := bool_inv hv
  simp only [DataW.lit.injEq, Lit.bool.injEq] at hy
  rw [hrun, ← hx, hy]
theorem num_f (n : Int) (h0 : 0 ≤ n) (h1 : n < 4294967296) : word_Text.f n = some ⟨(num n).toArray⟩ := by unfold word_Text.f num; rw [if_pos ⟨h0, h1⟩]
theorem number_f (n : Int) (h0 : 0 ≤ n) (h1 : n < 4294967296) : listing_number.f n = some ⟨(num n).toArray⟩ := by
  unfold listing_number.f
  rw [show n % 4294967296 = n by omega, num_f n h0 h1]
  rfl
theorem num_size (n : Int) (h0 : 0 ≤ n) (h1 : n < 4294967296) : (⟨(num n).toArray⟩ : ByteArray).size ≤ 21 := by
  have := Lib.itoa_length_le n (by omega) (by omega)
  simpa [num, ByteArray.size] using this
theorem text_size (op a b c : Int) (hr : rightB op a b c = true) : (textOf op a b c).size ≤ 20000 := by
  obtain ⟨h1, h2, ha, hb, hc⟩ := right_facts _ _ _ _ hr
  have hn := name_size op h1 h2
  unfold textOf
  rw [hr, if_neg (by decide)]
  split
  · omega
  · rw [ByteArray.size_append, ByteArray.size_append]
    have h0 : (⟨#[32]⟩ : ByteArray).size = 1 := rfl
    have hj := join_small (itemsOf op a b c) (fun x hx => by
      obtain ⟨ch, _, rfl⟩ := List.mem_map.1 hx
      exact item_size a b c ch ha hb hc) (by
      unfold itemsOf
      rw [List.length_map]
      have := (parts_ascii op h1 h2).1
      exact Nat.le_trans (Nat.le_refl _) this)
    have : (⟨(Lib.join ((itemsOf op a b c).map (·.data.toList)) [44, 32]).toArray⟩ : ByteArray).size = (Lib.join ((itemsOf op a b c).map (·.data.toList)) [44, 32]).length := by simp [ByteArray.size]
    omega
theorem trim_size (s p : List UInt8) : (Lib.trimSuffix s p).length ≤ s.length := by
  unfold Lib.trimSuffix
  split
  · rw [List.length_take]; omega
  · exact Nat.le_refl _
theorem baL (a b : ByteArray) : (a ++ b).data.toList = a.data.toList ++ b.data.toList := by rw [ByteArray.data_append, Array.toList_append]
set_option maxHeartbeats 8000000 in
set_option maxRecDepth 100000 in
theorem instr_bad (v : Int) (b : Nat) (t : Int → Bool) (w : World) (hGK : GK w) (hGT : GT w) (h0 : 0 ≤ v) (h1 : v < 4294967296) (hd : decB v = false) :
    Calls Tryd.prog 73 #[.int .u32 v, .map (some b)] w fun e w' => ∃ s : ByteArray, e = .returned (.string s) ∧ s.data.toList = instrB t v ∧ Below w.heap.size w w' := by
  have hf := decode_f v h0 h1
  rw [hd, if_neg (by decide)] at hf
  have hnf := num_f v h0 h1
  have hns := num_size v h0 h1
  have hin : instrB t v = [46, 119, 111, 114, 100, 32] ++ num v := by unfold instrB; rw [if_pos hd]
  rw [hin]
  obtain ⟨x, hx⟩ : ∃ x : ByteArray, x = ⟨(num v).toArray⟩ := ⟨_, rfl⟩
  rw [← hx] at hnf hns
  have HX := Aside0.mk hx
  have HF := Aside0.mk hf
  have HN := Aside0.mk hnf
  have h6 : (⟨#[46, 119, 111, 114, 100, 32]⟩ : ByteArray).size = 6 := rfl
  have HK := Aside0.mk hGK
  have HT := Aside0.mk hGT
  have hu46 := Tryd.underlying46
  clear hx hf hnf hGK hGT hd hin
  go_enter Tryd.func73, Tryd.ntmps73
  go_wp2_with (first | (go_at_call 44; refine (inst_Decode.calls _ _ _ _ _ _ _ HK.out HF.out).mono ?_; rintro e w2 ⟨rfl, hb2⟩; have HB2 := Aside0.mk hb2; clear hb2) | ((with_reducible refine gate_dst (N := 5) rfl ?_); refine box_event ?hg (N := 5) ?hd (cs := #[.int .i64 0, .int .i64 0, .int .i64 0, .int .i64 0]) (t := 46) ?hr ?_; (case hd => rfl); (case hg => rfl); (case hr => first | (go_simp; done) | (go_simp; rfl)); intro gb hg w3 hbox hb3; have HB3 := Aside0.mk (below_step HB2.out hb3); have BK := Aside0.mk hbox; have GE := Aside0.mk (show w.heap.size ≤ gb by rw [hg]; exact below_size HB2.out); clear hb3 hbox hg; have hcz0 : w3.cell? ⟨gb, 0, none⟩ = some (.int .i64 0) := (blk_cell BK.out 0).trans rfl; have hcz1 : w3.cell? ⟨gb, 1, none⟩ = some (.int .i64 0) := (blk_cell BK.out 1).trans rfl; have hcz2 : w3.cell? ⟨gb, 2, none⟩ = some (.int .i64 0) := (blk_cell BK.out 2).trans rfl; have hcz3 : w3.cell? ⟨gb, 3, none⟩ = some (.int .i64 0) := (blk_cell BK.out 3).trans rfl; have hfz0 := blk_frozen BK.out 0; have hfz1 := blk_frozen BK.out 1; have hfz2 := blk_frozen BK.out 2; have hfz3 := blk_frozen BK.out 3) | (go_at_call 45; refine (word_Text.calls _ _ _ (GT.below HT.out (by repeat (first | (with_reducible first | exact HB3.out | apply below_alloc | apply pw_below_drewN | apply below_drew1 | refine below_set ?_ GE.out) | exact HB3.out))) HN.out).mono ?_; rintro e w4 ⟨rfl, hb4⟩; have HB4 := Aside0.mk (below_step (by repeat (first | (with_reducible first | exact HB3.out | apply below_alloc | apply pw_below_drewN | apply below_drew1 | refine below_set ?_ GE.out) | exact HB3.out)) hb4); clear hb4))
  go_ret
  exact ⟨_, rfl, by rw [baL, HX.out]; rfl, HB4.out⟩
set_option maxHeartbeats 8000000 in
set_option maxRecDepth 100000 in
theorem instr_no (v : Int) (b n : Nat) (D : DataW Unit) (t : Int → Bool) (w : World) (hGK : GK w) (hGT : GT w) (h0 : 0 ≤ v) (h1 : v < 4294967296) (hd : decB v = true) (hj : jumpB v = false) :
    Calls Tryd.prog 73 #[.int .u32 v, .map (some b)] w fun e w' => ∃ s : ByteArray, e = .returned (.string s) ∧ s.data.toList = instrB t v ∧ Below w.heap.size w w' := by
  have hf := decode_f v h0 h1
  have hjf := jump_f v h0 h1
  rw [hd, if_pos rfl] at hf
  have hr : rightB (opB v) (raB v) (rbB v) (rcB v) = true := hd
  have hc1 : 0 ≤ rcB v ∧ rcB v ≤ 9223372036854775807 := by unfold rcB; omega
  have hc2 : rcB v < 4294967296 := by unfold rcB; omega
  have hts := text_size _ _ _ _ hr
  have htx : inst_Text.f (opB v) (raB v) (rbB v) (rcB v) = some (textOf (opB v) (raB v) (rbB v) (rcB v)) := rfl
  obtain ⟨tx, htxe⟩ : ∃ tx, tx = textOf (opB v) (raB v) (rbB v) (rcB v) := ⟨_, rfl⟩
  rw [← htxe] at hts htx
  have HK := Aside0.mk hGK
  have HT := Aside0.mk hGT
  have hu46 := Tryd.underlying46
  have hin : instrB t v = tx.data.toList := by unfold instrB; rw [hd, if_neg (by decide), hj, Bool.false_and, if_neg (by decide), htxe]
  rw [hin]
  rw [hj, if_neg (by decide)] at hjf
  clear htxe hj hin
  generalize opB v = op at hf htx
  generalize raB v = a at hf htx
  generalize rbB v = b1 at hf htx
  generalize rcB v = c at hf htx hjf hc1 hc2
  have HF := Aside0.mk hf
  have HJ := Aside0.mk hjf
  have HTX := Aside0.mk htx
  have HC := Aside0.mk hc1
  clear hf hjf htx hGK hGT hd hr hc1
  go_enter Tryd.func73, Tryd.ntmps73
  go_wp2_with (first | (go_at_call 44; refine (inst_Decode.calls _ _ _ _ _ _ _ HK.out HF.out).mono ?_; rintro e w2 ⟨rfl, hb2⟩; have HB2 := Aside0.mk hb2; clear hb2) | ((with_reducible refine gate_dst (N := 5) rfl ?_); refine box_event ?hg (N := 5) ?hd (cs := #[.int .i64 0, .int .i64 0, .int .i64 0, .int .i64 0]) (t := 46) ?hr ?_; (case hd => rfl); (case hg => rfl); (case hr => first | (go_simp; done) | (go_simp; rfl)); intro gb hg w3 hbox hb3; have HB3 := Aside0.mk (below_step HB2.out hb3); have BK := Aside0.mk hbox; have GE := Aside0.mk (show w.heap.size ≤ gb by rw [hg]; exact below_size HB2.out); clear hb3 hbox hg; have hcz0 : w3.cell? ⟨gb, 0, none⟩ = some (.int .i64 0) := (blk_cell BK.out 0).trans rfl; have hcz1 : w3.cell? ⟨gb, 1, none⟩ = some (.int .i64 0) := (blk_cell BK.out 1).trans rfl; have hcz2 : w3.cell? ⟨gb, 2, none⟩ = some (.int .i64 0) := (blk_cell BK.out 2).trans rfl; have hcz3 : w3.cell? ⟨gb, 3, none⟩ = some (.int .i64 0) := (blk_cell BK.out 3).trans rfl; have hfz0 := blk_frozen BK.out 0; have hfz1 := blk_frozen BK.out 1; have hfz2 := blk_frozen BK.out 2; have hfz3 := blk_frozen BK.out 3) | (go_at_call 42; refine (inst_Text.calls op a b1 c _ _ (GK.below HK.out (by repeat (first | (with_reducible first | exact HB3.out | apply below_alloc | apply pw_below_drewN | apply below_drew1 | refine below_set ?_ GE.out) | exact HB3.out))) (GT.below HT.out (by repeat (first | (with_reducible first | exact HB3.out | apply below_alloc | apply pw_below_drewN | apply below_drew1 | refine below_set ?_ GE.out) | exact HB3.out))) HTX.out).mono ?_; rintro e w4 ⟨rfl, hb4⟩; have HB4 := Aside0.mk (below_step (by repeat (first | (with_reducible first | exact HB3.out | apply below_alloc | apply pw_below_drewN | apply below_drew1 | refine below_set ?_ GE.out) | exact HB3.out)) hb4); clear hb4) | (go_at_call 94; refine (listing_jump.calls _ _ _ _ (GK.below HK.out HB4.out) HJ.out).mono ?_; rintro e w5 ⟨rfl, hb5⟩; have HB5 := Aside0.mk (below_step HB4.out hb5); clear hb5))
  go_ret
  exact ⟨_, rfl, rfl, HB5.out⟩
set_option maxHeartbeats 8000000 in
set_option maxRecDepth 100000 in
theorem instr_off (v : Int) (b n : Nat) (D : DataW Unit) (t : Int → Bool) (w : World) (hGK : GK w) (hGT : GT w) (hown : w.ownsMap Tryd.prog 3 (plainElem Tryd.prog 4) b n D) (hM : TMap D t) (h0 : 0 ≤ v) (h1 : v < 4294967296) (hd : decB v = true) (hj : jumpB v = true) (htc : t (rcB v) = false) :
    Calls Tryd.prog 73 #[.int .u32 v, .map (some b)] w fun e w' => ∃ s : ByteArray, e = .returned (.string s) ∧ s.data.toList = instrB t v ∧ Below w.heap.size w w' := by
  have hf := decode_f v h0 h1
  have hjf := jump_f v h0 h1
  rw [hd, if_pos rfl] at hf
  have hr : rightB (opB v) (raB v) (rbB v) (rcB v) = true := hd
  have hc1 : 0 ≤ rcB v ∧ rcB v ≤ 9223372036854775807 := by unfold rcB; omega
  have hc2 : rcB v < 4294967296 := by unfold rcB; omega
  have hts := text_size _ _ _ _ hr
  have htx : inst_Text.f (opB v) (raB v) (rbB v) (rcB v) = some (textOf (opB v) (raB v) (rbB v) (rcB v)) := rfl
  obtain ⟨tx, htxe⟩ : ∃ tx, tx = textOf (opB v) (raB v) (rbB v) (rcB v) := ⟨_, rfl⟩
  rw [← htxe] at hts htx
  have HK := Aside0.mk hGK
  have HT := Aside0.mk hGT
  have hu46 := Tryd.underlying46
  have hin : instrB t v = tx.data.toList := by unfold instrB; rw [hd, if_neg (by decide), hj, Bool.true_and, htc, if_neg (by decide), htxe]
  rw [hin]
  rw [hj, if_pos rfl] at hjf
  clear htxe hj hin
  have HO := Aside0.mk hown
  have HM := Aside0.mk hM
  clear hown hM
  generalize opB v = op at hf htx
  generalize raB v = a at hf htx
  generalize rbB v = b1 at hf htx
  generalize rcB v = c at hf htx hjf hc1 hc2 htc
  have HF := Aside0.mk hf
  have HJ := Aside0.mk hjf
  have HTX := Aside0.mk htx
  have HC := Aside0.mk hc1
  clear hf hjf htx hGK hGT hd hr hc1
  have HTC := Aside0.mk htc
  clear htc
  go_enter Tryd.func73, Tryd.ntmps73
  go_wp2_with (first | (go_at_call 44; refine (inst_Decode.calls _ _ _ _ _ _ _ HK.out HF.out).mono ?_; rintro e w2 ⟨rfl, hb2⟩; have HB2 := Aside0.mk hb2; clear hb2) | ((with_reducible refine gate_dst (N := 5) rfl ?_); refine box_event ?hg (N := 5) ?hd (cs := #[.int .i64 0, .int .i64 0, .int .i64 0, .int .i64 0]) (t := 46) ?hr ?_; (case hd => rfl); (case hg => rfl); (case hr => first | (go_simp; done) | (go_simp; rfl)); intro gb hg w3 hbox hb3; have HB3 := Aside0.mk (below_step HB2.out hb3); have BK := Aside0.mk hbox; have GE := Aside0.mk (show w.heap.size ≤ gb by rw [hg]; exact below_size HB2.out); clear hb3 hbox hg; have hcz0 : w3.cell? ⟨gb, 0, none⟩ = some (.int .i64 0) := (blk_cell BK.out 0).trans rfl; have hcz1 : w3.cell? ⟨gb, 1, none⟩ = some (.int .i64 0) := (blk_cell BK.out 1).trans rfl; have hcz2 : w3.cell? ⟨gb, 2, none⟩ = some (.int .i64 0) := (blk_cell BK.out 2).trans rfl; have hcz3 : w3.cell? ⟨gb, 3, none⟩ = some (.int .i64 0) := (blk_cell BK.out 3).trans rfl; have hfz0 := blk_frozen BK.out 0; have hfz1 := blk_frozen BK.out 1; have hfz2 := blk_frozen BK.out 2; have hfz3 := blk_frozen BK.out 3) | (go_at_call 42; refine (inst_Text.calls op a b1 c _ _ (GK.below HK.out (by repeat (first | (with_reducible first | exact HB3.out | apply below_alloc | apply pw_below_drewN | apply below_drew1 | refine below_set ?_ GE.out) | exact HB3.out))) (GT.below HT.out (by repeat (first | (with_reducible first | exact HB3.out | apply below_alloc | apply pw_below_drewN | apply below_drew1 | refine below_set ?_ GE.out) | exact HB3.out))) HTX.out).mono ?_; rintro e w4 ⟨rfl, hb4⟩; have HB4 := Aside0.mk (below_step (by repeat (first | (with_reducible first | exact HB3.out | apply below_alloc | apply pw_below_drewN | apply below_drew1 | refine below_set ?_ GE.out) | exact HB3.out)) hb4); clear hb4) | (go_at_call 94; refine (listing_jump.calls _ _ _ _ (GK.below HK.out HB4.out) HJ.out).mono ?_; rintro e w5 ⟨rfl, hb5⟩; have HB5 := Aside0.mk (below_step HB4.out hb5); clear hb5; have hlk := look_bool (own_map_below HO.out HB5.out) HM.out c HC.out.1 HC.out.2 _ HTC.out))
  go_ret
  exact ⟨_, rfl, rfl, HB5.out⟩
set_option maxHeartbeats 8000000 in
set_option maxRecDepth 100000 in
theorem instr_on (v : Int) (b n : Nat) (D : DataW Unit) (t : Int → Bool) (w : World) (hGK : GK w) (hGT : GT w) (hown : w.ownsMap Tryd.prog 3 (plainElem Tryd.prog 4) b n D) (hM : TMap D t) (h0 : 0 ≤ v) (h1 : v < 4294967296) (hd : decB v = true) (hj : jumpB v = true) (htc : t (rcB v) = true) :
    Calls Tryd.prog 73 #[.int .u32 v, .map (some b)] w fun e w' => ∃ s : ByteArray, e = .returned (.string s) ∧ s.data.toList = instrB t v ∧ Below w.heap.size w w' := by
  have hf := decode_f v h0 h1
  have hjf := jump_f v h0 h1
  rw [hd, if_pos rfl] at hf
  have hr : rightB (opB v) (raB v) (rbB v) (rcB v) = true := hd
  have hc1 : 0 ≤ rcB v ∧ rcB v ≤ 9223372036854775807 := by unfold rcB; omega
  have hc2 : rcB v < 4294967296 := by unfold rcB; omega
  have hts := text_size _ _ _ _ hr
  have htx : inst_Text.f (opB v) (raB v) (rbB v) (rcB v) = some (textOf (opB v) (raB v) (rbB v) (rcB v)) := rfl
  obtain ⟨tx, htxe⟩ : ∃ tx, tx = textOf (opB v) (raB v) (rbB v) (rcB v) := ⟨_, rfl⟩
  rw [← htxe] at hts htx
  have HK := Aside0.mk hGK
  have HT := Aside0.mk hGT
  have hu46 := Tryd.underlying46
  have hnf := number_f (rcB v) hc1.1 hc2
  have hns := num_size (rcB v) hc1.1 hc2
  obtain ⟨x, hx⟩ : ∃ x : ByteArray, x = ⟨(num (rcB v)).toArray⟩ := ⟨_, rfl⟩
  rw [← hx] at hnf hns
  have hxd : x.data.toList = num (rcB v) := by rw [hx]
  obtain ⟨tr, htr⟩ : ∃ tr : ByteArray, tr = ⟨(Lib.trimSuffix tx.data.toList x.data.toList).toArray⟩ := ⟨_, rfl⟩
  have htrd : tr.data.toList = Lib.trimSuffix tx.data.toList (num (rcB v)) := by rw [htr, hxd]
  have htrs : tr.size ≤ 20000 := by
    have e : tr.size = tr.data.toList.length := rfl
    have e2 : tx.size = tx.data.toList.length := rfl
    rw [e, htrd]
    have := trim_size tx.data.toList (num (rcB v))
    omega
  have hin : instrB t v = tr.data.toList ++ [76] ++ x.data.toList := by unfold instrB; rw [hd, if_neg (by decide), hj, Bool.true_and, htc, if_pos rfl, htrd, hxd, htxe]
  rw [hin]
  have hl1 : (⟨#[76]⟩ : ByteArray).size = 1 := rfl
  have hl2 : (tr ++ (⟨#[76]⟩ : ByteArray)).size ≤ 20001 := by rw [ByteArray.size_append, hl1]; omega
  rw [hj, if_pos rfl] at hjf
  have HTR := Aside0.mk htr.symm
  have HO := Aside0.mk hown
  have HM := Aside0.mk hM
  clear htxe hj hin htrd hxd hx htr hown hM
  generalize opB v = op at hf htx
  generalize raB v = a at hf htx
  generalize rbB v = b1 at hf htx
  generalize rcB v = c at hf htx hjf hc1 hc2 htc hnf
  have HF := Aside0.mk hf
  have HJ := Aside0.mk hjf
  have HTX := Aside0.mk htx
  have HC := Aside0.mk hc1
  clear hf hjf htx hGK hGT hd hr hc1
  have HTC := Aside0.mk htc
  have HN := Aside0.mk hnf
  clear htc hnf
  go_enter Tryd.func73, Tryd.ntmps73
  go_wp2_with (first | (go_at_call 44; refine (inst_Decode.calls _ _ _ _ _ _ _ HK.out HF.out).mono ?_; rintro e w2 ⟨rfl, hb2⟩; have HB2 := Aside0.mk hb2; clear hb2) | ((with_reducible refine gate_dst (N := 5) rfl ?_); refine box_event ?hg (N := 5) ?hd (cs := #[.int .i64 0, .int .i64 0, .int .i64 0, .int .i64 0]) (t := 46) ?hr ?_; (case hd => rfl); (case hg => rfl); (case hr => first | (go_simp; done) | (go_simp; rfl)); intro gb hg w3 hbox hb3; have HB3 := Aside0.mk (below_step HB2.out hb3); have BK := Aside0.mk hbox; have GE := Aside0.mk (show w.heap.size ≤ gb by rw [hg]; exact below_size HB2.out); clear hb3 hbox hg; have hcz0 : w3.cell? ⟨gb, 0, none⟩ = some (.int .i64 0) := (blk_cell BK.out 0).trans rfl; have hcz1 : w3.cell? ⟨gb, 1, none⟩ = some (.int .i64 0) := (blk_cell BK.out 1).trans rfl; have hcz2 : w3.cell? ⟨gb, 2, none⟩ = some (.int .i64 0) := (blk_cell BK.out 2).trans rfl; have hcz3 : w3.cell? ⟨gb, 3, none⟩ = some (.int .i64 0) := (blk_cell BK.out 3).trans rfl; have hfz0 := blk_frozen BK.out 0; have hfz1 := blk_frozen BK.out 1; have hfz2 := blk_frozen BK.out 2; have hfz3 := blk_frozen BK.out 3) | (go_at_call 42; refine (inst_Text.calls op a b1 c _ _ (GK.below HK.out (by repeat (first | (with_reducible first | exact HB3.out | apply below_alloc | apply pw_below_drewN | apply below_drew1 | refine below_set ?_ GE.out) | exact HB3.out))) (GT.below HT.out (by repeat (first | (with_reducible first | exact HB3.out | apply below_alloc | apply pw_below_drewN | apply below_drew1 | refine below_set ?_ GE.out) | exact HB3.out))) HTX.out).mono ?_; rintro e w4 ⟨rfl, hb4⟩; have HB4 := Aside0.mk (below_step (by repeat (first | (with_reducible first | exact HB3.out | apply below_alloc | apply pw_below_drewN | apply below_drew1 | refine below_set ?_ GE.out) | exact HB3.out)) hb4); clear hb4) | (go_at_call 94; refine (listing_jump.calls _ _ _ _ (GK.below HK.out HB4.out) HJ.out).mono ?_; rintro e w5 ⟨rfl, hb5⟩; have HB5 := Aside0.mk (below_step HB4.out hb5); clear hb5; have hlk := look_bool (own_map_below HO.out HB5.out) HM.out c HC.out.1 HC.out.2 _ HTC.out) | (go_at_call 72; refine (listing_number.calls _ _ _ (GT.below HT.out HB5.out) HN.out).mono ?_; rintro e w6 ⟨rfl, hb6⟩; have HB6 := Aside0.mk (below_step HB5.out hb6); clear hb6 hlk) | (go_at_call 98; refine (Tryd.strings_TrimSuffix _ _ _ (by omega)).mono ?_; rintro e w7 ⟨rfl, rfl⟩; rw [HTR.out]) | (go_at_call 72; refine (listing_number.calls _ _ _ (GT.below HT.out HB6.out) HN.out).mono ?_; rintro e w8 ⟨rfl, hb8⟩; have HB8 := Aside0.mk (below_step HB6.out hb8); clear hb8))
  go_ret
  exact ⟨_, rfl, by rw [baL, baL], HB8.out⟩
theorem instr_any (v : Int) (b n : Nat) (D : DataW Unit) (t : Int → Bool) (w : World) (hGK : GK w) (hGT : GT w) (hown : w.ownsMap Tryd.prog 3 (plainElem Tryd.prog 4) b n D) (hM : TMap D t) (h0 : 0 ≤ v) (h1 : v < 4294967296) :
    Calls Tryd.prog 73 #[.int .u32 v, .map (some b)] w fun e w' => ∃ s : ByteArray, e = .returned (.string s) ∧ s.data.toList = instrB t v ∧ Below w.heap.size w w' := by
  cases hd : decB v with
  | false => exact instr_bad v b t w hGK hGT h0 h1 hd
  | true =>
    cases hj : jumpB v with
    | false => exact instr_no v b n D t w hGK hGT h0 h1 hd hj
    | true =>
      cases htc : t (rcB v) with
      | false => exact instr_off v b n D t w hGK hGT hown hM h0 h1 hd hj htc
      | true => exact instr_on v b n D t w hGK hGT hown hM h0 h1 hd hj htc
end Go.Proofs.YtdhkmdgieflioaaDoor.F
namespace Go.Proofs.YtdhkmdgieflioaaDoor.F
open Go.RowKit Go.Proofs.YtdhkmdgieflioaaDoorW.PrintWords Go.Proofs.YtdhkmdgieflioaaDoorW.PrintLast Go.Proofs.YtdhkmdgieflioaaDoorW.PrintMore
set_option linter.unusedVariables false
set_option linter.unusedSimpArgs false
theorem sizeBld : (Tryd.prog.info? 81).map (·.size) = some 2 := Tryd.Builder_Extra_169.sizeBuilder
set_option maxRecDepth 100000 in
theorem liesBld : liesAt Tryd.prog Tryd.prog.depth 81 (2 / Tryd.prog.cellsOf 81) 0 81 1 = true := Tryd.Builder_Extra_169.liesBuilder
set_option maxHeartbeats 4000000 in
set_option maxRecDepth 100000 in
theorem bld_copyCheck_used (b : Nat) (w : World) (h0 : w.cell? ⟨b, 0, none⟩ = some (.pointer (some ⟨b, 0, none⟩))) :
    Calls Tryd.prog 97 #[.pointer (some ⟨b, 0, none⟩)] w fun e w' => e = .returned (.tuple #[]) ∧ w' = w := by
  obtain ⟨j, hj, _⟩ := Option.map_eq_some_iff.1 sizeBld
  go_enter Tryd.func97, Tryd.ntmps97
  go_wp2
  rw [Lib.run_neq_ptr_same w _ Tryd.underlying79 hj]
  go_wp2
  go_end0
  exact ⟨rfl, rfl⟩
set_option maxHeartbeats 4000000 in
set_option maxRecDepth 100000 in
theorem bld_copyCheck_fresh (b : Nat) (w : World) (h0 : w.cell? ⟨b, 0, none⟩ = some (.pointer none)) (hsh : w.shape? b = some (81, 2)) (hfz : w.frozen? ⟨b, 0, none⟩ = false) :
    Calls Tryd.prog 97 #[.pointer (some ⟨b, 0, none⟩)] w fun e w' => e = .returned (.tuple #[]) ∧ w' = w.setCell ⟨b, 0, none⟩ (.pointer (some ⟨b, 0, none⟩)) := by
  obtain ⟨j, hj, hjs⟩ := Option.map_eq_some_iff.1 sizeBld
  go_enter Tryd.func97, Tryd.ntmps97
  go_wp2
  rw [Lib.run_to_unsafe w ⟨b, 0, none⟩ Tryd.underlying79 Tryd.underlying134 hj (by rw [hjs]; decide) hsh (Nat.zero_lt_succ 1)]
  simp only [Result.andThen]
  rw [Oper.upon_value]
  go_wp2
  rw [run_callFunc_extern Tryd.func121 (by kernel_rfl) (by kernel_rfl) (by kernel_rfl) (e := Extern.AbiNoEscape.same) (by kernel_rfl)]
  rw [Lib.run_noEscape]
  simp only [Result.andThen]
  rw [Oper.upon_value]
  go_wp2
  rw [Lib.run_from_unsafe w ⟨b, 0, none⟩ Tryd.underlying134 Tryd.underlying79 hj hsh liesBld]
  simp only [Result.andThen]
  rw [Oper.upon_value]
  go_wp2
  go_end0
  exact ⟨rfl, rfl⟩
set_option maxHeartbeats 4000000 in
set_option maxRecDepth 100000 in
theorem bld_copyCheck_k (B b : Nat) (bs : List Value) (w : World) (h : Lib.IsBuilderF 81 5 B b bs w) :
    Calls Tryd.prog 97 #[.pointer (some ⟨b, 0, none⟩)] w fun e w' => e = .returned (.tuple #[]) ∧ (Lib.BuilderAtF 81 5 B b (.pointer (some ⟨b, 0, none⟩)) bs w' ∧ Below B w w' ∧ Lib.OthersKept 5 (some b) w w') := by
  rcases h with h | h
  · refine (bld_copyCheck_fresh b w h.cell0 h.shape h.frozen0).mono ?_
    rintro e w' ⟨rfl, rfl⟩
    exact ⟨rfl, h.used _, (Below.refl B w).setCell (p := ⟨b, 0, none⟩) h.1 _, (Lib.OthersKept.refl _ _ w).setCell ⟨b, 0, none⟩ rfl _⟩
  · refine (bld_copyCheck_used b w h.cell0).mono ?_
    rintro e w' ⟨rfl, rfl⟩
    exact ⟨rfl, h, Below.refl B _, Lib.OthersKept.refl _ _ _⟩
set_option maxHeartbeats 4000000 in
set_option maxRecDepth 100000 in
theorem bld_WriteByte_k (B b : Nat) (bs : List Value) (c : Int) (w : World) (h : Lib.IsBuilderF 81 5 B b bs w) (hlen : bs.length + 1 ≤ 140737488355328) (hBw : B ≤ w.heap.size) :
    Calls Tryd.prog 71 #[.pointer (some ⟨b, 0, none⟩), .int .u8 c] w fun e w' => e = .returned .nilIface ∧ (Lib.BuilderAtF 81 5 B b (.pointer (some ⟨b, 0, none⟩)) (bs ++ [.int .u8 c]) w' ∧ Below B w w' ∧ Lib.OthersKept 5 (some b) w w') := by
  obtain ⟨i0, hi, hz0, hz1, hz2⟩ := info_parts info5
  go_enter Tryd.func71, Tryd.ntmps71
  go_wp2_with (go_at_call 97; refine (bld_copyCheck_k B b bs _ h).mono ?_)
  rintro e w1 ⟨rfl, h1, hb1, hk1⟩
  obtain ⟨hB, v, hbk, hown, hne⟩ := h1
  have c0 : w1.cell? ⟨b, 0, none⟩ = some (.pointer (some ⟨b, 0, none⟩)) := by rw [Lib.cell_of_heap hbk]; rfl
  have c1 : w1.cell? ⟨b, 1, none⟩ = some v := by rw [Lib.cell_of_heap hbk]; rfl
  go_wp2_with (at_builtin; refine wpList_append_ownF _ rfl _ _ 72 rfl B 5 i0 (.int .u8 0) 1 1 Tryd.underlying72 hi hz0 hz1 hz2 rfl (by decide) _ _ _ rfl (hown.alloc _) ⟨w1.heap.size, 0, none⟩ 1 1 [.int .u8 c] rfl rfl ?c1 ?c2 ?c3 ?c4 ?c5 ?_)
  case c1 =>
    intro j u hj
    match j, hj with
    | 0, hj => simp at hj; subst hj; simp [Addr.add]
  case c2 => intro u hu; simp at hu; subst hu; rfl
  case c3 => unfold maxLen; omega
  case c4 => omega
  case c5 => have := hb1.size; simp; omega
  intro v' w2 hown' hgrow _
  have hlt : b < w1.heap.size := by
    rcases Nat.lt_or_ge b w1.heap.size with h' | h'
    · exact h'
    · simp [Array.getElem?_eq_none h'] at hbk
  have hb2 : w2.heap[b]? = some (.cells #[.pointer (some ⟨b, 0, none⟩), v] 81 (0, 0)) := by
    rw [hgrow.block b (by simp; omega) (fun e => hne e.symm), Lib.alloc_old w1 _ b hlt]
    exact hbk
  have d0 : w2.cell? ⟨b, 0, none⟩ = some (.pointer (some ⟨b, 0, none⟩)) := by rw [Lib.cell_of_heap hb2]; rfl
  have d1 : w2.cell? ⟨b, 1, none⟩ = some v := by rw [Lib.cell_of_heap hb2]; rfl
  have f1 : w2.frozen? ⟨b, 1, none⟩ = false := Lib.frozen_of_heap hb2 1
  obtain ⟨g, cap, rfl⟩ : ∃ g cap, v' = .slice (some ⟨g, 0, none⟩) (bs.length + 1) cap := by
    rcases hown'.2 with ⟨_, h0⟩ | ⟨g, cap, cur, fz, hv, _⟩
    · omega
    · exact ⟨g, cap, hv⟩
  go_wp2
  go_ret
  refine ⟨rfl, ?_, ?_, ((hk1.alloc _).grown hgrow (Lib.ownsRowF_kind (hown.alloc _))).setCell ⟨b, 1, none⟩ rfl _⟩
  · exact Lib.BuilderAtF.put (T := 81) (e := 5) hB hb2 (bs' := bs ++ [.int .u8 c]) (by simpa using hown') (by decide)
  · exact ((hb1.alloc (by have := hb1.size; omega) _).grown hgrow (by have := hb1.size; simp; omega) (fun k hk => (hown.lt k hk).1)).setCell (p := ⟨b, 1, none⟩) hB _
set_option maxHeartbeats 4000000 in
set_option maxRecDepth 100000 in
theorem bld_WriteString_k (B b : Nat) (bs : List Value) (s : ByteArray) (w : World) (h : Lib.IsBuilderF 81 5 B b bs w) (hlen : bs.length + s.size ≤ 140737488355328) (hBw : B ≤ w.heap.size) :
    Calls Tryd.prog 70 #[.pointer (some ⟨b, 0, none⟩), .string s] w fun e w' => e = .returned (.tuple #[.int .i64 s.size, .nilIface]) ∧ (Lib.BuilderAtF 81 5 B b (.pointer (some ⟨b, 0, none⟩)) (bs ++ Lib.strCells s) w' ∧ Below B w w' ∧ Lib.OthersKept 5 (some b) w w') := by
  obtain ⟨i0, hi, hz0, hz1, hz2⟩ := info_parts info5
  go_enter Tryd.func70, Tryd.ntmps70
  go_wp2_with (go_at_call 97; refine (bld_copyCheck_k B b bs _ h).mono ?_)
  rintro e w1 ⟨rfl, h1, hb1, hk1⟩
  obtain ⟨hB, v, hbk, hown, hne⟩ := h1
  have c0 : w1.cell? ⟨b, 0, none⟩ = some (.pointer (some ⟨b, 0, none⟩)) := by rw [Lib.cell_of_heap hbk]; rfl
  have c1 : w1.cell? ⟨b, 1, none⟩ = some v := by rw [Lib.cell_of_heap hbk]; rfl
  go_wp2_with (at_builtin; refine Lib.wpList_append_own_stringF _ rfl _ _ 72 9 rfl B 5 i0 Tryd.underlying72 Tryd.underlying9 hi hz0 hz1 hz2 _ _ _ rfl hown s rfl ?c3 ?c4 ?c5 ?_)
  case c3 => unfold maxLen; omega
  case c4 => omega
  case c5 => have := hb1.size; omega
  intro v' w2 hown' hgrow _
  have hlt : b < w1.heap.size := by
    rcases Nat.lt_or_ge b w1.heap.size with h' | h'
    · exact h'
    · simp [Array.getElem?_eq_none h'] at hbk
  have hb2 : w2.heap[b]? = some (.cells #[.pointer (some ⟨b, 0, none⟩), v] 81 (0, 0)) := by
    rw [hgrow.block b hlt (fun e => hne e.symm)]
    exact hbk
  have d0 : w2.cell? ⟨b, 0, none⟩ = some (.pointer (some ⟨b, 0, none⟩)) := by rw [Lib.cell_of_heap hb2]; rfl
  have d1 : w2.cell? ⟨b, 1, none⟩ = some v := by rw [Lib.cell_of_heap hb2]; rfl
  have f1 : w2.frozen? ⟨b, 1, none⟩ = false := Lib.frozen_of_heap hb2 1
  obtain ⟨ao, n', cap, rfl⟩ : ∃ ao n' cap, v' = .slice ao n' cap := by
    rcases hown'.2 with ⟨hv, _⟩ | ⟨g, cap, cur, fz, hv, _⟩
    · exact ⟨_, _, _, hv⟩
    · exact ⟨_, _, _, hv⟩
  go_wp2
  go_ret2
  refine ⟨rfl, ?_, ?_, (hk1.grown hgrow (Lib.ownsRowF_kind hown)).setCell ⟨b, 1, none⟩ rfl _⟩
  · exact Lib.BuilderAtF.put (T := 81) (e := 5) hB hb2 (bs' := bs ++ Lib.strCells s) (by simpa [Lib.strCells_length] using hown') (by decide)
  · exact (hb1.grown hgrow (by have := hb1.size; omega) (fun k hk => (hown.lt k hk).1)).setCell (p := ⟨b, 1, none⟩) hB _
end Go.Proofs.YtdhkmdgieflioaaDoor.F
namespace Go.Proofs.YtdhkmdgieflioaaDoor.F
open Go.RowKit Go.Proofs.YtdhkmdgieflioaaDoorW.PrintWords Go.Proofs.YtdhkmdgieflioaaDoorW.PrintLast Go.Proofs.YtdhkmdgieflioaaDoorW.PrintMore
set_option linter.unusedVariables false
set_option linter.unusedSimpArgs false
theorem bld_below {B ob : Nat} {bs : List Value} {w w' : World} (h : Lib.IsBuilderF 81 5 B ob bs w) (hb : Below w.heap.size w w') : Lib.IsBuilderF 81 5 B ob bs w' := by
  have key : ∀ p, Lib.BuilderAtF 81 5 B ob p bs w → Lib.BuilderAtF 81 5 B ob p bs w' := by
    rintro p ⟨hB, v, hbk, hown, hne⟩
    refine ⟨hB, v, (hb.block ob (Array.getElem?_eq_some_iff.1 hbk).1).trans hbk, ?_, hne⟩
    obtain ⟨h1, h2⟩ := hown
    refine ⟨h1, ?_⟩
    rcases h2 with h2 | ⟨g, cap, cur, fz, hv, hg, hh, r⟩
    · exact .inl h2
    · exact .inr ⟨g, cap, cur, fz, hv, hg, (hb.block g (Array.getElem?_eq_some_iff.1 hh).1).trans hh, r⟩
  rcases h with h | h
  · exact .inl (key _ h)
  · exact .inr (key _ h)
theorem bld_blk {B ob : Nat} {bs : List Value} {w : World} (h : Lib.IsBuilderF 81 5 B ob bs w) : B ≤ ob ∧ ob < w.heap.size ∧ ∃ cs, w.heap[ob]? = some (.cells cs 81 (0, 0)) := by
  rcases h with ⟨hB, v, hbk, _⟩ | ⟨hB, v, hbk, _⟩
  · exact ⟨hB, (Array.getElem?_eq_some_iff.1 hbk).1, _, hbk⟩
  · exact ⟨hB, (Array.getElem?_eq_some_iff.1 hbk).1, _, hbk⟩
def catB (ps : List ByteArray) : List UInt8 := ps.flatMap (·.data.toList)
theorem catB_len : ∀ ps : List ByteArray, (∀ x ∈ ps, x.size ≤ 100000) → (catB ps).length ≤ 100000 * ps.length
  | [], _ => by simp [catB]
  | x :: r, h => by
    have h1 := catB_len r (fun y hy => h y (List.mem_cons_of_mem _ hy))
    have h2 := h x (List.mem_cons_self ..)
    have h3 : x.data.toList.length = x.size := rfl
    unfold catB at h1 ⊢
    rw [List.flatMap_cons, List.length_append, List.length_cons]
    omega
theorem catB_step (ps : List ByteArray) (k : Nat) (x : ByteArray) (h : ps[k]? = some x) : catB (ps.take (k + 1)) = catB (ps.take k) ++ x.data.toList := by
  unfold catB
  rw [List.take_add_one, h, List.flatMap_append]
  simp
set_option maxHeartbeats 8000000 in
set_option maxRecDepth 100000 in
theorem line_any (g cap ob B : Nat) (cs : Array Value) (ps : List ByteArray) (L : List UInt8) (w : World) (hblk : w.heap[g]? = some (.cells cs 9 (0, 0))) (hcs : ∀ (j : Nat) x, ps[j]? = some x → cs[j]? = some (.string x))
    (h : Lib.IsBuilderF 81 5 B ob (Lib.byteCells L) w) (hn : ps.length ≤ 10) (hsz : ∀ x ∈ ps, x.size ≤ 100000) (hL : L.length ≤ 100000000) (hBw : B ≤ w.heap.size) :
    Calls Tryd.prog 69 #[.slice (some ⟨g, 0, none⟩) ps.length cap, .pointer (some ⟨ob, 0, none⟩)] w fun e w' => e = .returned (.tuple #[]) ∧ Lib.IsBuilderF 81 5 B ob (Lib.byteCells (L ++ catB ps ++ [10])) w' ∧ Below B w w' ∧ Lib.OthersKept 5 (some ob) w w' := by
  have hgo : some g ≠ some ob := by
    obtain ⟨_, _, cs2, h2⟩ := bld_blk h
    intro e
    obtain rfl := Option.some.inj e
    rw [hblk] at h2
    simp at h2
  have HBK := Aside0.mk hblk
  have HCS := Aside0.mk hcs
  have HSZ := Aside0.mk hsz
  have HGO := Aside0.mk hgo
  have HH := Aside0.mk h
  clear hblk hcs hsz hgo h
  go_enter Tryd.func69, Tryd.ntmps69
  go_wp2
  go_loopw [7] (fun v7 wr => ∃ k : Nat, v7 = .int .i64 k ∧ Aside0 (k ≤ ps.length) ∧ Aside0 (Lib.IsBuilderF 81 5 B ob (Lib.byteCells (L ++ catB (ps.take k))) wr) ∧ Aside0 (Below B w wr) ∧ Aside0 (Lib.OthersKept 5 (some ob) w wr))
    (fun v7 _ => ps.length - (intOf v7).toNat)
  case atStart => exact ⟨0, rfl, ⟨Nat.zero_le _⟩, ⟨by simpa [catB] using HH.out⟩, ⟨Below.refl _ _⟩, ⟨Lib.OthersKept.refl _ _ _⟩⟩
  case round =>
    obtain ⟨k, rfl, HK, HBd, HB, HO⟩ := hrel
    have HLK := Aside0.mk (show (L ++ catB (ps.take k)).length ≤ 102000000 by
      have h1 := catB_len (ps.take k) (fun x hx => HSZ.out x (List.mem_of_mem_take hx))
      rw [List.length_append]
      rw [List.length_take] at h1
      have h2 : min k ps.length ≤ 10 := by omega
      omega)
    have HBW := Aside0.mk (show B ≤ wr.heap.size from Nat.le_trans hBw HB.out.size)
    by_cases hlt : k < ps.length
    · obtain ⟨x, hx⟩ : ∃ x, ps[k]? = some x := ⟨ps[k], List.getElem?_eq_getElem hlt⟩
      have HXS := Aside0.mk (HSZ.out x (List.mem_of_getElem? hx))
      have hcell : wr.cell? ⟨g, k, none⟩ = some (.string x) := (blk_cell (HO.out g _ HBK.out HGO.out (by rintro c fz ⟨⟩)) k).trans (HCS.out k x hx)
      have HST := Aside0.mk (catB_step ps k x hx)
      clear hx
      go_wp2_with (go_at_call 70; refine (bld_WriteString_k B ob _ x _ HBd.out (by rw [Lib.byteCells_length]; have := HLK.out; have := HXS.out; omega) HBW.out).mono ?_; rintro e w2 ⟨rfl, hb2, hbl2, hok2⟩)
      go_roundw
      case rel =>
        refine ⟨k + 1, by go_num, ⟨by omega⟩, ⟨.inr ?_⟩, ⟨HB.out.trans hbl2⟩, ⟨HO.out.trans hok2⟩⟩
        rw [HST.out, ← List.append_assoc, Lib.byteCells_append, ← Lib.strCells_eq]
        exact hb2
      case measure => simp [intOf]; omega
    · have hk : k = ps.length := by have := HK.out; omega
      subst hk
      rw [List.take_length] at HBd HLK
      go_wp2_with (go_at_call 71; refine (bld_WriteByte_k B ob _ 10 _ HBd.out (by rw [Lib.byteCells_length]; have := HLK.out; omega) HBW.out).mono ?_; rintro e w2 ⟨rfl, hb2, hbl2, hok2⟩)
      go_end0
      refine ⟨rfl, .inr ?_, HB.out.trans hbl2, HO.out.trans hok2⟩
      rw [Lib.byteCells_append]
      exact hb2
end Go.Proofs.YtdhkmdgieflioaaDoor.F
namespace Go.Proofs.YtdhkmdgieflioaaDoor.F
open Go.RowKit Go.Proofs.YtdhkmdgieflioaaDoorW.PrintWords Go.Proofs.YtdhkmdgieflioaaDoorW.PrintLast Go.Proofs.YtdhkmdgieflioaaDoorW.PrintMore
set_option linter.unusedVariables false
set_option linter.unusedSimpArgs false
open Go.Maps
set_option maxHeartbeats 4000000 in
set_option maxRecDepth 100000 in
theorem targets_any (A0 : Option Addr) (c0 : Nat) (l : List Int) (d : Int) (w : World) (hGK : GK w) (hr : Kd.C (Kd.int .u32) w A0 l.length l) (hc : l.length ≤ c0) (hl : okL l = true) :
    Calls Tryd.prog 66 #[.agg #[.slice A0 l.length c0, .int .i64 d]] w fun e w' => ∃ (b : Nat) (D : DataW Unit), e = .returned (.map (some b)) ∧ w.heap.size ≤ b ∧ w'.ownsMap Tryd.prog 3 (plainElem Tryd.prog 4) b l.length D ∧ TMap D (tgtB l) ∧ Below w.heap.size w w' := by
  have hmm := @run_makeMap Tryd.prog
  have hu28 := Tryd.underlying28
  have HK := Aside0.mk hGK
  have HR := Aside0.mk hr
  have HLN := Aside0.mk (okL_len hl)
  have HLM := Aside0.mk (okL_mem hl)
  clear hGK hr hl
  go_enter Tryd.func66, Tryd.ntmps66
  go_wp2
  go_loopw [12] (fun v12 wr => ∃ (k : Nat) (D : DataW Unit), v12 = .int .i64 k ∧ Aside0 (k ≤ l.length) ∧ Aside0 (wr.ownsMap Tryd.prog 3 (plainElem Tryd.prog 4) (w.heap.size + 1) k D) ∧ Aside0 (TMap D (tgtK l k)) ∧ Aside0 (wr.heap[w.heap.size]? = some (.cells #[.slice A0 l.length c0, .int .i64 d] 28 (0, 0))) ∧ Aside0 (Below w.heap.size w wr))
    (fun v12 _ => l.length - (intOf v12).toNat)
  case atStart =>
    exact ⟨0, .map [], rfl, ⟨Nat.zero_le _⟩, ⟨by have := World.ownsMap_made (H := Unit) (w.alloc (.cells #[.slice A0 l.length c0, .int .i64 d] 28)) Tryd.prog 3 (plainElem Tryd.prog 4); simpa using this⟩, ⟨by rw [tgtK_zero]; exact TMap.start⟩, ⟨heap_alloc2_old _ _ _⟩, ⟨((Below.refl _ _).alloc (Nat.le_refl _) _).alloc (by simp) _⟩⟩
  case round =>
    obtain ⟨k, D, rfl, HK1, HO, HT, HBX, HB⟩ := hrel
    have HG1 := Aside0.mk (GK.below HK.out HB.out)
    have hln := HLN.out
    by_cases hlt : k < l.length
    · obtain ⟨ad, he, hcell⟩ := Kd.at_int (Kd.C_below HR.out HB.out) (k : Int) (by omega) (by omega)
      subst he
      simp only [Int.toNat_natCast] at hcell
      have q7 := eq_true (show (k : Int) < (l.length : Int) by omega)
      have p8 := eq_true (show 0 ≤ (k : Int) by omega)
      have hno := tgtK_no l k hlt
      have hyes := tgtK_yes l k hlt
      have hvm : 0 ≤ rd l (k : Int) ∧ rd l (k : Int) < 4294967296 := HLM.out _ (List.mem_of_getElem? (rd_at l k hlt))
      have hjf := jump_f _ hvm.1 hvm.2
      have hc1 : 0 ≤ rcB (rd l (k : Int)) ∧ rcB (rd l (k : Int)) ≤ 65535 := by unfold rcB; omega
      generalize rd l (k : Int) = v at hcell hno hyes hvm hjf hc1
      have HN := Aside0.mk hno
      have HY := Aside0.mk hyes
      clear hno hyes hvm
      by_cases hj : jumpB v = true
      · rw [if_pos hj] at hjf
        have HJ := Aside0.mk hj
        clear hj
        obtain ⟨c, hcv⟩ : ∃ c, c = rcB v := ⟨_, rfl⟩
        rw [← hcv] at hjf hc1
        have HC := Aside0.mk hcv
        have HF := Aside0.mk hjf
        clear hcv hjf
        by_cases hcl : c < (l.length : Int)
        · have q9 := eq_true hcl
          have HCL := Aside0.mk hcl
          go_wp2_with (first
            | (go_at_call 94; refine (listing_jump.calls _ _ _ _ HG1.out HF.out).mono ?_; rintro e w2 ⟨rfl, hb2⟩; have HO2 := Aside0.mk (own_map_below HO.out hb2); have HBX2 := Aside0.mk (blk_below HBX.out hb2); have HB2 := Aside0.mk (below_step HB.out hb2); have hcz0 : w2.cell? ⟨w.heap.size, 0, none⟩ = some (.slice (some ad) l.length c0) := (blk_cell HBX2.out 0).trans rfl)
            | (at_mapUpdate; refine wpList_mapUpdate_own _ rfl _ _ _ 76 rfl 3 4 law3 Tryd.underlying76 _ (w.heap.size + 1) k _ rfl HO2.out (by unfold maxLen; have := HLN.out; omega) _ _ _ rfl rfl (keyOf_int_mk Tryd.underlying3 (WalkArith.wf_i64 (by omega))) _ [] (plainElem_bool Tryd.underlying4 true) ?_; intro w3 hown3 hgrow3)
            | go_in)
          go_roundw
          case rel => exact ⟨k + 1, _, by go_num, ⟨by omega⟩, ⟨hown3⟩, ⟨by rw [HY.out HJ.out (by rw [← HC.out]; exact HCL.out), ← HC.out]; exact HT.out.put c⟩, ⟨(hgrow3.block _ (blk_lt HBX2.out) (by simp)).trans HBX2.out⟩, ⟨HB2.out.grown hgrow3 HB2.out.size (fun j hj => by cases hj; omega)⟩⟩
          case measure => simp [intOf]; omega
        · have q9 := eq_false hcl
          have HCL := Aside0.mk hcl
          go_wp2_with (first
            | (go_at_call 94; refine (listing_jump.calls _ _ _ _ HG1.out HF.out).mono ?_; rintro e w2 ⟨rfl, hb2⟩; have HO2 := Aside0.mk (own_map_below HO.out hb2); have HBX2 := Aside0.mk (blk_below HBX.out hb2); have HB2 := Aside0.mk (below_step HB.out hb2); have hcz0 : w2.cell? ⟨w.heap.size, 0, none⟩ = some (.slice (some ad) l.length c0) := (blk_cell HBX2.out 0).trans rfl)
            | go_in)
          go_roundw
          case rel => exact ⟨k + 1, _, by go_num, ⟨by omega⟩, ⟨HO2.out.mono (by omega)⟩, ⟨by rw [HN.out (Or.inr (by rw [← HC.out]; exact HCL.out))]; exact HT.out⟩, ⟨HBX2.out⟩, ⟨HB2.out⟩⟩
          case measure => simp [intOf]; omega
      · have hj : jumpB v = false := by simpa using hj
        rw [hj, if_neg (by decide)] at hjf
        have HJ := Aside0.mk hj
        have HF := Aside0.mk hjf
        clear hj hjf hc1
        go_wp2_with (first
          | (go_at_call 94; refine (listing_jump.calls _ _ _ _ HG1.out HF.out).mono ?_; rintro e w2 ⟨rfl, hb2⟩; have HO2 := Aside0.mk (own_map_below HO.out hb2); have HBX2 := Aside0.mk (blk_below HBX.out hb2); have HB2 := Aside0.mk (below_step HB.out hb2); have hcz0 : w2.cell? ⟨w.heap.size, 0, none⟩ = some (.slice (some ad) l.length c0) := (blk_cell HBX2.out 0).trans rfl)
          | go_in)
        go_roundw
        case rel => exact ⟨k + 1, _, by go_num, ⟨by omega⟩, ⟨HO2.out.mono (by omega)⟩, ⟨by rw [HN.out (Or.inl HJ.out)]; exact HT.out⟩, ⟨HBX2.out⟩, ⟨HB2.out⟩⟩
        case measure => simp [intOf]; omega
    · have hk : k = l.length := by have := HK1.out; omega
      subst hk
      have q7 := eq_false (show ¬ (l.length : Int) < (l.length : Int) by omega)
      go_wp2
      go_ret
      exact ⟨w.heap.size + 1, D, rfl, by omega, HO.out, by rw [← tgtK_all]; exact HT.out, HB.out⟩
end Go.Proofs.YtdhkmdgieflioaaDoor.F
namespace Go.Proofs.YtdhkmdgieflioaaDoor.F
open Go.RowKit Go.Proofs.YtdhkmdgieflioaaDoorW.PrintWords Go.Proofs.YtdhkmdgieflioaaDoorW.PrintLast Go.Proofs.YtdhkmdgieflioaaDoorW.PrintMore
attribute [local go_sem] max2_int min2_int max_two min_two max_three min_three max_four min_four
set_option linter.unusedVariables false
set_option linter.unusedSimpArgs false
def image_Right.f (l0_0 : List Int) (a0_1 : Int) : Option (Bool) := if (l0_0.length : Int) ≤ 16384 then (if a0_1 ≥ 0 then (some (decide (a0_1 ≤ 32768))) else (some false)) else (some false)
set_option maxHeartbeats 8000000 in
set_option maxRecDepth 100000 in
theorem image_Right.calls (A0_0 : Option Addr) (c0_0 : Nat) (l0_0 : List Int) (a0_1 : Int) (r : Bool) (w : World) (hr0_0 : Kd.C (Kd.int .u32) w A0_0 l0_0.length l0_0) (hc0_0 : l0_0.length ≤ c0_0) (h : image_Right.f l0_0 a0_1 = some r) :
    Calls Tryd.prog 68 #[.agg #[.slice A0_0 l0_0.length c0_0, .int .i64 a0_1]] w fun e w' => e = .returned (.bool r) ∧ Below w.heap.size w w' := by
  have hu28 := Tryd.underlying28
  have HR0_0 := Aside0.mk hr0_0
  have HC0_0 := Aside0.mk hc0_0
  clear hr0_0 hc0_0
  have HB := Aside0.mk (Below.refl w.heap.size w)
  have H : (if (l0_0.length : Int) ≤ 16384 then (if a0_1 ≥ 0 then (some (decide (a0_1 ≤ 32768))) else (some false)) else (some false)) = some r := h
  clear h
  by_cases c2 : (l0_0.length : Int) ≤ 16384
  · rw [if_pos c2] at H
    have c2b0 : decide ((l0_0.length : Int) ≤ 16384) = true := decide_eq_true c2
    have c2b1 : decide (l0_0.length ≤ 16384) = true := decide_eq_true (by omega)
    clear c2
    by_cases c3 : a0_1 ≥ 0
    · rw [if_pos c3] at H
      have c3b0 : decide (0 ≤ a0_1) = true := decide_eq_true c3
      clear c3
      obtain rfl := Option.some.inj H
      go_enter Tryd.func68, Tryd.ntmps68
      go_wp2_with (first | ((with_reducible refine gate_dst (N := 1) rfl ?_); refine box_event ?hg (N := 1) ?hd (cs := #[.slice A0_0 l0_0.length c0_0, .int .i64 a0_1]) (t := 28) ?hr ?_; (case hd => rfl); (case hg => rfl); (case hr => first | (go_simp; done) | (go_simp; rfl)); intro gb155 hg w4 hbox hb; have n0_ := Aside0.mk (below_step (by repeat (first | (with_reducible first | exact HB.out | apply below_alloc | apply pw_below_drewN | apply below_drew1) | exact HB.out)) hb); have n1_ := Aside0.mk (hbox); have n2_ := Aside0.mk ((by rw [hg]; exact (below_size (by repeat (first | (with_reducible first | exact HB.out | apply below_alloc | apply pw_below_drewN | apply below_drew1) | exact HB.out))) : w.heap.size ≤ gb155)); have n3_ := Aside0.mk ((by rw [hg]; exact (below_size (by repeat (first | (with_reducible first | exact HB.out | apply below_alloc | apply pw_below_drewN | apply below_drew1) | exact HB.out))) : w.heap.size ≤ gb155)); clear HB; have HB := n0_; have BK155 := n1_; have GW155 := n2_; have GE155 := n3_; clear n0_ n1_ n2_ n3_; clear hb hbox hg; have hcz5_0 : w4.cell? ⟨gb155, 0, none⟩ = some (.slice A0_0 l0_0.length c0_0) := (blk_cell BK155.out 0).trans rfl; have hcz5_1 : w4.cell? ⟨gb155, 1, none⟩ = some (.int .i64 a0_1) := (blk_cell BK155.out 1).trans rfl; have hfz5_0 := blk_frozen BK155.out 0; have hfz5_1 := blk_frozen BK155.out 1))
      go_ret
      exact ⟨by first | rfl | (simp [errW_none, errW_some] <;> rfl) | (simp [*, errW_none, errW_some] <;> rfl), by repeat (first | (with_reducible first | exact HB.out | apply below_alloc | apply pw_below_drewN | apply below_drew1 | refine below_set ?_ GE155.out) | exact HB.out)⟩
    · rw [if_neg c3] at H
      have c3b0 : decide (0 ≤ a0_1) = false := decide_eq_false c3
      clear c3
      obtain rfl := Option.some.inj H
      go_enter Tryd.func68, Tryd.ntmps68
      go_wp2_with (first | ((with_reducible refine gate_dst (N := 1) rfl ?_); refine box_event ?hg (N := 1) ?hd (cs := #[.slice A0_0 l0_0.length c0_0, .int .i64 a0_1]) (t := 28) ?hr ?_; (case hd => rfl); (case hg => rfl); (case hr => first | (go_simp; done) | (go_simp; rfl)); intro gb155 hg w6 hbox hb; have n0_ := Aside0.mk (below_step (by repeat (first | (with_reducible first | exact HB.out | apply below_alloc | apply pw_below_drewN | apply below_drew1) | exact HB.out)) hb); have n1_ := Aside0.mk (hbox); have n2_ := Aside0.mk ((by rw [hg]; exact (below_size (by repeat (first | (with_reducible first | exact HB.out | apply below_alloc | apply pw_below_drewN | apply below_drew1) | exact HB.out))) : w.heap.size ≤ gb155)); have n3_ := Aside0.mk ((by rw [hg]; exact (below_size (by repeat (first | (with_reducible first | exact HB.out | apply below_alloc | apply pw_below_drewN | apply below_drew1) | exact HB.out))) : w.heap.size ≤ gb155)); clear HB; have HB := n0_; have BK155 := n1_; have GW155 := n2_; have GE155 := n3_; clear n0_ n1_ n2_ n3_; clear hb hbox hg; have hcz7_0 : w6.cell? ⟨gb155, 0, none⟩ = some (.slice A0_0 l0_0.length c0_0) := (blk_cell BK155.out 0).trans rfl; have hcz7_1 : w6.cell? ⟨gb155, 1, none⟩ = some (.int .i64 a0_1) := (blk_cell BK155.out 1).trans rfl; have hfz7_0 := blk_frozen BK155.out 0; have hfz7_1 := blk_frozen BK155.out 1))
      go_ret
      exact ⟨by first | rfl | (simp [errW_none, errW_some] <;> rfl) | (simp [*, errW_none, errW_some] <;> rfl), by repeat (first | (with_reducible first | exact HB.out | apply below_alloc | apply pw_below_drewN | apply below_drew1 | refine below_set ?_ GE155.out) | exact HB.out)⟩
  · rw [if_neg c2] at H
    have c2b0 : decide ((l0_0.length : Int) ≤ 16384) = false := decide_eq_false c2
    have c2b1 : decide (l0_0.length ≤ 16384) = false := decide_eq_false (by omega)
    clear c2
    obtain rfl := Option.some.inj H
    go_enter Tryd.func68, Tryd.ntmps68
    go_wp2_with (first | ((with_reducible refine gate_dst (N := 1) rfl ?_); refine box_event ?hg (N := 1) ?hd (cs := #[.slice A0_0 l0_0.length c0_0, .int .i64 a0_1]) (t := 28) ?hr ?_; (case hd => rfl); (case hg => rfl); (case hr => first | (go_simp; done) | (go_simp; rfl)); intro gb155 hg w8 hbox hb; have n0_ := Aside0.mk (below_step (by repeat (first | (with_reducible first | exact HB.out | apply below_alloc | apply pw_below_drewN | apply below_drew1) | exact HB.out)) hb); have n1_ := Aside0.mk (hbox); have n2_ := Aside0.mk ((by rw [hg]; exact (below_size (by repeat (first | (with_reducible first | exact HB.out | apply below_alloc | apply pw_below_drewN | apply below_drew1) | exact HB.out))) : w.heap.size ≤ gb155)); have n3_ := Aside0.mk ((by rw [hg]; exact (below_size (by repeat (first | (with_reducible first | exact HB.out | apply below_alloc | apply pw_below_drewN | apply below_drew1) | exact HB.out))) : w.heap.size ≤ gb155)); clear HB; have HB := n0_; have BK155 := n1_; have GW155 := n2_; have GE155 := n3_; clear n0_ n1_ n2_ n3_; clear hb hbox hg; have hcz9_0 : w8.cell? ⟨gb155, 0, none⟩ = some (.slice A0_0 l0_0.length c0_0) := (blk_cell BK155.out 0).trans rfl; have hcz9_1 : w8.cell? ⟨gb155, 1, none⟩ = some (.int .i64 a0_1) := (blk_cell BK155.out 1).trans rfl; have hfz9_0 := blk_frozen BK155.out 0; have hfz9_1 := blk_frozen BK155.out 1))
    go_ret
    exact ⟨by first | rfl | (simp [errW_none, errW_some] <;> rfl) | (simp [*, errW_none, errW_some] <;> rfl), by repeat (first | (with_reducible first | exact HB.out | apply below_alloc | apply pw_below_drewN | apply below_drew1 | refine below_set ?_ GE155.out) | exact HB.out)⟩
end Go.Proofs.YtdhkmdgieflioaaDoor.F
namespace Go.Proofs.YtdhkmdgieflioaaDoor.F
open Go.RowKit Go.Proofs.YtdhkmdgieflioaaDoorW.PrintWords Go.Proofs.YtdhkmdgieflioaaDoorW.PrintLast Go.Proofs.YtdhkmdgieflioaaDoorW.PrintMore
set_option linter.unusedVariables false
set_option linter.unusedSimpArgs false
open Go.Maps
def listing_Text.f (l0_0 : List Int) (a0_1 : Int) : Option (ByteArray × Int) :=
  if okL l0_0 = true then (if 0 ≤ a0_1 ∧ a0_1 ≤ 32768 then some (⟨(listB l0_0 a0_1).toArray⟩, 0) else some (⟨#[]⟩, 1)) else none
theorem imgRight_f (l : List Int) (d : Int) (hl : l.length ≤ 1000) : image_Right.f l d = some (decide (0 ≤ d ∧ d ≤ 32768)) := by
  unfold image_Right.f
  rw [if_pos (by omega)]
  by_cases h : d ≥ 0
  · rw [if_pos h]
    by_cases h2 : d ≤ 32768
    · rw [decide_eq_true h2, decide_eq_true ⟨h, h2⟩]
    · rw [decide_eq_false h2, decide_eq_false (fun x => h2 x.2)]
  · rw [if_neg h, decide_eq_false (fun x => h x.1)]
theorem body_app (t : Int → Bool) : ∀ (l m : List Int) (i : Nat), bodyB t i (l ++ m) = bodyB t i l ++ bodyB t (i + l.length) m
  | [], m, i => by simp [bodyB]
  | v :: r, m, i => by
    rw [List.cons_append, bodyB, bodyB, body_app t r m (i + 1), List.append_assoc, List.length_cons, show i + 1 + r.length = i + (r.length + 1) by omega]
theorem body_step (t : Int → Bool) (l : List Int) (k : Nat) (h : k < l.length) : bodyB t 0 (l.take (k + 1)) = bodyB t 0 (l.take k) ++ lineB t k (rd l (k : Int)) := by
  rw [List.take_add_one, rd_at l k h, body_app]
  simp only [Option.toList_some, bodyB, List.append_nil, List.length_take]
  rw [show 0 + min k l.length = k by omega]
theorem instr_len (t : Int → Bool) (v : Int) (h0 : 0 ≤ v) (h1 : v < 4294967296) : (instrB t v).length ≤ 21000 := by
  have hn : (num v).length ≤ 21 := by have := num_size v h0 h1; simpa [ByteArray.size] using this
  have hc : (num (rcB v)).length ≤ 21 := by have := num_size (rcB v) (by unfold rcB; omega) (by unfold rcB; omega); simpa [ByteArray.size] using this
  unfold instrB
  split
  · simp; omega
  · rename_i hd
    have hd : decB v = true := by simpa using hd
    have hts := text_size _ _ _ _ (show rightB (opB v) (raB v) (rbB v) (rcB v) = true from hd)
    have e : (textOf (opB v) (raB v) (rbB v) (rcB v)).size = (textOf (opB v) (raB v) (rbB v) (rcB v)).data.toList.length := rfl
    have := trim_size (textOf (opB v) (raB v) (rbB v) (rcB v)).data.toList (num (rcB v))
    split
    · simp; omega
    · omega
theorem line_len (t : Int → Bool) (i : Nat) (v : Int) (hi : i < 4294967296) (h0 : 0 ≤ v) (h1 : v < 4294967296) : (lineB t i v).length ≤ 22000 := by
  have hi : (num (i : Int)).length ≤ 21 := by have := num_size (i : Int) (by omega) (by omega); simpa [ByteArray.size] using this
  have := instr_len t v h0 h1
  unfold lineB
  split <;> simp <;> omega
theorem body_len (t : Int → Bool) : ∀ (l : List Int) (i : Nat), i + l.length < 4294967296 → (∀ x ∈ l, 0 ≤ x ∧ x < 4294967296) → (bodyB t i l).length ≤ 22000 * l.length
  | [], _, _, _ => by simp [bodyB]
  | v :: r, i, hi, h => by
    have h1 := body_len t r (i + 1) (by rw [List.length_cons] at hi; omega) (fun x hx => h x (List.mem_cons_of_mem _ hx))
    have hv := h v (List.mem_cons_self ..)
    have h2 := line_len t i v (by omega) hv.1 hv.2
    rw [bodyB, List.length_append, List.length_cons]
    omega
theorem row_of (ps : List ByteArray) (j : Nat) (x : ByteArray) (h : ps[j]? = some x) : (ps.map Value.string).toArray[j]? = some (.string x) := by
  rw [List.getElem?_toArray, List.getElem?_map, h]
  rfl
theorem own_map_kept {H : Type} {P : Program} {k : TypeId} {R : Value → Option (DataW H × List MemPlace)} {w w' : World} {b n ob : Nat} {D : DataW H} (h : w.ownsMap P k R b n D) (hok : Lib.OthersKept 5 (some ob) w w') (hne : ob < b) : w'.ownsMap P k R b n D := by
  obtain ⟨es, clock, he, F, hs, hD⟩ := h
  exact ⟨es, clock, hok b _ he (by intro e; have := Option.some.inj e; omega) (by rintro c fz ⟨⟩), F, hs, hD⟩
theorem head_len (d : Int) (h0 : 0 ≤ d) (h1 : d ≤ 32768) : (headB d).length ≤ 100 := by
  have hn : (num d).length ≤ 21 := by have := num_size d h0 (by omega); simpa [ByteArray.size] using this
  unfold headB
  simp
  omega
set_option maxHeartbeats 8000000 in
set_option maxRecDepth 100000 in
theorem text_refused (A0 : Option Addr) (c0 : Nat) (l : List Int) (d : Int) (w : World) (hr : Kd.C (Kd.int .u32) w A0 l.length l) (hc : l.length ≤ c0) (hl : l.length ≤ 1000) (hd : ¬ (0 ≤ d ∧ d ≤ 32768)) :
    Calls Tryd.prog 36 #[.agg #[.slice A0 l.length c0, .int .i64 d]] w fun e w' => e = .returned (.tuple #[.string ⟨#[]⟩, .int .i64 1]) ∧ Below w.heap.size w w' := by
  have hu28 := Tryd.underlying28
  have hf := imgRight_f l d hl
  rw [decide_eq_false hd] at hf
  have HB0 := Aside0.mk (((Below.refl w.heap.size w).alloc (Nat.le_refl _) (.cells #[.slice A0 l.length c0, .int .i64 d] 28)))
  have HR := Aside0.mk (Kd.C_below hr HB0.out)
  have HF := Aside0.mk hf
  have HC := Aside0.mk hc
  clear hr hf hc hd
  go_enter Tryd.func36, Tryd.ntmps36
  go_wp2_with (go_at_call 68; refine (image_Right.calls A0 c0 l d _ _ HR.out HC.out HF.out).mono ?_; rintro e w2 ⟨rfl, hb2⟩; have HB2 := Aside0.mk (below_step HB0.out hb2); clear hb2)
  go_ret2
  exact ⟨rfl, HB2.out⟩
set_option maxHeartbeats 8000000 in
set_option maxRecDepth 100000 in
theorem text_made (A0 : Option Addr) (c0 : Nat) (l : List Int) (d : Int) (w : World) (hGK : GK w) (hGT : GT w) (hr : Kd.C (Kd.int .u32) w A0 l.length l) (hc : l.length ≤ c0) (hl : okL l = true) (hd : 0 ≤ d ∧ d ≤ 32768) :
    Calls Tryd.prog 36 #[.agg #[.slice A0 l.length c0, .int .i64 d]] w fun e w' => e = .returned (.tuple #[.string ⟨(listB l d).toArray⟩, .int .i64 0]) ∧ Below w.heap.size w w' := by
  have hmf : ∀ (fn : Fn) (first cap : Array Value) (w : World), (Instr.makeFunc fn first cap).run Tryd.prog w = .ok (.func fn first cap) w := fun _ _ _ _ => rfl
  have hu28 := Tryd.underlying28
  have hu81 := Tryd.underlying81
  have hf := imgRight_f l d (okL_len hl)
  rw [decide_eq_true hd] at hf
  have hnd := number_f d hd.1 (by omega)
  have hns := num_size d hd.1 (by omega)
  obtain ⟨xd, hxd⟩ : ∃ x : ByteArray, x = ⟨(num d).toArray⟩ := ⟨_, rfl⟩
  rw [← hxd] at hnd hns
  have HXD := Aside0.mk (show xd.data.toList = num d by rw [hxd])
  have HND := Aside0.mk hnd
  have HNS := Aside0.mk hns
  have HB0 := Aside0.mk (((Below.refl w.heap.size w).alloc (Nat.le_refl _) (.cells #[.slice A0 l.length c0, .int .i64 d] 28)))
  have HR := Aside0.mk hr
  have HK := Aside0.mk hGK
  have HT := Aside0.mk hGT
  have HF := Aside0.mk hf
  have HC := Aside0.mk hc
  have HL := Aside0.mk hl
  have HLN := Aside0.mk (okL_len hl)
  have HLM := Aside0.mk (okL_mem hl)
  have HDB := Aside0.mk hd
  clear hr hf hc hd hGK hGT hl hxd hnd hns
  go_enter Tryd.func36, Tryd.ntmps36
  go_wp2_with (first
    | (go_at_call 68; refine (image_Right.calls A0 c0 l d _ _ (Kd.C_below HR.out HB0.out) HC.out HF.out).mono ?_; rintro e w2 ⟨rfl, hb2⟩; have HB2 := Aside0.mk (below_step HB0.out hb2); have BX2 := Aside0.mk (blk_below (blk_new w (.cells #[.slice A0 l.length c0, .int .i64 d] 28)) hb2); clear hb2; have hcz0 : w2.cell? ⟨w.heap.size, 0, none⟩ = some (.slice A0 l.length c0) := (blk_cell BX2.out 0).trans rfl; have hcz1 : w2.cell? ⟨w.heap.size, 1, none⟩ = some (.int .i64 d) := (blk_cell BX2.out 1).trans rfl)
    | ((with_reducible refine gate_dst (N := 4) rfl ?_); refine box_event ?hg (N := 4) ?hd (cs := #[.pointer none, .slice none 0 0]) (t := 81) ?hr ?_; (case hd => rfl); (case hg => rfl); (case hr => first | (go_simp; done) | (go_simp; rfl)); intro ob hg w3 hbox hb3; have HB3 := Aside0.mk (below_step HB2.out hb3); have BX3 := Aside0.mk (blk_below BX2.out hb3); have GE := Aside0.mk (show w.heap.size < ob by rw [hg]; exact blk_lt BX2.out); have BL3 := Aside0.mk (show Lib.IsBuilderF 81 5 w.heap.size ob (Lib.byteCells []) w3 from .inl ⟨Nat.le_of_lt GE.out, _, hbox, ⟨rfl, .inl ⟨rfl, rfl⟩⟩, by simp [Value.ownBlock]⟩); clear hb3 hbox hg hcz0 hcz1; have hcz0 : w3.cell? ⟨w.heap.size, 0, none⟩ = some (.slice A0 l.length c0) := (blk_cell BX3.out 0).trans rfl; have hcz1 : w3.cell? ⟨w.heap.size, 1, none⟩ = some (.int .i64 d) := (blk_cell BX3.out 1).trans rfl)
    | (go_at_call 66; refine (targets_any A0 c0 l d _ (GK.below HK.out HB3.out) (Kd.C_below HR.out HB3.out) HC.out HL.out).mono ?_; rintro e w4 ⟨b, D, rfl, hb0, hown, hT, hbel⟩; have HO4 := Aside0.mk hown; have HTM := Aside0.mk hT; have HB4 := Aside0.mk (below_step HB3.out hbel); have BX4 := Aside0.mk (blk_below BX3.out hbel); have BL4 := Aside0.mk (bld_below BL3.out hbel); have HBO := Aside0.mk (show ob < b from Nat.lt_of_lt_of_le (bld_blk BL3.out).2.1 hb0); clear hown hT hbel hb0 hcz0 hcz1; have hcz0 : w4.cell? ⟨w.heap.size, 0, none⟩ = some (.slice A0 l.length c0) := (blk_cell BX4.out 0).trans rfl; have hcz1 : w4.cell? ⟨w.heap.size, 1, none⟩ = some (.int .i64 d) := (blk_cell BX4.out 1).trans rfl)
    | (go_at_call 72; refine (listing_number.calls _ _ _ (GT.below HT.out HB4.out) HND.out).mono ?_; rintro e w5 ⟨rfl, hb5⟩; have HB5 := Aside0.mk (below_step HB4.out hb5); have BX5 := Aside0.mk (blk_below BX4.out hb5); have BL5 := Aside0.mk (bld_below BL4.out hb5); have HO5 := Aside0.mk (own_map_below HO4.out hb5); clear hb5 hcz0 hcz1)
    | (go_at_call 69; refine (line_any w5.heap.size 2 ob w.heap.size ([⟨#[46, 100, 97, 116, 97, 32]⟩, xd].map Value.string).toArray [⟨#[46, 100, 97, 116, 97, 32]⟩, xd] [] _ (blk_new w5 _) (row_of _) (bld_below BL5.out ((Below.refl _ _).alloc (Nat.le_refl _) _)) (by simp) (by have := HNS.out; intro x hx; simp only [List.mem_cons, List.not_mem_nil, or_false] at hx; rcases hx with rfl | rfl; exact (by decide); omega) (by decide) (by have := HB5.out.size; simp; omega)).mono ?_; rintro e w6 ⟨rfl, hb6, hbel6, hok6⟩; have HB6 := Aside0.mk ((HB5.out.alloc HB5.out.size _).trans hbel6); have BX6 := Aside0.mk (hok6 w.heap.size _ (blk_alloc BX5.out _) (by intro e; have h1 := Option.some.inj e; have h2 := GE.out; omega) (by rintro c fz ⟨⟩)); have HO6 := Aside0.mk (own_map_kept (own_map_below HO5.out ((Below.refl _ _).alloc (Nat.le_refl _) _)) hok6 HBO.out); have BL6 := Aside0.mk (show Lib.IsBuilderF 81 5 w.heap.size ob (Lib.byteCells (headB d)) w6 by rw [show headB d = [] ++ catB [⟨#[46, 100, 97, 116, 97, 32]⟩, xd] ++ [10] by unfold headB catB; simp [HXD.out]]; exact hb6); clear hb6 hbel6 hok6; have hcz0 : w6.cell? ⟨w.heap.size, 0, none⟩ = some (.slice A0 l.length c0) := (blk_cell BX6.out 0).trans rfl)
    | go_in)
  go_loopw [24] (fun v24 wr => ∃ k : Nat, v24 = .int .i64 k ∧ Aside0 (k ≤ l.length) ∧ Aside0 (Lib.IsBuilderF 81 5 w.heap.size ob (Lib.byteCells (headB d ++ bodyB (tgtB l) 0 (l.take k))) wr) ∧ Aside0 (wr.ownsMap Tryd.prog 3 (plainElem Tryd.prog 4) b l.length D) ∧ Aside0 (Below w.heap.size w wr))
    (fun v24 _ => l.length - (intOf v24).toNat)
  case atStart => exact ⟨0, rfl, ⟨Nat.zero_le _⟩, ⟨by simpa [bodyB] using BL6.out⟩, HO6, HB6⟩
  case round =>
    obtain ⟨k, rfl, HK1, BL, HO, HB⟩ := hrel
    have hln := HLN.out
    have HLL := Aside0.mk (show (headB d ++ bodyB (tgtB l) 0 (l.take k)).length ≤ 22001000 by
      have h1 := head_len d HDB.out.1 HDB.out.2
      have h2 := body_len (tgtB l) (l.take k) 0 (by rw [List.length_take]; omega) (fun x hx => HLM.out x (List.mem_of_mem_take hx))
      rw [List.length_append]
      rw [List.length_take] at h2
      omega)
    by_cases hlt : k < l.length
    · obtain ⟨ad, he, hcell⟩ := Kd.at_int (Kd.C_below HR.out HB.out) (k : Int) (by omega) (by omega)
      subst he
      simp only [Int.toNat_natCast] at hcell
      have q7 := eq_true (show (k : Int) < (l.length : Int) by omega)
      have p8 := eq_true (show 0 ≤ (k : Int) by omega)
      have HST := Aside0.mk (body_step (tgtB l) l k hlt)
      have HVM := Aside0.mk (show 0 ≤ rd l (k : Int) ∧ rd l (k : Int) < 4294967296 from HLM.out _ (List.mem_of_getElem? (rd_at l k hlt)))
      have HIL := Aside0.mk (instr_len (tgtB l) _ HVM.out.1 HVM.out.2)
      generalize rd l (k : Int) = v at hcell HST HVM HIL
      cases htk : tgtB l (k : Int) with
      | true =>
        have hlk := look_bool HO.out HTM.out (k : Int) (by omega) (by omega) _ htk
        have hnk := number_f (k : Int) (by omega) (by omega)
        have hnks := num_size (k : Int) (by omega) (by omega)
        obtain ⟨xk, hxk⟩ : ∃ x : ByteArray, x = ⟨(num (k : Int)).toArray⟩ := ⟨_, rfl⟩
        rw [← hxk] at hnk hnks
        have HXK := Aside0.mk (show xk.data.toList = num (k : Int) by rw [hxk])
        have HNK := Aside0.mk hnks
        have HNK2 := Aside0.mk hnk
        have HTK := Aside0.mk htk
        have HCT := Aside0.mk (show (catB [⟨#[76]⟩, xk, ⟨#[58]⟩]).length ≤ 100 by unfold catB; simp; have h1 : xk.data.toList.length = xk.size := rfl; simp at h1; omega)
        clear hnk hxk htk
        go_wp2_with (first | (go_at_call 72; refine (listing_number.calls _ _ _ (GT.below HT.out HB.out) HNK2.out).mono ?_; rintro e w7 ⟨rfl, hb7⟩; have HB7 := Aside0.mk (below_step HB.out hb7); have BL7 := Aside0.mk (bld_below BL.out hb7); have HO7 := Aside0.mk (own_map_below HO.out hb7); clear hb7) | (go_at_call 69; refine (line_any w9.heap.size 2 ob w.heap.size ([⟨#[32, 32]⟩, xs].map Value.string).toArray [⟨#[32, 32]⟩, xs] ((headB d ++ bodyB (tgtB l) 0 (l.take k)) ++ catB [⟨#[76]⟩, xk, ⟨#[58]⟩] ++ [10]) _ (blk_new w9 _) (row_of _) (bld_below BL9.out ((Below.refl _ _).alloc (Nat.le_refl _) _)) (by simp) (by have := HNK.out; have := HSS.out; intro x hx; simp only [List.mem_cons, List.not_mem_nil, or_false] at hx; rcases hx with rfl | rfl; exact (by decide); omega) (by have := HLL.out; have hq := HCT.out; rw [List.length_append, List.length_append]; simp only [List.length_cons, List.length_nil]; omega) (by have := HB9.out.size; simp; omega)).mono ?_; rintro e w10 ⟨rfl, hb10, hbel10, hok10⟩; have HB10 := Aside0.mk ((HB9.out.alloc HB9.out.size _).trans hbel10); have HO10 := Aside0.mk (own_map_kept (own_map_below HO9.out ((Below.refl _ _).alloc (Nat.le_refl _) _)) hok10 HBO.out); have BL10 := Aside0.mk hb10; clear hb10 hbel10 hok10) | (go_at_call 69; refine (line_any w7.heap.size 3 ob w.heap.size ([⟨#[76]⟩, xk, ⟨#[58]⟩].map Value.string).toArray [⟨#[76]⟩, xk, ⟨#[58]⟩] (headB d ++ bodyB (tgtB l) 0 (l.take k)) _ (blk_new w7 _) (row_of _) (bld_below BL7.out ((Below.refl _ _).alloc (Nat.le_refl _) _)) (by simp) (by have := HNK.out; intro x hx; simp only [List.mem_cons, List.not_mem_nil, or_false] at hx; rcases hx with rfl | rfl | rfl; exact (by decide); omega; exact (by decide)) (by have := HLL.out; omega) (by have := HB7.out.size; simp; omega)).mono ?_; rintro e w8 ⟨rfl, hb8, hbel8, hok8⟩; have HB8 := Aside0.mk ((HB7.out.alloc HB7.out.size _).trans hbel8); have HO8 := Aside0.mk (own_map_kept (own_map_below HO7.out ((Below.refl _ _).alloc (Nat.le_refl _) _)) hok8 HBO.out); have BL8 := Aside0.mk hb8; clear hb8 hbel8 hok8) | (go_at_call 73; refine (instr_any _ b l.length D (tgtB l) _ (GK.below HK.out HB8.out) (GT.below HT.out HB8.out) HO8.out HTM.out HVM.out.1 HVM.out.2).mono ?_; rintro e w9 ⟨xs, rfl, hxs, hb9⟩; have HXS := Aside0.mk hxs; have HSS := Aside0.mk (show xs.size ≤ 100000 from by have h1 : xs.size = xs.data.toList.length := rfl; rw [h1, hxs]; have := HIL.out; omega); have HB9 := Aside0.mk (below_step HB8.out hb9); have BL9 := Aside0.mk (bld_below BL8.out hb9); have HO9 := Aside0.mk (own_map_below HO8.out hb9); clear hb9 hxs) | go_in)
        go_roundw
        case rel =>
          refine ⟨k + 1, by go_num, ⟨by omega⟩, ⟨?_⟩, HO10, HB10⟩
          rw [HST.out]
          have e : headB d ++ (bodyB (tgtB l) 0 (l.take k) ++ lineB (tgtB l) k v) = ((headB d ++ bodyB (tgtB l) 0 (l.take k)) ++ catB [⟨#[76]⟩, xk, ⟨#[58]⟩] ++ [10]) ++ catB [⟨#[32, 32]⟩, xs] ++ [10] := by
            unfold lineB catB
            rw [HTK.out, if_pos rfl]
            simp [HXK.out, HXS.out]
          rw [e]
          exact BL10.out
        case measure => simp [intOf]; omega
      | false =>
        have hlk := look_bool HO.out HTM.out (k : Int) (by omega) (by omega) _ htk
        have HTK := Aside0.mk htk
        clear htk
        go_wp2_with (first | (go_at_call 73; refine (instr_any _ b l.length D (tgtB l) _ (GK.below HK.out HB.out) (GT.below HT.out HB.out) HO.out HTM.out HVM.out.1 HVM.out.2).mono ?_; rintro e w9 ⟨xs, rfl, hxs, hb9⟩; have HXS := Aside0.mk hxs; have HSS := Aside0.mk (show xs.size ≤ 100000 from by have h1 : xs.size = xs.data.toList.length := rfl; rw [h1, hxs]; have := HIL.out; omega); have HB9 := Aside0.mk (below_step HB.out hb9); have BL9 := Aside0.mk (bld_below BL.out hb9); have HO9 := Aside0.mk (own_map_below HO.out hb9); clear hb9 hxs) | (go_at_call 69; refine (line_any w9.heap.size 2 ob w.heap.size ([⟨#[32, 32]⟩, xs].map Value.string).toArray [⟨#[32, 32]⟩, xs] (headB d ++ bodyB (tgtB l) 0 (l.take k)) _ (blk_new w9 _) (row_of _) (bld_below BL9.out ((Below.refl _ _).alloc (Nat.le_refl _) _)) (by simp) (by have := HSS.out; intro x hx; simp only [List.mem_cons, List.not_mem_nil, or_false] at hx; rcases hx with rfl | rfl; exact (by decide); omega) (by have := HLL.out; omega) (by have := HB9.out.size; simp; omega)).mono ?_; rintro e w10 ⟨rfl, hb10, hbel10, hok10⟩; have HB10 := Aside0.mk ((HB9.out.alloc HB9.out.size _).trans hbel10); have HO10 := Aside0.mk (own_map_kept (own_map_below HO9.out ((Below.refl _ _).alloc (Nat.le_refl _) _)) hok10 HBO.out); have BL10 := Aside0.mk hb10; clear hb10 hbel10 hok10) | go_in)
        go_roundw
        case rel =>
          refine ⟨k + 1, by go_num, ⟨by omega⟩, ⟨?_⟩, HO10, HB10⟩
          rw [HST.out]
          have e : headB d ++ (bodyB (tgtB l) 0 (l.take k) ++ lineB (tgtB l) k v) = (headB d ++ bodyB (tgtB l) 0 (l.take k)) ++ catB [⟨#[32, 32]⟩, xs] ++ [10] := by
            unfold lineB catB
            rw [HTK.out, if_neg (by decide)]
            simp [HXS.out]
          rw [e]
          exact BL10.out
        case measure => simp [intOf]; omega
    · have hk : k = l.length := by have := HK1.out; omega
      subst hk
      rw [List.take_length] at BL
      have q7 := eq_false (show ¬ (l.length : Int) < (l.length : Int) by omega)
      go_wp2_with (go_at_call 74; refine (Tryd.Builder_String_any_k w.heap.size ob _ _ BL.out HB.out.size).mono ?_; rintro e w11 ⟨rfl, hb11, hbel11, hok11⟩)
      go_ret2
      exact ⟨rfl, HB.out.trans hbel11⟩
theorem listing_Text.calls (A0_0 : Option Addr) (c0_0 : Nat) (l0_0 : List Int) (a0_1 : Int) (r1 : ByteArray) (r2 : Int) (w : World) (hGK : GK w) (hGT : GT w) (hr0_0 : Kd.C (Kd.int .u32) w A0_0 l0_0.length l0_0) (hc0_0 : l0_0.length ≤ c0_0) (h : listing_Text.f l0_0 a0_1 = some (r1, r2)) :
    Calls Tryd.prog 36 #[.agg #[.slice A0_0 l0_0.length c0_0, .int .i64 a0_1]] w fun e w' => e = .returned (.tuple #[.string r1, .int .i64 r2]) ∧ Below w.heap.size w w' := by
  unfold listing_Text.f at h
  split at h
  · rename_i hl
    split at h
    · rename_i hd
      obtain ⟨rfl, rfl⟩ := Prod.mk.inj (Option.some.inj h)
      exact text_made A0_0 c0_0 l0_0 a0_1 w hGK hGT hr0_0 hc0_0 hl hd
    · rename_i hd
      obtain ⟨rfl, rfl⟩ := Prod.mk.inj (Option.some.inj h)
      exact text_refused A0_0 c0_0 l0_0 a0_1 w hr0_0 hc0_0 (okL_len hl) hd
  · cases h
end Go.Proofs.YtdhkmdgieflioaaDoor.F
namespace Go.Proofs.YtdhkmdgieflioaaDoor.F
open Go.RowKit Go.Proofs.YtdhkmdgieflioaaDoorW.PrintWords Go.Proofs.YtdhkmdgieflioaaDoorW.PrintLast Go.Proofs.YtdhkmdgieflioaaDoorW.PrintMore
set_option linter.unusedVariables false
set_option linter.unusedSimpArgs false
open Go.Maps Go.Sort
def CollI {H : Type} (D0 : DataW H) (left : Lit → Bool) (ss : List Int) : Prop := ss.Nodup ∧ ∀ x : Int, x ∈ ss ↔ (has D0 (.int .i64 x) = true ∧ left (.int .i64 x) = false)
theorem CollI.start {H : Type} (D0 : DataW H) : CollI D0 (has D0) [] := ⟨List.nodup_nil, fun x => by cases has D0 (.int .i64 x) <;> simp⟩
theorem CollI.step {H : Type} {D0 : DataW H} {left : Lit → Bool} {ss : List Int} (h : CollI D0 left ss) {x : Int} {y : DataW H} (hlk : left (.int .i64 x) = true) (hat : ∀ zd, D0.atKey (.int .i64 x) zd = y) : CollI D0 (fun z => left z && !z.sameKey (.int .i64 x)) (ss ++ [x]) := by
  have hhas : has D0 (.int .i64 x) = true := has_true_of_atKey hat
  have hnew : x ∉ ss := fun hx => by have := ((h.2 x).1 hx).2; rw [hlk] at this; cases this
  refine ⟨List.nodup_append.2 ⟨h.1, by simp, fun a ha b hb => by simp at hb; subst hb; exact fun e => hnew (e ▸ ha)⟩, fun y => ?_⟩
  by_cases hy : y = x
  · subst hy; simp [hhas, Lit.sameKey]
  · simp [h.2 y, hy, Lit.sameKey]
theorem mem_tgts (l : List Int) (i : Int) : i ∈ tgts l ↔ 0 ≤ i ∧ tgtB l i = true := by
  unfold tgts
  rw [List.mem_filter, List.mem_map]
  constructor
  · rintro ⟨⟨n, _, rfl⟩, h⟩
    exact ⟨by omega, h⟩
  · rintro ⟨h0, h⟩
    refine ⟨⟨i.toNat, ?_, by omega⟩, h⟩
    unfold tgtB at h
    rw [Bool.and_eq_true] at h
    have := of_decide_eq_true h.1
    exact List.mem_range.2 (by omega)
theorem tgts_sorted (l : List Int) : (tgts l).Pairwise (· < ·) := by
  unfold tgts
  refine List.Pairwise.filter _ (List.pairwise_map.2 ?_)
  exact List.pairwise_lt_range.imp (fun h => by omega)
theorem tgt_nonneg (l : List Int) (i : Int) (h : tgtB l i = true) : 0 ≤ i := by
  unfold tgtB at h
  rw [Bool.and_eq_true] at h
  obtain ⟨v, _, hv⟩ := List.any_eq_true.1 h.2
  rw [Bool.and_eq_true, beq_iff_eq] at hv
  have := hv.2
  unfold rcB at this
  omega
theorem sort_eq (l ss : List Int) (hn : ss.Nodup) (hm : ∀ x : Int, x ∈ ss ↔ tgtB l x = true) : ss.mergeSort (fun x y => decide (x ≤ y)) = tgts l := by
  have tr : ∀ a b c : Int, decide (a ≤ b) = true → decide (b ≤ c) = true → decide (a ≤ c) = true := fun a b c h1 h2 => by simp only [decide_eq_true_eq] at *; omega
  have tot : ∀ a b : Int, (decide (a ≤ b) || decide (b ≤ a)) = true := fun a b => by simp only [Bool.or_eq_true, decide_eq_true_eq]; omega
  have hnd : (tgts l).Nodup := (tgts_sorted l).imp (fun h => by omega)
  have hp : ss.Perm (tgts l) := (List.perm_ext_iff_of_nodup hn hnd).2 fun x => by
    rw [hm, mem_tgts]
    exact ⟨fun h => ⟨tgt_nonneg l x h, h⟩, fun h => h.2⟩
  refine List.Perm.eq_of_pairwise (le := fun a b => decide (a ≤ b) = true) (fun a b _ _ h1 h2 => ?_) (List.pairwise_mergeSort tr tot ss) ((tgts_sorted l).imp (fun h => by simp; omega)) ((List.mergeSort_perm ss _).trans hp)
  simp only [decide_eq_true_eq] at h1 h2
  omega
set_option maxRecDepth 100000 in
theorem keyInt {key : Value} {kl : Lit} (h : keyOf Tryd.prog 3 key = some kl) : ∃ x, key = .int .i64 x := by
  obtain ⟨x, hx, _⟩ := Maps.keyOf_int_inv Tryd.underlying3 h
  exact ⟨x, hx⟩
def bv (n : Nat) : Value := .bool (n == 1)
set_option maxRecDepth 100000 in
theorem elemBool (v : Value) (y : DataW Unit × List MemPlace) (h : plainElem Tryd.prog 4 v = some y) : ∃ c : Nat, v = bv c := by
  unfold plainElem at h
  rw [Tryd.underlying4] at h
  cases v <;> simp at h
  rename_i x
  cases x
  · exact ⟨0, rfl⟩
  · exact ⟨1, rfl⟩
theorem row_ne_map {H : Type} {P : Program} {k : TypeId} {R : Value → Option (DataW H × List MemPlace)} {w : World} {b n : Nat} {D : DataW H} {base : Nat} {e : TypeId} {size : Nat} {v : Value} {m : Nat} {xs : List Value}
    (h : w.ownsRow base e size v m xs) (hr : w.ownsMap P k R b n D) : some b ≠ v.ownBlock := by
  obtain ⟨es, clock, hit, _⟩ := hr
  rcases h.2 with ⟨rfl, _⟩ | ⟨g, cap, cur, rfl, _, hb, _⟩
  · simp [Value.ownBlock]
  · intro e1
    have : b = g := by simpa [Value.ownBlock] using e1
    subst this
    rw [hit] at hb
    cases hb
def listing_Targets.f (l0_0 : List Int) (a0_1 : Int) : Option (List Int) := if okL l0_0 = true then some (tgts l0_0) else none
set_option maxHeartbeats 8000000 in
set_option maxRecDepth 100000 in
theorem targets_sorted (A0 : Option Addr) (c0 : Nat) (l : List Int) (d : Int) (w : World) (hGK : GK w) (hr : Kd.C (Kd.int .u32) w A0 l.length l) (hc : l.length ≤ c0) (hl : okL l = true) :
    Calls Tryd.prog 35 #[.agg #[.slice A0 l.length c0, .int .i64 d]] w fun e w' => ∃ v : Value, e = .returned v ∧ w'.ownsRow w.heap.size 3 1 v (tgts l).length ((tgts l).map (Value.int .i64)) ∧ Below w.heap.size w w' := by
  obtain ⟨i0, hi, hz0, hz1, hz2⟩ := info_parts info3
  have hu28 := Tryd.underlying28
  have HB0 := Aside0.mk (((Below.refl w.heap.size w).alloc (Nat.le_refl _) (.cells #[.slice A0 l.length c0, .int .i64 d] 28)))
  have HK := Aside0.mk (GK.below hGK HB0.out)
  have HR := Aside0.mk (Kd.C_below hr HB0.out)
  have HC := Aside0.mk hc
  have HL := Aside0.mk hl
  have HLN := Aside0.mk (okL_len hl)
  clear hGK hr hl hc
  go_enter Tryd.func35, Tryd.ntmps35
  go_wp2_with (first
    | (go_at_call 66; refine (targets_any A0 c0 l d _ HK.out HR.out HC.out HL.out).mono ?_; rintro e w1 ⟨b, D, rfl, hb0, hown, hT, hbel⟩; have HO := Aside0.mk hown; have HT := Aside0.mk hT; have HB := Aside0.mk (below_step HB0.out hbel); have HBL := Aside0.mk (show w.heap.size ≤ b by simp at hb0; omega); clear hown hT hbel hb0)
    | (at_range; refine wpList_range_own _ rfl _ 76 rfl 3 4 law3 Tryd.underlying76 _ b l.length D rfl HO.out ?_; intro w0 hrg0 hg0 hs0)
    | go_in)
  go_frame
  have HSZ := Aside0.mk HO.out.size_le
  have HSW := Aside0.mk HB.out.size
  have HG0 := Aside0.mk hg0.size
  go_loopw [3] (fun v wr => ∃ (left : Lit → Bool) (cnt : Nat) (ss : List Int), Aside0 (wr.ranges Tryd.prog 3 (plainElem Tryd.prog 4) b w1.heap.size l.length D left cnt) ∧ Aside0 (ss.length + cnt ≤ Maps.size D) ∧
      Aside0 (wr.ownsRow w.heap.size 3 1 v ss.length (ss.map (Value.int .i64))) ∧ Aside0 (CollI D left ss) ∧ Aside0 (Below w.heap.size w wr) ∧ Aside0 (w1.heap.size ≤ wr.heap.size))
    (fun _ wr => wr.rangeLeft b w1.heap.size)
  case atStart =>
    exact ⟨_, _, [], ⟨hrg0⟩, ⟨by simp⟩, ⟨World.ownsRow_nil _ _ _ _⟩, ⟨CollI.start D⟩, ⟨HB.out.grown hg0 HSW.out (fun j hj => by cases hj)⟩, ⟨HG0.out⟩⟩
  case round =>
    clear hrg0 hg0 hs0
    obtain ⟨left, cnt, ss, HRG, HCS, HRW, HCO, HB1, HWS⟩ := hrel
    go_wp2_with (first
      | (at_next; refine wpList_next_ranges _ rfl _ rfl 3 law3 (plainElem Tryd.prog 4) (Value.int .i64) bv (fun key kl hk => keyInt hk) elemBool b w1.heap.size l.length _ _ _ rfl HRG.out ?_ ?_)
      | go_in)
    · intro hc0 hl0
      have hmem : ∀ x : Int, x ∈ ss ↔ tgtB l x = true := fun x => by rw [HCO.out.2 x, hl0, HT.out.2.1]; simp
      have HST := Aside0.mk (sort_eq l ss HCO.out.1 hmem)
      have HLE := Aside0.mk (show (tgts l).length = ss.length by rw [← HST.out]; simp)
      have HSS := Aside0.mk (show ss.length ≤ 1000 by have := HCS.out; have := HSZ.out; have := HLN.out; omega)
      clear hmem hl0 hc0
      rcases HRW.out.2 with ⟨hv, h0⟩ | ⟨g, cap, cur, hv, hbase, hb, h1, h2, h3, h4⟩
      · subst hv
        have hss : ss = [] := List.eq_nil_of_length_eq_zero h0
        have HSE := Aside0.mk hss
        clear hss h0
        go_wp2_with (go_at_call 67; refine (Tryd.slices_Sort_int_none none 0 _).mono ?_; rintro e w' ⟨rfl, rfl⟩)
        go_ret
        refine ⟨_, rfl, ?_, HB1.out⟩
        have := HLE.out
        rw [HSE.out] at this
        rw [List.eq_nil_of_length_eq_zero this]
        exact World.ownsRow_nil _ _ _ _
      · subst hv
        have hH : Holds (Value.int .i64) wr g 0 ss.toArray := holds_of_blockI hb (by simpa using h4)
        have hgl : g < wr.heap.size := (Array.getElem?_eq_some_iff.1 hb).1
        have HH := Aside0.mk hH
        have HOW := Aside0.mk (show ∀ (n : Nat) (os : Array Obj), (grow (putRow (Value.int .i64) (Sort.ahead wr n) g 0 (tgts l).toArray) os).ownsRow w.heap.size 3 1 (.slice (some ⟨g, 0, none⟩) ss.length cap) ss.length ((tgts l).map (Value.int .i64)) from fun n os => ownsRow_sortedI HLE.out hbase hb h1 h2 h3)
        have HGB := Aside0.mk hbase
        have HGL := Aside0.mk hgl
        clear hH hb h1 h2 h3 h4 hbase hgl
        go_wp2_with (go_at_call 67; refine (Tryd.slices_Sort_int g 0 cap ss _ HH.out HGL.out (by have := HSS.out; omega)).mono ?_; rintro e w' ⟨rfl, nn, os, rfl⟩; rw [HST.out])
        go_ret
        refine ⟨_, rfl, ?_, HB1.out.grown (grownBy_sortedI _) HB1.out.size (fun j hj => by cases hj; exact HGB.out)⟩
        rw [HLE.out]
        exact HOW.out nn os
    · intro x c kl yd yp w2 cnt2 hkey hlk hv hat hrg2 hlt hg2 hs2 hen
      have hkl : kl = .int .i64 x := by
        obtain ⟨x', ex, rfl, _⟩ := Maps.keyOf_int_inv Tryd.underlying3 hkey
        cases ex
        rfl
      subst hkl
      have HRW2 := Aside0.mk (HRW.out.kept hg2 (Or.inr (row_ne_iter HRW.out HRG.out).symm))
      have HRG2 := Aside0.mk hrg2
      have HG2 := Aside0.mk hg2
      have HLT := Aside0.mk hlt
      have HCO2 := Aside0.mk (HCO.out.step hlk hat)
      have HS2 := Aside0.mk (show w1.heap.size ≤ w2.heap.size from Nat.le_trans HWS.out hg2.size)
      have HB2 := Aside0.mk (HB1.out.grown hg2 HB1.out.size (fun j hj => by cases hj; exact HSW.out))
      have HN1 := Aside0.mk (show ss.length + 1 ≤ 1001 by have := HCS.out; have := HSZ.out; have := HLN.out; omega)
      clear hs2 hrg2 hg2 hlt hkey hlk hv hat
      go_wp2_with (first
        | (at_builtin; refine wpList_append_own _ rfl _ _ 42 rfl w.heap.size 3 i0 (.int .i64 0) 1 8 Tryd.underlying42 hi hz0 hz1 hz2 rfl (by decide) _ _ _ rfl (HRW2.out.alloc _) ⟨w2.heap.size, 0, none⟩ 1 1 [.int .i64 x] rfl rfl (cell_one_new _ _ _) (by simp [Value.oneCell']) (by have := HN1.out; unfold maxLen; omega) (by have := HN1.out; omega) (by have := HB2.out.size; simp; omega) ?_; intro v' w3 hown' hg3 hnil3; go_frame)
        | go_in)
      have hrg3 := (HRG2.out.alloc (.cells #[.int .i64 x] 3)).kept hg3 (row_ne_map HRW2.out HRG2.out.owns) (row_ne_iter HRW2.out HRG2.out)
      go_roundw
      case rel =>
        refine ⟨_, cnt2, ss ++ [x], ⟨hrg3⟩, ⟨by have := HCS.out; have := HLT.out; simp; omega⟩, ⟨by simpa using hown'⟩, ⟨HCO2.out⟩, ⟨?_⟩, ⟨?_⟩⟩
        · exact (HB2.out.alloc HB2.out.size _).grown hg3 (by have := HB2.out.size; simp; omega) (fun j hj => (HRW2.out.lt j hj).1)
        · have := hg3.size
          have := HS2.out
          simp at *
          omega
      case measure => rw [hrg3.left_eq, HRG.out.left_eq]; exact HLT.out
theorem listing_Targets.calls (A0_0 : Option Addr) (c0_0 : Nat) (l0_0 : List Int) (a0_1 : Int) (r : List Int) (w : World) (hGK : GK w) (hr0_0 : Kd.C (Kd.int .u32) w A0_0 l0_0.length l0_0) (hc0_0 : l0_0.length ≤ c0_0) (h : listing_Targets.f l0_0 a0_1 = some r) :
    Calls Tryd.prog 35 #[.agg #[.slice A0_0 l0_0.length c0_0, .int .i64 a0_1]] w fun e w' => ∃ v0_ : Value, e = .returned (v0_) ∧ Kd.R (Kd.int .i64) 3 w' w.heap.size (fun _ => True) v0_ r ∧ Below w.heap.size w w' := by
  unfold listing_Targets.f at h
  split at h
  · rename_i hl
    obtain rfl := Option.some.inj h
    refine (targets_sorted A0_0 c0_0 l0_0 a0_1 w hGK hr0_0 hc0_0 hl).mono ?_
    rintro e w' ⟨v, rfl, ho, hb⟩
    exact ⟨v, rfl, Kd.R_of_own (enc := Value.int .i64) (h1 := fun _ => rfl) ho (fun _ _ => trivial), hb⟩
  · cases h
end Go.Proofs.YtdhkmdgieflioaaDoor.F
