/- Texts of this claim: contracts of functions that the law reaches, and plain lemmas. -/
import Derived.OrdersHeld
import Derived.Deep.RegionHeld3
import Derived.Laws.BitsLemmas
import Derived.RowKit
import Derived.Laws.StructEq
import Derived.Test.YtdhkmdgieflioaaDoorProg
import Derived.Below
import Derived.Deep.Draws
import Derived.Deep.AppendLies
import Derived.Maps.AppendAt
import Derived.OwnWalk
import Derived.Laws.BytesArg
import Derived.Laws.MakeOwn
import Derived.Laws.OwnMore
import Derived.Deep.OwnRows
import Derived.Tactics
import Derived.Lib.ConvBytes
import Derived.Laws.Slices
import Derived.WalkKit
import Derived.KernelRfl
import Derived.RowKit3
import Derived.Deep.LoopGhost
import Derived.Deep.QuietTactic
import Derived.BigQuiet
import Derived.WideLaws
import Derived.Deep.DeepCutAuto
import Derived.Deep.CutBlock
import Derived.Laws.Rows
import Derived.Lib.AppendStr
import Derived.ArgAppend
import Derived.Laws.IdiomCopy
import Derived.Lib.SmallJoins
import Derived.Lib.LaidTab
import Derived.Shelf.LaysM
import Derived.Lib.ItoaMem
import Derived.ChangeShapes
import Derived.Shelf.Strings.Builder1
import Derived.Shelf.Strings.Builder2
import Derived.Shelf.Strings.OnBuilder
import Derived.Shelf.Small.Strs
import Derived.Shelf.Small.Wraps
import Derived.Shelf.Strings.BuilderF
import Derived.Shelf.Strings.BuilderK
import Derived.Shelf.Strings.Builder2Cap
import Derived.Shelf.Strconv.Itoa0
import Derived.Shelf.Strconv.Itoa1
import Derived.Shelf.Strconv.Itoa2
import Derived.Shelf.Strconv.Itoa3
import Derived.Shelf.Strings.Search1
import Derived.Shelf.Strings.Prefix
import Derived.Shelf.Strings.BuilderCap
import Derived.Outline
import Derived.WalkLawsBesides
import Derived.WalkSpells
import Derived.RegionTactic
import Derived.Lib.OthersKept
import Derived.Laws.RangeString
import Derived.Lib.AppendIntMem
import Derived.Lib.ItoaLen
import Derived.Test.YtdhkmdgieflioaaDoorA0
namespace Go.Proofs.YtdhkmdgieflioaaDoorW.PrintLast
section
variable {P : Program} {ops : Array Oper} {Q : Exit → Act → World → Prop} {md : Region.Mode} {S : World → Prop} {ds : List Nat}
def Region.reachB (md : Region.Mode) (ops : Array Oper) (i : Nat) : Nat → Nat → Bool
  | 0, _ => false
  | fuel + 1, d => match ops[d]? with
    | some o => o.after.any fun e => Region.binds md e && (e.on == i || Region.reachB md ops i fuel e.on)
    | none => false
def Region.closedB (md : Region.Mode) (ops : Array Oper) (listed : Array Bool) : Bool :=
  (List.range ops.size).all fun j => !listed.getD j false || match ops[j]? with
    | some o => o.after.all fun e => !Region.binds md e || listed.getD e.on false
    | none => true
def Region.lastB (md : Region.Mode) (ops : Array Oper) (listed : Array Bool) (ds : List Nat) (i : Nat) : Bool :=
  ds.all fun d => listed.getD d true || Region.reachB md ops i ops.size d
def ListedClosed (md : Region.Mode) (ops : Array Oper) (listed : Array Bool) : Prop :=
  ∀ j oj, ops[j]? = some oj → listed.getD j false = true → ∀ e ∈ oj.after, Region.binds md e = true → listed.getD e.on false = true
theorem Region.closedB_spec {listed : Array Bool} (h : Region.closedB md ops listed = true) : ListedClosed md ops listed := by
  intro j oj hj hl e he hb
  have hlt : j < ops.size := (Array.getElem?_eq_some_iff.1 hj).1
  have h1 := List.all_eq_true.1 h j (List.mem_range.2 hlt)
  simp only [hl, hj, Bool.not_true, Bool.false_or] at h1
  have h2 := Array.all_eq_true_iff_forall_mem.1 h1 e he
  simpa [hb] using h2
theorem ListedClosed.set {listed : Array Bool} {i : Nat} (h : ListedClosed md ops listed) (hi : i ∈ Region.ready md ops listed) : ListedClosed md ops (listed.setIfInBounds i true) := by
  obtain ⟨_, oi, hoi, hall⟩ := mem_ready.1 hi
  intro j oj hj hl e he hb
  by_cases hij : i = j
  · subst hij
    have : oj = oi := Option.some.inj (hj.symm.trans hoi)
    subst this
    exact getD_set_true (hall e he hb)
  · rw [getD_set_ne false hij] at hl
    exact getD_set_true (h j oj hj hl e he hb)
theorem Region.reach_listed {listed : Array Bool} {i : Nat} (hc : ListedClosed md ops listed) : ∀ (fuel d : Nat), Region.reachB md ops i fuel d = true → listed.getD d false = true → listed.getD i false = true
  | 0, _, h, _ => by simp [Region.reachB] at h
  | fuel + 1, d, h, hl => by
    unfold Region.reachB at h
    cases ho : ops[d]? with
    | none => rw [ho] at h; simp at h
    | some o =>
      rw [ho] at h
      obtain ⟨e, he, h1⟩ := Array.any_eq_true'.1 h
      simp only [Bool.and_eq_true, Bool.or_eq_true, beq_iff_eq] at h1
      have hle := hc d o ho hl e he h1.1
      rcases h1.2 with h2 | h2
      · rw [← h2]; exact hle
      · exact Region.reach_listed hc fuel e.on h2 hle
theorem Region.reach_not_ready {listed : Array Bool} {i d fuel : Nat} (hc : ListedClosed md ops listed) (hr : Region.reachB md ops i fuel d = true) (hun : listed.getD i true = false) : d ∉ Region.ready md ops listed := by
  intro hd
  obtain ⟨_, o, ho, hall⟩ := mem_ready.1 hd
  have hi : listed.getD i false = true := by
    cases fuel with
    | zero => simp [Region.reachB] at hr
    | succ n =>
      unfold Region.reachB at hr
      rw [ho] at hr
      obtain ⟨e, he, h1⟩ := Array.any_eq_true'.1 hr
      simp only [Bool.and_eq_true, Bool.or_eq_true, beq_iff_eq] at h1
      have hle := hall e he h1.1
      rcases h1.2 with h2 | h2
      · rw [← h2]; exact hle
      · exact Region.reach_listed hc n e.on h2 hle
  rcases Nat.lt_or_ge i listed.size with h' | h'
  · simp [h'] at hun hi
    rw [hun] at hi
    cases hi
  · simp [Array.getElem?_eq_none h'] at hun
def wpAnyLast (P : Program) (md : Region.Mode) (ops : Array Oper) (Q : Exit → Act → World → Prop) (S : World → Prop) (ds : List Nat) : Nat → Array Bool → Act → World → Prop
  | 0, listed, a, w => Region.ready md ops listed = [] ∧ Q .normal a w
  | fuel + 1, listed, a, w =>
    (Region.ready md ops listed = [] → Q .normal a w) ∧
    ∀ i ∈ Region.ready md ops listed, wpOp P ops Q i (fun a' w' => (i ∉ ds → S w → S w') ∧ wpAnyLast P md ops Q S ds fuel (listed.setIfInBounds i true) a' w') a w
theorem wpAny_of_last : ∀ (fuel : Nat) (listed : Array Bool) (a : Act) (w : World), wpAnyLast P md ops Q S ds fuel listed a w → wpAny P md ops Q fuel listed a w
  | 0, _, _, _, h => h
  | fuel + 1, _, _, _, h => ⟨h.1, fun i hi => wpOp_mono (fun a' w' h' => wpAny_of_last fuel _ a' w' h'.2) (h.2 i hi)⟩
theorem wpAnyLast_first {i : Nat} {oi : Oper} {v : Value} (hi : ops[i]? = some oi) (hsel : ∀ (j : Nat) (o : Oper) cs b, ops[j]? = some o → o.op ≠ .select cs b)
    (hQ : ∀ c a w, Q (.panic c) (a.put oi.dst v) w → Q (.panic c) a w) (n : Nat) :
    ∀ (fuel : Nat) (listed : Array Bool) (a : Act) (w : World),
      (∀ j oj, ops[j]? = some oj → j ≠ i → listed.getD j true = false → (∀ e ∈ oj.after, Region.binds md e = true → e.on ≠ i) → oi.apart ops oj = true) →
      ListedClosed md ops listed → (∀ d ∈ ds, listed.getD d true = false → Region.reachB md ops i n d = true) →
      i ∈ Region.ready md ops listed → YieldsIf P ops S oi v a → S w →
      wpAnyLast P md ops Q S ds fuel (listed.setIfInBounds i true) (a.put oi.dst v) w → wpAnyLast P md ops Q S ds (fuel + 1) listed a w := by
  intro fuel
  induction fuel with
  | zero =>
    intro listed a w _ _ _ hr hy hS H
    refine ⟨fun h => (by rw [h] at hr; cases hr), fun j hj => ?_⟩
    by_cases hji : j = i
    · subst hji; exact hy.wpOp hi hS ⟨fun _ h => h, H⟩
    · have := ready_mono hj hji
      rw [H.1] at this
      cases this
  | succ fuel ih =>
    intro listed a w hfree hc hd hr hy hS H
    refine ⟨fun h => (by rw [h] at hr; cases hr), fun j hj => ?_⟩
    by_cases hji : j = i
    · subst hji; exact hy.wpOp hi hS ⟨fun _ h => h, H⟩
    · have h1 := H.2 j (ready_mono hj hji)
      obtain ⟨hjun, oj, hoj, hall⟩ := mem_ready.1 hj
      have hiun := (mem_ready.1 hr).1
      have hnot : ∀ e ∈ oj.after, Region.binds md e = true → e.on ≠ i := fun e he hb heq => by
        have h1 := hall e he hb
        rw [heq] at h1
        rcases Nat.lt_or_ge i listed.size with h' | h'
        · simp [h'] at hiun h1; rw [hiun] at h1; cases h1
        · simp [Array.getElem?_eq_none h'] at h1
      have hjd : j ∉ ds := fun hm => Region.reach_not_ready hc (hd j hm hjun) hiun hj
      have h2 := wpOp_putIf hoj (hfree j oj hoj hji hjun hnot) (fun cs b => hsel i oi cs b hi) (fun cs b => hsel j oj cs b hoj) hQ hy h1
      have hfree' : ∀ k ok, ops[k]? = some ok → k ≠ i → (listed.setIfInBounds j true).getD k true = false →
          (∀ e ∈ ok.after, Region.binds md e = true → e.on ≠ i) → oi.apart ops ok = true := fun k ok hk hki hun hno => by
        refine hfree k ok hk hki ?_ hno
        by_cases hjk : j = k
        · subst hjk; exact hjun
        · rw [getD_set_ne true hjk] at hun; exact hun
      have hd' : ∀ d ∈ ds, (listed.setIfInBounds j true).getD d true = false → Region.reachB md ops i n d = true := fun d hm hun => by
        refine hd d hm ?_
        by_cases hjk : j = d
        · subst hjk; exact hjun
        · rw [getD_set_ne true hjk] at hun; exact hun
      refine wpOp_mono (fun a' w' h3 => ⟨h3.2.1, ih (listed.setIfInBounds j true) a' w' hfree' (hc.set hj) hd' (ready_mono hr (Ne.symm hji)) h3.1 (h3.2.1 hjd hS) ?_⟩) h2
      rw [Array.setIfInBounds_comm _ _ hji]
      exact h3.2.2
theorem wpAnyLast_any {i : Nat} {oi : Oper} {v : Value} (hi : ops[i]? = some oi) (hsel : ∀ (j : Nat) (o : Oper) cs b, ops[j]? = some o → o.op ≠ .select cs b)
    (hQ : ∀ c a w, Q (.panic c) (a.put oi.dst v) w → Q (.panic c) a w) :
    ∀ (fuel : Nat) (listed : Array Bool) (a : Act) (w : World),
      (∀ j oj, ops[j]? = some oj → j ≠ i → listed.getD j true = false → (∀ e ∈ oj.after, Region.binds md e = true → e.on ≠ i) → oi.apart ops oj = true) →
      i ∈ Region.ready md ops listed → Yields P ops oi v a →
      wpAnyLast P md ops Q S ds fuel (listed.setIfInBounds i true) (a.put oi.dst v) w → wpAnyLast P md ops Q S ds (fuel + 1) listed a w := by
  intro fuel
  induction fuel with
  | zero =>
    intro listed a w _ hr hy H
    refine ⟨fun h => (by rw [h] at hr; cases hr), fun j hj => ?_⟩
    by_cases hji : j = i
    · subst hji; exact (hy.yieldsIf (S := fun _ => True)).wpOp hi trivial ⟨fun _ h => h, H⟩
    · have := ready_mono hj hji
      rw [H.1] at this
      cases this
  | succ fuel ih =>
    intro listed a w hfree hr hy H
    refine ⟨fun h => (by rw [h] at hr; cases hr), fun j hj => ?_⟩
    by_cases hji : j = i
    · subst hji; exact (hy.yieldsIf (S := fun _ => True)).wpOp hi trivial ⟨fun _ h => h, H⟩
    · have h1 := H.2 j (ready_mono hj hji)
      obtain ⟨hjun, oj, hoj, hall⟩ := mem_ready.1 hj
      have hiun := (mem_ready.1 hr).1
      have hnot : ∀ e ∈ oj.after, Region.binds md e = true → e.on ≠ i := fun e he hb heq => by
        have h1 := hall e he hb
        rw [heq] at h1
        rcases Nat.lt_or_ge i listed.size with h' | h'
        · simp [h'] at hiun h1; rw [hiun] at h1; cases h1
        · simp [Array.getElem?_eq_none h'] at h1
      have h2 := wpOp_put hoj (hfree j oj hoj hji hjun hnot) (fun cs b => hsel i oi cs b hi) (fun cs b => hsel j oj cs b hoj) hQ hy h1
      have hfree' : ∀ k ok, ops[k]? = some ok → k ≠ i → (listed.setIfInBounds j true).getD k true = false →
          (∀ e ∈ ok.after, Region.binds md e = true → e.on ≠ i) → oi.apart ops ok = true := fun k ok hk hki hun hno => by
        refine hfree k ok hk hki ?_ hno
        by_cases hjk : j = k
        · subst hjk; exact hjun
        · rw [getD_set_ne true hjk] at hun; exact hun
      refine wpOp_mono (fun a' w' h3 => ⟨h3.2.1, ih (listed.setIfInBounds j true) a' w' hfree' (ready_mono hr (Ne.symm hji)) h3.1 ?_⟩) h2
      rw [Array.setIfInBounds_comm _ _ hji]
      exact h3.2.2
theorem wpAnyLast_take {i : Nat} {oi : Oper} {v : Value} {fuel : Nat} {listed : Array Bool} {a : Act} {w : World} (hi : ops[i]? = some oi)
    (hs : Region.noSelect ops = true) (hf : Region.free md ops listed i = true) (hr : (Region.ready md ops listed).contains i = true)
    (hc : Region.closedB md ops listed = true) (hl : Region.lastB md ops listed ds i = true)
    (hQ : ∀ c a w, Q (.panic c) (a.put oi.dst v) w → Q (.panic c) a w) (hy : YieldsIf P ops S oi v a) (hS : S w)
    (h : wpAnyLast P md ops Q S ds fuel (listed.setIfInBounds i true) (a.put oi.dst v) w) : wpAnyLast P md ops Q S ds (fuel + 1) listed a w :=
  wpAnyLast_first hi (Region.noSelect_spec hs) hQ ops.size fuel listed a w (Region.free_spec hi hf) (Region.closedB_spec hc)
    (fun d hm hun => by have := List.all_eq_true.1 hl d hm; rw [hun] at this; simpa using this) (by simpa using hr) hy hS h
theorem wpAnyLast_all {rs : List Nat} {fuel : Nat} {listed : Array Bool} {a : Act} {w : World} (hr : Region.ready md ops listed = rs) (hne : rs ≠ [])
    (h : ∀ i ∈ rs, wpOp P ops Q i (fun a' w' => (i ∉ ds → S w → S w') ∧ wpAnyLast P md ops Q S ds fuel (listed.setIfInBounds i true) a' w') a w) : wpAnyLast P md ops Q S ds (fuel + 1) listed a w :=
  ⟨fun h0 => absurd (hr ▸ h0) hne, hr ▸ h⟩
theorem wpAnyLast_done {listed : Array Bool} {a : Act} {w : World} (hr : Region.ready md ops listed = []) (h : Q .normal a w) :
    ∀ fuel, wpAnyLast P md ops Q S ds fuel listed a w
  | 0 => ⟨hr, h⟩
  | _ + 1 => ⟨fun _ => h, by rw [hr]; simp⟩
theorem wp_region_last {id : Nat} {a : Act} {w : World} (hm : P.follows .mixedOrders = true)
    (h : wpAnyLast P .any ops Q S ds ops.size (Array.replicate ops.size false) a { w with drawn := w.drawn + 1 }) : (Code.region id ops true).wp P Q a w :=
  wp_region_any hm (wpAny_of_last _ _ _ _ h)
end
section
variable {P : Program} {ops : Array Oper} {Q : Exit → Act → World → Prop} {md : Region.Mode} {S : World → Prop} {ds : List Nat}
def AllReadyL (P : Program) (md : Region.Mode) (ops : Array Oper) (Q : Exit → Act → World → Prop) (S : World → Prop) (ds : List Nat) (fuel : Nat) (listed : Array Bool) (a : Act) (w : World) (rs : List Nat) : Prop :=
  ∀ i ∈ rs, wpOp P ops Q i (fun a' w' => (i ∉ ds → S w → S w') ∧ wpAnyLast P md ops Q S ds fuel (listed.setIfInBounds i true) a' w') a w
theorem AllReadyL.nil {fuel : Nat} {listed : Array Bool} {a : Act} {w : World} : AllReadyL P md ops Q S ds fuel listed a w [] := fun _ h => by cases h
theorem AllReadyL.cons {fuel : Nat} {listed : Array Bool} {a : Act} {w : World} {i : Nat} {o : Oper} {rs : List Nat} (ho : ops[i]? = some o) (hd : i ∉ ds)
    (h : ∀ K' : Act → World → Prop, Shut (∀ a w, S w → (S w → wpAnyLast P md ops Q S ds fuel (listed.setIfInBounds i true) a w) → K' a w) → if Region.wanted o (yielded ops a.tmps) = true then Oper.wp P o a w K' Q else K' (a.put o.dst undef) w)
    (hs : AllReadyL P md ops Q S ds fuel listed a w rs) : AllReadyL P md ops Q S ds fuel listed a w (i :: rs) := fun j hj => by
  rcases List.mem_cons.1 hj with rfl | hj
  · exact wpOp_step ho (fun K' hK => h K' (fun a w hS hW => hK a w ⟨fun _ _ => hS, hW hS⟩))
  · exact hs j hj
theorem wpAnyLast_ready {rs : List Nat} {fuel : Nat} {listed : Array Bool} {a : Act} {w : World} (hr : Region.ready md ops listed = rs) (hne : rs ≠ [])
    (h : AllReadyL P md ops Q S ds fuel listed a w rs) : wpAnyLast P md ops Q S ds (fuel + 1) listed a w := wpAnyLast_all hr hne h
theorem start_ {id n : Nat} {a : Act} {w : World} (l : Array Bool) (hm : P.follows .mixedOrders = true) (hn : ops.size = n) (hl : Array.replicate n false = l) (hS : S w.drew)
    (h : S w.drew → wpAnyLast P .any ops Q S ds n l a w.drew) : (Code.region id ops true).wp P Q a w := by
  subst hn
  subst hl
  exact wp_region_last hm (h hS)
def takeB (md : Region.Mode) (ops : Array Oper) (ds : List Nat) (l l' : Array Bool) (i : Nat) : Bool :=
  Region.noSelect ops && Region.free md ops l i && (Region.ready md ops l).contains i && Region.closedB md ops l && Region.lastB md ops l ds i && (l.setIfInBounds i true == l')
theorem take_ {i : Nat} {N : Option Tmp} {oi : Oper} {v : Value} {fuel : Nat} {l : Array Bool} {a : Act} {w : World} (l' : Array Bool) (hi : ops[i]? = some oi) (hN : oi.dst = N) (hc : takeB md ops ds l l' i = true)
    (hQ : ∀ c a w, Q (.panic c) (a.put oi.dst v) w → Q (.panic c) a w) (hy : YieldsIf P ops S oi v a) (hS : S w) {a' : Act} (ha : a.put N v = a')
    (h : wpAnyLast P md ops Q S ds fuel l' a' w) : wpAnyLast P md ops Q S ds (fuel + 1) l a w := by
  subst ha
  subst hN
  simp only [takeB, Bool.and_eq_true, beq_iff_eq] at hc
  obtain ⟨⟨⟨⟨⟨h1, h2⟩, h3⟩, h4⟩, h5⟩, h6⟩ := hc
  subst h6
  exact wpAnyLast_take hi h1 h2 h3 h4 h5 hQ hy hS h
def anyB (md : Region.Mode) (ops : Array Oper) (l l' : Array Bool) (i : Nat) : Bool :=
  Region.noSelect ops && Region.free md ops l i && (Region.ready md ops l).contains i && (l.setIfInBounds i true == l')
theorem pure_ {i : Nat} {N : Option Tmp} {oi : Oper} {v : Value} {fuel : Nat} {l : Array Bool} {a : Act} {w : World} (l' : Array Bool) (hi : ops[i]? = some oi) (hN : oi.dst = N) (hc : anyB md ops l l' i = true)
    (hQ : ∀ c a w, Q (.panic c) (a.put oi.dst v) w → Q (.panic c) a w) (hy : Yields P ops oi v a) {a' : Act} (ha : a.put N v = a')
    (h : wpAnyLast P md ops Q S ds fuel l' a' w) : wpAnyLast P md ops Q S ds (fuel + 1) l a w := by
  subst ha
  subst hN
  simp only [anyB, Bool.and_eq_true, beq_iff_eq] at hc
  obtain ⟨⟨⟨h1, h2⟩, h3⟩, h6⟩ := hc
  subst h6
  exact wpAnyLast_any hi (Region.noSelect_spec h1) hQ fuel l a w (Region.free_spec hi h2) (by simpa using h3) hy h
def readyB (md : Region.Mode) (ops : Array Oper) (l l' : Array Bool) (i : Nat) : Bool := (Region.ready md ops l == [i]) && (l.setIfInBounds i true == l')
theorem one_ {i : Nat} {N : Option Tmp} {oi : Oper} {fuel : Nat} {l : Array Bool} {a : Act} {w : World} (l' : Array Bool) (hi : ops[i]? = some oi) (hN : oi.dst = N) (hc : readyB md ops l l' i = true) (hd : i ∉ ds)
    (h : ∀ K : Act → World → Prop, Shut (∀ a' w', S w' → (S w' → wpAnyLast P md ops Q S ds fuel l' a' w') → K a' w') → if Region.wanted oi (yielded ops a.tmps) = true then Oper.wp P oi a w K Q else K (a.put N undef) w) :
    wpAnyLast P md ops Q S ds (fuel + 1) l a w := by
  subst hN
  simp only [readyB, Bool.and_eq_true, beq_iff_eq] at hc
  obtain ⟨h1, h2⟩ := hc
  subst h2
  exact wpAnyLast_ready h1 (by simp) (AllReadyL.cons hi hd (fun K hK => h K hK) AllReadyL.nil)
theorem done_ {l : Array Bool} {a : Act} {w : World} {n : Nat} (hr : (Region.ready md ops l == []) = true) (h : Q .normal a w) : wpAnyLast P md ops Q S ds n l a w := wpAnyLast_done (by simpa using hr) h n
theorem norm_ {fuel : Nat} {l : Array Bool} {a a' : Act} {w : World} (ha : a = a') (h : wpAnyLast P md ops Q S ds fuel l a' w) : wpAnyLast P md ops Q S ds fuel l a w := by
  subst ha
  exact h
theorem call_ {oi : Oper} {N : Option Tmp} {a : Act} {w : World} {K : Act → World → Prop} (f : FuncId) (args : Array Value) (hw : Region.wanted oi (yielded ops a.tmps) = true) (hN : oi.dst = N) (hrun : (execOp a.eval oi).run P w = .ok (.enter f args) w)
    (h : Calls P f args w fun e w' => ∃ v, e = .returned v ∧ K (a.put N v) w') : if Region.wanted oi (yielded ops a.tmps) = true then Oper.wp P oi a w K Q else K (a.put N undef) w := by
  rw [if_pos hw]
  subst hN
  unfold Oper.wp
  rw [hrun, Oper.upon_enter]
  refine h.mono fun e w'' hh => ?_
  obtain ⟨v, rfl, hk⟩ := hh
  exact hk
theorem enters_ {f : FuncId} {fn : Func} (hf : P.funcs[f]? = some fn) (hname : (fn.name == "runtime.NumGoroutine") = false) (hb : fn.body.isSome = true) (args : Array Value) (w : World) : (callFunc f args).run P w = .ok (.enter f args) w := by
  have h1 : fn.name ≠ "runtime.NumGoroutine" := by simpa using hname
  obtain ⟨c, hc⟩ := Option.isSome_iff_exists.1 hb
  simp [callFunc, hf, h1, hc]
theorem goes_ {oi : Oper} {N : Option Tmp} {a : Act} {w : World} {K : Act → World → Prop} {f : FuncId} {fn : Func} {as0 : Array Operand} {ts : Array TypeId} (hf : P.funcs[f]? = some fn) (hname : (fn.name == "runtime.NumGoroutine") = false) (hb : fn.body.isSome = true) (args : Array Value)
    (hw : Region.wanted oi (yielded ops a.tmps) = true) (hN : oi.dst = N) (hop : oi.op = .call { callee := .value (.func f), args := as0, argTypes := ts }) (hargs : as0.map a.eval = args)
    (h : Calls P f args w fun e w' => ∃ v, e = .returned v ∧ K (a.put N v) w') : if Region.wanted oi (yielded ops a.tmps) = true then Oper.wp P oi a w K Q else K (a.put N undef) w := by
  refine call_ f args hw hN ?_ h
  have he := enters_ hf hname hb args w
  unfold execOp
  simp [hop, resolve, Deferred.ofValue, invoke, Act.eval, hargs, he]
theorem goesL_ {rest : List Oper} {oi : Oper} {a : Act} {w : World} (N : Option Tmp) (hd : oi.dst = N) (hg : oi.guard = none) {f : FuncId} {fn : Func} {as0 : Array Operand} {ts : Array TypeId} (hf : P.funcs[f]? = some fn) (hname : (fn.name == "runtime.NumGoroutine") = false) (hb : fn.body.isSome = true) (args : Array Value)
    (hop : oi.op = .call { callee := .value (.func f), args := as0, argTypes := ts }) (hargs : as0.map a.eval = args)
    (h : Calls P f args w fun e w' => ∃ v, e = .returned v ∧ wpList P ops Q rest (a.put N v) w') : wpList P ops Q (oi :: rest) a w := by
  refine wpList_plain hg fun K hK => ?_
  have he := enters_ hf hname hb args w
  have hrun : (execOp a.eval oi).run P w = .ok (.enter f args) w := by
    unfold execOp
    simp [hop, resolve, Deferred.ofValue, invoke, Act.eval, hargs, he]
  unfold Oper.wp
  rw [hrun, Oper.upon_enter]
  refine h.mono fun e w'' hh => ?_
  obtain ⟨v, rfl, hk⟩ := hh
  subst hd
  exact hK _ _ hk
theorem i64_w (n : Int) : IntKind.i64.wrap n = Go.RowKit.wrap64 n := by unfold Go.RowKit.wrap64; exact IntKind.wrap_i64 n
theorem i32_w (n : Int) : IntKind.i32.wrap n = Go.RowKit.wrap32 n := by unfold Go.RowKit.wrap32; exact IntKind.wrap_i32 n
end
end Go.Proofs.YtdhkmdgieflioaaDoorW.PrintLast
namespace Go.Proofs.YtdhkmdgieflioaaDoorW.PrintLast
open Go.Proofs.YtdhkmdgieflioaaDoorW.PrintWords (Aside0)
def needsOf (md : Region.Mode) (o : Oper) : List Nat := (o.after.toList.filter (fun e => Region.binds md e)).map (fun e => e.on)
def clashOf (md : Region.Mode) (ops : Array Oper) (i : Nat) (oi : Oper) : List Nat := (List.range ops.size).filter fun j => !(j == i) && match ops[j]? with
  | some oj => !(oj.after.any (fun e => Region.binds md e && e.on == i) || oi.apart ops oj)
  | none => false
def rtab (md : Region.Mode) (ops : Array Oper) : Bool × List (List Nat × List Nat) := (Region.noSelect ops, (List.range ops.size).map fun i => match ops[i]? with
  | some o => (needsOf md o, clashOf md ops i o)
  | none => ([], []))
def readyAt (T : List (List Nat × List Nat)) (l : List Bool) (i : Nat) : Bool := !l.getD i true && match T[i]? with
  | some r => r.1.all (fun j => l.getD j false)
  | none => false
def readyT (T : List (List Nat × List Nat)) (l : List Bool) : List Nat := (List.range T.length).filter (readyAt T l)
def freeT (T : List (List Nat × List Nat)) (l : List Bool) (i : Nat) : Bool := match T[i]? with
  | some r => r.2.all (fun j => l.getD j true)
  | none => false
def closedT (T : List (List Nat × List Nat)) (l : List Bool) : Bool := (List.range T.length).all fun j => !l.getD j false || match T[j]? with
  | some r => r.1.all (fun k => l.getD k false)
  | none => true
def reachT (T : List (List Nat × List Nat)) (i : Nat) : Nat → Nat → Bool
  | 0, _ => false
  | fuel + 1, d => match T[d]? with
    | some r => r.1.any fun j => j == i || reachT T i fuel j
    | none => false
def lastT (T : List (List Nat × List Nat)) (l : List Bool) (ds : List Nat) (i : Nat) : Bool := ds.all fun d => l.getD d true || reachT T i T.length d
section
variable {md : Region.Mode} {ops : Array Oper} {T : Bool × List (List Nat × List Nat)} {l l' li lj lk : Array Bool} {ds : List Nat} {i j k : Nat}
theorem gd (l : Array Bool) (j : Nat) (b : Bool) : l.getD j b = l.toList.getD j b := by simp [Array.getD_eq_getD_getElem?, List.getD_eq_getElem?_getD]
theorem needs_all (o : Oper) (p : Nat → Bool) : o.after.all (fun e => !Region.binds md e || p e.on) = (needsOf md o).all p := by
  unfold needsOf
  rw [← Array.all_toList]
  induction o.after.toList with
  | nil => rfl
  | cons e r ih =>
    rw [List.all_cons, ih, List.filter_cons]
    cases h : Region.binds md e <;> simp
theorem needs_any (o : Oper) (p : Nat → Bool) : o.after.any (fun e => Region.binds md e && p e.on) = (needsOf md o).any p := by
  unfold needsOf
  rw [← Array.any_toList]
  induction o.after.toList with
  | nil => rfl
  | cons e r ih =>
    rw [List.any_cons, ih, List.filter_cons]
    cases h : Region.binds md e <;> simp
theorem rtab_length : (rtab md ops).2.length = ops.size := by simp [rtab]
theorem rtab_some {o : Oper} (h : ops[i]? = some o) : (rtab md ops).2[i]? = some (needsOf md o, clashOf md ops i o) := by
  have hi := (Array.getElem?_eq_some_iff.1 h).1
  unfold rtab
  rw [List.getElem?_map, List.getElem?_range hi, Option.map_some, h]
theorem rtab_none (h : ops[i]? = none) : (rtab md ops).2[i]? = none := by
  have hi : ops.size ≤ i := Array.getElem?_eq_none_iff.1 h
  exact List.getElem?_eq_none (by rw [rtab_length]; exact hi)
theorem readyAt_eq : readyAt (rtab md ops).2 l.toList i = (!l.getD i true && ((ops[i]?).map (·.after.all fun e => !Region.binds md e || l.getD e.on false)).getD false) := by
  unfold readyAt
  rw [gd]
  cases h : ops[i]? with
  | none => rw [rtab_none h]; rfl
  | some o =>
    rw [rtab_some h]
    simp only [Option.map_some, Option.getD_some]
    rw [← needs_all]
    simp only [gd]
theorem ready_eq : Region.ready md ops l = readyT (rtab md ops).2 l.toList := by
  unfold Region.ready readyT
  rw [rtab_length]
  refine List.filter_congr (fun i _ => ?_)
  rw [readyAt_eq]
theorem free_eq : Region.free md ops l i = freeT (rtab md ops).2 l.toList i := by
  unfold Region.free freeT
  cases h : ops[i]? with
  | none => rw [rtab_none h]
  | some oi =>
    rw [rtab_some h]
    simp only [clashOf]
    rw [List.all_filter]
    congr 1
    funext j
    rw [gd]
    cases hj : ops[j]? with
    | none => cases (j == i) <;> cases (l.toList.getD j true) <;> simp
    | some oj =>
      cases (j == i) <;> cases (l.toList.getD j true) <;> cases (oj.after.any (fun e => Region.binds md e && e.on == i) || oi.apart ops oj) <;> simp_all
theorem closed_eq : Region.closedB md ops l = closedT (rtab md ops).2 l.toList := by
  unfold Region.closedB closedT
  rw [rtab_length]
  congr 1
  funext j
  rw [gd]
  cases h : ops[j]? with
  | none => rw [rtab_none h]
  | some o =>
    rw [rtab_some h]
    simp only
    rw [← needs_all]
    simp only [gd]
theorem reach_eq : ∀ (fuel d : Nat), Region.reachB md ops i fuel d = reachT (rtab md ops).2 i fuel d
  | 0, _ => rfl
  | fuel + 1, d => by
    unfold Region.reachB reachT
    cases h : ops[d]? with
    | none => rw [rtab_none h]
    | some o =>
      rw [rtab_some h]
      simp only
      rw [← needs_any]
      congr 1
      funext e
      rw [reach_eq fuel]
theorem last_eq : Region.lastB md ops l ds i = lastT (rtab md ops).2 l.toList ds i := by
  unfold Region.lastB lastT
  rw [rtab_length]
  congr 1
  funext d
  rw [gd, reach_eq]
theorem readyAt_mem (h : readyAt T.2 l.toList i = true) (hT : rtab md ops = T) : (Region.ready md ops l).contains i = true := by
  subst hT
  rw [ready_eq]
  unfold readyT
  rw [List.contains_iff_mem, List.mem_filter, List.mem_range]
  refine ⟨?_, h⟩
  unfold readyAt at h
  rw [Bool.and_eq_true] at h
  cases hq : (rtab md ops).2[i]? with
  | none => rw [hq] at h; simp at h
  | some r => exact (List.getElem?_eq_some_iff.1 hq).1
theorem set_of (h : (l.toList.set i true == l'.toList) = true) : (l.setIfInBounds i true == l') = true := by
  rw [beq_iff_eq] at h ⊢
  apply Array.ext'
  rw [Array.toList_setIfInBounds]
  exact h
def anyT (T : Bool × List (List Nat × List Nat)) (l l' : List Bool) (i : Nat) : Bool := T.1 && freeT T.2 l i && readyAt T.2 l i && (l.set i true == l')
theorem any_of (hT : rtab md ops = T) (h : anyT T l.toList l'.toList i = true) : anyB md ops l l' i = true := by
  simp only [anyT, Bool.and_eq_true] at h
  obtain ⟨⟨⟨h1, h2⟩, h3⟩, h4⟩ := h
  have h5 := readyAt_mem h3 hT
  have h6 := set_of h4
  subst hT
  simp only [anyB, Bool.and_eq_true]
  exact ⟨⟨⟨h1, by rw [free_eq]; exact h2⟩, h5⟩, h6⟩
def takeT (T : Bool × List (List Nat × List Nat)) (ds : List Nat) (l l' : List Bool) (i : Nat) : Bool := T.1 && freeT T.2 l i && readyAt T.2 l i && closedT T.2 l && lastT T.2 l ds i && (l.set i true == l')
theorem take_of (hT : rtab md ops = T) (h : takeT T ds l.toList l'.toList i = true) : takeB md ops ds l l' i = true := by
  simp only [takeT, Bool.and_eq_true] at h
  obtain ⟨⟨⟨⟨⟨h1, h2⟩, h3⟩, h4⟩, h5⟩, h6⟩ := h
  have h7 := readyAt_mem h3 hT
  have h8 := set_of h6
  subst hT
  simp only [takeB, Bool.and_eq_true]
  exact ⟨⟨⟨⟨⟨h1, by rw [free_eq]; exact h2⟩, h7⟩, by rw [closed_eq]; exact h4⟩, by rw [last_eq]; exact h5⟩, h8⟩
theorem one_of (hT : rtab md ops = T) (h : (readyT T.2 l.toList == [i] && l.toList.set i true == l'.toList) = true) : readyB md ops l l' i = true := by
  simp only [Bool.and_eq_true] at h
  obtain ⟨h1, h2⟩ := h
  subst hT
  simp only [readyB, Bool.and_eq_true]
  exact ⟨by rw [ready_eq]; exact h1, set_of h2⟩
theorem done_of (hT : rtab md ops = T) (h : (readyT T.2 l.toList == []) = true) : (Region.ready md ops l == []) = true := by
  subst hT
  rw [ready_eq]
  exact h
def upM (B : List Nat) (d : Nat) : List Nat → Nat
  | [] => 0
  | n :: r => (2 ^ n ||| (if n < d then B.getD n 0 else 0)) ||| upM B d r
def waitsOk (T : List (List Nat × List Nat)) (B : List Nat) : Bool := (List.range T.length).all fun d => match T[d]? with
  | some r => (B.getD d 0 ||| upM B d r.1) == upM B d r.1
  | none => false
theorem upM_bit {B : List Nat} {d i : Nat} : ∀ {ns : List Nat}, (upM B d ns).testBit i = true → ∃ n ∈ ns, n = i ∨ (n < d ∧ (B.getD n 0).testBit i = true)
  | [], h => by simp [upM] at h
  | n :: r, h => by
    unfold upM at h
    rw [Nat.testBit_or, Nat.testBit_or, Bool.or_eq_true, Bool.or_eq_true] at h
    rcases h with (h | h) | h
    · rw [Nat.testBit_two_pow] at h
      exact ⟨n, List.mem_cons_self, .inl (by simpa using h)⟩
    · by_cases hn : n < d
      · rw [if_pos hn] at h
        exact ⟨n, List.mem_cons_self, .inr ⟨hn, h⟩⟩
      · rw [if_neg hn] at h
        simp at h
    · obtain ⟨m, hm, h2⟩ := upM_bit h
      exact ⟨m, List.mem_cons_of_mem _ hm, h2⟩
theorem reach_bit {T : List (List Nat × List Nat)} {B : List Nat} (hB : waitsOk T B = true) : ∀ (fuel d : Nat), d < fuel → d < T.length → (B.getD d 0).testBit i = true → reachT T i fuel d = true
  | 0, d, h, _, _ => by omega
  | fuel + 1, d, h, hd, hb => by
    have h1 := List.all_eq_true.1 hB d (List.mem_range.2 hd)
    cases hr : T[d]? with
    | none => rw [hr] at h1; simp at h1
    | some r =>
      rw [hr] at h1
      simp only [beq_iff_eq] at h1
      have h2 : (upM B d r.1).testBit i = true := by rw [← h1, Nat.testBit_or, hb, Bool.true_or]
      obtain ⟨n, hn, h3⟩ := upM_bit h2
      unfold reachT
      rw [hr]
      simp only
      rw [List.any_eq_true]
      refine ⟨n, hn, ?_⟩
      rcases h3 with rfl | ⟨h4, h5⟩
      · simp
      · rw [reach_bit hB fuel n (by omega) (by omega) h5, Bool.or_true]
def lastW (T : List (List Nat × List Nat)) (B : List Nat) (l : List Bool) (ds : List Nat) (i : Nat) : Bool := ds.all fun d => l.getD d true || (decide (d < T.length) && (B.getD d 0).testBit i)
def takeW (T : Bool × List (List Nat × List Nat)) (B : List Nat) (ds : List Nat) (l l' : List Bool) (i : Nat) : Bool := T.1 && freeT T.2 l i && readyAt T.2 l i && closedT T.2 l && lastW T.2 B l ds i && (l.set i true == l')
theorem take_ofW {B : List Nat} (hT : rtab md ops = T) (hB : waitsOk T.2 B = true) (h : takeW T B ds l.toList l'.toList i = true) : takeB md ops ds l l' i = true := by
  refine take_of hT ?_
  simp only [takeW, takeT, Bool.and_eq_true] at h ⊢
  obtain ⟨⟨⟨⟨⟨h1, h2⟩, h3⟩, h4⟩, h5⟩, h6⟩ := h
  refine ⟨⟨⟨⟨⟨h1, h2⟩, h3⟩, h4⟩, ?_⟩, h6⟩
  unfold lastW at h5
  unfold lastT
  rw [List.all_eq_true] at h5 ⊢
  intro d hd
  have h7 := h5 d hd
  rw [Bool.or_eq_true, Bool.and_eq_true, decide_eq_true_eq] at h7
  rcases h7 with h7 | ⟨h8, h9⟩
  · rw [h7, Bool.true_or]
  · rw [reach_bit hB _ d h8 h8 h9, Bool.or_true]
theorem with_tabW {P : Program} {Q : Exit → Act → World → Prop} {S : World → Prop} {n : Nat} {a : Act} {w : World} {B : List Nat} (hT : rtab md ops = T) (hB : waitsOk T.2 B = true) (h : Aside0 (rtab md ops = T) → Aside0 (waitsOk T.2 B = true) → wpAnyLast P md ops Q S ds n l a w) : wpAnyLast P md ops Q S ds n l a w := h ⟨hT⟩ ⟨hB⟩
end
def opsIn : Code → Nat → Option (Array Oper)
  | .region id ops _, k => if id == k then some ops else none
  | .seq a b, k => match opsIn a k with
    | some o => some o
    | none => opsIn b k
  | .cond _ a b, k => match opsIn a k with
    | some o => some o
    | none => opsIn b k
  | .block _ c, k => opsIn c k
  | .loop c, k => opsIn c k
  | .scope c, k => opsIn c k
  | .rangeFunc _ _ a b, k => match opsIn a k with
    | some o => some o
    | none => opsIn b k
  | _, _ => none
def opsOf (f : Func) (k : Nat) : Array Oper := ((f.body.bind fun c => opsIn c k)).getD #[]
end Go.Proofs.YtdhkmdgieflioaaDoorW.PrintLast
namespace Go.Proofs.YtdhkmdgieflioaaDoorW.PrintLast
section
variable {P : Program} {ops : Array Oper} {Q : Exit → Act → World → Prop} {md : Region.Mode} {S : World → Prop} {ds : List Nat} {T : Bool × List (List Nat × List Nat)}
end
end Go.Proofs.YtdhkmdgieflioaaDoorW.PrintLast
namespace Go.Proofs.YtdhkmdgieflioaaDoorW.PrintWords
open Go.RowKit
namespace Kd
section
variable {α : Type} {d : Kd α} {e base g o n cap : Nat} {ok okp : Nat → Prop} {w W : World} {v : Value} {xs : List α}
end
section
variable {α : Type} {enc : α → Value} {h1 : ∀ x, (enc x).oneCell' = true} {e base g o n cap : Nat} {ok : Nat → Prop} {W : World} {xs : List α}
end
end Kd
end Go.Proofs.YtdhkmdgieflioaaDoorW.PrintWords
namespace Go.Proofs.YtdhkmdgieflioaaDoorW.PrintWords
open Go.RowKit
namespace Kd
def tag {α : Type} (f : Nat → Nat) (d : Kd α) : Kd (α × Nat) where
  sz := d.sz
  E := d.E
  K := fun w x cs => d.K w x.1 cs
  M := fun w base ok x cs => d.M w base (fun k => ok k ∧ f k = x.2) x.1 cs
  K_len := fun h => d.K_len h
  K_one := fun h => d.K_one h
  K_below := fun hb h => d.K_below hb h
  K_of_M := fun h => d.K_of_M h
  M_mono := fun hok h => d.M_mono (fun k hk => ⟨hok k hk.1, hk.2⟩) h
  M_bound := fun h => d.M_mono (fun _ hk => ⟨⟨hk.1.1, hk.2⟩, hk.1.2⟩) (d.M_bound h)
  M_move := fun hm h => d.M_move (fun k hk => hm k hk.1) h
  M_lower := fun hb h => d.M_lower hb h
def bare {α : Type} (d : Kd α) : Kd α where
  sz := d.sz
  E := d.E
  K := d.K
  M := fun w base _ x cs => d.M w base (fun _ => False) x cs
  K_len := fun h => d.K_len h
  K_one := fun h => d.K_one h
  K_below := fun hb h => d.K_below hb h
  K_of_M := fun h => d.K_of_M h
  M_mono := fun _ h => h
  M_bound := fun h => h
  M_move := fun _ h => d.M_move (fun _ hk => hk.elim) h
  M_lower := fun hb h => d.M_lower hb h
def raw (sz : Nat) : Kd (List Value) where
  sz := sz
  E := []
  K := fun _ x cs => cs = x ∧ cs.length = sz ∧ ∀ u ∈ cs, u.oneCell' = true
  M := fun _ _ _ x cs => cs = x ∧ cs.length = sz ∧ ∀ u ∈ cs, u.oneCell' = true
  K_len := fun h => h.2.1
  K_one := fun h => h.2.2
  K_below := fun _ h => h
  K_of_M := fun h => h
  M_mono := fun _ h => h
  M_bound := fun h => h
  M_move := fun _ h => h
  M_lower := fun _ h => h
def S {α : Type} (d : Kd α) (e : Nat) (w : World) (base : Nat) (ok : Nat → Prop) (v : Value) (xs : List α) : Prop := ∃ f, (tag f d).R e w base ok v xs.zipIdx
section
variable {α β : Type} {d : Kd α} {d' : Kd β} {e e' : Nat} {w w1 W : World} {base b : Nat} {ok ok' okv oku : Nat → Prop} {u v : Value} {xs : List α} {ys : List β}
end
section
variable {α β : Type} {d : Kd α} {d' : Kd β} {e e' g : Nat} {w w1 W : World} {base b : Nat} {ok ok' okv oku : Nat → Prop} {u v : Value} {xs : List α} {ys : List β}
end
section
variable {P : Program} {ops : Array Oper} {rest : List Oper} {o : Oper} {a : Act} {Q : Exit → Act → World → Prop} {Kc : Act → World → Prop} {α : Type}
end
def gap {α : Type} (f : Nat → Nat) (d : Kd α) (i : Nat) (c : List Value) : Kd (α × Nat) where
  sz := d.sz
  E := d.E
  K := fun w x cs => (x.2 = i → cs = c ∧ cs.length = d.sz ∧ ∀ u ∈ cs, u.oneCell' = true) ∧ (x.2 ≠ i → d.K w x.1 cs)
  M := fun w base ok x cs => (x.2 = i → cs = c ∧ cs.length = d.sz ∧ ∀ u ∈ cs, u.oneCell' = true) ∧ (x.2 ≠ i → d.M w base (fun k => ok k ∧ f k = x.2) x.1 cs)
  K_len := fun {w x cs} h => by
    by_cases hx : x.2 = i
    · exact (h.1 hx).2.1
    · exact d.K_len (h.2 hx)
  K_one := fun {w x cs} h => by
    by_cases hx : x.2 = i
    · exact (h.1 hx).2.2
    · exact d.K_one (h.2 hx)
  K_below := fun hb h => ⟨h.1, fun hx => d.K_below hb (h.2 hx)⟩
  K_of_M := fun h => ⟨h.1, fun hx => d.K_of_M (h.2 hx)⟩
  M_mono := fun hok h => ⟨h.1, fun hx => d.M_mono (fun k hk => ⟨hok k hk.1, hk.2⟩) (h.2 hx)⟩
  M_bound := fun h => ⟨h.1, fun hx => d.M_mono (fun _ hk => ⟨⟨hk.1.1, hk.2⟩, hk.1.2⟩) (d.M_bound (h.2 hx))⟩
  M_move := fun hm h => ⟨h.1, fun hx => d.M_move (fun k hk => hm k hk.1) (h.2 hx)⟩
  M_lower := fun hb h => ⟨h.1, fun hx => d.M_lower hb (h.2 hx)⟩
def H {α : Type} (d : Kd α) (e : Nat) (w : World) (base : Nat) (ok : Nat → Prop) (v : Value) (xs : List α) (i : Int) (oki : Nat → Prop) (c : List Value) : Prop :=
  (∀ k, oki k → ok k) ∧ ∃ f, (gap f d i.toNat c).R e w base (fun k => ok k ∧ ¬ oki k) v xs.zipIdx
section
variable {α β : Type} {d : Kd α} {e e' g n cap : Nat} {w w1 W : World} {base : Nat} {ok ok' oki okp : Nat → Prop} {u v : Value} {xs : List α} {i : Int} {c : List Value}
end
section
variable {P : Program} {ops : Array Oper} {rest : List Oper} {o : Oper} {a : Act} {Q : Exit → Act → World → Prop} {α : Type}
end
end Kd
end Go.Proofs.YtdhkmdgieflioaaDoorW.PrintWords
namespace Go.Proofs.YtdhkmdgieflioaaDoorW.PrintWords
open Go.RowKit
namespace Kd
section
variable {α : Type} {n : Nat} {d : Kd α} {hs : 0 < d.sz} {w : World} {base : Nat} {ok : Nat → Prop} {xs : List α} {cs : List Value}
end
section
variable {α : Type} {n : Nat} {enc : α → Value} {h1 : ∀ x, (enc x).oneCell' = true} {hs : 0 < (scalar enc h1).sz} {w : World} {base : Nat} {ok : Nat → Prop} {xs : List α} {cs : List Value}
end
end Kd
end Go.Proofs.YtdhkmdgieflioaaDoorW.PrintWords
namespace Go.Proofs.YtdhkmdgieflioaaDoorW.PrintWords
open Go.RowKit
section
variable {P : Program}
end
namespace Kd
section
variable {P : Program} {ops : Array Oper} {rest : List Oper} {o : Oper} {a : Act} {Q : Exit → Act → World → Prop} {Kc : Act → World → Prop} {α : Type}
end
section
variable {α : Type} {d : Kd α} {e : Nat} {w : World} {base : Nat} {ok : Nat → Prop} {v : Value} {xs : List α}
end
section
variable {P : Program} {ops : Array Oper} {rest : List Oper} {o : Oper} {a : Act} {Q : Exit → Act → World → Prop} {Kc : Act → World → Prop} {α : Type}
end
end Kd
end Go.Proofs.YtdhkmdgieflioaaDoorW.PrintWords
namespace Go.Proofs.YtdhkmdgieflioaaDoorW.PrintWords
open Go.RowKit
namespace Kd
structure Heap {α : Type} (d : Kd α) : Prop where
  K : ∀ {w w1 : World} {x : α} {cs : List Value}, (∀ k, k < w.heap.size → w1.heap[k]? = w.heap[k]?) → d.K w x cs → d.K w1 x cs
theorem cell_heap {w w1 : World} (hb : ∀ k, k < w.heap.size → w1.heap[k]? = w.heap[k]?) {a : Addr} {v : Value} (h : w.cell? a = some v) : w1.cell? a = some v := by
  have := hb a.block (World.block_lt_of_cell? w a h)
  simpa [World.cell?, this] using h
theorem Heap.C {α : Type} {d : Kd α} (hd : Heap d) {w w1 : World} {A : Option Addr} {n : Nat} {xs : List α} (hb : ∀ k, k < w.heap.size → w1.heap[k]? = w.heap[k]?) (h : d.C w A n xs) : d.C w1 A n xs :=
  ⟨h.1, h.2.1, fun hn => by
    obtain ⟨ad, e, hc⟩ := h.2.2 hn
    refine ⟨ad, e, fun j p hj => ?_⟩
    obtain ⟨c, hs, hr, hcell⟩ := hc j p hj
    exact ⟨c, hs, hd.K hb hr, fun i u hu => cell_heap hb (hcell i u hu)⟩⟩
section
variable {α : Type} {d : Kd α} {e base g n c : Nat} {ok : Nat → Prop} {w w0 W : World} {A : Option Addr} {xs : List α}
end
end Kd
end Go.Proofs.YtdhkmdgieflioaaDoorW.PrintWords
namespace Go.Proofs.YtdhkmdgieflioaaDoorW.PrintWords
open Go.RowKit
def Kept (w W : World) (S : Nat → Prop) : Prop := w.heap.size ≤ W.heap.size ∧ ∀ i, i < w.heap.size → ¬ S i → W.heap[i]? = w.heap[i]?
section
variable {w W W2 : World} {S S2 S' : Nat → Prop}
theorem Kept.refl (w : World) (S : Nat → Prop) : Kept w w S := ⟨Nat.le_refl _, fun _ _ _ => rfl⟩
theorem Kept.of_below (h : Below w.heap.size w W) (S : Nat → Prop) : Kept w W S := ⟨h.size, fun i hi _ => h.block i hi⟩
theorem Kept.mono (h : Kept w W S) (hs : ∀ k, S k → S' k) : Kept w W S' := ⟨h.1, fun i hi hn => h.2 i hi (fun hk => hn (hs i hk))⟩
theorem Kept.then_ (h : Kept w W S) (k : Kept W W2 S2) (hs : ∀ k, S2 k → S k ∨ w.heap.size ≤ k) : Kept w W2 S :=
  ⟨Nat.le_trans h.1 k.1, fun i hi hn => (k.2 i (Nat.lt_of_lt_of_le hi h.1) (fun h2 => (hs i h2).elim hn (fun h3 => by omega))).trans (h.2 i hi hn)⟩
theorem Kept.below (h : Kept w W S) (hb : Below W.heap.size W W2) : Kept w W2 S := h.then_ (Kept.of_below hb (fun _ => False)) (fun _ hk => hk.elim)
theorem Kept.alloc (h : Kept w W S) (o : Obj) : Kept w (W.alloc o) S := h.below (below_alloc (Below.refl _ _) o)
theorem Kept.drew (h : Kept w W S) : Kept w W.drew S := h
theorem Kept.drewN (h : Kept w W S) (m : Nat) : Kept w (W.drewN m) S := h
theorem Kept.setCell (h : Kept w W S) {p : Addr} (hp : S p.block ∨ w.heap.size ≤ p.block) (u : Value) : Kept w (W.setCell p u) S :=
  h.then_ (S2 := fun k => k = p.block) ⟨by simp [World.setCell], fun i _ hn => Below.heap_setCell W p u i hn⟩ (fun k hk => by rw [hk]; exact hp)
end
namespace Kd
section
variable {α : Type} {d : Kd α} {e base n c : Nat} {ok oki S S2 : Nat → Prop} {w w0 W W1 W2 : World} {v : Value} {A : Option Addr} {xs : List α} {i : Int} {cs : List Value}
end
end Kd
end Go.Proofs.YtdhkmdgieflioaaDoorW.PrintWords
namespace Go.Proofs.YtdhkmdgieflioaaDoorW.PrintWords
open Go.RowKit
def Foot (P : World → Prop) (W : World) (ok : Nat → Prop) : Prop := ∀ W' : World, (∀ k, ok k → k < W.heap.size → W'.heap[k]? = W.heap[k]?) → P W'
theorem heap_lt {W W1 : World} {k : Nat} (h : W1.heap[k]? = W.heap[k]?) (hlt : k < W.heap.size) : k < W1.heap.size := by
  rw [Array.getElem?_eq_getElem hlt] at h
  exact (Array.getElem?_eq_some_iff.1 h).1
namespace Foot
variable {P Q : World → Prop} {W W1 : World} {ok ok' : Nat → Prop}
theorem now (h : Foot P W ok) : P W := h W (fun _ _ _ => rfl)
theorem mono (h : Foot P W ok) (hok : ∀ k, ok k → ok' k) : Foot P W ok' := fun W' hW => h W' (fun k hk hlt => hW k (hok k hk) hlt)
theorem step (h : Foot P W ok) (hm : ∀ k, ok k → k < W.heap.size → W1.heap[k]? = W.heap[k]?) : Foot P W1 ok := fun W' hW => h W' (fun k hk hlt => (hW k hk (heap_lt (hm k hk hlt) hlt)).trans (hm k hk hlt))
end Foot
namespace Kd
def F {α : Type} (d : Kd α) (W : World) (ok : Nat → Prop) (A : Option Addr) (n : Nat) (xs : List α) : Prop := Foot (fun W => d.C W A n xs) W ok
def FK {α : Type} (d : Kd α) (W : World) (ok : Nat → Prop) (x : α) (c : List Value) : Prop := Foot (fun W => d.K W x c) W ok
section
variable {α β : Type} {d : Kd α} {e base n n' cc g N : Nat} {ok ok' okp S : Nat → Prop} {w w0 w1 W W1 : World} {A A' : Option Addr} {u v v1 : Value} {xs : List α} {xs' : List β} {d' : Kd β} {x : α} {c : List Value}
end
end Kd
end Go.Proofs.YtdhkmdgieflioaaDoorW.PrintWords
namespace Go.Proofs.YtdhkmdgieflioaaDoorW.PrintWords
open Go.RowKit
namespace Kd
section
variable {α : Type} {d : Kd α} {e base n cc g : Nat} {ok ok' okp S : Nat → Prop} {w w1 W W1 : World} {A : Option Addr} {u v v1 : Value} {xs : List α} {x : α} {c : List Value}
def N {α : Type} (d : Kd α) (e : Nat) (w : World) (base : Nat) (ok : Nat → Prop) (v : Value) (xs : List α) : Prop :=
  (∀ k, v.ownBlock = some k → ok k) ∧ ∃ rows : List (List Value), rows.length = xs.length ∧ (raw d.sz).R e w base (fun k => some k = v.ownBlock) v rows ∧ ∀ (j : Nat) (x : α) (c : List Value), xs[j]? = some x → rows[j]? = some c → FK d w (fun k => ok k ∧ some k ≠ v.ownBlock) x c
end
end Kd
end Go.Proofs.YtdhkmdgieflioaaDoorW.PrintWords
namespace Go.Proofs.YtdhkmdgieflioaaDoorW.PrintWords
open Go.RowKit
namespace Kd
section
variable {α : Type} {d : Kd α} {W : World} {g n : Nat} {S ok : Nat → Prop} {A : Option Addr} {ad : Addr} {xs : List α}
end
end Kd
end Go.Proofs.YtdhkmdgieflioaaDoorW.PrintWords
namespace Go.Proofs.YtdhkmdgieflioaaDoorW.PrintWords
open Go.RowKit
section
variable {w w' u : World} {m B g : Nat} {o : Obj} {row : Option Nat} {S : Nat → Prop} {a : Addr} {v : Value}
end
namespace Kd
section
variable {α : Type} {d : Kd α} {e base n m : Nat} {ok : Nat → Prop} {w w' : World} {v : Value} {A : Option Addr} {xs : List α}
end
end Kd
end Go.Proofs.YtdhkmdgieflioaaDoorW.PrintWords
namespace Go.Proofs.YtdhkmdgieflioaaDoorW.PrintWords
open Go.RowKit
section
variable {P : Program} {d : Nat} {xs ys : Array Value} {f : Field} {fs : List Field} {a b : Value} {r s : Bool} {w : World}
theorem eqf_last (hn : (f.name == "_") = false) (ha : (part f.type xs f.offset).run P w = .ok a w) (hb : (part f.type ys f.offset).run P w = .ok b w) (he : (Op.equalIn d f.type a b).run P w = .ok r w) : (Op.eqFields d xs ys [f]).run P w = .ok r w := by
  have hn' : f.name ≠ "_" := by simpa using hn
  simp only [Op.eqFields, if_pos hn', Sem.run_bind, ha, hb, he, Result.andThen_ok]
  cases r <;> simp
theorem eqf_cons (hn : (f.name == "_") = false) (ha : (part f.type xs f.offset).run P w = .ok a w) (hb : (part f.type ys f.offset).run P w = .ok b w) (he : (Op.equalIn d f.type a b).run P w = .ok r w) (hr : (Op.eqFields d xs ys fs).run P w = .ok s w) : (Op.eqFields d xs ys (f :: fs)).run P w = .ok (r && s) w := by
  have hn' : f.name ≠ "_" := by simpa using hn
  rw [Op.eqFields]
  simp only [if_pos hn', Sem.run_bind, ha, hb, he, Result.andThen_ok]
  cases r
  · simp
  · simpa using hr
theorem eqA_of {t : TypeId} {fs : Array Field} (hu : P.underlying t = some (.struct fs)) (hp : P.stoodInHeld t = false) (h : (Op.eqFields d xs ys fs.toList).run P w = .ok r w) : (Op.equalIn (d + 1) t (.agg xs) (.agg ys)).run P w = .ok r w := by
  have hf : P.fieldsOf t = fs := by simp [Program.fieldsOf, hu]
  rw [run_equalIn_struct (P := P) w d t xs ys (by rw [hf]; exact hu) hp, hf]
  exact h
end
end Go.Proofs.YtdhkmdgieflioaaDoorW.PrintWords
namespace Go.Proofs.YtdhkmdgieflioaaDoorW.PrintWords
theorem Reps.one {α : Type} {R : α → List Value → Prop} {ps : List α} {cs : List Value} {p : α} {v : Value} (hp : R p [v]) (h : Reps R 1 ps cs) : Reps R 1 (p :: ps) (v :: cs) := by
  refine ⟨by simp [h.1], fun j q hq => ?_⟩
  cases j with
  | zero =>
    simp only [List.getElem?_cons_zero, Option.some.injEq] at hq
    subst hq
    simpa using hp
  | succ j =>
    simp only [List.getElem?_cons_succ] at hq
    have h1 := h.2 j q hq
    simpa [Nat.mul_one] using h1
theorem Reps.front {α : Type} {R : α → List Value → Prop} {size : Nat} {ps : List α} {cs c all : List Value} {p : α} (hp : R p c) (hc : c.length = size) (h : Reps R size ps cs) (ha : c ++ cs = all) : Reps R size (p :: ps) all := by
  subst ha
  refine ⟨by rw [List.length_append, hc, h.1, List.length_cons, Nat.succ_mul, Nat.add_comm], fun j q hq => ?_⟩
  cases j with
  | zero =>
    simp only [List.getElem?_cons_zero, Option.some.injEq] at hq
    subst hq
    rw [Nat.zero_mul, List.drop_zero, List.take_append_of_le_length (by omega), List.take_of_length_le (by omega)]
    exact hp
  | succ j =>
    simp only [List.getElem?_cons_succ] at hq
    have h1 := h.2 j q hq
    rw [Nat.succ_mul, List.drop_append, List.drop_of_length_le (by rw [hc]; exact Nat.le_add_left _ _), List.nil_append, hc, Nat.add_sub_cancel]
    exact h1
theorem Reps.c2 {α : Type} {R : α → List Value → Prop} {ps : List α} {cs : List Value} {p : α} {va vb : Value} (hp : R p [va, vb]) (h : Reps R 2 ps cs) : Reps R 2 (p :: ps) (va :: vb :: cs) := Reps.front hp rfl h rfl
theorem Reps.c3 {α : Type} {R : α → List Value → Prop} {ps : List α} {cs : List Value} {p : α} {va vb vc : Value} (hp : R p [va, vb, vc]) (h : Reps R 3 ps cs) : Reps R 3 (p :: ps) (va :: vb :: vc :: cs) := Reps.front hp rfl h rfl
theorem Reps.c4 {α : Type} {R : α → List Value → Prop} {ps : List α} {cs : List Value} {p : α} {va vb vc vd : Value} (hp : R p [va, vb, vc, vd]) (h : Reps R 4 ps cs) : Reps R 4 (p :: ps) (va :: vb :: vc :: vd :: cs) := Reps.front hp rfl h rfl
theorem Reps.c5 {α : Type} {R : α → List Value → Prop} {ps : List α} {cs : List Value} {p : α} {va vb vc vd ve : Value} (hp : R p [va, vb, vc, vd, ve]) (h : Reps R 5 ps cs) : Reps R 5 (p :: ps) (va :: vb :: vc :: vd :: ve :: cs) := Reps.front hp rfl h rfl
theorem Reps.c6 {α : Type} {R : α → List Value → Prop} {ps : List α} {cs : List Value} {p : α} {va vb vc vd ve vf : Value} (hp : R p [va, vb, vc, vd, ve, vf]) (h : Reps R 6 ps cs) : Reps R 6 (p :: ps) (va :: vb :: vc :: vd :: ve :: vf :: cs) := Reps.front hp rfl h rfl
theorem Reps.c7 {α : Type} {R : α → List Value → Prop} {ps : List α} {cs : List Value} {p : α} {va vb vc vd ve vf vg : Value} (hp : R p [va, vb, vc, vd, ve, vf, vg]) (h : Reps R 7 ps cs) : Reps R 7 (p :: ps) (va :: vb :: vc :: vd :: ve :: vf :: vg :: cs) := Reps.front hp rfl h rfl
theorem Reps.c8 {α : Type} {R : α → List Value → Prop} {ps : List α} {cs : List Value} {p : α} {va vb vc vd ve vf vg vh : Value} (hp : R p [va, vb, vc, vd, ve, vf, vg, vh]) (h : Reps R 8 ps cs) : Reps R 8 (p :: ps) (va :: vb :: vc :: vd :: ve :: vf :: vg :: vh :: cs) := Reps.front hp rfl h rfl
theorem Reps.c9 {α : Type} {R : α → List Value → Prop} {ps : List α} {cs : List Value} {p : α} {va vb vc vd ve vf vg vh vi : Value} (hp : R p [va, vb, vc, vd, ve, vf, vg, vh, vi]) (h : Reps R 9 ps cs) : Reps R 9 (p :: ps) (va :: vb :: vc :: vd :: ve :: vf :: vg :: vh :: vi :: cs) := Reps.front hp rfl h rfl
theorem Reps.c10 {α : Type} {R : α → List Value → Prop} {ps : List α} {cs : List Value} {p : α} {va vb vc vd ve vf vg vh vi vj : Value} (hp : R p [va, vb, vc, vd, ve, vf, vg, vh, vi, vj]) (h : Reps R 10 ps cs) : Reps R 10 (p :: ps) (va :: vb :: vc :: vd :: ve :: vf :: vg :: vh :: vi :: vj :: cs) := Reps.front hp rfl h rfl
end Go.Proofs.YtdhkmdgieflioaaDoorW.PrintWords
namespace Go.Proofs.YtdhkmdgieflioaaDoorW.PrintLast
def up (b : Nat → Bool) (i : Nat) : Nat → Bool := fun j => if j = i then true else b j
section
variable {P : Program} {ops : Array Oper} {Q : Exit → Act → World → Prop} {md : Region.Mode} {T : Bool × List (List Nat × List Nat)} {B : List Nat} {O : List Nat} {b : Nat → Bool} {i j n : Nat}
end
end Go.Proofs.YtdhkmdgieflioaaDoorW.PrintLast
namespace Go.Proofs.YtdhkmdgieflioaaDoorW.PrintWords
open Go.RowKit
end Go.Proofs.YtdhkmdgieflioaaDoorW.PrintWords
namespace Go.Proofs.YtdhkmdgieflioaaDoorW.PrintLast
section
variable {ops : Array Oper} {a : Act} {o og : Oper} {g : Nat} {t : Tmp} {u : Bool}
end
end Go.Proofs.YtdhkmdgieflioaaDoorW.PrintLast
namespace Go.Proofs.YtdhkmdgieflioaaDoorW.PrintWords
open Go.RowKit
section
variable {P : Program} {ops : Array Oper} {rest : List Oper} {o : Oper} {a : Act} {Q : Exit → Act → World → Prop} {W : World}
end
end Go.Proofs.YtdhkmdgieflioaaDoorW.PrintWords
namespace Go.Proofs.YtdhkmdgieflioaaDoorW.PrintWords
open Go.RowKit
namespace Kd
section
variable {α : Type} {d : Kd α} {e base n cap g : Nat} {ok ok' okp : Nat → Prop} {w w1 W : World} {v v1 : Value} {xs ys : List α}
end
section
variable {P : Program} {ops : Array Oper} {rest : List Oper} {o : Oper} {a : Act} {Q : Exit → Act → World → Prop} {Kc : Act → World → Prop} {α : Type}
end
end Kd
end Go.Proofs.YtdhkmdgieflioaaDoorW.PrintWords
namespace Go.Proofs.YtdhkmdgieflioaaDoorW.PrintMore
open Go.RowKit Go.Proofs.YtdhkmdgieflioaaDoorW.PrintWords
namespace Kd
open Go.Proofs.YtdhkmdgieflioaaDoorW.PrintWords.Kd
end Kd
namespace Kd
open Go.Proofs.YtdhkmdgieflioaaDoorW.PrintWords.Kd
section
variable {α : Type} {d : Kd α} {e base g N : Nat} {ok : Nat → Prop} {W w1 : World} {u v : Value} {xs : List α}
end
end Kd
theorem max2_int (k k' : IntKind) (x y : Int) : Builtin.max2 (.int k x) (.int k' y) = pure (.int k (if x < y then y else x)) := by simp only [Builtin.max2, gt_iff_lt]
theorem min2_int (k k' : IntKind) (x y : Int) : Builtin.min2 (.int k x) (.int k' y) = pure (.int k (if y < x then y else x)) := by simp only [Builtin.min2]
theorem max_two (ats : Array TypeId) (ty : TypeId) (a b : Value) : Builtin.max_ ats ty #[a, b] = (Builtin.max2 a b >>= fun s => pure s) := by simp only [Builtin.max_, List.foldlM_cons, List.foldlM_nil]
theorem min_two (ats : Array TypeId) (ty : TypeId) (a b : Value) : Builtin.min_ ats ty #[a, b] = (Builtin.min2 a b >>= fun s => pure s) := by simp only [Builtin.min_, List.foldlM_cons, List.foldlM_nil]
theorem max_three (ats : Array TypeId) (ty : TypeId) (a b c : Value) : Builtin.max_ ats ty #[a, b, c] = (Builtin.max2 a b >>= fun s => Builtin.max2 s c >>= fun s => pure s) := by simp only [Builtin.max_, List.foldlM_cons, List.foldlM_nil]
theorem min_three (ats : Array TypeId) (ty : TypeId) (a b c : Value) : Builtin.min_ ats ty #[a, b, c] = (Builtin.min2 a b >>= fun s => Builtin.min2 s c >>= fun s => pure s) := by simp only [Builtin.min_, List.foldlM_cons, List.foldlM_nil]
theorem max_four (ats : Array TypeId) (ty : TypeId) (a b c d : Value) : Builtin.max_ ats ty #[a, b, c, d] = (Builtin.max2 a b >>= fun s => Builtin.max2 s c >>= fun s => Builtin.max2 s d >>= fun s => pure s) := by simp only [Builtin.max_, List.foldlM_cons, List.foldlM_nil]
theorem min_four (ats : Array TypeId) (ty : TypeId) (a b c d : Value) : Builtin.min_ ats ty #[a, b, c, d] = (Builtin.min2 a b >>= fun s => Builtin.min2 s c >>= fun s => Builtin.min2 s d >>= fun s => pure s) := by simp only [Builtin.min_, List.foldlM_cons, List.foldlM_nil]
end Go.Proofs.YtdhkmdgieflioaaDoorW.PrintMore
namespace Go.Proofs.YtdhkmdgieflioaaDoorW.PrintWords
open Go.RowKit
section
variable {P : Program} {ops : Array Oper} {rest : List Oper} {o : Oper} {a : Act} {Q : Exit → Act → World → Prop} {W : World}
theorem gate_callee {f : FuncId} {as0 : Array Operand} {ts : Array TypeId} (_ho : o.op = .call { callee := .value (.func f), args := as0, argTypes := ts }) (h : wpList P ops Q (o :: rest) a W) : wpList P ops Q (o :: rest) a W := h
theorem gate_builtin {b : Builtin} {xs : Array Operand} {ts : Array TypeId} (_ho : o.op = .call { callee := .builtin b, args := xs, argTypes := ts }) (h : wpList P ops Q (o :: rest) a W) : wpList P ops Q (o :: rest) a W := h
end
namespace Kd
section
variable {α : Type} {d : Kd α} {e base : Nat} {ok : Nat → Prop} {W w1 : World} {v : Value} {xs : List α}
end
section
variable {α : Type} {d : Kd α} {e base g n cap : Nat} {ok oki okp : Nat → Prop} {W : World} {xs : List α} {i : Int} {c : List Value}
end
section
variable {α : Type} {d : Kd α} {e base b b' g N : Nat} {ok ok1 : Nat → Prop} {W W2 w1 : World} {u v : Value} {xs ys : List α} {S : Nat → Prop}
end
end Kd
end Go.Proofs.YtdhkmdgieflioaaDoorW.PrintWords
namespace Go.Proofs.YtdhkmdgieflioaaDoorW.PrintWords
open Go.RowKit
namespace Kd
section
variable {α β : Type} {d : Kd α} {e base base' n m c g N' lo hi : Nat} {ok ok' S : Nat → Prop} {w W w1 : World} {A : Option Addr} {ad : Addr} {u v v1 : Value} {xs : List α}
end
end Kd
end Go.Proofs.YtdhkmdgieflioaaDoorW.PrintWords
namespace Go.Proofs.YtdhkmdgieflioaaDoor.F
open Go.RowKit Go.Proofs.YtdhkmdgieflioaaDoorW.PrintWords Go.Proofs.YtdhkmdgieflioaaDoorW.PrintLast Go.Proofs.YtdhkmdgieflioaaDoorW.PrintMore
attribute [local go_sem] max2_int min2_int max_two min_two max_three min_three max_four min_four
set_option linter.unusedVariables false
set_option linter.unusedSimpArgs false
def errW : Option Int → Value
  | none => .nilIface
  | some c => .iface 0 (.int .i64 c)
theorem errW_none : errW none = .nilIface := rfl
theorem errW_some (c : Int) : errW (some c) = .iface 0 (.int .i64 c) := rfl
theorem info3 : (Tryd.prog.info? 3).map (fun i => (i.zero, i.size, i.bytes)) = some (some (.int .i64 0), 1, 8) := by kernel_rfl
theorem info4 : (Tryd.prog.info? 4).map (fun i => (i.zero, i.size, i.bytes)) = some (some (.bool false), 1, 1) := by kernel_rfl
theorem info5 : (Tryd.prog.info? 5).map (fun i => (i.zero, i.size, i.bytes)) = some (some (.int .u8 0), 1, 1) := by kernel_rfl
theorem info9 : (Tryd.prog.info? 9).map (fun i => (i.zero, i.size, i.bytes)) = some (some (.string ⟨#[]⟩), 1, 16) := by kernel_rfl
theorem info46 : (Tryd.prog.info? 46).map (fun i => (i.zero, i.size, i.bytes)) = some (some (.agg #[(.int .i64 0), (.int .i64 0), (.int .i64 0), (.int .i64 0)]), 4, 32) := by kernel_rfl
theorem info47 : (Tryd.prog.info? 47).map (fun i => (i.zero, i.size, i.bytes)) = some (some (.int .u32 0), 1, 4) := by kernel_rfl
structure S46 where
  f0 : Int
  f1 : Int
  f2 : Int
  f3 : Int
def z46 : S46 := ⟨(0 : Int), (0 : Int), (0 : Int), (0 : Int)⟩
def k46 : Kd S46 := Kd.iso (Kd.pair (Kd.int .i64) (Kd.pair (Kd.int .i64) (Kd.pair (Kd.int .i64) (Kd.int .i64)))) (fun x : S46 => (x.f0, x.f1, x.f2, x.f3))
theorem k46_open {w : World} {x : S46} {cs : List Value} (h : k46.K w x cs) : cs = [.int .i64 x.f0, .int .i64 x.f1, .int .i64 x.f2, .int .i64 x.f3] := by
  obtain ⟨_, _, rfl, rfl, ⟨_, _, rfl, rfl, ⟨_, _, rfl, rfl, rfl⟩⟩⟩ := h
  exact rfl
theorem k46_openM {w : World} {base : Nat} {ok : Nat → Prop} {x : S46} {cs : List Value} (h : k46.M w base ok x cs) : cs = [.int .i64 x.f0, .int .i64 x.f1, .int .i64 x.f2, .int .i64 x.f3] := by
  obtain ⟨_, _, rfl, rfl, ⟨_, _, rfl, rfl, ⟨_, _, rfl, rfl, rfl⟩⟩⟩ := h
  exact rfl
theorem k46_mk (w : World) (x : S46)  : k46.K w x [.int .i64 x.f0, .int .i64 x.f1, .int .i64 x.f2, .int .i64 x.f3] := ⟨[.int .i64 x.f0], [.int .i64 x.f1, .int .i64 x.f2, .int .i64 x.f3], rfl, rfl, ⟨[.int .i64 x.f1], [.int .i64 x.f2, .int .i64 x.f3], rfl, rfl, ⟨[.int .i64 x.f2], [.int .i64 x.f3], rfl, rfl, rfl⟩⟩⟩
theorem k46_mkM (w : World) (base : Nat) (ok : Nat → Prop) (x : S46)  : k46.M w base ok x [.int .i64 x.f0, .int .i64 x.f1, .int .i64 x.f2, .int .i64 x.f3] := ⟨[.int .i64 x.f0], [.int .i64 x.f1, .int .i64 x.f2, .int .i64 x.f3], rfl, rfl, ⟨[.int .i64 x.f1], [.int .i64 x.f2, .int .i64 x.f3], rfl, rfl, ⟨[.int .i64 x.f2], [.int .i64 x.f3], rfl, rfl, rfl⟩⟩⟩
def rd_T46 (xs : List S46) (i : Int) : S46 := xs.getD i.toNat z46
theorem at_T46 {w : World} {A : Option Addr} {n : Nat} {xs : List S46} (h : Kd.C k46 w A n xs) (i : Int) (h0 : 0 ≤ i) (h1 : i < n) : ∃ ad , A = some ad ∧ w.cell? (ad.add (i.toNat * 4)) = some (.int .i64 (rd_T46 xs i).f0) ∧ w.cell? ⟨(ad.add (i.toNat * 4)).block, (ad.add (i.toNat * 4)).off + 1, none⟩ = some (.int .i64 (rd_T46 xs i).f1) ∧ w.cell? ⟨(ad.add (i.toNat * 4)).block, (ad.add (i.toNat * 4)).off + 2, none⟩ = some (.int .i64 (rd_T46 xs i).f2) ∧ w.cell? ⟨(ad.add (i.toNat * 4)).block, (ad.add (i.toNat * 4)).off + 3, none⟩ = some (.int .i64 (rd_T46 xs i).f3) := by
  obtain ⟨ad, c, e, _, hK, hc0⟩ := Kd.C_get h z46 i h0 h1
  have hc : ∀ j u, c[j]? = some u → w.cell? (ad.add (i.toNat * 4 + j)) = some u := hc0
  obtain rfl := k46_open hK
  exact ⟨ad, e, hc 0 _ rfl, by rw [← add_field _ _ 1 (by omega)]; exact hc 1 _ rfl, by rw [← add_field _ _ 2 (by omega)]; exact hc 2 _ rfl, by rw [← add_field _ _ 3 (by omega)]; exact hc 3 _ rfl⟩
def rd_L5 (xs : List (List Int)) (i : Int) : (List Int) := xs.getD i.toNat ([] : List Int)
theorem at_L5 {w : World} {A : Option Addr} {n : Nat} {xs : List (List Int)} (h : Kd.C (Kd.slice 47 (Kd.int .u32)) w A n xs) (i : Int) (h0 : 0 ≤ i) (h1 : i < n) : ∃ ad A0 c0, A = some ad ∧ w.cell? (ad.add i.toNat) = some (.slice A0 (rd_L5 xs i).length c0) ∧ (rd_L5 xs i).length ≤ c0 ∧ (Kd.int .u32).C w A0 (rd_L5 xs i).length (rd_L5 xs i) := by
  obtain ⟨ad, c, e, _, hK, hc0⟩ := Kd.C_get h ([] : List Int) i h0 h1
  have hc : ∀ j u, c[j]? = some u → w.cell? (ad.add (i.toNat * 1 + j)) = some u := hc0
  obtain ⟨A0, c0, rfl, l0, g0⟩ := hK
  exact ⟨ad, A0, c0, e, by have hq := hc 0 _ rfl; rwa [Nat.mul_one, Nat.add_zero] at hq, l0, g0⟩
structure S28 where
  f0 : (List Int)
  f1 : Int
def z28 : S28 := ⟨([] : List Int), (0 : Int)⟩
def k28 : Kd S28 := Kd.iso (Kd.pair (Kd.slice 47 (Kd.int .u32)) (Kd.int .i64)) (fun x : S28 => (x.f0, x.f1))
theorem k28_open {w : World} {x : S28} {cs : List Value} (h : k28.K w x cs) : ∃ A0 c0, cs = [.slice A0 x.f0.length c0, .int .i64 x.f1] ∧ x.f0.length ≤ c0 ∧ (Kd.int .u32).C w A0 x.f0.length x.f0 := by
  obtain ⟨_, _, rfl, ⟨A0, c0, rfl, l0, g0⟩, rfl⟩ := h
  exact ⟨A0, c0, rfl, l0, g0⟩
theorem k28_openM {w : World} {base : Nat} {ok : Nat → Prop} {x : S28} {cs : List Value} (h : k28.M w base ok x cs) : ∃ v0, cs = [v0, .int .i64 x.f1] ∧ (Kd.int .u32).R 47 w base ok v0 x.f0 := by
  obtain ⟨_, _, rfl, ⟨v0, rfl, g0⟩, rfl⟩ := h
  exact ⟨v0, rfl, g0⟩
theorem k28_mk (w : World) (x : S28) {A0 : Option Addr} {c0 : Nat} (l0 : x.f0.length ≤ c0) (g0 : (Kd.int .u32).C w A0 x.f0.length x.f0) : k28.K w x [.slice A0 x.f0.length c0, .int .i64 x.f1] := ⟨[.slice A0 x.f0.length c0], [.int .i64 x.f1], rfl, ⟨A0, c0, rfl, l0, g0⟩, rfl⟩
theorem k28_mkM (w : World) (base : Nat) (ok : Nat → Prop) (x : S28) {v0 : Value} (g0 : (Kd.int .u32).R 47 w base ok v0 x.f0) : k28.M w base ok x [v0, .int .i64 x.f1] := ⟨[v0], [.int .i64 x.f1], rfl, ⟨v0, rfl, g0⟩, rfl⟩
def rd_T28 (xs : List S28) (i : Int) : S28 := xs.getD i.toNat z28
theorem at_T28 {w : World} {A : Option Addr} {n : Nat} {xs : List S28} (h : Kd.C k28 w A n xs) (i : Int) (h0 : 0 ≤ i) (h1 : i < n) : ∃ ad A0 c0, A = some ad ∧ w.cell? (ad.add (i.toNat * 2)) = some (.slice A0 (rd_T28 xs i).f0.length c0) ∧ w.cell? ⟨(ad.add (i.toNat * 2)).block, (ad.add (i.toNat * 2)).off + 1, none⟩ = some (.int .i64 (rd_T28 xs i).f1) ∧ (rd_T28 xs i).f0.length ≤ c0 ∧ (Kd.int .u32).C w A0 (rd_T28 xs i).f0.length (rd_T28 xs i).f0 := by
  obtain ⟨ad, c, e, _, hK, hc0⟩ := Kd.C_get h z28 i h0 h1
  have hc : ∀ j u, c[j]? = some u → w.cell? (ad.add (i.toNat * 2 + j)) = some u := hc0
  obtain ⟨A0, c0, rfl, l0, g0⟩ := k28_open hK
  exact ⟨ad, A0, c0, e, hc 0 _ rfl, by rw [← add_field _ _ 1 (by omega)]; exact hc 1 _ rfl, l0, g0⟩
structure S38 where
  f0 : Int
  f1 : ByteArray
  f2 : Int
def z38 : S38 := ⟨(0 : Int), (⟨#[]⟩ : ByteArray), (0 : Int)⟩
def k38 : Kd S38 := Kd.iso (Kd.pair (Kd.int .i64) (Kd.pair Kd.string (Kd.int .i64))) (fun x : S38 => (x.f0, x.f1, x.f2))
theorem k38_open {w : World} {x : S38} {cs : List Value} (h : k38.K w x cs) : cs = [.int .i64 x.f0, .string x.f1, .int .i64 x.f2] := by
  obtain ⟨_, _, rfl, rfl, ⟨_, _, rfl, rfl, rfl⟩⟩ := h
  exact rfl
theorem k38_openM {w : World} {base : Nat} {ok : Nat → Prop} {x : S38} {cs : List Value} (h : k38.M w base ok x cs) : cs = [.int .i64 x.f0, .string x.f1, .int .i64 x.f2] := by
  obtain ⟨_, _, rfl, rfl, ⟨_, _, rfl, rfl, rfl⟩⟩ := h
  exact rfl
theorem k38_mk (w : World) (x : S38)  : k38.K w x [.int .i64 x.f0, .string x.f1, .int .i64 x.f2] := ⟨[.int .i64 x.f0], [.string x.f1, .int .i64 x.f2], rfl, rfl, ⟨[.string x.f1], [.int .i64 x.f2], rfl, rfl, rfl⟩⟩
theorem k38_mkM (w : World) (base : Nat) (ok : Nat → Prop) (x : S38)  : k38.M w base ok x [.int .i64 x.f0, .string x.f1, .int .i64 x.f2] := ⟨[.int .i64 x.f0], [.string x.f1, .int .i64 x.f2], rfl, rfl, ⟨[.string x.f1], [.int .i64 x.f2], rfl, rfl, rfl⟩⟩
def rd_T38 (xs : List S38) (i : Int) : S38 := xs.getD i.toNat z38
theorem at_T38 {w : World} {A : Option Addr} {n : Nat} {xs : List S38} (h : Kd.C k38 w A n xs) (i : Int) (h0 : 0 ≤ i) (h1 : i < n) : ∃ ad , A = some ad ∧ w.cell? (ad.add (i.toNat * 3)) = some (.int .i64 (rd_T38 xs i).f0) ∧ w.cell? ⟨(ad.add (i.toNat * 3)).block, (ad.add (i.toNat * 3)).off + 1, none⟩ = some (.string (rd_T38 xs i).f1) ∧ w.cell? ⟨(ad.add (i.toNat * 3)).block, (ad.add (i.toNat * 3)).off + 2, none⟩ = some (.int .i64 (rd_T38 xs i).f2) := by
  obtain ⟨ad, c, e, _, hK, hc0⟩ := Kd.C_get h z38 i h0 h1
  have hc : ∀ j u, c[j]? = some u → w.cell? (ad.add (i.toNat * 3 + j)) = some u := hc0
  obtain rfl := k38_open hK
  exact ⟨ad, e, hc 0 _ rfl, by rw [← add_field _ _ 1 (by omega)]; exact hc 1 _ rfl, by rw [← add_field _ _ 2 (by omega)]; exact hc 2 _ rfl⟩
def rd_L9 (xs : List (List Int)) (i : Int) : (List Int) := xs.getD i.toNat ([] : List Int)
theorem at_L9 {w : World} {A : Option Addr} {n : Nat} {xs : List (List Int)} (h : Kd.C (Kd.slice 3 (Kd.int .i64)) w A n xs) (i : Int) (h0 : 0 ≤ i) (h1 : i < n) : ∃ ad A0 c0, A = some ad ∧ w.cell? (ad.add i.toNat) = some (.slice A0 (rd_L9 xs i).length c0) ∧ (rd_L9 xs i).length ≤ c0 ∧ (Kd.int .i64).C w A0 (rd_L9 xs i).length (rd_L9 xs i) := by
  obtain ⟨ad, c, e, _, hK, hc0⟩ := Kd.C_get h ([] : List Int) i h0 h1
  have hc : ∀ j u, c[j]? = some u → w.cell? (ad.add (i.toNat * 1 + j)) = some u := hc0
  obtain ⟨A0, c0, rfl, l0, g0⟩ := hK
  exact ⟨ad, A0, c0, e, by have hq := hc 0 _ rfl; rwa [Nat.mul_one, Nat.add_zero] at hq, l0, g0⟩
end Go.Proofs.YtdhkmdgieflioaaDoor.F
namespace Go.Proofs.YtdhkmdgieflioaaDoor.F
open Go.RowKit Go.Proofs.YtdhkmdgieflioaaDoorW.PrintWords Go.Proofs.YtdhkmdgieflioaaDoorW.PrintLast Go.Proofs.YtdhkmdgieflioaaDoorW.PrintMore
set_option linter.unusedVariables false
set_option linter.unusedSimpArgs false
def kindRows : List (List UInt8 × List UInt8) := [([], []), ([108, 105], [97, 99]), ([108, 117, 105], [97, 99]), ([109, 111, 118], [97, 98]), ([97, 100, 100], [97, 98, 114]), ([115, 117, 98], [97, 98, 114]), ([109, 117, 108], [97, 98, 114]), ([100, 105, 118], [97, 98, 114]), ([109, 111, 100], [97, 98, 114]), ([97, 110, 100], [97, 98, 114]), ([111, 114], [97, 98, 114]), ([120, 111, 114], [97, 98, 114]), ([115, 104, 108], [97, 98, 114]), ([115, 104, 114], [97, 98, 114]), ([108, 116], [97, 98, 114]), ([101, 113], [97, 98, 114]), ([108, 100], [97, 98, 99]), ([115, 116], [97, 98, 99]), ([106, 109, 112], [99]), ([106, 122], [97, 99]), ([106, 110, 122], [97, 99]), ([99, 97, 108, 108], [97, 99]), ([114, 101, 116], [97]), ([103, 101, 116], [97]), ([112, 117, 116], [97]), ([99, 104, 107], [97, 99]), ([104, 97, 108, 116], []), ([108, 100, 99], [97, 98, 99])]
def kindsCells : Array Value := (kindRows.flatMap fun k => [Value.string ⟨k.1.toArray⟩, Value.string ⟨k.2.toArray⟩]).toArray
def codeRows : List (List Int × List UInt8) := [([1, 10, 0, 16], [49, 54]), ([1, 11, 0, 10], [49, 48, 44, 32, 97, 32, 108, 105, 110, 101, 32, 102, 101, 101, 100, 44, 32, 116, 111, 111]), ([23, 1, 0, 0], [116, 104, 101, 32, 110, 101, 120, 116, 32, 98, 121, 116, 101]), ([1, 2, 0, 256], [116, 104, 101, 32, 101, 110, 100, 63]), ([15, 5, 1, 2], []), ([20, 5, 0, 36], [116, 104, 101, 110, 32, 104, 97, 108, 116]), ([1, 2, 0, 35], [97, 32, 110, 111, 116, 101, 63]), ([15, 5, 1, 2], []), ([20, 5, 0, 29], [116, 104, 101, 110, 32, 111, 110, 32, 116, 111, 32, 105, 116, 115, 32, 101, 110, 100]), ([1, 2, 0, 48], [102, 114, 111, 109, 32, 48, 32, 116, 111, 32, 57, 63]), ([5, 6, 1, 2], []), ([14, 5, 6, 11], []), ([20, 5, 0, 21], [116, 104, 101, 110, 32, 97, 32, 100, 105, 103, 105, 116]), ([1, 2, 0, 32], [97, 32, 103, 114, 101, 97, 116, 32, 108, 101, 116, 116, 101, 114, 32, 97, 115, 32, 97, 32, 115, 109, 97, 108, 108, 32, 111, 110, 101]), ([10, 6, 1, 2], []), ([1, 2, 0, 97], [102, 114, 111, 109, 32, 97, 32, 116, 111, 32, 102, 63]), ([5, 6, 6, 2], []), ([1, 2, 0, 6], []), ([14, 5, 6, 2], []), ([19, 5, 0, 2], [101, 108, 115, 101, 32, 116, 104, 101, 32, 110, 101, 120, 116, 32, 98, 121, 116, 101]), ([4, 6, 6, 11], [49, 48, 32, 116, 111, 32, 49, 53]), ([20, 4, 0, 25], [116, 104, 101, 32, 108, 111, 119, 101, 114, 32, 111, 110, 101, 63]), ([6, 3, 6, 10], [116, 104, 101, 32, 104, 105, 103, 104, 101, 114, 32, 111, 110, 101]), ([1, 4, 0, 1], []), ([18, 0, 0, 2], []), ([4, 3, 3, 6], [98, 111, 116, 104]), ([24, 3, 0, 0], [97, 114, 101, 32, 97, 32, 98, 121, 116, 101]), ([1, 4, 0, 0], []), ([18, 0, 0, 2], []), ([23, 1, 0, 0], [97, 32, 110, 111, 116, 101, 39, 115, 32, 110, 101, 120, 116, 32, 98, 121, 116, 101]), ([1, 2, 0, 256], [116, 104, 101, 32, 101, 110, 100, 63]), ([15, 5, 1, 2], []), ([20, 5, 0, 36], [116, 104, 101, 110, 32, 104, 97, 108, 116]), ([15, 5, 1, 11], [97, 32, 108, 105, 110, 101, 32, 102, 101, 101, 100, 63]), ([19, 5, 0, 29], [110, 111, 58, 32, 111, 110]), ([18, 0, 0, 2], [121, 101, 115]), ([26, 0, 0, 0], [100, 111, 110, 101])]
def codeCells : Array Value := (codeRows.flatMap fun k => k.1.map (Value.int .i64) ++ [Value.string ⟨k.2.toArray⟩]).toArray
structure GK (w : World) : Prop where mk :: (out : w.var? Tryd.prog "seedcorn/inst.kinds" = some kindsCells)
structure GC (w : World) : Prop where mk :: (out : w.var? Tryd.prog "seedcorn/seed.code" = some codeCells)
structure GT (w : World) : Prop where mk :: (out : Lib.TabIs Tryd.prog w "internal/strconv.uint64pow10" .u64 Lib.pow10Tab)
theorem g_kinds : Tryd.prog.globalNamed "seedcorn/inst.kinds" = some 0 := by kernel_rfl
theorem g_code : Tryd.prog.globalNamed "seedcorn/seed.code" = some 1 := by kernel_rfl
theorem g_pow : Tryd.prog.globalNamed "internal/strconv.uint64pow10" = some 2 := by kernel_rfl
theorem GK.below {w w' : World} (h : GK w) (hb : Below w.heap.size w w') : GK w' := ⟨Go.Joins.var_stays g_kinds h.out hb (Nat.le_refl _)⟩
theorem GC.below {w w' : World} (h : GC w) (hb : Below w.heap.size w w') : GC w' := ⟨Go.Joins.var_stays g_code h.out hb (Nat.le_refl _)⟩
theorem GT.below {w w' : World} (h : GT w) (hb : Below w.heap.size w w') : GT w' := ⟨Go.Joins.tab_stays g_pow h.out hb (Nat.le_refl _)⟩
def partsOf (op : Int) : ByteArray := ⟨((kindRows.getD op.toNat ([], [])).2).toArray⟩
def nameOf (op : Int) : ByteArray := if 0 ≤ op ∧ op < 28 then ⟨((kindRows.getD op.toNat ([], [])).1).toArray⟩ else ⟨#[]⟩
end Go.Proofs.YtdhkmdgieflioaaDoor.F
namespace Go.Proofs.YtdhkmdgieflioaaDoor
open Go.ChangeShapes Go.WideShapes Go.ChangeAt Go.RowKit
set_option linter.unusedVariables false
section
variable {H : Type} {enc : TypeId × Value → H} {w : World} {base : Nat} {spare : Nat → Bool} {held : Bool}
set_option maxRecDepth 100000 in
theorem open_ins {r : Reach} {b0 : Nat} {v : Value} {d : DataW H} {p : List MemPlace} (hv : Value.okWide Tryd.prog w r b0 46 v) (h : DataW.Trod enc Tryd.prog w base spare held 46 v d p) :
    ∃ n0 n1 n2 n3, v = .agg #[.int .i64 n0, .int .i64 n1, .int .i64 n2, .int .i64 n3] ∧ d = .agg [.lit (.int .i64 n0), .lit (.int .i64 n1), .lit (.int .i64 n2), .lit (.int .i64 n3)] ∧ p = [] ∧ (Lit.int .i64 n0).wf = true ∧ (Lit.int .i64 n1).wf = true ∧ (Lit.int .i64 n2).wf = true ∧ (Lit.int .i64 n3).wf = true := by
  obtain ⟨v0, v1, v2, v3, y0, y1, y2, y3, n, rfl, rfl, rfl, h0, h1, h2, h3⟩ := Go.Joins.open_agg4 Tryd.underlying46 (by kernel_rfl) (by kernel_rfl) hv h
  obtain ⟨n0, e0, x0, w0⟩ := DataW.trod_int Tryd.underlying3 h0
  obtain ⟨n1, e1, x1, w1⟩ := DataW.trod_int Tryd.underlying3 h1
  obtain ⟨n2, e2, x2, w2⟩ := DataW.trod_int Tryd.underlying3 h2
  obtain ⟨n3, e3, x3, w3⟩ := DataW.trod_int Tryd.underlying3 h3
  simp only [List.cons.injEq, and_true] at e0 e1 e2 e3
  subst e0 e1 e2 e3 x0 x1 x2 x3
  exact ⟨n0, n1, n2, n3, rfl, rfl, rfl, w0, w1, w2, w3⟩
set_option maxRecDepth 100000 in
theorem shut_ins {n0 n1 n2 n3 : Int} (w0 : (Lit.int .i64 n0).wf = true) (w1 : (Lit.int .i64 n1).wf = true) (w2 : (Lit.int .i64 n2).wf = true) (w3 : (Lit.int .i64 n3).wf = true) :
    DataW.Trod enc Tryd.prog w base spare held 46 (.agg #[.int .i64 n0, .int .i64 n1, .int .i64 n2, .int .i64 n3]) (.agg [.lit (.int .i64 n0), .lit (.int .i64 n1), .lit (.int .i64 n2), .lit (.int .i64 n3)]) [] :=
  Go.Joins.shut_agg4 (y0 := (_, [])) (y1 := (_, [])) (y2 := (_, [])) (y3 := (_, [])) Tryd.underlying46 (by kernel_rfl) (by kernel_rfl) (Go.Joins.field_of_Trod (shut_int Tryd.underlying3 w0) rfl) (Go.Joins.field_of_Trod (shut_int Tryd.underlying3 w1) rfl) (Go.Joins.field_of_Trod (shut_int Tryd.underlying3 w2) rfl) (Go.Joins.field_of_Trod (shut_int Tryd.underlying3 w3) rfl)
end
end Go.Proofs.YtdhkmdgieflioaaDoor
namespace Go.Proofs.YtdhkmdgieflioaaDoor.F
open Go.RowKit Go.Proofs.YtdhkmdgieflioaaDoorW.PrintWords Go.Proofs.YtdhkmdgieflioaaDoorW.PrintLast Go.Proofs.YtdhkmdgieflioaaDoorW.PrintMore
attribute [local go_sem] max2_int min2_int max_two min_two max_three min_three max_four min_four
set_option linter.unusedVariables false
set_option linter.unusedSimpArgs false
theorem eqA46 (d : Nat) (w : World) (x0 y0 : Int) (x1 y1 : Int) (x2 y2 : Int) (x3 y3 : Int) :
    (Op.equalIn (d + 2) 46 (.agg #[.int .i64 x0, .int .i64 x1, .int .i64 x2, .int .i64 x3]) (.agg #[.int .i64 y0, .int .i64 y1, .int .i64 y2, .int .i64 y3])).run Tryd.prog w = .ok (x0 == y0 && (x1 == y1 && (x2 == y2 && (x3 == y3)))) w := by
  refine eqA_of Tryd.underlying46 (by kernel_rfl) ?_
  refine eqf_cons (by rfl) (by go_simp; rfl) (by go_simp; rfl) (by go_simp) ?_
  refine eqf_cons (by rfl) (by go_simp; rfl) (by go_simp; rfl) (by go_simp) ?_
  refine eqf_cons (by rfl) (by go_simp; rfl) (by go_simp; rfl) (by go_simp) ?_
  exact eqf_last (by rfl) (by go_simp; rfl) (by go_simp; rfl) (by go_simp)
end Go.Proofs.YtdhkmdgieflioaaDoor.F
namespace Go.Proofs
open Go.Shelf
def Tryd.lays156_ren : Go.Shelf.Ren := ⟨fun | 156 => 80 | 165 => 102 | 166 => 70 | 169 => 74 | 240 => 97 | 241 => 125 | 276 => 121 | 277 => 139 | n => n, fun | 31 => 65 | 9 => 9 | 3 => 3 | 4 => 4 | 0 => 0 | 20 => 20 | 72 => 81 | 76 => 84 | 70 => 79 | 37 => 72 | 75 => 83 | 127 => 115 | 164 => 134 | 5 => 5 | 80 => 24 | n => n, fun | n => n⟩
theorem Tryd.lays156 : Go.Proofs.Lays.n156 Tryd.prog Tryd.lays156_ren := {
  mixed := by kernel_rfl
  f156 := Tryd.func80.trans (congrArg some (by kernel_rfl))
  f165 := Tryd.func102.trans (congrArg some (by kernel_rfl))
  f166 := Tryd.func70.trans (congrArg some (by kernel_rfl))
  f169 := Tryd.func74.trans (congrArg some (by kernel_rfl))
  f240 := Tryd.func97.trans (congrArg some (by kernel_rfl))
  f241 := Tryd.func125.trans (congrArg some (by kernel_rfl))
  f276 := Tryd.func121.trans (congrArg some (by kernel_rfl))
  f277 := Tryd.func139.trans (congrArg some (by kernel_rfl))
  t0 := Tryd.underlying0
  a0 := Tryd.isAgg0
  z0 := Tryd.sizeOf0
  v0 := Tryd.zeroValue0
  t3 := Tryd.underlying3
  a3 := Tryd.isAgg3
  z3 := Tryd.sizeOf3
  v3 := Tryd.zeroValue3
  t4 := Tryd.underlying4
  a4 := Tryd.isAgg4
  z4 := Tryd.sizeOf4
  v4 := Tryd.zeroValue4
  t9 := Tryd.underlying9
  a9 := Tryd.isAgg9
  z9 := Tryd.sizeOf9
  v9 := Tryd.zeroValue9
  t20 := Tryd.underlying20
  a20 := Tryd.isAgg20
  z20 := Tryd.sizeOf20
  v20 := Tryd.zeroValue20
  t31 := Tryd.underlying65
  a31 := Tryd.isAgg65
  z31 := Tryd.sizeOf65
  v31 := Tryd.zeroValue65
  t37 := Tryd.underlying72
  a37 := Tryd.isAgg72
  z37 := Tryd.sizeOf72
  v37 := Tryd.zeroValue72
  t70 := Tryd.underlying79
  a70 := Tryd.isAgg79
  z70 := Tryd.sizeOf79
  v70 := Tryd.zeroValue79
  t72 := Tryd.underlying81
  a72 := Tryd.isAgg81
  z72 := Tryd.sizeOf81
  v72 := Tryd.zeroValue81
  t75 := Tryd.underlying83
  a75 := Tryd.isAgg83
  z75 := Tryd.sizeOf83
  v75 := Tryd.zeroValue83
  t76 := Tryd.underlying84
  a76 := Tryd.isAgg84
  z76 := Tryd.sizeOf84
  v76 := Tryd.zeroValue84
  t127 := Tryd.underlying115
  a127 := Tryd.isAgg115
  z127 := Tryd.sizeOf115
  v127 := Tryd.zeroValue115
  t164 := Tryd.underlying134
  a164 := Tryd.isAgg134
  z164 := Tryd.sizeOf134
  v164 := Tryd.zeroValue134 }
theorem Tryd.Builder_Extra_156 : Builder.Extra Tryd.prog Tryd.lays156_ren := {
  sizeBuilder := by kernel_rfl
  liesBuilder := by kernel_rfl
  t5 := Tryd.underlying5
  a5 := Tryd.isAgg5
  z5 := Tryd.sizeOf5
  v5 := Tryd.zeroValue5
  infoByte := by kernel_rfl
  cellsByte := by kernel_rfl
  sizeByte := by kernel_rfl
  neB5 := by decide }
open Go.RowKit in
theorem Tryd.strings_Join (bk o c : Nat) (xs : List ByteArray) (sep : ByteArray) (w : World) (hcells : ∀ (j : Nat) x, xs[j]? = some x → w.cell? ⟨bk, o + j, none⟩ = some (.string x)) (hbk : bk < w.heap.size) (hN : xs.length ≤ 140737488355328) (hcap : xs.length ≤ c) (hlen : (Lib.join (xs.map (·.data.toList)) sep.data.toList).length ≤ 140737488355328) :
    Calls Tryd.prog 80 #[.slice (some ⟨bk, o, none⟩) xs.length c, .string sep] w fun e w' => e = .returned (.string ⟨(Lib.join (xs.map (·.data.toList)) sep.data.toList).toArray⟩) ∧ Below w.heap.size w w' := Any.strings_Join Tryd.lays156 Tryd.Builder_Extra_156 bk o c xs sep w hcells hbk hN hcap hlen
def Tryd.lays137_ren : Go.Shelf.Ren := ⟨fun | 137 => 99 | 217 => 123 | 266 => 138 | n => n, fun | 9 => 9 | 5 => 5 | 3 => 3 | n => n, fun | n => n⟩
theorem Tryd.lays137 : Go.Proofs.Lays.n137 Tryd.prog Tryd.lays137_ren := {
  mixed := by kernel_rfl
  f137 := Tryd.func99.trans (congrArg some (by kernel_rfl))
  f217 := Tryd.func123.trans (congrArg some (by kernel_rfl))
  f266 := Tryd.func138.trans (congrArg some (by kernel_rfl))
  t3 := Tryd.underlying3
  a3 := Tryd.isAgg3
  z3 := Tryd.sizeOf3
  v3 := Tryd.zeroValue3
  t5 := Tryd.underlying5
  a5 := Tryd.isAgg5
  z5 := Tryd.sizeOf5
  v5 := Tryd.zeroValue5
  t9 := Tryd.underlying9
  a9 := Tryd.isAgg9
  z9 := Tryd.sizeOf9
  v9 := Tryd.zeroValue9 }
open Go.RowKit in
theorem Tryd.strings_IndexByte (s : ByteArray) (c : Int) (w : World) :
    Calls Tryd.prog 99 #[.string s, .int .u8 c] w fun e w' => e = .returned (.int .i64 (Lib.indexByte s.data.toList c.toNat.toUInt8)) ∧ w' = w := Any.strings_IndexByte Tryd.lays137 s c w
def Tryd.laysM171_ren : Go.Shelf.Ren := ⟨fun | 171 => 79 | 243 => 101 | 246 => 124 | 283 => 126 | 284 => 127 | 285 => 128 | 286 => 129 | 129 => 120 | 317 => 140 | 318 => 141 | 319 => 142 | 320 => 143 | 337 => 148 | 338 => 149 | n => n, fun | 3 => 3 | 9 => 9 | 2 => 2 | 4 => 4 | 171 => 137 | 0 => 0 | 53 => 96 | 37 => 72 | 5 => 5 | 173 => 139 | 212 => 154 | 51 => 47 | 20 => 20 | 213 => 155 | 46 => 59 | 232 => 164 | 233 => 165 | n => n, fun | 17 => 2 | 18 => 4 | 19 => 5 | n => n⟩
theorem Tryd.laysM171 : Go.Proofs.LaysM.n171 Tryd.prog Tryd.laysM171_ren := {
  mixed := by kernel_rfl
  f129 := Tryd.func120.trans (congrArg some (by kernel_rfl))
  f171 := Tryd.func79.trans (congrArg some (by kernel_rfl))
  f243 := Tryd.func101.trans (congrArg some (by kernel_rfl))
  f246 := Tryd.func124.trans (congrArg some (by kernel_rfl))
  f283 := Tryd.func126.trans (congrArg some (by kernel_rfl))
  f284 := Tryd.func127.trans (congrArg some (by kernel_rfl))
  f285 := Tryd.func128.trans (congrArg some (by kernel_rfl))
  f286 := Tryd.func129.trans (congrArg some (by kernel_rfl))
  f317 := Tryd.func140.trans (congrArg some (by kernel_rfl))
  f318 := Tryd.func141.trans (congrArg some (by kernel_rfl))
  f319 := Tryd.func142.trans (congrArg some (by kernel_rfl))
  f320 := Tryd.func143.trans (congrArg some (by kernel_rfl))
  f337 := Tryd.func148.trans (congrArg some (by kernel_rfl))
  f338 := Tryd.func149.trans (congrArg some (by kernel_rfl))
  t0 := Tryd.underlying0
  a0 := Tryd.isAgg0
  z0 := Tryd.sizeOf0
  v0 := Tryd.zeroValue0
  t2 := Tryd.underlying2
  a2 := Tryd.isAgg2
  z2 := Tryd.sizeOf2
  v2 := Tryd.zeroValue2
  t3 := Tryd.underlying3
  a3 := Tryd.isAgg3
  z3 := Tryd.sizeOf3
  v3 := Tryd.zeroValue3
  t4 := Tryd.underlying4
  a4 := Tryd.isAgg4
  z4 := Tryd.sizeOf4
  v4 := Tryd.zeroValue4
  t5 := Tryd.underlying5
  a5 := Tryd.isAgg5
  z5 := Tryd.sizeOf5
  v5 := Tryd.zeroValue5
  t9 := Tryd.underlying9
  a9 := Tryd.isAgg9
  z9 := Tryd.sizeOf9
  v9 := Tryd.zeroValue9
  t20 := Tryd.underlying20
  a20 := Tryd.isAgg20
  z20 := Tryd.sizeOf20
  v20 := Tryd.zeroValue20
  t37 := Tryd.underlying72
  a37 := Tryd.isAgg72
  z37 := Tryd.sizeOf72
  v37 := Tryd.zeroValue72
  t46 := Tryd.underlying59
  a46 := Tryd.isAgg59
  z46 := Tryd.sizeOf59
  v46 := Tryd.zeroValue59
  t51 := Tryd.underlying47
  a51 := Tryd.isAgg47
  z51 := Tryd.sizeOf47
  v51 := Tryd.zeroValue47
  t53 := Tryd.underlying96
  a53 := Tryd.isAgg96
  z53 := Tryd.sizeOf96
  v53 := Tryd.zeroValue96
  t171 := Tryd.underlying137
  a171 := Tryd.isAgg137
  z171 := Tryd.sizeOf137
  v171 := Tryd.zeroValue137
  t173 := Tryd.underlying139
  a173 := Tryd.isAgg139
  z173 := Tryd.sizeOf139
  v173 := Tryd.zeroValue139
  t212 := Tryd.underlying154
  a212 := Tryd.isAgg154
  z212 := Tryd.sizeOf154
  v212 := Tryd.zeroValue154
  t213 := Tryd.underlying155
  a213 := Tryd.isAgg155
  z213 := Tryd.sizeOf155
  t232 := Tryd.underlying164
  a232 := Tryd.isAgg164
  z232 := Tryd.sizeOf164
  v232 := Tryd.zeroValue164
  t233 := Tryd.underlying165
  a233 := Tryd.isAgg165
  z233 := Tryd.sizeOf165
  v233 := Tryd.zeroValue165
  g17 := by kernel_rfl
  g18 := by kernel_rfl
  g19 := by kernel_rfl
  i0 := by kernel_rfl
  i2 := by kernel_rfl
  i3 := by kernel_rfl
  i4 := by kernel_rfl
  i5 := by kernel_rfl
  i9 := by kernel_rfl
  i20 := by kernel_rfl
  i37 := by kernel_rfl
  i46 := by kernel_rfl
  i51 := by kernel_rfl
  i53 := by kernel_rfl
  i171 := by kernel_rfl
  i173 := by kernel_rfl
  i212 := by kernel_rfl
  i232 := by kernel_rfl
  i233 := by kernel_rfl
  m17 := by kernel_rfl
  m18 := by kernel_rfl
  m19 := by kernel_rfl }
open Go.RowKit Go.Sort Go.Lib in
theorem Tryd.strconv_Itoa (n : Int) (h0 : -9223372036854775808 ≤ n) (h1 : n ≤ 9223372036854775807) (w : World) (htab : Lib.TabIs Tryd.prog w "internal/strconv.uint64pow10" .u64 Lib.pow10Tab) :
    Calls Tryd.prog 79 #[.int .i64 n] w fun e w' => e = .returned (.string ⟨(Lib.itoa n).toArray⟩) ∧ ∃ k os, w' = grow (w.drewN k) os := Any.strconv_Itoa Tryd.laysM171 n h0 h1 w htab
def Tryd.lays100_ren : Go.Shelf.Ren := ⟨fun | 100 => 76 | 207 => 100 | n => n, fun | 9 => 9 | 4 => 4 | 3 => 3 | n => n, fun | n => n⟩
theorem Tryd.lays100 : Go.Proofs.Lays.n100 Tryd.prog Tryd.lays100_ren := {
  mixed := by kernel_rfl
  f100 := Tryd.func76.trans (congrArg some (by kernel_rfl))
  f207 := Tryd.func100.trans (congrArg some (by kernel_rfl))
  t3 := Tryd.underlying3
  a3 := Tryd.isAgg3
  z3 := Tryd.sizeOf3
  v3 := Tryd.zeroValue3
  t4 := Tryd.underlying4
  a4 := Tryd.isAgg4
  z4 := Tryd.sizeOf4
  v4 := Tryd.zeroValue4
  t9 := Tryd.underlying9
  a9 := Tryd.isAgg9
  z9 := Tryd.sizeOf9
  v9 := Tryd.zeroValue9 }
open Go.RowKit Go.Lib in
theorem Tryd.strings_HasSuffix (s p : ByteArray) (w : World) (hs : s.size ≤ 9223372036854775807) :
    Calls Tryd.prog 76 #[.string s, .string p] w fun e w' => e = .returned (.bool (Lib.hasSuffix s.data.toList p.data.toList)) ∧ w' = w := Any.strings_HasSuffix Tryd.lays100 s p w hs
end Go.Proofs
namespace Go.Proofs.YtdhkmdgieflioaaDoor.F
open Go.RowKit Go.Proofs.YtdhkmdgieflioaaDoorW.PrintWords Go.Proofs.YtdhkmdgieflioaaDoorW.PrintLast Go.Proofs.YtdhkmdgieflioaaDoorW.PrintMore
set_option linter.unusedVariables false
set_option linter.unusedSimpArgs false
def hasB (p : ByteArray) (c n m : Int) : Bool := if Lib.indexByte p.data.toList c.toNat.toUInt8 < 0 then n == 0 else if n ≥ 0 then decide (n ≤ m) else false
theorem has_any (p : ByteArray) (c n m : Int) (w : World) :
    Calls Tryd.prog 75 #[.string p, .int .u8 c, .int .i64 n, .int .i64 m] w fun e w' => e = .returned (.bool (hasB p c n m)) ∧ w = w' := by
  generalize hr : hasB p c n m = r
  unfold hasB at hr
  generalize hi : Lib.indexByte p.data.toList c.toNat.toUInt8 = i at hr
  have HI := Lib.hid hi
  clear hi
  by_cases h1 : i < 0
  · rw [if_pos h1] at hr
    subst hr
    go_enter Tryd.func75, Tryd.ntmps75
    go_wp2_with (go_at_call 99; refine (Tryd.strings_IndexByte p c _).mono ?_; rintro e w' ⟨rfl, rfl⟩; rw [HI.out])
    go_ret
    exact ⟨rfl, rfl⟩
  · rw [if_neg h1] at hr
    by_cases h2 : n ≥ 0
    · rw [if_pos h2] at hr
      subst hr
      go_enter Tryd.func75, Tryd.ntmps75
      go_wp2_with (go_at_call 99; refine (Tryd.strings_IndexByte p c _).mono ?_; rintro e w' ⟨rfl, rfl⟩; rw [HI.out])
      go_ret
      exact ⟨rfl, rfl⟩
    · rw [if_neg h2] at hr
      subst hr
      go_enter Tryd.func75, Tryd.ntmps75
      go_wp2_with (go_at_call 99; refine (Tryd.strings_IndexByte p c _).mono ?_; rintro e w' ⟨rfl, rfl⟩; rw [HI.out])
      go_ret
      exact ⟨rfl, rfl⟩
theorem kind_cell {w : World} (h : GK w) (j : Nat) (v : Value) (hj : kindsCells[j]? = some v) : w.cell? ⟨0, j, none⟩ = some v := by
  have := World.var?_cell g_kinds h.out j
  rw [this, hj]
def endsR (p : ByteArray) : Bool := Lib.hasSuffix p.data.toList [114]
def rightB (op a b c : Int) : Bool :=
  if op < 1 ∨ 28 ≤ op then false
  else
    if hasB (partsOf op) 97 a 15 = false then false
    else if hasB (partsOf op) 98 b 15 = false then false
    else if endsR (partsOf op) = true then (if c ≥ 0 then decide (c ≤ 15) else false)
    else hasB (partsOf op) 99 c 65535
def inst_Right.f (a0_0 : Int) (a0_1 : Int) (a0_2 : Int) (a0_3 : Int) : Option Bool := some (rightB a0_0 a0_1 a0_2 a0_3)
set_option maxRecDepth 100000 in
set_option maxHeartbeats 1000000 in
theorem right_lt (op a b c : Int) (w : World) (h1 : op < 1) :
    Calls Tryd.prog 40 #[.agg #[.int .i64 op, .int .i64 a, .int .i64 b, .int .i64 c]] w fun e w' => e = .returned (.bool false) ∧ Below w.heap.size w w' := by
  have hu46 := Tryd.underlying46
  go_enter Tryd.func40, Tryd.ntmps40
  go_wp2_with fail
  go_ret
  exact ⟨rfl, (Below.refl _ _).alloc (Nat.le_refl _) _⟩
set_option maxRecDepth 100000 in
set_option maxHeartbeats 1000000 in
theorem right_ge (op a b c : Int) (w : World) (h1 : 28 ≤ op) :
    Calls Tryd.prog 40 #[.agg #[.int .i64 op, .int .i64 a, .int .i64 b, .int .i64 c]] w fun e w' => e = .returned (.bool false) ∧ Below w.heap.size w w' := by
  have hu46 := Tryd.underlying46
  go_enter Tryd.func40, Tryd.ntmps40
  go_wp2_with fail
  go_ret
  exact ⟨rfl, (Below.refl _ _).alloc (Nat.le_refl _) _⟩
set_option maxRecDepth 100000 in
set_option maxHeartbeats 1000000 in
theorem right_n1 (op a b c : Int) (p : ByteArray) (w : World) (h1 : 1 ≤ op) (h2 : op < 28) (h0 : 0 < w.heap.size) (hs : p.size ≤ 9223372036854775807) (hp : w.cell? ⟨0, op.toNat * 2 + 1, none⟩ = some (.string p)) (H1 : Hid (hasB p 97 a 15 = false)) :
    Calls Tryd.prog 40 #[.agg #[.int .i64 op, .int .i64 a, .int .i64 b, .int .i64 c]] w fun e w' => e = .returned (.bool false) ∧ Below w.heap.size w w' := by
  have hu46 := Tryd.underlying46
  have H2 := Lib.hid (rfl : (0 : Nat) = 0)
  have H3 := Lib.hid (rfl : (0 : Nat) = 0)
  have HE := Lib.hid (rfl : (0 : Nat) = 0)
  go_enter Tryd.func40, Tryd.ntmps40
  go_wp2_with (first | (go_at_call 75; refine (has_any _ _ _ _ _).mono ?_; rintro e w' ⟨rfl, rfl⟩; (first | rw [H1.out] | rw [H2.out] | rw [H3.out])) | (go_at_call 76; refine (Tryd.strings_HasSuffix _ _ _ (by omega)).mono ?_; rintro e w' ⟨rfl, rfl⟩; rw [HE.out]))
  go_ret
  exact ⟨rfl, (Below.refl _ _).alloc (Nat.le_refl _) _⟩
set_option maxRecDepth 100000 in
set_option maxHeartbeats 1000000 in
theorem right_n2 (op a b c : Int) (p : ByteArray) (w : World) (h1 : 1 ≤ op) (h2 : op < 28) (h0 : 0 < w.heap.size) (hs : p.size ≤ 9223372036854775807) (hp : w.cell? ⟨0, op.toNat * 2 + 1, none⟩ = some (.string p)) (H1 : Hid (hasB p 97 a 15 = true)) (H2 : Hid (hasB p 98 b 15 = false)) :
    Calls Tryd.prog 40 #[.agg #[.int .i64 op, .int .i64 a, .int .i64 b, .int .i64 c]] w fun e w' => e = .returned (.bool false) ∧ Below w.heap.size w w' := by
  have hu46 := Tryd.underlying46
  have H3 := Lib.hid (rfl : (0 : Nat) = 0)
  have HE := Lib.hid (rfl : (0 : Nat) = 0)
  go_enter Tryd.func40, Tryd.ntmps40
  go_wp2_with (first | (go_at_call 75; refine (has_any _ _ _ _ _).mono ?_; rintro e w' ⟨rfl, rfl⟩; (first | rw [H1.out] | rw [H2.out] | rw [H3.out])) | (go_at_call 76; refine (Tryd.strings_HasSuffix _ _ _ (by omega)).mono ?_; rintro e w' ⟨rfl, rfl⟩; rw [HE.out]))
  go_ret
  exact ⟨rfl, (Below.refl _ _).alloc (Nat.le_refl _) _⟩
set_option maxRecDepth 100000 in
set_option maxHeartbeats 1000000 in
theorem right_e0 (op a b c : Int) (p : ByteArray) (w : World) (h1 : 1 ≤ op) (h2 : op < 28) (h0 : 0 < w.heap.size) (hs : p.size ≤ 9223372036854775807) (hp : w.cell? ⟨0, op.toNat * 2 + 1, none⟩ = some (.string p)) (H1 : Hid (hasB p 97 a 15 = true)) (H2 : Hid (hasB p 98 b 15 = true)) (HE : Hid (Lib.hasSuffix p.data.toList [114] = true)) (hc : ¬ c ≥ 0) :
    Calls Tryd.prog 40 #[.agg #[.int .i64 op, .int .i64 a, .int .i64 b, .int .i64 c]] w fun e w' => e = .returned (.bool false) ∧ Below w.heap.size w w' := by
  have hu46 := Tryd.underlying46
  have H3 := Lib.hid (rfl : (0 : Nat) = 0)
  go_enter Tryd.func40, Tryd.ntmps40
  go_wp2_with (first | (go_at_call 75; refine (has_any _ _ _ _ _).mono ?_; rintro e w' ⟨rfl, rfl⟩; (first | rw [H1.out] | rw [H2.out] | rw [H3.out])) | (go_at_call 76; refine (Tryd.strings_HasSuffix _ _ _ (by omega)).mono ?_; rintro e w' ⟨rfl, rfl⟩; rw [HE.out]))
  go_ret
  exact ⟨rfl, (Below.refl _ _).alloc (Nat.le_refl _) _⟩
set_option maxRecDepth 100000 in
set_option maxHeartbeats 1000000 in
theorem right_e1 (op a b c : Int) (p : ByteArray) (w : World) (h1 : 1 ≤ op) (h2 : op < 28) (h0 : 0 < w.heap.size) (hs : p.size ≤ 9223372036854775807) (hp : w.cell? ⟨0, op.toNat * 2 + 1, none⟩ = some (.string p)) (H1 : Hid (hasB p 97 a 15 = true)) (H2 : Hid (hasB p 98 b 15 = true)) (HE : Hid (Lib.hasSuffix p.data.toList [114] = true)) (hc : c ≥ 0) :
    Calls Tryd.prog 40 #[.agg #[.int .i64 op, .int .i64 a, .int .i64 b, .int .i64 c]] w fun e w' => e = .returned (.bool (decide (c ≤ 15))) ∧ Below w.heap.size w w' := by
  have hu46 := Tryd.underlying46
  have H3 := Lib.hid (rfl : (0 : Nat) = 0)
  go_enter Tryd.func40, Tryd.ntmps40
  go_wp2_with (first | (go_at_call 75; refine (has_any _ _ _ _ _).mono ?_; rintro e w' ⟨rfl, rfl⟩; (first | rw [H1.out] | rw [H2.out] | rw [H3.out])) | (go_at_call 76; refine (Tryd.strings_HasSuffix _ _ _ (by omega)).mono ?_; rintro e w' ⟨rfl, rfl⟩; rw [HE.out]))
  go_ret
  exact ⟨rfl, (Below.refl _ _).alloc (Nat.le_refl _) _⟩
set_option maxRecDepth 100000 in
set_option maxHeartbeats 1000000 in
theorem right_f (op a b c : Int) (p : ByteArray) (w : World) (h1 : 1 ≤ op) (h2 : op < 28) (h0 : 0 < w.heap.size) (hs : p.size ≤ 9223372036854775807) (hp : w.cell? ⟨0, op.toNat * 2 + 1, none⟩ = some (.string p)) (H1 : Hid (hasB p 97 a 15 = true)) (H2 : Hid (hasB p 98 b 15 = true)) (HE : Hid (Lib.hasSuffix p.data.toList [114] = false)) (r : Bool) (H3 : Hid (hasB p 99 c 65535 = r)) :
    Calls Tryd.prog 40 #[.agg #[.int .i64 op, .int .i64 a, .int .i64 b, .int .i64 c]] w fun e w' => e = .returned (.bool r) ∧ Below w.heap.size w w' := by
  have hu46 := Tryd.underlying46
  go_enter Tryd.func40, Tryd.ntmps40
  go_wp2_with (first | (go_at_call 75; refine (has_any _ _ _ _ _).mono ?_; rintro e w' ⟨rfl, rfl⟩; (first | rw [H1.out] | rw [H2.out] | rw [H3.out])) | (go_at_call 76; refine (Tryd.strings_HasSuffix _ _ _ (by omega)).mono ?_; rintro e w' ⟨rfl, rfl⟩; rw [HE.out]))
  go_ret
  exact ⟨rfl, (Below.refl _ _).alloc (Nat.le_refl _) _⟩
theorem partsOf_size (op : Int) (h1 : 1 ≤ op) (h2 : op < 28) : (partsOf op).size ≤ 9223372036854775807 ∧ kindsCells[op.toNat * 2 + 1]? = some (.string (partsOf op)) := by
  obtain ⟨n, rfl⟩ : ∃ n : Nat, op = n := ⟨op.toNat, by omega⟩
  have h3 : n < 28 := by omega
  clear h2
  have all : ∀ n, n < 28 → (partsOf (n : Nat)).size ≤ 9223372036854775807 ∧ (kindRows.flatMap fun k => [Value.string ⟨k.1.toArray⟩, Value.string ⟨k.2.toArray⟩])[n * 2 + 1]? = some (.string (partsOf (n : Nat))) := by
    intro n hn
    have : n = 0 ∨ n = 1 ∨ n = 2 ∨ n = 3 ∨ n = 4 ∨ n = 5 ∨ n = 6 ∨ n = 7 ∨ n = 8 ∨ n = 9 ∨ n = 10 ∨ n = 11 ∨ n = 12 ∨ n = 13 ∨ n = 14 ∨ n = 15 ∨ n = 16 ∨ n = 17 ∨ n = 18 ∨ n = 19 ∨ n = 20 ∨ n = 21 ∨ n = 22 ∨ n = 23 ∨ n = 24 ∨ n = 25 ∨ n = 26 ∨ n = 27 := by omega
    rcases this with rfl | rfl | rfl | rfl | rfl | rfl | rfl | rfl | rfl | rfl | rfl | rfl | rfl | rfl | rfl | rfl | rfl | rfl | rfl | rfl | rfl | rfl | rfl | rfl | rfl | rfl | rfl | rfl
    all_goals exact ⟨by decide, rfl⟩
  obtain ⟨a1, a2⟩ := all n h3
  exact ⟨a1, by unfold kindsCells; simpa using a2⟩
theorem GK.pos {w : World} (h : GK w) : 0 < w.heap.size := World.block_lt_of_cell? w _ (kind_cell h 0 _ rfl)
theorem inst_Right.calls (a0_0 : Int) (a0_1 : Int) (a0_2 : Int) (a0_3 : Int) (r : Bool) (w : World) (hGK : GK w) (h : inst_Right.f a0_0 a0_1 a0_2 a0_3 = some r) :
    Calls Tryd.prog 40 #[.agg #[.int .i64 a0_0, .int .i64 a0_1, .int .i64 a0_2, .int .i64 a0_3]] w fun e w' => e = .returned (.bool r) ∧ Below w.heap.size w w' := by
  obtain rfl := Option.some.inj h
  unfold rightB
  split
  · rename_i hb
    rcases hb with hb | hb
    · exact right_lt _ _ _ _ _ hb
    · exact right_ge _ _ _ _ _ hb
  · rename_i hb
    obtain ⟨h1, h2⟩ : 1 ≤ a0_0 ∧ a0_0 < 28 := by omega
    obtain ⟨hs, hk⟩ := partsOf_size a0_0 h1 h2
    have hp := kind_cell hGK _ _ hk
    have hpos := hGK.pos
    split
    · rename_i g1
      exact right_n1 _ _ _ _ _ _ h1 h2 hpos hs hp (Lib.hid g1)
    · rename_i g1
      have g1 : hasB (partsOf a0_0) 97 a0_1 15 = true := by simpa using g1
      split
      · rename_i g2
        exact right_n2 _ _ _ _ _ _ h1 h2 hpos hs hp (Lib.hid g1) (Lib.hid g2)
      · rename_i g2
        have g2 : hasB (partsOf a0_0) 98 a0_2 15 = true := by simpa using g2
        split
        · rename_i g3
          split
          · rename_i g4
            exact right_e1 _ _ _ _ _ _ h1 h2 hpos hs hp (Lib.hid g1) (Lib.hid g2) (Lib.hid g3) g4
          · rename_i g4
            exact right_e0 _ _ _ _ _ _ h1 h2 hpos hs hp (Lib.hid g1) (Lib.hid g2) (Lib.hid g3) g4
        · rename_i g3
          have g3 : endsR (partsOf a0_0) = false := by simpa using g3
          exact right_f _ _ _ _ _ _ h1 h2 hpos hs hp (Lib.hid g1) (Lib.hid g2) (Lib.hid g3) _ (Lib.hid rfl)
end Go.Proofs.YtdhkmdgieflioaaDoor.F
namespace Go.Proofs.YtdhkmdgieflioaaDoor.F
open Go.RowKit Go.Proofs.YtdhkmdgieflioaaDoorW.PrintWords Go.Proofs.YtdhkmdgieflioaaDoorW.PrintLast Go.Proofs.YtdhkmdgieflioaaDoorW.PrintMore
attribute [local go_sem] max2_int min2_int max_two min_two max_three min_three max_four min_four
set_option linter.unusedVariables false
set_option linter.unusedSimpArgs false
def inst_Encode.f (a0_0 : Int) (a0_1 : Int) (a0_2 : Int) (a0_3 : Int) : Option (Int × Int) := (inst_Right.f a0_0 a0_1 a0_2 a0_3).bind fun t176 => (if t176 = true then (some (Go.bits .or .u32 (Go.bits .or .u32 (Go.bits .or .u32 ((((a0_0) % 4294967296) * 16777216) % 4294967296) ((((a0_1) % 4294967296) * 1048576) % 4294967296)) ((((a0_2) % 4294967296) * 65536) % 4294967296)) ((a0_3) % 4294967296), 0)) else (some (0, 1)))
set_option maxHeartbeats 8000000 in
set_option maxRecDepth 100000 in
theorem inst_Encode.calls (a0_0 : Int) (a0_1 : Int) (a0_2 : Int) (a0_3 : Int) (r1 : Int) (r2 : Int) (w : World) (hGK : GK w) (h : inst_Encode.f a0_0 a0_1 a0_2 a0_3 = some (r1, r2)) :
    Calls Tryd.prog 38 #[.agg #[.int .i64 a0_0, .int .i64 a0_1, .int .i64 a0_2, .int .i64 a0_3]] w fun e w' => e = .returned (.tuple #[.int .u32 r1, .int .i64 r2]) ∧ Below w.heap.size w w' := by
  have hu46 := Tryd.underlying46
  have HGK := Aside0.mk hGK
  clear hGK
  have HB := Aside0.mk (Below.refl w.heap.size w)
  have H : ((inst_Right.f a0_0 a0_1 a0_2 a0_3).bind fun t176 => (if t176 = true then (some (Go.bits .or .u32 (Go.bits .or .u32 (Go.bits .or .u32 ((((a0_0) % 4294967296) * 16777216) % 4294967296) ((((a0_1) % 4294967296) * 1048576) % 4294967296)) ((((a0_2) % 4294967296) * 65536) % 4294967296)) ((a0_3) % 4294967296), 0)) else (some (0, 1)))) = some (r1, r2) := h
  clear h
  replace H := Option.bind_eq_some_iff.mp H
  obtain ⟨t176, A20, H⟩ := H
  replace H : (if t176 = true then (some (Go.bits .or .u32 (Go.bits .or .u32 (Go.bits .or .u32 ((((a0_0) % 4294967296) * 16777216) % 4294967296) ((((a0_1) % 4294967296) * 1048576) % 4294967296)) ((((a0_2) % 4294967296) * 65536) % 4294967296)) ((a0_3) % 4294967296), 0)) else (some (0, 1))) = some (r1, r2) := H
  have A2 := Aside0.mk A20
  clear A20
  by_cases c3 : t176 = true
  · subst c3
    have H1 : (some (Go.bits .or .u32 (Go.bits .or .u32 (Go.bits .or .u32 ((((a0_0) % 4294967296) * 16777216) % 4294967296) ((((a0_1) % 4294967296) * 1048576) % 4294967296)) ((((a0_2) % 4294967296) * 65536) % 4294967296)) ((a0_3) % 4294967296), 0)) = some (r1, r2) := by rw [if_pos rfl] at H; exact H
    clear H
    have H := H1
    clear H1
    simp only [Option.some.injEq, Prod.mk.injEq] at H
    obtain ⟨rfl, rfl⟩ := H
    go_enter Tryd.func38, Tryd.ntmps38
    go_wp2_with (first | ((with_reducible refine gate_dst (N := 1) rfl ?_); refine box_event ?hg (N := 1) ?hd (cs := #[.int .i64 a0_0, .int .i64 a0_1, .int .i64 a0_2, .int .i64 a0_3]) (t := 46) ?hr ?_; (case hd => rfl); (case hg => rfl); (case hr => first | (go_simp; done) | (go_simp; rfl)); intro gb175 hg w4 hbox hb; have n0_ := Aside0.mk (below_step (by repeat (first | (with_reducible first | exact HB.out | apply below_alloc | apply pw_below_drewN | apply below_drew1) | exact HB.out)) hb); have n1_ := Aside0.mk (hbox); have n2_ := Aside0.mk ((by rw [hg]; exact (below_size (by repeat (first | (with_reducible first | exact HB.out | apply below_alloc | apply pw_below_drewN | apply below_drew1) | exact HB.out))) : w.heap.size ≤ gb175)); have n3_ := Aside0.mk ((by rw [hg]; exact (below_size (by repeat (first | (with_reducible first | exact HB.out | apply below_alloc | apply pw_below_drewN | apply below_drew1) | exact HB.out))) : w.heap.size ≤ gb175)); clear HB; have HB := n0_; have BK175 := n1_; have GW175 := n2_; have GE175 := n3_; clear n0_ n1_ n2_ n3_; clear hb hbox hg; have hcz5_0 : w4.cell? ⟨gb175, 0, none⟩ = some (.int .i64 a0_0) := (blk_cell BK175.out 0).trans rfl; have hcz5_1 : w4.cell? ⟨gb175, 1, none⟩ = some (.int .i64 a0_1) := (blk_cell BK175.out 1).trans rfl; have hcz5_2 : w4.cell? ⟨gb175, 2, none⟩ = some (.int .i64 a0_2) := (blk_cell BK175.out 2).trans rfl; have hcz5_3 : w4.cell? ⟨gb175, 3, none⟩ = some (.int .i64 a0_3) := (blk_cell BK175.out 3).trans rfl; have hfz5_0 := blk_frozen BK175.out 0; have hfz5_1 := blk_frozen BK175.out 1; have hfz5_2 := blk_frozen BK175.out 2; have hfz5_3 := blk_frozen BK175.out 3) | ((with_reducible refine gate_callee (f := 40) rfl ?_); refine goesL_ (some 5) rfl rfl Tryd.func40 (by kernel_rfl) rfl #[.agg #[.int .i64 a0_0, .int .i64 a0_1, .int .i64 a0_2, .int .i64 a0_3]] rfl (by (try simp only [List.map_toArray, List.map_cons, List.map_nil]); first | done | rfl | (simp only [List.length_drop, List.length_take]; rfl)) ?_; (with_reducible refine (inst_Right.calls a0_0 a0_1 a0_2 a0_3 true _ ?side1 A2.out).mono ?_); (case side1 => exact GK.below HGK.out (by repeat (first | (with_reducible first | exact HB.out | apply below_alloc | apply pw_below_drewN | apply below_drew1 | refine below_set ?_ GE175.out) | exact HB.out))); rintro e w6 ⟨rfl, hb⟩; refine ⟨_, rfl, ?_⟩; have n0_ := Aside0.mk (blk_below (g := gb175) (o := .cells #[.int .i64 a0_0, .int .i64 a0_1, .int .i64 a0_2, .int .i64 a0_3] 46 (0, 0)) (by (with_reducible repeat (first | refine blk_drewN ?_ _ | refine blk_drew ?_ | refine blk_alloc ?_ _)); exact BK175.out) hb); have n1_ := Aside0.mk (below_step (by repeat (first | (with_reducible first | exact HB.out | apply below_alloc | apply pw_below_drewN | apply below_drew1 | refine below_set ?_ GE175.out) | exact HB.out)) hb); clear BK175; clear HB; have BK175 := n0_; have HB := n1_; clear n0_ n1_; (try clear hb); (try clear hb2); (try clear hk); (try clear hi); have hcz7_0 : w6.cell? ⟨gb175, 0, none⟩ = some (.int .i64 a0_0) := (blk_cell BK175.out 0).trans rfl; have hcz7_1 : w6.cell? ⟨gb175, 1, none⟩ = some (.int .i64 a0_1) := (blk_cell BK175.out 1).trans rfl; have hcz7_2 : w6.cell? ⟨gb175, 2, none⟩ = some (.int .i64 a0_2) := (blk_cell BK175.out 2).trans rfl; have hcz7_3 : w6.cell? ⟨gb175, 3, none⟩ = some (.int .i64 a0_3) := (blk_cell BK175.out 3).trans rfl; have hfz7_0 := blk_frozen BK175.out 0; have hfz7_1 := blk_frozen BK175.out 1; have hfz7_2 := blk_frozen BK175.out 2; have hfz7_3 := blk_frozen BK175.out 3))
    go_ret2
    exact ⟨by first | rfl | (simp [errW_none, errW_some] <;> rfl) | (simp [*, errW_none, errW_some] <;> rfl), by repeat (first | (with_reducible first | exact HB.out | apply below_alloc | apply pw_below_drewN | apply below_drew1 | refine below_set ?_ GE175.out) | exact HB.out)⟩
  · replace c3 := Bool.eq_false_iff.mpr c3
    subst c3
    have H1 : (some (0, 1)) = some (r1, r2) := by rw [if_neg (show ¬ (false = true) by decide)] at H; exact H
    clear H
    have H := H1
    clear H1
    simp only [Option.some.injEq, Prod.mk.injEq] at H
    obtain ⟨rfl, rfl⟩ := H
    go_enter Tryd.func38, Tryd.ntmps38
    go_wp2_with (first | ((with_reducible refine gate_dst (N := 1) rfl ?_); refine box_event ?hg (N := 1) ?hd (cs := #[.int .i64 a0_0, .int .i64 a0_1, .int .i64 a0_2, .int .i64 a0_3]) (t := 46) ?hr ?_; (case hd => rfl); (case hg => rfl); (case hr => first | (go_simp; done) | (go_simp; rfl)); intro gb175 hg w8 hbox hb; have n0_ := Aside0.mk (below_step (by repeat (first | (with_reducible first | exact HB.out | apply below_alloc | apply pw_below_drewN | apply below_drew1) | exact HB.out)) hb); have n1_ := Aside0.mk (hbox); have n2_ := Aside0.mk ((by rw [hg]; exact (below_size (by repeat (first | (with_reducible first | exact HB.out | apply below_alloc | apply pw_below_drewN | apply below_drew1) | exact HB.out))) : w.heap.size ≤ gb175)); have n3_ := Aside0.mk ((by rw [hg]; exact (below_size (by repeat (first | (with_reducible first | exact HB.out | apply below_alloc | apply pw_below_drewN | apply below_drew1) | exact HB.out))) : w.heap.size ≤ gb175)); clear HB; have HB := n0_; have BK175 := n1_; have GW175 := n2_; have GE175 := n3_; clear n0_ n1_ n2_ n3_; clear hb hbox hg; have hcz9_0 : w8.cell? ⟨gb175, 0, none⟩ = some (.int .i64 a0_0) := (blk_cell BK175.out 0).trans rfl; have hcz9_1 : w8.cell? ⟨gb175, 1, none⟩ = some (.int .i64 a0_1) := (blk_cell BK175.out 1).trans rfl; have hcz9_2 : w8.cell? ⟨gb175, 2, none⟩ = some (.int .i64 a0_2) := (blk_cell BK175.out 2).trans rfl; have hcz9_3 : w8.cell? ⟨gb175, 3, none⟩ = some (.int .i64 a0_3) := (blk_cell BK175.out 3).trans rfl; have hfz9_0 := blk_frozen BK175.out 0; have hfz9_1 := blk_frozen BK175.out 1; have hfz9_2 := blk_frozen BK175.out 2; have hfz9_3 := blk_frozen BK175.out 3) | ((with_reducible refine gate_callee (f := 40) rfl ?_); refine goesL_ (some 5) rfl rfl Tryd.func40 (by kernel_rfl) rfl #[.agg #[.int .i64 a0_0, .int .i64 a0_1, .int .i64 a0_2, .int .i64 a0_3]] rfl (by (try simp only [List.map_toArray, List.map_cons, List.map_nil]); first | done | rfl | (simp only [List.length_drop, List.length_take]; rfl)) ?_; (with_reducible refine (inst_Right.calls a0_0 a0_1 a0_2 a0_3 false _ ?side1 A2.out).mono ?_); (case side1 => exact GK.below HGK.out (by repeat (first | (with_reducible first | exact HB.out | apply below_alloc | apply pw_below_drewN | apply below_drew1 | refine below_set ?_ GE175.out) | exact HB.out))); rintro e w10 ⟨rfl, hb⟩; refine ⟨_, rfl, ?_⟩; have n0_ := Aside0.mk (blk_below (g := gb175) (o := .cells #[.int .i64 a0_0, .int .i64 a0_1, .int .i64 a0_2, .int .i64 a0_3] 46 (0, 0)) (by (with_reducible repeat (first | refine blk_drewN ?_ _ | refine blk_drew ?_ | refine blk_alloc ?_ _)); exact BK175.out) hb); have n1_ := Aside0.mk (below_step (by repeat (first | (with_reducible first | exact HB.out | apply below_alloc | apply pw_below_drewN | apply below_drew1 | refine below_set ?_ GE175.out) | exact HB.out)) hb); clear BK175; clear HB; have BK175 := n0_; have HB := n1_; clear n0_ n1_; (try clear hb); (try clear hb2); (try clear hk); (try clear hi)))
    go_ret2
    exact ⟨by first | rfl | (simp [errW_none, errW_some] <;> rfl) | (simp [*, errW_none, errW_some] <;> rfl), by repeat (first | (with_reducible first | exact HB.out | apply below_alloc | apply pw_below_drewN | apply below_drew1 | refine below_set ?_ GE175.out) | exact HB.out)⟩
end Go.Proofs.YtdhkmdgieflioaaDoor.F
namespace Go.Proofs.YtdhkmdgieflioaaDoor.F
open Go.RowKit Go.Proofs.YtdhkmdgieflioaaDoorW.PrintWords Go.Proofs.YtdhkmdgieflioaaDoorW.PrintLast Go.Proofs.YtdhkmdgieflioaaDoorW.PrintMore
attribute [local go_sem] max2_int min2_int max_two min_two max_three min_three max_four min_four
set_option linter.unusedVariables false
set_option linter.unusedSimpArgs false
def inst_Decode.f (a0 : Int) : Option (Int × Int × Int × Int × Int) := (inst_Right.f (wrap64 (a0 / 16777216)) (wrap64 (Go.bits .and .u32 (a0 / 1048576) 15)) (wrap64 (Go.bits .and .u32 (a0 / 65536) 15)) (wrap64 (Go.bits .and .u32 a0 65535))).bind fun t300 => (if t300 = true then (some (wrap64 (a0 / 16777216), wrap64 (Go.bits .and .u32 (a0 / 1048576) 15), wrap64 (Go.bits .and .u32 (a0 / 65536) 15), wrap64 (Go.bits .and .u32 a0 65535), 0)) else (some (0, 0, 0, 0, 7)))
set_option maxHeartbeats 8000000 in
set_option maxRecDepth 100000 in
theorem inst_Decode.calls (a0 : Int) (r1 : Int) (r2 : Int) (r3 : Int) (r4 : Int) (r5 : Int) (w : World) (hGK : GK w) (h : inst_Decode.f a0 = some (r1, r2, r3, r4, r5)) :
    Calls Tryd.prog 44 #[.int .u32 a0] w fun e w' => e = .returned (.tuple #[.agg #[.int .i64 r1, .int .i64 r2, .int .i64 r3, .int .i64 r4], .int .i64 r5]) ∧ Below w.heap.size w w' := by
  have hu46 := Tryd.underlying46
  have HGK := Aside0.mk hGK
  clear hGK
  have HB := Aside0.mk (Below.refl w.heap.size w)
  have H : ((inst_Right.f (wrap64 (a0 / 16777216)) (wrap64 (Go.bits .and .u32 (a0 / 1048576) 15)) (wrap64 (Go.bits .and .u32 (a0 / 65536) 15)) (wrap64 (Go.bits .and .u32 a0 65535))).bind fun t300 => (if t300 = true then (some (wrap64 (a0 / 16777216), wrap64 (Go.bits .and .u32 (a0 / 1048576) 15), wrap64 (Go.bits .and .u32 (a0 / 65536) 15), wrap64 (Go.bits .and .u32 a0 65535), 0)) else (some (0, 0, 0, 0, 7)))) = some (r1, r2, r3, r4, r5) := h
  clear h
  replace H := Option.bind_eq_some_iff.mp H
  obtain ⟨t300, A20, H⟩ := H
  replace H : (if t300 = true then (some (wrap64 (a0 / 16777216), wrap64 (Go.bits .and .u32 (a0 / 1048576) 15), wrap64 (Go.bits .and .u32 (a0 / 65536) 15), wrap64 (Go.bits .and .u32 a0 65535), 0)) else (some (0, 0, 0, 0, 7))) = some (r1, r2, r3, r4, r5) := H
  have A2 := Aside0.mk A20
  clear A20
  by_cases c3 : t300 = true
  · subst c3
    have H1 : (some (wrap64 (a0 / 16777216), wrap64 (Go.bits .and .u32 (a0 / 1048576) 15), wrap64 (Go.bits .and .u32 (a0 / 65536) 15), wrap64 (Go.bits .and .u32 a0 65535), 0)) = some (r1, r2, r3, r4, r5) := by rw [if_pos rfl] at H; exact H
    clear H
    have H := H1
    clear H1
    simp only [Option.some.injEq, Prod.mk.injEq] at H
    obtain ⟨rfl, rfl, rfl, rfl, rfl⟩ := H
    go_enter Tryd.func44, Tryd.ntmps44
    go_wp2_with (first | ((with_reducible refine gate_dst (N := 2) rfl ?_); refine box_event ?hg (N := 2) ?hd (cs := #[.int .i64 0, .int .i64 0, .int .i64 0, .int .i64 0]) (t := 46) ?hr ?_; (case hd => rfl); (case hg => rfl); (case hr => first | (go_simp; done) | (go_simp; rfl)); intro gb298 hg w4 hbox hb; have n0_ := Aside0.mk (below_step (by repeat (first | (with_reducible first | exact HB.out | apply below_alloc | apply pw_below_drewN | apply below_drew1) | exact HB.out)) hb); have n1_ := Aside0.mk (hbox); have n2_ := Aside0.mk ((by rw [hg]; exact (below_size (by repeat (first | (with_reducible first | exact HB.out | apply below_alloc | apply pw_below_drewN | apply below_drew1) | exact HB.out))) : w.heap.size ≤ gb298)); have n3_ := Aside0.mk ((by rw [hg]; exact (below_size (by repeat (first | (with_reducible first | exact HB.out | apply below_alloc | apply pw_below_drewN | apply below_drew1) | exact HB.out))) : w.heap.size ≤ gb298)); clear HB; have HB := n0_; have BK298 := n1_; have GW298 := n2_; have GE298 := n3_; clear n0_ n1_ n2_ n3_; clear hb hbox hg) | ((with_reducible refine gate_dst (N := 4) rfl ?_); refine box_event ?hg (N := 4) ?hd (cs := #[.int .i64 0, .int .i64 0, .int .i64 0, .int .i64 0]) (t := 46) ?hr ?_; (case hd => rfl); (case hg => rfl); (case hr => first | (go_simp; done) | (go_simp; rfl)); intro gb299 hg w5 hbox hb; have n0_ := Aside0.mk (blk_below (g := gb298) (o := .cells #[.int .i64 0, .int .i64 0, .int .i64 0, .int .i64 0] 46 (0, 0)) (by (with_reducible repeat (first | refine blk_drewN ?_ _ | refine blk_drew ?_ | refine blk_alloc ?_ _)); exact BK298.out) hb); have n1_ := Aside0.mk (below_step (by repeat (first | (with_reducible first | exact HB.out | apply below_alloc | apply pw_below_drewN | apply below_drew1 | refine below_set ?_ GE298.out) | exact HB.out)) hb); have n2_ := Aside0.mk (hbox); have n3_ := Aside0.mk ((by rw [hg]; exact (below_size (by repeat (first | (with_reducible first | exact HB.out | apply below_alloc | apply pw_below_drewN | apply below_drew1 | refine below_set ?_ GE298.out) | exact HB.out))) : w.heap.size ≤ gb299)); have n4_ := Aside0.mk ((by rw [hg]; exact (below_size (by repeat (first | (with_reducible first | exact HB.out | apply below_alloc | apply pw_below_drewN | apply below_drew1 | refine below_set ?_ GE298.out) | exact HB.out))) : w.heap.size ≤ gb299)); have n5_ := Aside0.mk ((by rw [hg]; exact Nat.ne_of_lt (blk_lt (g := gb298) (o := .cells #[.int .i64 0, .int .i64 0, .int .i64 0, .int .i64 0] 46 (0, 0)) (by (with_reducible repeat (first | refine blk_drewN ?_ _ | refine blk_drew ?_ | refine blk_alloc ?_ _)); exact BK298.out)) : gb298 ≠ gb299)); have n6_ := Aside0.mk ((by rw [hg]; exact Nat.ne_of_gt (blk_lt (g := gb298) (o := .cells #[.int .i64 0, .int .i64 0, .int .i64 0, .int .i64 0] 46 (0, 0)) (by (with_reducible repeat (first | refine blk_drewN ?_ _ | refine blk_drew ?_ | refine blk_alloc ?_ _)); exact BK298.out)) : gb299 ≠ gb298)); clear BK298; clear HB; have BK298 := n0_; have HB := n1_; have BK299 := n2_; have GW299 := n3_; have GE299 := n4_; have NB298_299 := n5_; have NB299_298 := n6_; clear n0_ n1_ n2_ n3_ n4_ n5_ n6_; clear hb hbox hg; have hnb6 := NB299_298.out; have hnc6 := NB298_299.out; have hcz7_0 : w5.cell? ⟨gb299, 0, none⟩ = some (.int .i64 0) := (blk_cell BK299.out 0).trans rfl; have hcz7_1 : w5.cell? ⟨gb299, 1, none⟩ = some (.int .i64 0) := (blk_cell BK299.out 1).trans rfl; have hcz7_2 : w5.cell? ⟨gb299, 2, none⟩ = some (.int .i64 0) := (blk_cell BK299.out 2).trans rfl; have hcz7_3 : w5.cell? ⟨gb299, 3, none⟩ = some (.int .i64 0) := (blk_cell BK299.out 3).trans rfl; have hfz7_0 := blk_frozen BK299.out 0; have hfz7_1 := blk_frozen BK299.out 1; have hfz7_2 := blk_frozen BK299.out 2; have hfz7_3 := blk_frozen BK299.out 3) | ((with_reducible refine gate_callee (f := 40) rfl ?_); refine goesL_ (some 21) rfl rfl Tryd.func40 (by kernel_rfl) rfl #[.agg #[.int .i64 (wrap64 (a0 / 16777216)), .int .i64 (wrap64 (Go.bits .and .u32 (a0 / 1048576) 15)), .int .i64 (wrap64 (Go.bits .and .u32 (a0 / 65536) 15)), .int .i64 (wrap64 (Go.bits .and .u32 a0 65535))]] rfl (by (try simp only [List.map_toArray, List.map_cons, List.map_nil]); first | done | rfl | (simp only [List.length_drop, List.length_take]; rfl)) ?_; (with_reducible refine (inst_Right.calls (wrap64 (a0 / 16777216)) (wrap64 (Go.bits .and .u32 (a0 / 1048576) 15)) (wrap64 (Go.bits .and .u32 (a0 / 65536) 15)) (wrap64 (Go.bits .and .u32 a0 65535)) true _ ?side1 A2.out).mono ?_); (case side1 => exact GK.below HGK.out (by repeat (first | (with_reducible first | exact HB.out | apply below_alloc | apply pw_below_drewN | apply below_drew1 | refine below_set ?_ GE298.out | refine below_set ?_ GE299.out) | exact HB.out))); rintro e w8 ⟨rfl, hb⟩; refine ⟨_, rfl, ?_⟩; have n0_ := Aside0.mk (blk_below (g := gb298) (o := .cells #[.int .i64 0, .int .i64 0, .int .i64 0, .int .i64 0] 46 (0, 0)) (by (with_reducible repeat (first | refine blk_drewN ?_ _ | refine blk_drew ?_ | refine blk_alloc ?_ _)); refine blk_far ?_ NB298_299.out _; (with_reducible repeat (first | refine blk_drewN ?_ _ | refine blk_drew ?_ | refine blk_alloc ?_ _)); refine blk_far ?_ NB298_299.out _; (with_reducible repeat (first | refine blk_drewN ?_ _ | refine blk_drew ?_ | refine blk_alloc ?_ _)); refine blk_far ?_ NB298_299.out _; (with_reducible repeat (first | refine blk_drewN ?_ _ | refine blk_drew ?_ | refine blk_alloc ?_ _)); refine blk_far ?_ NB298_299.out _; (with_reducible repeat (first | refine blk_drewN ?_ _ | refine blk_drew ?_ | refine blk_alloc ?_ _)); exact BK298.out) hb); have n1_ := Aside0.mk (blk_below (g := gb299) (o := .cells #[.int .i64 (wrap64 (a0 / 16777216)), .int .i64 (wrap64 (Go.bits .and .u32 (a0 / 1048576) 15)), .int .i64 (wrap64 (Go.bits .and .u32 (a0 / 65536) 15)), .int .i64 (wrap64 (Go.bits .and .u32 a0 65535))] 46 (0, 0)) (by (with_reducible repeat (first | refine blk_drewN ?_ _ | refine blk_drew ?_ | refine blk_alloc ?_ _)); refine blk_put (cs := #[.int .i64 (wrap64 (a0 / 16777216)), .int .i64 (wrap64 (Go.bits .and .u32 (a0 / 1048576) 15)), .int .i64 (wrap64 (Go.bits .and .u32 (a0 / 65536) 15)), .int .i64 0]) ?_ 3 _ rfl; (with_reducible repeat (first | refine blk_drewN ?_ _ | refine blk_drew ?_ | refine blk_alloc ?_ _)); refine blk_put (cs := #[.int .i64 (wrap64 (a0 / 16777216)), .int .i64 (wrap64 (Go.bits .and .u32 (a0 / 1048576) 15)), .int .i64 0, .int .i64 0]) ?_ 2 _ rfl; (with_reducible repeat (first | refine blk_drewN ?_ _ | refine blk_drew ?_ | refine blk_alloc ?_ _)); refine blk_put (cs := #[.int .i64 (wrap64 (a0 / 16777216)), .int .i64 0, .int .i64 0, .int .i64 0]) ?_ 1 _ rfl; (with_reducible repeat (first | refine blk_drewN ?_ _ | refine blk_drew ?_ | refine blk_alloc ?_ _)); refine blk_put (cs := #[.int .i64 0, .int .i64 0, .int .i64 0, .int .i64 0]) ?_ 0 _ rfl; (with_reducible repeat (first | refine blk_drewN ?_ _ | refine blk_drew ?_ | refine blk_alloc ?_ _)); exact BK299.out) hb); have n2_ := Aside0.mk (below_step (by repeat (first | (with_reducible first | exact HB.out | apply below_alloc | apply pw_below_drewN | apply below_drew1 | refine below_set ?_ GE298.out | refine below_set ?_ GE299.out) | exact HB.out)) hb); clear BK298; clear BK299; clear HB; have BK298 := n0_; have BK299 := n1_; have HB := n2_; clear n0_ n1_ n2_; (try clear hb); (try clear hb2); (try clear hk); (try clear hi); have hcz9_0 : w8.cell? ⟨gb299, 0, none⟩ = some (.int .i64 (wrap64 (a0 / 16777216))) := (blk_cell BK299.out 0).trans rfl; have hcz9_1 : w8.cell? ⟨gb299, 1, none⟩ = some (.int .i64 (wrap64 (Go.bits .and .u32 (a0 / 1048576) 15))) := (blk_cell BK299.out 1).trans rfl; have hcz9_2 : w8.cell? ⟨gb299, 2, none⟩ = some (.int .i64 (wrap64 (Go.bits .and .u32 (a0 / 65536) 15))) := (blk_cell BK299.out 2).trans rfl; have hcz9_3 : w8.cell? ⟨gb299, 3, none⟩ = some (.int .i64 (wrap64 (Go.bits .and .u32 a0 65535))) := (blk_cell BK299.out 3).trans rfl; have hfz9_0 := blk_frozen BK299.out 0; have hfz9_1 := blk_frozen BK299.out 1; have hfz9_2 := blk_frozen BK299.out 2; have hfz9_3 := blk_frozen BK299.out 3; have hcz10_0 : w8.cell? ⟨gb298, 0, none⟩ = some (.int .i64 0) := (blk_cell BK298.out 0).trans rfl; have hcz10_1 : w8.cell? ⟨gb298, 1, none⟩ = some (.int .i64 0) := (blk_cell BK298.out 1).trans rfl; have hcz10_2 : w8.cell? ⟨gb298, 2, none⟩ = some (.int .i64 0) := (blk_cell BK298.out 2).trans rfl; have hcz10_3 : w8.cell? ⟨gb298, 3, none⟩ = some (.int .i64 0) := (blk_cell BK298.out 3).trans rfl; have hfz10_0 := blk_frozen BK298.out 0; have hfz10_1 := blk_frozen BK298.out 1; have hfz10_2 := blk_frozen BK298.out 2; have hfz10_3 := blk_frozen BK298.out 3))
    refine bodyPost_ret (results_ct rfl _ _ gb298 46 #[.int .i64 (wrap64 (a0 / 16777216)), .int .i64 (wrap64 (Go.bits .and .u32 (a0 / 1048576) 15)), .int .i64 (wrap64 (Go.bits .and .u32 (a0 / 65536) 15)), .int .i64 (wrap64 (Go.bits .and .u32 a0 65535))] (0, 0) _ rfl (by (with_reducible repeat (first | refine blk_drewN ?_ _ | refine blk_drew ?_ | refine blk_alloc ?_ _)); refine blk_put (cs := #[.int .i64 (wrap64 (a0 / 16777216)), .int .i64 (wrap64 (Go.bits .and .u32 (a0 / 1048576) 15)), .int .i64 (wrap64 (Go.bits .and .u32 (a0 / 65536) 15)), .int .i64 0]) ?_ 3 _ rfl; (with_reducible repeat (first | refine blk_drewN ?_ _ | refine blk_drew ?_ | refine blk_alloc ?_ _)); refine blk_put (cs := #[.int .i64 (wrap64 (a0 / 16777216)), .int .i64 (wrap64 (Go.bits .and .u32 (a0 / 1048576) 15)), .int .i64 0, .int .i64 0]) ?_ 2 _ rfl; (with_reducible repeat (first | refine blk_drewN ?_ _ | refine blk_drew ?_ | refine blk_alloc ?_ _)); refine blk_put (cs := #[.int .i64 (wrap64 (a0 / 16777216)), .int .i64 0, .int .i64 0, .int .i64 0]) ?_ 1 _ rfl; (with_reducible repeat (first | refine blk_drewN ?_ _ | refine blk_drew ?_ | refine blk_alloc ?_ _)); refine blk_put (cs := #[.int .i64 0, .int .i64 0, .int .i64 0, .int .i64 0]) ?_ 0 _ rfl; (with_reducible repeat (first | refine blk_drewN ?_ _ | refine blk_drew ?_ | refine blk_alloc ?_ _)); exact BK298.out) Tryd.underlying46 rfl (by kernel_rfl)) rfl ?_
    exact ⟨by first | rfl | (simp [errW_none, errW_some] <;> rfl) | (simp [*, errW_none, errW_some] <;> rfl), by repeat (first | (with_reducible first | exact HB.out | apply below_alloc | apply pw_below_drewN | apply below_drew1 | refine below_set ?_ GE298.out | refine below_set ?_ GE299.out) | exact HB.out)⟩
  · replace c3 := Bool.eq_false_iff.mpr c3
    subst c3
    have H1 : (some (0, 0, 0, 0, 7)) = some (r1, r2, r3, r4, r5) := by rw [if_neg (show ¬ (false = true) by decide)] at H; exact H
    clear H
    have H := H1
    clear H1
    simp only [Option.some.injEq, Prod.mk.injEq] at H
    obtain ⟨rfl, rfl, rfl, rfl, rfl⟩ := H
    go_enter Tryd.func44, Tryd.ntmps44
    go_wp2_with (first | ((with_reducible refine gate_dst (N := 2) rfl ?_); refine box_event ?hg (N := 2) ?hd (cs := #[.int .i64 0, .int .i64 0, .int .i64 0, .int .i64 0]) (t := 46) ?hr ?_; (case hd => rfl); (case hg => rfl); (case hr => first | (go_simp; done) | (go_simp; rfl)); intro gb298 hg w11 hbox hb; have n0_ := Aside0.mk (below_step (by repeat (first | (with_reducible first | exact HB.out | apply below_alloc | apply pw_below_drewN | apply below_drew1) | exact HB.out)) hb); have n1_ := Aside0.mk (hbox); have n2_ := Aside0.mk ((by rw [hg]; exact (below_size (by repeat (first | (with_reducible first | exact HB.out | apply below_alloc | apply pw_below_drewN | apply below_drew1) | exact HB.out))) : w.heap.size ≤ gb298)); have n3_ := Aside0.mk ((by rw [hg]; exact (below_size (by repeat (first | (with_reducible first | exact HB.out | apply below_alloc | apply pw_below_drewN | apply below_drew1) | exact HB.out))) : w.heap.size ≤ gb298)); clear HB; have HB := n0_; have BK298 := n1_; have GW298 := n2_; have GE298 := n3_; clear n0_ n1_ n2_ n3_; clear hb hbox hg) | ((with_reducible refine gate_dst (N := 4) rfl ?_); refine box_event ?hg (N := 4) ?hd (cs := #[.int .i64 0, .int .i64 0, .int .i64 0, .int .i64 0]) (t := 46) ?hr ?_; (case hd => rfl); (case hg => rfl); (case hr => first | (go_simp; done) | (go_simp; rfl)); intro gb299 hg w12 hbox hb; have n0_ := Aside0.mk (blk_below (g := gb298) (o := .cells #[.int .i64 0, .int .i64 0, .int .i64 0, .int .i64 0] 46 (0, 0)) (by (with_reducible repeat (first | refine blk_drewN ?_ _ | refine blk_drew ?_ | refine blk_alloc ?_ _)); exact BK298.out) hb); have n1_ := Aside0.mk (below_step (by repeat (first | (with_reducible first | exact HB.out | apply below_alloc | apply pw_below_drewN | apply below_drew1 | refine below_set ?_ GE298.out) | exact HB.out)) hb); have n2_ := Aside0.mk (hbox); have n3_ := Aside0.mk ((by rw [hg]; exact (below_size (by repeat (first | (with_reducible first | exact HB.out | apply below_alloc | apply pw_below_drewN | apply below_drew1 | refine below_set ?_ GE298.out) | exact HB.out))) : w.heap.size ≤ gb299)); have n4_ := Aside0.mk ((by rw [hg]; exact (below_size (by repeat (first | (with_reducible first | exact HB.out | apply below_alloc | apply pw_below_drewN | apply below_drew1 | refine below_set ?_ GE298.out) | exact HB.out))) : w.heap.size ≤ gb299)); have n5_ := Aside0.mk ((by rw [hg]; exact Nat.ne_of_lt (blk_lt (g := gb298) (o := .cells #[.int .i64 0, .int .i64 0, .int .i64 0, .int .i64 0] 46 (0, 0)) (by (with_reducible repeat (first | refine blk_drewN ?_ _ | refine blk_drew ?_ | refine blk_alloc ?_ _)); exact BK298.out)) : gb298 ≠ gb299)); have n6_ := Aside0.mk ((by rw [hg]; exact Nat.ne_of_gt (blk_lt (g := gb298) (o := .cells #[.int .i64 0, .int .i64 0, .int .i64 0, .int .i64 0] 46 (0, 0)) (by (with_reducible repeat (first | refine blk_drewN ?_ _ | refine blk_drew ?_ | refine blk_alloc ?_ _)); exact BK298.out)) : gb299 ≠ gb298)); clear BK298; clear HB; have BK298 := n0_; have HB := n1_; have BK299 := n2_; have GW299 := n3_; have GE299 := n4_; have NB298_299 := n5_; have NB299_298 := n6_; clear n0_ n1_ n2_ n3_ n4_ n5_ n6_; clear hb hbox hg; have hnb13 := NB299_298.out; have hnc13 := NB298_299.out; have hcz14_0 : w12.cell? ⟨gb299, 0, none⟩ = some (.int .i64 0) := (blk_cell BK299.out 0).trans rfl; have hcz14_1 : w12.cell? ⟨gb299, 1, none⟩ = some (.int .i64 0) := (blk_cell BK299.out 1).trans rfl; have hcz14_2 : w12.cell? ⟨gb299, 2, none⟩ = some (.int .i64 0) := (blk_cell BK299.out 2).trans rfl; have hcz14_3 : w12.cell? ⟨gb299, 3, none⟩ = some (.int .i64 0) := (blk_cell BK299.out 3).trans rfl; have hfz14_0 := blk_frozen BK299.out 0; have hfz14_1 := blk_frozen BK299.out 1; have hfz14_2 := blk_frozen BK299.out 2; have hfz14_3 := blk_frozen BK299.out 3) | ((with_reducible refine gate_callee (f := 40) rfl ?_); refine goesL_ (some 21) rfl rfl Tryd.func40 (by kernel_rfl) rfl #[.agg #[.int .i64 (wrap64 (a0 / 16777216)), .int .i64 (wrap64 (Go.bits .and .u32 (a0 / 1048576) 15)), .int .i64 (wrap64 (Go.bits .and .u32 (a0 / 65536) 15)), .int .i64 (wrap64 (Go.bits .and .u32 a0 65535))]] rfl (by (try simp only [List.map_toArray, List.map_cons, List.map_nil]); first | done | rfl | (simp only [List.length_drop, List.length_take]; rfl)) ?_; (with_reducible refine (inst_Right.calls (wrap64 (a0 / 16777216)) (wrap64 (Go.bits .and .u32 (a0 / 1048576) 15)) (wrap64 (Go.bits .and .u32 (a0 / 65536) 15)) (wrap64 (Go.bits .and .u32 a0 65535)) false _ ?side1 A2.out).mono ?_); (case side1 => exact GK.below HGK.out (by repeat (first | (with_reducible first | exact HB.out | apply below_alloc | apply pw_below_drewN | apply below_drew1 | refine below_set ?_ GE298.out | refine below_set ?_ GE299.out) | exact HB.out))); rintro e w15 ⟨rfl, hb⟩; refine ⟨_, rfl, ?_⟩; have n0_ := Aside0.mk (blk_below (g := gb298) (o := .cells #[.int .i64 0, .int .i64 0, .int .i64 0, .int .i64 0] 46 (0, 0)) (by (with_reducible repeat (first | refine blk_drewN ?_ _ | refine blk_drew ?_ | refine blk_alloc ?_ _)); refine blk_far ?_ NB298_299.out _; (with_reducible repeat (first | refine blk_drewN ?_ _ | refine blk_drew ?_ | refine blk_alloc ?_ _)); refine blk_far ?_ NB298_299.out _; (with_reducible repeat (first | refine blk_drewN ?_ _ | refine blk_drew ?_ | refine blk_alloc ?_ _)); refine blk_far ?_ NB298_299.out _; (with_reducible repeat (first | refine blk_drewN ?_ _ | refine blk_drew ?_ | refine blk_alloc ?_ _)); refine blk_far ?_ NB298_299.out _; (with_reducible repeat (first | refine blk_drewN ?_ _ | refine blk_drew ?_ | refine blk_alloc ?_ _)); exact BK298.out) hb); have n1_ := Aside0.mk (blk_below (g := gb299) (o := .cells #[.int .i64 (wrap64 (a0 / 16777216)), .int .i64 (wrap64 (Go.bits .and .u32 (a0 / 1048576) 15)), .int .i64 (wrap64 (Go.bits .and .u32 (a0 / 65536) 15)), .int .i64 (wrap64 (Go.bits .and .u32 a0 65535))] 46 (0, 0)) (by (with_reducible repeat (first | refine blk_drewN ?_ _ | refine blk_drew ?_ | refine blk_alloc ?_ _)); refine blk_put (cs := #[.int .i64 (wrap64 (a0 / 16777216)), .int .i64 (wrap64 (Go.bits .and .u32 (a0 / 1048576) 15)), .int .i64 (wrap64 (Go.bits .and .u32 (a0 / 65536) 15)), .int .i64 0]) ?_ 3 _ rfl; (with_reducible repeat (first | refine blk_drewN ?_ _ | refine blk_drew ?_ | refine blk_alloc ?_ _)); refine blk_put (cs := #[.int .i64 (wrap64 (a0 / 16777216)), .int .i64 (wrap64 (Go.bits .and .u32 (a0 / 1048576) 15)), .int .i64 0, .int .i64 0]) ?_ 2 _ rfl; (with_reducible repeat (first | refine blk_drewN ?_ _ | refine blk_drew ?_ | refine blk_alloc ?_ _)); refine blk_put (cs := #[.int .i64 (wrap64 (a0 / 16777216)), .int .i64 0, .int .i64 0, .int .i64 0]) ?_ 1 _ rfl; (with_reducible repeat (first | refine blk_drewN ?_ _ | refine blk_drew ?_ | refine blk_alloc ?_ _)); refine blk_put (cs := #[.int .i64 0, .int .i64 0, .int .i64 0, .int .i64 0]) ?_ 0 _ rfl; (with_reducible repeat (first | refine blk_drewN ?_ _ | refine blk_drew ?_ | refine blk_alloc ?_ _)); exact BK299.out) hb); have n2_ := Aside0.mk (below_step (by repeat (first | (with_reducible first | exact HB.out | apply below_alloc | apply pw_below_drewN | apply below_drew1 | refine below_set ?_ GE298.out | refine below_set ?_ GE299.out) | exact HB.out)) hb); clear BK298; clear BK299; clear HB; have BK298 := n0_; have BK299 := n1_; have HB := n2_; clear n0_ n1_ n2_; (try clear hb); (try clear hb2); (try clear hk); (try clear hi); have hcz16_0 : w15.cell? ⟨gb298, 0, none⟩ = some (.int .i64 0) := (blk_cell BK298.out 0).trans rfl; have hcz16_1 : w15.cell? ⟨gb298, 1, none⟩ = some (.int .i64 0) := (blk_cell BK298.out 1).trans rfl; have hcz16_2 : w15.cell? ⟨gb298, 2, none⟩ = some (.int .i64 0) := (blk_cell BK298.out 2).trans rfl; have hcz16_3 : w15.cell? ⟨gb298, 3, none⟩ = some (.int .i64 0) := (blk_cell BK298.out 3).trans rfl; have hfz16_0 := blk_frozen BK298.out 0; have hfz16_1 := blk_frozen BK298.out 1; have hfz16_2 := blk_frozen BK298.out 2; have hfz16_3 := blk_frozen BK298.out 3))
    refine bodyPost_ret (results_ct rfl _ _ gb298 46 #[.int .i64 0, .int .i64 0, .int .i64 0, .int .i64 0] (0, 0) _ rfl (by (with_reducible repeat (first | refine blk_drewN ?_ _ | refine blk_drew ?_ | refine blk_alloc ?_ _)); refine blk_put (cs := #[.int .i64 0, .int .i64 0, .int .i64 0, .int .i64 0]) ?_ 3 _ rfl; (with_reducible repeat (first | refine blk_drewN ?_ _ | refine blk_drew ?_ | refine blk_alloc ?_ _)); refine blk_put (cs := #[.int .i64 0, .int .i64 0, .int .i64 0, .int .i64 0]) ?_ 2 _ rfl; (with_reducible repeat (first | refine blk_drewN ?_ _ | refine blk_drew ?_ | refine blk_alloc ?_ _)); refine blk_put (cs := #[.int .i64 0, .int .i64 0, .int .i64 0, .int .i64 0]) ?_ 1 _ rfl; (with_reducible repeat (first | refine blk_drewN ?_ _ | refine blk_drew ?_ | refine blk_alloc ?_ _)); refine blk_put (cs := #[.int .i64 0, .int .i64 0, .int .i64 0, .int .i64 0]) ?_ 0 _ rfl; (with_reducible repeat (first | refine blk_drewN ?_ _ | refine blk_drew ?_ | refine blk_alloc ?_ _)); exact BK298.out) Tryd.underlying46 rfl (by kernel_rfl)) rfl ?_
    exact ⟨by first | rfl | (simp [errW_none, errW_some] <;> rfl) | (simp [*, errW_none, errW_some] <;> rfl), by repeat (first | (with_reducible first | exact HB.out | apply below_alloc | apply pw_below_drewN | apply below_drew1 | refine below_set ?_ GE298.out | refine below_set ?_ GE299.out) | exact HB.out)⟩
end Go.Proofs.YtdhkmdgieflioaaDoor.F
namespace Go.Proofs.YtdhkmdgieflioaaDoor.F
open Go.RowKit Go.Proofs.YtdhkmdgieflioaaDoorW.PrintWords Go.Proofs.YtdhkmdgieflioaaDoorW.PrintLast Go.Proofs.YtdhkmdgieflioaaDoorW.PrintMore
set_option linter.unusedVariables false
set_option linter.unusedSimpArgs false
def seedWords : List Int := codeRows.map fun r => r.1.getD 0 0 * 16777216 + r.1.getD 1 0 * 1048576 + r.1.getD 2 0 * 65536 + r.1.getD 3 0
theorem code_load (W : World) (h : GC W) : ∃ t fr, W.heap[1]? = some (.cells codeCells t fr) := by
  have h1 := h.out
  unfold World.var? at h1
  rw [g_code] at h1
  simp only [Option.bind_some] at h1
  split at h1
  · rename_i c t fr hc
    obtain rfl := Option.some.inj h1
    exact ⟨t, fr, hc⟩
  · cases h1
theorem code_0 : seedWords[0]? = some 27262992 ∧ inst_Encode.f 1 10 0 16 = some (27262992, 0) ∧ ∀ W, (Instr.index 102 (.agg codeCells) (.int .i64 0)).run Tryd.prog W = .ok (.agg #[.int .i64 1, .int .i64 10, .int .i64 0, .int .i64 16, .string ⟨#[49, 54]⟩]) W :=
  ⟨by kernel_rfl, by kernel_rfl, fun _ => by kernel_rfl⟩
theorem code_1 : seedWords[1]? = some 28311562 ∧ inst_Encode.f 1 11 0 10 = some (28311562, 0) ∧ ∀ W, (Instr.index 102 (.agg codeCells) (.int .i64 1)).run Tryd.prog W = .ok (.agg #[.int .i64 1, .int .i64 11, .int .i64 0, .int .i64 10, .string ⟨#[49, 48, 44, 32, 97, 32, 108, 105, 110, 101, 32, 102, 101, 101, 100, 44, 32, 116, 111, 111]⟩]) W :=
  ⟨by kernel_rfl, by kernel_rfl, fun _ => by kernel_rfl⟩
theorem code_2 : seedWords[2]? = some 386924544 ∧ inst_Encode.f 23 1 0 0 = some (386924544, 0) ∧ ∀ W, (Instr.index 102 (.agg codeCells) (.int .i64 2)).run Tryd.prog W = .ok (.agg #[.int .i64 23, .int .i64 1, .int .i64 0, .int .i64 0, .string ⟨#[116, 104, 101, 32, 110, 101, 120, 116, 32, 98, 121, 116, 101]⟩]) W :=
  ⟨by kernel_rfl, by kernel_rfl, fun _ => by kernel_rfl⟩
theorem code_3 : seedWords[3]? = some 18874624 ∧ inst_Encode.f 1 2 0 256 = some (18874624, 0) ∧ ∀ W, (Instr.index 102 (.agg codeCells) (.int .i64 3)).run Tryd.prog W = .ok (.agg #[.int .i64 1, .int .i64 2, .int .i64 0, .int .i64 256, .string ⟨#[116, 104, 101, 32, 101, 110, 100, 63]⟩]) W :=
  ⟨by kernel_rfl, by kernel_rfl, fun _ => by kernel_rfl⟩
theorem code_4 : seedWords[4]? = some 256966658 ∧ inst_Encode.f 15 5 1 2 = some (256966658, 0) ∧ ∀ W, (Instr.index 102 (.agg codeCells) (.int .i64 4)).run Tryd.prog W = .ok (.agg #[.int .i64 15, .int .i64 5, .int .i64 1, .int .i64 2, .string ⟨#[]⟩]) W :=
  ⟨by kernel_rfl, by kernel_rfl, fun _ => by kernel_rfl⟩
theorem code_5 : seedWords[5]? = some 340787236 ∧ inst_Encode.f 20 5 0 36 = some (340787236, 0) ∧ ∀ W, (Instr.index 102 (.agg codeCells) (.int .i64 5)).run Tryd.prog W = .ok (.agg #[.int .i64 20, .int .i64 5, .int .i64 0, .int .i64 36, .string ⟨#[116, 104, 101, 110, 32, 104, 97, 108, 116]⟩]) W :=
  ⟨by kernel_rfl, by kernel_rfl, fun _ => by kernel_rfl⟩
theorem code_6 : seedWords[6]? = some 18874403 ∧ inst_Encode.f 1 2 0 35 = some (18874403, 0) ∧ ∀ W, (Instr.index 102 (.agg codeCells) (.int .i64 6)).run Tryd.prog W = .ok (.agg #[.int .i64 1, .int .i64 2, .int .i64 0, .int .i64 35, .string ⟨#[97, 32, 110, 111, 116, 101, 63]⟩]) W :=
  ⟨by kernel_rfl, by kernel_rfl, fun _ => by kernel_rfl⟩
theorem code_7 : seedWords[7]? = some 256966658 ∧ inst_Encode.f 15 5 1 2 = some (256966658, 0) ∧ ∀ W, (Instr.index 102 (.agg codeCells) (.int .i64 7)).run Tryd.prog W = .ok (.agg #[.int .i64 15, .int .i64 5, .int .i64 1, .int .i64 2, .string ⟨#[]⟩]) W :=
  ⟨by kernel_rfl, by kernel_rfl, fun _ => by kernel_rfl⟩
theorem code_8 : seedWords[8]? = some 340787229 ∧ inst_Encode.f 20 5 0 29 = some (340787229, 0) ∧ ∀ W, (Instr.index 102 (.agg codeCells) (.int .i64 8)).run Tryd.prog W = .ok (.agg #[.int .i64 20, .int .i64 5, .int .i64 0, .int .i64 29, .string ⟨#[116, 104, 101, 110, 32, 111, 110, 32, 116, 111, 32, 105, 116, 115, 32, 101, 110, 100]⟩]) W :=
  ⟨by kernel_rfl, by kernel_rfl, fun _ => by kernel_rfl⟩
theorem code_9 : seedWords[9]? = some 18874416 ∧ inst_Encode.f 1 2 0 48 = some (18874416, 0) ∧ ∀ W, (Instr.index 102 (.agg codeCells) (.int .i64 9)).run Tryd.prog W = .ok (.agg #[.int .i64 1, .int .i64 2, .int .i64 0, .int .i64 48, .string ⟨#[102, 114, 111, 109, 32, 48, 32, 116, 111, 32, 57, 63]⟩]) W :=
  ⟨by kernel_rfl, by kernel_rfl, fun _ => by kernel_rfl⟩
theorem code_10 : seedWords[10]? = some 90243074 ∧ inst_Encode.f 5 6 1 2 = some (90243074, 0) ∧ ∀ W, (Instr.index 102 (.agg codeCells) (.int .i64 10)).run Tryd.prog W = .ok (.agg #[.int .i64 5, .int .i64 6, .int .i64 1, .int .i64 2, .string ⟨#[]⟩]) W :=
  ⟨by kernel_rfl, by kernel_rfl, fun _ => by kernel_rfl⟩
theorem code_11 : seedWords[11]? = some 240517131 ∧ inst_Encode.f 14 5 6 11 = some (240517131, 0) ∧ ∀ W, (Instr.index 102 (.agg codeCells) (.int .i64 11)).run Tryd.prog W = .ok (.agg #[.int .i64 14, .int .i64 5, .int .i64 6, .int .i64 11, .string ⟨#[]⟩]) W :=
  ⟨by kernel_rfl, by kernel_rfl, fun _ => by kernel_rfl⟩
theorem code_12 : seedWords[12]? = some 340787221 ∧ inst_Encode.f 20 5 0 21 = some (340787221, 0) ∧ ∀ W, (Instr.index 102 (.agg codeCells) (.int .i64 12)).run Tryd.prog W = .ok (.agg #[.int .i64 20, .int .i64 5, .int .i64 0, .int .i64 21, .string ⟨#[116, 104, 101, 110, 32, 97, 32, 100, 105, 103, 105, 116]⟩]) W :=
  ⟨by kernel_rfl, by kernel_rfl, fun _ => by kernel_rfl⟩
theorem code_13 : seedWords[13]? = some 18874400 ∧ inst_Encode.f 1 2 0 32 = some (18874400, 0) ∧ ∀ W, (Instr.index 102 (.agg codeCells) (.int .i64 13)).run Tryd.prog W = .ok (.agg #[.int .i64 1, .int .i64 2, .int .i64 0, .int .i64 32, .string ⟨#[97, 32, 103, 114, 101, 97, 116, 32, 108, 101, 116, 116, 101, 114, 32, 97, 115, 32, 97, 32, 115, 109, 97, 108, 108, 32, 111, 110, 101]⟩]) W :=
  ⟨by kernel_rfl, by kernel_rfl, fun _ => by kernel_rfl⟩
theorem code_14 : seedWords[14]? = some 174129154 ∧ inst_Encode.f 10 6 1 2 = some (174129154, 0) ∧ ∀ W, (Instr.index 102 (.agg codeCells) (.int .i64 14)).run Tryd.prog W = .ok (.agg #[.int .i64 10, .int .i64 6, .int .i64 1, .int .i64 2, .string ⟨#[]⟩]) W :=
  ⟨by kernel_rfl, by kernel_rfl, fun _ => by kernel_rfl⟩
theorem code_15 : seedWords[15]? = some 18874465 ∧ inst_Encode.f 1 2 0 97 = some (18874465, 0) ∧ ∀ W, (Instr.index 102 (.agg codeCells) (.int .i64 15)).run Tryd.prog W = .ok (.agg #[.int .i64 1, .int .i64 2, .int .i64 0, .int .i64 97, .string ⟨#[102, 114, 111, 109, 32, 97, 32, 116, 111, 32, 102, 63]⟩]) W :=
  ⟨by kernel_rfl, by kernel_rfl, fun _ => by kernel_rfl⟩
theorem code_16 : seedWords[16]? = some 90570754 ∧ inst_Encode.f 5 6 6 2 = some (90570754, 0) ∧ ∀ W, (Instr.index 102 (.agg codeCells) (.int .i64 16)).run Tryd.prog W = .ok (.agg #[.int .i64 5, .int .i64 6, .int .i64 6, .int .i64 2, .string ⟨#[]⟩]) W :=
  ⟨by kernel_rfl, by kernel_rfl, fun _ => by kernel_rfl⟩
theorem code_17 : seedWords[17]? = some 18874374 ∧ inst_Encode.f 1 2 0 6 = some (18874374, 0) ∧ ∀ W, (Instr.index 102 (.agg codeCells) (.int .i64 17)).run Tryd.prog W = .ok (.agg #[.int .i64 1, .int .i64 2, .int .i64 0, .int .i64 6, .string ⟨#[]⟩]) W :=
  ⟨by kernel_rfl, by kernel_rfl, fun _ => by kernel_rfl⟩
theorem code_18 : seedWords[18]? = some 240517122 ∧ inst_Encode.f 14 5 6 2 = some (240517122, 0) ∧ ∀ W, (Instr.index 102 (.agg codeCells) (.int .i64 18)).run Tryd.prog W = .ok (.agg #[.int .i64 14, .int .i64 5, .int .i64 6, .int .i64 2, .string ⟨#[]⟩]) W :=
  ⟨by kernel_rfl, by kernel_rfl, fun _ => by kernel_rfl⟩
theorem code_19 : seedWords[19]? = some 324009986 ∧ inst_Encode.f 19 5 0 2 = some (324009986, 0) ∧ ∀ W, (Instr.index 102 (.agg codeCells) (.int .i64 19)).run Tryd.prog W = .ok (.agg #[.int .i64 19, .int .i64 5, .int .i64 0, .int .i64 2, .string ⟨#[101, 108, 115, 101, 32, 116, 104, 101, 32, 110, 101, 120, 116, 32, 98, 121, 116, 101]⟩]) W :=
  ⟨by kernel_rfl, by kernel_rfl, fun _ => by kernel_rfl⟩
theorem code_20 : seedWords[20]? = some 73793547 ∧ inst_Encode.f 4 6 6 11 = some (73793547, 0) ∧ ∀ W, (Instr.index 102 (.agg codeCells) (.int .i64 20)).run Tryd.prog W = .ok (.agg #[.int .i64 4, .int .i64 6, .int .i64 6, .int .i64 11, .string ⟨#[49, 48, 32, 116, 111, 32, 49, 53]⟩]) W :=
  ⟨by kernel_rfl, by kernel_rfl, fun _ => by kernel_rfl⟩
theorem code_21 : seedWords[21]? = some 339738649 ∧ inst_Encode.f 20 4 0 25 = some (339738649, 0) ∧ ∀ W, (Instr.index 102 (.agg codeCells) (.int .i64 21)).run Tryd.prog W = .ok (.agg #[.int .i64 20, .int .i64 4, .int .i64 0, .int .i64 25, .string ⟨#[116, 104, 101, 32, 108, 111, 119, 101, 114, 32, 111, 110, 101, 63]⟩]) W :=
  ⟨by kernel_rfl, by kernel_rfl, fun _ => by kernel_rfl⟩
theorem code_22 : seedWords[22]? = some 104202250 ∧ inst_Encode.f 6 3 6 10 = some (104202250, 0) ∧ ∀ W, (Instr.index 102 (.agg codeCells) (.int .i64 22)).run Tryd.prog W = .ok (.agg #[.int .i64 6, .int .i64 3, .int .i64 6, .int .i64 10, .string ⟨#[116, 104, 101, 32, 104, 105, 103, 104, 101, 114, 32, 111, 110, 101]⟩]) W :=
  ⟨by kernel_rfl, by kernel_rfl, fun _ => by kernel_rfl⟩
theorem code_23 : seedWords[23]? = some 20971521 ∧ inst_Encode.f 1 4 0 1 = some (20971521, 0) ∧ ∀ W, (Instr.index 102 (.agg codeCells) (.int .i64 23)).run Tryd.prog W = .ok (.agg #[.int .i64 1, .int .i64 4, .int .i64 0, .int .i64 1, .string ⟨#[]⟩]) W :=
  ⟨by kernel_rfl, by kernel_rfl, fun _ => by kernel_rfl⟩
theorem code_24 : seedWords[24]? = some 301989890 ∧ inst_Encode.f 18 0 0 2 = some (301989890, 0) ∧ ∀ W, (Instr.index 102 (.agg codeCells) (.int .i64 24)).run Tryd.prog W = .ok (.agg #[.int .i64 18, .int .i64 0, .int .i64 0, .int .i64 2, .string ⟨#[]⟩]) W :=
  ⟨by kernel_rfl, by kernel_rfl, fun _ => by kernel_rfl⟩
theorem code_25 : seedWords[25]? = some 70451206 ∧ inst_Encode.f 4 3 3 6 = some (70451206, 0) ∧ ∀ W, (Instr.index 102 (.agg codeCells) (.int .i64 25)).run Tryd.prog W = .ok (.agg #[.int .i64 4, .int .i64 3, .int .i64 3, .int .i64 6, .string ⟨#[98, 111, 116, 104]⟩]) W :=
  ⟨by kernel_rfl, by kernel_rfl, fun _ => by kernel_rfl⟩
theorem code_26 : seedWords[26]? = some 405798912 ∧ inst_Encode.f 24 3 0 0 = some (405798912, 0) ∧ ∀ W, (Instr.index 102 (.agg codeCells) (.int .i64 26)).run Tryd.prog W = .ok (.agg #[.int .i64 24, .int .i64 3, .int .i64 0, .int .i64 0, .string ⟨#[97, 114, 101, 32, 97, 32, 98, 121, 116, 101]⟩]) W :=
  ⟨by kernel_rfl, by kernel_rfl, fun _ => by kernel_rfl⟩
theorem code_27 : seedWords[27]? = some 20971520 ∧ inst_Encode.f 1 4 0 0 = some (20971520, 0) ∧ ∀ W, (Instr.index 102 (.agg codeCells) (.int .i64 27)).run Tryd.prog W = .ok (.agg #[.int .i64 1, .int .i64 4, .int .i64 0, .int .i64 0, .string ⟨#[]⟩]) W :=
  ⟨by kernel_rfl, by kernel_rfl, fun _ => by kernel_rfl⟩
theorem code_28 : seedWords[28]? = some 301989890 ∧ inst_Encode.f 18 0 0 2 = some (301989890, 0) ∧ ∀ W, (Instr.index 102 (.agg codeCells) (.int .i64 28)).run Tryd.prog W = .ok (.agg #[.int .i64 18, .int .i64 0, .int .i64 0, .int .i64 2, .string ⟨#[]⟩]) W :=
  ⟨by kernel_rfl, by kernel_rfl, fun _ => by kernel_rfl⟩
theorem code_29 : seedWords[29]? = some 386924544 ∧ inst_Encode.f 23 1 0 0 = some (386924544, 0) ∧ ∀ W, (Instr.index 102 (.agg codeCells) (.int .i64 29)).run Tryd.prog W = .ok (.agg #[.int .i64 23, .int .i64 1, .int .i64 0, .int .i64 0, .string ⟨#[97, 32, 110, 111, 116, 101, 39, 115, 32, 110, 101, 120, 116, 32, 98, 121, 116, 101]⟩]) W :=
  ⟨by kernel_rfl, by kernel_rfl, fun _ => by kernel_rfl⟩
theorem code_30 : seedWords[30]? = some 18874624 ∧ inst_Encode.f 1 2 0 256 = some (18874624, 0) ∧ ∀ W, (Instr.index 102 (.agg codeCells) (.int .i64 30)).run Tryd.prog W = .ok (.agg #[.int .i64 1, .int .i64 2, .int .i64 0, .int .i64 256, .string ⟨#[116, 104, 101, 32, 101, 110, 100, 63]⟩]) W :=
  ⟨by kernel_rfl, by kernel_rfl, fun _ => by kernel_rfl⟩
theorem code_31 : seedWords[31]? = some 256966658 ∧ inst_Encode.f 15 5 1 2 = some (256966658, 0) ∧ ∀ W, (Instr.index 102 (.agg codeCells) (.int .i64 31)).run Tryd.prog W = .ok (.agg #[.int .i64 15, .int .i64 5, .int .i64 1, .int .i64 2, .string ⟨#[]⟩]) W :=
  ⟨by kernel_rfl, by kernel_rfl, fun _ => by kernel_rfl⟩
theorem code_32 : seedWords[32]? = some 340787236 ∧ inst_Encode.f 20 5 0 36 = some (340787236, 0) ∧ ∀ W, (Instr.index 102 (.agg codeCells) (.int .i64 32)).run Tryd.prog W = .ok (.agg #[.int .i64 20, .int .i64 5, .int .i64 0, .int .i64 36, .string ⟨#[116, 104, 101, 110, 32, 104, 97, 108, 116]⟩]) W :=
  ⟨by kernel_rfl, by kernel_rfl, fun _ => by kernel_rfl⟩
theorem code_33 : seedWords[33]? = some 256966667 ∧ inst_Encode.f 15 5 1 11 = some (256966667, 0) ∧ ∀ W, (Instr.index 102 (.agg codeCells) (.int .i64 33)).run Tryd.prog W = .ok (.agg #[.int .i64 15, .int .i64 5, .int .i64 1, .int .i64 11, .string ⟨#[97, 32, 108, 105, 110, 101, 32, 102, 101, 101, 100, 63]⟩]) W :=
  ⟨by kernel_rfl, by kernel_rfl, fun _ => by kernel_rfl⟩
theorem code_34 : seedWords[34]? = some 324010013 ∧ inst_Encode.f 19 5 0 29 = some (324010013, 0) ∧ ∀ W, (Instr.index 102 (.agg codeCells) (.int .i64 34)).run Tryd.prog W = .ok (.agg #[.int .i64 19, .int .i64 5, .int .i64 0, .int .i64 29, .string ⟨#[110, 111, 58, 32, 111, 110]⟩]) W :=
  ⟨by kernel_rfl, by kernel_rfl, fun _ => by kernel_rfl⟩
theorem code_35 : seedWords[35]? = some 301989890 ∧ inst_Encode.f 18 0 0 2 = some (301989890, 0) ∧ ∀ W, (Instr.index 102 (.agg codeCells) (.int .i64 35)).run Tryd.prog W = .ok (.agg #[.int .i64 18, .int .i64 0, .int .i64 0, .int .i64 2, .string ⟨#[121, 101, 115]⟩]) W :=
  ⟨by kernel_rfl, by kernel_rfl, fun _ => by kernel_rfl⟩
theorem code_36 : seedWords[36]? = some 436207616 ∧ inst_Encode.f 26 0 0 0 = some (436207616, 0) ∧ ∀ W, (Instr.index 102 (.agg codeCells) (.int .i64 36)).run Tryd.prog W = .ok (.agg #[.int .i64 26, .int .i64 0, .int .i64 0, .int .i64 0, .string ⟨#[100, 111, 110, 101]⟩]) W :=
  ⟨by kernel_rfl, by kernel_rfl, fun _ => by kernel_rfl⟩
theorem code_at : ∀ k : Nat, k < 37 → ∃ (x0 x1 x2 x3 wk : Int) (s : ByteArray), seedWords[k]? = some wk ∧ inst_Encode.f x0 x1 x2 x3 = some (wk, 0) ∧
    ∀ W, (Instr.index 102 (.agg codeCells) (.int .i64 (k : Int))).run Tryd.prog W = .ok (.agg #[.int .i64 x0, .int .i64 x1, .int .i64 x2, .int .i64 x3, .string s]) W := by
  intro k hk
  have hc : k = 0 ∨ k = 1 ∨ k = 2 ∨ k = 3 ∨ k = 4 ∨ k = 5 ∨ k = 6 ∨ k = 7 ∨ k = 8 ∨ k = 9 ∨ k = 10 ∨ k = 11 ∨ k = 12 ∨ k = 13 ∨ k = 14 ∨ k = 15 ∨ k = 16 ∨ k = 17 ∨ k = 18 ∨ k = 19 ∨ k = 20 ∨ k = 21 ∨ k = 22 ∨ k = 23 ∨ k = 24 ∨ k = 25 ∨ k = 26 ∨ k = 27 ∨ k = 28 ∨ k = 29 ∨ k = 30 ∨ k = 31 ∨ k = 32 ∨ k = 33 ∨ k = 34 ∨ k = 35 ∨ k = 36 := by omega
  rcases hc with rfl | rfl | rfl | rfl | rfl | rfl | rfl | rfl | rfl | rfl | rfl | rfl | rfl | rfl | rfl | rfl | rfl | rfl | rfl | rfl | rfl | rfl | rfl | rfl | rfl | rfl | rfl | rfl | rfl | rfl | rfl | rfl | rfl | rfl | rfl | rfl | rfl
  · exact ⟨_, _, _, _, _, _, code_0⟩
  · exact ⟨_, _, _, _, _, _, code_1⟩
  · exact ⟨_, _, _, _, _, _, code_2⟩
  · exact ⟨_, _, _, _, _, _, code_3⟩
  · exact ⟨_, _, _, _, _, _, code_4⟩
  · exact ⟨_, _, _, _, _, _, code_5⟩
  · exact ⟨_, _, _, _, _, _, code_6⟩
  · exact ⟨_, _, _, _, _, _, code_7⟩
  · exact ⟨_, _, _, _, _, _, code_8⟩
  · exact ⟨_, _, _, _, _, _, code_9⟩
  · exact ⟨_, _, _, _, _, _, code_10⟩
  · exact ⟨_, _, _, _, _, _, code_11⟩
  · exact ⟨_, _, _, _, _, _, code_12⟩
  · exact ⟨_, _, _, _, _, _, code_13⟩
  · exact ⟨_, _, _, _, _, _, code_14⟩
  · exact ⟨_, _, _, _, _, _, code_15⟩
  · exact ⟨_, _, _, _, _, _, code_16⟩
  · exact ⟨_, _, _, _, _, _, code_17⟩
  · exact ⟨_, _, _, _, _, _, code_18⟩
  · exact ⟨_, _, _, _, _, _, code_19⟩
  · exact ⟨_, _, _, _, _, _, code_20⟩
  · exact ⟨_, _, _, _, _, _, code_21⟩
  · exact ⟨_, _, _, _, _, _, code_22⟩
  · exact ⟨_, _, _, _, _, _, code_23⟩
  · exact ⟨_, _, _, _, _, _, code_24⟩
  · exact ⟨_, _, _, _, _, _, code_25⟩
  · exact ⟨_, _, _, _, _, _, code_26⟩
  · exact ⟨_, _, _, _, _, _, code_27⟩
  · exact ⟨_, _, _, _, _, _, code_28⟩
  · exact ⟨_, _, _, _, _, _, code_29⟩
  · exact ⟨_, _, _, _, _, _, code_30⟩
  · exact ⟨_, _, _, _, _, _, code_31⟩
  · exact ⟨_, _, _, _, _, _, code_32⟩
  · exact ⟨_, _, _, _, _, _, code_33⟩
  · exact ⟨_, _, _, _, _, _, code_34⟩
  · exact ⟨_, _, _, _, _, _, code_35⟩
  · exact ⟨_, _, _, _, _, _, code_36⟩
set_option maxRecDepth 100000 in
set_option maxHeartbeats 2000000 in
theorem made_any (w : World) (hGC : GC w) (hGK : GK w) :
    Calls Tryd.prog 59 #[] w fun e w' => ∃ v0_ : Value, e = .returned (.agg #[v0_, .int .i64 0]) ∧ Kd.R (Kd.int .u32) 47 w' w.heap.size (fun _ => True) v0_ seedWords ∧ Below w.heap.size w w' := by
  have hu28 := Tryd.underlying28
  have hu46 := Tryd.underlying46
  have hu101 := Tryd.underlying101
  have HC := Aside0.mk hGC
  have HK := Aside0.mk hGK
  clear hGC hGK
  have HB := Aside0.mk (Below.refl w.heap.size w)
  obtain ⟨tg, fr, hg⟩ := code_load ((w.alloc (.cells #[.slice none 0 0, .int .i64 0] 28)).alloc (.cells #[.slice none 0 0, .int .i64 0] 28)) (HC.out.below (((Below.refl _ _).alloc (Nat.le_refl _) _).alloc (by simp) _))
  have hsz : (Tryd.prog.info? 102).map (·.size) = some codeCells.size := by kernel_rfl
  have hat := code_at
  generalize codeCells = CV at hg hsz hat
  have HG := Aside0.mk hg
  have HS := Aside0.mk hsz
  have HAT := Aside0.mk hat
  clear hg hsz hat
  go_enter Tryd.func59, Tryd.ntmps59
  go_wp2_with ((with_reducible refine gate_dst (N := 6) rfl ?_); refine wpList_load_row rfl 102 _ rfl 1 rfl tg CV fr _ HG.out Tryd.underlying102 rfl HS.out ?_)
  clear HG HS
  go_loopg [7] 38 (fun kq v7 w' => ∃ (k : Nat) (v : Value) (xs : List Int), v7 = .int .i64 k ∧ Aside0 (kq + k = 38) ∧ Aside0 (k ≤ 37) ∧ Aside0 (Kd.R (Kd.int .u32) 47 w' w.heap.size (fun _ => True) v xs) ∧ Aside0 (xs = seedWords.take k) ∧ Aside0 (w'.heap[w.heap.size]? = some (.cells #[.slice none 0 0, .int .i64 0] 28 (0, 0))) ∧ Aside0 (w'.heap[w.heap.size + 1]? = some (.cells #[v, .int .i64 0] 28 (0, 0))) ∧ Aside0 (Below w.heap.size w w'))
  case atStart =>
    exact ⟨0, .slice none 0 0, [], rfl, ⟨rfl⟩, ⟨by omega⟩, ⟨Kd.R_nil _ _ _ _ _⟩, ⟨rfl⟩, ⟨heap_alloc2_old _ _ _⟩, ⟨heap_alloc2_new _ _ _⟩, ⟨(((Below.refl _ _).alloc (Nat.le_refl _) _).alloc (by simp) _)⟩⟩
  case round =>
    obtain ⟨k, v, xs, rfl, HK1, HK2, HO, HX, B0, B1, HB⟩ := hrel
    obtain ⟨Ao, co, eo⟩ := Kd.R_slice HO.out
    subst eo
    by_cases hk : k < 37
    · obtain ⟨x0, x1, x2, x3, wk, s, hwk, henc, hix⟩ := HAT.out k hk
      have HW := Aside0.mk hwk
      clear hwk
      have HE := Aside0.mk henc
      clear henc
      go_wp2_with (first | (go_at_call 38; (with_reducible refine (inst_Encode.calls x0 x1 x2 x3 _ _ _ ?s HE.out).mono ?_); (case s => exact HK.out.below (below_alloc HB.out _)); rintro e w2 ⟨rfl, hb⟩; have n0_ := Aside0.mk (Kd.R_below (Kd.R_alloc HO.out _) hb); have n1_ := Aside0.mk (blk_below (blk_alloc B0.out _) hb); have n2_ := Aside0.mk (blk_below (blk_alloc B1.out _) hb); have n3_ := Aside0.mk (below_step (below_alloc HB.out _) hb); clear HO B0 B1 HB hb hix; have HO := n0_; have B0 := n1_; have B1 := n2_; have HB := n3_; clear n0_ n1_ n2_ n3_; have hc0 : w2.cell? ⟨w.heap.size + 1, 0, none⟩ = some (.slice Ao xs.length co) := (blk_cell B1.out 0).trans rfl) | ((with_reducible refine gate_builtin (b := .append) (xs := #[.tmp 17, .tmp 19]) rfl ?_); at_builtin; refine Kd.R_append (Kd.int .u32) (w0 := w) w.heap.size rfl (.tmp 17) (.tmp 19) 26 47 (.int .u32 0) 4 rfl Tryd.underlying26 info47 rfl (by decide) (by omega) (.slice Ao xs.length co) xs wk [.int .u32 wk] (fun _ => True) (fun _ => False) rfl rfl ?aP (fun _ hk => hk.elim) ?aF ?aO ?aB ?aS ?aL ?_; (case aP => exact rfl); (case aB => exact HB.out); (case aF => exact (fun _ _ => trivial)); (case aO => exact HO.out); (case aS => exact below_size HB.out); (case aL => (have := HK2.out; have h1 := List.length_take_le k seedWords; rw [← HX.out] at h1; omega)); intro v1 w4 ho hb hg hat; have n0_ := Aside0.mk (blk_grown B0.out hg (Kd.R_ne HO.out B0.out (by decide))); have n1_ := Aside0.mk (blk_grown B1.out hg (Kd.R_ne HO.out B1.out (by decide))); have n2_ := Aside0.mk hb; have n3_ := Aside0.mk ho; clear HO B0 B1 HB hb hg hat ho hc0; have B0 := n0_; have B1 := n1_; have HB := n2_; have HO := n3_; clear n0_ n1_ n2_ n3_; have hc1 : w4.cell? ⟨w.heap.size + 1, 0, none⟩ = some (.slice Ao xs.length co) := (blk_cell B1.out 0).trans rfl; have hf1 := blk_frozen B1.out 0; obtain ⟨A1, c1, e1⟩ := Kd.R_slice HO.out; subst e1))
      go_roundg (gk - 1)
      case measure => have := HK1.out; omega
      case rel => exact ⟨k + 1, .slice A1 (xs.length + 1) c1, xs ++ [wk], by go_num, ⟨by have := HK1.out; omega⟩, ⟨by omega⟩, ⟨by have h1 := HO.out; rw [List.length_append] at h1; exact Kd.R_set h1 B1.out (by decide) 0 _⟩, ⟨by rw [List.take_add_one, HW.out, HX.out]; rfl⟩, ⟨blk_far B0.out (by simp) _⟩, ⟨by refine blk_put (cs := #[(.slice Ao xs.length co), .int .i64 0]) B1.out 0 _ rfl⟩, ⟨below_set HB.out (by omega)⟩⟩
    · have hk37 : k = 37 := by have := HK2.out; omega
      have HK37 := Aside0.mk hk37
      clear hk37
      have hc0 : wr.cell? ⟨w.heap.size + 1, 0, none⟩ = some (.slice Ao xs.length co) := (blk_cell B1.out 0).trans rfl
      have hc1 : wr.cell? ⟨w.heap.size + 1, 1, none⟩ = some (.int .i64 0) := (blk_cell B1.out 1).trans rfl
      have hd0 : wr.cell? ⟨w.heap.size, 0, none⟩ = some (.slice none 0 0) := (blk_cell B0.out 0).trans rfl
      have hd1 : wr.cell? ⟨w.heap.size, 1, none⟩ = some (.int .i64 0) := (blk_cell B0.out 1).trans rfl
      have hf0 := blk_frozen B0.out 0
      have hf1 := blk_frozen B0.out 1
      go_wp2_with fail
      refine bodyPost_ret (results_cell_row rfl _ _ w.heap.size 28 #[.slice Ao xs.length co, .int .i64 0] (0, 0) _ rfl (by refine blk_put (cs := #[.slice Ao xs.length co, .int .i64 0]) ?_ 1 _ rfl; refine blk_put (cs := #[.slice none 0 0, .int .i64 0]) B0.out 0 _ rfl) Tryd.underlying28 rfl (by kernel_rfl)) rfl ?_
      refine ⟨.slice Ao xs.length co, rfl, ?_, below_set (below_set HB.out (Nat.le_refl _)) (Nat.le_refl _)⟩
      have hx : xs = seedWords := by rw [HX.out, HK37.out]; decide +kernel
      rw [← hx]
      exact Kd.R_set (Kd.R_set HO.out B0.out (by decide) 0 _) (blk_set B0.out 0 _) (by decide) 1 _
def seed_made.f : Option (List Int × Int) := some (seedWords, 0)
theorem seed_made.calls (r1 : List Int) (r2 : Int) (w : World) (hGC : GC w) (hGK : GK w) (h : seed_made.f = some (r1, r2)) :
    Calls Tryd.prog 59 #[] w fun e w' => ∃ v0_ : Value, e = .returned (.agg #[v0_, .int .i64 r2]) ∧ Kd.R (Kd.int .u32) 47 w' w.heap.size (fun _ => True) v0_ r1 ∧ Below w.heap.size w w' := by
  have h1 := Option.some.inj h
  injection h1 with e1 e2
  subst e1 e2
  exact made_any w hGC hGK
end Go.Proofs.YtdhkmdgieflioaaDoor.F
namespace Go.Proofs.YtdhkmdgieflioaaDoor.F
open Go.RowKit Go.Proofs.YtdhkmdgieflioaaDoorW.PrintWords Go.Proofs.YtdhkmdgieflioaaDoorW.PrintLast Go.Proofs.YtdhkmdgieflioaaDoorW.PrintMore
set_option linter.unusedVariables false
set_option linter.unusedSimpArgs false
theorem kinds_load (W : World) (h : GK W) : ∃ t fr, W.heap[0]? = some (.cells kindsCells t fr) := by
  have h1 := h.out
  unfold World.var? at h1
  rw [g_kinds] at h1
  simp only [Option.bind_some] at h1
  split at h1
  · rename_i c t fr hc
    obtain rfl := Option.some.inj h1
    exact ⟨t, fr, hc⟩
  · cases h1
theorem nameOf_cell (op : Int) (h1 : 0 ≤ op) (h2 : op < 28) : kindsCells[op.toNat * 2]? = some (.string (nameOf op)) := by
  obtain ⟨n, rfl⟩ : ∃ n : Nat, op = n := ⟨op.toNat, by omega⟩
  have h3 : n < 28 := by omega
  clear h2
  have all : ∀ n, n < 28 → (kindRows.flatMap fun k => [Value.string ⟨k.1.toArray⟩, Value.string ⟨k.2.toArray⟩])[n * 2]? = some (.string (nameOf (n : Nat))) := by
    intro n hn
    have : n = 0 ∨ n = 1 ∨ n = 2 ∨ n = 3 ∨ n = 4 ∨ n = 5 ∨ n = 6 ∨ n = 7 ∨ n = 8 ∨ n = 9 ∨ n = 10 ∨ n = 11 ∨ n = 12 ∨ n = 13 ∨ n = 14 ∨ n = 15 ∨ n = 16 ∨ n = 17 ∨ n = 18 ∨ n = 19 ∨ n = 20 ∨ n = 21 ∨ n = 22 ∨ n = 23 ∨ n = 24 ∨ n = 25 ∨ n = 26 ∨ n = 27 := by omega
    rcases this with rfl | rfl | rfl | rfl | rfl | rfl | rfl | rfl | rfl | rfl | rfl | rfl | rfl | rfl | rfl | rfl | rfl | rfl | rfl | rfl | rfl | rfl | rfl | rfl | rfl | rfl | rfl | rfl
    all_goals rfl
  unfold kindsCells
  simpa using all n h3
def inst_Name.f (a0 : Int) : Option ByteArray := some (nameOf a0)
set_option maxRecDepth 100000 in
set_option maxHeartbeats 1000000 in
theorem name_lt (a0 : Int) (w : World) (h : a0 < 0) : Calls Tryd.prog 49 #[.int .i64 a0] w fun e w' => e = .returned (.string ⟨#[]⟩) ∧ w = w' := by
  have h1 : decide (a0 < 0) = true := decide_eq_true h
  go_enter Tryd.func49, Tryd.ntmps49
  go_wp2
  go_ret
  exact ⟨rfl, rfl⟩
set_option maxRecDepth 100000 in
set_option maxHeartbeats 1000000 in
theorem name_ge (a0 : Int) (w : World) (h : 28 ≤ a0) : Calls Tryd.prog 49 #[.int .i64 a0] w fun e w' => e = .returned (.string ⟨#[]⟩) ∧ w = w' := by
  have h1 : decide (a0 < 0) = false := decide_eq_false (by omega)
  go_enter Tryd.func49, Tryd.ntmps49
  go_wp2
  go_ret
  exact ⟨rfl, rfl⟩
set_option maxRecDepth 100000 in
set_option maxHeartbeats 1000000 in
theorem name_in (a0 : Int) (n : ByteArray) (w : World) (h : 0 ≤ a0) (h2 : a0 < 28) (hp : w.cell? ⟨0, a0.toNat * 2, none⟩ = some (.string n)) : Calls Tryd.prog 49 #[.int .i64 a0] w fun e w' => e = .returned (.string n) ∧ w = w' := by
  have h1 : decide (a0 < 0) = false := decide_eq_false (by omega)
  go_enter Tryd.func49, Tryd.ntmps49
  go_wp2
  go_ret
  exact ⟨rfl, rfl⟩
theorem name_any (a0 : Int) (w : World) (hGK : GK w) : Calls Tryd.prog 49 #[.int .i64 a0] w fun e w' => e = .returned (.string (nameOf a0)) ∧ w = w' := by
  by_cases h1 : 0 ≤ a0
  · by_cases h2 : a0 < 28
    · exact name_in a0 _ w h1 h2 (kind_cell hGK _ _ (nameOf_cell a0 h1 h2))
    · have e : nameOf a0 = ⟨#[]⟩ := if_neg (by omega)
      rw [e]
      exact name_ge a0 w (by omega)
  · have e : nameOf a0 = ⟨#[]⟩ := if_neg (by omega)
    rw [e]
    exact name_lt a0 w (by omega)
theorem inst_Name.calls (a0 : Int) (r : ByteArray) (w : World) (hGK : GK w) (h : inst_Name.f a0 = some r) :
    Calls Tryd.prog 49 #[.int .i64 a0] w fun e w' => e = .returned (.string r) ∧ Below w.heap.size w w' := by
  obtain rfl := Option.some.inj h
  exact (name_any a0 w hGK).mono fun e w' ⟨h1, h2⟩ => ⟨h1, h2 ▸ Below.refl _ _⟩
def opFrom (name : ByteArray) : Nat → Nat → Int
  | 0, _ => 0
  | d + 1, i => if 0 < i ∧ nameOf (i : Int) = name then (i : Int) else opFrom name d (i + 1)
def opOf (name : ByteArray) : Int := opFrom name 28 0
def inst_Op.f (a0 : ByteArray) : Option Int := some (opOf a0)
set_option maxRecDepth 100000 in
theorem kind_at : ∀ k : Nat, k < 28 → ∀ W, (Instr.index 90 (.agg kindsCells) (.int .i64 (k : Int))).run Tryd.prog W = .ok (.agg #[.string (nameOf (k : Int)), .string (partsOf (k : Int))]) W := by
  intro k hk
  have hc : k = 0 ∨ k = 1 ∨ k = 2 ∨ k = 3 ∨ k = 4 ∨ k = 5 ∨ k = 6 ∨ k = 7 ∨ k = 8 ∨ k = 9 ∨ k = 10 ∨ k = 11 ∨ k = 12 ∨ k = 13 ∨ k = 14 ∨ k = 15 ∨ k = 16 ∨ k = 17 ∨ k = 18 ∨ k = 19 ∨ k = 20 ∨ k = 21 ∨ k = 22 ∨ k = 23 ∨ k = 24 ∨ k = 25 ∨ k = 26 ∨ k = 27 := by omega
  rcases hc with rfl | rfl | rfl | rfl | rfl | rfl | rfl | rfl | rfl | rfl | rfl | rfl | rfl | rfl | rfl | rfl | rfl | rfl | rfl | rfl | rfl | rfl | rfl | rfl | rfl | rfl | rfl | rfl
  all_goals exact fun _ => by kernel_rfl
theorem bytes_eq {a b : ByteArray} (h : a.toList = b.toList) : a = b := by
  rw [ByteArray.toList_eq, ByteArray.toList_eq] at h
  cases a; cases b
  simp only [ByteArray.mk.injEq]
  exact Array.toList_inj.1 h
set_option maxRecDepth 100000 in
set_option maxHeartbeats 2000000 in
theorem op_any (a0 : ByteArray) (w : World) (hGK : GK w) :
    Calls Tryd.prog 50 #[.string a0] w fun e w' => e = .returned (.int .i64 (opOf a0)) ∧ Below w.heap.size w w' := by
  have hu89 := Tryd.underlying89
  have HB := Aside0.mk (Below.refl w.heap.size w)
  obtain ⟨tg, fr, hg⟩ := kinds_load w hGK
  have hsz : (Tryd.prog.info? 90).map (·.size) = some kindsCells.size := by kernel_rfl
  have hat := kind_at
  generalize kindsCells = CV at hg hsz hat
  have HG := Aside0.mk hg
  have HS := Aside0.mk hsz
  have HAT := Aside0.mk hat
  clear hg hsz hat
  go_enter Tryd.func50, Tryd.ntmps50
  go_wp2_with ((with_reducible refine gate_dst (N := 5) rfl ?_); refine wpList_load_row rfl 90 _ rfl 0 rfl tg CV fr _ HG.out Tryd.underlying90 rfl HS.out ?_)
  clear HG HS
  go_loopg [6] 29 (fun kq v6 w' => ∃ (k : Nat), v6 = .int .i64 k ∧ Aside0 (kq + k = 29) ∧ Aside0 (k ≤ 28) ∧ Aside0 (opFrom a0 (28 - k) k = opOf a0) ∧ Aside0 (Below w.heap.size w w'))
  case atStart => exact ⟨0, rfl, ⟨rfl⟩, ⟨by omega⟩, ⟨rfl⟩, HB⟩
  case round =>
    obtain ⟨k, rfl, HK1, HK2, HR, HB⟩ := hrel
    by_cases hk : k < 28
    · have hix := HAT.out k hk wr
      have hst : opFrom a0 (28 - k) k = if 0 < k ∧ nameOf (k : Int) = a0 then (k : Int) else opFrom a0 (28 - (k + 1)) (k + 1) := by
        rw [show 28 - k = (28 - (k + 1)) + 1 by omega]
        rfl
      rw [hst] at HR
      clear hst
      generalize hn : nameOf (k : Int) = nm at hix HR
      clear hn
      by_cases h0 : 0 < k
      · have hd : decide ((0 : Int) < (k : Int)) = true := decide_eq_true (by omega)
        by_cases he : nm = a0
        · have e1 : (nm.toList == a0.toList) = true := by rw [he]; exact beq_self_eq_true _
          have HE := Aside0.mk (he)
          clear he
          go_wp2
          go_ret
          exact ⟨by have h1 := HR.out; rw [if_pos ⟨h0, HE.out⟩] at h1; rw [← h1]; rfl, (by repeat (first | exact HB.out | apply below_alloc | (refine below_set ?_ ?_) | omega))⟩
        · have e1 : (nm.toList == a0.toList) = false := beq_eq_false_iff_ne.mpr (fun h => he (bytes_eq h))
          have HE := Aside0.mk (he)
          clear he
          go_wp2
          go_roundg (gk - 1)
          case measure => have := HK1.out; omega
          case rel => exact ⟨k + 1, by go_num, ⟨by have := HK1.out; omega⟩, ⟨by omega⟩, ⟨by have h1 := HR.out; rw [if_neg (fun h => HE.out h.2)] at h1; exact h1⟩, ⟨below_alloc HB.out _⟩⟩
      · have hd : decide ((0 : Int) < (k : Int)) = false := decide_eq_false (by omega)
        go_wp2
        go_roundg (gk - 1)
        case measure => have := HK1.out; omega
        case rel => exact ⟨k + 1, by go_num, ⟨by have := HK1.out; omega⟩, ⟨by omega⟩, ⟨by have h1 := HR.out; rw [if_neg (fun h => h0 h.1)] at h1; exact h1⟩, ⟨below_alloc HB.out _⟩⟩
    · have hk28 : k = 28 := by have := HK2.out; omega
      have h28 : opFrom a0 (28 - k) k = 0 := by rw [hk28]; rfl
      rw [h28] at HR
      go_wp2
      go_ret
      exact ⟨by rw [← HR.out]; rfl, HB.out⟩
theorem inst_Op.calls (a0 : ByteArray) (r : Int) (w : World) (hGK : GK w) (h : inst_Op.f a0 = some r) :
    Calls Tryd.prog 50 #[.string a0] w fun e w' => e = .returned (.int .i64 r) ∧ Below w.heap.size w w' := by
  obtain rfl := Option.some.inj h
  exact op_any a0 w hGK
end Go.Proofs.YtdhkmdgieflioaaDoor.F
namespace Go.Proofs.YtdhkmdgieflioaaDoor.F
open Go.RowKit Go.Proofs.YtdhkmdgieflioaaDoorW.PrintWords Go.Proofs.YtdhkmdgieflioaaDoorW.PrintLast Go.Proofs.YtdhkmdgieflioaaDoorW.PrintMore
set_option linter.unusedVariables false
set_option linter.unusedSimpArgs false
def itemOf (a b c : Int) (ch : UInt8) : ByteArray :=
  if ch = 97 then ⟨#[114]⟩ ++ ⟨(Lib.itoa a).toArray⟩ else if ch = 98 then ⟨#[114]⟩ ++ ⟨(Lib.itoa b).toArray⟩ else if ch = 114 then ⟨#[114]⟩ ++ ⟨(Lib.itoa c).toArray⟩ else ⟨(Lib.itoa c).toArray⟩
def itemsOf (op a b c : Int) : List ByteArray := (partsOf op).data.toList.map (itemOf a b c)
def textOf (op a b c : Int) : ByteArray :=
  if rightB op a b c = false then ⟨#[]⟩ else if itemsOf op a b c = [] then nameOf op
  else nameOf op ++ (⟨#[32]⟩ : ByteArray) ++ ⟨(Lib.join ((itemsOf op a b c).map (·.data.toList)) [44, 32]).toArray⟩
def inst_Text.f (a0_0 : Int) (a0_1 : Int) (a0_2 : Int) (a0_3 : Int) : Option ByteArray := some (textOf a0_0 a0_1 a0_2 a0_3)
theorem item_size (a b c : Int) (ch : UInt8) (ha : 0 ≤ a ∧ a ≤ 65535) (hb : 0 ≤ b ∧ b ≤ 65535) (hc : 0 ≤ c ∧ c ≤ 65535) : (itemOf a b c ch).size ≤ 22 := by
  have h (n : Int) (hn : 0 ≤ n ∧ n ≤ 65535) : (⟨(Lib.itoa n).toArray⟩ : ByteArray).size ≤ 21 := by
    have := Lib.itoa_length_le n (by omega) (by omega)
    simpa [ByteArray.size] using this
  have h1 := h a ha
  have h2 := h b hb
  have h3 := h c hc
  have h0 : (⟨#[114]⟩ : ByteArray).size = 1 := rfl
  unfold itemOf
  split
  · rw [ByteArray.size_append]; omega
  · split
    · rw [ByteArray.size_append]; omega
    · split
      · rw [ByteArray.size_append]; omega
      · omega
theorem lens_small : ∀ l : List ByteArray, (∀ x ∈ l, x.size ≤ 22) → Lib.lens (l.map (·.data.toList)) ≤ 22 * l.length
  | [], _ => by simp [Lib.lens]
  | x :: r, h => by
    have h1 := lens_small r (fun y hy => h y (List.mem_cons_of_mem _ hy))
    have h2 := h x (List.mem_cons_self ..)
    have h3 : x.data.toList.length = x.size := rfl
    simp only [List.map_cons, Lib.lens, List.length_cons, List.sum_cons] at *
    omega
theorem join_small (l : List ByteArray) (h : ∀ x ∈ l, x.size ≤ 22) (hl : l.length ≤ 100) : (Lib.join (l.map (·.data.toList)) [44, 32]).length ≤ 10000 := by
  cases l with
  | nil => simp [Lib.join]
  | cons x r =>
    have h1 := lens_small (x :: r) h
    rw [List.map_cons] at h1 ⊢
    rw [Lib.join_length]
    simp only [List.length_cons, List.length_map, List.length_nil] at *
    omega
theorem name_as (op : Int) (n : ByteArray) (w : World) (hGK : GK w) (hn : n = nameOf op) : Calls Tryd.prog 49 #[.int .i64 op] w fun e w' => e = .returned (.string n) ∧ w = w' := by
  subst hn
  exact name_any op w hGK
theorem join_as (g cap : Nat) (items : List ByteArray) (j : ByteArray) (w : World) (hc : ∀ (j : Nat) x, items[j]? = some x → w.cell? ⟨g, 0 + j, none⟩ = some (.string x)) (hg : g < w.heap.size) (h1 : items.length ≤ 100) (h2 : items.length ≤ cap)
    (h3 : (Lib.join (items.map (·.data.toList)) [44, 32]).length ≤ 10000) (hj : j = ⟨(Lib.join (items.map (·.data.toList)) [44, 32]).toArray⟩) :
    Calls Tryd.prog 80 #[.slice (some ⟨g, 0, none⟩) items.length cap, .string ⟨#[44, 32]⟩] w fun e w' => e = .returned (.string j) ∧ Below w.heap.size w w' := by
  subst hj
  exact Tryd.strings_Join g 0 cap items ⟨#[44, 32]⟩ w hc hg (by omega) h2 (Nat.le_trans h3 (by decide))
theorem name_size (op : Int) (h1 : 1 ≤ op) (h2 : op < 28) : (nameOf op).size ≤ 100 := by
  obtain ⟨n, rfl⟩ : ∃ n : Nat, op = n := ⟨op.toNat, by omega⟩
  have h3 : n < 28 := by omega
  clear h1 h2
  have : n = 0 ∨ n = 1 ∨ n = 2 ∨ n = 3 ∨ n = 4 ∨ n = 5 ∨ n = 6 ∨ n = 7 ∨ n = 8 ∨ n = 9 ∨ n = 10 ∨ n = 11 ∨ n = 12 ∨ n = 13 ∨ n = 14 ∨ n = 15 ∨ n = 16 ∨ n = 17 ∨ n = 18 ∨ n = 19 ∨ n = 20 ∨ n = 21 ∨ n = 22 ∨ n = 23 ∨ n = 24 ∨ n = 25 ∨ n = 26 ∨ n = 27 := by omega
  rcases this with rfl | rfl | rfl | rfl | rfl | rfl | rfl | rfl | rfl | rfl | rfl | rfl | rfl | rfl | rfl | rfl | rfl | rfl | rfl | rfl | rfl | rfl | rfl | rfl | rfl | rfl | rfl | rfl
  all_goals decide
theorem own_iterAt {w : World} {k : Nat} {v : Value} {n : Nat} {xs : List Value} (h : w.ownsRow (k + 1) 9 1 v n xs) (s : ByteArray) (pos : Nat) : (w.iterAt k s pos).ownsRow (k + 1) 9 1 v n xs := by
  obtain ⟨h1, h2⟩ := h
  refine ⟨h1, ?_⟩
  rcases h2 with h2 | ⟨g, cap, cur, hv, hg, hc, h3⟩
  · exact Or.inl h2
  · exact Or.inr ⟨g, cap, cur, hv, hg, (Lib.iterAt_other w k g s pos (by omega)).trans hc, h3⟩
theorem itoa_calls (n : Int) (t : ByteArray) (w : World) (hGT : GT w) (h0 : 0 ≤ n) (h1 : n ≤ 65535) (ht : t = ⟨(Lib.itoa n).toArray⟩) :
    Calls Tryd.prog 79 #[.int .i64 n] w fun e w' => e = .returned (.string t) ∧ Below w.heap.size w w' := by
  refine (Tryd.strconv_Itoa n (by omega) (by omega) w hGT.out).mono ?_
  rintro e W1 ⟨rfl, k, os, rfl⟩
  exact ⟨by rw [ht], Lib.below_grow _ w (Nat.le_refl _) k os⟩
set_option maxRecDepth 100000 in
set_option maxHeartbeats 1000000 in
theorem text_wrong (op a b c : Int) (w : World) (hGK : GK w) (hr : rightB op a b c = false) :
    Calls Tryd.prog 42 #[.agg #[.int .i64 op, .int .i64 a, .int .i64 b, .int .i64 c]] w fun e w' => e = .returned (.string ⟨#[]⟩) ∧ Below w.heap.size w w' := by
  have hu46 := Tryd.underlying46
  have HR := Lib.hid hr
  have HGK := Lib.hid (GK.below hGK ((Below.refl w.heap.size w).alloc (Nat.le_refl _) (.cells #[.int .i64 op, .int .i64 a, .int .i64 b, .int .i64 c] 46)))
  clear hGK hr
  go_enter Tryd.func42, Tryd.ntmps42
  go_wp2_with (go_at_call 40; refine (inst_Right.calls op a b c false _ HGK.out (congrArg some HR.out)).mono ?_; rintro e w1 ⟨rfl, hb⟩)
  go_ret
  exact ⟨rfl, below_step ((Below.refl _ _).alloc (Nat.le_refl _) _) hb⟩
set_option maxRecDepth 100000 in
set_option maxHeartbeats 1000000 in
theorem text_right (op a b c : Int) (p : ByteArray) (w : World) (hGK : GK w) (hGT : GT w) (hr : rightB op a b c = true) (h1 : 1 ≤ op) (h2 : op < 28) (hpar : partsOf op = p)
    (hp : ∀ ch ∈ p.data.toList, ch.toNat < 128) (hps : p.size ≤ 100) (ha : 0 ≤ a ∧ a ≤ 65535) (hb : 0 ≤ b ∧ b ≤ 65535) (hc : 0 ≤ c ∧ c ≤ 65535) :
    Calls Tryd.prog 42 #[.agg #[.int .i64 op, .int .i64 a, .int .i64 b, .int .i64 c]] w fun e w' => e = .returned (.string (textOf op a b c)) ∧ Below w.heap.size w w' := by
  have hu46 := Tryd.underlying46
  have hu65 := Tryd.underlying65
  have HR := Lib.hid hr
  have HGK0 := Lib.hid hGK
  have HGT := Lib.hid hGT
  have HGK := Lib.hid (GK.below hGK ((Below.refl w.heap.size w).alloc (Nat.le_refl _) (.cells #[.int .i64 op, .int .i64 a, .int .i64 b, .int .i64 c] 46)))
  have hpos := hGK.pos
  clear hGK hr hGT
  go_enter Tryd.func42, Tryd.ntmps42
  have HPC := Lib.hid (partsOf_size op h1 h2).2
  rw [hpar] at HPC
  go_wp2_with (go_at_call 40; refine (inst_Right.calls op a b c true _ HGK.out (congrArg some HR.out)).mono ?_; rintro e w1 ⟨rfl, hb⟩; have hbox := Lib.hid (blk_below (blk_new w (.cells #[.int .i64 op, .int .i64 a, .int .i64 b, .int .i64 c] 46)) hb); have HB := Lib.hid (below_step ((Below.refl w.heap.size w).alloc (Nat.le_refl _) _) hb); have HGK1 := Lib.hid (GK.below HGK0.out HB.out); have hpp := kind_cell HGK1.out _ _ HPC.out; have hpos1 := HGK1.out.pos; have hsz1 : w.heap.size < w1.heap.size := blk_lt hbox.out; clear hb; have hcz_0 : w1.cell? ⟨w.heap.size, 0, none⟩ = some (.int .i64 op) := (blk_cell hbox.out 0).trans rfl)
  go_loopg [3] (p.size + 1) (fun kq v3 wr => ∃ (pos : Nat) (xs : List Value), Aside0 (kq + pos = p.size + 1) ∧ Aside0 (pos ≤ p.size) ∧ Aside0 (xs = ((p.data.toList.take pos).map (itemOf a b c)).map .string) ∧ Aside0 (wr.ownsRow (w1.heap.size + 1) 9 1 v3 xs.length xs) ∧ Aside0 (wr.heap[w1.heap.size]? = some (.stringIter p pos)) ∧ Aside0 (wr.heap[w.heap.size]? = some (.cells #[.int .i64 op, .int .i64 a, .int .i64 b, .int .i64 c] 46 (0, 0))) ∧ Aside0 (Below w.heap.size w wr))
  case atStart =>
    refine ⟨0, [], ⟨rfl⟩, ⟨by omega⟩, ⟨rfl⟩, ⟨⟨rfl, Or.inl ⟨rfl, rfl⟩⟩⟩, ⟨?_⟩, ⟨blk_alloc hbox.out _⟩, ⟨below_alloc HB.out _⟩⟩
    have := World.iter_heap w1 p 0
    simpa using this
  case round =>
    obtain ⟨pos, xs, HK1, HK2, HX, HO, HI, HBX, HB2⟩ := hrel
    have hsz2 : w1.heap.size < wr.heap.size := blk_lt HI.out
    have hxl : xs.length ≤ 100 := by have := HK2.out; rw [HX.out]; simp; omega
    by_cases hpos2 : pos < p.size
    · have hnx : ∀ ty, (Instr.next (.pointer (some ⟨w1.heap.size, 0, none⟩)) true ty).run Tryd.prog wr = _ := fun ty => Lib.run_next_ascii_at wr w1.heap.size p pos ty HI.out hpos2 (hp _ (Array.getElem_mem_toList ..))
      have hnext : p.data.toList.take (pos + 1) = p.data.toList.take pos ++ [p[pos]'hpos2] := by
        rw [List.take_add_one]
        congr 1
        have : p.data.toList[pos]? = some (p[pos]'hpos2) := by rw [Array.getElem?_toList]; exact Array.getElem?_eq_getElem (by simpa using hpos2)
        rw [this]
        rfl
      replace hnext : (p.data.toList.take (pos + 1)).map (itemOf a b c) = (p.data.toList.take pos).map (itemOf a b c) ++ [itemOf a b c (p[pos]'hpos2)] := by rw [hnext, List.map_append]; rfl
      generalize hch : p[pos]'hpos2 = ch at hnx hnext
      clear hch
      have HI2 := Lib.hid (Lib.iterAt_heap wr w1.heap.size p pos (pos + 1) HI.out)
      have HBX2 := Lib.hid ((Lib.iterAt_other wr w1.heap.size w.heap.size p (pos + 1) (by omega)).trans HBX.out)
      have HB3 := Lib.hid (Lib.below_iterAt HB2.out (k := w1.heap.size) (by omega) p (pos + 1))
      have HO2 := Lib.hid (own_iterAt HO.out p (pos + 1))
      have hsz3 : w1.heap.size < (wr.iterAt w1.heap.size p (pos + 1)).heap.size := blk_lt HI2.out
      by_cases k97 : ch = 97
      · have k98 : ch ≠ 98 := by rw [k97]; decide
        have k114 : ch ≠ 114 := by rw [k97]; decide
        have hcz_1 : (wr.iterAt w1.heap.size p (pos + 1)).cell? ⟨w.heap.size, 1, none⟩ = some (.int .i64 a) := (blk_cell HBX2.out 1).trans rfl
        generalize wr.iterAt w1.heap.size p (pos + 1) = W2 at hnx HI2 HBX2 HB3 HO2 hsz3 hcz_1
        obtain ⟨t, ht⟩ : ∃ t : ByteArray, t = ⟨(Lib.itoa a).toArray⟩ := ⟨_, rfl⟩
        have hit : itemOf a b c ch = (⟨#[114]⟩ ++ t : ByteArray) := by rw [ht]; simp [itemOf, k97, k98, k114]
        rw [hit] at hnext
        clear hit
        have hts := Lib.itoa_length_le a (by omega) (by omega)
        have htl : t.size ≤ 21 := by rw [ht]; simpa [ByteArray.size] using hts
        have HT := Lib.hid ht
        clear ht
        clear hts
        have HN := Lib.hid hnext
        clear hnext
        go_wp2_with (first | (go_at_call 79; refine (itoa_calls a t _ (GT.below HGT.out HB3.out) (by omega) (by omega) HT.out).mono ?_; rintro e W3 ⟨rfl, hb3⟩; have HB4 := Lib.hid (below_step HB3.out hb3); have HI3 := Lib.hid (blk_below HI2.out hb3); have HBX3 := Lib.hid (blk_below HBX2.out hb3); have HO3 := Lib.hid (pw_own_below HO2.out hb3); clear HI2 HBX2 HB3 HO2; have hsz4 : w1.heap.size + 1 ≤ W3.heap.size := blk_lt HI3.out) | (at_builtin; go_must (refine print_append (w1.heap.size + 1) ?hgd (.tmp 27) (.tmp 32) 65 9 (.string ⟨#[]⟩) 16 ?hop Tryd.underlying65 info9 rfl (by decide) u3 xs (.string (⟨#[114]⟩ ++ t : ByteArray)) ?hs ?hx rfl HO3.out (Below.refl _ _) ?hba ?hle ?_; (case hgd => rfl); (case hop => rfl); (case hs => rfl); (case hx => rfl); (case hba => exact hsz4); (case hle => omega)); intro v1 w4 hown hbb hgg hat))
        go_roundg (gk - 1)
        case measure => have := HK1.out; omega
        case rel =>
          refine ⟨pos + 1, xs ++ [.string (⟨#[114]⟩ ++ t : ByteArray)], ⟨by have := HK1.out; omega⟩, ⟨by omega⟩, ⟨by rw [HN.out, List.map_append, HX.out]; rfl⟩, ⟨hown⟩, ⟨(hbb.block _ (by omega)).trans HI3.out⟩, ⟨(hbb.block _ (by omega)).trans HBX3.out⟩, ⟨HB4.out.trans (hbb.mono (by omega))⟩⟩
      · have e97 : ((ch.toNat : Int) == 97) = false := by rw [beq_eq_false_iff_ne]; exact fun h => k97 (UInt8.toNat_inj.1 (by have : (97 : UInt8).toNat = 97 := rfl; omega))
        by_cases k98 : ch = 98
        · have k114 : ch ≠ 114 := by rw [k98]; decide
          have hcz_1 : (wr.iterAt w1.heap.size p (pos + 1)).cell? ⟨w.heap.size, 2, none⟩ = some (.int .i64 b) := (blk_cell HBX2.out 2).trans rfl
          generalize wr.iterAt w1.heap.size p (pos + 1) = W2 at hnx HI2 HBX2 HB3 HO2 hsz3 hcz_1
          obtain ⟨t, ht⟩ : ∃ t : ByteArray, t = ⟨(Lib.itoa b).toArray⟩ := ⟨_, rfl⟩
          have hit : itemOf a b c ch = (⟨#[114]⟩ ++ t : ByteArray) := by rw [ht]; simp [itemOf, k97, k98, k114]
          rw [hit] at hnext
          clear hit
          have hts := Lib.itoa_length_le b (by omega) (by omega)
          have htl : t.size ≤ 21 := by rw [ht]; simpa [ByteArray.size] using hts
          have HT := Lib.hid ht
          clear ht
          clear hts
          have HN := Lib.hid hnext
          clear hnext
          go_wp2_with (first | (go_at_call 79; refine (itoa_calls b t _ (GT.below HGT.out HB3.out) (by omega) (by omega) HT.out).mono ?_; rintro e W3 ⟨rfl, hb3⟩; have HB4 := Lib.hid (below_step HB3.out hb3); have HI3 := Lib.hid (blk_below HI2.out hb3); have HBX3 := Lib.hid (blk_below HBX2.out hb3); have HO3 := Lib.hid (pw_own_below HO2.out hb3); clear HI2 HBX2 HB3 HO2; have hsz4 : w1.heap.size + 1 ≤ W3.heap.size := blk_lt HI3.out) | (at_builtin; go_must (refine print_append (w1.heap.size + 1) ?hgd (.tmp 36) (.tmp 41) 65 9 (.string ⟨#[]⟩) 16 ?hop Tryd.underlying65 info9 rfl (by decide) u3 xs (.string (⟨#[114]⟩ ++ t : ByteArray)) ?hs ?hx rfl HO3.out (Below.refl _ _) ?hba ?hle ?_; (case hgd => rfl); (case hop => rfl); (case hs => rfl); (case hx => rfl); (case hba => exact hsz4); (case hle => omega)); intro v1 w4 hown hbb hgg hat))
          go_roundg (gk - 1)
          case measure => have := HK1.out; omega
          case rel =>
            refine ⟨pos + 1, xs ++ [.string (⟨#[114]⟩ ++ t : ByteArray)], ⟨by have := HK1.out; omega⟩, ⟨by omega⟩, ⟨by rw [HN.out, List.map_append, HX.out]; rfl⟩, ⟨hown⟩, ⟨(hbb.block _ (by omega)).trans HI3.out⟩, ⟨(hbb.block _ (by omega)).trans HBX3.out⟩, ⟨HB4.out.trans (hbb.mono (by omega))⟩⟩
        · have e98 : ((ch.toNat : Int) == 98) = false := by rw [beq_eq_false_iff_ne]; exact fun h => k98 (UInt8.toNat_inj.1 (by have : (98 : UInt8).toNat = 98 := rfl; omega))
          by_cases k114 : ch = 114
          · skip
            have hcz_1 : (wr.iterAt w1.heap.size p (pos + 1)).cell? ⟨w.heap.size, 3, none⟩ = some (.int .i64 c) := (blk_cell HBX2.out 3).trans rfl
            generalize wr.iterAt w1.heap.size p (pos + 1) = W2 at hnx HI2 HBX2 HB3 HO2 hsz3 hcz_1
            obtain ⟨t, ht⟩ : ∃ t : ByteArray, t = ⟨(Lib.itoa c).toArray⟩ := ⟨_, rfl⟩
            have hit : itemOf a b c ch = (⟨#[114]⟩ ++ t : ByteArray) := by rw [ht]; simp [itemOf, k97, k98, k114]
            rw [hit] at hnext
            clear hit
            have hts := Lib.itoa_length_le c (by omega) (by omega)
            have htl : t.size ≤ 21 := by rw [ht]; simpa [ByteArray.size] using hts
            have HT := Lib.hid ht
            clear ht
            clear hts
            have HN := Lib.hid hnext
            clear hnext
            go_wp2_with (first | (go_at_call 79; refine (itoa_calls c t _ (GT.below HGT.out HB3.out) (by omega) (by omega) HT.out).mono ?_; rintro e W3 ⟨rfl, hb3⟩; have HB4 := Lib.hid (below_step HB3.out hb3); have HI3 := Lib.hid (blk_below HI2.out hb3); have HBX3 := Lib.hid (blk_below HBX2.out hb3); have HO3 := Lib.hid (pw_own_below HO2.out hb3); clear HI2 HBX2 HB3 HO2; have hsz4 : w1.heap.size + 1 ≤ W3.heap.size := blk_lt HI3.out) | (at_builtin; go_must (refine print_append (w1.heap.size + 1) ?hgd (.tmp 45) (.tmp 50) 65 9 (.string ⟨#[]⟩) 16 ?hop Tryd.underlying65 info9 rfl (by decide) u3 xs (.string (⟨#[114]⟩ ++ t : ByteArray)) ?hs ?hx rfl HO3.out (Below.refl _ _) ?hba ?hle ?_; (case hgd => rfl); (case hop => rfl); (case hs => rfl); (case hx => rfl); (case hba => exact hsz4); (case hle => omega)); intro v1 w4 hown hbb hgg hat))
            go_roundg (gk - 1)
            case measure => have := HK1.out; omega
            case rel =>
              refine ⟨pos + 1, xs ++ [.string (⟨#[114]⟩ ++ t : ByteArray)], ⟨by have := HK1.out; omega⟩, ⟨by omega⟩, ⟨by rw [HN.out, List.map_append, HX.out]; rfl⟩, ⟨hown⟩, ⟨(hbb.block _ (by omega)).trans HI3.out⟩, ⟨(hbb.block _ (by omega)).trans HBX3.out⟩, ⟨HB4.out.trans (hbb.mono (by omega))⟩⟩
          · have e114 : ((ch.toNat : Int) == 114) = false := by rw [beq_eq_false_iff_ne]; exact fun h => k114 (UInt8.toNat_inj.1 (by have : (114 : UInt8).toNat = 114 := rfl; omega))
            have hcz_1 : (wr.iterAt w1.heap.size p (pos + 1)).cell? ⟨w.heap.size, 3, none⟩ = some (.int .i64 c) := (blk_cell HBX2.out 3).trans rfl
            generalize wr.iterAt w1.heap.size p (pos + 1) = W2 at hnx HI2 HBX2 HB3 HO2 hsz3 hcz_1
            obtain ⟨t, ht⟩ : ∃ t : ByteArray, t = ⟨(Lib.itoa c).toArray⟩ := ⟨_, rfl⟩
            have hit : itemOf a b c ch = (t : ByteArray) := by rw [ht]; simp [itemOf, k97, k98, k114]
            rw [hit] at hnext
            clear hit
            have hts := Lib.itoa_length_le c (by omega) (by omega)
            have htl : t.size ≤ 21 := by rw [ht]; simpa [ByteArray.size] using hts
            have HT := Lib.hid ht
            clear ht
            clear hts
            have HN := Lib.hid hnext
            clear hnext
            go_wp2_with (first | (go_at_call 79; refine (itoa_calls c t _ (GT.below HGT.out HB3.out) (by omega) (by omega) HT.out).mono ?_; rintro e W3 ⟨rfl, hb3⟩; have HB4 := Lib.hid (below_step HB3.out hb3); have HI3 := Lib.hid (blk_below HI2.out hb3); have HBX3 := Lib.hid (blk_below HBX2.out hb3); have HO3 := Lib.hid (pw_own_below HO2.out hb3); clear HI2 HBX2 HB3 HO2; have hsz4 : w1.heap.size + 1 ≤ W3.heap.size := blk_lt HI3.out) | (at_builtin; go_must (refine print_append (w1.heap.size + 1) ?hgd (.tmp 19) (.tmp 23) 65 9 (.string ⟨#[]⟩) 16 ?hop Tryd.underlying65 info9 rfl (by decide) u3 xs (.string (t : ByteArray)) ?hs ?hx rfl HO3.out (Below.refl _ _) ?hba ?hle ?_; (case hgd => rfl); (case hop => rfl); (case hs => rfl); (case hx => rfl); (case hba => exact hsz4); (case hle => omega)); intro v1 w4 hown hbb hgg hat))
            go_roundg (gk - 1)
            case measure => have := HK1.out; omega
            case rel =>
              refine ⟨pos + 1, xs ++ [.string (t : ByteArray)], ⟨by have := HK1.out; omega⟩, ⟨by omega⟩, ⟨by rw [HN.out, List.map_append, HX.out]; rfl⟩, ⟨hown⟩, ⟨(hbb.block _ (by omega)).trans HI3.out⟩, ⟨(hbb.block _ (by omega)).trans HBX3.out⟩, ⟨HB4.out.trans (hbb.mono (by omega))⟩⟩
    · have hnx : ∀ ty, (Instr.next (.pointer (some ⟨w1.heap.size, 0, none⟩)) true ty).run Tryd.prog wr = _ := fun ty => Lib.run_next_end_at wr w1.heap.size p pos ty HI.out hpos2
      have hcz_1 : wr.cell? ⟨w.heap.size, 0, none⟩ = some (.int .i64 op) := (blk_cell HBX.out 0).trans rfl
      have HGK3 := Lib.hid (GK.below HGK0.out HB2.out)
      have hfull : p.data.toList.take pos = p.data.toList := List.take_of_length_le (by have : p.data.toList.length = p.size := rfl; omega)
      rw [hfull] at HX
      have HXS := Lib.hid HX.out
      clear HX
      by_cases hxe : xs = []
      · subst hxe
        have hit : textOf op a b c = nameOf op := by
          have h0 : itemsOf op a b c = [] := by have := HXS.out; unfold itemsOf; rw [hpar]; exact (List.map_eq_nil_iff.1 this.symm)
          unfold textOf
          rw [if_neg (by rw [HR.out]; decide), if_pos h0]
        have HE := Lib.hid hit
        clear hit
        obtain ⟨av, cv, rfl⟩ : ∃ av cv, u3 = .slice av 0 cv := by
          rcases HO.out.2 with ⟨h, _⟩ | ⟨g, cap, cur, h, _⟩
          · exact ⟨_, _, h⟩
          · exact ⟨_, _, h⟩
        go_wp2_with (go_at_call 49; refine (name_any op _ HGK3.out).mono ?_; rintro e W3 ⟨rfl, rfl⟩)
        go_ret
        exact ⟨by rw [HE.out]; rfl, HB2.out⟩
      · obtain ⟨items, hitems⟩ : ∃ items, items = p.data.toList.map (itemOf a b c) := ⟨_, rfl⟩
        have hxs := HXS.out
        rw [← hitems] at hxs
        clear HXS
        subst hxs
        have hne : items ≠ [] := fun h => hxe (by rw [h]; rfl)
        have hit : textOf op a b c = nameOf op ++ (⟨#[32]⟩ : ByteArray) ++ ⟨(Lib.join (items.map (·.data.toList)) [44, 32]).toArray⟩ := by
          have h0 : itemsOf op a b c = items := by unfold itemsOf; rw [hpar, hitems]
          unfold textOf
          rw [if_neg (by rw [HR.out]; decide), h0, if_neg hne]
        have hsm : ∀ x ∈ items, x.size ≤ 22 := by
          intro x hx
          rw [hitems] at hx
          obtain ⟨ch, _, rfl⟩ := List.mem_map.1 hx
          exact item_size a b c ch ha hb hc
        have hil : items.length ≤ 100 := by rw [List.length_map] at hxl; exact hxl
        have HJL := Lib.hid (join_small items hsm hil)
        have HE := Lib.hid hit
        have hi1 : items.length ≠ 0 := fun h => hne (List.eq_nil_of_length_eq_zero h)
        clear hit hitems hsm hxe hne
        rcases HO.out.2 with ⟨_, h⟩ | ⟨g, cap, cur, hv, hg, hcur, hcap, hmax, hcs, htk⟩
        · rw [List.length_map] at h; exact absurd h hi1
        · rw [List.length_map] at hv hcap htk
          subst hv
          have hbk := blk_lt hcur
          have hcells : ∀ (j : Nat) x, items[j]? = some x → wr.cell? ⟨g, 0 + j, none⟩ = some (.string x) := by
            intro j x hj
            have hlt : j < items.length := (List.getElem?_eq_some_iff.1 hj).1
            rw [Nat.zero_add, cell_of_row wr g j cur 9 (0, 0) hcur]
            have : (cur.toList.take (items.length * 1))[j]? = some (.string x) := by rw [htk, List.getElem?_map, hj]; rfl
            rw [List.getElem?_take_of_lt (by omega)] at this
            simpa using this
          have HC := Lib.hid hcells
          obtain ⟨nm, hnm⟩ : ∃ nm, nm = nameOf op := ⟨_, rfl⟩
          obtain ⟨jn, hjn⟩ : ∃ jn : ByteArray, jn = ⟨(Lib.join (items.map (·.data.toList)) [44, 32]).toArray⟩ := ⟨_, rfl⟩
          have hnms : nm.size ≤ 100 := by rw [hnm]; exact name_size op h1 h2
          have hjns : jn.size ≤ 10000 := by have := HJL.out; rw [hjn]; simpa [ByteArray.size] using this
          have hns : (nm ++ (⟨#[32]⟩ : ByteArray)).size ≤ 101 := by rw [ByteArray.size_append]; have : (⟨#[32]⟩ : ByteArray).size = 1 := rfl; omega
          have he := HE.out
          rw [← hnm, ← hjn] at he
          have HE2 := Lib.hid he
          have HNM := Lib.hid hnm
          have HJN := Lib.hid hjn
          clear he hnm hjn HE
          have hd : ((items.length : Int) == 0) = false := by rw [beq_eq_false_iff_ne]; omega
          clear hcells hcur hcs htk HO
          go_wp2_with (first | (go_at_call 49; refine (name_as op nm _ HGK3.out HNM.out).mono ?_; rintro e W3 ⟨rfl, rfl⟩) | (go_at_call 80; refine (join_as g cap items jn _ HC.out hbk (by omega) hcap HJL.out HJN.out).mono ?_; rintro e W4 ⟨rfl, hb4⟩))
          go_ret
          exact ⟨by rw [HE2.out]; rfl, below_step HB2.out hb4⟩
theorem right_facts (op a b c : Int) (h : rightB op a b c = true) : 1 ≤ op ∧ op < 28 ∧ (0 ≤ a ∧ a ≤ 65535) ∧ (0 ≤ b ∧ b ≤ 65535) ∧ (0 ≤ c ∧ c ≤ 65535) := by
  have hb : ∀ (p : ByteArray) (ch n m : Int), m ≤ 65535 → hasB p ch n m = true → 0 ≤ n ∧ n ≤ 65535 := by
    intro p ch n m hm hh
    unfold hasB at hh
    split at hh
    · have := eq_of_beq hh; omega
    · split at hh
      · have := of_decide_eq_true hh; omega
      · cases hh
  unfold rightB at h
  split at h
  · cases h
  · rename_i h0
    split at h
    · cases h
    · rename_i h1
      split at h
      · cases h
      · rename_i h2
        have h1 : hasB (partsOf op) 97 a 15 = true := by simpa using h1
        have h2 : hasB (partsOf op) 98 b 15 = true := by simpa using h2
        refine ⟨by omega, by omega, hb _ _ _ _ (by decide) h1, hb _ _ _ _ (by decide) h2, ?_⟩
        split at h
        · split at h
          · have := of_decide_eq_true h; omega
          · cases h
        · exact hb _ _ _ _ (by decide) h
theorem parts_ascii (op : Int) (h1 : 1 ≤ op) (h2 : op < 28) : (partsOf op).size ≤ 100 ∧ ∀ ch ∈ (partsOf op).data.toList, ch.toNat < 128 := by
  obtain ⟨n, rfl⟩ : ∃ n : Nat, op = n := ⟨op.toNat, by omega⟩
  have h3 : n < 28 := by omega
  clear h1 h2
  have : n = 0 ∨ n = 1 ∨ n = 2 ∨ n = 3 ∨ n = 4 ∨ n = 5 ∨ n = 6 ∨ n = 7 ∨ n = 8 ∨ n = 9 ∨ n = 10 ∨ n = 11 ∨ n = 12 ∨ n = 13 ∨ n = 14 ∨ n = 15 ∨ n = 16 ∨ n = 17 ∨ n = 18 ∨ n = 19 ∨ n = 20 ∨ n = 21 ∨ n = 22 ∨ n = 23 ∨ n = 24 ∨ n = 25 ∨ n = 26 ∨ n = 27 := by omega
  rcases this with rfl | rfl | rfl | rfl | rfl | rfl | rfl | rfl | rfl | rfl | rfl | rfl | rfl | rfl | rfl | rfl | rfl | rfl | rfl | rfl | rfl | rfl | rfl | rfl | rfl | rfl | rfl | rfl
  all_goals exact ⟨by decide, by decide⟩
theorem inst_Text.calls (a0_0 : Int) (a0_1 : Int) (a0_2 : Int) (a0_3 : Int) (r : ByteArray) (w : World) (hGK : GK w) (hGT : GT w) (h : inst_Text.f a0_0 a0_1 a0_2 a0_3 = some r) :
    Calls Tryd.prog 42 #[.agg #[.int .i64 a0_0, .int .i64 a0_1, .int .i64 a0_2, .int .i64 a0_3]] w fun e w' => e = .returned (.string r) ∧ Below w.heap.size w w' := by
  obtain rfl := Option.some.inj h
  by_cases hr : rightB a0_0 a0_1 a0_2 a0_3 = true
  · obtain ⟨h1, h2, ha, hb, hc⟩ := right_facts _ _ _ _ hr
    obtain ⟨hs, hp⟩ := parts_ascii _ h1 h2
    exact text_right _ _ _ _ _ w hGK hGT hr h1 h2 rfl hp hs ha hb hc
  · have hr : rightB a0_0 a0_1 a0_2 a0_3 = false := by simpa using hr
    have : textOf a0_0 a0_1 a0_2 a0_3 = ⟨#[]⟩ := by unfold textOf; rw [if_pos hr]
    rw [this]
    exact text_wrong _ _ _ _ w hGK hr
end Go.Proofs.YtdhkmdgieflioaaDoor.F
