/- Texts of this claim: contracts of functions that the law reaches, and plain lemmas. -/
import Derived.OrdersHeld
import Derived.Deep.RegionHeld3
import Derived.Laws.BitsLemmas
import Derived.RowKit
import Derived.Laws.StructEq
import Derived.Test.YtdhkmdgieflioaaDoorProg
import Derived.Below
import Derived.Deep.Draws
import Derived.Deep.AppendLies
import Derived.Maps.AppendAt
import Derived.OwnWalk
import Derived.Laws.BytesArg
import Derived.Laws.MakeOwn
import Derived.Laws.OwnMore
import Derived.Deep.OwnRows
import Derived.Tactics
import Derived.Lib.ConvBytes
import Derived.Laws.Slices
import Derived.WalkKit
import Derived.KernelRfl
import Derived.RowKit3
import Derived.Deep.LoopGhost
import Derived.Deep.QuietTactic
import Derived.BigQuiet
import Derived.WideLaws
import Derived.Deep.DeepCutAuto
import Derived.Deep.CutBlock
import Derived.Laws.Rows
import Derived.Lib.AppendStr
import Derived.ArgAppend
import Derived.Laws.IdiomCopy
import Derived.Lib.FrozenHead
import Derived.Test.YtdhkmdgieflioaaDoorZ0
namespace Go.Proofs.YtdhkmdgieflioaaDoorW.PrintLast
section
variable {P : Program} {ops : Array Oper} {Q : Exit → Act → World → Prop} {md : Region.Mode} {S : World → Prop} {ds : List Nat}
def Region.reachB (md : Region.Mode) (ops : Array Oper) (i : Nat) : Nat → Nat → Bool
  | 0, _ => false
  | fuel + 1, d => match ops[d]? with
    | some o => o.after.any fun e => Region.binds md e && (e.on == i || Region.reachB md ops i fuel e.on)
    | none => false
def Region.closedB (md : Region.Mode) (ops : Array Oper) (listed : Array Bool) : Bool :=
  (List.range ops.size).all fun j => !listed.getD j false || match ops[j]? with
    | some o => o.after.all fun e => !Region.binds md e || listed.getD e.on false
    | none => true
def Region.lastB (md : Region.Mode) (ops : Array Oper) (listed : Array Bool) (ds : List Nat) (i : Nat) : Bool :=
  ds.all fun d => listed.getD d true || Region.reachB md ops i ops.size d
def ListedClosed (md : Region.Mode) (ops : Array Oper) (listed : Array Bool) : Prop :=
  ∀ j oj, ops[j]? = some oj → listed.getD j false = true → ∀ e ∈ oj.after, Region.binds md e = true → listed.getD e.on false = true
theorem Region.closedB_spec {listed : Array Bool} (h : Region.closedB md ops listed = true) : ListedClosed md ops listed := by
  intro j oj hj hl e he hb
  have hlt : j < ops.size := (Array.getElem?_eq_some_iff.1 hj).1
  have h1 := List.all_eq_true.1 h j (List.mem_range.2 hlt)
  simp only [hl, hj, Bool.not_true, Bool.false_or] at h1
  have h2 := Array.all_eq_true_iff_forall_mem.1 h1 e he
  simpa [hb] using h2
theorem ListedClosed.set {listed : Array Bool} {i : Nat} (h : ListedClosed md ops listed) (hi : i ∈ Region.ready md ops listed) : ListedClosed md ops (listed.setIfInBounds i true) := by
  obtain ⟨_, oi, hoi, hall⟩ := mem_ready.1 hi
  intro j oj hj hl e he hb
  by_cases hij : i = j
  · subst hij
    have : oj = oi := Option.some.inj (hj.symm.trans hoi)
    subst this
    exact getD_set_true (hall e he hb)
  · rw [getD_set_ne false hij] at hl
    exact getD_set_true (h j oj hj hl e he hb)
theorem Region.reach_listed {listed : Array Bool} {i : Nat} (hc : ListedClosed md ops listed) : ∀ (fuel d : Nat), Region.reachB md ops i fuel d = true → listed.getD d false = true → listed.getD i false = true
  | 0, _, h, _ => by simp [Region.reachB] at h
  | fuel + 1, d, h, hl => by
    unfold Region.reachB at h
    cases ho : ops[d]? with
    | none => rw [ho] at h; simp at h
    | some o =>
      rw [ho] at h
      obtain ⟨e, he, h1⟩ := Array.any_eq_true'.1 h
      simp only [Bool.and_eq_true, Bool.or_eq_true, beq_iff_eq] at h1
      have hle := hc d o ho hl e he h1.1
      rcases h1.2 with h2 | h2
      · rw [← h2]; exact hle
      · exact Region.reach_listed hc fuel e.on h2 hle
theorem Region.reach_not_ready {listed : Array Bool} {i d fuel : Nat} (hc : ListedClosed md ops listed) (hr : Region.reachB md ops i fuel d = true) (hun : listed.getD i true = false) : d ∉ Region.ready md ops listed := by
  intro hd
  obtain ⟨_, o, ho, hall⟩ := mem_ready.1 hd
  have hi : listed.getD i false = true := by
    cases fuel with
    | zero => simp [Region.reachB] at hr
    | succ n =>
      unfold Region.reachB at hr
      rw [ho] at hr
      obtain ⟨e, he, h1⟩ := Array.any_eq_true'.1 hr
      simp only [Bool.and_eq_true, Bool.or_eq_true, beq_iff_eq] at h1
      have hle := hall e he h1.1
      rcases h1.2 with h2 | h2
      · rw [← h2]; exact hle
      · exact Region.reach_listed hc n e.on h2 hle
  rcases Nat.lt_or_ge i listed.size with h' | h'
  · simp [h'] at hun hi
    rw [hun] at hi
    cases hi
  · simp [Array.getElem?_eq_none h'] at hun
def wpAnyLast (P : Program) (md : Region.Mode) (ops : Array Oper) (Q : Exit → Act → World → Prop) (S : World → Prop) (ds : List Nat) : Nat → Array Bool → Act → World → Prop
  | 0, listed, a, w => Region.ready md ops listed = [] ∧ Q .normal a w
  | fuel + 1, listed, a, w =>
    (Region.ready md ops listed = [] → Q .normal a w) ∧
    ∀ i ∈ Region.ready md ops listed, wpOp P ops Q i (fun a' w' => (i ∉ ds → S w → S w') ∧ wpAnyLast P md ops Q S ds fuel (listed.setIfInBounds i true) a' w') a w
theorem wpAny_of_last : ∀ (fuel : Nat) (listed : Array Bool) (a : Act) (w : World), wpAnyLast P md ops Q S ds fuel listed a w → wpAny P md ops Q fuel listed a w
  | 0, _, _, _, h => h
  | fuel + 1, _, _, _, h => ⟨h.1, fun i hi => wpOp_mono (fun a' w' h' => wpAny_of_last fuel _ a' w' h'.2) (h.2 i hi)⟩
theorem wpAnyLast_first {i : Nat} {oi : Oper} {v : Value} (hi : ops[i]? = some oi) (hsel : ∀ (j : Nat) (o : Oper) cs b, ops[j]? = some o → o.op ≠ .select cs b)
    (hQ : ∀ c a w, Q (.panic c) (a.put oi.dst v) w → Q (.panic c) a w) (n : Nat) :
    ∀ (fuel : Nat) (listed : Array Bool) (a : Act) (w : World),
      (∀ j oj, ops[j]? = some oj → j ≠ i → listed.getD j true = false → (∀ e ∈ oj.after, Region.binds md e = true → e.on ≠ i) → oi.apart ops oj = true) →
      ListedClosed md ops listed → (∀ d ∈ ds, listed.getD d true = false → Region.reachB md ops i n d = true) →
      i ∈ Region.ready md ops listed → YieldsIf P ops S oi v a → S w →
      wpAnyLast P md ops Q S ds fuel (listed.setIfInBounds i true) (a.put oi.dst v) w → wpAnyLast P md ops Q S ds (fuel + 1) listed a w := by
  intro fuel
  induction fuel with
  | zero =>
    intro listed a w _ _ _ hr hy hS H
    refine ⟨fun h => (by rw [h] at hr; cases hr), fun j hj => ?_⟩
    by_cases hji : j = i
    · subst hji; exact hy.wpOp hi hS ⟨fun _ h => h, H⟩
    · have := ready_mono hj hji
      rw [H.1] at this
      cases this
  | succ fuel ih =>
    intro listed a w hfree hc hd hr hy hS H
    refine ⟨fun h => (by rw [h] at hr; cases hr), fun j hj => ?_⟩
    by_cases hji : j = i
    · subst hji; exact hy.wpOp hi hS ⟨fun _ h => h, H⟩
    · have h1 := H.2 j (ready_mono hj hji)
      obtain ⟨hjun, oj, hoj, hall⟩ := mem_ready.1 hj
      have hiun := (mem_ready.1 hr).1
      have hnot : ∀ e ∈ oj.after, Region.binds md e = true → e.on ≠ i := fun e he hb heq => by
        have h1 := hall e he hb
        rw [heq] at h1
        rcases Nat.lt_or_ge i listed.size with h' | h'
        · simp [h'] at hiun h1; rw [hiun] at h1; cases h1
        · simp [Array.getElem?_eq_none h'] at h1
      have hjd : j ∉ ds := fun hm => Region.reach_not_ready hc (hd j hm hjun) hiun hj
      have h2 := wpOp_putIf hoj (hfree j oj hoj hji hjun hnot) (fun cs b => hsel i oi cs b hi) (fun cs b => hsel j oj cs b hoj) hQ hy h1
      have hfree' : ∀ k ok, ops[k]? = some ok → k ≠ i → (listed.setIfInBounds j true).getD k true = false →
          (∀ e ∈ ok.after, Region.binds md e = true → e.on ≠ i) → oi.apart ops ok = true := fun k ok hk hki hun hno => by
        refine hfree k ok hk hki ?_ hno
        by_cases hjk : j = k
        · subst hjk; exact hjun
        · rw [getD_set_ne true hjk] at hun; exact hun
      have hd' : ∀ d ∈ ds, (listed.setIfInBounds j true).getD d true = false → Region.reachB md ops i n d = true := fun d hm hun => by
        refine hd d hm ?_
        by_cases hjk : j = d
        · subst hjk; exact hjun
        · rw [getD_set_ne true hjk] at hun; exact hun
      refine wpOp_mono (fun a' w' h3 => ⟨h3.2.1, ih (listed.setIfInBounds j true) a' w' hfree' (hc.set hj) hd' (ready_mono hr (Ne.symm hji)) h3.1 (h3.2.1 hjd hS) ?_⟩) h2
      rw [Array.setIfInBounds_comm _ _ hji]
      exact h3.2.2
theorem wpAnyLast_any {i : Nat} {oi : Oper} {v : Value} (hi : ops[i]? = some oi) (hsel : ∀ (j : Nat) (o : Oper) cs b, ops[j]? = some o → o.op ≠ .select cs b)
    (hQ : ∀ c a w, Q (.panic c) (a.put oi.dst v) w → Q (.panic c) a w) :
    ∀ (fuel : Nat) (listed : Array Bool) (a : Act) (w : World),
      (∀ j oj, ops[j]? = some oj → j ≠ i → listed.getD j true = false → (∀ e ∈ oj.after, Region.binds md e = true → e.on ≠ i) → oi.apart ops oj = true) →
      i ∈ Region.ready md ops listed → Yields P ops oi v a →
      wpAnyLast P md ops Q S ds fuel (listed.setIfInBounds i true) (a.put oi.dst v) w → wpAnyLast P md ops Q S ds (fuel + 1) listed a w := by
  intro fuel
  induction fuel with
  | zero =>
    intro listed a w _ hr hy H
    refine ⟨fun h => (by rw [h] at hr; cases hr), fun j hj => ?_⟩
    by_cases hji : j = i
    · subst hji; exact (hy.yieldsIf (S := fun _ => True)).wpOp hi trivial ⟨fun _ h => h, H⟩
    · have := ready_mono hj hji
      rw [H.1] at this
      cases this
  | succ fuel ih =>
    intro listed a w hfree hr hy H
    refine ⟨fun h => (by rw [h] at hr; cases hr), fun j hj => ?_⟩
    by_cases hji : j = i
    · subst hji; exact (hy.yieldsIf (S := fun _ => True)).wpOp hi trivial ⟨fun _ h => h, H⟩
    · have h1 := H.2 j (ready_mono hj hji)
      obtain ⟨hjun, oj, hoj, hall⟩ := mem_ready.1 hj
      have hiun := (mem_ready.1 hr).1
      have hnot : ∀ e ∈ oj.after, Region.binds md e = true → e.on ≠ i := fun e he hb heq => by
        have h1 := hall e he hb
        rw [heq] at h1
        rcases Nat.lt_or_ge i listed.size with h' | h'
        · simp [h'] at hiun h1; rw [hiun] at h1; cases h1
        · simp [Array.getElem?_eq_none h'] at h1
      have h2 := wpOp_put hoj (hfree j oj hoj hji hjun hnot) (fun cs b => hsel i oi cs b hi) (fun cs b => hsel j oj cs b hoj) hQ hy h1
      have hfree' : ∀ k ok, ops[k]? = some ok → k ≠ i → (listed.setIfInBounds j true).getD k true = false →
          (∀ e ∈ ok.after, Region.binds md e = true → e.on ≠ i) → oi.apart ops ok = true := fun k ok hk hki hun hno => by
        refine hfree k ok hk hki ?_ hno
        by_cases hjk : j = k
        · subst hjk; exact hjun
        · rw [getD_set_ne true hjk] at hun; exact hun
      refine wpOp_mono (fun a' w' h3 => ⟨h3.2.1, ih (listed.setIfInBounds j true) a' w' hfree' (ready_mono hr (Ne.symm hji)) h3.1 ?_⟩) h2
      rw [Array.setIfInBounds_comm _ _ hji]
      exact h3.2.2
theorem wpAnyLast_take {i : Nat} {oi : Oper} {v : Value} {fuel : Nat} {listed : Array Bool} {a : Act} {w : World} (hi : ops[i]? = some oi)
    (hs : Region.noSelect ops = true) (hf : Region.free md ops listed i = true) (hr : (Region.ready md ops listed).contains i = true)
    (hc : Region.closedB md ops listed = true) (hl : Region.lastB md ops listed ds i = true)
    (hQ : ∀ c a w, Q (.panic c) (a.put oi.dst v) w → Q (.panic c) a w) (hy : YieldsIf P ops S oi v a) (hS : S w)
    (h : wpAnyLast P md ops Q S ds fuel (listed.setIfInBounds i true) (a.put oi.dst v) w) : wpAnyLast P md ops Q S ds (fuel + 1) listed a w :=
  wpAnyLast_first hi (Region.noSelect_spec hs) hQ ops.size fuel listed a w (Region.free_spec hi hf) (Region.closedB_spec hc)
    (fun d hm hun => by have := List.all_eq_true.1 hl d hm; rw [hun] at this; simpa using this) (by simpa using hr) hy hS h
theorem wpAnyLast_all {rs : List Nat} {fuel : Nat} {listed : Array Bool} {a : Act} {w : World} (hr : Region.ready md ops listed = rs) (hne : rs ≠ [])
    (h : ∀ i ∈ rs, wpOp P ops Q i (fun a' w' => (i ∉ ds → S w → S w') ∧ wpAnyLast P md ops Q S ds fuel (listed.setIfInBounds i true) a' w') a w) : wpAnyLast P md ops Q S ds (fuel + 1) listed a w :=
  ⟨fun h0 => absurd (hr ▸ h0) hne, hr ▸ h⟩
theorem wpAnyLast_done {listed : Array Bool} {a : Act} {w : World} (hr : Region.ready md ops listed = []) (h : Q .normal a w) :
    ∀ fuel, wpAnyLast P md ops Q S ds fuel listed a w
  | 0 => ⟨hr, h⟩
  | _ + 1 => ⟨fun _ => h, by rw [hr]; simp⟩
theorem wp_region_last {id : Nat} {a : Act} {w : World} (hm : P.follows .mixedOrders = true)
    (h : wpAnyLast P .any ops Q S ds ops.size (Array.replicate ops.size false) a { w with drawn := w.drawn + 1 }) : (Code.region id ops true).wp P Q a w :=
  wp_region_any hm (wpAny_of_last _ _ _ _ h)
end
section
variable {P : Program} {ops : Array Oper} {Q : Exit → Act → World → Prop} {md : Region.Mode} {S : World → Prop} {ds : List Nat}
def AllReadyL (P : Program) (md : Region.Mode) (ops : Array Oper) (Q : Exit → Act → World → Prop) (S : World → Prop) (ds : List Nat) (fuel : Nat) (listed : Array Bool) (a : Act) (w : World) (rs : List Nat) : Prop :=
  ∀ i ∈ rs, wpOp P ops Q i (fun a' w' => (i ∉ ds → S w → S w') ∧ wpAnyLast P md ops Q S ds fuel (listed.setIfInBounds i true) a' w') a w
theorem AllReadyL.nil {fuel : Nat} {listed : Array Bool} {a : Act} {w : World} : AllReadyL P md ops Q S ds fuel listed a w [] := fun _ h => by cases h
theorem AllReadyL.cons {fuel : Nat} {listed : Array Bool} {a : Act} {w : World} {i : Nat} {o : Oper} {rs : List Nat} (ho : ops[i]? = some o) (hd : i ∉ ds)
    (h : ∀ K' : Act → World → Prop, Shut (∀ a w, S w → (S w → wpAnyLast P md ops Q S ds fuel (listed.setIfInBounds i true) a w) → K' a w) → if Region.wanted o (yielded ops a.tmps) = true then Oper.wp P o a w K' Q else K' (a.put o.dst undef) w)
    (hs : AllReadyL P md ops Q S ds fuel listed a w rs) : AllReadyL P md ops Q S ds fuel listed a w (i :: rs) := fun j hj => by
  rcases List.mem_cons.1 hj with rfl | hj
  · exact wpOp_step ho (fun K' hK => h K' (fun a w hS hW => hK a w ⟨fun _ _ => hS, hW hS⟩))
  · exact hs j hj
theorem AllReadyL.cons_last {fuel : Nat} {listed : Array Bool} {a : Act} {w : World} {i : Nat} {o : Oper} {rs : List Nat} (ho : ops[i]? = some o) (hd : i ∈ ds)
    (h : ∀ K' : Act → World → Prop, Shut (∀ a w, wpAnyLast P md ops Q S ds fuel (listed.setIfInBounds i true) a w → K' a w) → if Region.wanted o (yielded ops a.tmps) = true then Oper.wp P o a w K' Q else K' (a.put o.dst undef) w)
    (hs : AllReadyL P md ops Q S ds fuel listed a w rs) : AllReadyL P md ops Q S ds fuel listed a w (i :: rs) := fun j hj => by
  rcases List.mem_cons.1 hj with rfl | hj
  · exact wpOp_step ho (fun K' hK => h K' (fun a w hW => hK a w ⟨fun hn => absurd hd hn, hW⟩))
  · exact hs j hj
theorem wpAnyLast_ready {rs : List Nat} {fuel : Nat} {listed : Array Bool} {a : Act} {w : World} (hr : Region.ready md ops listed = rs) (hne : rs ≠ [])
    (h : AllReadyL P md ops Q S ds fuel listed a w rs) : wpAnyLast P md ops Q S ds (fuel + 1) listed a w := wpAnyLast_all hr hne h
theorem start_ {id n : Nat} {a : Act} {w : World} (l : Array Bool) (hm : P.follows .mixedOrders = true) (hn : ops.size = n) (hl : Array.replicate n false = l) (hS : S w.drew)
    (h : S w.drew → wpAnyLast P .any ops Q S ds n l a w.drew) : (Code.region id ops true).wp P Q a w := by
  subst hn
  subst hl
  exact wp_region_last hm (h hS)
def takeB (md : Region.Mode) (ops : Array Oper) (ds : List Nat) (l l' : Array Bool) (i : Nat) : Bool :=
  Region.noSelect ops && Region.free md ops l i && (Region.ready md ops l).contains i && Region.closedB md ops l && Region.lastB md ops l ds i && (l.setIfInBounds i true == l')
theorem take_ {i : Nat} {N : Option Tmp} {oi : Oper} {v : Value} {fuel : Nat} {l : Array Bool} {a : Act} {w : World} (l' : Array Bool) (hi : ops[i]? = some oi) (hN : oi.dst = N) (hc : takeB md ops ds l l' i = true)
    (hQ : ∀ c a w, Q (.panic c) (a.put oi.dst v) w → Q (.panic c) a w) (hy : YieldsIf P ops S oi v a) (hS : S w) {a' : Act} (ha : a.put N v = a')
    (h : wpAnyLast P md ops Q S ds fuel l' a' w) : wpAnyLast P md ops Q S ds (fuel + 1) l a w := by
  subst ha
  subst hN
  simp only [takeB, Bool.and_eq_true, beq_iff_eq] at hc
  obtain ⟨⟨⟨⟨⟨h1, h2⟩, h3⟩, h4⟩, h5⟩, h6⟩ := hc
  subst h6
  exact wpAnyLast_take hi h1 h2 h3 h4 h5 hQ hy hS h
def anyB (md : Region.Mode) (ops : Array Oper) (l l' : Array Bool) (i : Nat) : Bool :=
  Region.noSelect ops && Region.free md ops l i && (Region.ready md ops l).contains i && (l.setIfInBounds i true == l')
theorem pure_ {i : Nat} {N : Option Tmp} {oi : Oper} {v : Value} {fuel : Nat} {l : Array Bool} {a : Act} {w : World} (l' : Array Bool) (hi : ops[i]? = some oi) (hN : oi.dst = N) (hc : anyB md ops l l' i = true)
    (hQ : ∀ c a w, Q (.panic c) (a.put oi.dst v) w → Q (.panic c) a w) (hy : Yields P ops oi v a) {a' : Act} (ha : a.put N v = a')
    (h : wpAnyLast P md ops Q S ds fuel l' a' w) : wpAnyLast P md ops Q S ds (fuel + 1) l a w := by
  subst ha
  subst hN
  simp only [anyB, Bool.and_eq_true, beq_iff_eq] at hc
  obtain ⟨⟨⟨h1, h2⟩, h3⟩, h6⟩ := hc
  subst h6
  exact wpAnyLast_any hi (Region.noSelect_spec h1) hQ fuel l a w (Region.free_spec hi h2) (by simpa using h3) hy h
def readyB (md : Region.Mode) (ops : Array Oper) (l l' : Array Bool) (i : Nat) : Bool := (Region.ready md ops l == [i]) && (l.setIfInBounds i true == l')
theorem one_ {i : Nat} {N : Option Tmp} {oi : Oper} {fuel : Nat} {l : Array Bool} {a : Act} {w : World} (l' : Array Bool) (hi : ops[i]? = some oi) (hN : oi.dst = N) (hc : readyB md ops l l' i = true) (hd : i ∉ ds)
    (h : ∀ K : Act → World → Prop, Shut (∀ a' w', S w' → (S w' → wpAnyLast P md ops Q S ds fuel l' a' w') → K a' w') → if Region.wanted oi (yielded ops a.tmps) = true then Oper.wp P oi a w K Q else K (a.put N undef) w) :
    wpAnyLast P md ops Q S ds (fuel + 1) l a w := by
  subst hN
  simp only [readyB, Bool.and_eq_true, beq_iff_eq] at hc
  obtain ⟨h1, h2⟩ := hc
  subst h2
  exact wpAnyLast_ready h1 (by simp) (AllReadyL.cons hi hd (fun K hK => h K hK) AllReadyL.nil)
theorem last_ {i : Nat} {N : Option Tmp} {oi : Oper} {fuel : Nat} {l : Array Bool} {a : Act} {w : World} (l' : Array Bool) (hi : ops[i]? = some oi) (hN : oi.dst = N) (hc : readyB md ops l l' i = true) (hd : i ∈ ds)
    (h : ∀ K : Act → World → Prop, Shut (∀ a' w', wpAnyLast P md ops Q S ds fuel l' a' w' → K a' w') → if Region.wanted oi (yielded ops a.tmps) = true then Oper.wp P oi a w K Q else K (a.put N undef) w) :
    wpAnyLast P md ops Q S ds (fuel + 1) l a w := by
  subst hN
  simp only [readyB, Bool.and_eq_true, beq_iff_eq] at hc
  obtain ⟨h1, h2⟩ := hc
  subst h2
  exact wpAnyLast_ready h1 (by simp) (AllReadyL.cons_last hi hd (fun K hK => h K hK) AllReadyL.nil)
theorem done_ {l : Array Bool} {a : Act} {w : World} {n : Nat} (hr : (Region.ready md ops l == []) = true) (h : Q .normal a w) : wpAnyLast P md ops Q S ds n l a w := wpAnyLast_done (by simpa using hr) h n
theorem two_ {i j : Nat} {Ni Nj : Option Tmp} {oi oj : Oper} {fuel : Nat} {l : Array Bool} {a : Act} {w : World} (li lj : Array Bool) (hi : ops[i]? = some oi) (hj : ops[j]? = some oj) (hNi : oi.dst = Ni) (hNj : oj.dst = Nj)
    (hc : (Region.ready md ops l == [i, j] && l.setIfInBounds i true == li && l.setIfInBounds j true == lj) = true) (hdi : i ∉ ds) (hdj : j ∉ ds)
    (h1 : ∀ K : Act → World → Prop, Shut (∀ a' w', S w' → (S w' → wpAnyLast P md ops Q S ds fuel li a' w') → K a' w') → if Region.wanted oi (yielded ops a.tmps) = true then Oper.wp P oi a w K Q else K (a.put Ni undef) w)
    (h2 : ∀ K : Act → World → Prop, Shut (∀ a' w', S w' → (S w' → wpAnyLast P md ops Q S ds fuel lj a' w') → K a' w') → if Region.wanted oj (yielded ops a.tmps) = true then Oper.wp P oj a w K Q else K (a.put Nj undef) w) :
    wpAnyLast P md ops Q S ds (fuel + 1) l a w := by
  subst hNi
  subst hNj
  simp only [Bool.and_eq_true, beq_iff_eq] at hc
  obtain ⟨⟨h3, h4⟩, h5⟩ := hc
  subst h4
  subst h5
  exact wpAnyLast_ready h3 (by simp) (AllReadyL.cons hi hdi (fun K hK => h1 K hK) (AllReadyL.cons hj hdj (fun K hK => h2 K hK) AllReadyL.nil))
theorem three_ {i j k : Nat} {Ni Nj Nk : Option Tmp} {oi oj ok : Oper} {fuel : Nat} {l : Array Bool} {a : Act} {w : World} (li lj lk : Array Bool) (hi : ops[i]? = some oi) (hj : ops[j]? = some oj) (hk : ops[k]? = some ok) (hNi : oi.dst = Ni) (hNj : oj.dst = Nj) (hNk : ok.dst = Nk)
    (hc : (Region.ready md ops l == [i, j, k] && l.setIfInBounds i true == li && l.setIfInBounds j true == lj && l.setIfInBounds k true == lk) = true) (hdi : i ∉ ds) (hdj : j ∉ ds) (hdk : k ∉ ds)
    (h1 : ∀ K : Act → World → Prop, Shut (∀ a' w', S w' → (S w' → wpAnyLast P md ops Q S ds fuel li a' w') → K a' w') → if Region.wanted oi (yielded ops a.tmps) = true then Oper.wp P oi a w K Q else K (a.put Ni undef) w)
    (h2 : ∀ K : Act → World → Prop, Shut (∀ a' w', S w' → (S w' → wpAnyLast P md ops Q S ds fuel lj a' w') → K a' w') → if Region.wanted oj (yielded ops a.tmps) = true then Oper.wp P oj a w K Q else K (a.put Nj undef) w)
    (h3 : ∀ K : Act → World → Prop, Shut (∀ a' w', S w' → (S w' → wpAnyLast P md ops Q S ds fuel lk a' w') → K a' w') → if Region.wanted ok (yielded ops a.tmps) = true then Oper.wp P ok a w K Q else K (a.put Nk undef) w) :
    wpAnyLast P md ops Q S ds (fuel + 1) l a w := by
  subst hNi
  subst hNj
  subst hNk
  simp only [Bool.and_eq_true, beq_iff_eq] at hc
  obtain ⟨⟨⟨h4, h5⟩, h6⟩, h7⟩ := hc
  subst h5
  subst h6
  subst h7
  exact wpAnyLast_ready h4 (by simp) (AllReadyL.cons hi hdi (fun K hK => h1 K hK) (AllReadyL.cons hj hdj (fun K hK => h2 K hK) (AllReadyL.cons hk hdk (fun K hK => h3 K hK) AllReadyL.nil)))
def putAll : Act → List (Tmp × Value) → Act
  | a, [] => a
  | a, (n, v) :: r => putAll (a.put (some n) v) r
theorem join_ {σ : Type} {fuel : Nat} {l : Array Bool} {a : Act} {w : World} (fuel' : Nat) (l' : Array Bool) (ns : σ → List (Tmp × Value)) (F : σ → World → Prop)
    (hcont : ∀ s w', F s w' → wpAnyLast P md ops Q S ds fuel' l' (putAll a (ns s)) w')
    (h : (∀ s w', F s w' → wpAnyLast P md ops Q S ds fuel' l' (putAll a (ns s)) w') → wpAnyLast P md ops Q S ds fuel l a w) : wpAnyLast P md ops Q S ds fuel l a w := h hcont
theorem norm_ {fuel : Nat} {l : Array Bool} {a a' : Act} {w : World} (ha : a = a') (h : wpAnyLast P md ops Q S ds fuel l a' w) : wpAnyLast P md ops Q S ds fuel l a w := by
  subst ha
  exact h
theorem call_ {oi : Oper} {N : Option Tmp} {a : Act} {w : World} {K : Act → World → Prop} (f : FuncId) (args : Array Value) (hw : Region.wanted oi (yielded ops a.tmps) = true) (hN : oi.dst = N) (hrun : (execOp a.eval oi).run P w = .ok (.enter f args) w)
    (h : Calls P f args w fun e w' => ∃ v, e = .returned v ∧ K (a.put N v) w') : if Region.wanted oi (yielded ops a.tmps) = true then Oper.wp P oi a w K Q else K (a.put N undef) w := by
  rw [if_pos hw]
  subst hN
  unfold Oper.wp
  rw [hrun, Oper.upon_enter]
  refine h.mono fun e w'' hh => ?_
  obtain ⟨v, rfl, hk⟩ := hh
  exact hk
theorem enters_ {f : FuncId} {fn : Func} (hf : P.funcs[f]? = some fn) (hname : (fn.name == "runtime.NumGoroutine") = false) (hb : fn.body.isSome = true) (args : Array Value) (w : World) : (callFunc f args).run P w = .ok (.enter f args) w := by
  have h1 : fn.name ≠ "runtime.NumGoroutine" := by simpa using hname
  obtain ⟨c, hc⟩ := Option.isSome_iff_exists.1 hb
  simp [callFunc, hf, h1, hc]
theorem goes_ {oi : Oper} {N : Option Tmp} {a : Act} {w : World} {K : Act → World → Prop} {f : FuncId} {fn : Func} {as0 : Array Operand} {ts : Array TypeId} (hf : P.funcs[f]? = some fn) (hname : (fn.name == "runtime.NumGoroutine") = false) (hb : fn.body.isSome = true) (args : Array Value)
    (hw : Region.wanted oi (yielded ops a.tmps) = true) (hN : oi.dst = N) (hop : oi.op = .call { callee := .value (.func f), args := as0, argTypes := ts }) (hargs : as0.map a.eval = args)
    (h : Calls P f args w fun e w' => ∃ v, e = .returned v ∧ K (a.put N v) w') : if Region.wanted oi (yielded ops a.tmps) = true then Oper.wp P oi a w K Q else K (a.put N undef) w := by
  refine call_ f args hw hN ?_ h
  have he := enters_ hf hname hb args w
  unfold execOp
  simp [hop, resolve, Deferred.ofValue, invoke, Act.eval, hargs, he]
theorem goesL_ {rest : List Oper} {oi : Oper} {a : Act} {w : World} (N : Option Tmp) (hd : oi.dst = N) (hg : oi.guard = none) {f : FuncId} {fn : Func} {as0 : Array Operand} {ts : Array TypeId} (hf : P.funcs[f]? = some fn) (hname : (fn.name == "runtime.NumGoroutine") = false) (hb : fn.body.isSome = true) (args : Array Value)
    (hop : oi.op = .call { callee := .value (.func f), args := as0, argTypes := ts }) (hargs : as0.map a.eval = args)
    (h : Calls P f args w fun e w' => ∃ v, e = .returned v ∧ wpList P ops Q rest (a.put N v) w') : wpList P ops Q (oi :: rest) a w := by
  refine wpList_plain hg fun K hK => ?_
  have he := enters_ hf hname hb args w
  have hrun : (execOp a.eval oi).run P w = .ok (.enter f args) w := by
    unfold execOp
    simp [hop, resolve, Deferred.ofValue, invoke, Act.eval, hargs, he]
  unfold Oper.wp
  rw [hrun, Oper.upon_enter]
  refine h.mono fun e w'' hh => ?_
  obtain ⟨v, rfl, hk⟩ := hh
  subst hd
  exact hK _ _ hk
theorem value_ {oi : Oper} {N : Option Tmp} {a : Act} {w w1 : World} {v : Value} {K : Act → World → Prop} (hw : Region.wanted oi (yielded ops a.tmps) = true) (hN : oi.dst = N) (hrun : (execOp a.eval oi).run P w = .ok (.value v) w1)
    (h : K (a.put N v) w1) : if Region.wanted oi (yielded ops a.tmps) = true then Oper.wp P oi a w K Q else K (a.put N undef) w := by
  rw [if_pos hw]
  subst hN
  unfold Oper.wp
  rw [hrun]
  exact h
theorem skip_ {oi : Oper} {a : Act} {w w1 : World} {K : Act → World → Prop} (hw : Region.wanted oi (yielded ops a.tmps) = true) (hN : oi.dst = none) (hrun : (execOp a.eval oi).run P w = .ok .skip w1)
    (h : K a w1) : if Region.wanted oi (yielded ops a.tmps) = true then Oper.wp P oi a w K Q else K (a.put none undef) w := by
  rw [if_pos hw]
  unfold Oper.wp
  rw [hrun]
  show K (a.put oi.dst undef) w1
  rw [hN]
  exact h
theorem i64_w (n : Int) : IntKind.i64.wrap n = Go.RowKit.wrap64 n := by unfold Go.RowKit.wrap64; exact IntKind.wrap_i64 n
theorem i32_w (n : Int) : IntKind.i32.wrap n = Go.RowKit.wrap32 n := by unfold Go.RowKit.wrap32; exact IntKind.wrap_i32 n
end
end Go.Proofs.YtdhkmdgieflioaaDoorW.PrintLast
namespace Go.Proofs.YtdhkmdgieflioaaDoorW.PrintLast
open Go.Proofs.YtdhkmdgieflioaaDoorW.PrintWords (Aside0)
def needsOf (md : Region.Mode) (o : Oper) : List Nat := (o.after.toList.filter (fun e => Region.binds md e)).map (fun e => e.on)
def clashOf (md : Region.Mode) (ops : Array Oper) (i : Nat) (oi : Oper) : List Nat := (List.range ops.size).filter fun j => !(j == i) && match ops[j]? with
  | some oj => !(oj.after.any (fun e => Region.binds md e && e.on == i) || oi.apart ops oj)
  | none => false
def rtab (md : Region.Mode) (ops : Array Oper) : Bool × List (List Nat × List Nat) := (Region.noSelect ops, (List.range ops.size).map fun i => match ops[i]? with
  | some o => (needsOf md o, clashOf md ops i o)
  | none => ([], []))
def readyAt (T : List (List Nat × List Nat)) (l : List Bool) (i : Nat) : Bool := !l.getD i true && match T[i]? with
  | some r => r.1.all (fun j => l.getD j false)
  | none => false
def readyT (T : List (List Nat × List Nat)) (l : List Bool) : List Nat := (List.range T.length).filter (readyAt T l)
def freeT (T : List (List Nat × List Nat)) (l : List Bool) (i : Nat) : Bool := match T[i]? with
  | some r => r.2.all (fun j => l.getD j true)
  | none => false
def closedT (T : List (List Nat × List Nat)) (l : List Bool) : Bool := (List.range T.length).all fun j => !l.getD j false || match T[j]? with
  | some r => r.1.all (fun k => l.getD k false)
  | none => true
def reachT (T : List (List Nat × List Nat)) (i : Nat) : Nat → Nat → Bool
  | 0, _ => false
  | fuel + 1, d => match T[d]? with
    | some r => r.1.any fun j => j == i || reachT T i fuel j
    | none => false
def lastT (T : List (List Nat × List Nat)) (l : List Bool) (ds : List Nat) (i : Nat) : Bool := ds.all fun d => l.getD d true || reachT T i T.length d
section
variable {md : Region.Mode} {ops : Array Oper} {T : Bool × List (List Nat × List Nat)} {l l' li lj lk : Array Bool} {ds : List Nat} {i j k : Nat}
theorem gd (l : Array Bool) (j : Nat) (b : Bool) : l.getD j b = l.toList.getD j b := by simp [Array.getD_eq_getD_getElem?, List.getD_eq_getElem?_getD]
theorem needs_all (o : Oper) (p : Nat → Bool) : o.after.all (fun e => !Region.binds md e || p e.on) = (needsOf md o).all p := by
  unfold needsOf
  rw [← Array.all_toList]
  induction o.after.toList with
  | nil => rfl
  | cons e r ih =>
    rw [List.all_cons, ih, List.filter_cons]
    cases h : Region.binds md e <;> simp
theorem needs_any (o : Oper) (p : Nat → Bool) : o.after.any (fun e => Region.binds md e && p e.on) = (needsOf md o).any p := by
  unfold needsOf
  rw [← Array.any_toList]
  induction o.after.toList with
  | nil => rfl
  | cons e r ih =>
    rw [List.any_cons, ih, List.filter_cons]
    cases h : Region.binds md e <;> simp
theorem rtab_length : (rtab md ops).2.length = ops.size := by simp [rtab]
theorem rtab_some {o : Oper} (h : ops[i]? = some o) : (rtab md ops).2[i]? = some (needsOf md o, clashOf md ops i o) := by
  have hi := (Array.getElem?_eq_some_iff.1 h).1
  unfold rtab
  rw [List.getElem?_map, List.getElem?_range hi, Option.map_some, h]
theorem rtab_none (h : ops[i]? = none) : (rtab md ops).2[i]? = none := by
  have hi : ops.size ≤ i := Array.getElem?_eq_none_iff.1 h
  exact List.getElem?_eq_none (by rw [rtab_length]; exact hi)
theorem readyAt_eq : readyAt (rtab md ops).2 l.toList i = (!l.getD i true && ((ops[i]?).map (·.after.all fun e => !Region.binds md e || l.getD e.on false)).getD false) := by
  unfold readyAt
  rw [gd]
  cases h : ops[i]? with
  | none => rw [rtab_none h]; rfl
  | some o =>
    rw [rtab_some h]
    simp only [Option.map_some, Option.getD_some]
    rw [← needs_all]
    simp only [gd]
theorem ready_eq : Region.ready md ops l = readyT (rtab md ops).2 l.toList := by
  unfold Region.ready readyT
  rw [rtab_length]
  refine List.filter_congr (fun i _ => ?_)
  rw [readyAt_eq]
theorem free_eq : Region.free md ops l i = freeT (rtab md ops).2 l.toList i := by
  unfold Region.free freeT
  cases h : ops[i]? with
  | none => rw [rtab_none h]
  | some oi =>
    rw [rtab_some h]
    simp only [clashOf]
    rw [List.all_filter]
    congr 1
    funext j
    rw [gd]
    cases hj : ops[j]? with
    | none => cases (j == i) <;> cases (l.toList.getD j true) <;> simp
    | some oj =>
      cases (j == i) <;> cases (l.toList.getD j true) <;> cases (oj.after.any (fun e => Region.binds md e && e.on == i) || oi.apart ops oj) <;> simp_all
theorem closed_eq : Region.closedB md ops l = closedT (rtab md ops).2 l.toList := by
  unfold Region.closedB closedT
  rw [rtab_length]
  congr 1
  funext j
  rw [gd]
  cases h : ops[j]? with
  | none => rw [rtab_none h]
  | some o =>
    rw [rtab_some h]
    simp only
    rw [← needs_all]
    simp only [gd]
theorem reach_eq : ∀ (fuel d : Nat), Region.reachB md ops i fuel d = reachT (rtab md ops).2 i fuel d
  | 0, _ => rfl
  | fuel + 1, d => by
    unfold Region.reachB reachT
    cases h : ops[d]? with
    | none => rw [rtab_none h]
    | some o =>
      rw [rtab_some h]
      simp only
      rw [← needs_any]
      congr 1
      funext e
      rw [reach_eq fuel]
theorem last_eq : Region.lastB md ops l ds i = lastT (rtab md ops).2 l.toList ds i := by
  unfold Region.lastB lastT
  rw [rtab_length]
  congr 1
  funext d
  rw [gd, reach_eq]
theorem readyAt_mem (h : readyAt T.2 l.toList i = true) (hT : rtab md ops = T) : (Region.ready md ops l).contains i = true := by
  subst hT
  rw [ready_eq]
  unfold readyT
  rw [List.contains_iff_mem, List.mem_filter, List.mem_range]
  refine ⟨?_, h⟩
  unfold readyAt at h
  rw [Bool.and_eq_true] at h
  cases hq : (rtab md ops).2[i]? with
  | none => rw [hq] at h; simp at h
  | some r => exact (List.getElem?_eq_some_iff.1 hq).1
theorem set_of (h : (l.toList.set i true == l'.toList) = true) : (l.setIfInBounds i true == l') = true := by
  rw [beq_iff_eq] at h ⊢
  apply Array.ext'
  rw [Array.toList_setIfInBounds]
  exact h
def anyT (T : Bool × List (List Nat × List Nat)) (l l' : List Bool) (i : Nat) : Bool := T.1 && freeT T.2 l i && readyAt T.2 l i && (l.set i true == l')
theorem any_of (hT : rtab md ops = T) (h : anyT T l.toList l'.toList i = true) : anyB md ops l l' i = true := by
  simp only [anyT, Bool.and_eq_true] at h
  obtain ⟨⟨⟨h1, h2⟩, h3⟩, h4⟩ := h
  have h5 := readyAt_mem h3 hT
  have h6 := set_of h4
  subst hT
  simp only [anyB, Bool.and_eq_true]
  exact ⟨⟨⟨h1, by rw [free_eq]; exact h2⟩, h5⟩, h6⟩
def takeT (T : Bool × List (List Nat × List Nat)) (ds : List Nat) (l l' : List Bool) (i : Nat) : Bool := T.1 && freeT T.2 l i && readyAt T.2 l i && closedT T.2 l && lastT T.2 l ds i && (l.set i true == l')
theorem take_of (hT : rtab md ops = T) (h : takeT T ds l.toList l'.toList i = true) : takeB md ops ds l l' i = true := by
  simp only [takeT, Bool.and_eq_true] at h
  obtain ⟨⟨⟨⟨⟨h1, h2⟩, h3⟩, h4⟩, h5⟩, h6⟩ := h
  have h7 := readyAt_mem h3 hT
  have h8 := set_of h6
  subst hT
  simp only [takeB, Bool.and_eq_true]
  exact ⟨⟨⟨⟨⟨h1, by rw [free_eq]; exact h2⟩, h7⟩, by rw [closed_eq]; exact h4⟩, by rw [last_eq]; exact h5⟩, h8⟩
theorem one_of (hT : rtab md ops = T) (h : (readyT T.2 l.toList == [i] && l.toList.set i true == l'.toList) = true) : readyB md ops l l' i = true := by
  simp only [Bool.and_eq_true] at h
  obtain ⟨h1, h2⟩ := h
  subst hT
  simp only [readyB, Bool.and_eq_true]
  exact ⟨by rw [ready_eq]; exact h1, set_of h2⟩
theorem done_of (hT : rtab md ops = T) (h : (readyT T.2 l.toList == []) = true) : (Region.ready md ops l == []) = true := by
  subst hT
  rw [ready_eq]
  exact h
def upM (B : List Nat) (d : Nat) : List Nat → Nat
  | [] => 0
  | n :: r => (2 ^ n ||| (if n < d then B.getD n 0 else 0)) ||| upM B d r
def waitsOk (T : List (List Nat × List Nat)) (B : List Nat) : Bool := (List.range T.length).all fun d => match T[d]? with
  | some r => (B.getD d 0 ||| upM B d r.1) == upM B d r.1
  | none => false
theorem upM_bit {B : List Nat} {d i : Nat} : ∀ {ns : List Nat}, (upM B d ns).testBit i = true → ∃ n ∈ ns, n = i ∨ (n < d ∧ (B.getD n 0).testBit i = true)
  | [], h => by simp [upM] at h
  | n :: r, h => by
    unfold upM at h
    rw [Nat.testBit_or, Nat.testBit_or, Bool.or_eq_true, Bool.or_eq_true] at h
    rcases h with (h | h) | h
    · rw [Nat.testBit_two_pow] at h
      exact ⟨n, List.mem_cons_self, .inl (by simpa using h)⟩
    · by_cases hn : n < d
      · rw [if_pos hn] at h
        exact ⟨n, List.mem_cons_self, .inr ⟨hn, h⟩⟩
      · rw [if_neg hn] at h
        simp at h
    · obtain ⟨m, hm, h2⟩ := upM_bit h
      exact ⟨m, List.mem_cons_of_mem _ hm, h2⟩
theorem reach_bit {T : List (List Nat × List Nat)} {B : List Nat} (hB : waitsOk T B = true) : ∀ (fuel d : Nat), d < fuel → d < T.length → (B.getD d 0).testBit i = true → reachT T i fuel d = true
  | 0, d, h, _, _ => by omega
  | fuel + 1, d, h, hd, hb => by
    have h1 := List.all_eq_true.1 hB d (List.mem_range.2 hd)
    cases hr : T[d]? with
    | none => rw [hr] at h1; simp at h1
    | some r =>
      rw [hr] at h1
      simp only [beq_iff_eq] at h1
      have h2 : (upM B d r.1).testBit i = true := by rw [← h1, Nat.testBit_or, hb, Bool.true_or]
      obtain ⟨n, hn, h3⟩ := upM_bit h2
      unfold reachT
      rw [hr]
      simp only
      rw [List.any_eq_true]
      refine ⟨n, hn, ?_⟩
      rcases h3 with rfl | ⟨h4, h5⟩
      · simp
      · rw [reach_bit hB fuel n (by omega) (by omega) h5, Bool.or_true]
def lastW (T : List (List Nat × List Nat)) (B : List Nat) (l : List Bool) (ds : List Nat) (i : Nat) : Bool := ds.all fun d => l.getD d true || (decide (d < T.length) && (B.getD d 0).testBit i)
def takeW (T : Bool × List (List Nat × List Nat)) (B : List Nat) (ds : List Nat) (l l' : List Bool) (i : Nat) : Bool := T.1 && freeT T.2 l i && readyAt T.2 l i && closedT T.2 l && lastW T.2 B l ds i && (l.set i true == l')
theorem take_ofW {B : List Nat} (hT : rtab md ops = T) (hB : waitsOk T.2 B = true) (h : takeW T B ds l.toList l'.toList i = true) : takeB md ops ds l l' i = true := by
  refine take_of hT ?_
  simp only [takeW, takeT, Bool.and_eq_true] at h ⊢
  obtain ⟨⟨⟨⟨⟨h1, h2⟩, h3⟩, h4⟩, h5⟩, h6⟩ := h
  refine ⟨⟨⟨⟨⟨h1, h2⟩, h3⟩, h4⟩, ?_⟩, h6⟩
  unfold lastW at h5
  unfold lastT
  rw [List.all_eq_true] at h5 ⊢
  intro d hd
  have h7 := h5 d hd
  rw [Bool.or_eq_true, Bool.and_eq_true, decide_eq_true_eq] at h7
  rcases h7 with h7 | ⟨h8, h9⟩
  · rw [h7, Bool.true_or]
  · rw [reach_bit hB _ d h8 h8 h9, Bool.or_true]
theorem with_tabW {P : Program} {Q : Exit → Act → World → Prop} {S : World → Prop} {n : Nat} {a : Act} {w : World} {B : List Nat} (hT : rtab md ops = T) (hB : waitsOk T.2 B = true) (h : Aside0 (rtab md ops = T) → Aside0 (waitsOk T.2 B = true) → wpAnyLast P md ops Q S ds n l a w) : wpAnyLast P md ops Q S ds n l a w := h ⟨hT⟩ ⟨hB⟩
end
def opsIn : Code → Nat → Option (Array Oper)
  | .region id ops _, k => if id == k then some ops else none
  | .seq a b, k => match opsIn a k with
    | some o => some o
    | none => opsIn b k
  | .cond _ a b, k => match opsIn a k with
    | some o => some o
    | none => opsIn b k
  | .block _ c, k => opsIn c k
  | .loop c, k => opsIn c k
  | .scope c, k => opsIn c k
  | .rangeFunc _ _ a b, k => match opsIn a k with
    | some o => some o
    | none => opsIn b k
  | _, _ => none
def opsOf (f : Func) (k : Nat) : Array Oper := ((f.body.bind fun c => opsIn c k)).getD #[]
end Go.Proofs.YtdhkmdgieflioaaDoorW.PrintLast
namespace Go.Proofs.YtdhkmdgieflioaaDoorW.PrintLast
section
variable {P : Program} {ops : Array Oper} {Q : Exit → Act → World → Prop} {md : Region.Mode} {S : World → Prop} {ds : List Nat} {T : Bool × List (List Nat × List Nat)}
end
end Go.Proofs.YtdhkmdgieflioaaDoorW.PrintLast
namespace Go.Proofs.YtdhkmdgieflioaaDoorW.PrintWords
open Go.RowKit
namespace Kd
section
variable {α : Type} {d : Kd α} {e base g o n cap : Nat} {ok okp : Nat → Prop} {w W : World} {v : Value} {xs : List α}
end
section
variable {α : Type} {enc : α → Value} {h1 : ∀ x, (enc x).oneCell' = true} {e base g o n cap : Nat} {ok : Nat → Prop} {W : World} {xs : List α}
end
end Kd
end Go.Proofs.YtdhkmdgieflioaaDoorW.PrintWords
namespace Go.Proofs.YtdhkmdgieflioaaDoorW.PrintWords
open Go.RowKit
namespace Kd
def tag {α : Type} (f : Nat → Nat) (d : Kd α) : Kd (α × Nat) where
  sz := d.sz
  E := d.E
  K := fun w x cs => d.K w x.1 cs
  M := fun w base ok x cs => d.M w base (fun k => ok k ∧ f k = x.2) x.1 cs
  K_len := fun h => d.K_len h
  K_one := fun h => d.K_one h
  K_below := fun hb h => d.K_below hb h
  K_of_M := fun h => d.K_of_M h
  M_mono := fun hok h => d.M_mono (fun k hk => ⟨hok k hk.1, hk.2⟩) h
  M_bound := fun h => d.M_mono (fun _ hk => ⟨⟨hk.1.1, hk.2⟩, hk.1.2⟩) (d.M_bound h)
  M_move := fun hm h => d.M_move (fun k hk => hm k hk.1) h
  M_lower := fun hb h => d.M_lower hb h
def bare {α : Type} (d : Kd α) : Kd α where
  sz := d.sz
  E := d.E
  K := d.K
  M := fun w base _ x cs => d.M w base (fun _ => False) x cs
  K_len := fun h => d.K_len h
  K_one := fun h => d.K_one h
  K_below := fun hb h => d.K_below hb h
  K_of_M := fun h => d.K_of_M h
  M_mono := fun _ h => h
  M_bound := fun h => h
  M_move := fun _ h => d.M_move (fun _ hk => hk.elim) h
  M_lower := fun hb h => d.M_lower hb h
def raw (sz : Nat) : Kd (List Value) where
  sz := sz
  E := []
  K := fun _ x cs => cs = x ∧ cs.length = sz ∧ ∀ u ∈ cs, u.oneCell' = true
  M := fun _ _ _ x cs => cs = x ∧ cs.length = sz ∧ ∀ u ∈ cs, u.oneCell' = true
  K_len := fun h => h.2.1
  K_one := fun h => h.2.2
  K_below := fun _ h => h
  K_of_M := fun h => h
  M_mono := fun _ h => h
  M_bound := fun h => h
  M_move := fun _ h => h
  M_lower := fun _ h => h
def S {α : Type} (d : Kd α) (e : Nat) (w : World) (base : Nat) (ok : Nat → Prop) (v : Value) (xs : List α) : Prop := ∃ f, (tag f d).R e w base ok v xs.zipIdx
section
variable {α β : Type} {d : Kd α} {d' : Kd β} {e e' : Nat} {w w1 W : World} {base b : Nat} {ok ok' okv oku : Nat → Prop} {u v : Value} {xs : List α} {ys : List β}
theorem S_nil (d : Kd α) (e : Nat) (w : World) (base : Nat) (ok : Nat → Prop) : S d e w base ok (.slice none 0 0) [] := ⟨fun _ => 0, R_nil _ _ _ _ _⟩
end
section
variable {α β : Type} {d : Kd α} {d' : Kd β} {e e' g : Nat} {w w1 W : World} {base b : Nat} {ok ok' okv oku : Nat → Prop} {u v : Value} {xs : List α} {ys : List β}
end
section
variable {P : Program} {ops : Array Oper} {rest : List Oper} {o : Oper} {a : Act} {Q : Exit → Act → World → Prop} {Kc : Act → World → Prop} {α : Type}
end
def gap {α : Type} (f : Nat → Nat) (d : Kd α) (i : Nat) (c : List Value) : Kd (α × Nat) where
  sz := d.sz
  E := d.E
  K := fun w x cs => (x.2 = i → cs = c ∧ cs.length = d.sz ∧ ∀ u ∈ cs, u.oneCell' = true) ∧ (x.2 ≠ i → d.K w x.1 cs)
  M := fun w base ok x cs => (x.2 = i → cs = c ∧ cs.length = d.sz ∧ ∀ u ∈ cs, u.oneCell' = true) ∧ (x.2 ≠ i → d.M w base (fun k => ok k ∧ f k = x.2) x.1 cs)
  K_len := fun {w x cs} h => by
    by_cases hx : x.2 = i
    · exact (h.1 hx).2.1
    · exact d.K_len (h.2 hx)
  K_one := fun {w x cs} h => by
    by_cases hx : x.2 = i
    · exact (h.1 hx).2.2
    · exact d.K_one (h.2 hx)
  K_below := fun hb h => ⟨h.1, fun hx => d.K_below hb (h.2 hx)⟩
  K_of_M := fun h => ⟨h.1, fun hx => d.K_of_M (h.2 hx)⟩
  M_mono := fun hok h => ⟨h.1, fun hx => d.M_mono (fun k hk => ⟨hok k hk.1, hk.2⟩) (h.2 hx)⟩
  M_bound := fun h => ⟨h.1, fun hx => d.M_mono (fun _ hk => ⟨⟨hk.1.1, hk.2⟩, hk.1.2⟩) (d.M_bound (h.2 hx))⟩
  M_move := fun hm h => ⟨h.1, fun hx => d.M_move (fun k hk => hm k hk.1) (h.2 hx)⟩
  M_lower := fun hb h => ⟨h.1, fun hx => d.M_lower hb (h.2 hx)⟩
def H {α : Type} (d : Kd α) (e : Nat) (w : World) (base : Nat) (ok : Nat → Prop) (v : Value) (xs : List α) (i : Int) (oki : Nat → Prop) (c : List Value) : Prop :=
  (∀ k, oki k → ok k) ∧ ∃ f, (gap f d i.toNat c).R e w base (fun k => ok k ∧ ¬ oki k) v xs.zipIdx
section
variable {α β : Type} {d : Kd α} {e e' g n cap : Nat} {w w1 W : World} {base : Nat} {ok ok' oki okp : Nat → Prop} {u v : Value} {xs : List α} {i : Int} {c : List Value}
end
section
variable {P : Program} {ops : Array Oper} {rest : List Oper} {o : Oper} {a : Act} {Q : Exit → Act → World → Prop} {α : Type}
end
end Kd
end Go.Proofs.YtdhkmdgieflioaaDoorW.PrintWords
namespace Go.Proofs.YtdhkmdgieflioaaDoorW.PrintWords
open Go.RowKit
namespace Kd
section
variable {α : Type} {n : Nat} {d : Kd α} {hs : 0 < d.sz} {w : World} {base : Nat} {ok : Nat → Prop} {xs : List α} {cs : List Value}
end
section
variable {α : Type} {n : Nat} {enc : α → Value} {h1 : ∀ x, (enc x).oneCell' = true} {hs : 0 < (scalar enc h1).sz} {w : World} {base : Nat} {ok : Nat → Prop} {xs : List α} {cs : List Value}
end
end Kd
end Go.Proofs.YtdhkmdgieflioaaDoorW.PrintWords
namespace Go.Proofs.YtdhkmdgieflioaaDoorW.PrintWords
open Go.RowKit
section
variable {P : Program}
end
namespace Kd
section
variable {P : Program} {ops : Array Oper} {rest : List Oper} {o : Oper} {a : Act} {Q : Exit → Act → World → Prop} {Kc : Act → World → Prop} {α : Type}
end
section
variable {α : Type} {d : Kd α} {e : Nat} {w : World} {base : Nat} {ok : Nat → Prop} {v : Value} {xs : List α}
end
section
variable {P : Program} {ops : Array Oper} {rest : List Oper} {o : Oper} {a : Act} {Q : Exit → Act → World → Prop} {Kc : Act → World → Prop} {α : Type}
end
end Kd
end Go.Proofs.YtdhkmdgieflioaaDoorW.PrintWords
namespace Go.Proofs.YtdhkmdgieflioaaDoorW.PrintWords
open Go.RowKit
namespace Kd
structure Heap {α : Type} (d : Kd α) : Prop where
  K : ∀ {w w1 : World} {x : α} {cs : List Value}, (∀ k, k < w.heap.size → w1.heap[k]? = w.heap[k]?) → d.K w x cs → d.K w1 x cs
theorem cell_heap {w w1 : World} (hb : ∀ k, k < w.heap.size → w1.heap[k]? = w.heap[k]?) {a : Addr} {v : Value} (h : w.cell? a = some v) : w1.cell? a = some v := by
  have := hb a.block (World.block_lt_of_cell? w a h)
  simpa [World.cell?, this] using h
theorem Heap.C {α : Type} {d : Kd α} (hd : Heap d) {w w1 : World} {A : Option Addr} {n : Nat} {xs : List α} (hb : ∀ k, k < w.heap.size → w1.heap[k]? = w.heap[k]?) (h : d.C w A n xs) : d.C w1 A n xs :=
  ⟨h.1, h.2.1, fun hn => by
    obtain ⟨ad, e, hc⟩ := h.2.2 hn
    refine ⟨ad, e, fun j p hj => ?_⟩
    obtain ⟨c, hs, hr, hcell⟩ := hc j p hj
    exact ⟨c, hs, hd.K hb hr, fun i u hu => cell_heap hb (hcell i u hu)⟩⟩
section
variable {α : Type} {d : Kd α} {e base g n c : Nat} {ok : Nat → Prop} {w w0 W : World} {A : Option Addr} {xs : List α}
end
end Kd
end Go.Proofs.YtdhkmdgieflioaaDoorW.PrintWords
namespace Go.Proofs.YtdhkmdgieflioaaDoorW.PrintWords
open Go.RowKit
def Kept (w W : World) (S : Nat → Prop) : Prop := w.heap.size ≤ W.heap.size ∧ ∀ i, i < w.heap.size → ¬ S i → W.heap[i]? = w.heap[i]?
section
variable {w W W2 : World} {S S2 S' : Nat → Prop}
theorem Kept.refl (w : World) (S : Nat → Prop) : Kept w w S := ⟨Nat.le_refl _, fun _ _ _ => rfl⟩
theorem Kept.of_below (h : Below w.heap.size w W) (S : Nat → Prop) : Kept w W S := ⟨h.size, fun i hi _ => h.block i hi⟩
theorem Kept.mono (h : Kept w W S) (hs : ∀ k, S k → S' k) : Kept w W S' := ⟨h.1, fun i hi hn => h.2 i hi (fun hk => hn (hs i hk))⟩
theorem Kept.then_ (h : Kept w W S) (k : Kept W W2 S2) (hs : ∀ k, S2 k → S k ∨ w.heap.size ≤ k) : Kept w W2 S :=
  ⟨Nat.le_trans h.1 k.1, fun i hi hn => (k.2 i (Nat.lt_of_lt_of_le hi h.1) (fun h2 => (hs i h2).elim hn (fun h3 => by omega))).trans (h.2 i hi hn)⟩
theorem Kept.below (h : Kept w W S) (hb : Below W.heap.size W W2) : Kept w W2 S := h.then_ (Kept.of_below hb (fun _ => False)) (fun _ hk => hk.elim)
theorem Kept.alloc (h : Kept w W S) (o : Obj) : Kept w (W.alloc o) S := h.below (below_alloc (Below.refl _ _) o)
theorem Kept.drew (h : Kept w W S) : Kept w W.drew S := h
theorem Kept.drewN (h : Kept w W S) (m : Nat) : Kept w (W.drewN m) S := h
theorem Kept.setCell (h : Kept w W S) {p : Addr} (hp : S p.block ∨ w.heap.size ≤ p.block) (u : Value) : Kept w (W.setCell p u) S :=
  h.then_ (S2 := fun k => k = p.block) ⟨by simp [World.setCell], fun i _ hn => Below.heap_setCell W p u i hn⟩ (fun k hk => by rw [hk]; exact hp)
theorem Kept.keep {g : Nat} (h : KeepBut w W g none) (k : Kept W W2 S2) (hs : ∀ k, S2 k → w.heap.size ≤ k) : KeepBut w W2 g none :=
  ⟨Nat.le_trans h.1 k.1, fun i hi hg hr => (k.2 i (Nat.lt_of_lt_of_le hi h.1) (fun h2 => by have := hs i h2; omega)).trans (h.2 i hi hg hr)⟩
end
namespace Kd
section
variable {α : Type} {d : Kd α} {e base n c : Nat} {ok oki S S2 : Nat → Prop} {w w0 W W1 W2 : World} {v : Value} {A : Option Addr} {xs : List α} {i : Int} {cs : List Value}
end
end Kd
end Go.Proofs.YtdhkmdgieflioaaDoorW.PrintWords
namespace Go.Proofs.YtdhkmdgieflioaaDoorW.PrintWords
open Go.RowKit
def Foot (P : World → Prop) (W : World) (ok : Nat → Prop) : Prop := ∀ W' : World, (∀ k, ok k → k < W.heap.size → W'.heap[k]? = W.heap[k]?) → P W'
theorem heap_lt {W W1 : World} {k : Nat} (h : W1.heap[k]? = W.heap[k]?) (hlt : k < W.heap.size) : k < W1.heap.size := by
  rw [Array.getElem?_eq_getElem hlt] at h
  exact (Array.getElem?_eq_some_iff.1 h).1
namespace Foot
variable {P Q : World → Prop} {W W1 : World} {ok ok' : Nat → Prop}
theorem now (h : Foot P W ok) : P W := h W (fun _ _ _ => rfl)
theorem mono (h : Foot P W ok) (hok : ∀ k, ok k → ok' k) : Foot P W ok' := fun W' hW => h W' (fun k hk hlt => hW k (hok k hk) hlt)
theorem bound (h : Foot P W ok) : Foot P W (fun k => ok k ∧ k < W.heap.size) := fun W' hW => h W' (fun k hk hlt => hW k ⟨hk, hlt⟩ hlt)
theorem step (h : Foot P W ok) (hm : ∀ k, ok k → k < W.heap.size → W1.heap[k]? = W.heap[k]?) : Foot P W1 ok := fun W' hW => h W' (fun k hk hlt => (hW k hk (heap_lt (hm k hk hlt) hlt)).trans (hm k hk hlt))
theorem old (h : Foot P W ok) (hb : Below W.heap.size W W1) : Foot P W1 (fun k => ok k ∧ k < W.heap.size) := (h.bound).step (fun k _ hlt => hb.block k hlt)
end Foot
namespace Kd
def F {α : Type} (d : Kd α) (W : World) (ok : Nat → Prop) (A : Option Addr) (n : Nat) (xs : List α) : Prop := Foot (fun W => d.C W A n xs) W ok
def FK {α : Type} (d : Kd α) (W : World) (ok : Nat → Prop) (x : α) (c : List Value) : Prop := Foot (fun W => d.K W x c) W ok
section
variable {α β : Type} {d : Kd α} {e base n n' cc g N : Nat} {ok ok' okp S : Nat → Prop} {w w0 w1 W W1 : World} {A A' : Option Addr} {u v v1 : Value} {xs : List α} {xs' : List β} {d' : Kd β} {x : α} {c : List Value}
theorem F_nil (d : Kd α) (W : World) (ok : Nat → Prop) : F d W ok none ([] : List α).length [] := fun W' _ => C_nil d W'
theorem FK_of_M (h : d.M W base ok x c) : FK d W ok x c := fun _ hW => d.K_of_M (M_step h hW)
end
end Kd
end Go.Proofs.YtdhkmdgieflioaaDoorW.PrintWords
namespace Go.Proofs.YtdhkmdgieflioaaDoorW.PrintWords
open Go.RowKit
namespace Kd
def chunks (sz : Nat) (n : Nat) (inner : List Value) : List (List Value) := (List.range n).map fun j => (inner.drop (j * sz)).take sz
theorem chunks_length (sz n : Nat) (inner : List Value) : (chunks sz n inner).length = n := by simp [chunks]
theorem chunks_at {sz n : Nat} {inner : List Value} {j : Nat} (hj : j < n) : (chunks sz n inner)[j]? = some ((inner.drop (j * sz)).take sz) := by simp [chunks, hj]
theorem chunks_get {sz n : Nat} {inner : List Value} {j : Nat} {c : List Value} (h : (chunks sz n inner)[j]? = some c) : c = (inner.drop (j * sz)).take sz := by
  have hj : j < n := by have := (List.getElem?_eq_some_iff.1 h).1; rwa [chunks_length] at this
  rw [chunks_at hj] at h
  injection h with h
  exact h.symm
theorem reps_raw {α : Type} {Rr : α → List Value → Prop} {sz : Nat} {xs : List α} {inner : List Value} (h : Reps Rr sz xs inner) (hR : ∀ x c, Rr x c → c.length = sz ∧ ∀ u ∈ c, u.oneCell' = true) : Reps (fun x cs => cs = x ∧ cs.length = sz ∧ ∀ u ∈ cs, u.oneCell' = true) sz (chunks sz xs.length inner) inner := by
  refine ⟨by rw [chunks_length]; exact h.1, fun j p hj => ?_⟩
  have hjl : j < xs.length := by have := (List.getElem?_eq_some_iff.1 hj).1; rwa [chunks_length] at this
  have hp := chunks_get hj
  exact ⟨hp.symm, hR _ _ (h.2 j _ (List.getElem?_eq_getElem hjl))⟩
section
variable {α : Type} {d : Kd α} {e base n cc g : Nat} {ok ok' okp S : Nat → Prop} {w w1 W W1 : World} {A : Option Addr} {u v v1 : Value} {xs : List α} {x : α} {c : List Value}
def N {α : Type} (d : Kd α) (e : Nat) (w : World) (base : Nat) (ok : Nat → Prop) (v : Value) (xs : List α) : Prop :=
  (∀ k, v.ownBlock = some k → ok k) ∧ ∃ rows : List (List Value), rows.length = xs.length ∧ (raw d.sz).R e w base (fun k => some k = v.ownBlock) v rows ∧ ∀ (j : Nat) (x : α) (c : List Value), xs[j]? = some x → rows[j]? = some c → FK d w (fun k => ok k ∧ some k ≠ v.ownBlock) x c
theorem R_N (h : d.R e w base ok v xs) : N d e w base ok v xs := by
  obtain ⟨h0, inner, ho, hr⟩ := h
  refine ⟨h0, chunks d.sz xs.length inner, chunks_length _ _ _, ⟨fun k hk => hk.symm, inner, by rw [chunks_length]; exact ho, reps_raw hr (fun x c hp => ⟨d.K_len (d.K_of_M hp), d.K_one (d.K_of_M hp)⟩)⟩, fun j x c hx hc => ?_⟩
  rw [chunks_get hc]
  exact FK_of_M (hr.2 j x hx)
theorem N_nil (d : Kd α) (e : Nat) (w : World) (base : Nat) (ok : Nat → Prop) : N d e w base ok (.slice none 0 0) [] := R_N (R_nil _ _ _ _ _)
end
end Kd
end Go.Proofs.YtdhkmdgieflioaaDoorW.PrintWords
namespace Go.Proofs.YtdhkmdgieflioaaDoorW.PrintWords
open Go.RowKit
namespace Kd
section
variable {α : Type} {d : Kd α} {W : World} {g n : Nat} {S ok : Nat → Prop} {A : Option Addr} {ad : Addr} {xs : List α}
end
end Kd
end Go.Proofs.YtdhkmdgieflioaaDoorW.PrintWords
namespace Go.Proofs.YtdhkmdgieflioaaDoorW.PrintWords
open Go.RowKit
section
variable {w w' u : World} {m B g : Nat} {o : Obj} {row : Option Nat} {S : Nat → Prop} {a : Addr} {v : Value}
end
namespace Kd
section
variable {α : Type} {d : Kd α} {e base n m : Nat} {ok : Nat → Prop} {w w' : World} {v : Value} {A : Option Addr} {xs : List α}
end
end Kd
end Go.Proofs.YtdhkmdgieflioaaDoorW.PrintWords
namespace Go.Proofs.YtdhkmdgieflioaaDoorW.PrintWords
open Go.RowKit
section
variable {P : Program} {d : Nat} {xs ys : Array Value} {f : Field} {fs : List Field} {a b : Value} {r s : Bool} {w : World}
theorem eqf_last (hn : (f.name == "_") = false) (ha : (part f.type xs f.offset).run P w = .ok a w) (hb : (part f.type ys f.offset).run P w = .ok b w) (he : (Op.equalIn d f.type a b).run P w = .ok r w) : (Op.eqFields d xs ys [f]).run P w = .ok r w := by
  have hn' : f.name ≠ "_" := by simpa using hn
  simp only [Op.eqFields, if_pos hn', Sem.run_bind, ha, hb, he, Result.andThen_ok]
  cases r <;> simp
theorem eqf_cons (hn : (f.name == "_") = false) (ha : (part f.type xs f.offset).run P w = .ok a w) (hb : (part f.type ys f.offset).run P w = .ok b w) (he : (Op.equalIn d f.type a b).run P w = .ok r w) (hr : (Op.eqFields d xs ys fs).run P w = .ok s w) : (Op.eqFields d xs ys (f :: fs)).run P w = .ok (r && s) w := by
  have hn' : f.name ≠ "_" := by simpa using hn
  rw [Op.eqFields]
  simp only [if_pos hn', Sem.run_bind, ha, hb, he, Result.andThen_ok]
  cases r
  · simp
  · simpa using hr
theorem eqA_of {t : TypeId} {fs : Array Field} (hu : P.underlying t = some (.struct fs)) (hp : P.stoodInHeld t = false) (h : (Op.eqFields d xs ys fs.toList).run P w = .ok r w) : (Op.equalIn (d + 1) t (.agg xs) (.agg ys)).run P w = .ok r w := by
  have hf : P.fieldsOf t = fs := by simp [Program.fieldsOf, hu]
  rw [run_equalIn_struct (P := P) w d t xs ys (by rw [hf]; exact hu) hp, hf]
  exact h
end
end Go.Proofs.YtdhkmdgieflioaaDoorW.PrintWords
namespace Go.Proofs.YtdhkmdgieflioaaDoorW.PrintWords
theorem Reps.one {α : Type} {R : α → List Value → Prop} {ps : List α} {cs : List Value} {p : α} {v : Value} (hp : R p [v]) (h : Reps R 1 ps cs) : Reps R 1 (p :: ps) (v :: cs) := by
  refine ⟨by simp [h.1], fun j q hq => ?_⟩
  cases j with
  | zero =>
    simp only [List.getElem?_cons_zero, Option.some.injEq] at hq
    subst hq
    simpa using hp
  | succ j =>
    simp only [List.getElem?_cons_succ] at hq
    have h1 := h.2 j q hq
    simpa [Nat.mul_one] using h1
theorem Reps.front {α : Type} {R : α → List Value → Prop} {size : Nat} {ps : List α} {cs c all : List Value} {p : α} (hp : R p c) (hc : c.length = size) (h : Reps R size ps cs) (ha : c ++ cs = all) : Reps R size (p :: ps) all := by
  subst ha
  refine ⟨by rw [List.length_append, hc, h.1, List.length_cons, Nat.succ_mul, Nat.add_comm], fun j q hq => ?_⟩
  cases j with
  | zero =>
    simp only [List.getElem?_cons_zero, Option.some.injEq] at hq
    subst hq
    rw [Nat.zero_mul, List.drop_zero, List.take_append_of_le_length (by omega), List.take_of_length_le (by omega)]
    exact hp
  | succ j =>
    simp only [List.getElem?_cons_succ] at hq
    have h1 := h.2 j q hq
    rw [Nat.succ_mul, List.drop_append, List.drop_of_length_le (by rw [hc]; exact Nat.le_add_left _ _), List.nil_append, hc, Nat.add_sub_cancel]
    exact h1
theorem Reps.c2 {α : Type} {R : α → List Value → Prop} {ps : List α} {cs : List Value} {p : α} {va vb : Value} (hp : R p [va, vb]) (h : Reps R 2 ps cs) : Reps R 2 (p :: ps) (va :: vb :: cs) := Reps.front hp rfl h rfl
theorem Reps.c3 {α : Type} {R : α → List Value → Prop} {ps : List α} {cs : List Value} {p : α} {va vb vc : Value} (hp : R p [va, vb, vc]) (h : Reps R 3 ps cs) : Reps R 3 (p :: ps) (va :: vb :: vc :: cs) := Reps.front hp rfl h rfl
theorem Reps.c4 {α : Type} {R : α → List Value → Prop} {ps : List α} {cs : List Value} {p : α} {va vb vc vd : Value} (hp : R p [va, vb, vc, vd]) (h : Reps R 4 ps cs) : Reps R 4 (p :: ps) (va :: vb :: vc :: vd :: cs) := Reps.front hp rfl h rfl
theorem Reps.c5 {α : Type} {R : α → List Value → Prop} {ps : List α} {cs : List Value} {p : α} {va vb vc vd ve : Value} (hp : R p [va, vb, vc, vd, ve]) (h : Reps R 5 ps cs) : Reps R 5 (p :: ps) (va :: vb :: vc :: vd :: ve :: cs) := Reps.front hp rfl h rfl
theorem Reps.c6 {α : Type} {R : α → List Value → Prop} {ps : List α} {cs : List Value} {p : α} {va vb vc vd ve vf : Value} (hp : R p [va, vb, vc, vd, ve, vf]) (h : Reps R 6 ps cs) : Reps R 6 (p :: ps) (va :: vb :: vc :: vd :: ve :: vf :: cs) := Reps.front hp rfl h rfl
theorem Reps.c7 {α : Type} {R : α → List Value → Prop} {ps : List α} {cs : List Value} {p : α} {va vb vc vd ve vf vg : Value} (hp : R p [va, vb, vc, vd, ve, vf, vg]) (h : Reps R 7 ps cs) : Reps R 7 (p :: ps) (va :: vb :: vc :: vd :: ve :: vf :: vg :: cs) := Reps.front hp rfl h rfl
theorem Reps.c8 {α : Type} {R : α → List Value → Prop} {ps : List α} {cs : List Value} {p : α} {va vb vc vd ve vf vg vh : Value} (hp : R p [va, vb, vc, vd, ve, vf, vg, vh]) (h : Reps R 8 ps cs) : Reps R 8 (p :: ps) (va :: vb :: vc :: vd :: ve :: vf :: vg :: vh :: cs) := Reps.front hp rfl h rfl
theorem Reps.c9 {α : Type} {R : α → List Value → Prop} {ps : List α} {cs : List Value} {p : α} {va vb vc vd ve vf vg vh vi : Value} (hp : R p [va, vb, vc, vd, ve, vf, vg, vh, vi]) (h : Reps R 9 ps cs) : Reps R 9 (p :: ps) (va :: vb :: vc :: vd :: ve :: vf :: vg :: vh :: vi :: cs) := Reps.front hp rfl h rfl
theorem Reps.c10 {α : Type} {R : α → List Value → Prop} {ps : List α} {cs : List Value} {p : α} {va vb vc vd ve vf vg vh vi vj : Value} (hp : R p [va, vb, vc, vd, ve, vf, vg, vh, vi, vj]) (h : Reps R 10 ps cs) : Reps R 10 (p :: ps) (va :: vb :: vc :: vd :: ve :: vf :: vg :: vh :: vi :: vj :: cs) := Reps.front hp rfl h rfl
end Go.Proofs.YtdhkmdgieflioaaDoorW.PrintWords
namespace Go.Proofs.YtdhkmdgieflioaaDoorW.PrintLast
def up (b : Nat → Bool) (i : Nat) : Nat → Bool := fun j => if j = i then true else b j
section
variable {P : Program} {ops : Array Oper} {Q : Exit → Act → World → Prop} {md : Region.Mode} {T : Bool × List (List Nat × List Nat)} {B : List Nat} {O : List Nat} {b : Nat → Bool} {i j n : Nat}
end
end Go.Proofs.YtdhkmdgieflioaaDoorW.PrintLast
namespace Go.Proofs.YtdhkmdgieflioaaDoorW.PrintWords
open Go.RowKit
end Go.Proofs.YtdhkmdgieflioaaDoorW.PrintWords
namespace Go.Proofs.YtdhkmdgieflioaaDoorW.PrintLast
section
variable {ops : Array Oper} {a : Act} {o og : Oper} {g : Nat} {t : Tmp} {u : Bool}
end
end Go.Proofs.YtdhkmdgieflioaaDoorW.PrintLast
namespace Go.Proofs.YtdhkmdgieflioaaDoorW.PrintWords
open Go.RowKit
section
variable {P : Program} {ops : Array Oper} {rest : List Oper} {o : Oper} {a : Act} {Q : Exit → Act → World → Prop} {W : World}
theorem gate_guard (hw : Region.wanted o (yielded ops a.tmps) = true) (h : wpList P ops Q ({ o with guard := none } :: rest) a W) : wpList P ops Q (o :: rest) a W := by
  have h1 : Region.wanted { o with guard := none } (yielded ops a.tmps) = true := rfl
  unfold wpList at h ⊢
  rw [if_pos h1] at h
  rw [if_pos hw]
  exact h
end
end Go.Proofs.YtdhkmdgieflioaaDoorW.PrintWords
namespace Go.Proofs.YtdhkmdgieflioaaDoorW.PrintWords
open Go.RowKit
namespace Kd
section
variable {α : Type} {d : Kd α} {e base n cap g : Nat} {ok ok' okp : Nat → Prop} {w w1 W : World} {v v1 : Value} {xs ys : List α}
end
section
variable {P : Program} {ops : Array Oper} {rest : List Oper} {o : Oper} {a : Act} {Q : Exit → Act → World → Prop} {Kc : Act → World → Prop} {α : Type}
end
end Kd
end Go.Proofs.YtdhkmdgieflioaaDoorW.PrintWords
namespace Go.Proofs.YtdhkmdgieflioaaDoorW.PrintMore
open Go.RowKit Go.Proofs.YtdhkmdgieflioaaDoorW.PrintWords
namespace Kd
open Go.Proofs.YtdhkmdgieflioaaDoorW.PrintWords.Kd
end Kd
namespace Kd
open Go.Proofs.YtdhkmdgieflioaaDoorW.PrintWords.Kd
section
variable {α : Type} {d : Kd α} {e base g N : Nat} {ok : Nat → Prop} {W w1 : World} {u v : Value} {xs : List α}
end
end Kd
theorem max2_int (k k' : IntKind) (x y : Int) : Builtin.max2 (.int k x) (.int k' y) = pure (.int k (if x < y then y else x)) := by simp only [Builtin.max2, gt_iff_lt]
theorem min2_int (k k' : IntKind) (x y : Int) : Builtin.min2 (.int k x) (.int k' y) = pure (.int k (if y < x then y else x)) := by simp only [Builtin.min2]
theorem max_two (ats : Array TypeId) (ty : TypeId) (a b : Value) : Builtin.max_ ats ty #[a, b] = (Builtin.max2 a b >>= fun s => pure s) := by simp only [Builtin.max_, List.foldlM_cons, List.foldlM_nil]
theorem min_two (ats : Array TypeId) (ty : TypeId) (a b : Value) : Builtin.min_ ats ty #[a, b] = (Builtin.min2 a b >>= fun s => pure s) := by simp only [Builtin.min_, List.foldlM_cons, List.foldlM_nil]
theorem max_three (ats : Array TypeId) (ty : TypeId) (a b c : Value) : Builtin.max_ ats ty #[a, b, c] = (Builtin.max2 a b >>= fun s => Builtin.max2 s c >>= fun s => pure s) := by simp only [Builtin.max_, List.foldlM_cons, List.foldlM_nil]
theorem min_three (ats : Array TypeId) (ty : TypeId) (a b c : Value) : Builtin.min_ ats ty #[a, b, c] = (Builtin.min2 a b >>= fun s => Builtin.min2 s c >>= fun s => pure s) := by simp only [Builtin.min_, List.foldlM_cons, List.foldlM_nil]
theorem max_four (ats : Array TypeId) (ty : TypeId) (a b c d : Value) : Builtin.max_ ats ty #[a, b, c, d] = (Builtin.max2 a b >>= fun s => Builtin.max2 s c >>= fun s => Builtin.max2 s d >>= fun s => pure s) := by simp only [Builtin.max_, List.foldlM_cons, List.foldlM_nil]
theorem min_four (ats : Array TypeId) (ty : TypeId) (a b c d : Value) : Builtin.min_ ats ty #[a, b, c, d] = (Builtin.min2 a b >>= fun s => Builtin.min2 s c >>= fun s => Builtin.min2 s d >>= fun s => pure s) := by simp only [Builtin.min_, List.foldlM_cons, List.foldlM_nil]
end Go.Proofs.YtdhkmdgieflioaaDoorW.PrintMore
namespace Go.Proofs.YtdhkmdgieflioaaDoorW.PrintWords
open Go.RowKit
section
variable {P : Program} {ops : Array Oper} {rest : List Oper} {o : Oper} {a : Act} {Q : Exit → Act → World → Prop} {W : World}
theorem gate_callee {f : FuncId} {as0 : Array Operand} {ts : Array TypeId} (_ho : o.op = .call { callee := .value (.func f), args := as0, argTypes := ts }) (h : wpList P ops Q (o :: rest) a W) : wpList P ops Q (o :: rest) a W := h
theorem gate_builtin {b : Builtin} {xs : Array Operand} {ts : Array TypeId} (_ho : o.op = .call { callee := .builtin b, args := xs, argTypes := ts }) (h : wpList P ops Q (o :: rest) a W) : wpList P ops Q (o :: rest) a W := h
end
namespace Kd
section
variable {α : Type} {d : Kd α} {e base : Nat} {ok : Nat → Prop} {W w1 : World} {v : Value} {xs : List α}
end
section
variable {α : Type} {d : Kd α} {e base g n cap : Nat} {ok oki okp : Nat → Prop} {W : World} {xs : List α} {i : Int} {c : List Value}
end
section
variable {α : Type} {d : Kd α} {e base b b' g N : Nat} {ok ok1 : Nat → Prop} {W W2 w1 : World} {u v : Value} {xs ys : List α} {S : Nat → Prop}
end
end Kd
end Go.Proofs.YtdhkmdgieflioaaDoorW.PrintWords
namespace Go.Proofs.YtdhkmdgieflioaaDoorW.PrintWords
open Go.RowKit
namespace Kd
def V {α : Type} (d : Kd α) (_e : Nat) (W : World) (_base : Nat) (ok : Nat → Prop) (v : Value) (xs : List α) : Prop := ∃ A c, v = .slice A xs.length c ∧ xs.length ≤ c ∧ F d W ok A xs.length xs
section
variable {α β : Type} {d : Kd α} {e base base' n m c g N' lo hi : Nat} {ok ok' S : Nat → Prop} {w W w1 : World} {A : Option Addr} {ad : Addr} {u v v1 : Value} {xs : List α}
theorem V_nil (d : Kd α) (e : Nat) (W : World) (base : Nat) (ok : Nat → Prop) : V d e W base ok (.slice none 0 0) [] := ⟨none, 0, rfl, Nat.le_refl _, F_nil d W ok⟩
end
end Kd
end Go.Proofs.YtdhkmdgieflioaaDoorW.PrintWords
namespace Go.Proofs.YtdhkmdgieflioaaDoor.F
open Go.RowKit Go.Proofs.YtdhkmdgieflioaaDoorW.PrintWords Go.Proofs.YtdhkmdgieflioaaDoorW.PrintLast Go.Proofs.YtdhkmdgieflioaaDoorW.PrintMore
attribute [local go_sem] max2_int min2_int max_two min_two max_three min_three max_four min_four
set_option linter.unusedVariables false
set_option linter.unusedSimpArgs false
def errW : Option Int → Value
  | none => .nilIface
  | some c => .iface 0 (.int .i64 c)
theorem errW_none : errW none = .nilIface := rfl
theorem errW_some (c : Int) : errW (some c) = .iface 0 (.int .i64 c) := rfl
theorem info3 : (Tryd.prog.info? 3).map (fun i => (i.zero, i.size, i.bytes)) = some (some (.int .i64 0), 1, 8) := by kernel_rfl
theorem info4 : (Tryd.prog.info? 4).map (fun i => (i.zero, i.size, i.bytes)) = some (some (.bool false), 1, 1) := by kernel_rfl
theorem info5 : (Tryd.prog.info? 5).map (fun i => (i.zero, i.size, i.bytes)) = some (some (.int .u8 0), 1, 1) := by kernel_rfl
theorem info9 : (Tryd.prog.info? 9).map (fun i => (i.zero, i.size, i.bytes)) = some (some (.string ⟨#[]⟩), 1, 16) := by kernel_rfl
theorem info46 : (Tryd.prog.info? 46).map (fun i => (i.zero, i.size, i.bytes)) = some (some (.agg #[(.int .i64 0), (.int .i64 0), (.int .i64 0), (.int .i64 0)]), 4, 32) := by kernel_rfl
theorem info47 : (Tryd.prog.info? 47).map (fun i => (i.zero, i.size, i.bytes)) = some (some (.int .u32 0), 1, 4) := by kernel_rfl
structure S46 where
  f0 : Int
  f1 : Int
  f2 : Int
  f3 : Int
def z46 : S46 := ⟨(0 : Int), (0 : Int), (0 : Int), (0 : Int)⟩
def k46 : Kd S46 := Kd.iso (Kd.pair (Kd.int .i64) (Kd.pair (Kd.int .i64) (Kd.pair (Kd.int .i64) (Kd.int .i64)))) (fun x : S46 => (x.f0, x.f1, x.f2, x.f3))
theorem k46_open {w : World} {x : S46} {cs : List Value} (h : k46.K w x cs) : cs = [.int .i64 x.f0, .int .i64 x.f1, .int .i64 x.f2, .int .i64 x.f3] := by
  obtain ⟨_, _, rfl, rfl, ⟨_, _, rfl, rfl, ⟨_, _, rfl, rfl, rfl⟩⟩⟩ := h
  exact rfl
theorem k46_openM {w : World} {base : Nat} {ok : Nat → Prop} {x : S46} {cs : List Value} (h : k46.M w base ok x cs) : cs = [.int .i64 x.f0, .int .i64 x.f1, .int .i64 x.f2, .int .i64 x.f3] := by
  obtain ⟨_, _, rfl, rfl, ⟨_, _, rfl, rfl, ⟨_, _, rfl, rfl, rfl⟩⟩⟩ := h
  exact rfl
theorem k46_mkM (w : World) (base : Nat) (ok : Nat → Prop) (x : S46)  : k46.M w base ok x [.int .i64 x.f0, .int .i64 x.f1, .int .i64 x.f2, .int .i64 x.f3] := ⟨[.int .i64 x.f0], [.int .i64 x.f1, .int .i64 x.f2, .int .i64 x.f3], rfl, rfl, ⟨[.int .i64 x.f1], [.int .i64 x.f2, .int .i64 x.f3], rfl, rfl, ⟨[.int .i64 x.f2], [.int .i64 x.f3], rfl, rfl, rfl⟩⟩⟩
def rd_T46 (xs : List S46) (i : Int) : S46 := xs.getD i.toNat z46
structure S28 where
  f0 : (List Int)
  f1 : Int
def z28 : S28 := ⟨([] : List Int), (0 : Int)⟩
def k28 : Kd S28 := Kd.iso (Kd.pair (Kd.slice 47 (Kd.int .u32)) (Kd.int .i64)) (fun x : S28 => (x.f0, x.f1))
structure S38 where
  f0 : Int
  f1 : ByteArray
  f2 : Int
end Go.Proofs.YtdhkmdgieflioaaDoor.F
namespace Go.Proofs.YtdhkmdgieflioaaDoor.F
open Go.RowKit Go.Proofs.YtdhkmdgieflioaaDoorW.PrintWords Go.Proofs.YtdhkmdgieflioaaDoorW.PrintLast Go.Proofs.YtdhkmdgieflioaaDoorW.PrintMore
attribute [local go_sem] max2_int min2_int max_two min_two max_three min_three max_four min_four
set_option linter.unusedVariables false
set_option linter.unusedSimpArgs false
mutual
def seedcornref02_Digit.j0 : Nat → Int → Bool → Option (Int)
  | 0, _, _ => none
  | k + 1, x0, x8 => if x8 = true then (some (wrap64 ((wrap64 (x0)) - 48))) else (if x0 ≥ 97 then (seedcornref02_Digit.j1 k x0 (decide (x0 ≤ 102))) else (seedcornref02_Digit.j1 k x0 false))
def seedcornref02_Digit.j1 : Nat → Int → Bool → Option (Int)
  | 0, _, _ => none
  | k + 1, x0, x17 => if x17 = true then (some (wrap64 ((wrap64 ((wrap64 (x0)) - 97)) + 10))) else (if x0 ≥ 65 then (if x0 ≤ 70 then (some (wrap64 ((wrap64 ((wrap64 (x0)) - 65)) + 10))) else (some (-1))) else (some (-1)))
end
def seedcornref02_Digit.f (k : Nat) (a0 : Int) : Option (Int) := if a0 ≥ 48 then (seedcornref02_Digit.j0 k a0 (decide (a0 ≤ 57))) else (seedcornref02_Digit.j0 k a0 false)
theorem seedcornref02_Digit.mono_l : ∀ k, (∀ y0 y1, LeO (seedcornref02_Digit.j0 k y0 y1) (seedcornref02_Digit.j0 (k + 1) y0 y1)) ∧ (∀ y0 y1, LeO (seedcornref02_Digit.j1 k y0 y1) (seedcornref02_Digit.j1 (k + 1) y0 y1))
  | 0 => ⟨fun _ _ r h => by simp [seedcornref02_Digit.j0] at h, fun _ _ r h => by simp [seedcornref02_Digit.j1] at h⟩
  | k + 1 => by
    obtain ⟨ih0, ih1⟩ := seedcornref02_Digit.mono_l k
    refine ⟨?_, ?_⟩
    · intro y0 y1
      unfold seedcornref02_Digit.j0
      repeat' first
      | (with_reducible exact ih0 _ _)
      | (with_reducible exact ih1 _ _)
      | (with_reducible exact LeO.refl _)
      | (with_reducible exact LeO.none _)
      | (with_reducible refine LeO.ite ?_ ?_)
      | (with_reducible refine LeO.bind ?_ (fun _ => ?_))
      | exact ih0 _ _
      | exact ih1 _ _
      | exact LeO.none _
      | refine LeO.ite ?_ ?_
      | refine LeO.bind ?_ (fun _ => ?_)
    · intro y0 y1
      unfold seedcornref02_Digit.j1
      repeat' first
      | (with_reducible exact ih0 _ _)
      | (with_reducible exact ih1 _ _)
      | (with_reducible exact LeO.refl _)
      | (with_reducible exact LeO.none _)
      | (with_reducible refine LeO.ite ?_ ?_)
      | (with_reducible refine LeO.bind ?_ (fun _ => ?_))
      | exact ih0 _ _
      | exact ih1 _ _
      | exact LeO.none _
      | refine LeO.ite ?_ ?_
      | refine LeO.bind ?_ (fun _ => ?_)
theorem seedcornref02_Digit.mono : ∀ a0 k, LeO (seedcornref02_Digit.f k a0) (seedcornref02_Digit.f (k + 1) a0) := by
  intro a0 k
  obtain ⟨ih0, ih1⟩ := seedcornref02_Digit.mono_l k
  unfold seedcornref02_Digit.f
  repeat' first
      | (with_reducible exact ih0 _ _)
      | (with_reducible exact ih1 _ _)
      | (with_reducible exact LeO.refl _)
      | (with_reducible exact LeO.none _)
      | (with_reducible refine LeO.ite ?_ ?_)
      | (with_reducible refine LeO.bind ?_ (fun _ => ?_))
      | exact ih0 _ _
      | exact ih1 _ _
      | exact LeO.none _
      | refine LeO.ite ?_ ?_
      | refine LeO.bind ?_ (fun _ => ?_)
set_option maxHeartbeats 8000000 in
set_option maxRecDepth 100000 in
theorem seedcornref02_Digit.calls (k : Nat) (a0 : Int) (r : Int) (w : World) (h : seedcornref02_Digit.f k a0 = some r) :
    Calls Tryd.prog 64 #[.int .u8 a0] w fun e w' => e = .returned (.int .i64 r) ∧ Drawn0 w w' := by
  have H : (if a0 ≥ 48 then (seedcornref02_Digit.j0 k a0 (decide (a0 ≤ 57))) else (seedcornref02_Digit.j0 k a0 false)) = some r := h
  clear h
  have HC2 := Aside0.mk H
  clear H
  go_enter Tryd.func64, Tryd.ntmps64
  go_upto_region 1 with (fail)
  go_cut [8] (fun v8 wc => ∃ (kq : Nat) (x8_1 : Bool), v8 = .bool x8_1 ∧ Aside0 (seedcornref02_Digit.j0 kq a0 x8_1 = some r) ∧ Aside0 (kq ≤ k) ∧ Drawn0 w wc)
  case first =>
    have H := HC2.out
    clear HC2
    by_cases c3 : a0 ≥ 48
    · rw [if_pos c3] at H
      have c3b0 : decide (48 ≤ a0) = true := decide_eq_true c3
      clear c3
      (first | rw [c3b0] | (simp only [i64_w, i32_w]; rw [c3b0]) | skip)
      have H' := Aside0.mk H
      clear H
      go_wp2
      go_meet
      case rel => exact ⟨_, (decide (a0 ≤ 57)), (by first | rfl | (simp; done) | (simp [*]; done)), H', ⟨by first | omega | exact Nat.le_refl _⟩, by repeat (first | exact Drawn0.refl _ | apply Drawn0.step)⟩
    · rw [if_neg c3] at H
      have c3b0 : decide (48 ≤ a0) = false := decide_eq_false c3
      clear c3
      (first | rw [c3b0] | (simp only [i64_w, i32_w]; rw [c3b0]) | skip)
      have H' := Aside0.mk H
      clear H
      go_wp2
      go_meet
      case rel => exact ⟨_, (false), (by first | rfl | (simp; done) | (simp [*]; done)), H', ⟨by first | omega | exact Nat.le_refl _⟩, by repeat (first | exact Drawn0.refl _ | apply Drawn0.step)⟩
  case rest =>
    clear HC2
    try clear p2
    try clear c3
    try clear c3b0
    obtain ⟨kq, x8_1, rfl, HA, HJ1, ⟨mc1, rfl⟩⟩ := hcut
    cases kq with
    | zero => exact absurd HA.out (by simp [seedcornref02_Digit.j0])
    | succ kj1 =>
      have H := HA.out
      clear HA
      simp only [seedcornref02_Digit.j0] at H
      by_cases c4 : x8_1 = true
      · subst c4
        have H1 : (some (wrap64 ((wrap64 (a0)) - 48))) = some r := by rw [if_pos rfl] at H; exact H
        clear H
        have H := H1
        clear H1
        obtain rfl := Option.some.inj H
        go_wp2
        go_ret
        exact ⟨by first | rfl | (simp; done) | (simp [*]; done), by repeat (first | exact Drawn0.refl _ | apply Drawn0.step)⟩
      · replace c4 := Bool.eq_false_iff.mpr c4
        subst c4
        have H1 : (if a0 ≥ 97 then (seedcornref02_Digit.j1 kj1 a0 (decide (a0 ≤ 102))) else (seedcornref02_Digit.j1 kj1 a0 false)) = some r := by rw [if_neg (show ¬ (false = true) by decide)] at H; exact H
        clear H
        have H := H1
        clear H1
        have HC5 := Aside0.mk H
        clear H
        go_upto_region 3 with (fail)
        go_cut [17] (fun v17 wc => ∃ (kq : Nat) (x17_4 : Bool), v17 = .bool x17_4 ∧ Aside0 (seedcornref02_Digit.j1 kq a0 x17_4 = some r) ∧ Aside0 (kq ≤ kj1) ∧ Drawn0 w wc)
        case first =>
          have H := HC5.out
          clear HC5
          by_cases c6 : a0 ≥ 97
          · rw [if_pos c6] at H
            have c6b0 : decide (97 ≤ a0) = true := decide_eq_true c6
            clear c6
            (first | rw [c6b0] | (simp only [i64_w, i32_w]; rw [c6b0]) | skip)
            have H' := Aside0.mk H
            clear H
            go_wp2
            go_meet
            case rel => exact ⟨_, (decide (a0 ≤ 102)), (by first | rfl | (simp; done) | (simp [*]; done)), H', ⟨by have := HJ1.out; first | omega | exact Nat.le_refl _⟩, by repeat (first | exact Drawn0.refl _ | apply Drawn0.step)⟩
          · rw [if_neg c6] at H
            have c6b0 : decide (97 ≤ a0) = false := decide_eq_false c6
            clear c6
            (first | rw [c6b0] | (simp only [i64_w, i32_w]; rw [c6b0]) | skip)
            have H' := Aside0.mk H
            clear H
            go_wp2
            go_meet
            case rel => exact ⟨_, (false), (by first | rfl | (simp; done) | (simp [*]; done)), H', ⟨by have := HJ1.out; first | omega | exact Nat.le_refl _⟩, by repeat (first | exact Drawn0.refl _ | apply Drawn0.step)⟩
        case rest =>
          clear HC5
          try clear c1
          try clear p2
          try clear c3
          try clear c3b0
          try clear c4
          try clear c6
          try clear c6b0
          try clear p6
          try clear p2
          obtain ⟨kq, x17_4, rfl, HA, HJ4, ⟨mc4, rfl⟩⟩ := hcut
          cases kq with
          | zero => exact absurd HA.out (by simp [seedcornref02_Digit.j1])
          | succ kj4 =>
            have H := HA.out
            clear HA
            simp only [seedcornref02_Digit.j1] at H
            by_cases c7 : x17_4 = true
            · subst c7
              have H1 : (some (wrap64 ((wrap64 ((wrap64 (a0)) - 97)) + 10))) = some r := by rw [if_pos rfl] at H; exact H
              clear H
              have H := H1
              clear H1
              obtain rfl := Option.some.inj H
              go_wp2
              go_ret
              exact ⟨by first | rfl | (simp; done) | (simp [*]; done), by repeat (first | exact Drawn0.refl _ | apply Drawn0.step)⟩
            · replace c7 := Bool.eq_false_iff.mpr c7
              subst c7
              have H1 : (if a0 ≥ 65 then (if a0 ≤ 70 then (some (wrap64 ((wrap64 ((wrap64 (a0)) - 65)) + 10))) else (some (-1))) else (some (-1))) = some r := by rw [if_neg (show ¬ (false = true) by decide)] at H; exact H
              clear H
              have H := H1
              clear H1
              by_cases c8 : a0 ≥ 65
              · rw [if_pos c8] at H
                have c8b0 : decide (65 ≤ a0) = true := decide_eq_true c8
                clear c8
                by_cases c9 : a0 ≤ 70
                · rw [if_pos c9] at H
                  have c9b0 : decide (a0 ≤ 70) = true := decide_eq_true c9
                  clear c9
                  obtain rfl := Option.some.inj H
                  go_wp2
                  go_ret
                  exact ⟨by first | rfl | (simp; done) | (simp [*]; done), by repeat (first | exact Drawn0.refl _ | apply Drawn0.step)⟩
                · rw [if_neg c9] at H
                  have c9b0 : decide (a0 ≤ 70) = false := decide_eq_false c9
                  clear c9
                  obtain rfl := Option.some.inj H
                  go_wp2
                  go_ret
                  exact ⟨by first | rfl | (simp; done) | (simp [*]; done), by repeat (first | exact Drawn0.refl _ | apply Drawn0.step)⟩
              · rw [if_neg c8] at H
                have c8b0 : decide (65 ≤ a0) = false := decide_eq_false c8
                clear c8
                obtain rfl := Option.some.inj H
                go_wp2
                go_ret
                exact ⟨by first | rfl | (simp; done) | (simp [*]; done), by repeat (first | exact Drawn0.refl _ | apply Drawn0.step)⟩
end Go.Proofs.YtdhkmdgieflioaaDoor.F
namespace Go.Proofs.YtdhkmdgieflioaaDoor.F
open Go.RowKit Go.Proofs.YtdhkmdgieflioaaDoorW.PrintWords Go.Proofs.YtdhkmdgieflioaaDoorW.PrintLast Go.Proofs.YtdhkmdgieflioaaDoorW.PrintMore
attribute [local go_sem] max2_int min2_int max_two min_two max_three min_three max_four min_four
set_option linter.unusedVariables false
set_option linter.unusedSimpArgs false
mutual
def seedcornref02_Load.l0 : Nat → ByteArray → List Int → Bool → Int → Int → Option (ByteArray)
  | 0, _, _, _, _, _ => none
  | k + 1, x0, x3, x4, x5, x6 => if x6 < (x0.size : Int) then (if 0 ≤ x6 then (if (bt x0 x6) = 35 then (seedcornref02_Load.j1 k x0 x3 true x5 x6) else (seedcornref02_Load.j1 k x0 x3 x4 x5 x6)) else (none)) else (some (strOfNums x3))
def seedcornref02_Load.j1 : Nat → ByteArray → List Int → Bool → Int → Int → Option (ByteArray)
  | 0, _, _, _, _, _ => none
  | k + 1, x0, x3, x4, x5, x6 => if 0 ≤ x6 then (if x6 < (x0.size : Int) then (if (bt x0 x6) = 10 then (seedcornref02_Load.j2 k x0 x3 false x5 x6) else (seedcornref02_Load.j2 k x0 x3 x4 x5 x6)) else (none)) else (none)
def seedcornref02_Load.j2 : Nat → ByteArray → List Int → Bool → Int → Int → Option (ByteArray)
  | 0, _, _, _, _, _ => none
  | k + 1, x0, x3, x4, x5, x6 => if 0 ≤ x6 then (if x6 < (x0.size : Int) then ((seedcornref02_Digit.f k (bt x0 x6)).bind fun t101 => (if x4 = true then (seedcornref02_Load.j3 k x0 x3 x4 x5 x6 t101 true) else (seedcornref02_Load.j3 k x0 x3 x4 x5 x6 t101 (decide (t101 < 0))))) else (none)) else (none)
def seedcornref02_Load.j3 : Nat → ByteArray → List Int → Bool → Int → Int → Int → Bool → Option (ByteArray)
  | 0, _, _, _, _, _, _, _ => none
  | k + 1, x0, x3, x4, x5, x6, x7, x30 => if x30 = true then (seedcornref02_Load.l0 k x0 x3 x4 x5 (wrap64 (x6 + 1))) else (if x5 < 0 then (seedcornref02_Load.l0 k x0 x3 x4 x7 (wrap64 (x6 + 1))) else (if x3.length < 140737488355328 then (seedcornref02_Load.l0 k x0 (x3 ++ [(wrap64 ((wrap64 (16 * x5)) + x7)) % 256]) x4 (-1) (wrap64 (x6 + 1))) else (none)))
end
def seedcornref02_Load.f (k : Nat) (a0 : ByteArray) : Option (ByteArray) := seedcornref02_Load.l0 k a0 ([] : List Int) false (-1) 0
theorem seedcornref02_Load.mono_l : ∀ k, (∀ y0 y1 y2 y3 y4, LeO (seedcornref02_Load.l0 k y0 y1 y2 y3 y4) (seedcornref02_Load.l0 (k + 1) y0 y1 y2 y3 y4)) ∧ (∀ y0 y1 y2 y3 y4, LeO (seedcornref02_Load.j1 k y0 y1 y2 y3 y4) (seedcornref02_Load.j1 (k + 1) y0 y1 y2 y3 y4)) ∧ (∀ y0 y1 y2 y3 y4, LeO (seedcornref02_Load.j2 k y0 y1 y2 y3 y4) (seedcornref02_Load.j2 (k + 1) y0 y1 y2 y3 y4)) ∧ (∀ y0 y1 y2 y3 y4 y5 y6, LeO (seedcornref02_Load.j3 k y0 y1 y2 y3 y4 y5 y6) (seedcornref02_Load.j3 (k + 1) y0 y1 y2 y3 y4 y5 y6))
  | 0 => ⟨fun _ _ _ _ _ r h => by simp [seedcornref02_Load.l0] at h, fun _ _ _ _ _ r h => by simp [seedcornref02_Load.j1] at h, fun _ _ _ _ _ r h => by simp [seedcornref02_Load.j2] at h, fun _ _ _ _ _ _ _ r h => by simp [seedcornref02_Load.j3] at h⟩
  | k + 1 => by
    obtain ⟨ih0, ih1, ih2, ih3⟩ := seedcornref02_Load.mono_l k
    refine ⟨?_, ?_, ?_, ?_⟩
    · intro y0 y1 y2 y3 y4
      unfold seedcornref02_Load.l0
      repeat' first
      | (with_reducible exact ih0 _ _ _ _ _)
      | (with_reducible exact ih1 _ _ _ _ _)
      | (with_reducible exact ih2 _ _ _ _ _)
      | (with_reducible exact ih3 _ _ _ _ _ _ _)
      | (with_reducible exact seedcornref02_Digit.mono _ _)
      | (with_reducible exact LeO.refl _)
      | (with_reducible exact LeO.none _)
      | (with_reducible refine LeO.ite ?_ ?_)
      | (with_reducible refine LeO.bind ?_ (fun _ => ?_))
      | exact ih0 _ _ _ _ _
      | exact ih1 _ _ _ _ _
      | exact ih2 _ _ _ _ _
      | exact ih3 _ _ _ _ _ _ _
      | exact seedcornref02_Digit.mono _ _
      | exact LeO.none _
      | refine LeO.ite ?_ ?_
      | refine LeO.bind ?_ (fun _ => ?_)
    · intro y0 y1 y2 y3 y4
      unfold seedcornref02_Load.j1
      repeat' first
      | (with_reducible exact ih0 _ _ _ _ _)
      | (with_reducible exact ih1 _ _ _ _ _)
      | (with_reducible exact ih2 _ _ _ _ _)
      | (with_reducible exact ih3 _ _ _ _ _ _ _)
      | (with_reducible exact seedcornref02_Digit.mono _ _)
      | (with_reducible exact LeO.refl _)
      | (with_reducible exact LeO.none _)
      | (with_reducible refine LeO.ite ?_ ?_)
      | (with_reducible refine LeO.bind ?_ (fun _ => ?_))
      | exact ih0 _ _ _ _ _
      | exact ih1 _ _ _ _ _
      | exact ih2 _ _ _ _ _
      | exact ih3 _ _ _ _ _ _ _
      | exact seedcornref02_Digit.mono _ _
      | exact LeO.none _
      | refine LeO.ite ?_ ?_
      | refine LeO.bind ?_ (fun _ => ?_)
    · intro y0 y1 y2 y3 y4
      unfold seedcornref02_Load.j2
      repeat' first
      | (with_reducible exact ih0 _ _ _ _ _)
      | (with_reducible exact ih1 _ _ _ _ _)
      | (with_reducible exact ih2 _ _ _ _ _)
      | (with_reducible exact ih3 _ _ _ _ _ _ _)
      | (with_reducible exact seedcornref02_Digit.mono _ _)
      | (with_reducible exact LeO.refl _)
      | (with_reducible exact LeO.none _)
      | (with_reducible refine LeO.ite ?_ ?_)
      | (with_reducible refine LeO.bind ?_ (fun _ => ?_))
      | exact ih0 _ _ _ _ _
      | exact ih1 _ _ _ _ _
      | exact ih2 _ _ _ _ _
      | exact ih3 _ _ _ _ _ _ _
      | exact seedcornref02_Digit.mono _ _
      | exact LeO.none _
      | refine LeO.ite ?_ ?_
      | refine LeO.bind ?_ (fun _ => ?_)
    · intro y0 y1 y2 y3 y4 y5 y6
      unfold seedcornref02_Load.j3
      repeat' first
      | (with_reducible exact ih0 _ _ _ _ _)
      | (with_reducible exact ih1 _ _ _ _ _)
      | (with_reducible exact ih2 _ _ _ _ _)
      | (with_reducible exact ih3 _ _ _ _ _ _ _)
      | (with_reducible exact seedcornref02_Digit.mono _ _)
      | (with_reducible exact LeO.refl _)
      | (with_reducible exact LeO.none _)
      | (with_reducible refine LeO.ite ?_ ?_)
      | (with_reducible refine LeO.bind ?_ (fun _ => ?_))
      | exact ih0 _ _ _ _ _
      | exact ih1 _ _ _ _ _
      | exact ih2 _ _ _ _ _
      | exact ih3 _ _ _ _ _ _ _
      | exact seedcornref02_Digit.mono _ _
      | exact LeO.none _
      | refine LeO.ite ?_ ?_
      | refine LeO.bind ?_ (fun _ => ?_)
theorem seedcornref02_Load.mono : ∀ a0 k, LeO (seedcornref02_Load.f k a0) (seedcornref02_Load.f (k + 1) a0) := by
  intro a0 k
  obtain ⟨ih0, ih1, ih2, ih3⟩ := seedcornref02_Load.mono_l k
  unfold seedcornref02_Load.f
  repeat' first
      | (with_reducible exact ih0 _ _ _ _ _)
      | (with_reducible exact ih1 _ _ _ _ _)
      | (with_reducible exact ih2 _ _ _ _ _)
      | (with_reducible exact ih3 _ _ _ _ _ _ _)
      | (with_reducible exact seedcornref02_Digit.mono _ _)
      | (with_reducible exact LeO.refl _)
      | (with_reducible exact LeO.none _)
      | (with_reducible refine LeO.ite ?_ ?_)
      | (with_reducible refine LeO.bind ?_ (fun _ => ?_))
      | exact ih0 _ _ _ _ _
      | exact ih1 _ _ _ _ _
      | exact ih2 _ _ _ _ _
      | exact ih3 _ _ _ _ _ _ _
      | exact seedcornref02_Digit.mono _ _
      | exact LeO.none _
      | refine LeO.ite ?_ ?_
      | refine LeO.bind ?_ (fun _ => ?_)
set_option maxHeartbeats 8000000 in
set_option maxRecDepth 100000 in
theorem seedcornref02_Load.calls (k : Nat) (a0 : ByteArray) (r : ByteArray) (w : World) (h : seedcornref02_Load.f k a0 = some r) :
    Calls Tryd.prog 28 #[.string a0] w fun e w' => e = .returned (.string r) ∧ Below w.heap.size w w' := by
  have HB := Aside0.mk (Below.refl w.heap.size w)
  have H : (seedcornref02_Load.l0 k a0 ([] : List Int) false (-1) 0) = some r := h
  clear h
  have H' := Aside0.mk H
  clear H
  go_enter Tryd.func28, Tryd.ntmps28
  go_wp2
  go_loopg [3, 4, 5, 6] k (fun kq v3 v4 v5 v6 w' => ∃ (x3_1 : List Int) (x4_1 : Bool) (x5_1 : Int) (x6_1 : Int), v4 = .bool x4_1 ∧ v5 = .int .i64 x5_1 ∧ v6 = .int .i64 x6_1 ∧ Aside0 (seedcornref02_Load.l0 kq a0 x3_1 x4_1 x5_1 x6_1 = some r) ∧ Aside0 (kq ≤ k) ∧ Aside0 (Kd.R (Kd.int .u8) 5 w' w.heap.size (fun _ => True) v3 x3_1) ∧ Aside0 (Below w.heap.size w w'))
  case atStart => exact ⟨(([] : List Int)), (false), ((-1)), (0), (by first | rfl | (simp; done) | (simp [*]; done)), (by first | rfl | (simp; done) | (simp [*]; done)), (by first | rfl | (simp; done) | (simp [*]; done)), H', ⟨Nat.le_refl _⟩, ⟨by first | exact Kd.R_nil _ _ _ _ _ | exact Kd.N_nil _ _ _ _ _ | exact Kd.V_nil _ _ _ _ _ | exact Kd.Q_nil _ _ _ _ _ | exact Kd.S_nil _ _ _ _ _⟩, ⟨by repeat (first | (with_reducible first | exact HB.out | apply below_alloc | apply pw_below_drewN | apply below_drew1) | exact HB.out)⟩⟩
  case round =>
    clear H'
    obtain ⟨x3_1, x4_1, x5_1, x6_1, rfl, rfl, rfl, HA, HK1, HO_3, HB⟩ := hrel
    cases gk with
    | zero => exact absurd HA.out (by simp [seedcornref02_Load.l0])
    | succ k1 =>
      have H := HA.out
      clear HA
      simp only [seedcornref02_Load.l0] at H
      by_cases c2 : x6_1 < (a0.size : Int)
      · rw [if_pos c2] at H
        have c2b0 : decide (x6_1 < (a0.size : Int)) = true := decide_eq_true c2
        clear c2
        by_cases c3 : 0 ≤ x6_1
        · rw [if_pos c3] at H
          have c3b0 : decide (0 ≤ x6_1) = true := decide_eq_true c3
          clear c3
          have HC5 := Aside0.mk H
          clear H
          have p4 : 0 ≤ (x6_1 : Int) := of_decide_eq_true (by first | (with_reducible assumption) | assumption)
          have q4 : x6_1 < (a0.size : Int) := of_decide_eq_true (by first | (with_reducible assumption) | assumption)
          have hx4 := bt_at a0 x6_1
          replace p4 := eq_true p4
          replace q4 := eq_true q4
          go_upto_if 17 with (fail)
          go_cut [4] (fun v4 wc => ∃ (kq : Nat) (x4_4 : Bool), v4 = .bool x4_4 ∧ Aside0 (seedcornref02_Load.j1 kq a0 x3_1 x4_4 x5_1 x6_1 = some r) ∧ Aside0 (kq ≤ k1) ∧ Aside0 (Kd.R (Kd.int .u8) 5 wc w.heap.size (fun _ => True) u3 x3_1) ∧ Aside0 (Below w.heap.size w wc))
          case first =>
            have H := HC5.out
            clear HC5
            by_cases c6 : (bt a0 x6_1) = 35
            · rw [if_pos c6] at H
              have c6b0 : ((bt a0 x6_1) == 35) = true := beq_iff_eq.mpr c6
              have c6b1 : ((bt a0 x6_1) != 35) = false := bne_eq_false_iff_eq.mpr c6
              clear c6
              (first | rw [c6b0] | (simp only [i64_w, i32_w]; rw [c6b0]) | skip)
              have H' := Aside0.mk H
              clear H
              go_wp2
              go_meet
              case rel => exact ⟨_, (true), (by first | rfl | (simp; done) | (simp [*]; done)), H', ⟨by have := HK1.out; first | omega | exact Nat.le_refl _⟩, ⟨by (with_reducible repeat (first | apply Kd.R_alloc | apply Kd.R_drewN | apply Kd.R_drew)); exact HO_3.out⟩, ⟨by repeat (first | (with_reducible first | exact HB.out | apply below_alloc | apply pw_below_drewN | apply below_drew1) | exact HB.out)⟩⟩
            · rw [if_neg c6] at H
              have c6b0 : ((bt a0 x6_1) == 35) = false := beq_eq_false_iff_ne.mpr c6
              have c6b1 : ((bt a0 x6_1) != 35) = true := bne_iff_ne.mpr c6
              (first | rw [c6b0] | (simp only [i64_w, i32_w]; rw [c6b0]) | skip)
              have H' := Aside0.mk H
              clear H
              go_wp2
              go_meet
              case rel => exact ⟨_, (x4_1), (by first | rfl | (simp; done) | (simp [*]; done)), H', ⟨by have := HK1.out; first | omega | exact Nat.le_refl _⟩, ⟨by (with_reducible repeat (first | apply Kd.R_alloc | apply Kd.R_drewN | apply Kd.R_drew)); exact HO_3.out⟩, ⟨by repeat (first | (with_reducible first | exact HB.out | apply below_alloc | apply pw_below_drewN | apply below_drew1) | exact HB.out)⟩⟩
          case rest =>
            clear HC5
            try clear c2
            try clear c2b0
            try clear p2
            try clear c3
            try clear c3b0
            try clear p4
            try clear q4
            try clear hx4
            try clear c6
            try clear c6b0
            try clear c6b1
            try clear p4
            try clear q4
            obtain ⟨kq, x4_4, rfl, HA, HJ4, HO_3, HB⟩ := hcut
            cases kq with
            | zero => exact absurd HA.out (by simp [seedcornref02_Load.j1])
            | succ kj4 =>
              have H := HA.out
              clear HA
              simp only [seedcornref02_Load.j1] at H
              by_cases c7 : 0 ≤ x6_1
              · rw [if_pos c7] at H
                have c7b0 : decide (0 ≤ x6_1) = true := decide_eq_true c7
                clear c7
                by_cases c8 : x6_1 < (a0.size : Int)
                · rw [if_pos c8] at H
                  have c8b0 : decide (x6_1 < (a0.size : Int)) = true := decide_eq_true c8
                  clear c8
                  have HC10 := Aside0.mk H
                  clear H
                  have p9 : 0 ≤ (x6_1 : Int) := of_decide_eq_true (by first | (with_reducible assumption) | assumption)
                  have q9 : x6_1 < (a0.size : Int) := of_decide_eq_true (by first | (with_reducible assumption) | assumption)
                  have hx9 := bt_at a0 x6_1
                  replace p9 := eq_true p9
                  replace q9 := eq_true q9
                  go_upto_if 21 with (fail)
                  go_cut [4] (fun v4 wc => ∃ (kq : Nat) (x4_9 : Bool), v4 = .bool x4_9 ∧ Aside0 (seedcornref02_Load.j2 kq a0 x3_1 x4_9 x5_1 x6_1 = some r) ∧ Aside0 (kq ≤ kj4) ∧ Aside0 (Kd.R (Kd.int .u8) 5 wc w.heap.size (fun _ => True) u3 x3_1) ∧ Aside0 (Below w.heap.size w wc))
                  case first =>
                    have H := HC10.out
                    clear HC10
                    by_cases c11 : (bt a0 x6_1) = 10
                    · rw [if_pos c11] at H
                      have c11b0 : ((bt a0 x6_1) == 10) = true := beq_iff_eq.mpr c11
                      have c11b1 : ((bt a0 x6_1) != 10) = false := bne_eq_false_iff_eq.mpr c11
                      clear c11
                      (first | rw [c11b0] | (simp only [i64_w, i32_w]; rw [c11b0]) | skip)
                      have H' := Aside0.mk H
                      clear H
                      go_wp2
                      go_meet
                      case rel => exact ⟨_, (false), (by first | rfl | (simp; done) | (simp [*]; done)), H', ⟨by have := HK1.out; have := HJ4.out; first | omega | exact Nat.le_refl _⟩, ⟨by (with_reducible repeat (first | apply Kd.R_alloc | apply Kd.R_drewN | apply Kd.R_drew)); exact HO_3.out⟩, ⟨by repeat (first | (with_reducible first | exact HB.out | apply below_alloc | apply pw_below_drewN | apply below_drew1) | exact HB.out)⟩⟩
                    · rw [if_neg c11] at H
                      have c11b0 : ((bt a0 x6_1) == 10) = false := beq_eq_false_iff_ne.mpr c11
                      have c11b1 : ((bt a0 x6_1) != 10) = true := bne_iff_ne.mpr c11
                      (first | rw [c11b0] | (simp only [i64_w, i32_w]; rw [c11b0]) | skip)
                      have H' := Aside0.mk H
                      clear H
                      go_wp2
                      go_meet
                      case rel => exact ⟨_, (x4_4), (by first | rfl | (simp; done) | (simp [*]; done)), H', ⟨by have := HK1.out; have := HJ4.out; first | omega | exact Nat.le_refl _⟩, ⟨by (with_reducible repeat (first | apply Kd.R_alloc | apply Kd.R_drewN | apply Kd.R_drew)); exact HO_3.out⟩, ⟨by repeat (first | (with_reducible first | exact HB.out | apply below_alloc | apply pw_below_drewN | apply below_drew1) | exact HB.out)⟩⟩
                  case rest =>
                    clear HC10
                    try clear c1
                    try clear c2
                    try clear c2b0
                    try clear p2
                    try clear c3
                    try clear c3b0
                    try clear p4
                    try clear q4
                    try clear hx4
                    try clear c6
                    try clear c6b0
                    try clear c6b1
                    try clear c7
                    try clear c7b0
                    try clear c8
                    try clear c8b0
                    try clear p9
                    try clear q9
                    try clear hx9
                    try clear c11
                    try clear c11b0
                    try clear c11b1
                    try clear p2
                    try clear p4
                    try clear p9
                    try clear q4
                    try clear q9
                    obtain ⟨kq, x4_9, rfl, HA, HJ9, HO_3, HB⟩ := hcut
                    cases kq with
                    | zero => exact absurd HA.out (by simp [seedcornref02_Load.j2])
                    | succ kj9 =>
                      have H := HA.out
                      clear HA
                      simp only [seedcornref02_Load.j2] at H
                      by_cases c12 : 0 ≤ x6_1
                      · rw [if_pos c12] at H
                        have c12b0 : decide (0 ≤ x6_1) = true := decide_eq_true c12
                        clear c12
                        by_cases c13 : x6_1 < (a0.size : Int)
                        · rw [if_pos c13] at H
                          have c13b0 : decide (x6_1 < (a0.size : Int)) = true := decide_eq_true c13
                          clear c13
                          replace H := Option.bind_eq_some_iff.mp H
                          obtain ⟨t101, A150, H⟩ := H
                          replace H : (if x4_9 = true then (seedcornref02_Load.j3 kj9 a0 x3_1 x4_9 x5_1 x6_1 t101 true) else (seedcornref02_Load.j3 kj9 a0 x3_1 x4_9 x5_1 x6_1 t101 (decide (t101 < 0)))) = some r := H
                          have A15 := Aside0.mk A150
                          clear A150
                          have HC16 := Aside0.mk H
                          clear H
                          have p14 : 0 ≤ (x6_1 : Int) := of_decide_eq_true (by first | (with_reducible assumption) | assumption)
                          have q14 : x6_1 < (a0.size : Int) := of_decide_eq_true (by first | (with_reducible assumption) | assumption)
                          have hx14 := bt_at a0 x6_1
                          replace p14 := eq_true p14
                          replace q14 := eq_true q14
                          go_upto_region 12 with (first | ((with_reducible refine gate_callee (f := 64) rfl ?_); refine goesL_ (some 25) rfl rfl Tryd.func64 (by kernel_rfl) rfl #[.int .u8 (bt a0 x6_1)] rfl (by (try simp only [List.map_toArray, List.map_cons, List.map_nil]); first | done | rfl | (simp only [List.length_drop, List.length_take]; rfl)) ?_; (with_reducible refine (seedcornref02_Digit.calls kj9 (bt a0 x6_1) t101 _ A15.out).mono ?_); rintro e w' ⟨rfl, ⟨nd, rfl⟩⟩; refine ⟨_, rfl, ?_⟩))
                          (try simp only [Act.put, List.setIfInBounds_toArray, List.set_cons_zero, List.set_cons_succ])
                          go_cut [30] (fun v30 wc => ∃ (kq : Nat) (x30_15 : Bool), v30 = .bool x30_15 ∧ Aside0 (seedcornref02_Load.j3 kq a0 x3_1 x4_9 x5_1 x6_1 t101 x30_15 = some r) ∧ Aside0 (kq ≤ kj9) ∧ Aside0 (Kd.R (Kd.int .u8) 5 wc w.heap.size (fun _ => True) u3 x3_1) ∧ Aside0 (Below w.heap.size w wc))
                          case first =>
                            have H := HC16.out
                            clear HC16
                            by_cases c17 : x4_9 = true
                            · subst c17
                              have H1 : (seedcornref02_Load.j3 kj9 a0 x3_1 true x5_1 x6_1 t101 true) = some r := by rw [if_pos rfl] at H; exact H
                              clear H
                              have H := H1
                              clear H1
                              have H' := Aside0.mk H
                              clear H
                              go_wp2
                              go_meet
                              case rel => exact ⟨_, (true), (by first | rfl | (simp; done) | (simp [*]; done)), H', ⟨by have := HK1.out; have := HJ4.out; have := HJ9.out; first | omega | exact Nat.le_refl _⟩, ⟨by (with_reducible repeat (first | apply Kd.R_alloc | apply Kd.R_drewN | apply Kd.R_drew)); exact HO_3.out⟩, ⟨by repeat (first | (with_reducible first | exact HB.out | apply below_alloc | apply pw_below_drewN | apply below_drew1) | exact HB.out)⟩⟩
                            · replace c17 := Bool.eq_false_iff.mpr c17
                              subst c17
                              have H1 : (seedcornref02_Load.j3 kj9 a0 x3_1 false x5_1 x6_1 t101 (decide (t101 < 0))) = some r := by rw [if_neg (show ¬ (false = true) by decide)] at H; exact H
                              clear H
                              have H := H1
                              clear H1
                              have H' := Aside0.mk H
                              clear H
                              go_wp2
                              go_meet
                              case rel => exact ⟨_, (decide (t101 < 0)), (by first | rfl | (simp; done) | (simp [*]; done)), H', ⟨by have := HK1.out; have := HJ4.out; have := HJ9.out; first | omega | exact Nat.le_refl _⟩, ⟨by (with_reducible repeat (first | apply Kd.R_alloc | apply Kd.R_drewN | apply Kd.R_drew)); exact HO_3.out⟩, ⟨by repeat (first | (with_reducible first | exact HB.out | apply below_alloc | apply pw_below_drewN | apply below_drew1) | exact HB.out)⟩⟩
                          case rest =>
                            clear HC16
                            try clear c1
                            try clear p1
                            try clear q1
                            try clear hx1
                            try clear c2
                            try clear c2b0
                            try clear p2
                            try clear c3
                            try clear c3b0
                            try clear p4
                            try clear q4
                            try clear hx4
                            try clear c6
                            try clear c6b0
                            try clear c6b1
                            try clear c7
                            try clear c7b0
                            try clear c8
                            try clear c8b0
                            try clear p9
                            try clear q9
                            try clear hx9
                            try clear c11
                            try clear c11b0
                            try clear c11b1
                            try clear c12
                            try clear c12b0
                            try clear c13
                            try clear c13b0
                            try clear p14
                            try clear q14
                            try clear hx14
                            try clear c17
                            try clear p14
                            try clear p2
                            try clear p4
                            try clear p9
                            try clear q14
                            try clear q4
                            try clear q9
                            obtain ⟨kq, x30_15, rfl, HA, HJ15, HO_3, HB⟩ := hcut
                            cases kq with
                            | zero => exact absurd HA.out (by simp [seedcornref02_Load.j3])
                            | succ kj15 =>
                              have H := HA.out
                              clear HA
                              simp only [seedcornref02_Load.j3] at H
                              by_cases c18 : x30_15 = true
                              · subst c18
                                have H1 : (seedcornref02_Load.l0 kj15 a0 x3_1 x4_9 x5_1 (wrap64 (x6_1 + 1))) = some r := by rw [if_pos rfl] at H; exact H
                                clear H
                                have H := H1
                                clear H1
                                have H' := Aside0.mk H
                                clear H
                                go_wp2
                                go_roundg kj15
                                case measure => have := HK1.out; have := HJ4.out; have := HJ9.out; have := HJ15.out; omega
                                case rel => exact ⟨(x3_1), (x4_9), (x5_1), (wrap64 (x6_1 + 1)), (by first | rfl | (simp; done) | (simp [*]; done)), (by first | rfl | (simp; done) | (simp [*]; done)), (by first | rfl | (simp; done) | (simp [*]; done)), H', ⟨by have := HK1.out; have := HJ4.out; have := HJ9.out; have := HJ15.out; omega⟩, ⟨by (with_reducible repeat (first | apply Kd.R_alloc | apply Kd.R_drewN | apply Kd.R_drew)); exact HO_3.out⟩, ⟨by repeat (first | (with_reducible first | exact HB.out | apply below_alloc | apply pw_below_drewN | apply below_drew1) | exact HB.out)⟩⟩
                              · replace c18 := Bool.eq_false_iff.mpr c18
                                subst c18
                                have H1 : (if x5_1 < 0 then (seedcornref02_Load.l0 kj15 a0 x3_1 x4_9 t101 (wrap64 (x6_1 + 1))) else (if x3_1.length < 140737488355328 then (seedcornref02_Load.l0 kj15 a0 (x3_1 ++ [(wrap64 ((wrap64 (16 * x5_1)) + t101)) % 256]) x4_9 (-1) (wrap64 (x6_1 + 1))) else (none))) = some r := by rw [if_neg (show ¬ (false = true) by decide)] at H; exact H
                                clear H
                                have H := H1
                                clear H1
                                by_cases c19 : x5_1 < 0
                                · rw [if_pos c19] at H
                                  have c19b0 : decide (x5_1 < 0) = true := decide_eq_true c19
                                  clear c19
                                  have H' := Aside0.mk H
                                  clear H
                                  go_wp2
                                  go_roundg kj15
                                  case measure => have := HK1.out; have := HJ4.out; have := HJ9.out; have := HJ15.out; omega
                                  case rel => exact ⟨(x3_1), (x4_9), (t101), (wrap64 (x6_1 + 1)), (by first | rfl | (simp; done) | (simp [*]; done)), (by first | rfl | (simp; done) | (simp [*]; done)), (by first | rfl | (simp; done) | (simp [*]; done)), H', ⟨by have := HK1.out; have := HJ4.out; have := HJ9.out; have := HJ15.out; omega⟩, ⟨by (with_reducible repeat (first | apply Kd.R_alloc | apply Kd.R_drewN | apply Kd.R_drew)); exact HO_3.out⟩, ⟨by repeat (first | (with_reducible first | exact HB.out | apply below_alloc | apply pw_below_drewN | apply below_drew1) | exact HB.out)⟩⟩
                                · rw [if_neg c19] at H
                                  have c19b0 : decide (x5_1 < 0) = false := decide_eq_false c19
                                  clear c19
                                  by_cases c20 : x3_1.length < 140737488355328
                                  · rw [if_pos c20] at H
                                    have LMc20 := Aside0.mk c20
                                    clear c20
                                    obtain ⟨y102, hy102⟩ : ∃ y_ : List Int, y_ = (x3_1 ++ [(wrap64 ((wrap64 (16 * x5_1)) + t101)) % 256]) := ⟨_, rfl⟩
                                    replace H : (seedcornref02_Load.l0 kj15 a0 y102 x4_9 (-1) (wrap64 (x6_1 + 1))) = some r := by first | (rw [hy102]; with_reducible exact H) | (have H2_ := (Option.bind_some _ _).symm.trans H; rw [hy102]; with_reducible exact H2_) | (have H2_ := (Option.bind_some _ _).symm.trans H; with_reducible exact H2_) | with_reducible exact H | (rw [hy102]; exact H) | exact H
                                    have Ny102 := Aside0.mk hy102
                                    clear hy102
                                    have H' := Aside0.mk H
                                    clear H
                                    go_wp2_with (first | ((with_reducible refine gate_builtin (b := .append) (xs := #[.tmp 34, .tmp 40]) rfl ?_); at_builtin; refine Kd.R_append (Kd.int .u8) (w0 := w) w.heap.size rfl (.tmp 34) (.tmp 40) 72 5 (.int .u8 0) 1 rfl Tryd.underlying72 info5 rfl (by decide) (by omega) u3 x3_1 ((wrap64 ((wrap64 (16 * x5_1)) + t101)) % 256) [.int .u8 ((wrap64 ((wrap64 (16 * x5_1)) + t101)) % 256)] (fun _ => True) (fun _ => False) rfl rfl ?aP (fun _ hk => hk.elim) ?aF ?aO ?aB ?aS ?aL ?_; (case aP => exact rfl); (case aB => exact (by repeat (first | (with_reducible first | exact HB.out | apply below_alloc | apply pw_below_drewN | apply below_drew1) | exact HB.out))); (case aF => exact (fun _ _ => trivial)); (case aO => exact (by (with_reducible repeat (first | apply Kd.R_alloc | apply Kd.R_drewN | apply Kd.R_drew)); exact HO_3.out)); (case aS => exact (below_size (by repeat (first | (with_reducible first | exact HB.out | apply below_alloc | apply pw_below_drewN | apply below_drew1) | exact HB.out)))); (case aL => have := LMc20.out; omega); intro v103 w21 ho hb hg hat; rw [← Ny102.out] at ho; have n0_ := Aside0.mk (hb); have n1_ := Aside0.mk (ho); clear HB; clear HO_3; have HB := n0_; have HO104 := n1_; clear n0_ n1_; clear ho hb hg hat))
                                    go_roundg kj15
                                    case measure => have := HK1.out; have := HJ4.out; have := HJ9.out; have := HJ15.out; omega
                                    case rel => exact ⟨(y102), (x4_9), ((-1)), (wrap64 (x6_1 + 1)), (by first | rfl | (simp; done) | (simp [*]; done)), (by first | rfl | (simp; done) | (simp [*]; done)), (by first | rfl | (simp; done) | (simp [*]; done)), H', ⟨by have := HK1.out; have := HJ4.out; have := HJ9.out; have := HJ15.out; omega⟩, ⟨by (with_reducible repeat (first | apply Kd.R_alloc | apply Kd.R_drewN | apply Kd.R_drew)); exact HO104.out⟩, ⟨by repeat (first | (with_reducible first | exact HB.out | apply below_alloc | apply pw_below_drewN | apply below_drew1) | exact HB.out)⟩⟩
                                  · rw [if_neg c20] at H
                                    exact absurd H (by simp)
                        · rw [if_neg c13] at H
                          exact absurd H (by simp)
                      · rw [if_neg c12] at H
                        exact absurd H (by simp)
                · rw [if_neg c8] at H
                  exact absurd H (by simp)
              · rw [if_neg c7] at H
                exact absurd H (by simp)
        · rw [if_neg c3] at H
          exact absurd H (by simp)
      · rw [if_neg c2] at H
        have c2b0 : decide (x6_1 < (a0.size : Int)) = false := decide_eq_false c2
        clear c2
        obtain rfl := Option.some.inj H
        have hcv22 := own_string (P := Tryd.prog) Tryd.underlying72 Tryd.underlying5 Tryd.underlying9 (Kd.own_of_R HO_3.out)
        go_wp2
        go_ret
        exact ⟨by first | rfl | (simp [errW_none, errW_some] <;> rfl) | (simp [*, errW_none, errW_some] <;> rfl), by repeat (first | (with_reducible first | exact HB.out | apply below_alloc | apply pw_below_drewN | apply below_drew1) | exact HB.out)⟩
end Go.Proofs.YtdhkmdgieflioaaDoor.F
namespace Go.Proofs.YtdhkmdgieflioaaDoor.F
open Go.RowKit Go.Proofs.YtdhkmdgieflioaaDoorW.PrintWords Go.Proofs.YtdhkmdgieflioaaDoorW.PrintLast Go.Proofs.YtdhkmdgieflioaaDoorW.PrintMore
attribute [local go_sem] max2_int min2_int max_two min_two max_three min_three max_four min_four
set_option linter.unusedVariables false
set_option linter.unusedSimpArgs false
def seedcornref08_word.f (a0 : ByteArray) (a1 : Int) : Option (Int) := if 0 ≤ a1 then (if a1 < (a0.size : Int) then (if 0 ≤ (wrap64 (a1 + 1)) then (if (wrap64 (a1 + 1)) < (a0.size : Int) then (if 0 ≤ (wrap64 (a1 + 2)) then (if (wrap64 (a1 + 2)) < (a0.size : Int) then (if 0 ≤ (wrap64 (a1 + 3)) then (if (wrap64 (a1 + 3)) < (a0.size : Int) then (some ((((((((bt a0 a1) % 4294967296) + ((256 * ((bt a0 (wrap64 (a1 + 1))) % 4294967296)) % 4294967296)) % 4294967296) + ((65536 * ((bt a0 (wrap64 (a1 + 2))) % 4294967296)) % 4294967296)) % 4294967296) + ((16777216 * ((bt a0 (wrap64 (a1 + 3))) % 4294967296)) % 4294967296)) % 4294967296)) else (none)) else (none)) else (none)) else (none)) else (none)) else (none)) else (none)) else (none)
set_option maxHeartbeats 8000000 in
set_option maxRecDepth 100000 in
theorem seedcornref08_word.calls (a0 : ByteArray) (a1 : Int) (r : Int) (w : World) (h : seedcornref08_word.f a0 a1 = some r) :
    Calls Tryd.prog 60 #[.string a0, .int .i64 a1] w fun e w' => e = .returned (.int .u32 r) ∧ Drawn0 w w' := by
  have H : (if 0 ≤ a1 then (if a1 < (a0.size : Int) then (if 0 ≤ (wrap64 (a1 + 1)) then (if (wrap64 (a1 + 1)) < (a0.size : Int) then (if 0 ≤ (wrap64 (a1 + 2)) then (if (wrap64 (a1 + 2)) < (a0.size : Int) then (if 0 ≤ (wrap64 (a1 + 3)) then (if (wrap64 (a1 + 3)) < (a0.size : Int) then (some ((((((((bt a0 a1) % 4294967296) + ((256 * ((bt a0 (wrap64 (a1 + 1))) % 4294967296)) % 4294967296)) % 4294967296) + ((65536 * ((bt a0 (wrap64 (a1 + 2))) % 4294967296)) % 4294967296)) % 4294967296) + ((16777216 * ((bt a0 (wrap64 (a1 + 3))) % 4294967296)) % 4294967296)) % 4294967296)) else (none)) else (none)) else (none)) else (none)) else (none)) else (none)) else (none)) else (none)) = some r := h
  clear h
  by_cases c3 : 0 ≤ a1
  · rw [if_pos c3] at H
    have c3b0 : decide (0 ≤ a1) = true := decide_eq_true c3
    clear c3
    by_cases c4 : a1 < (a0.size : Int)
    · rw [if_pos c4] at H
      have c4b0 : decide (a1 < (a0.size : Int)) = true := decide_eq_true c4
      clear c4
      obtain ⟨ji6, hji6⟩ : ∃ j_ : Int, (wrap64 (a1 + 1)) = j_ := ⟨_, rfl⟩
      replace H : (if 0 ≤ (ji6) then (if (ji6) < (a0.size : Int) then (if 0 ≤ (wrap64 (a1 + 2)) then (if (wrap64 (a1 + 2)) < (a0.size : Int) then (if 0 ≤ (wrap64 (a1 + 3)) then (if (wrap64 (a1 + 3)) < (a0.size : Int) then (some ((((((((bt a0 a1) % 4294967296) + ((256 * ((bt a0 (ji6)) % 4294967296)) % 4294967296)) % 4294967296) + ((65536 * ((bt a0 (wrap64 (a1 + 2))) % 4294967296)) % 4294967296)) % 4294967296) + ((16777216 * ((bt a0 (wrap64 (a1 + 3))) % 4294967296)) % 4294967296)) % 4294967296)) else (none)) else (none)) else (none)) else (none)) else (none)) else (none)) = some r := by first | (rw [hji6] at H; exact H) | (simp only [hji6] at H ⊢; exact H)
      have hji6w : (IntKind.i64.wrap (a1 + 1)) = ji6 := (i64_w _).trans hji6
      by_cases c7 : 0 ≤ (ji6)
      · rw [if_pos c7] at H
        have c7b0 : decide (0 ≤ (ji6)) = true := decide_eq_true c7
        clear c7
        by_cases c8 : (ji6) < (a0.size : Int)
        · rw [if_pos c8] at H
          have c8b0 : decide ((ji6) < (a0.size : Int)) = true := decide_eq_true c8
          clear c8
          obtain ⟨ji10, hji10⟩ : ∃ j_ : Int, (wrap64 (a1 + 2)) = j_ := ⟨_, rfl⟩
          replace H : (if 0 ≤ (ji10) then (if (ji10) < (a0.size : Int) then (if 0 ≤ (wrap64 (a1 + 3)) then (if (wrap64 (a1 + 3)) < (a0.size : Int) then (some ((((((((bt a0 a1) % 4294967296) + ((256 * ((bt a0 (ji6)) % 4294967296)) % 4294967296)) % 4294967296) + ((65536 * ((bt a0 (ji10)) % 4294967296)) % 4294967296)) % 4294967296) + ((16777216 * ((bt a0 (wrap64 (a1 + 3))) % 4294967296)) % 4294967296)) % 4294967296)) else (none)) else (none)) else (none)) else (none)) = some r := by first | (rw [hji10] at H; exact H) | (simp only [hji10] at H ⊢; exact H)
          have hji10w : (IntKind.i64.wrap (a1 + 2)) = ji10 := (i64_w _).trans hji10
          by_cases c11 : 0 ≤ (ji10)
          · rw [if_pos c11] at H
            have c11b0 : decide (0 ≤ (ji10)) = true := decide_eq_true c11
            clear c11
            by_cases c12 : (ji10) < (a0.size : Int)
            · rw [if_pos c12] at H
              have c12b0 : decide ((ji10) < (a0.size : Int)) = true := decide_eq_true c12
              clear c12
              obtain ⟨ji14, hji14⟩ : ∃ j_ : Int, (wrap64 (a1 + 3)) = j_ := ⟨_, rfl⟩
              replace H : (if 0 ≤ (ji14) then (if (ji14) < (a0.size : Int) then (some ((((((((bt a0 a1) % 4294967296) + ((256 * ((bt a0 (ji6)) % 4294967296)) % 4294967296)) % 4294967296) + ((65536 * ((bt a0 (ji10)) % 4294967296)) % 4294967296)) % 4294967296) + ((16777216 * ((bt a0 (ji14)) % 4294967296)) % 4294967296)) % 4294967296)) else (none)) else (none)) = some r := by first | (rw [hji14] at H; exact H) | (simp only [hji14] at H ⊢; exact H)
              have hji14w : (IntKind.i64.wrap (a1 + 3)) = ji14 := (i64_w _).trans hji14
              by_cases c15 : 0 ≤ (ji14)
              · rw [if_pos c15] at H
                have c15b0 : decide (0 ≤ (ji14)) = true := decide_eq_true c15
                clear c15
                by_cases c16 : (ji14) < (a0.size : Int)
                · rw [if_pos c16] at H
                  have c16b0 : decide ((ji14) < (a0.size : Int)) = true := decide_eq_true c16
                  clear c16
                  obtain rfl := Option.some.inj H
                  have p5 : 0 ≤ (a1 : Int) := of_decide_eq_true (by first | (with_reducible assumption) | assumption)
                  have q5 : a1 < (a0.size : Int) := of_decide_eq_true (by first | (with_reducible assumption) | assumption)
                  have hx5 := bt_at a0 a1
                  replace p5 := eq_true p5
                  replace q5 := eq_true q5
                  have p9 : 0 ≤ ((ji6) : Int) := of_decide_eq_true (by first | (with_reducible assumption) | assumption)
                  have q9 : (ji6) < (a0.size : Int) := of_decide_eq_true (by first | (with_reducible assumption) | assumption)
                  have hx9 := bt_at a0 (ji6)
                  replace p9 := eq_true p9
                  replace q9 := eq_true q9
                  have p13 : 0 ≤ ((ji10) : Int) := of_decide_eq_true (by first | (with_reducible assumption) | assumption)
                  have q13 : (ji10) < (a0.size : Int) := of_decide_eq_true (by first | (with_reducible assumption) | assumption)
                  have hx13 := bt_at a0 (ji10)
                  replace p13 := eq_true p13
                  replace q13 := eq_true q13
                  have p17 : 0 ≤ ((ji14) : Int) := of_decide_eq_true (by first | (with_reducible assumption) | assumption)
                  have q17 : (ji14) < (a0.size : Int) := of_decide_eq_true (by first | (with_reducible assumption) | assumption)
                  have hx17 := bt_at a0 (ji14)
                  replace p17 := eq_true p17
                  replace q17 := eq_true q17
                  go_enter Tryd.func60, Tryd.ntmps60
                  go_wp2
                  repeat (go_quiet (fail); try go_wp2)
                  go_ret
                  exact ⟨by first | rfl | (simp; done) | (simp only [← hji6, ← hji10, ← hji14] <;> (first | rfl | simp)) | (simp [*]; done), by repeat (first | exact Drawn0.refl _ | apply Drawn0.step)⟩
                · rw [if_neg c16] at H
                  exact absurd H (by simp)
              · rw [if_neg c15] at H
                exact absurd H (by simp)
            · rw [if_neg c12] at H
              exact absurd H (by simp)
          · rw [if_neg c11] at H
            exact absurd H (by simp)
        · rw [if_neg c8] at H
          exact absurd H (by simp)
      · rw [if_neg c7] at H
        exact absurd H (by simp)
    · rw [if_neg c4] at H
      exact absurd H (by simp)
  · rw [if_neg c3] at H
    exact absurd H (by simp)
end Go.Proofs.YtdhkmdgieflioaaDoor.F
namespace Go.Proofs.YtdhkmdgieflioaaDoor.F
open Go.RowKit Go.Proofs.YtdhkmdgieflioaaDoorW.PrintWords Go.Proofs.YtdhkmdgieflioaaDoorW.PrintLast Go.Proofs.YtdhkmdgieflioaaDoorW.PrintMore
attribute [local go_sem] max2_int min2_int max_two min_two max_three min_three max_four min_four
set_option linter.unusedVariables false
set_option linter.unusedSimpArgs false
mutual
def seedcornref08_Read.j0 : Nat → ByteArray → Bool → Option (List Int × Int × Int)
  | 0, _, _ => none
  | k + 1, x0, x30 => if x30 = true then (some (([] : List Int), 0, 7)) else ((seedcornref08_word.f x0 4).bind fun t106 => ((seedcornref08_word.f x0 8).bind fun t107 => (if t106 > 16384 then (seedcornref08_Read.j1 k x0 t106 t107 true) else (if t107 > 32768 then (seedcornref08_Read.j1 k x0 t106 t107 true) else (seedcornref08_Read.j1 k x0 t106 t107 ((x0.size : Int) != (wrap64 (12 + (wrap64 (4 * (wrap64 (t106))))))))))))
def seedcornref08_Read.j1 : Nat → ByteArray → Int → Int → Bool → Option (List Int × Int × Int)
  | 0, _, _, _, _ => none
  | k + 1, x0, x4, x5, x50 => if x50 = true then (some (([] : List Int), 0, 7)) else (seedcornref08_Read.l0 k x0 x4 0 ([] : List Int) (wrap64 (x5)))
def seedcornref08_Read.l0 : Nat → ByteArray → Int → Int → List Int → Int → Option (List Int × Int × Int)
  | 0, _, _, _, _, _ => none
  | k + 1, x0, x4, x7, x109000, x109001 => if x7 < (wrap64 (x4)) then ((seedcornref08_word.f x0 (wrap64 (12 + (wrap64 (4 * x7))))).bind fun t109 => (if x109000.length < 35184372088832 then (seedcornref08_Read.l0 k x0 x4 (wrap64 (x7 + 1)) (x109000 ++ [t109]) x109001) else (none))) else (some (x109000, x109001, 0))
end
def seedcornref08_Read.f (k : Nat) (a0 : ByteArray) : Option (List Int × Int × Int) := if (a0.size : Int) < 12 then (seedcornref08_Read.j0 k a0 true) else (if 0 < (a0.size : Int) then (if (bt a0 0) = 83 then (if 1 < (a0.size : Int) then (if (bt a0 1) = 69 then (if 2 < (a0.size : Int) then (if (bt a0 2) = 69 then (if 3 < (a0.size : Int) then (seedcornref08_Read.j0 k a0 ((bt a0 3) != 68)) else (none)) else (seedcornref08_Read.j0 k a0 true)) else (none)) else (seedcornref08_Read.j0 k a0 true)) else (none)) else (seedcornref08_Read.j0 k a0 true)) else (none))
theorem seedcornref08_Read.mono_l : ∀ k, (∀ y0 y1, LeO (seedcornref08_Read.j0 k y0 y1) (seedcornref08_Read.j0 (k + 1) y0 y1)) ∧ (∀ y0 y1 y2 y3, LeO (seedcornref08_Read.j1 k y0 y1 y2 y3) (seedcornref08_Read.j1 (k + 1) y0 y1 y2 y3)) ∧ (∀ y0 y1 y2 y3 y4, LeO (seedcornref08_Read.l0 k y0 y1 y2 y3 y4) (seedcornref08_Read.l0 (k + 1) y0 y1 y2 y3 y4))
  | 0 => ⟨fun _ _ r h => by simp [seedcornref08_Read.j0] at h, fun _ _ _ _ r h => by simp [seedcornref08_Read.j1] at h, fun _ _ _ _ _ r h => by simp [seedcornref08_Read.l0] at h⟩
  | k + 1 => by
    obtain ⟨ih0, ih1, ih2⟩ := seedcornref08_Read.mono_l k
    refine ⟨?_, ?_, ?_⟩
    · intro y0 y1
      unfold seedcornref08_Read.j0
      repeat' first
      | (with_reducible exact ih0 _ _)
      | (with_reducible exact ih1 _ _ _ _)
      | (with_reducible exact ih2 _ _ _ _ _)
      | (with_reducible exact LeO.refl _)
      | (with_reducible exact LeO.none _)
      | (with_reducible refine LeO.ite ?_ ?_)
      | (with_reducible refine LeO.bind ?_ (fun _ => ?_))
      | exact ih0 _ _
      | exact ih1 _ _ _ _
      | exact ih2 _ _ _ _ _
      | exact LeO.none _
      | refine LeO.ite ?_ ?_
      | refine LeO.bind ?_ (fun _ => ?_)
    · intro y0 y1 y2 y3
      unfold seedcornref08_Read.j1
      repeat' first
      | (with_reducible exact ih0 _ _)
      | (with_reducible exact ih1 _ _ _ _)
      | (with_reducible exact ih2 _ _ _ _ _)
      | (with_reducible exact LeO.refl _)
      | (with_reducible exact LeO.none _)
      | (with_reducible refine LeO.ite ?_ ?_)
      | (with_reducible refine LeO.bind ?_ (fun _ => ?_))
      | exact ih0 _ _
      | exact ih1 _ _ _ _
      | exact ih2 _ _ _ _ _
      | exact LeO.none _
      | refine LeO.ite ?_ ?_
      | refine LeO.bind ?_ (fun _ => ?_)
    · intro y0 y1 y2 y3 y4
      unfold seedcornref08_Read.l0
      repeat' first
      | (with_reducible exact ih0 _ _)
      | (with_reducible exact ih1 _ _ _ _)
      | (with_reducible exact ih2 _ _ _ _ _)
      | (with_reducible exact LeO.refl _)
      | (with_reducible exact LeO.none _)
      | (with_reducible refine LeO.ite ?_ ?_)
      | (with_reducible refine LeO.bind ?_ (fun _ => ?_))
      | exact ih0 _ _
      | exact ih1 _ _ _ _
      | exact ih2 _ _ _ _ _
      | exact LeO.none _
      | refine LeO.ite ?_ ?_
      | refine LeO.bind ?_ (fun _ => ?_)
theorem seedcornref08_Read.mono : ∀ a0 k, LeO (seedcornref08_Read.f k a0) (seedcornref08_Read.f (k + 1) a0) := by
  intro a0 k
  obtain ⟨ih0, ih1, ih2⟩ := seedcornref08_Read.mono_l k
  unfold seedcornref08_Read.f
  repeat' first
      | (with_reducible exact ih0 _ _)
      | (with_reducible exact ih1 _ _ _ _)
      | (with_reducible exact ih2 _ _ _ _ _)
      | (with_reducible exact LeO.refl _)
      | (with_reducible exact LeO.none _)
      | (with_reducible refine LeO.ite ?_ ?_)
      | (with_reducible refine LeO.bind ?_ (fun _ => ?_))
      | exact ih0 _ _
      | exact ih1 _ _ _ _
      | exact ih2 _ _ _ _ _
      | exact LeO.none _
      | refine LeO.ite ?_ ?_
      | refine LeO.bind ?_ (fun _ => ?_)
def seedcornref08_Read.T11 : Bool × List (List Nat × List Nat) := (true, [([], []), ([0], [0]), ([], []), ([], []), ([3], [3]), ([4], [4]), ([2, 5], [2, 5]), ([6], [6]), ([1, 7, 6], [1, 7]), ([0, 1, 2, 3, 4, 5, 6, 7, 8], []), ([9, 8, 8, 0, 1, 2, 3, 4, 5, 6, 7, 8], [8, 9])])
def seedcornref08_Read.B11 : List Nat := [0, 1, 0, 0, 8, 24, 60, 124, 255, 511, 1023]
theorem seedcornref08_Read.tab11 : rtab .any (opsOf Tryd.f25 11) = seedcornref08_Read.T11 := by kernel_rfl
theorem seedcornref08_Read.bits11 : waitsOk seedcornref08_Read.T11.2 seedcornref08_Read.B11 = true := by kernel_rfl
set_option maxHeartbeats 8000000 in
set_option maxRecDepth 100000 in
theorem seedcornref08_Read.calls (k : Nat) (a0 : ByteArray) (r1 : List Int) (r2 : Int) (r3 : Int) (w : World) (h : seedcornref08_Read.f k a0 = some (r1, r2, r3)) :
    Calls Tryd.prog 25 #[.string a0] w fun e w' => ∃ v0_ : Value, e = .returned (.tuple #[.agg #[v0_, .int .i64 r2], .int .i64 r3]) ∧ Kd.R (Kd.int .u32) 47 w' w.heap.size (fun _ => True) v0_ r1 ∧ Below w.heap.size w w' := by
  have hu28 := Tryd.underlying28
  have HB := Aside0.mk (Below.refl w.heap.size w)
  have H : (if (a0.size : Int) < 12 then (seedcornref08_Read.j0 k a0 true) else (if 0 < (a0.size : Int) then (if (bt a0 0) = 83 then (if 1 < (a0.size : Int) then (if (bt a0 1) = 69 then (if 2 < (a0.size : Int) then (if (bt a0 2) = 69 then (if 3 < (a0.size : Int) then (seedcornref08_Read.j0 k a0 ((bt a0 3) != 68)) else (none)) else (seedcornref08_Read.j0 k a0 true)) else (none)) else (seedcornref08_Read.j0 k a0 true)) else (none)) else (seedcornref08_Read.j0 k a0 true)) else (none))) = some (r1, r2, r3) := h
  clear h
  have HC2 := Aside0.mk H
  clear H
  go_enter Tryd.func25, Tryd.ntmps25
  go_upto_region 1 with (first | ((with_reducible refine gate_dst (N := 2) rfl ?_); (try (refine gate_guard (by rfl) ?_; dsimp only)); refine box_event ?hg (N := 2) ?hd (cs := #[.slice none 0 0, .int .i64 0]) (t := 28) ?hr ?_; (case hd => rfl); (case hg => rfl); (case hr => first | (go_simp; done) | (go_simp; rfl)); intro gb105 hg w3 hbox hb; have n0_ := Aside0.mk (below_step (by repeat (first | (with_reducible first | exact HB.out | apply below_alloc | apply pw_below_drewN | apply below_drew1) | exact HB.out)) hb); have n1_ := Aside0.mk (hbox); have n2_ := Aside0.mk ((by rw [hg]; exact (below_size (by repeat (first | (with_reducible first | exact HB.out | apply below_alloc | apply pw_below_drewN | apply below_drew1) | exact HB.out))) : w.heap.size ≤ gb105)); have n3_ := Aside0.mk ((by rw [hg]; exact (below_size (by repeat (first | (with_reducible first | exact HB.out | apply below_alloc | apply pw_below_drewN | apply below_drew1) | exact HB.out))) : w.heap.size ≤ gb105)); clear HB; have HB := n0_; have BK105 := n1_; have GW105 := n2_; have GE105 := n3_; clear n0_ n1_ n2_ n3_; clear hb hbox hg))
  (try simp only [Act.put, List.setIfInBounds_toArray, List.set_cons_zero, List.set_cons_succ])
  go_cut [30] (fun v30 wc => ∃ (kq : Nat) (x30_1 : Bool), v30 = .bool x30_1 ∧ Aside0 (seedcornref08_Read.j0 kq a0 x30_1 = some (r1, r2, r3)) ∧ Aside0 (kq ≤ k) ∧ Aside0 (wc.heap[gb105]? = some (.cells #[(.slice none 0 0), .int .i64 0] 28 (0, 0))) ∧ Aside0 (Below w.heap.size w wc))
  case first =>
    have H := HC2.out
    clear HC2
    by_cases c4 : (a0.size : Int) < 12
    · rw [if_pos c4] at H
      have c4b0 : decide ((a0.size : Int) < 12) = true := decide_eq_true c4
      have c4b1 : decide (a0.size < 12) = true := decide_eq_true (by omega)
      clear c4
      (first | rw [c4b0] | (simp only [i64_w, i32_w]; rw [c4b0]) | skip)
      have H' := Aside0.mk H
      clear H
      go_wp2
      go_meet
      case rel => exact ⟨_, (true), (by first | rfl | (simp; done) | (simp [*]; done)), H', ⟨by first | omega | exact Nat.le_refl _⟩, ⟨by (with_reducible repeat (first | refine blk_drewN ?_ _ | refine blk_drew ?_ | refine blk_alloc ?_ _)); exact BK105.out⟩, ⟨by repeat (first | (with_reducible first | exact HB.out | apply below_alloc | apply pw_below_drewN | apply below_drew1 | refine below_set ?_ GE105.out) | exact HB.out)⟩⟩
    · rw [if_neg c4] at H
      have c4b0 : decide ((a0.size : Int) < 12) = false := decide_eq_false c4
      have c4b1 : decide (a0.size < 12) = false := decide_eq_false (by omega)
      clear c4
      (first | rw [c4b0] | (simp only [i64_w, i32_w]; rw [c4b0]) | skip)
      by_cases c5 : 0 < (a0.size : Int)
      · rw [if_pos c5] at H
        have c5b0 : decide (0 < (a0.size : Int)) = true := decide_eq_true c5
        have c5b1 : decide (0 < a0.size) = true := decide_eq_true (by omega)
        clear c5
        by_cases c7 : (bt a0 0) = 83
        · rw [if_pos c7] at H
          have c7b0 : ((bt a0 0) == 83) = true := beq_iff_eq.mpr c7
          have c7b1 : ((bt a0 0) != 83) = false := bne_eq_false_iff_eq.mpr c7
          clear c7
          by_cases c8 : 1 < (a0.size : Int)
          · rw [if_pos c8] at H
            have c8b0 : decide (1 < (a0.size : Int)) = true := decide_eq_true c8
            have c8b1 : decide (1 < a0.size) = true := decide_eq_true (by omega)
            clear c8
            by_cases c10 : (bt a0 1) = 69
            · rw [if_pos c10] at H
              have c10b0 : ((bt a0 1) == 69) = true := beq_iff_eq.mpr c10
              have c10b1 : ((bt a0 1) != 69) = false := bne_eq_false_iff_eq.mpr c10
              clear c10
              by_cases c11 : 2 < (a0.size : Int)
              · rw [if_pos c11] at H
                have c11b0 : decide (2 < (a0.size : Int)) = true := decide_eq_true c11
                have c11b1 : decide (2 < a0.size) = true := decide_eq_true (by omega)
                clear c11
                by_cases c13 : (bt a0 2) = 69
                · rw [if_pos c13] at H
                  have c13b0 : ((bt a0 2) == 69) = true := beq_iff_eq.mpr c13
                  have c13b1 : ((bt a0 2) != 69) = false := bne_eq_false_iff_eq.mpr c13
                  clear c13
                  by_cases c14 : 3 < (a0.size : Int)
                  · rw [if_pos c14] at H
                    have c14b0 : decide (3 < (a0.size : Int)) = true := decide_eq_true c14
                    have c14b1 : decide (3 < a0.size) = true := decide_eq_true (by omega)
                    clear c14
                    have H' := Aside0.mk H
                    clear H
                    have p6 : 0 ≤ (0 : Int) := (by omega)
                    have q6 : 0 < a0.size := (by have : (0 : Int) < (a0.size : Int) := of_decide_eq_true (by first | (with_reducible assumption) | assumption); omega)
                    have hx6 : ∀ h : 0 < a0.size, ((a0[0]'h).toNat : Int) = bt a0 0 := bt_at a0 0
                    clear p6
                    have qi6 : (0 < (a0.size : Int)) = True := eq_true (of_decide_eq_true (by first | (with_reducible assumption) | assumption))
                    replace q6 := eq_true q6
                    have p9 : 0 ≤ (1 : Int) := (by omega)
                    have q9 : 1 < a0.size := (by have : (1 : Int) < (a0.size : Int) := of_decide_eq_true (by first | (with_reducible assumption) | assumption); omega)
                    have hx9 : ∀ h : 1 < a0.size, ((a0[1]'h).toNat : Int) = bt a0 1 := bt_at a0 1
                    clear p9
                    have qi9 : (1 < (a0.size : Int)) = True := eq_true (of_decide_eq_true (by first | (with_reducible assumption) | assumption))
                    replace q9 := eq_true q9
                    have p12 : 0 ≤ (2 : Int) := (by omega)
                    have q12 : 2 < a0.size := (by have : (2 : Int) < (a0.size : Int) := of_decide_eq_true (by first | (with_reducible assumption) | assumption); omega)
                    have hx12 : ∀ h : 2 < a0.size, ((a0[2]'h).toNat : Int) = bt a0 2 := bt_at a0 2
                    clear p12
                    have qi12 : (2 < (a0.size : Int)) = True := eq_true (of_decide_eq_true (by first | (with_reducible assumption) | assumption))
                    replace q12 := eq_true q12
                    have p15 : 0 ≤ (3 : Int) := (by omega)
                    have q15 : 3 < a0.size := (by have : (3 : Int) < (a0.size : Int) := of_decide_eq_true (by first | (with_reducible assumption) | assumption); omega)
                    have hx15 : ∀ h : 3 < a0.size, ((a0[3]'h).toNat : Int) = bt a0 3 := bt_at a0 3
                    clear p15
                    have qi15 : (3 < (a0.size : Int)) = True := eq_true (of_decide_eq_true (by first | (with_reducible assumption) | assumption))
                    replace q15 := eq_true q15
                    go_wp2
                    go_meet
                    case rel => exact ⟨_, (((bt a0 3) != 68)), (by first | rfl | (simp; done) | (simp [*]; done)), H', ⟨by first | omega | exact Nat.le_refl _⟩, ⟨by (with_reducible repeat (first | refine blk_drewN ?_ _ | refine blk_drew ?_ | refine blk_alloc ?_ _)); exact BK105.out⟩, ⟨by repeat (first | (with_reducible first | exact HB.out | apply below_alloc | apply pw_below_drewN | apply below_drew1 | refine below_set ?_ GE105.out) | exact HB.out)⟩⟩
                  · rw [if_neg c14] at H
                    exact absurd H (by simp)
                · rw [if_neg c13] at H
                  have c13b0 : ((bt a0 2) == 69) = false := beq_eq_false_iff_ne.mpr c13
                  have c13b1 : ((bt a0 2) != 69) = true := bne_iff_ne.mpr c13
                  have H' := Aside0.mk H
                  clear H
                  have p6 : 0 ≤ (0 : Int) := (by omega)
                  have q6 : 0 < a0.size := (by have : (0 : Int) < (a0.size : Int) := of_decide_eq_true (by first | (with_reducible assumption) | assumption); omega)
                  have hx6 : ∀ h : 0 < a0.size, ((a0[0]'h).toNat : Int) = bt a0 0 := bt_at a0 0
                  clear p6
                  have qi6 : (0 < (a0.size : Int)) = True := eq_true (of_decide_eq_true (by first | (with_reducible assumption) | assumption))
                  replace q6 := eq_true q6
                  have p9 : 0 ≤ (1 : Int) := (by omega)
                  have q9 : 1 < a0.size := (by have : (1 : Int) < (a0.size : Int) := of_decide_eq_true (by first | (with_reducible assumption) | assumption); omega)
                  have hx9 : ∀ h : 1 < a0.size, ((a0[1]'h).toNat : Int) = bt a0 1 := bt_at a0 1
                  clear p9
                  have qi9 : (1 < (a0.size : Int)) = True := eq_true (of_decide_eq_true (by first | (with_reducible assumption) | assumption))
                  replace q9 := eq_true q9
                  have p12 : 0 ≤ (2 : Int) := (by omega)
                  have q12 : 2 < a0.size := (by have : (2 : Int) < (a0.size : Int) := of_decide_eq_true (by first | (with_reducible assumption) | assumption); omega)
                  have hx12 : ∀ h : 2 < a0.size, ((a0[2]'h).toNat : Int) = bt a0 2 := bt_at a0 2
                  clear p12
                  have qi12 : (2 < (a0.size : Int)) = True := eq_true (of_decide_eq_true (by first | (with_reducible assumption) | assumption))
                  replace q12 := eq_true q12
                  go_wp2
                  go_meet
                  case rel => exact ⟨_, (true), (by first | rfl | (simp; done) | (simp [*]; done)), H', ⟨by first | omega | exact Nat.le_refl _⟩, ⟨by (with_reducible repeat (first | refine blk_drewN ?_ _ | refine blk_drew ?_ | refine blk_alloc ?_ _)); exact BK105.out⟩, ⟨by repeat (first | (with_reducible first | exact HB.out | apply below_alloc | apply pw_below_drewN | apply below_drew1 | refine below_set ?_ GE105.out) | exact HB.out)⟩⟩
              · rw [if_neg c11] at H
                exact absurd H (by simp)
            · rw [if_neg c10] at H
              have c10b0 : ((bt a0 1) == 69) = false := beq_eq_false_iff_ne.mpr c10
              have c10b1 : ((bt a0 1) != 69) = true := bne_iff_ne.mpr c10
              have H' := Aside0.mk H
              clear H
              have p6 : 0 ≤ (0 : Int) := (by omega)
              have q6 : 0 < a0.size := (by have : (0 : Int) < (a0.size : Int) := of_decide_eq_true (by first | (with_reducible assumption) | assumption); omega)
              have hx6 : ∀ h : 0 < a0.size, ((a0[0]'h).toNat : Int) = bt a0 0 := bt_at a0 0
              clear p6
              have qi6 : (0 < (a0.size : Int)) = True := eq_true (of_decide_eq_true (by first | (with_reducible assumption) | assumption))
              replace q6 := eq_true q6
              have p9 : 0 ≤ (1 : Int) := (by omega)
              have q9 : 1 < a0.size := (by have : (1 : Int) < (a0.size : Int) := of_decide_eq_true (by first | (with_reducible assumption) | assumption); omega)
              have hx9 : ∀ h : 1 < a0.size, ((a0[1]'h).toNat : Int) = bt a0 1 := bt_at a0 1
              clear p9
              have qi9 : (1 < (a0.size : Int)) = True := eq_true (of_decide_eq_true (by first | (with_reducible assumption) | assumption))
              replace q9 := eq_true q9
              go_wp2
              go_meet
              case rel => exact ⟨_, (true), (by first | rfl | (simp; done) | (simp [*]; done)), H', ⟨by first | omega | exact Nat.le_refl _⟩, ⟨by (with_reducible repeat (first | refine blk_drewN ?_ _ | refine blk_drew ?_ | refine blk_alloc ?_ _)); exact BK105.out⟩, ⟨by repeat (first | (with_reducible first | exact HB.out | apply below_alloc | apply pw_below_drewN | apply below_drew1 | refine below_set ?_ GE105.out) | exact HB.out)⟩⟩
          · rw [if_neg c8] at H
            exact absurd H (by simp)
        · rw [if_neg c7] at H
          have c7b0 : ((bt a0 0) == 83) = false := beq_eq_false_iff_ne.mpr c7
          have c7b1 : ((bt a0 0) != 83) = true := bne_iff_ne.mpr c7
          have H' := Aside0.mk H
          clear H
          have p6 : 0 ≤ (0 : Int) := (by omega)
          have q6 : 0 < a0.size := (by have : (0 : Int) < (a0.size : Int) := of_decide_eq_true (by first | (with_reducible assumption) | assumption); omega)
          have hx6 : ∀ h : 0 < a0.size, ((a0[0]'h).toNat : Int) = bt a0 0 := bt_at a0 0
          clear p6
          have qi6 : (0 < (a0.size : Int)) = True := eq_true (of_decide_eq_true (by first | (with_reducible assumption) | assumption))
          replace q6 := eq_true q6
          go_wp2
          go_meet
          case rel => exact ⟨_, (true), (by first | rfl | (simp; done) | (simp [*]; done)), H', ⟨by first | omega | exact Nat.le_refl _⟩, ⟨by (with_reducible repeat (first | refine blk_drewN ?_ _ | refine blk_drew ?_ | refine blk_alloc ?_ _)); exact BK105.out⟩, ⟨by repeat (first | (with_reducible first | exact HB.out | apply below_alloc | apply pw_below_drewN | apply below_drew1 | refine below_set ?_ GE105.out) | exact HB.out)⟩⟩
      · rw [if_neg c5] at H
        exact absurd H (by simp)
  case rest =>
    clear HC2
    try clear c1
    try clear p1
    try clear q1
    try clear hx1
    try clear qi1
    try clear c2
    try clear p2
    try clear c4
    try clear c4b0
    try clear c4b1
    try clear c5
    try clear c5b0
    try clear c5b1
    try clear p6
    try clear q6
    try clear hx6
    try clear qi6
    try clear c7
    try clear c7b0
    try clear c7b1
    try clear c8
    try clear c8b0
    try clear c8b1
    try clear p9
    try clear q9
    try clear hx9
    try clear qi9
    try clear c10
    try clear c10b0
    try clear c10b1
    try clear c11
    try clear c11b0
    try clear c11b1
    try clear p12
    try clear q12
    try clear hx12
    try clear qi12
    try clear c13
    try clear c13b0
    try clear c13b1
    try clear c14
    try clear c14b0
    try clear c14b1
    try clear p15
    try clear q15
    try clear hx15
    try clear qi15
    try clear p12
    try clear p15
    try clear p6
    try clear p9
    try clear q12
    try clear q15
    try clear q6
    try clear q9
    obtain ⟨kq, x30_1, rfl, HA, HJ1, BK105, HB⟩ := hcut
    cases kq with
    | zero => exact absurd HA.out (by simp [seedcornref08_Read.j0])
    | succ kj1 =>
      have H := HA.out
      clear HA
      simp only [seedcornref08_Read.j0] at H
      by_cases c16 : x30_1 = true
      · subst c16
        have H1 : (some (([] : List Int), 0, 7)) = some (r1, r2, r3) := by rw [if_pos rfl] at H; exact H
        clear H
        have H := H1
        clear H1
        simp only [Option.some.injEq, Prod.mk.injEq] at H
        obtain ⟨rfl, rfl, rfl⟩ := H
        have hcz17_0 : wc.cell? ⟨gb105, 0, none⟩ = some (.slice none 0 0) := (blk_cell BK105.out 0).trans rfl
        have hcz17_1 : wc.cell? ⟨gb105, 1, none⟩ = some (.int .i64 0) := (blk_cell BK105.out 1).trans rfl
        have hfz17_0 := blk_frozen BK105.out 0
        have hfz17_1 := blk_frozen BK105.out 1
        go_wp2
        refine bodyPost_ret (results_ct rfl _ _ gb105 28 #[.slice none 0 0, .int .i64 0] (0, 0) _ rfl (by (with_reducible repeat (first | refine blk_drewN ?_ _ | refine blk_drew ?_ | refine blk_alloc ?_ _)); refine blk_put (cs := #[.slice none 0 0, .int .i64 0]) ?_ 1 _ rfl; (with_reducible repeat (first | refine blk_drewN ?_ _ | refine blk_drew ?_ | refine blk_alloc ?_ _)); refine blk_put (cs := #[.slice none 0 0, .int .i64 0]) ?_ 0 _ rfl; (with_reducible repeat (first | refine blk_drewN ?_ _ | refine blk_drew ?_ | refine blk_alloc ?_ _)); exact BK105.out) Tryd.underlying28 rfl (by kernel_rfl)) rfl ?_
        exact ⟨_, by first | rfl | (simp [errW_none, errW_some] <;> rfl) | (simp [*, errW_none, errW_some] <;> rfl), by first | exact Kd.R_nil _ _ _ _ _ | exact Kd.N_nil _ _ _ _ _ | exact Kd.V_nil _ _ _ _ _ | exact Kd.Q_nil _ _ _ _ _ | exact Kd.S_nil _ _ _ _ _, by repeat (first | (with_reducible first | exact HB.out | apply below_alloc | apply pw_below_drewN | apply below_drew1 | refine below_set ?_ GE105.out) | exact HB.out)⟩
      · replace c16 := Bool.eq_false_iff.mpr c16
        subst c16
        have H1 : ((seedcornref08_word.f a0 4).bind fun t106 => ((seedcornref08_word.f a0 8).bind fun t107 => (if t106 > 16384 then (seedcornref08_Read.j1 kj1 a0 t106 t107 true) else (if t107 > 32768 then (seedcornref08_Read.j1 kj1 a0 t106 t107 true) else (seedcornref08_Read.j1 kj1 a0 t106 t107 ((a0.size : Int) != (wrap64 (12 + (wrap64 (4 * (wrap64 (t106)))))))))))) = some (r1, r2, r3) := by rw [if_neg (show ¬ (false = true) by decide)] at H; exact H
        clear H
        have H := H1
        clear H1
        replace H := Option.bind_eq_some_iff.mp H
        obtain ⟨t106, A180, H⟩ := H
        replace H : ((seedcornref08_word.f a0 8).bind fun t107 => (if t106 > 16384 then (seedcornref08_Read.j1 kj1 a0 t106 t107 true) else (if t107 > 32768 then (seedcornref08_Read.j1 kj1 a0 t106 t107 true) else (seedcornref08_Read.j1 kj1 a0 t106 t107 ((a0.size : Int) != (wrap64 (12 + (wrap64 (4 * (wrap64 (t106))))))))))) = some (r1, r2, r3) := H
        have A18 := Aside0.mk A180
        clear A180
        replace H := Option.bind_eq_some_iff.mp H
        obtain ⟨t107, A190, H⟩ := H
        replace H : (if t106 > 16384 then (seedcornref08_Read.j1 kj1 a0 t106 t107 true) else (if t107 > 32768 then (seedcornref08_Read.j1 kj1 a0 t106 t107 true) else (seedcornref08_Read.j1 kj1 a0 t106 t107 ((a0.size : Int) != (wrap64 (12 + (wrap64 (4 * (wrap64 (t106)))))))))) = some (r1, r2, r3) := H
        have A19 := Aside0.mk A190
        clear A190
        have HC20 := Aside0.mk H
        clear H
        go_upto_region 5 with (first | ((with_reducible refine gate_callee (f := 60) rfl ?_); refine goesL_ (some 33) rfl rfl Tryd.func60 (by kernel_rfl) rfl #[.string a0, .int .i64 4] rfl (by (try simp only [List.map_toArray, List.map_cons, List.map_nil]); first | done | rfl | (simp only [List.length_drop, List.length_take]; rfl)) ?_; (with_reducible refine (seedcornref08_word.calls a0 4 t106 _ A18.out).mono ?_); rintro e w' ⟨rfl, ⟨nd, rfl⟩⟩; refine ⟨_, rfl, ?_⟩) | ((with_reducible refine gate_callee (f := 60) rfl ?_); refine goesL_ (some 35) rfl rfl Tryd.func60 (by kernel_rfl) rfl #[.string a0, .int .i64 8] rfl (by (try simp only [List.map_toArray, List.map_cons, List.map_nil]); first | done | rfl | (simp only [List.length_drop, List.length_take]; rfl)) ?_; (with_reducible refine (seedcornref08_word.calls a0 8 t107 _ A19.out).mono ?_); rintro e w' ⟨rfl, ⟨nd, rfl⟩⟩; refine ⟨_, rfl, ?_⟩))
        (try simp only [Act.put, List.setIfInBounds_toArray, List.set_cons_zero, List.set_cons_succ])
        go_cut [50] (fun v50 wc => ∃ (kq : Nat) (x50_19 : Bool), v50 = .bool x50_19 ∧ Aside0 (seedcornref08_Read.j1 kq a0 t106 t107 x50_19 = some (r1, r2, r3)) ∧ Aside0 (kq ≤ kj1) ∧ Aside0 (wc.heap[gb105]? = some (.cells #[(.slice none 0 0), .int .i64 0] 28 (0, 0))) ∧ Aside0 (Below w.heap.size w wc))
        case first =>
          have H := HC20.out
          clear HC20
          by_cases c21 : t106 > 16384
          · rw [if_pos c21] at H
            have c21b0 : decide (16384 < t106) = true := decide_eq_true c21
            clear c21
            (first | rw [c21b0] | (simp only [i64_w, i32_w]; rw [c21b0]) | skip)
            have H' := Aside0.mk H
            clear H
            go_wp2
            go_meet
            case rel => exact ⟨_, (true), (by first | rfl | (simp; done) | (simp [*]; done)), H', ⟨by have := HJ1.out; first | omega | exact Nat.le_refl _⟩, ⟨by (with_reducible repeat (first | refine blk_drewN ?_ _ | refine blk_drew ?_ | refine blk_alloc ?_ _)); exact BK105.out⟩, ⟨by repeat (first | (with_reducible first | exact HB.out | apply below_alloc | apply pw_below_drewN | apply below_drew1 | refine below_set ?_ GE105.out) | exact HB.out)⟩⟩
          · rw [if_neg c21] at H
            have c21b0 : decide (16384 < t106) = false := decide_eq_false c21
            clear c21
            (first | rw [c21b0] | (simp only [i64_w, i32_w]; rw [c21b0]) | skip)
            by_cases c22 : t107 > 32768
            · rw [if_pos c22] at H
              have c22b0 : decide (32768 < t107) = true := decide_eq_true c22
              clear c22
              have H' := Aside0.mk H
              clear H
              go_wp2
              go_meet
              case rel => exact ⟨_, (true), (by first | rfl | (simp; done) | (simp [*]; done)), H', ⟨by have := HJ1.out; first | omega | exact Nat.le_refl _⟩, ⟨by (with_reducible repeat (first | refine blk_drewN ?_ _ | refine blk_drew ?_ | refine blk_alloc ?_ _)); exact BK105.out⟩, ⟨by repeat (first | (with_reducible first | exact HB.out | apply below_alloc | apply pw_below_drewN | apply below_drew1 | refine below_set ?_ GE105.out) | exact HB.out)⟩⟩
            · rw [if_neg c22] at H
              have c22b0 : decide (32768 < t107) = false := decide_eq_false c22
              clear c22
              have H' := Aside0.mk H
              clear H
              go_wp2
              go_meet
              case rel => exact ⟨_, (((a0.size : Int) != (wrap64 (12 + (wrap64 (4 * (wrap64 (t106)))))))), (by first | rfl | (simp; done) | (simp [*]; done)), H', ⟨by have := HJ1.out; first | omega | exact Nat.le_refl _⟩, ⟨by (with_reducible repeat (first | refine blk_drewN ?_ _ | refine blk_drew ?_ | refine blk_alloc ?_ _)); exact BK105.out⟩, ⟨by repeat (first | (with_reducible first | exact HB.out | apply below_alloc | apply pw_below_drewN | apply below_drew1 | refine below_set ?_ GE105.out) | exact HB.out)⟩⟩
        case rest =>
          clear HC20
          try clear c1
          try clear p1
          try clear q1
          try clear hx1
          try clear qi1
          try clear c2
          try clear p2
          try clear c4
          try clear c4b0
          try clear c4b1
          try clear c5
          try clear c5b0
          try clear c5b1
          try clear c6
          try clear p6
          try clear q6
          try clear hx6
          try clear qi6
          try clear c7
          try clear c7b0
          try clear c7b1
          try clear c8
          try clear c8b0
          try clear c8b1
          try clear p9
          try clear q9
          try clear hx9
          try clear qi9
          try clear c10
          try clear c10b0
          try clear c10b1
          try clear c11
          try clear c11b0
          try clear c11b1
          try clear p12
          try clear q12
          try clear hx12
          try clear qi12
          try clear c13
          try clear c13b0
          try clear c13b1
          try clear c14
          try clear c14b0
          try clear c14b1
          try clear p15
          try clear q15
          try clear hx15
          try clear qi15
          try clear c16
          try clear c21
          try clear c21b0
          try clear c22
          try clear c22b0
          try clear hcz17_0
          try clear hcz17_1
          try clear hfz17_0
          try clear hfz17_1
          try clear p1
          try clear p12
          try clear p15
          try clear p2
          try clear p6
          try clear p9
          try clear q1
          try clear q12
          try clear q15
          try clear q6
          try clear q9
          obtain ⟨kq, x50_19, rfl, HA, HJ19, BK105, HB⟩ := hcut
          cases kq with
          | zero => exact absurd HA.out (by simp [seedcornref08_Read.j1])
          | succ kj19 =>
            have H := HA.out
            clear HA
            simp only [seedcornref08_Read.j1] at H
            by_cases c23 : x50_19 = true
            · subst c23
              have H1 : (some (([] : List Int), 0, 7)) = some (r1, r2, r3) := by rw [if_pos rfl] at H; exact H
              clear H
              have H := H1
              clear H1
              simp only [Option.some.injEq, Prod.mk.injEq] at H
              obtain ⟨rfl, rfl, rfl⟩ := H
              have hcz24_0 : wc.cell? ⟨gb105, 0, none⟩ = some (.slice none 0 0) := (blk_cell BK105.out 0).trans rfl
              have hcz24_1 : wc.cell? ⟨gb105, 1, none⟩ = some (.int .i64 0) := (blk_cell BK105.out 1).trans rfl
              have hfz24_0 := blk_frozen BK105.out 0
              have hfz24_1 := blk_frozen BK105.out 1
              go_wp2
              refine bodyPost_ret (results_ct rfl _ _ gb105 28 #[.slice none 0 0, .int .i64 0] (0, 0) _ rfl (by (with_reducible repeat (first | refine blk_drewN ?_ _ | refine blk_drew ?_ | refine blk_alloc ?_ _)); refine blk_put (cs := #[.slice none 0 0, .int .i64 0]) ?_ 1 _ rfl; (with_reducible repeat (first | refine blk_drewN ?_ _ | refine blk_drew ?_ | refine blk_alloc ?_ _)); refine blk_put (cs := #[.slice none 0 0, .int .i64 0]) ?_ 0 _ rfl; (with_reducible repeat (first | refine blk_drewN ?_ _ | refine blk_drew ?_ | refine blk_alloc ?_ _)); exact BK105.out) Tryd.underlying28 rfl (by kernel_rfl)) rfl ?_
              exact ⟨_, by first | rfl | (simp [errW_none, errW_some] <;> rfl) | (simp [*, errW_none, errW_some] <;> rfl), by first | exact Kd.R_nil _ _ _ _ _ | exact Kd.N_nil _ _ _ _ _ | exact Kd.V_nil _ _ _ _ _ | exact Kd.Q_nil _ _ _ _ _ | exact Kd.S_nil _ _ _ _ _, by repeat (first | (with_reducible first | exact HB.out | apply below_alloc | apply pw_below_drewN | apply below_drew1 | refine below_set ?_ GE105.out) | exact HB.out)⟩
            · replace c23 := Bool.eq_false_iff.mpr c23
              subst c23
              have H1 : (seedcornref08_Read.l0 kj19 a0 t106 0 ([] : List Int) (wrap64 (t107))) = some (r1, r2, r3) := by rw [if_neg (show ¬ (false = true) by decide)] at H; exact H
              clear H
              have H := H1
              clear H1
              have H' := Aside0.mk H
              clear H
              go_wp2_with (first | ((with_reducible refine gate_dst (N := 6) rfl ?_); (try (refine gate_guard (by rfl) ?_; dsimp only)); refine box_event ?hg (N := 6) ?hd (cs := #[.slice none 0 0, .int .i64 0]) (t := 28) ?hr ?_; (case hd => rfl); (case hg => rfl); (case hr => first | (go_simp; done) | (go_simp; rfl)); intro gb108 hg w25 hbox hb; have n0_ := Aside0.mk (blk_below (g := gb105) (o := .cells #[.slice none 0 0, .int .i64 0] 28 (0, 0)) (by (with_reducible repeat (first | refine blk_drewN ?_ _ | refine blk_drew ?_ | refine blk_alloc ?_ _)); exact BK105.out) hb); have n1_ := Aside0.mk (below_step (by repeat (first | (with_reducible first | exact HB.out | apply below_alloc | apply pw_below_drewN | apply below_drew1 | refine below_set ?_ GE105.out) | exact HB.out)) hb); have n2_ := Aside0.mk (hbox); have n3_ := Aside0.mk ((by rw [hg]; exact (below_size (by repeat (first | (with_reducible first | exact HB.out | apply below_alloc | apply pw_below_drewN | apply below_drew1 | refine below_set ?_ GE105.out) | exact HB.out))) : w.heap.size ≤ gb108)); have n4_ := Aside0.mk ((by rw [hg]; exact (below_size (by repeat (first | (with_reducible first | exact HB.out | apply below_alloc | apply pw_below_drewN | apply below_drew1 | refine below_set ?_ GE105.out) | exact HB.out))) : w.heap.size ≤ gb108)); have n5_ := Aside0.mk ((by rw [hg]; exact Nat.ne_of_lt (blk_lt (g := gb105) (o := .cells #[.slice none 0 0, .int .i64 0] 28 (0, 0)) (by (with_reducible repeat (first | refine blk_drewN ?_ _ | refine blk_drew ?_ | refine blk_alloc ?_ _)); exact BK105.out)) : gb105 ≠ gb108)); have n6_ := Aside0.mk ((by rw [hg]; exact Nat.ne_of_gt (blk_lt (g := gb105) (o := .cells #[.slice none 0 0, .int .i64 0] 28 (0, 0)) (by (with_reducible repeat (first | refine blk_drewN ?_ _ | refine blk_drew ?_ | refine blk_alloc ?_ _)); exact BK105.out)) : gb108 ≠ gb105)); clear BK105; clear HB; have BK105 := n0_; have HB := n1_; have BK108 := n2_; have GW108 := n3_; have GE108 := n4_; have NB105_108 := n5_; have NB108_105 := n6_; clear n0_ n1_ n2_ n3_ n4_ n5_ n6_; clear hb hbox hg; have hnb26 := NB108_105.out; have hnc26 := NB105_108.out; have hcz27_0 : w25.cell? ⟨gb108, 0, none⟩ = some (.slice none 0 0) := (blk_cell BK108.out 0).trans rfl; have hcz27_1 : w25.cell? ⟨gb108, 1, none⟩ = some (.int .i64 0) := (blk_cell BK108.out 1).trans rfl; have hfz27_0 := blk_frozen BK108.out 0; have hfz27_1 := blk_frozen BK108.out 1))
              go_loopg [7] kj19 (fun kq v7 w' => ∃ (x7_3 : Int) (x109000_3 : List Int) (u109000 : Value), v7 = .int .i64 x7_3 ∧ Aside0 (seedcornref08_Read.l0 kq a0 t106 x7_3 x109000_3 (wrap64 (t107)) = some (r1, r2, r3)) ∧ Aside0 (kq ≤ kj19) ∧ Aside0 (Kd.R (Kd.int .u32) 47 w' w.heap.size (fun _ => True) u109000 x109000_3) ∧ Aside0 (w'.heap[gb105]? = some (.cells #[(.slice none 0 0), .int .i64 0] 28 (0, 0))) ∧ Aside0 (w'.heap[gb108]? = some (.cells #[u109000, .int .i64 (wrap64 (t107))] 28 (0, 0))) ∧ Aside0 (Below w.heap.size w w'))
              case atStart => exact ⟨(0), (([] : List Int)), (.slice none 0 0), (by first | rfl | (simp; done) | (simp [*]; done)), H', ⟨Nat.le_refl _⟩, ⟨by first | exact Kd.R_nil _ _ _ _ _ | exact Kd.N_nil _ _ _ _ _ | exact Kd.V_nil _ _ _ _ _ | exact Kd.Q_nil _ _ _ _ _ | exact Kd.S_nil _ _ _ _ _⟩, ⟨by (with_reducible repeat (first | refine blk_drewN ?_ _ | refine blk_drew ?_ | refine blk_alloc ?_ _)); refine blk_far ?_ NB105_108.out _; (with_reducible repeat (first | refine blk_drewN ?_ _ | refine blk_drew ?_ | refine blk_alloc ?_ _)); refine blk_far ?_ NB105_108.out _; (with_reducible repeat (first | refine blk_drewN ?_ _ | refine blk_drew ?_ | refine blk_alloc ?_ _)); exact BK105.out⟩, ⟨by (with_reducible repeat (first | refine blk_drewN ?_ _ | refine blk_drew ?_ | refine blk_alloc ?_ _)); refine blk_put (cs := #[.slice none 0 0, .int .i64 0]) ?_ 1 _ rfl; (with_reducible repeat (first | refine blk_drewN ?_ _ | refine blk_drew ?_ | refine blk_alloc ?_ _)); refine blk_put (cs := #[.slice none 0 0, .int .i64 0]) ?_ 0 _ rfl; (with_reducible repeat (first | refine blk_drewN ?_ _ | refine blk_drew ?_ | refine blk_alloc ?_ _)); exact BK108.out⟩, ⟨by repeat (first | (with_reducible first | exact HB.out | apply below_alloc | apply pw_below_drewN | apply below_drew1 | refine below_set ?_ GE105.out | refine below_set ?_ GE108.out) | exact HB.out)⟩⟩
              case round =>
                clear H'
                try clear c1
                try clear p1
                try clear q1
                try clear hx1
                try clear qi1
                try clear c2
                try clear p2
                try clear c4
                try clear c4b0
                try clear c4b1
                try clear c5
                try clear c5b0
                try clear c5b1
                try clear c6
                try clear p6
                try clear q6
                try clear hx6
                try clear qi6
                try clear c7
                try clear c7b0
                try clear c7b1
                try clear c8
                try clear c8b0
                try clear c8b1
                try clear p9
                try clear q9
                try clear hx9
                try clear qi9
                try clear c10
                try clear c10b0
                try clear c10b1
                try clear c11
                try clear c11b0
                try clear c11b1
                try clear p12
                try clear q12
                try clear hx12
                try clear qi12
                try clear c13
                try clear c13b0
                try clear c13b1
                try clear c14
                try clear c14b0
                try clear c14b1
                try clear p15
                try clear q15
                try clear hx15
                try clear qi15
                try clear c16
                try clear c21
                try clear c21b0
                try clear c22
                try clear c22b0
                try clear c23
                try clear c25
                try clear c26
                try clear hcz17_0
                try clear hcz17_1
                try clear hcz24_0
                try clear hcz24_1
                try clear hcz27_0
                try clear hcz27_1
                try clear hfz17_0
                try clear hfz17_1
                try clear hfz24_0
                try clear hfz24_1
                try clear hfz27_0
                try clear hfz27_1
                try clear p1
                try clear p12
                try clear p15
                try clear p2
                try clear p6
                try clear p9
                try clear q1
                try clear q12
                try clear q15
                try clear q6
                try clear q9
                obtain ⟨x7_3, x109000_3, u109000, rfl, HA, HK3, HO_109000, BK105, BK108, HB⟩ := hrel
                cases gk with
                | zero => exact absurd HA.out (by simp [seedcornref08_Read.l0])
                | succ k3 =>
                  have H := HA.out
                  clear HA
                  simp only [seedcornref08_Read.l0] at H
                  by_cases c28 : x7_3 < (wrap64 (t106))
                  · rw [if_pos c28] at H
                    have c28b0 : decide (x7_3 < (wrap64 (t106))) = true := decide_eq_true c28
                    clear c28
                    replace H := Option.bind_eq_some_iff.mp H
                    obtain ⟨t109, A290, H⟩ := H
                    replace H : (if x109000_3.length < 35184372088832 then (seedcornref08_Read.l0 k3 a0 t106 (wrap64 (x7_3 + 1)) (x109000_3 ++ [t109]) (wrap64 (t107))) else (none)) = some (r1, r2, r3) := H
                    have A29 := Aside0.mk A290
                    clear A290
                    by_cases c30 : x109000_3.length < 35184372088832
                    · rw [if_pos c30] at H
                      have LMc30 := Aside0.mk c30
                      clear c30
                      obtain ⟨y110, hy110⟩ : ∃ y_ : List Int, y_ = (x109000_3 ++ [t109]) := ⟨_, rfl⟩
                      replace H : (seedcornref08_Read.l0 k3 a0 t106 (wrap64 (x7_3 + 1)) y110 (wrap64 (t107))) = some (r1, r2, r3) := by first | (rw [hy110]; with_reducible exact H) | (have H2_ := (Option.bind_some _ _).symm.trans H; rw [hy110]; with_reducible exact H2_) | (have H2_ := (Option.bind_some _ _).symm.trans H; with_reducible exact H2_) | with_reducible exact H | (rw [hy110]; exact H) | exact H
                      have Ny110 := Aside0.mk hy110
                      clear hy110
                      have H' := Aside0.mk H
                      clear H
                      try go_wp2
                      have n0_ := Aside0.mk (Kd.R_drew HO_109000.out)
                      have n1_ := Aside0.mk (blk_drew BK105.out)
                      have n2_ := Aside0.mk (blk_drew BK108.out)
                      have n3_ := Aside0.mk (below_drew1 HB.out)
                      clear HO_109000
                      clear BK105
                      clear BK108
                      clear HB
                      have HO_109000 := n0_
                      have BK105 := n1_
                      have BK108 := n2_
                      have HB := n3_
                      clear n0_ n1_ n2_ n3_
                      refine start_ (n := 11) (S := fun w' => w'.cell? ⟨gb108, 0, none⟩ = some (u109000) ∧ w'.cell? ⟨gb108, 1, none⟩ = some (.int .i64 (wrap64 (t107)))) (ds := [10]) #[false, false, false, false, false, false, false, false, false, false, false] (by kernel_rfl) rfl rfl ⟨(blk_cell BK108.out 0).trans rfl, (blk_cell BK108.out 1).trans rfl⟩ (fun hHeld => ?_); refine with_tabW seedcornref08_Read.tab11 seedcornref08_Read.bits11 (fun HT_ HW_ => ?_)
                      generalize wr.drew = w31 at HO_109000 BK105 BK108 HB hHeld ⊢
                      refine pure_ (i := 0) (N := some 61) (v := ?_) (a' := ?_) #[true, false, false, false, false, false, false, false, false, false, false] rfl rfl (any_of HT_.out (by kernel_rfl)) (fun _ _ _ h => h) (Or.inl ⟨by rfl, ?_⟩) ?_ ?_
                      rotate_left
                      · intro w'
                        go_simp
                        with_reducible rfl
                      rotate_left
                      · simp only [Act.put, List.setIfInBounds_toArray, List.set_cons_zero, List.set_cons_succ, i64_w, i32_w]
                        rfl
                      refine pure_ (i := 2) (N := some 63) (v := ?_) (a' := ?_) #[true, false, true, false, false, false, false, false, false, false, false] rfl rfl (any_of HT_.out (by kernel_rfl)) (fun _ _ _ h => h) (Or.inl ⟨by rfl, ?_⟩) ?_ ?_
                      rotate_left
                      · intro w'
                        go_simp
                        with_reducible rfl
                      rotate_left
                      · simp only [Act.put, List.setIfInBounds_toArray, List.set_cons_zero, List.set_cons_succ, i64_w, i32_w]
                        rfl
                      refine pure_ (i := 3) (N := some 64) (v := ?_) (a' := ?_) #[true, false, true, true, false, false, false, false, false, false, false] rfl rfl (any_of HT_.out (by kernel_rfl)) (fun _ _ _ h => h) (Or.inl ⟨by rfl, ?_⟩) ?_ ?_
                      rotate_left
                      · intro w'
                        go_simp
                        with_reducible rfl
                      rotate_left
                      · simp only [Act.put, List.setIfInBounds_toArray, List.set_cons_zero, List.set_cons_succ, i64_w, i32_w]
                        rfl
                      refine pure_ (i := 4) (N := some 65) (v := ?_) (a' := ?_) #[true, false, true, true, true, false, false, false, false, false, false] rfl rfl (any_of HT_.out (by kernel_rfl)) (fun _ _ _ h => h) (Or.inl ⟨by rfl, ?_⟩) ?_ ?_
                      rotate_left
                      · intro w'
                        go_simp
                        with_reducible rfl
                      rotate_left
                      · simp only [Act.put, List.setIfInBounds_toArray, List.set_cons_zero, List.set_cons_succ, i64_w, i32_w]
                        rfl
                      refine pure_ (i := 5) (N := some 66) (v := ?_) (a' := ?_) #[true, false, true, true, true, true, false, false, false, false, false] rfl rfl (any_of HT_.out (by kernel_rfl)) (fun _ _ _ h => h) (Or.inl ⟨by rfl, ?_⟩) ?_ ?_
                      rotate_left
                      · intro w'
                        go_simp
                        with_reducible rfl
                      rotate_left
                      · simp only [Act.put, List.setIfInBounds_toArray, List.set_cons_zero, List.set_cons_succ, i64_w, i32_w]
                        rfl
                      refine take_ (i := 1) (N := some 62) (v := ?_) (a' := ?_) #[true, true, true, true, true, true, false, false, false, false, false] rfl rfl (take_ofW HT_.out HW_.out (by kernel_rfl)) (fun _ _ _ h => h) (Or.inl ⟨by rfl, ?_⟩) hHeld ?_ ?_
                      rotate_left
                      · rintro w' ⟨s0, s1⟩
                        go_simp
                        with_reducible rfl
                      rotate_left
                      · simp only [Act.put, List.setIfInBounds_toArray, List.set_cons_zero, List.set_cons_succ, i64_w, i32_w]
                        rfl
                      refine one_ (i := 6) (N := some 67) #[true, true, true, true, true, true, true, false, false, false, false] rfl rfl (one_of HT_.out (by kernel_rfl)) (by decide) (fun K hK => ?_)
                      refine goes_ Tryd.func60 (by kernel_rfl) rfl #[.string a0, .int .i64 (wrap64 (12 + (wrap64 (4 * x7_3))))] (by rfl) rfl rfl (by (try simp only [List.map_toArray, List.map_cons, List.map_nil]); first | done | rfl | (simp only [List.length_drop, List.length_take]; rfl)) ?_
                      with_reducible refine (seedcornref08_word.calls a0 (wrap64 (12 + (wrap64 (4 * x7_3)))) t109 _ A29.out).mono ?_
                      rintro e w' ⟨rfl, ⟨nd, rfl⟩⟩
                      refine ⟨_, rfl, ?_⟩
                      refine hK.out _ _ ⟨(blk_cell BK108.out 0).trans rfl, (blk_cell BK108.out 1).trans rfl⟩ (fun hHeld => ?_)
                      clear hK K
                      refine norm_ (a' := ?_) ?_ ?_
                      rotate_left
                      · show Act.put _ (some 67) _ = _
                        simp only [Act.put, List.setIfInBounds_toArray, List.set_cons_zero, List.set_cons_succ, i64_w, i32_w]
                        rfl
                      refine one_ (i := 7) (N := some 68) #[true, true, true, true, true, true, true, true, false, false, false] rfl rfl (one_of HT_.out (by kernel_rfl)) (by decide) (fun K hK => ?_)
                      refine value_ (w1 := ?_) (v := ?_) (by rfl) rfl ?_ ?_
                      rotate_left 2
                      · go_simp
                        constructor
                        · rfl
                        · rfl
                      refine hK.out _ _ ⟨(blk_cell (blk_alloc BK108.out _) 0).trans rfl, (blk_cell (blk_alloc BK108.out _) 1).trans rfl⟩ (fun hHeld => ?_)
                      clear hK K
                      refine norm_ (a' := ?_) ?_ ?_
                      rotate_left
                      · show Act.put _ (some 68) _ = _
                        simp only [Act.put, List.setIfInBounds_toArray, List.set_cons_zero, List.set_cons_succ, i64_w, i32_w]
                        rfl
                      refine one_ (i := 8) (N := some 69) #[true, true, true, true, true, true, true, true, true, false, false] rfl rfl (one_of HT_.out (by kernel_rfl)) (by decide) (fun K hK => ?_)
                      refine Kd.R_append_step (Kd.int .u32) (w0 := w) w.heap.size (by rfl) (.tmp 62) (.tmp 68) 26 47 (.int .u32 0) 4 rfl Tryd.underlying26 info47 rfl (by decide) (by omega) u109000 x109000_3 t109 [.int .u32 t109] (fun _ => True) (fun _ => False) rfl rfl ?aP (fun _ hk => hk.elim) ?aF ?aO ?aB ?aS ?aL ?_
                      (case aP => exact rfl)
                      (case aB => exact (by repeat (first | (with_reducible first | exact HB.out | apply below_alloc | apply pw_below_drewN | apply below_drew1 | refine below_set ?_ GE105.out | refine below_set ?_ GE108.out) | exact HB.out)))
                      (case aF => exact (fun _ _ => trivial))
                      (case aO => exact (by (with_reducible repeat (first | apply Kd.R_alloc | apply Kd.R_drewN | apply Kd.R_drew)); exact HO_109000.out))
                      (case aS => exact (below_size (by repeat (first | (with_reducible first | exact HB.out | apply below_alloc | apply pw_below_drewN | apply below_drew1 | refine below_set ?_ GE105.out | refine below_set ?_ GE108.out) | exact HB.out))))
                      (case aL => have := LMc30.out; omega)
                      intro v111 w32 ho hb hg hat
                      rw [← Ny110.out] at ho
                      have n0_ := Aside0.mk (blk_grown (g := gb105) (o := .cells #[.slice none 0 0, .int .i64 0] 28 (0, 0)) (by (with_reducible repeat (first | refine blk_drewN ?_ _ | refine blk_drew ?_ | refine blk_alloc ?_ _)); exact BK105.out) hg (Kd.R_ne HO_109000.out BK105.out (by decide)))
                      have n1_ := Aside0.mk (blk_grown (g := gb108) (o := .cells #[u109000, .int .i64 (wrap64 (t107))] 28 (0, 0)) (by (with_reducible repeat (first | refine blk_drewN ?_ _ | refine blk_drew ?_ | refine blk_alloc ?_ _)); exact BK108.out) hg (Kd.R_ne HO_109000.out BK108.out (by decide)))
                      have n2_ := Aside0.mk (hb)
                      have n3_ := Aside0.mk (ho)
                      clear BK105
                      clear BK108
                      clear HB
                      clear HO_109000
                      have BK105 := n0_
                      have BK108 := n1_
                      have HB := n2_
                      have HO112 := n3_
                      clear n0_ n1_ n2_ n3_
                      clear ho hb hg hat
                      obtain ⟨Ao33, co33, eo33⟩ := Kd.R_slice HO112.out
                      (first | subst eo33 | (injection eo33 with f1_ f2_ f3_; have f4_ := f1_.symm; have f5_ := f3_.symm; clear f1_ f2_ f3_; subst f4_; subst f5_))
                      refine hK.out _ _ ⟨(blk_cell BK108.out 0).trans rfl, (blk_cell BK108.out 1).trans rfl⟩ (fun hHeld => ?_)
                      clear hK K
                      refine norm_ (a' := ?_) ?_ ?_
                      rotate_left
                      · show Act.put _ (some 69) _ = _
                        simp only [Act.put, List.setIfInBounds_toArray, List.set_cons_zero, List.set_cons_succ, i64_w, i32_w]
                        rfl
                      refine pure_ (i := 9) (N := some 70) (v := ?_) (a' := ?_) #[true, true, true, true, true, true, true, true, true, true, false] rfl rfl (any_of HT_.out (by kernel_rfl)) (fun _ _ _ h => h) (Or.inl ⟨by rfl, ?_⟩) ?_ ?_
                      rotate_left
                      · intro w'
                        go_simp
                        with_reducible rfl
                      rotate_left
                      · simp only [Act.put, List.setIfInBounds_toArray, List.set_cons_zero, List.set_cons_succ, i64_w, i32_w]
                        rfl
                      refine last_ (i := 10) (N := none) #[true, true, true, true, true, true, true, true, true, true, true] rfl rfl (one_of HT_.out (by kernel_rfl)) (by decide) (fun K hK => ?_)
                      have hs34 : w32.cell? ⟨gb108, 0, none⟩ = some (u109000) := (blk_cell BK108.out 0).trans rfl
                      have hfs34 := blk_frozen BK108.out 0
                      have hns34_0 := NB105_108.out
                      have hms34_0 := NB108_105.out
                      refine skip_ (w1 := ?_) (by rfl) rfl ?_ ?_
                      rotate_left
                      · go_simp
                        rfl
                      refine hK.out _ _ ?_
                      clear hK K
                      refine done_ (done_of HT_.out (by kernel_rfl)) ?_
                      try go_wp2
                      go_roundg k3
                      case measure => have := HJ1.out; have := HJ19.out; have := HK3.out; omega
                      case rel => exact ⟨(wrap64 (x7_3 + 1)), (y110), (.slice Ao33 y110.length co33), (by first | rfl | (simp; done) | (simp [*]; done)), H', ⟨by have := HJ1.out; have := HJ19.out; have := HK3.out; omega⟩, ⟨by (with_reducible repeat (first | apply Kd.R_alloc | apply Kd.R_drewN | apply Kd.R_drew)); exact Kd.R_mono (Kd.R_far (p := ⟨gb108, 0, none⟩) (Kd.R_types HO112.out BK108.out (by decide)) (fun _ hk => hk.2) (.slice Ao33 y110.length co33)) (fun _ hk => trivial)⟩, ⟨by (with_reducible repeat (first | refine blk_drewN ?_ _ | refine blk_drew ?_ | refine blk_alloc ?_ _)); refine blk_far ?_ NB105_108.out _; (with_reducible repeat (first | refine blk_drewN ?_ _ | refine blk_drew ?_ | refine blk_alloc ?_ _)); exact BK105.out⟩, ⟨by (with_reducible repeat (first | refine blk_drewN ?_ _ | refine blk_drew ?_ | refine blk_alloc ?_ _)); refine blk_put (cs := #[u109000, .int .i64 (wrap64 (t107))]) ?_ 0 _ rfl; (with_reducible repeat (first | refine blk_drewN ?_ _ | refine blk_drew ?_ | refine blk_alloc ?_ _)); exact BK108.out⟩, ⟨by repeat (first | (with_reducible first | exact HB.out | apply below_alloc | apply pw_below_drewN | apply below_drew1 | refine below_set ?_ GE105.out | refine below_set ?_ GE108.out) | exact HB.out)⟩⟩
                    · rw [if_neg c30] at H
                      exact absurd H (by simp)
                  · rw [if_neg c28] at H
                    have c28b0 : decide (x7_3 < (wrap64 (t106))) = false := decide_eq_false c28
                    clear c28
                    simp only [Option.some.injEq, Prod.mk.injEq] at H
                    obtain ⟨rfl, rfl, rfl⟩ := H
                    have hnb35 := NB108_105.out
                    have hnc35 := NB105_108.out
                    have hcz36_0 : wr.cell? ⟨gb108, 0, none⟩ = some (u109000) := (blk_cell BK108.out 0).trans rfl
                    have hcz36_1 : wr.cell? ⟨gb108, 1, none⟩ = some (.int .i64 (wrap64 (t107))) := (blk_cell BK108.out 1).trans rfl
                    have hfz36_0 := blk_frozen BK108.out 0
                    have hfz36_1 := blk_frozen BK108.out 1
                    obtain ⟨Ao37, co37, eo37⟩ := Kd.R_slice HO_109000.out
                    subst eo37
                    have hcz38_0 : wr.cell? ⟨gb105, 0, none⟩ = some (.slice none 0 0) := (blk_cell BK105.out 0).trans rfl
                    have hcz38_1 : wr.cell? ⟨gb105, 1, none⟩ = some (.int .i64 0) := (blk_cell BK105.out 1).trans rfl
                    have hfz38_0 := blk_frozen BK105.out 0
                    have hfz38_1 := blk_frozen BK105.out 1
                    go_wp2
                    refine bodyPost_ret (results_ct rfl _ _ gb105 28 #[.slice Ao37 x109000_3.length co37, .int .i64 (wrap64 (t107))] (0, 0) _ rfl (by (with_reducible repeat (first | refine blk_drewN ?_ _ | refine blk_drew ?_ | refine blk_alloc ?_ _)); refine blk_put (cs := #[.slice Ao37 x109000_3.length co37, .int .i64 0]) ?_ 1 _ rfl; (with_reducible repeat (first | refine blk_drewN ?_ _ | refine blk_drew ?_ | refine blk_alloc ?_ _)); refine blk_put (cs := #[.slice none 0 0, .int .i64 0]) ?_ 0 _ rfl; (with_reducible repeat (first | refine blk_drewN ?_ _ | refine blk_drew ?_ | refine blk_alloc ?_ _)); exact BK105.out) Tryd.underlying28 rfl (by kernel_rfl)) rfl ?_
                    exact ⟨_, by first | rfl | (simp [errW_none, errW_some] <;> rfl) | (simp [*, errW_none, errW_some] <;> rfl), by (with_reducible repeat (first | apply Kd.R_alloc | apply Kd.R_drewN | apply Kd.R_drew)); exact Kd.R_mono (Kd.R_far (p := ⟨gb105, 1, none⟩) (Kd.R_far (p := ⟨gb105, 0, none⟩) (Kd.R_types HO_109000.out BK105.out (by decide)) (fun _ hk => hk.2) (.slice Ao37 x109000_3.length co37)) (fun _ hk => hk.2) (.int .i64 (wrap64 (t107)))) (fun _ hk => trivial), by repeat (first | (with_reducible first | exact HB.out | apply below_alloc | apply pw_below_drewN | apply below_drew1 | refine below_set ?_ GE105.out | refine below_set ?_ GE108.out) | exact HB.out)⟩
end Go.Proofs.YtdhkmdgieflioaaDoor.F
namespace Go.Proofs.YtdhkmdgieflioaaDoor.F
open Go.RowKit Go.Proofs.YtdhkmdgieflioaaDoorW.PrintWords Go.Proofs.YtdhkmdgieflioaaDoorW.PrintLast Go.Proofs.YtdhkmdgieflioaaDoorW.PrintMore
set_option linter.unusedVariables false
set_option linter.unusedSimpArgs false
structure Stp (W W' : World) (g cc : Nat) (o : Option Nat) : Prop where
  keep : ∀ k, k < W.heap.size → k ≠ g → k ≠ cc → some k ≠ o → W'.heap[k]? = W.heap[k]?
  size : W.heap.size ≤ W'.heap.size
  os : W'.os = W.os
  tape : W'.tape = W.tape
  output : W'.output = W.output
theorem Stp.refl (W : World) (g cc : Nat) (o : Option Nat) : Stp W W g cc o := ⟨fun _ _ _ _ _ => rfl, Nat.le_refl _, rfl, rfl, rfl⟩
theorem Stp.drew {W W' : World} {g cc : Nat} {o : Option Nat} (h : Stp W W' g cc o) : Stp W W'.drew g cc o := ⟨h.keep, h.size, h.os, h.tape, h.output⟩
theorem Stp.drewN {W W' : World} {g cc : Nat} {o : Option Nat} (h : Stp W W' g cc o) (n : Nat) : Stp W (W'.drewN n) g cc o := ⟨h.keep, h.size, h.os, h.tape, h.output⟩
theorem Stp.alloc {W W' : World} {g cc : Nat} {o : Option Nat} (h : Stp W W' g cc o) (b : Obj) : Stp W (W'.alloc b) g cc o :=
  ⟨fun k h1 h2 h3 h4 => (Below.heap_alloc W' b k (Nat.lt_of_lt_of_le h1 h.size)).trans (h.keep k h1 h2 h3 h4), by simp; have := h.size; omega, h.os, h.tape, h.output⟩
theorem Stp.setg {W W' : World} {g cc : Nat} {o : Option Nat} (h : Stp W W' g cc o) (j : Nat) (u : Value) : Stp W (W'.setCell ⟨g, j, none⟩ u) g cc o :=
  ⟨fun k h1 h2 h3 h4 => (Below.heap_setCell W' ⟨g, j, none⟩ u k h2).trans (h.keep k h1 h2 h3 h4), by simp [World.setCell]; exact h.size, h.os, h.tape, h.output⟩
theorem Stp.setc {W W' : World} {g cc : Nat} {o : Option Nat} (h : Stp W W' g cc o) (j : Nat) (u : Value) : Stp W (W'.setCell ⟨cc, j, none⟩ u) g cc o :=
  ⟨fun k h1 h2 h3 h4 => (Below.heap_setCell W' ⟨cc, j, none⟩ u k h3).trans (h.keep k h1 h2 h3 h4), by simp [World.setCell]; exact h.size, h.os, h.tape, h.output⟩
theorem Stp.new {W W' : World} {g cc : Nat} {o : Option Nat} (h : Stp W W' g cc o) (b j : Nat) (hb : W.heap.size ≤ b) (u : Value) : Stp W (W'.setCell ⟨b, j, none⟩ u) g cc o :=
  ⟨fun k h1 h2 h3 h4 => (Below.heap_setCell W' ⟨b, j, none⟩ u k (by show k ≠ b; omega)).trans (h.keep k h1 h2 h3 h4), by simp [World.setCell]; exact h.size, h.os, h.tape, h.output⟩
theorem Stp.weaken {W W' : World} {g cc : Nat} (h : Stp W W' g cc none) (o : Option Nat) : Stp W W' g cc o := ⟨fun k h1 h2 h3 _ => h.keep k h1 h2 h3 (by simp), h.size, h.os, h.tape, h.output⟩
theorem Stp.below {W W' W2 : World} {g cc : Nat} {o : Option Nat} (h : Stp W W' g cc o) (hb : Below W'.heap.size W' W2) : Stp W W2 g cc o :=
  ⟨fun k h1 h2 h3 h4 => (hb.block k (Nat.lt_of_lt_of_le h1 h.size)).trans (h.keep k h1 h2 h3 h4), Nat.le_trans h.size hb.size, hb.os.trans h.os, hb.tape.trans h.tape, hb.output.trans h.output⟩
theorem Stp.grown {W W' W2 : World} {g cc : Nat} {o : Option Nat} (h : Stp W W' g cc o) (hb : W'.grownBy W2 o) : Stp W W2 g cc o :=
  ⟨fun k h1 h2 h3 h4 => (hb.block k (Nat.lt_of_lt_of_le h1 h.size) h4).trans (h.keep k h1 h2 h3 h4), Nat.le_trans h.size hb.size, hb.os.trans h.os, hb.tape.trans h.tape, hb.output.trans h.output⟩
def StepPost (W : World) (g cc : Nat) (o : Option Nat) (cs : Array Value) (pc : Nat) (new : Array Value) (e : Ending) (w' : World) : Prop :=
  e = .returned (.tuple #[]) ∧ w'.heap[g]? = some (.cells new 145 (0, 0)) ∧ (∃ x, w'.heap[cc]? = some (.cells (cs.setIfInBounds pc (.int .i64 x)) 3 (0, 0))) ∧ Stp W w' g cc o
end Go.Proofs.YtdhkmdgieflioaaDoor.F
namespace Go.Proofs.YtdhkmdgieflioaaDoor.SeedSim
abbrev I4 := Int × Int × Int × Int
def code : List I4 := [
 (1,10,0,16),(1,11,0,10),
 (23,1,0,0),(1,2,0,256),(15,5,1,2),(20,5,0,36),(1,2,0,35),(15,5,1,2),(20,5,0,29),
 (1,2,0,48),(5,6,1,2),(14,5,6,11),(20,5,0,21),(1,2,0,32),(10,6,1,2),(1,2,0,97),(5,6,6,2),(1,2,0,6),(14,5,6,2),(19,5,0,2),(4,6,6,11),
 (20,4,0,25),(6,3,6,10),(1,4,0,1),(18,0,0,2),
 (4,3,3,6),(24,3,0,0),(1,4,0,0),(18,0,0,2),
 (23,1,0,0),(1,2,0,256),(15,5,1,2),(20,5,0,36),(15,5,1,11),(19,5,0,29),(18,0,0,2),
 (26,0,0,0)]
structure MS where
  pc : Nat
  regs : List Int
  read : Nat
  out : List Int
  steps : Nat
  fin : Int
def g (l : List Int) (i : Int) : Int := l.getD i.toNat 0
def alu (op x y : Int) : Int :=
  if op = 4 then (x+y) % 4294967296
  else if op = 5 then (x + 4294967296 - y) % 4294967296
  else if op = 6 then x*y % 4294967296
  else if op = 10 then ((x.toNat ||| y.toNat : Nat) : Int)
  else if op = 14 then (if x < y then 1 else 0)
  else if op = 15 then (if x = y then 1 else 0)
  else 0
def exec (inp : List Int) (s : MS) (i : I4) : MS :=
  let op := i.1; let a := i.2.1; let b := i.2.2.1; let c := i.2.2.2
  if op = 1 then { s with steps := s.steps + 1, regs := s.regs.set a.toNat c, pc := s.pc + 1 }
  else if op = 18 then { s with steps := s.steps + 1, pc := c.toNat }
  else if op = 19 then { s with steps := s.steps + 1, pc := if g s.regs a = 0 then c.toNat else s.pc + 1 }
  else if op = 20 then { s with steps := s.steps + 1, pc := if g s.regs a = 0 then s.pc + 1 else c.toNat }
  else if op = 23 then
    (if h : s.read < inp.length then { s with steps := s.steps + 1, regs := s.regs.set a.toNat inp[s.read], pc := s.pc + 1, read := s.read + 1 }
     else { s with steps := s.steps + 1, regs := s.regs.set a.toNat 256, pc := s.pc + 1 })
  else if op = 24 then { s with steps := s.steps + 1, out := s.out ++ [g s.regs a % 256], pc := s.pc + 1 }
  else if op = 26 then { s with steps := s.steps + 1, fin := 1 }
  else { s with steps := s.steps + 1, regs := s.regs.set a.toNat (alu op (g s.regs b) (g s.regs c)), pc := s.pc + 1 }
def step (inp : List Int) (s : MS) : MS :=
  match code[s.pc]? with
  | none => s
  | some i => exec inp s i
def run (inp : List Int) : Nat → MS → MS
  | 0, s => s
  | k+1, s => if s.fin = 0 then run inp k (step inp s) else s
theorem run_done (inp : List Int) (k : Nat) (s : MS) (h : s.fin ≠ 0) : run inp k s = s := by
  cases k with
  | zero => rfl
  | succ k => simp [run, h]
abbrev R (r1 r2 r3 r4 r5 r6 : Int) : List Int := [0,r1,r2,r3,r4,r5,r6,0,0,0,16,10,0,0,0,0]
def init : MS := ⟨0, [0,0,0,0,0,0,0,0,0,0,0,0,0,0,0,0], 0, [], 0, 0⟩
structure LS where
  note : Bool
  high : Int
  out : List Int
def digit (c : Int) : Int :=
  if 48 ≤ c ∧ c ≤ 57 then c - 48 else if 97 ≤ c ∧ c ≤ 102 then c - 97 + 10 else if 65 ≤ c ∧ c ≤ 70 then c - 65 + 10 else -1
def lstep (l : LS) (c : Int) : LS :=
  let note := if c = 10 then false else if c = 35 then true else l.note
  if note = true ∨ digit c < 0 then { l with note := note }
  else if l.high < 0 then { note := note, high := digit c, out := l.out }
  else { note := note, high := -1, out := l.out ++ [16 * l.high + digit c] }
def At (s : MS) (i : Nat) (l : LS) : Prop :=
  ∃ r1 r2 r3 r4 r5 r6, s.regs = R r1 r2 r3 r4 r5 r6 ∧ s.pc = (if l.note = true then 29 else 2) ∧ s.read = i ∧ s.out = l.out ∧ s.fin = 0 ∧
    ((l.high < 0 ∧ r4 = 0) ∨ (0 ≤ l.high ∧ l.high ≤ 15 ∧ r4 = 1 ∧ r3 = 16 * l.high))
theorem init_at (inp : List Int) : ∃ s, At s 0 ⟨false, -1, []⟩ ∧ ∀ m, run inp (m + 2) init = run inp m s := by
  refine ⟨⟨2, R 0 0 0 0 0 0, 0, [], 2, 0⟩, ⟨0, 0, 0, 0, 0, 0, by simp, by simp, by simp, by simp, by simp, by simp⟩, ?_⟩
  intro m
  simp [run, step, code, init, exec]
theorem or32 (c : Nat) (h : c < 256) : ((65 ≤ c ∧ c ≤ 70) → c ||| 32 = c + 32) ∧ ((97 ≤ c ∧ c ≤ 102) → c ||| 32 = c) ∧
    (¬ (65 ≤ c ∧ c ≤ 70) → ¬ (97 ≤ c ∧ c ≤ 102) → ¬ (97 ≤ c ||| 32 ∧ c ||| 32 ≤ 102)) ∧ c ||| 32 < 256 := by
  revert h; revert c; decide +kernel
theorem end_at (inp : List Int) (s : MS) (l : LS) (h : At s inp.length l) :
    ∃ s', s'.fin = 1 ∧ s'.out = l.out ∧ ∀ m, run inp (m + 5) s = s' := by
  obtain ⟨pc, regs, read, out, steps, fin⟩ := s
  obtain ⟨r1, r2, r3, r4, r5, r6, h1, h2, h3, h4, h5, h6⟩ := h
  simp only at h1 h2 h3 h4 h5
  subst h1 h3 h4 h5
  by_cases hn : l.note = true
  · rw [if_pos hn] at h2; subst h2
    exact ⟨⟨36, R 256 256 r3 r4 1 r6, inp.length, l.out, steps + 5, 1⟩, rfl, rfl, fun m => by simp [run, step, code, exec, g, alu, run_done]⟩
  · rw [if_neg hn] at h2; subst h2
    exact ⟨⟨36, R 256 256 r3 r4 1 r6, inp.length, l.out, steps + 5, 1⟩, rfl, rfl, fun m => by simp [run, step, code, exec, g, alu, run_done]⟩
def Goes (inp : List Int) (s : MS) (i : Nat) (l : LS) : Prop := ∃ s' k, k ≤ 24 ∧ At s' i l ∧ ∀ m, run inp (m + k) s = run inp m s'
theorem Goes.head {inp : List Int} {s s1 : MS} {i : Nat} {l : LS} (k1 : Nat) (h : ∀ m, run inp (m + k1) s = run inp m s1)
    (h' : ∃ s' k, k1 + k ≤ 24 ∧ At s' i l ∧ ∀ m, run inp (m + k) s1 = run inp m s') : Goes inp s i l := by
  obtain ⟨s', k, hk, ha, hr⟩ := h'
  exact ⟨s', k1 + k, hk, ha, fun m => by rw [show m + (k1 + k) = (m + k) + k1 by omega, h, hr]⟩
theorem byte_note (inp : List Int) (s : MS) (i : Nat) (l : LS) (hi : i < inp.length) (hb : 0 ≤ inp[i] ∧ inp[i] ≤ 255) (hn : l.note = true) (h : At s i l) :
    Goes inp s (i + 1) (lstep l inp[i]) := by
  obtain ⟨pc, regs, read, out, steps, fin⟩ := s
  obtain ⟨note, high, lout⟩ := l
  obtain ⟨r1, r2, r3, r4, r5, r6, h1, h2, h3, h4, h5, h6⟩ := h
  simp only at h1 h2 h3 h4 h5 h6 hn
  subst h1 h3 h4 h5 hn
  rw [if_pos rfl] at h2; subst h2
  generalize hc : inp[read] = c at hb
  have c256 : ¬ c = 256 := by omega
  by_cases c10 : c = 10
  · subst c10
    refine ⟨⟨2, R 10 256 r3 r4 1 r6, read + 1, out, steps + 7, 0⟩, 7, by omega, ⟨10, 256, r3, r4, 1, r6, rfl, ?_, rfl, ?_, rfl, ?_⟩, fun m => ?_⟩
    · by_cases hh : high < 0 <;> simp [lstep, digit]
    · by_cases hh : high < 0 <;> simp [lstep, digit]
    · simpa [lstep, digit] using h6
    · simp [run, step, code, exec, g, alu, hi, hc]
  · refine ⟨⟨29, R c 256 r3 r4 0 r6, read + 1, out, steps + 6, 0⟩, 6, by omega, ⟨c, 256, r3, r4, 0, r6, rfl, ?_, rfl, ?_, rfl, ?_⟩, fun m => ?_⟩
    · simp [lstep, c10]
    · simp [lstep, c10]
    · simpa [lstep, c10] using h6
    · simp [run, step, code, exec, g, alu, hi, hc, c256, c10]
theorem digit_at (inp : List Int) (r1 r2 r3 r4 r5 d high : Int) (i steps : Nat) (out : List Int) (hd : 0 ≤ d ∧ d ≤ 15)
    (h6 : (high < 0 ∧ r4 = 0) ∨ (0 ≤ high ∧ high ≤ 15 ∧ r4 = 1 ∧ r3 = 16 * high)) :
    ∃ s' k, 19 + k ≤ 24 ∧ At s' i (if high < 0 then ⟨false, d, out⟩ else ⟨false, -1, out ++ [16 * high + d]⟩) ∧
      ∀ m, run inp (m + k) ⟨21, R r1 r2 r3 r4 r5 d, i, out, steps, 0⟩ = run inp m s' := by
  rcases h6 with ⟨hh, rfl⟩ | ⟨h0, h1, rfl, rfl⟩
  · rw [if_pos hh]
    refine ⟨⟨2, R r1 r2 (16 * d) 1 r5 d, i, out, steps + 4, 0⟩, 4, by omega, ⟨r1, r2, 16 * d, 1, r5, d, rfl, rfl, rfl, rfl, rfl, Or.inr ⟨hd.1, hd.2, rfl, rfl⟩⟩, fun m => ?_⟩
    have : d * 16 % 4294967296 = 16 * d := by omega
    simp [run, step, code, exec, g, alu, this]
  · rw [if_neg (by omega)]
    refine ⟨⟨2, R r1 r2 (16 * high + d) 0 r5 d, i, out ++ [16 * high + d], steps + 5, 0⟩, 5, by omega, ⟨r1, r2, 16 * high + d, 0, r5, d, rfl, rfl, rfl, rfl, rfl, Or.inl ⟨by show (-1 : Int) < 0; omega, rfl⟩⟩, fun m => ?_⟩
    have e1 : (16 * high + d) % 4294967296 = 16 * high + d := by omega
    have e2 : (16 * high + d) % 256 = 16 * high + d := by omega
    simp [run, step, code, exec, g, alu, e1, e2]
theorem tail_main (inp : List Int) (c r3 r4 e high : Int) (i steps : Nat) (out : List Int) (e1 : ¬ e < 6)
    (h6 : (high < 0 ∧ r4 = 0) ∨ (0 ≤ high ∧ high ≤ 15 ∧ r4 = 1 ∧ r3 = 16 * high)) :
    ∃ s' k, 16 + k ≤ 24 ∧ At s' i ⟨false, high, out⟩ ∧ ∀ m, run inp (m + k) ⟨18, R c 6 r3 r4 0 e, i, out, steps, 0⟩ = run inp m s' := by
  have e2 : (if e < 6 then (1 : Int) else 0) = 0 := if_neg e1
  refine ⟨⟨2, R c 6 r3 r4 0 e, i, out, steps + 2, 0⟩, 2, by omega, ⟨c, 6, r3, r4, 0, e, rfl, rfl, rfl, rfl, rfl, h6⟩, fun m => ?_⟩
  simp [run, step, code, exec, g, alu, e2]
theorem byte_main (inp : List Int) (s : MS) (i : Nat) (l : LS) (hi : i < inp.length) (hb : 0 ≤ inp[i] ∧ inp[i] ≤ 255) (hn : l.note = false) (h : At s i l) :
    Goes inp s (i + 1) (lstep l inp[i]) := by
  obtain ⟨pc, regs, read, out, steps, fin⟩ := s
  obtain ⟨note, high, lout⟩ := l
  obtain ⟨r1, r2, r3, r4, r5, r6, h1, h2, h3, h4, h5, h6⟩ := h
  simp only at h1 h2 h3 h4 h5 h6 hn
  subst h1 h3 h4 h5 hn
  rw [if_neg (by simp)] at h2; subst h2
  generalize hc : inp[read] = c at hb
  have c256 : ¬ c = 256 := by omega
  by_cases c35 : c = 35
  · subst c35
    refine ⟨⟨29, R 35 35 r3 r4 1 r6, read + 1, out, steps + 7, 0⟩, 7, by omega, ⟨35, 35, r3, r4, 1, r6, rfl, ?_, rfl, ?_, rfl, ?_⟩, fun m => ?_⟩
    · simp [lstep]
    · simp [lstep]
    · simpa [lstep] using h6
    · simp [run, step, code, exec, g, alu, hi, hc]
  by_cases hdig : 48 ≤ c ∧ c ≤ 57
  · have hd : digit c = c - 48 := by simp [digit, hdig]
    have c10 : ¬ c = 10 := by omega
    have e1 : (c + 4294967296 - 48) % 4294967296 = c - 48 := by omega
    have e2 : c - 48 < 10 := by omega
    have hl : lstep ⟨false, high, out⟩ c = if high < 0 then ⟨false, c - 48, out⟩ else ⟨false, -1, out ++ [16 * high + (c - 48)]⟩ := by
      have : ¬ (c - 48 < 0) := by omega
      simp [lstep, c35, c10, hd, this]
    rw [hl]
    refine Goes.head (s1 := ⟨21, R c 48 r3 r4 1 (c - 48), read + 1, out, steps + 11, 0⟩) 11 (fun m => ?_) ?_
    · simp [run, step, code, exec, g, alu, hi, hc, c256, c35, e1, e2]
    · obtain ⟨s', k, hk, ha, hr⟩ := digit_at inp c 48 r3 r4 1 (c - 48) high (read + 1) (steps + 11) out (by omega) h6
      exact ⟨s', k, by omega, ha, hr⟩
  have e0 : ¬ (c + 4294967296 - 48) % 4294967296 < 10 := by omega
  obtain ⟨o1, o2, o3, o4⟩ := or32 c.toNat (by omega)
  generalize ho : c.toNat ||| 32 = o at o1 o2 o3 o4
  by_cases hlet : (97 ≤ c ∧ c ≤ 102) ∨ (65 ≤ c ∧ c ≤ 70)
  · have c10 : ¬ c = 10 := by omega
    have hd : ∃ d, digit c = d ∧ 0 ≤ d ∧ d ≤ 15 ∧ (o : Int) = d + 87 ∧ 10 ≤ d := by
      rcases hlet with h | h
      · refine ⟨c - 97 + 10, ?_, by omega, by omega, ?_, by omega⟩
        · simp [digit, h, hdig]
        · have := o2 (by omega); omega
      · refine ⟨c - 65 + 10, ?_, by omega, by omega, ?_, by omega⟩
        · simp [digit, h, hdig, show ¬ (97 ≤ c) by omega]
        · have := o1 (by omega); omega
    obtain ⟨d, hd, hd0, hd1, hod, hd2⟩ := hd
    have e1 : ((o : Int) + 4294967296 - 97) % 4294967296 = d - 10 := by omega
    have e2 : d - 10 < 6 := by omega
    have e3 : d % 4294967296 = d := by omega
    have hl : lstep ⟨false, high, out⟩ c = if high < 0 then ⟨false, d, out⟩ else ⟨false, -1, out ++ [16 * high + d]⟩ := by
      have : ¬ (d < 0) := by omega
      simp [lstep, c35, c10, hd, this]
    rw [hl]
    refine Goes.head (s1 := ⟨21, R c 6 r3 r4 1 d, read + 1, out, steps + 19, 0⟩) 19 (fun m => ?_) ?_
    · simp [run, step, code, exec, g, alu, hi, hc, c256, c35, e0, ho, e1, e2, e3]
    · exact digit_at inp c 6 r3 r4 1 d high (read + 1) (steps + 19) out ⟨hd0, hd1⟩ h6
  · have hd : digit c = -1 := by
      rw [not_or] at hlet
      simp [digit, hdig, hlet.1, hlet.2]
    have e1 : ¬ ((o : Int) + 4294967296 - 97) % 4294967296 < 6 := by
      have := o3 (by omega) (by omega)
      omega
    have hl : lstep ⟨false, high, out⟩ c = ⟨false, high, out⟩ := by
      simp [lstep, c35, hd]
    rw [hl]
    refine Goes.head (s1 := ⟨18, R c 6 r3 r4 0 (((o : Int) + 4294967296 - 97) % 4294967296), read + 1, out, steps + 16, 0⟩) 16 (fun m => ?_) ?_
    · simp [run, step, code, exec, g, alu, hi, hc, c256, c35, e0, ho]
    · exact tail_main inp c r3 r4 _ high (read + 1) (steps + 16) out e1 h6
theorem byte_at (inp : List Int) (s : MS) (i : Nat) (l : LS) (hi : i < inp.length) (hb : 0 ≤ inp[i] ∧ inp[i] ≤ 255) (h : At s i l) :
    Goes inp s (i + 1) (lstep l inp[i]) := by
  cases hn : l.note with
  | true => exact byte_note inp s i l hi hb hn h
  | false => exact byte_main inp s i l hi hb hn h
def loads (l : LS) (t : List Int) : LS := t.foldl lstep l
theorem from_at (inp : List Int) (hb : ∀ x ∈ inp, 0 ≤ x ∧ x ≤ 255) (d : Nat) : ∀ (i : Nat) (s : MS) (l : LS), inp.length - i = d → i ≤ inp.length → At s i l →
    ∃ s', s'.fin = 1 ∧ s'.out = (loads l (inp.drop i)).out ∧ ∀ m, run inp (m + 24 * d + 5) s = s' := by
  induction d with
  | zero =>
    intro i s l hd hi ha
    have hi : i = inp.length := by omega
    subst hi
    obtain ⟨s', h1, h2, h3⟩ := end_at inp s l ha
    exact ⟨s', h1, by simpa [loads] using h2, fun m => by simpa using h3 m⟩
  | succ d ih =>
    intro i s l hd hi ha
    have hlt : i < inp.length := by omega
    obtain ⟨s1, k, hk, ha1, hr1⟩ := byte_at inp s i l hlt (hb _ (List.getElem_mem hlt)) ha
    obtain ⟨s', h1, h2, h3⟩ := ih (i + 1) s1 (lstep l inp[i]) (by omega) (by omega) ha1
    refine ⟨s', h1, ?_, fun m => ?_⟩
    · rw [List.drop_eq_getElem_cons hlt]
      simp only [loads, List.foldl_cons]; exact h2
    · rw [show m + 24 * (d + 1) + 5 = ((m + (24 - k)) + 24 * d + 5) + k by omega, hr1, h3]
theorem seed_loads (inp : List Int) (hb : ∀ x ∈ inp, 0 ≤ x ∧ x ≤ 255) (fuel : Nat) (hf : 40 * (inp.length + 1) ≤ fuel) :
    (run inp fuel init).fin = 1 ∧ (run inp fuel init).out = (loads ⟨false, -1, []⟩ inp).out := by
  obtain ⟨s, ha, hr⟩ := init_at inp
  obtain ⟨s', h1, h2, h3⟩ := from_at inp hb inp.length 0 s _ rfl (by omega) ha
  obtain ⟨m, hm⟩ : ∃ m, fuel = m + 24 * inp.length + 5 + 2 := ⟨fuel - (24 * inp.length + 7), by omega⟩
  rw [hm, hr, h3]
  exact ⟨h1, by simpa using h2⟩
structure Inv (inp : List Int) (s : MS) : Prop where
  pc : s.pc < 37
  len : s.regs.length = 16
  rng : ∀ i : Nat, i < 16 → 0 ≤ s.regs.getD i 0 ∧ s.regs.getD i 0 < 4294967296
  read : s.read ≤ inp.length
  outs : ∀ x ∈ s.out, 0 ≤ x ∧ x ≤ 255
theorem code_all : ∀ n : Nat, n < 37 → ∃ i, code[n]? = some i ∧ (0 ≤ i.2.1 ∧ i.2.1 < 16) ∧ (0 ≤ i.2.2.1 ∧ i.2.2.1 < 16) ∧ (0 ≤ i.2.2.2 ∧ i.2.2.2 < 4294967296) ∧ (i.1 = 18 ∨ i.1 = 19 ∨ i.1 = 20 → i.2.2.2 < 37) ∧
    (4 ≤ i.1 ∧ i.1 ≤ 15 → i.2.2.2 < 16) ∧ (n = 36 → i.1 = 26) ∧ (n = 35 → i.1 = 18) := by
  intro n hn
  have h : n = 0 ∨ n = 1 ∨ n = 2 ∨ n = 3 ∨ n = 4 ∨ n = 5 ∨ n = 6 ∨ n = 7 ∨ n = 8 ∨ n = 9 ∨ n = 10 ∨ n = 11 ∨ n = 12 ∨ n = 13 ∨ n = 14 ∨ n = 15 ∨ n = 16 ∨ n = 17 ∨ n = 18 ∨ n = 19 ∨ n = 20 ∨ n = 21 ∨ n = 22 ∨ n = 23 ∨ n = 24 ∨ n = 25 ∨ n = 26 ∨ n = 27 ∨ n = 28 ∨ n = 29 ∨ n = 30 ∨ n = 31 ∨ n = 32 ∨ n = 33 ∨ n = 34 ∨ n = 35 ∨ n = 36 := by omega
  rcases h with rfl | rfl | rfl | rfl | rfl | rfl | rfl | rfl | rfl | rfl | rfl | rfl | rfl | rfl | rfl | rfl | rfl | rfl | rfl | rfl | rfl | rfl | rfl | rfl | rfl | rfl | rfl | rfl | rfl | rfl | rfl | rfl | rfl | rfl | rfl | rfl | rfl <;> exact ⟨_, rfl, by decide⟩
theorem getD_set (l : List Int) (k : Nat) (v : Int) (hl : l.length = 16) (P : Int → Prop) (h : ∀ i : Nat, i < 16 → P (l.getD i 0)) (hv : P v) : ∀ i : Nat, i < 16 → P ((l.set k v).getD i 0) := by
  intro i hi
  have h1 := h i hi
  simp only [List.getD_eq_getElem?_getD, List.getElem?_set] at h1 ⊢
  by_cases hk : k = i
  · subst hk
    simp only [if_true, hl, hi]
    simpa using hv
  · simp only [hk, if_false]
    exact h1
theorem alu_range (op x y : Int) (hx : 0 ≤ x ∧ x < 4294967296) (hy : 0 ≤ y ∧ y < 4294967296) : 0 ≤ alu op x y ∧ alu op x y < 4294967296 := by
  unfold alu
  have h1 := Nat.or_lt_two_pow (x := x.toNat) (y := y.toNat) (n := 32) (by omega) (by omega)
  repeat' split
  all_goals first | omega | (refine ⟨by omega, ?_⟩; have : (2 : Nat) ^ 32 = 4294967296 := by decide; omega)
theorem Inv.step {inp : List Int} {s : MS} (h : Inv inp s) (hb : ∀ x ∈ inp, 0 ≤ x ∧ x ≤ 255) : Inv inp (step inp s) := by
  obtain ⟨i, hi, ha, hb1, hc, hj, hal, h36, h35⟩ := code_all s.pc h.pc
  unfold SeedSim.step
  rw [hi]
  simp only
  have hpc := h.pc
  have g0 : ∀ k : Int, 0 ≤ k → k < 16 → 0 ≤ g s.regs k ∧ g s.regs k < 4294967296 := fun k h0 h1 => h.rng k.toNat (by omega)
  have hset : ∀ (k : Nat) (v : Int), 0 ≤ v ∧ v < 4294967296 → ∀ i : Nat, i < 16 → 0 ≤ (s.regs.set k v).getD i 0 ∧ (s.regs.set k v).getD i 0 < 4294967296 := fun k v hv => getD_set s.regs k v h.len (fun x => 0 ≤ x ∧ x < 4294967296) h.rng hv
  by_cases h1 : i.1 = 26
  · simp only [exec, h1]
    exact ⟨h.pc, h.len, h.rng, h.read, h.outs⟩
  have hn36 : s.pc ≠ 36 := fun e => h1 (h36 e)
  by_cases h18 : i.1 = 18
  · simp only [exec, h18]
    exact ⟨by have := hj (Or.inl h18); show i.2.2.2.toNat < 37; omega, h.len, h.rng, h.read, h.outs⟩
  have hn35 : s.pc ≠ 35 := fun e => h18 (h35 e)
  unfold exec
  simp only [h1, h18, if_false]
  by_cases e1 : i.1 = 1
  · simp only [e1, if_true]
    exact ⟨by show s.pc + 1 < 37; omega, by simpa using h.len, hset _ _ hc, h.read, h.outs⟩
  simp only [e1, if_false]
  by_cases e2 : i.1 = 19
  · simp only [e2, if_true]
    have hj1 := hj (Or.inr (Or.inl e2))
    have hj2 : i.2.2.2.toNat < 37 := by omega
    have hj3 : s.pc + 1 < 37 := by omega
    exact ⟨by dsimp only; split <;> assumption, h.len, h.rng, h.read, h.outs⟩
  simp only [e2, if_false]
  by_cases e3 : i.1 = 20
  · simp only [e3, if_true]
    have hj1 := hj (Or.inr (Or.inr e3))
    have hj2 : i.2.2.2.toNat < 37 := by omega
    have hj3 : s.pc + 1 < 37 := by omega
    exact ⟨by dsimp only; split <;> assumption, h.len, h.rng, h.read, h.outs⟩
  simp only [e3, if_false]
  by_cases e4 : i.1 = 23
  · simp only [e4, if_true]
    split
    · rename_i hr
      have := hb _ (List.getElem_mem hr)
      exact ⟨by show s.pc + 1 < 37; omega, by simpa using h.len, hset _ _ (by omega), by show s.read + 1 ≤ inp.length; omega, h.outs⟩
    · exact ⟨by show s.pc + 1 < 37; omega, by simpa using h.len, hset _ _ (by omega), h.read, h.outs⟩
  simp only [e4, if_false]
  by_cases e5 : i.1 = 24
  · simp only [e5, if_true]
    refine ⟨by show s.pc + 1 < 37; omega, h.len, h.rng, h.read, ?_⟩
    intro x hx
    rcases List.mem_append.1 hx with hx | hx
    · exact h.outs x hx
    · rw [List.mem_singleton] at hx
      subst hx
      have := g0 i.2.1 ha.1 ha.2
      omega
  simp only [e5, if_false]
  refine ⟨by show s.pc + 1 < 37; omega, by simpa using h.len, hset _ _ ?_, h.read, h.outs⟩
  by_cases hop : 4 ≤ i.1 ∧ i.1 ≤ 15
  · exact alu_range _ _ _ (g0 _ hb1.1 hb1.2) (g0 _ hc.1 (hal hop))
  · unfold alu
    repeat' split
    all_goals omega
theorem Inv.init (inp : List Int) : Inv inp init := ⟨by decide, rfl, by decide, Nat.zero_le _, by intro x hx; cases hx⟩
theorem step_steps {inp : List Int} {s : MS} (h : s.pc < 37) : (step inp s).steps = s.steps + 1 := by
  obtain ⟨i, hi, _⟩ := code_all s.pc h
  unfold step
  rw [hi]
  simp only [exec]
  repeat' split
  all_goals rfl
theorem step_out {inp : List Int} (s : MS) : s.out.length ≤ (step inp s).out.length := by
  unfold step
  split
  · exact Nat.le_refl _
  · simp only [exec]
    repeat' split
    all_goals first | exact Nat.le_refl _ | simp
theorem run_out (inp : List Int) : ∀ (k : Nat) (s : MS), s.out.length ≤ (run inp k s).out.length
  | 0, _ => Nat.le_refl _
  | k + 1, s => by
    unfold run
    split
    · exact Nat.le_trans (step_out s) (run_out inp k _)
    · exact Nat.le_refl _
theorem lstep_out (l : LS) (c : Int) : (lstep l c).out.length ≤ l.out.length + 1 := by
  unfold lstep
  simp only
  repeat' split
  all_goals simp
theorem loads_out (t : List Int) : ∀ l : LS, (loads l t).out.length ≤ l.out.length + t.length := by
  induction t with
  | nil => intro l; exact Nat.le_refl _
  | cons c t ih =>
    intro l
    have h1 := ih (lstep l c)
    have h2 := lstep_out l c
    show (loads (lstep l c) t).out.length ≤ _
    simp only [List.length_cons]
    omega
end Go.Proofs.YtdhkmdgieflioaaDoor.SeedSim
namespace Go.Proofs.YtdhkmdgieflioaaDoor.F
open Go.RowKit Go.Proofs.YtdhkmdgieflioaaDoorW.PrintWords Go.Proofs.YtdhkmdgieflioaaDoorW.PrintLast Go.Proofs.YtdhkmdgieflioaaDoorW.PrintMore
set_option linter.unusedVariables false
set_option linter.unusedSimpArgs false
theorem blk_newat {w : World} {o : Obj} {n : Nat} (h : w.heap.size = n) : (w.alloc o).heap[n]? = some o := h ▸ heap_alloc_new w o
theorem blk_farc {w : World} {g c j : Nat} {t : TypeId} {cs : Array Value} {u : Value} (hne : g ≠ c) (h : w.heap[g]? = some (.cells cs t (0, 0))) : (w.setCell ⟨c, j, none⟩ u).heap[g]? = some (.cells cs t (0, 0)) := blk_far h hne u
theorem blk_is {w : World} {g : Nat} {cs cs' : Array Value} (h : w.heap[g]? = some (.cells cs 145 (0, 0))) (e : cs = cs') : w.heap[g]? = some (.cells cs' 145 (0, 0)) := e ▸ h
end Go.Proofs.YtdhkmdgieflioaaDoor.F
namespace Go.Proofs.YtdhkmdgieflioaaDoor.F
open Go.RowKit Go.Proofs.YtdhkmdgieflioaaDoorW.PrintWords Go.Proofs.YtdhkmdgieflioaaDoorW.PrintLast Go.Proofs.YtdhkmdgieflioaaDoorW.PrintMore
set_option linter.unusedVariables false
set_option linter.unusedSimpArgs false
def OutOk (W : World) (base : Nat) (v : Value) (xs : List Int) : Prop :=
  (v = .slice none 0 0 ∧ xs = []) ∨
  ∃ g cap cur fz, v = .slice (some ⟨g, 0, none⟩) xs.length cap ∧ base ≤ g ∧ W.heap[g]? = some (.cells cur 5 fz) ∧ (fz.2 = 0 ∨ cur.size ≤ fz.1) ∧ xs.length ≤ cap ∧ cap ≤ maxLen ∧ cur.size = cap ∧ cur.toList.take xs.length = xs.map (Value.int .u8)
theorem OutOk.slice {W : World} {base : Nat} {v : Value} {xs : List Int} (h : OutOk W base v xs) : ∃ A c, v = .slice A xs.length c := by
  rcases h with ⟨rfl, rfl⟩ | ⟨g, cap, cur, fz, rfl, _⟩
  · exact ⟨none, 0, rfl⟩
  · exact ⟨_, _, rfl⟩
theorem OutOk.lt {W : World} {base : Nat} {v : Value} {xs : List Int} (h : OutOk W base v xs) : ∀ k, v.ownBlock = some k → base ≤ k ∧ k < W.heap.size := by
  rcases h with ⟨rfl, rfl⟩ | ⟨g, cap, cur, fz, rfl, hb, hg, _⟩
  · intro k hk; simp [Value.ownBlock] at hk
  · intro k hk
    have : g = k := by simpa [Value.ownBlock] using hk
    subst this
    exact ⟨hb, (Array.getElem?_eq_some_iff.1 hg).1⟩
theorem OutOk.move {W W' : World} {base : Nat} {v : Value} {xs : List Int} (h : OutOk W base v xs) (hk : ∀ k, v.ownBlock = some k → W'.heap[k]? = W.heap[k]?) : OutOk W' base v xs := by
  rcases h with ⟨rfl, rfl⟩ | ⟨g, cap, cur, fz, rfl, hb, hg, rest⟩
  · exact .inl ⟨rfl, rfl⟩
  · exact .inr ⟨g, cap, cur, fz, rfl, hb, (hk g (by simp [Value.ownBlock])).trans hg, rest⟩
theorem OutOk.ne {W : World} {base : Nat} {v : Value} {xs : List Int} (h : OutOk W base v xs) {g t : Nat} {cs : Array Value} {fr : Nat × Nat} (hg : W.heap[g]? = some (.cells cs t fr)) (ht : t ≠ 5) : some g ≠ v.ownBlock := by
  rcases h with ⟨rfl, rfl⟩ | ⟨g', cap, cur, fz, rfl, hb, hg', _⟩
  · simp [Value.ownBlock]
  · intro he
    have : g = g' := by simpa [Value.ownBlock] using he
    subst this
    rw [hg] at hg'
    injection hg' with hh
    injection hh with _ ht' _
    exact ht ht'
theorem OutOk.set {W : World} {base : Nat} {v : Value} {xs : List Int} (h : OutOk W base v xs) {g t : Nat} {cs : Array Value} {fr : Nat × Nat} (hg : W.heap[g]? = some (.cells cs t fr)) (ht : t ≠ 5) (j : Nat) (u : Value) : OutOk (W.setCell ⟨g, j, none⟩ u) base v xs :=
  h.move fun k hk => Below.heap_setCell W ⟨g, j, none⟩ u k (fun e => h.ne hg ht (by rw [hk]; exact congrArg some e.symm))
theorem OutOk.drew {W : World} {base : Nat} {v : Value} {xs : List Int} (h : OutOk W base v xs) : OutOk W.drew base v xs := h
theorem OutOk.drewN {W : World} {base : Nat} {v : Value} {xs : List Int} (h : OutOk W base v xs) (n : Nat) : OutOk (W.drewN n) base v xs := h
theorem OutOk.alloc {W : World} {base : Nat} {v : Value} {xs : List Int} (h : OutOk W base v xs) (o : Obj) : OutOk (W.alloc o) base v xs := h.move fun k hk => Below.heap_alloc W o k (h.lt k hk).2
theorem OutOk.below {W W' : World} {base : Nat} {v : Value} {xs : List Int} (h : OutOk W base v xs) (hb : Below W.heap.size W W') : OutOk W' base v xs := h.move fun k hk => hb.block k (h.lt k hk).2
theorem OutOk.stp {W W' : World} {g cc base : Nat} {v : Value} {xs : List Int} {cs1 cs2 : Array Value} (h : OutOk W base v xs) (hg : W.heap[g]? = some (.cells cs1 145 (0, 0))) (hc : W.heap[cc]? = some (.cells cs2 3 (0, 0)))
    (hs : Stp W W' g cc none) : OutOk W' base v xs :=
  h.move fun k hk => hs.keep k (h.lt k hk).2 (fun e => h.ne hg (by decide) (by rw [hk, e])) (fun e => h.ne hc (by decide) (by rw [hk, e])) (by simp)
theorem OutOk.setRow {W : World} {base : Nat} {v : Value} {xs : List Int} (h : OutOk W base v xs) {g t : Nat} {cs : Array Value} {fr : Nat × Nat} (hg : W.heap[g]? = some (.cells cs t fr)) (ht : t ≠ 5) (new : Array Value) : OutOk (W.setRow g new) base v xs :=
  h.move fun k hk => setRow_other W g k new (fun e => h.ne hg ht (by rw [hk, e]))
theorem run_storeCells_free (P : Program) (g o : Nat) (t : TypeId) (fz : Nat × Nat) : ∀ (vs : List Value) (i : Nat) (cur : Array Value) (w : World), w.heap[g]? = some (.cells cur t fz) → (fz.2 = 0 ∨ cur.size ≤ fz.1) → o + i + vs.length ≤ cur.size → (∀ v ∈ vs, v.oneCell' = true) →
    (storeCells ⟨g, o, none⟩ vs i).run P w = .ok () (w.setRow g (cur.toList.take (o + i) ++ vs ++ cur.toList.drop (o + i + vs.length)).toArray)
  | [], i, cur, w, hg, _, _, _ => by
    simp only [storeCells, List.append_nil, List.length_nil, Nat.add_zero, List.take_append_drop, Array.toArray_toList]
    rw [setRow_self w g cur t fz hg]
    rfl
  | v :: rest, i, cur, w, hg, hfz, hl, h1 => by
    have hi : o + i < cur.size := by simp at hl; omega
    have hadd : (⟨g, o, none⟩ : Addr).add i = ⟨g, o + i, none⟩ := by unfold Addr.add; split <;> simp_all
    have hcell : w.cell? ⟨g, o + i, none⟩ = some cur[o + i] := by simp [World.cell?, hg, hi]
    have hfro : w.frozen? ⟨g, o + i, none⟩ = false := by
      obtain ⟨lo, hi'⟩ := fz
      simp only [World.frozen?, hg, Bool.and_eq_false_iff, decide_eq_false_iff_not]
      simp only at hfz
      omega
    have hst : (store ((⟨g, o, none⟩ : Addr).add i) v).run P w = .ok () (w.setRow g (cur.setIfInBounds (o + i) v)) := by
      rw [hadd, run_store P w _ v _ (h1 v (by simp)), hcell]
      simp [hfro, setCell_eq_setRow w g (o + i) cur t fz v hg]
    have ih := run_storeCells_free P g o t fz rest (i + 1) (cur.setIfInBounds (o + i) v) (w.setRow g (cur.setIfInBounds (o + i) v)) (setRow_heap w g cur _ t _ hg) (by simpa using hfz) (by simp at hl ⊢; omega) (fun x hx => h1 x (by simp [hx]))
    simp only [storeCells, Sem.run_bind, hst, Result.andThen_ok, ih, setRow_setRow]
    congr 3
    have e := list_seg_step cur.toList (o + i) v rest (by simp at hl ⊢; omega)
    simpa [Array.toList_setIfInBounds, Nat.add_assoc] using e
theorem OutOk.append {W : World} {base : Nat} {v : Value} {xs : List Int} (h : OutOk W base v xs) (ty : TypeId) (ad : Addr) (c : Nat) (ys : List Int) (hnews : ∀ j u, (ys.map (Value.int .u8))[j]? = some u → W.cell? (ad.add j) = some u)
    (hl : xs.length + ys.length ≤ 140737488355328) (hbase : base ≤ W.heap.size) :
    ∃ v' w', (Builtin.append_ #[72, 72] ty #[v, .slice (some ad) ys.length c]).run Tryd.prog W = .ok v' w' ∧ OutOk w' base v' (xs ++ ys) ∧ W.grownBy w' v.ownBlock := by
  obtain ⟨i0, hi, hzz⟩ := Option.map_eq_some_iff.1 info5
  simp only [Prod.mk.injEq] at hzz
  obtain ⟨hz0, hz1, hz2⟩ := hzz
  have ht := Tryd.underlying72
  have one : ∀ u ∈ ys.map (Value.int .u8), u.oneCell' = true := by intro u hu; obtain ⟨x, _, rfl⟩ := List.mem_map.1 hu; rfl
  have hlen : (ys.map (Value.int .u8)).length = ys.length * i0.size := by rw [hz1]; simp
  have hmax : xs.length + ys.length ≤ maxLen := by unfold maxLen; omega
  rcases h with ⟨rfl, rfl⟩ | ⟨g, cap, cur, fz, rfl, hb, hg, hfz, hnc, hcm, hcs, htake⟩
  · obtain ⟨v', w', r1, r2, r3, r4⟩ := run_append_own (P := Tryd.prog) W base 72 ty 5 i0 _ 1 1 ht hi hz0 hz1 hz2 (by rfl) (by decide) (.slice none 0 0) 0 [] ⟨rfl, .inl ⟨rfl, rfl⟩⟩ ad ys.length c (ys.map (Value.int .u8)) (by simp) hnews one (by simpa using hmax) (by simpa using hl) hbase
    refine ⟨v', w', r1, ?_, r3⟩
    · rcases r2.2 with ⟨e1, e2⟩ | ⟨g, cap, cur, rfl, hb, hg, hnc, hcm, hcs, htake⟩
      · refine .inl ⟨e1, ?_⟩
        have : ys.length = 0 := by omega
        simpa using this
      · refine .inr ⟨g, cap, cur, (0, 0), ?_, hb, hg, .inl rfl, ?_, hcm, by simpa using hcs, ?_⟩
        · simp
        · simpa using hnc
        · simpa using htake
  · by_cases hroom : xs.length + ys.length ≤ cap
    · have hf := run_firstCells_some (P := Tryd.prog) W i0.size ys.length ad ys.length c (ys.map (Value.int .u8)) hlen hnews
      have hst := run_storeCells_free Tryd.prog g (xs.length * i0.size) 5 fz (ys.map (Value.int .u8)) 0 cur W hg hfz (by simp [hz1]; omega) one
      simp only [Nat.add_zero] at hst
      have hrun : (Builtin.append_ #[72, 72] ty #[.slice (some ⟨g, 0, none⟩) xs.length cap, .slice (some ad) ys.length c]).run Tryd.prog W =
          .ok (.slice (some ⟨g, 0, none⟩) (xs.length + ys.length) cap) (W.setRow g (cur.toList.take (xs.length * i0.size) ++ ys.map (Value.int .u8) ++ cur.toList.drop (xs.length * i0.size + (ys.map (Value.int .u8)).length)).toArray) := by
        simp [Builtin.append_, run_underlying ht, sizeOf, typeInfo, hi, Builtin.lenOf, hroom, hf, Addr.add_lit, hst]
      refine ⟨_, _, hrun, .inr ⟨g, cap, _, fz, by simp, hb, setRow_heap W g cur _ 5 _ hg, ?_, by simpa using hroom, hcm, ?_, ?_⟩, ⟨rfl, rfl, rfl, by simp, fun k _ hk => setRow_other W g k _ (fun e => hk (by simp [Value.ownBlock, e]))⟩⟩
      · rw [hz1]; simp; omega
      · rw [hz1]; simp; omega
      · rw [hz1]
        simp only [Nat.mul_one, htake, List.map_append]
        rw [show (xs ++ ys).length = (xs.map (Value.int .u8) ++ ys.map (Value.int .u8)).length by simp]
        exact List.take_left
    · have holds : ∀ j u, (xs.map (Value.int .u8))[j]? = some u → W.cell? ((⟨g, 0, none⟩ : Addr).add j) = some u := by
        intro j u hu
        have hj : j < xs.length := by have := (List.getElem?_eq_some_iff.1 hu).1; simpa using this
        have hadd : (⟨g, 0, none⟩ : Addr).add j = ⟨g, j, none⟩ := by unfold Addr.add; split <;> simp_all
        rw [hadd]
        have : W.cell? ⟨g, j, none⟩ = cur[j]? := by simp [World.cell?, hg]
        rw [this, ← hu, ← htake, List.getElem?_take_of_lt hj]
        simp
      have hr := run_append_grow (P := Tryd.prog) W 72 ty 5 i0 _ ht hi hz0 ⟨g, 0, none⟩ xs.length cap (xs.map (Value.int .u8)) (by rw [hz1]; simp) holds ad ys.length c (ys.map (Value.int .u8)) hlen hnews (by omega) (by omega) (growslice_fits (by omega) (by rw [hz2]; omega))
      have hge := grownCap_ge W (xs.length + ys.length) cap 5
      have hcm2 : grownCap W (xs.length + ys.length) cap 5 ≤ maxLen := grownCap_le_maxLen W (xs.length + ys.length) cap 5 hmax
      refine ⟨_, _, hr, .inr ⟨W.heap.size, _, _, (0, 0), by simp, hbase, heap_alloc_new W.drew _, .inl rfl, by simpa using hge, hcm2, ?_, ?_⟩, ⟨rfl, rfl, rfl, by simp, fun k hk _ => Below.heap_alloc W.drew _ k hk⟩⟩
      · simp only [Array.size_append, List.size_toArray, size_zeroCells, List.length_map]
        simp only [Value.cells, Array.size, List.length]
        omega
      · simp only [Array.toList_append, List.append_assoc, List.map_append]
        rw [← List.append_assoc, show (xs ++ ys).length = (xs.map (Value.int .u8) ++ ys.map (Value.int .u8)).length by simp]
        exact List.take_left
theorem OutOk.string {W : World} {base : Nat} {v : Value} {xs : List Int} (h : OutOk W base v xs) : (convert 72 9 v).run Tryd.prog W = .ok (.string (strOfNums xs)) W := by
  rcases h with ⟨rfl, rfl⟩ | ⟨g, cap, cur, fz, rfl, hb, hg, hfz, hnc, hcm, hcs, htake⟩
  · exact run_convert_bytes_nil W 72 5 Tryd.underlying72 Tryd.underlying5 0 0 9 Tryd.underlying9
  · refine run_convert_bytes_arg W 72 5 Tryd.underlying72 Tryd.underlying5 g 0 xs.length cap xs rfl (fun i hi => ?_) 9 Tryd.underlying9
    have : W.cell? ⟨g, 0 + i, none⟩ = cur[i]? := by simp [World.cell?, hg]
    rw [this]
    have h2 : (cur.toList.take xs.length)[i]? = (xs.map (Value.int .u8))[i]? := by rw [htake]
    rw [List.getElem?_take_of_lt hi] at h2
    rw [← Array.getElem?_toList, h2]
    simp [List.getElem?_eq_getElem hi, List.getD_eq_getElem?_getD]
theorem OutOk.made (W : World) (base : Nat) (s : ByteArray) (hb : base ≤ W.heap.size) (hs : grownCap W s.size 0 5 ≤ maxLen) : OutOk (Lib.bytesWorld W 5 s) base (.slice (some ⟨W.heap.size, 0, none⟩) s.size (grownCap W s.size 0 5)) (bytesOf s) := by
  have hge := grownCap_ge W s.size 0 5
  have hd : s.data.size = s.size := rfl
  have hsz : (Lib.bytesCells W 5 s).size = grownCap W s.size 0 5 := by
    simp only [Lib.bytesCells, Array.size_append, Array.size_map, Array.size_replicate]
    rw [hd]
    omega
  refine .inr ⟨W.heap.size, _, _, _, by rw [bytesOf_length], hb, Lib.bytesWorld_at_new W 5 s, .inr (Nat.le_refl _), by rw [bytesOf_length]; exact hge, hs, hsz, ?_⟩
  rw [bytesOf_length]
  have hl : ((s.data.map fun b => Value.int .u8 b.toNat).toList).length = s.size := by simp
  simp only [Lib.bytesCells, Array.toList_append]
  rw [List.take_append_of_le_length (by rw [hl]; exact Nat.le_refl _), List.take_of_length_le (by rw [hl]; exact Nat.le_refl _)]
  simp [bytesOf]
theorem new_byte (W : World) (x : Int) : ∀ j u, ([x].map (Value.int .u8))[j]? = some u → (W.alloc (.cells #[.int .u8 x] 5)).cell? ((⟨W.heap.size, 0, none⟩ : Addr).add j) = some u := by
  intro j u hu
  have hj : j = 0 := by
    have h1 := (List.getElem?_eq_some_iff.1 hu).1
    simp at h1
    omega
  subst hj
  have hu' : Value.int .u8 x = u := by simpa using hu
  subst hu'
  exact (blk_cell (blk_new W (.cells #[.int .u8 x] 5)) 0).trans rfl
theorem size_le_alloc {B : Nat} {W W2 : World} (h1 : B ≤ W.heap.size) (h2 : W.heap.size ≤ W2.heap.size) (o : Obj) : B ≤ (W2.alloc o).heap.size := by simp; omega
theorem ne145 {W : World} {base : Nat} {v : Value} {xs : List Int} (h : OutOk W base v xs) {g : Nat} {cs : Array Value} (hg : W.heap[g]? = some (.cells cs 145 (0, 0))) : some g ≠ v.ownBlock := h.ne hg (by decide)
theorem ne3 {W : World} {base : Nat} {v : Value} {xs : List Int} (h : OutOk W base v xs) {g : Nat} {cs : Array Value} (hg : W.heap[g]? = some (.cells cs 3 (0, 0))) : some g ≠ v.ownBlock := h.ne hg (by decide)
theorem OutOk.event {ops : Array Oper} {rest : List Oper} {o : Oper} {a : Act} {Q : Exit → Act → World → Prop} {W : World} {base : Nat} {v : Value} {xs : List Int} (h : OutOk W base v xs) (hgd : o.guard = none) (s x : Operand)
    (ho : o.op = .call { callee := .builtin .append, args := #[s, x], argTypes := #[72, 72] }) (hs : a.eval s = v) (ad : Addr) (c : Nat) (ys : List Int) (hx : a.eval x = .slice (some ad) ys.length c)
    (hnews : ∀ j u, (ys.map (Value.int .u8))[j]? = some u → W.cell? (ad.add j) = some u) (hl : xs.length + ys.length ≤ 140737488355328) (hbase : base ≤ W.heap.size)
    (k : ∀ v' w', OutOk w' base v' (xs ++ ys) → W.grownBy w' v.ownBlock → wpList Tryd.prog ops Q rest (a.put o.dst v') w') : wpList Tryd.prog ops Q (o :: rest) a W := by
  obtain ⟨v', w', hr, h1, h2⟩ := h.append o.type ad c ys hnews hl hbase
  refine Kd.event_run hgd (v := v') (w1 := w') ?_ (k v' w' h1 h2)
  unfold execOp
  simp only [ho, resolve, invoke, builtin, Sem.run_bind, Sem.run_pure, Result.andThen_ok, List.map_toArray, List.map_cons, List.map_nil, hs, hx, hr]
end Go.Proofs.YtdhkmdgieflioaaDoor.F
namespace Go.Proofs.YtdhkmdgieflioaaDoor.F
open Go.RowKit Go.Proofs.YtdhkmdgieflioaaDoorW.PrintWords Go.Proofs.YtdhkmdgieflioaaDoorW.PrintLast Go.Proofs.YtdhkmdgieflioaaDoorW.PrintMore
set_option linter.unusedVariables false
set_option linter.unusedSimpArgs false
open SeedSim
def inpL (inp : ByteArray) : List Int := inp.data.toList.map fun b => (b.toNat : Int)
theorem inpL_len (inp : ByteArray) : (inpL inp).length = inp.size := by simp [inpL]
theorem inpL_get (inp : ByteArray) (i : Nat) (h : i < inp.size) : ∀ h', (inpL inp)[i]'h' = (inp[i].toNat : Int) % 4294967296 := by
  intro h'
  have h1 := inp[i].toNat_lt
  have h2 : (inpL inp)[i] = (inp[i].toNat : Int) := by simp [inpL]; rfl
  rw [h2]
  omega
theorem inpL_byte (inp : ByteArray) : ∀ x ∈ inpL inp, 0 ≤ x ∧ x ≤ 255 := by
  intro x hx
  obtain ⟨b, _, rfl⟩ := List.mem_map.1 hx
  have := b.toNat_lt
  omega
def WC (bc bo cc co1 co2 co3 : Nat) (mem wordsv : Value) (o0 inp : ByteArray) (s : MS) (outv : Value) : Array Value :=
  #[.int .i64 s.pc, .int .u32 (s.regs.getD 0 0), .int .u32 (s.regs.getD 1 0), .int .u32 (s.regs.getD 2 0), .int .u32 (s.regs.getD 3 0), .int .u32 (s.regs.getD 4 0), .int .u32 (s.regs.getD 5 0), .int .u32 (s.regs.getD 6 0), .int .u32 (s.regs.getD 7 0), .int .u32 (s.regs.getD 8 0), .int .u32 (s.regs.getD 9 0), .int .u32 (s.regs.getD 10 0), .int .u32 (s.regs.getD 11 0), .int .u32 (s.regs.getD 12 0), .int .u32 (s.regs.getD 13 0), .int .u32 (s.regs.getD 14 0), .int .u32 (s.regs.getD 15 0), mem, .int .i64 s.read, .string o0, .int .i64 s.steps, .int .i64 s.fin, outv, .slice (some ⟨bc, 0, none⟩) 37 co1, .slice (some ⟨bo, 0, none⟩) 37 co2, wordsv, .string inp, .slice (some ⟨cc, 0, none⟩) 37 co3]
structure Rows (CC OK : Array Value) : Prop where
  c0 : ∀ p i, code[p]? = some i → CC[p * 4]? = some (.int .i64 i.1)
  c1 : ∀ p i, code[p]? = some i → CC[p * 4 + 1]? = some (.int .i64 i.2.1)
  c2 : ∀ p i, code[p]? = some i → CC[p * 4 + 2]? = some (.int .i64 i.2.2.1)
  c3 : ∀ p i, code[p]? = some i → CC[p * 4 + 3]? = some (.int .i64 i.2.2.2)
  ok : ∀ p, p < 37 → OK[p]? = some (.bool true)
def Counts (cs : Array Value) : Prop := ∀ p, p < 37 → ∃ n, cs[p]? = some (.int .i64 n)
theorem Counts.set {cs : Array Value} (h : Counts cs) (p : Nat) (x : Int) : Counts (cs.setIfInBounds p (.int .i64 x)) := by
  intro q hq
  obtain ⟨n, hn⟩ := h q hq
  by_cases e : p = q
  · subst e
    have hlt : p < cs.size := by
      rcases Nat.lt_or_ge p cs.size with h1 | h1
      · exact h1
      · rw [Array.getElem?_eq_none h1] at hn; cases hn
    exact ⟨x, by rw [Array.getElem?_setIfInBounds_self_of_lt hlt]⟩
  · exact ⟨n, by rw [Array.getElem?_setIfInBounds_ne e]; exact hn⟩
def SimPost (W : World) (g : Nat) (bc bo cc co1 co2 co3 : Nat) (mem wordsv : Value) (o0 inp : ByteArray) (B : Nat) (outv : Value) (s' : MS) (e : Ending) (w' : World) : Prop :=
  e = .returned (.tuple #[]) ∧ ∃ outv', w'.heap[g]? = some (.cells (WC bc bo cc co1 co2 co3 mem wordsv o0 inp s' outv') 145 (0, 0)) ∧ (∃ cs', w'.heap[cc]? = some (.cells cs' 3 (0, 0)) ∧ Counts cs') ∧
    OutOk w' B outv' s'.out ∧ Stp W w' g cc outv.ownBlock
theorem sim_of {W : World} {g bc bo cc co1 co2 co3 : Nat} {mem wordsv : Value} {o0 inp : ByteArray} {B : Nat} {outv : Value} {cs1 cs new : Array Value} {pc : Nat} {s' : MS} {outs : List Int}
    (hg : W.heap[g]? = some (.cells cs1 145 (0, 0))) (hc : W.heap[cc]? = some (.cells cs 3 (0, 0))) (hcs : Counts cs) (ho : OutOk W B outv outs)
    (hn : new = WC bc bo cc co1 co2 co3 mem wordsv o0 inp s' outv) (hs : s'.out = outs) (h : Calls Tryd.prog 131 #[.pointer (some ⟨g, 0, none⟩)] W (StepPost W g cc none cs pc new)) :
    Calls Tryd.prog 131 #[.pointer (some ⟨g, 0, none⟩)] W (SimPost W g bc bo cc co1 co2 co3 mem wordsv o0 inp B outv s') :=
  h.mono fun e w' ⟨h1, h2, ⟨x, h3⟩, h4⟩ => ⟨h1, outv, by rw [← hn]; exact h2, ⟨_, h3, hcs.set pc x⟩, by rw [hs]; exact OutOk.stp ho hg hc h4, h4.weaken _⟩
end Go.Proofs.YtdhkmdgieflioaaDoor.F
namespace Go.Proofs.YtdhkmdgieflioaaDoor.F
open Go.RowKit Go.Proofs.YtdhkmdgieflioaaDoorW.PrintWords Go.Proofs.YtdhkmdgieflioaaDoorW.PrintLast Go.Proofs.YtdhkmdgieflioaaDoorW.PrintMore
attribute [local go_sem] max2_int min2_int max_two min_two max_three min_three max_four min_four
set_option linter.unusedVariables false
set_option linter.unusedSimpArgs false
def seedcornref01_shift.l0 : Nat → Int → Int → Int → Int → Option (Int)
  | 0, _, _, _, _ => none
  | k + 1, x0, x2, x7, x8 => if x8 < x2 then (if x0 = 12 then (seedcornref01_shift.l0 k x0 x2 (Int.tmod (IntKind.u64.wrap (2 * x7)) 4294967296) ((x8 + 1) % 4294967296)) else (seedcornref01_shift.l0 k x0 x2 (IntKind.u64.wrap (Int.tdiv x7 2)) ((x8 + 1) % 4294967296))) else (some ((x7) % 4294967296))
def seedcornref01_shift.f (k : Nat) (a0 : Int) (a1 : Int) (a2 : Int) : Option (Int) := if a2 ≥ 32 then (some 0) else (seedcornref01_shift.l0 k a0 a2 (IntKind.u64.wrap (a1)) 0)
theorem seedcornref01_shift.mono_l : ∀ k, (∀ y0 y1 y2 y3, LeO (seedcornref01_shift.l0 k y0 y1 y2 y3) (seedcornref01_shift.l0 (k + 1) y0 y1 y2 y3))
  | 0 => fun _ _ _ _ r h => by simp [seedcornref01_shift.l0] at h
  | k + 1 => by
    have ih0 := seedcornref01_shift.mono_l k
    · intro y0 y1 y2 y3
      unfold seedcornref01_shift.l0
      repeat' first
      | (with_reducible exact ih0 _ _ _ _)
      | (with_reducible exact LeO.refl _)
      | (with_reducible exact LeO.none _)
      | (with_reducible refine LeO.ite ?_ ?_)
      | (with_reducible refine LeO.bind ?_ (fun _ => ?_))
      | exact ih0 _ _ _ _
      | exact LeO.none _
      | refine LeO.ite ?_ ?_
      | refine LeO.bind ?_ (fun _ => ?_)
theorem seedcornref01_shift.mono : ∀ a0 a1 a2 k, LeO (seedcornref01_shift.f k a0 a1 a2) (seedcornref01_shift.f (k + 1) a0 a1 a2) := by
  intro a0 a1 a2 k
  have ih0 := seedcornref01_shift.mono_l k
  unfold seedcornref01_shift.f
  repeat' first
      | (with_reducible exact ih0 _ _ _ _)
      | (with_reducible exact LeO.refl _)
      | (with_reducible exact LeO.none _)
      | (with_reducible refine LeO.ite ?_ ?_)
      | (with_reducible refine LeO.bind ?_ (fun _ => ?_))
      | exact ih0 _ _ _ _
      | exact LeO.none _
      | refine LeO.ite ?_ ?_
      | refine LeO.bind ?_ (fun _ => ?_)
set_option maxHeartbeats 8000000 in
set_option maxRecDepth 100000 in
theorem seedcornref01_shift.calls (k : Nat) (a0 : Int) (a1 : Int) (a2 : Int) (r : Int) (w : World) (h : seedcornref01_shift.f k a0 a1 a2 = some r) :
    Calls Tryd.prog 84 #[.int .i64 a0, .int .u32 a1, .int .u32 a2] w fun e w' => e = .returned (.int .u32 r) ∧ Drawn0 w w' := by
  have H : (if a2 ≥ 32 then (some 0) else (seedcornref01_shift.l0 k a0 a2 (IntKind.u64.wrap (a1)) 0)) = some r := h
  clear h
  by_cases c4 : a2 ≥ 32
  · rw [if_pos c4] at H
    have c4b0 : decide (32 ≤ a2) = true := decide_eq_true c4
    clear c4
    obtain rfl := Option.some.inj H
    go_enter Tryd.func84, Tryd.ntmps84
    go_wp2
    go_ret
    exact ⟨by first | rfl | (simp; done) | (simp [*]; done), by repeat (first | exact Drawn0.refl _ | apply Drawn0.step)⟩
  · rw [if_neg c4] at H
    have c4b0 : decide (32 ≤ a2) = false := decide_eq_false c4
    clear c4
    have H' := Aside0.mk H
    clear H
    go_enter Tryd.func84, Tryd.ntmps84
    go_wp2
    go_loopg [7, 8] k (fun kq v7 v8 w' => ∃ (x7_1 : Int) (x8_1 : Int), v7 = .int .u64 x7_1 ∧ v8 = .int .u32 x8_1 ∧ Aside0 (seedcornref01_shift.l0 kq a0 a2 x7_1 x8_1 = some r) ∧ Aside0 (kq ≤ k) ∧ Drawn0 w w')
    case atStart => exact ⟨(IntKind.u64.wrap (a1)), (0), (by first | rfl | (simp; done) | (simp [*]; done)), (by first | rfl | (simp; done) | (simp [*]; done)), H', ⟨Nat.le_refl _⟩, by repeat (first | exact Drawn0.refl _ | apply Drawn0.step)⟩
    case round =>
      clear H'
      try clear p2
      try clear c4
      try clear c4b0
      obtain ⟨x7_1, x8_1, rfl, rfl, HA, HK1, ⟨m1, rfl⟩⟩ := hrel
      cases gk with
      | zero => exact absurd HA.out (by simp [seedcornref01_shift.l0])
      | succ k1 =>
        have H := HA.out
        clear HA
        simp only [seedcornref01_shift.l0] at H
        by_cases c5 : x8_1 < a2
        · rw [if_pos c5] at H
          have c5b0 : decide (x8_1 < a2) = true := decide_eq_true c5
          clear c5
          by_cases c6 : a0 = 12
          · rw [if_pos c6] at H
            have c6b0 : (a0 == 12) = true := beq_iff_eq.mpr c6
            have c6b1 : (a0 != 12) = false := bne_eq_false_iff_eq.mpr c6
            clear c6
            have H' := Aside0.mk H
            clear H
            go_wp2
            go_roundg k1
            case measure => have := HK1.out; omega
            case rel => exact ⟨(Int.tmod (IntKind.u64.wrap (2 * x7_1)) 4294967296), ((x8_1 + 1) % 4294967296), (by first | rfl | (simp; done) | (simp [*]; done)), (by first | rfl | (simp; done) | (simp [*]; done)), H', ⟨by have := HK1.out; omega⟩, by repeat (first | exact Drawn0.refl _ | apply Drawn0.step)⟩
          · rw [if_neg c6] at H
            have c6b0 : (a0 == 12) = false := beq_eq_false_iff_ne.mpr c6
            have c6b1 : (a0 != 12) = true := bne_iff_ne.mpr c6
            have H' := Aside0.mk H
            clear H
            go_wp2
            go_roundg k1
            case measure => have := HK1.out; omega
            case rel => exact ⟨(IntKind.u64.wrap (Int.tdiv x7_1 2)), ((x8_1 + 1) % 4294967296), (by first | rfl | (simp; done) | (simp [*]; done)), (by first | rfl | (simp; done) | (simp [*]; done)), H', ⟨by have := HK1.out; omega⟩, by repeat (first | exact Drawn0.refl _ | apply Drawn0.step)⟩
        · rw [if_neg c5] at H
          have c5b0 : decide (x8_1 < a2) = false := decide_eq_false c5
          clear c5
          obtain rfl := Option.some.inj H
          go_wp2
          go_ret
          exact ⟨by first | rfl | (simp; done) | (simp [*]; done), by repeat (first | exact Drawn0.refl _ | apply Drawn0.step)⟩
end Go.Proofs.YtdhkmdgieflioaaDoor.F
namespace Go.Proofs.YtdhkmdgieflioaaDoor.F
open Go.RowKit Go.Proofs.YtdhkmdgieflioaaDoorW.PrintWords Go.Proofs.YtdhkmdgieflioaaDoorW.PrintLast Go.Proofs.YtdhkmdgieflioaaDoorW.PrintMore
attribute [local go_sem] max2_int min2_int max_two min_two max_three min_three max_four min_four
set_option linter.unusedVariables false
set_option linter.unusedSimpArgs false
def seedcornref01_flag.f (a0 : Bool) : Option (Int) := if a0 = true then (some 1) else (some 0)
set_option maxHeartbeats 8000000 in
set_option maxRecDepth 100000 in
theorem seedcornref01_flag.calls (a0 : Bool) (r : Int) (w : World) (h : seedcornref01_flag.f a0 = some r) :
    Calls Tryd.prog 85 #[.bool a0] w fun e w' => e = .returned (.int .u32 r) ∧ Drawn0 w w' := by
  have H : (if a0 = true then (some 1) else (some 0)) = some r := h
  clear h
  by_cases c2 : a0 = true
  · subst c2
    have H1 : (some 1) = some r := by rw [if_pos rfl] at H; exact H
    clear H
    have H := H1
    clear H1
    obtain rfl := Option.some.inj H
    go_enter Tryd.func85, Tryd.ntmps85
    go_wp2
    go_ret
    exact ⟨by first | rfl | (simp; done) | (simp [*]; done), by repeat (first | exact Drawn0.refl _ | apply Drawn0.step)⟩
  · replace c2 := Bool.eq_false_iff.mpr c2
    subst c2
    have H1 : (some 0) = some r := by rw [if_neg (show ¬ (false = true) by decide)] at H; exact H
    clear H
    have H := H1
    clear H1
    obtain rfl := Option.some.inj H
    go_enter Tryd.func85, Tryd.ntmps85
    go_wp2
    go_ret
    exact ⟨by first | rfl | (simp; done) | (simp [*]; done), by repeat (first | exact Drawn0.refl _ | apply Drawn0.step)⟩
end Go.Proofs.YtdhkmdgieflioaaDoor.F
namespace Go.Proofs.YtdhkmdgieflioaaDoor.F
open Go.RowKit Go.Proofs.YtdhkmdgieflioaaDoorW.PrintWords Go.Proofs.YtdhkmdgieflioaaDoorW.PrintLast Go.Proofs.YtdhkmdgieflioaaDoorW.PrintMore
attribute [local go_sem] max2_int min2_int max_two min_two max_three min_three max_four min_four
set_option linter.unusedVariables false
set_option linter.unusedSimpArgs false
def seedcornref01_Bits.l0 : Nat → Int → List Int → Int → Option (List Int)
  | 0, _, _, _ => none
  | k + 1, x0, x3, x4 => if x4 < 32 then (if x3.length < 17592186044416 then (seedcornref01_Bits.l0 k ((Int.tdiv x0 2) % 4294967296) (x3 ++ [wrap64 (Int.tmod x0 2)]) (wrap64 (x4 + 1))) else (none)) else (some x3)
def seedcornref01_Bits.f (k : Nat) (a0 : Int) : Option (List Int) := seedcornref01_Bits.l0 k a0 ([] : List Int) 0
theorem seedcornref01_Bits.mono_l : ∀ k, (∀ y0 y1 y2, LeO (seedcornref01_Bits.l0 k y0 y1 y2) (seedcornref01_Bits.l0 (k + 1) y0 y1 y2))
  | 0 => fun _ _ _ r h => by simp [seedcornref01_Bits.l0] at h
  | k + 1 => by
    have ih0 := seedcornref01_Bits.mono_l k
    · intro y0 y1 y2
      unfold seedcornref01_Bits.l0
      repeat' first
      | (with_reducible exact ih0 _ _ _)
      | (with_reducible exact LeO.refl _)
      | (with_reducible exact LeO.none _)
      | (with_reducible refine LeO.ite ?_ ?_)
      | (with_reducible refine LeO.bind ?_ (fun _ => ?_))
      | exact ih0 _ _ _
      | exact LeO.none _
      | refine LeO.ite ?_ ?_
      | refine LeO.bind ?_ (fun _ => ?_)
theorem seedcornref01_Bits.mono : ∀ a0 k, LeO (seedcornref01_Bits.f k a0) (seedcornref01_Bits.f (k + 1) a0) := by
  intro a0 k
  have ih0 := seedcornref01_Bits.mono_l k
  unfold seedcornref01_Bits.f
  repeat' first
      | (with_reducible exact ih0 _ _ _)
      | (with_reducible exact LeO.refl _)
      | (with_reducible exact LeO.none _)
      | (with_reducible refine LeO.ite ?_ ?_)
      | (with_reducible refine LeO.bind ?_ (fun _ => ?_))
      | exact ih0 _ _ _
      | exact LeO.none _
      | refine LeO.ite ?_ ?_
      | refine LeO.bind ?_ (fun _ => ?_)
set_option maxHeartbeats 8000000 in
set_option maxRecDepth 100000 in
theorem seedcornref01_Bits.calls (k : Nat) (a0 : Int) (r : List Int) (w : World) (h : seedcornref01_Bits.f k a0 = some r) :
    Calls Tryd.prog 105 #[.int .u32 a0] w fun e w' => ∃ v0_ : Value, e = .returned (v0_) ∧ Kd.R (Kd.int .i64) 3 w' w.heap.size (fun _ => True) v0_ r ∧ Below w.heap.size w w' := by
  have HB := Aside0.mk (Below.refl w.heap.size w)
  have H : (seedcornref01_Bits.l0 k a0 ([] : List Int) 0) = some r := h
  clear h
  have H' := Aside0.mk H
  clear H
  go_enter Tryd.func105, Tryd.ntmps105
  go_wp2
  go_loopg [0, 3, 4] k (fun kq v0 v3 v4 w' => ∃ (x0_1 : Int) (x3_1 : List Int) (x4_1 : Int), v0 = .int .u32 x0_1 ∧ v4 = .int .i64 x4_1 ∧ Aside0 (seedcornref01_Bits.l0 kq x0_1 x3_1 x4_1 = some r) ∧ Aside0 (kq ≤ k) ∧ Aside0 (Kd.R (Kd.int .i64) 3 w' w.heap.size (fun _ => True) v3 x3_1) ∧ Aside0 (Below w.heap.size w w'))
  case atStart => exact ⟨(a0), (([] : List Int)), (0), (by first | rfl | (simp; done) | (simp [*]; done)), (by first | rfl | (simp; done) | (simp [*]; done)), H', ⟨Nat.le_refl _⟩, ⟨by first | exact Kd.R_nil _ _ _ _ _ | exact Kd.N_nil _ _ _ _ _ | exact Kd.V_nil _ _ _ _ _ | exact Kd.Q_nil _ _ _ _ _ | exact Kd.S_nil _ _ _ _ _⟩, ⟨by repeat (first | (with_reducible first | exact HB.out | apply below_alloc | apply pw_below_drewN | apply below_drew1) | exact HB.out)⟩⟩
  case round =>
    clear H'
    try clear c1
    obtain ⟨x0_1, x3_1, x4_1, rfl, rfl, HA, HK1, HO_3, HB⟩ := hrel
    cases gk with
    | zero => exact absurd HA.out (by simp [seedcornref01_Bits.l0])
    | succ k1 =>
      have H := HA.out
      clear HA
      simp only [seedcornref01_Bits.l0] at H
      by_cases c2 : x4_1 < 32
      · rw [if_pos c2] at H
        have c2b0 : decide (x4_1 < 32) = true := decide_eq_true c2
        clear c2
        by_cases c3 : x3_1.length < 17592186044416
        · rw [if_pos c3] at H
          have LMc3 := Aside0.mk c3
          clear c3
          obtain ⟨y129, hy129⟩ : ∃ y_ : List Int, y_ = (x3_1 ++ [wrap64 (Int.tmod x0_1 2)]) := ⟨_, rfl⟩
          replace H : (seedcornref01_Bits.l0 k1 ((Int.tdiv x0_1 2) % 4294967296) y129 (wrap64 (x4_1 + 1))) = some r := by first | (rw [hy129]; with_reducible exact H) | (have H2_ := (Option.bind_some _ _).symm.trans H; rw [hy129]; with_reducible exact H2_) | (have H2_ := (Option.bind_some _ _).symm.trans H; with_reducible exact H2_) | with_reducible exact H | (rw [hy129]; exact H) | exact H
          have Ny129 := Aside0.mk hy129
          clear hy129
          have H' := Aside0.mk H
          clear H
          go_wp2_with (first | ((with_reducible refine gate_builtin (b := .append) (xs := #[.tmp 9, .tmp 13]) rfl ?_); at_builtin; refine Kd.R_append (Kd.int .i64) (w0 := w) w.heap.size rfl (.tmp 9) (.tmp 13) 42 3 (.int .i64 0) 8 rfl Tryd.underlying42 info3 rfl (by decide) (by omega) u3 x3_1 (wrap64 (Int.tmod x0_1 2)) [.int .i64 (wrap64 (Int.tmod x0_1 2))] (fun _ => True) (fun _ => False) rfl rfl ?aP (fun _ hk => hk.elim) ?aF ?aO ?aB ?aS ?aL ?_; (case aP => exact rfl); (case aB => exact (by repeat (first | (with_reducible first | exact HB.out | apply below_alloc | apply pw_below_drewN | apply below_drew1) | exact HB.out))); (case aF => exact (fun _ _ => trivial)); (case aO => exact (by (with_reducible repeat (first | apply Kd.R_alloc | apply Kd.R_drewN | apply Kd.R_drew)); exact HO_3.out)); (case aS => exact (below_size (by repeat (first | (with_reducible first | exact HB.out | apply below_alloc | apply pw_below_drewN | apply below_drew1) | exact HB.out)))); (case aL => have := LMc3.out; omega); intro v130 w4 ho hb hg hat; rw [← Ny129.out] at ho; have n0_ := Aside0.mk (hb); have n1_ := Aside0.mk (ho); clear HB; clear HO_3; have HB := n0_; have HO131 := n1_; clear n0_ n1_; clear ho hb hg hat))
          go_roundg k1
          case measure => have := HK1.out; omega
          case rel => exact ⟨((Int.tdiv x0_1 2) % 4294967296), (y129), (wrap64 (x4_1 + 1)), (by first | rfl | (simp; done) | (simp [*]; done)), (by first | rfl | (simp; done) | (simp [*]; done)), H', ⟨by have := HK1.out; omega⟩, ⟨by (with_reducible repeat (first | apply Kd.R_alloc | apply Kd.R_drewN | apply Kd.R_drew)); exact HO131.out⟩, ⟨by repeat (first | (with_reducible first | exact HB.out | apply below_alloc | apply pw_below_drewN | apply below_drew1) | exact HB.out)⟩⟩
        · rw [if_neg c3] at H
          exact absurd H (by simp)
      · rw [if_neg c2] at H
        have c2b0 : decide (x4_1 < 32) = false := decide_eq_false c2
        clear c2
        obtain rfl := Option.some.inj H
        go_wp2
        go_ret
        exact ⟨_, by first | rfl | (simp [errW_none, errW_some] <;> rfl) | (simp [*, errW_none, errW_some] <;> rfl), by (with_reducible repeat (first | apply Kd.R_alloc | apply Kd.R_drewN | apply Kd.R_drew)); exact HO_3.out, by repeat (first | (with_reducible first | exact HB.out | apply below_alloc | apply pw_below_drewN | apply below_drew1) | exact HB.out)⟩
end Go.Proofs.YtdhkmdgieflioaaDoor.F
namespace Go.Proofs.YtdhkmdgieflioaaDoor.F
open Go.RowKit Go.Proofs.YtdhkmdgieflioaaDoorW.PrintWords Go.Proofs.YtdhkmdgieflioaaDoorW.PrintLast Go.Proofs.YtdhkmdgieflioaaDoorW.PrintMore
attribute [local go_sem] max2_int min2_int max_two min_two max_three min_three max_four min_four
set_option linter.unusedVariables false
set_option linter.unusedSimpArgs false
def seedcornref01_Of.l0 : Nat → List Int → Int → Int → Option (Int)
  | 0, _, _, _ => none
  | k + 1, x0, x3, x4 => if x4 ≥ 0 then (if 0 ≤ x4 then (if x4 < (x0.length : Int) then (seedcornref01_Of.l0 k x0 (IntKind.u64.wrap ((IntKind.u64.wrap (2 * x3)) + (IntKind.u64.wrap (rd x0 x4)))) (wrap64 (x4 - 1))) else (none)) else (none)) else (some ((Int.tmod x3 4294967296) % 4294967296))
def seedcornref01_Of.f (k : Nat) (l0 : List Int) : Option (Int) := seedcornref01_Of.l0 k l0 0 (wrap64 ((l0.length : Int) - 1))
theorem seedcornref01_Of.mono_l : ∀ k, (∀ y0 y1 y2, LeO (seedcornref01_Of.l0 k y0 y1 y2) (seedcornref01_Of.l0 (k + 1) y0 y1 y2))
  | 0 => fun _ _ _ r h => by simp [seedcornref01_Of.l0] at h
  | k + 1 => by
    have ih0 := seedcornref01_Of.mono_l k
    · intro y0 y1 y2
      unfold seedcornref01_Of.l0
      repeat' first
      | (with_reducible exact ih0 _ _ _)
      | (with_reducible exact LeO.refl _)
      | (with_reducible exact LeO.none _)
      | (with_reducible refine LeO.ite ?_ ?_)
      | (with_reducible refine LeO.bind ?_ (fun _ => ?_))
      | exact ih0 _ _ _
      | exact LeO.none _
      | refine LeO.ite ?_ ?_
      | refine LeO.bind ?_ (fun _ => ?_)
theorem seedcornref01_Of.mono : ∀ a0 k, LeO (seedcornref01_Of.f k a0) (seedcornref01_Of.f (k + 1) a0) := by
  intro a0 k
  have ih0 := seedcornref01_Of.mono_l k
  unfold seedcornref01_Of.f
  repeat' first
      | (with_reducible exact ih0 _ _ _)
      | (with_reducible exact LeO.refl _)
      | (with_reducible exact LeO.none _)
      | (with_reducible refine LeO.ite ?_ ?_)
      | (with_reducible refine LeO.bind ?_ (fun _ => ?_))
      | exact ih0 _ _ _
      | exact LeO.none _
      | refine LeO.ite ?_ ?_
      | refine LeO.bind ?_ (fun _ => ?_)
set_option maxHeartbeats 8000000 in
set_option maxRecDepth 100000 in
theorem seedcornref01_Of.calls (k : Nat) (A0 : Option Addr) (c0 : Nat) (l0 : List Int) (r : Int) (w : World) (hr0 : Kd.C (Kd.int .i64) w A0 l0.length l0) (hc0 : l0.length ≤ c0) (h : seedcornref01_Of.f k l0 = some r) :
    Calls Tryd.prog 106 #[.slice A0 l0.length c0] w fun e w' => e = .returned (.int .u32 r) ∧ Drawn0 w w' := by
  have HR0 := Aside0.mk hr0
  have HC0 := Aside0.mk hc0
  clear hr0 hc0
  have H : (seedcornref01_Of.l0 k l0 0 (wrap64 ((l0.length : Int) - 1))) = some r := h
  clear h
  have H' := Aside0.mk H
  clear H
  go_enter Tryd.func106, Tryd.ntmps106
  go_wp2
  go_loopg [3, 4] k (fun kq v3 v4 w' => ∃ (x3_1 : Int) (x4_1 : Int), v3 = .int .u64 x3_1 ∧ v4 = .int .i64 x4_1 ∧ Aside0 (seedcornref01_Of.l0 kq l0 x3_1 x4_1 = some r) ∧ Aside0 (kq ≤ k) ∧ Drawn0 w w')
  case atStart => exact ⟨(0), (wrap64 ((l0.length : Int) - 1)), (by first | rfl | (simp; done) | (simp [*]; done)), (by first | rfl | (simp; done) | (simp [*]; done)), H', ⟨Nat.le_refl _⟩, by repeat (first | exact Drawn0.refl _ | apply Drawn0.step)⟩
  case round =>
    clear H'
    try clear c1
    obtain ⟨x3_1, x4_1, rfl, rfl, HA, HK1, ⟨m1, rfl⟩⟩ := hrel
    cases gk with
    | zero => exact absurd HA.out (by simp [seedcornref01_Of.l0])
    | succ k1 =>
      have H := HA.out
      clear HA
      simp only [seedcornref01_Of.l0] at H
      by_cases c2 : x4_1 ≥ 0
      · rw [if_pos c2] at H
        have c2b0 : decide (0 ≤ x4_1) = true := decide_eq_true c2
        clear c2
        by_cases c3 : 0 ≤ x4_1
        · rw [if_pos c3] at H
          have c3b0 : decide (0 ≤ x4_1) = true := decide_eq_true c3
          clear c3
          by_cases c4 : x4_1 < (l0.length : Int)
          · rw [if_pos c4] at H
            have c4b0 : decide (x4_1 < (l0.length : Int)) = true := decide_eq_true c4
            clear c4
            have H' := Aside0.mk H
            clear H
            have p132 : 0 ≤ (x4_1 : Int) := of_decide_eq_true (by first | (with_reducible assumption) | assumption)
            have q132 : x4_1 < (l0.length : Int) := of_decide_eq_true (by first | (with_reducible assumption) | assumption)
            obtain ⟨ad132, e132, hx132_0⟩ := Kd.at_int HR0.out x4_1 p132 q132
            cases e132
            replace p132 := eq_true p132
            replace q132 := eq_true q132
            go_wp2
            go_roundg k1
            case measure => have := HK1.out; omega
            case rel => exact ⟨(IntKind.u64.wrap ((IntKind.u64.wrap (2 * x3_1)) + (IntKind.u64.wrap (rd l0 x4_1)))), (wrap64 (x4_1 - 1)), (by first | rfl | (simp; done) | (simp [*]; done)), (by first | rfl | (simp; done) | (simp [*]; done)), H', ⟨by have := HK1.out; omega⟩, by repeat (first | exact Drawn0.refl _ | apply Drawn0.step)⟩
          · rw [if_neg c4] at H
            exact absurd H (by simp)
        · rw [if_neg c3] at H
          exact absurd H (by simp)
      · rw [if_neg c2] at H
        have c2b0 : decide (0 ≤ x4_1) = false := decide_eq_false c2
        clear c2
        obtain rfl := Option.some.inj H
        go_wp2
        go_ret
        exact ⟨by first | rfl | (simp; done) | (simp [*]; done), by repeat (first | exact Drawn0.refl _ | apply Drawn0.step)⟩
end Go.Proofs.YtdhkmdgieflioaaDoor.F
namespace Go.Proofs.YtdhkmdgieflioaaDoor.F
open Go.RowKit Go.Proofs.YtdhkmdgieflioaaDoorW.PrintWords Go.Proofs.YtdhkmdgieflioaaDoorW.PrintLast Go.Proofs.YtdhkmdgieflioaaDoorW.PrintMore
set_option linter.unusedVariables false
set_option linter.unusedSimpArgs false
theorem grown_set (W : World) (go i : Nat) (u : Value) : W.grownBy (W.setCell ⟨go, i, none⟩ u) (some go) :=
  ⟨rfl, rfl, rfl, by simp [World.setCell], fun k _ hk => Below.heap_setCell W ⟨go, i, none⟩ u k (fun e => hk (congrArg some e))⟩
def both1 (op x y : Int) : Int := if (wrap64 (x + y) = 2 ∧ op ≠ 11) ∨ (wrap64 (x + y) = 1 ∧ op ≠ 9) then 1 else 0
def both.l0 : Nat → Int → List Int → List Int → Nat → List Int
  | 0, _, xs, _, _ => xs
  | k + 1, op, xs, ys, i => both.l0 k op (xs.set i (both1 op (rd xs i) (rd ys i))) ys (i + 1)
def seedcornref01_both.f (a0 : Int) (a1 : Int) (a2 : Int) : Option Int :=
  (seedcornref01_Bits.f 40 a1).bind fun xs => (seedcornref01_Bits.f 40 a2).bind fun ys => if xs.length = 32 ∧ ys.length = 32 then seedcornref01_Of.f 40 (both.l0 32 a0 xs ys 0) else none
set_option maxHeartbeats 8000000 in
set_option maxRecDepth 100000 in
theorem seedcornref01_both.calls (a0 : Int) (a1 : Int) (a2 : Int) (r : Int) (w : World) (h : seedcornref01_both.f a0 a1 a2 = some r) :
    Calls Tryd.prog 83 #[.int .i64 a0, .int .u32 a1, .int .u32 a2] w fun e w' => e = .returned (.int .u32 r) ∧ Below w.heap.size w w' := by
  unfold seedcornref01_both.f at h
  obtain ⟨t1, h1, h⟩ := Option.bind_eq_some_iff.mp h
  obtain ⟨ys, h2, h⟩ := Option.bind_eq_some_iff.mp h
  by_cases hl : t1.length = 32 ∧ ys.length = 32
  · rw [if_pos hl] at h
    obtain ⟨fin, hfin⟩ : ∃ fin, fin = both.l0 32 a0 t1 ys 0 := ⟨_, rfl⟩
    rw [← hfin] at h
    have HF := Aside0.mk hfin
    have HH := Aside0.mk h
    have H1 := Aside0.mk h1
    have H2 := Aside0.mk h2
    have HL1 := Aside0.mk hl.1
    have HL2 := Aside0.mk hl.2
    clear hfin h h1 h2 hl
    have HB := Aside0.mk (Below.refl w.heap.size w)
    go_enter Tryd.func83, Tryd.ntmps83
    go_wp2_with (first | (go_at_call 105; (with_reducible refine (seedcornref01_Bits.calls 40 a1 t1 _ H1.out).mono ?_); rintro e w6 ⟨v1, rfl, ho0, hb⟩; have n0_ := Aside0.mk (Kd.R_lower ho0 (below_size HB.out)); have n1_ := Aside0.mk (below_step HB.out hb); clear HB; have HO7 := n0_; have HB := n1_; clear n0_ n1_ hb ho0) | (go_at_call 105; (with_reducible refine (seedcornref01_Bits.calls 40 a2 ys _ H2.out).mono ?_); rintro e w7 ⟨v2, rfl, ho0, hb⟩; have n0_ := Aside0.mk (Kd.R_elder' HO7.out (Kd.R_base ho0) hb); have n1_ := Aside0.mk (Kd.R_lower (Kd.R_new' ho0 (Kd.R_lt HO7.out)) (below_size HB.out)); have n2_ := Aside0.mk (below_step HB.out hb); clear HO7 HB; have HO7 := n0_; have HO8 := n1_; have HB := n2_; clear n0_ n1_ n2_ hb ho0))
    go_loopg [9] 33 (fun kq v9 w' => ∃ (i : Nat) (xs : List Int), v9 = .int .i64 i ∧ Aside0 (kq + i = 33) ∧ Aside0 (i ≤ 32) ∧ Aside0 (xs.length = 32) ∧ Aside0 (both.l0 (kq - 1) a0 xs ys i = fin) ∧ Aside0 (Kd.R (Kd.int .i64) 3 w' w.heap.size (fun k_ => some k_ ≠ (v2 : Value).ownBlock) v1 xs) ∧ Aside0 (Kd.R (Kd.int .i64) 3 w' w.heap.size (fun k_ => some k_ ≠ (v1 : Value).ownBlock) v2 ys) ∧ Aside0 (Below w.heap.size w w'))
    case atStart => exact ⟨0, t1, rfl, ⟨rfl⟩, ⟨by omega⟩, HL1, ⟨HF.out.symm⟩, ⟨Kd.R_mono HO7.out (fun _ hk => hk.2)⟩, ⟨Kd.R_mono HO8.out (fun _ hk => hk.2)⟩, HB⟩
    case round =>
      clear HF
      obtain ⟨i, xs, rfl, HK1, HI, HL, HR, HO7, HO8, HB⟩ := hrel
      by_cases hi : i < 32
      · obtain ⟨m, hm⟩ : ∃ m, gk - 1 = m + 1 := ⟨gk - 2, by have := HK1.out; omega⟩
        have HK2 := Aside0.mk hm
        clear hm
        obtain ⟨go, co, eo, gb, gl, cl, HG⟩ := Kd.R_form HO7.out (by rw [HL.out]; omega)
        subst eo
        have GB := Aside0.mk gb
        have GG := Aside0.mk HG
        clear gb gl HG
        obtain ⟨Ao8, co8, eo8⟩ := Kd.R_slice HO8.out
        subst eo8
        obtain ⟨ad8, e8, hy8⟩ := Kd.at_int (Kd.R_reads' HO8.out).2.2 (i : Int) (by omega) (by rw [HL2.out]; omega)
        cases e8
        obtain ⟨hx12, hf12⟩ := Kd.R_celln 0 HO7.out (i : Int) (by omega) (by rw [HL.out]; omega)
        simp only [Int.toNat_natCast] at hy8 hx12 hf12
        replace hx12 : wr.cell? ⟨go, i, none⟩ = some (.int .i64 (rd xs i)) := hx12
        have q7 := eq_true (show (i : Int) < (xs.length : Int) by rw [HL.out]; omega)
        have q8 := eq_true (show (i : Int) < (ys.length : Int) by rw [HL2.out]; omega)
        have p7 : decide ((i : Int) < 32) = true := decide_eq_true (by omega)
        have p8 := eq_true (show 0 ≤ (i : Int) by omega)
        by_cases c2 : wrap64 (rd xs i + rd ys i) = 2
        · have c2p : (wrap64 (rd xs i + rd ys i) == 2) = true := beq_iff_eq.mpr c2
          have c2q : (wrap64 (rd xs i + rd ys i) != 2) = false := bne_eq_false_iff_eq.mpr c2
          have C2 := Aside0.mk c2
          by_cases c11 : a0 = 11
          · have c11p : (a0 == 11) = true := beq_iff_eq.mpr c11
            have c11q : (a0 != 11) = false := bne_eq_false_iff_eq.mpr c11
            have C11 := Aside0.mk c11
            have c1 : ¬ wrap64 (rd xs i + rd ys i) = 1 := by rw [c2]; decide
            have c1p : (wrap64 (rd xs i + rd ys i) == 1) = false := beq_eq_false_iff_ne.mpr c1
            have C1 := Aside0.mk c1
            clear c1 c2 c11
            go_wp2_with fail
            repeat (go_quiet (fail); try go_wp2_with fail)
            go_roundg (gk - 1)
            case measure => have := HK1.out; omega
            case rel =>
              refine ⟨i + 1, xs.set i 0, by go_num, ⟨by have := HK1.out; omega⟩, ⟨by omega⟩, ⟨by simp only [List.length_set]; exact HL.out⟩, ⟨?_⟩, ⟨?_⟩, ⟨?_⟩, ⟨?_⟩⟩
              · rw [← HR.out, HK2.out]
                simp only [both.l0, Nat.add_sub_cancel]
                refine congrArg (fun z => both.l0 m a0 z ys (i + 1)) ?_
                rw [show both1 a0 (rd xs i) (rd ys i) = 0 from if_neg (by simp [C1.out, C2.out, C11.out])]
                try rw [List.set_set]
              · (repeat (with_reducible first | apply Kd.R_drewN | apply Kd.R_drew)); refine (Kd.R_putg (enc := Value.int .i64) (h1 := fun _ => rfl) ?_ (i : Int) 0).1; (repeat (with_reducible first | apply Kd.R_drewN | apply Kd.R_drew)); exact HO7.out
              · (repeat (with_reducible first | apply Kd.R_drewN | apply Kd.R_drew)); refine Kd.R_mono (Kd.R_after (v := (.slice (some ⟨go, 0, none⟩) xs.length co)) (v1 := (.slice (some ⟨go, 0, none⟩) xs.length co)) (ok := (fun _ => True)) ?_ (grown_set _ go i _) (.inl rfl)) (fun _ hk => hk.2); (repeat (with_reducible first | apply Kd.R_drewN | apply Kd.R_drew)); exact Kd.R_mono HO8.out (fun _ hk => ⟨trivial, hk⟩)
              · repeat (first | (with_reducible exact HB.out) | (with_reducible apply pw_below_drewN) | (refine below_set ?_ GB.out))
          · have c11p : (a0 == 11) = false := beq_eq_false_iff_ne.mpr c11
            have c11q : (a0 != 11) = true := bne_iff_ne.mpr c11
            have C11 := Aside0.mk c11
            clear c2 c11
            go_wp2_with fail
            repeat (go_quiet (fail); try go_wp2_with fail)
            go_roundg (gk - 1)
            case measure => have := HK1.out; omega
            case rel =>
              refine ⟨i + 1, (xs.set i 0).set i 1, by go_num, ⟨by have := HK1.out; omega⟩, ⟨by omega⟩, ⟨by simp only [List.length_set]; exact HL.out⟩, ⟨?_⟩, ⟨?_⟩, ⟨?_⟩, ⟨?_⟩⟩
              · rw [← HR.out, HK2.out]
                simp only [both.l0, Nat.add_sub_cancel]
                refine congrArg (fun z => both.l0 m a0 z ys (i + 1)) ?_
                rw [show both1 a0 (rd xs i) (rd ys i) = 1 from if_pos (by simp [C2.out, C11.out])]
                try rw [List.set_set]
              · (repeat (with_reducible first | apply Kd.R_drewN | apply Kd.R_drew)); refine (Kd.R_putg (enc := Value.int .i64) (h1 := fun _ => rfl) ?_ (i : Int) 1).1; (repeat (with_reducible first | apply Kd.R_drewN | apply Kd.R_drew)); refine (Kd.R_putg (enc := Value.int .i64) (h1 := fun _ => rfl) ?_ (i : Int) 0).1; (repeat (with_reducible first | apply Kd.R_drewN | apply Kd.R_drew)); exact HO7.out
              · (repeat (with_reducible first | apply Kd.R_drewN | apply Kd.R_drew)); refine Kd.R_mono (Kd.R_after (v := (.slice (some ⟨go, 0, none⟩) xs.length co)) (v1 := (.slice (some ⟨go, 0, none⟩) xs.length co)) (ok := (fun _ => True)) ?_ (grown_set _ go i _) (.inl rfl)) (fun _ hk => hk.2); (repeat (with_reducible first | apply Kd.R_drewN | apply Kd.R_drew)); refine Kd.R_mono (Kd.R_after (v := (.slice (some ⟨go, 0, none⟩) xs.length co)) (v1 := (.slice (some ⟨go, 0, none⟩) xs.length co)) (ok := (fun _ => True)) ?_ (grown_set _ go i _) (.inl rfl)) (fun _ hk => hk); (repeat (with_reducible first | apply Kd.R_drewN | apply Kd.R_drew)); exact Kd.R_mono HO8.out (fun _ hk => ⟨trivial, hk⟩)
              · repeat (first | (with_reducible exact HB.out) | (with_reducible apply pw_below_drewN) | (refine below_set ?_ GB.out))
        · have c2p : (wrap64 (rd xs i + rd ys i) == 2) = false := beq_eq_false_iff_ne.mpr c2
          have c2q : (wrap64 (rd xs i + rd ys i) != 2) = true := bne_iff_ne.mpr c2
          have C2 := Aside0.mk c2
          by_cases c1 : wrap64 (rd xs i + rd ys i) = 1
          · have c1p : (wrap64 (rd xs i + rd ys i) == 1) = true := beq_iff_eq.mpr c1
            have c1q : (wrap64 (rd xs i + rd ys i) != 1) = false := bne_eq_false_iff_eq.mpr c1
            have C1 := Aside0.mk c1
            by_cases c9 : a0 = 9
            · have c9p : (a0 == 9) = true := beq_iff_eq.mpr c9
              have c9q : (a0 != 9) = false := bne_eq_false_iff_eq.mpr c9
              have C9 := Aside0.mk c9
              clear c2 c1 c9
              go_wp2_with fail
              repeat (go_quiet (fail); try go_wp2_with fail)
              go_roundg (gk - 1)
              case measure => have := HK1.out; omega
              case rel =>
                refine ⟨i + 1, xs.set i 0, by go_num, ⟨by have := HK1.out; omega⟩, ⟨by omega⟩, ⟨by simp only [List.length_set]; exact HL.out⟩, ⟨?_⟩, ⟨?_⟩, ⟨?_⟩, ⟨?_⟩⟩
                · rw [← HR.out, HK2.out]
                  simp only [both.l0, Nat.add_sub_cancel]
                  refine congrArg (fun z => both.l0 m a0 z ys (i + 1)) ?_
                  rw [show both1 a0 (rd xs i) (rd ys i) = 0 from if_neg (by simp [C2.out, C1.out, C9.out])]
                  try rw [List.set_set]
                · (repeat (with_reducible first | apply Kd.R_drewN | apply Kd.R_drew)); refine (Kd.R_putg (enc := Value.int .i64) (h1 := fun _ => rfl) ?_ (i : Int) 0).1; (repeat (with_reducible first | apply Kd.R_drewN | apply Kd.R_drew)); exact HO7.out
                · (repeat (with_reducible first | apply Kd.R_drewN | apply Kd.R_drew)); refine Kd.R_mono (Kd.R_after (v := (.slice (some ⟨go, 0, none⟩) xs.length co)) (v1 := (.slice (some ⟨go, 0, none⟩) xs.length co)) (ok := (fun _ => True)) ?_ (grown_set _ go i _) (.inl rfl)) (fun _ hk => hk.2); (repeat (with_reducible first | apply Kd.R_drewN | apply Kd.R_drew)); exact Kd.R_mono HO8.out (fun _ hk => ⟨trivial, hk⟩)
                · repeat (first | (with_reducible exact HB.out) | (with_reducible apply pw_below_drewN) | (refine below_set ?_ GB.out))
            · have c9p : (a0 == 9) = false := beq_eq_false_iff_ne.mpr c9
              have c9q : (a0 != 9) = true := bne_iff_ne.mpr c9
              have C9 := Aside0.mk c9
              clear c2 c1 c9
              go_wp2_with fail
              repeat (go_quiet (fail); try go_wp2_with fail)
              go_roundg (gk - 1)
              case measure => have := HK1.out; omega
              case rel =>
                refine ⟨i + 1, (xs.set i 0).set i 1, by go_num, ⟨by have := HK1.out; omega⟩, ⟨by omega⟩, ⟨by simp only [List.length_set]; exact HL.out⟩, ⟨?_⟩, ⟨?_⟩, ⟨?_⟩, ⟨?_⟩⟩
                · rw [← HR.out, HK2.out]
                  simp only [both.l0, Nat.add_sub_cancel]
                  refine congrArg (fun z => both.l0 m a0 z ys (i + 1)) ?_
                  rw [show both1 a0 (rd xs i) (rd ys i) = 1 from if_pos (by simp [C2.out, C1.out, C9.out])]
                  try rw [List.set_set]
                · (repeat (with_reducible first | apply Kd.R_drewN | apply Kd.R_drew)); refine (Kd.R_putg (enc := Value.int .i64) (h1 := fun _ => rfl) ?_ (i : Int) 1).1; (repeat (with_reducible first | apply Kd.R_drewN | apply Kd.R_drew)); refine (Kd.R_putg (enc := Value.int .i64) (h1 := fun _ => rfl) ?_ (i : Int) 0).1; (repeat (with_reducible first | apply Kd.R_drewN | apply Kd.R_drew)); exact HO7.out
                · (repeat (with_reducible first | apply Kd.R_drewN | apply Kd.R_drew)); refine Kd.R_mono (Kd.R_after (v := (.slice (some ⟨go, 0, none⟩) xs.length co)) (v1 := (.slice (some ⟨go, 0, none⟩) xs.length co)) (ok := (fun _ => True)) ?_ (grown_set _ go i _) (.inl rfl)) (fun _ hk => hk.2); (repeat (with_reducible first | apply Kd.R_drewN | apply Kd.R_drew)); refine Kd.R_mono (Kd.R_after (v := (.slice (some ⟨go, 0, none⟩) xs.length co)) (v1 := (.slice (some ⟨go, 0, none⟩) xs.length co)) (ok := (fun _ => True)) ?_ (grown_set _ go i _) (.inl rfl)) (fun _ hk => hk); (repeat (with_reducible first | apply Kd.R_drewN | apply Kd.R_drew)); exact Kd.R_mono HO8.out (fun _ hk => ⟨trivial, hk⟩)
                · repeat (first | (with_reducible exact HB.out) | (with_reducible apply pw_below_drewN) | (refine below_set ?_ GB.out))
          · have c1p : (wrap64 (rd xs i + rd ys i) == 1) = false := beq_eq_false_iff_ne.mpr c1
            have c1q : (wrap64 (rd xs i + rd ys i) != 1) = true := bne_iff_ne.mpr c1
            have C1 := Aside0.mk c1
            clear c2 c1
            go_wp2_with fail
            repeat (go_quiet (fail); try go_wp2_with fail)
            go_roundg (gk - 1)
            case measure => have := HK1.out; omega
            case rel =>
              refine ⟨i + 1, xs.set i 0, by go_num, ⟨by have := HK1.out; omega⟩, ⟨by omega⟩, ⟨by simp only [List.length_set]; exact HL.out⟩, ⟨?_⟩, ⟨?_⟩, ⟨?_⟩, ⟨?_⟩⟩
              · rw [← HR.out, HK2.out]
                simp only [both.l0, Nat.add_sub_cancel]
                refine congrArg (fun z => both.l0 m a0 z ys (i + 1)) ?_
                rw [show both1 a0 (rd xs i) (rd ys i) = 0 from if_neg (by simp [C2.out, C1.out])]
                try rw [List.set_set]
              · (repeat (with_reducible first | apply Kd.R_drewN | apply Kd.R_drew)); refine (Kd.R_putg (enc := Value.int .i64) (h1 := fun _ => rfl) ?_ (i : Int) 0).1; (repeat (with_reducible first | apply Kd.R_drewN | apply Kd.R_drew)); exact HO7.out
              · (repeat (with_reducible first | apply Kd.R_drewN | apply Kd.R_drew)); refine Kd.R_mono (Kd.R_after (v := (.slice (some ⟨go, 0, none⟩) xs.length co)) (v1 := (.slice (some ⟨go, 0, none⟩) xs.length co)) (ok := (fun _ => True)) ?_ (grown_set _ go i _) (.inl rfl)) (fun _ hk => hk.2); (repeat (with_reducible first | apply Kd.R_drewN | apply Kd.R_drew)); exact Kd.R_mono HO8.out (fun _ hk => ⟨trivial, hk⟩)
              · repeat (first | (with_reducible exact HB.out) | (with_reducible apply pw_below_drewN) | (refine below_set ?_ GB.out))
      · have h32 : i = 32 := by have h1 := HI.out; omega
        subst h32
        have hfx : xs = fin := by have h1 := HR.out; rw [show gk - 1 = 0 by have := HK1.out; omega] at h1; exact h1
        subst hfx
        obtain ⟨Ao, co, eo⟩ := Kd.R_slice HO7.out
        subst eo
        go_wp2_with (first | (go_at_call 106; (with_reducible refine (seedcornref01_Of.calls 40 _ _ xs r _ ?side1 ?side2 HH.out).mono ?_); (case side1 => exact (Kd.R_reads' HO7.out).2.2); (case side2 => exact (Kd.R_reads' HO7.out).2.1); rintro e w' ⟨rfl, ⟨nd, rfl⟩⟩))
        go_ret
        exact ⟨rfl, pw_below_drewN HB.out _⟩
  · rw [if_neg hl] at h
    cases h
end Go.Proofs.YtdhkmdgieflioaaDoor.F
