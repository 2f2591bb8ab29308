/- The law InstCounts of the program answers true at every input that its row speaks of; the package-level variables that it reads start as the program's own text lays them (the card ties them). Conditions: those of the given row and card alone. -/
import Derived.Test.YtdhkmdgieflioaaDoorCards
import Derived.Test.YtdhkmdgieflioaaDoorTie
import Derived.SevenTiedAt
import Derived.ProofKit
import Derived.Stop.Joined
import Derived.Test.YtdhkmdgieflioaaDoorRowInstCounts
import Derived.Test.YtdhkmdgieflioaaDoorI2
namespace Go.Proofs.YtdhkmdgieflioaaDoor
open Go.Proofs.YtdhkmdgieflioaaDoor.F
set_option linter.unusedVariables false
set_option linter.unusedSimpArgs false
open Go.ChangeShapes Go.WideShapes Go.ChangeAt Go.RowKit
namespace instCounts
theorem k1 : Rows.instCountsRow.wf (OpenSpec.ofChange Rows.instCountsSpec) = true := by kernel_rfl
theorem k4 : Tryd.f14.params.all (Tryd.prog.readableRec ·) = true := by kernel_rfl
theorem k5 : namedTie Tryd.prog Rows.instCountsRow.named Rows.instCountsSpec.vars = true := by kernel_rfl
theorem k10 : (Rows.instCountsRow.inPlace == Tryd.prog.inPlace 14) = true := by kernel_rfl
theorem k11 : (Rows.instCountsRow.unfollowed == Tryd.prog.unfollowed 14) = true := by kernel_rfl
theorem k12 : (Rows.instCountsRow.recurses == Tryd.prog.recurses 14) = true := by kernel_rfl
theorem k13 : (Rows.instCountsRow.named == Tryd.prog.varsNamed 14) = true := by kernel_rfl
theorem k14 : (Rows.instCountsRow.maps == (Tryd.f14.params.toList ++ Rows.instCountsSpec.plain.varTypes Tryd.prog).any (Tryd.prog.mapsRec ·)) = true := by kernel_rfl
theorem k15 : (Rows.instCountsRow.ifaces == (Tryd.f14.params.toList ++ Rows.instCountsSpec.plain.varTypes Tryd.prog).any (Tryd.prog.ifacesRec ·)) = true := by kernel_rfl
theorem k16 : (Rows.instCountsRow.mapsOut == Tryd.prog.mapsAmong Tryd.f14.resultTypes.toList) = true := by kernel_rfl
theorem k17 : (Rows.instCountsRow.loops == (Tryd.f14.params.toList ++ Rows.instCountsSpec.plain.varTypes Tryd.prog).any (Tryd.prog.loopsFrom ·)) = true := by kernel_rfl
theorem k18 : (Rows.instCountsRow.wideKeys == (Tryd.f14.params.toList ++ Rows.instCountsSpec.plain.varTypes Tryd.prog ++ Tryd.f14.resultTypes.toList).any (Tryd.prog.wideKeysFrom ·)) = true := by kernel_rfl
theorem k19 : Rows.instCountsSpec.vars.all (Tryd.prog.varReadable ·) = true := by kernel_rfl
theorem k20 : Tryd.f14.resultTypes.all (fun t => Tryd.prog.readableRec t && decide (t < Tryd.prog.types.size)) = true := by kernel_rfl
theorem k21 : (Rows.instCountsRow.ifacesOut == Tryd.f14.resultTypes.toList.any (Tryd.prog.ifacesRec ·)) = true := by kernel_rfl
theorem k22 : (Rows.instCountsRow.loopsOut == Tryd.f14.resultTypes.toList.any (Tryd.prog.loopsFrom ·)) = true := by kernel_rfl
theorem k29 : (Rows.instCountsRow.kinds == kindsOf Tryd.prog Tryd.f14 Rows.instCountsRow) = true := by kernel_rfl
theorem k30 : (Rows.instCountsRow.pinned == Rows.instCountsRow.pinnedBy) = true := by kernel_rfl
theorem k31 : (Rows.instCountsRow.veiled == (Tryd.f14.params.toList ++ Rows.instCountsSpec.plain.varTypes Tryd.prog ++ Tryd.f14.resultTypes.toList).any (Tryd.prog.veiledRec ·)) = true := by kernel_rfl
theorem k32 : Rows.instCountsRow.veiledFits Tryd.prog Tryd.f14.params.toList (Tryd.f14.params.toList ++ Rows.instCountsSpec.plain.varTypes Tryd.prog ++ Tryd.f14.resultTypes.toList) = true := by kernel_rfl
theorem kn : Tryd.prog.funcNamed Rows.instCountsRow.func = some 14 := by kernel_rfl
theorem ki : decide (Tryd.f14.isInstance Tryd.prog Rows.instCountsRow.origin Rows.instCountsRow.targs) = true := by kernel_rfl
theorem kg : Rows.instCountsRow.goesBy Tryd.prog = false := by kernel_rfl
theorem kw : Rows.instCountsRow.wfByText (OpenSpec.ofChange Rows.instCountsSpec) = true := by kernel_rfl
theorem kp : (Check.packageOf Tryd.f14.name == "main") = false := by kernel_rfl
theorem k6 : (Rows.instCountsRow.stops == []) = true := by kernel_rfl
theorem k8 : (Rows.instCountsRow.knobs == []) = true := by kernel_rfl
theorem k24 : Rows.instCountsRow.shortTexts.isNone = true := by kernel_rfl
theorem k23 : (Rows.instCountsRow.plainKeys == Tryd.prog.plainKeys) = true := by kernel_rfl
theorem k27 : (Rows.instCountsRow.lifted == Tryd.prog.liftsFinal) = true := by
  rw [lifts_final]
  kernel_rfl
theorem k28 : (Tryd.prog.make == some Rows.instCountsRow.make) = true := by
  rw [make_cut]
  kernel_rfl
theorem closed : joinedFacts Tryd.prog 14 Tryd.f14 Rows.instCountsSpec Rows.instCountsRow = true :=
  joined_of k1 p_laid p_rowed k4 k5 k6 p_stops k8 p_knobs k10 k11 k12 k13 k14 k15 k16 k17 k18 k19 k20 k21 k22 k23 k24 p_heard may_enter k27 k28 k29 k30 k31 k32
theorem wrap : Tryd.f14.isWrapper Tryd.prog Rows.instCountsRow.wrapper Rows.instCountsRow.mainSum := by
  unfold Func.isWrapper
  rw [if_neg (by have h := kp; simpa using h)]
  exact ⟨rfl, rfl⟩
theorem over : Rows.instCountsRow.holds Tryd.pinned (OpenSpec.ofChange Rows.instCountsSpec) :=
  OpenClaim.holds_of_wide 14 Tryd.f14 rfl rfl rfl rfl rfl rfl rfl ⟨rfl, rfl, rfl, rfl, rfl⟩ rfl rfl rfl rfl rfl kn Tryd.func14 closed (of_decide_eq_true ki) wrap
    (fun os started H enc _ => lifted os started H enc)
theorem card : Rows.InstCountsCardSaid :=
  Claim7.holds_tied_plain_at .later [] [.data, .data, .data, .data] true (true, "32f7f7aec7448378b47f94c14a021b7dc57130e43b4450819b795863dbcbff87") false
    over (fun _ h => by cases h) kw (fun _ h => by cases h) instCounts_row_tie rfl ⟨rfl, rfl⟩ main_sum rfl
    (fun f fn hf hfn => by
      obtain rfl : f = 14 := Option.some.inj (kn.symm.trans hf) |>.symm
      obtain rfl : fn = Tryd.f14 := (Option.some.inj (Tryd.func14.symm.trans hfn)).symm
      exact ⟨p_looks.symm, fun j t ht => by
        rw [Tryd.params14] at ht
        have hm : t ∈ [3] := by simpa using Array.mem_of_getElem? ht
        have hall : ([3].all fun u => !Tryd.prog.wantsStandIn u) = true := by kernel_rfl
        exact (show Tryd.prog.wantsStandIn t = false by simpa using List.all_eq_true.1 hall t hm)⟩)
    kg.symm
end instCounts
theorem instCounts_holds : Rows.InstCountsCardSaid := instCounts.card
#print axioms instCounts_holds
end Go.Proofs.YtdhkmdgieflioaaDoor
