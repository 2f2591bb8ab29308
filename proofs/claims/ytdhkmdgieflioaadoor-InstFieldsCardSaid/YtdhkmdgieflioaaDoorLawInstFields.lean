/- The law InstFields of the program answers true at every input that its row speaks of; the package-level variables that it reads start as the program's own text lays them (the card ties them). Conditions: those of the given row and card alone. -/
import Derived.Test.YtdhkmdgieflioaaDoorCards
import Derived.Test.YtdhkmdgieflioaaDoorTie
import Derived.SevenTiedAt
import Derived.ProofKit
import Derived.Stop.Joined
import Derived.Test.YtdhkmdgieflioaaDoorRowInstFields
import Derived.Test.YtdhkmdgieflioaaDoorQ2
namespace Go.Proofs.YtdhkmdgieflioaaDoor
open Go.Proofs.YtdhkmdgieflioaaDoor.F
set_option linter.unusedVariables false
set_option linter.unusedSimpArgs false
open Go.ChangeShapes Go.WideShapes Go.ChangeAt Go.RowKit
namespace instFields
theorem k1 : Rows.instFieldsRow.wf (OpenSpec.ofChange Rows.instFieldsSpec) = true := by kernel_rfl
theorem k4 : Tryd.f13.params.all (Tryd.prog.readableRec ·) = true := by kernel_rfl
theorem k5 : namedTie Tryd.prog Rows.instFieldsRow.named Rows.instFieldsSpec.vars = true := by kernel_rfl
theorem k10 : (Rows.instFieldsRow.inPlace == Tryd.prog.inPlace 13) = true := by kernel_rfl
theorem k11 : (Rows.instFieldsRow.unfollowed == Tryd.prog.unfollowed 13) = true := by kernel_rfl
theorem k12 : (Rows.instFieldsRow.recurses == Tryd.prog.recurses 13) = true := by kernel_rfl
theorem k13 : (Rows.instFieldsRow.named == Tryd.prog.varsNamed 13) = true := by kernel_rfl
theorem k14 : (Rows.instFieldsRow.maps == (Tryd.f13.params.toList ++ Rows.instFieldsSpec.plain.varTypes Tryd.prog).any (Tryd.prog.mapsRec ·)) = true := by kernel_rfl
theorem k15 : (Rows.instFieldsRow.ifaces == (Tryd.f13.params.toList ++ Rows.instFieldsSpec.plain.varTypes Tryd.prog).any (Tryd.prog.ifacesRec ·)) = true := by kernel_rfl
theorem k16 : (Rows.instFieldsRow.mapsOut == Tryd.prog.mapsAmong Tryd.f13.resultTypes.toList) = true := by kernel_rfl
theorem k17 : (Rows.instFieldsRow.loops == (Tryd.f13.params.toList ++ Rows.instFieldsSpec.plain.varTypes Tryd.prog).any (Tryd.prog.loopsFrom ·)) = true := by kernel_rfl
theorem k18 : (Rows.instFieldsRow.wideKeys == (Tryd.f13.params.toList ++ Rows.instFieldsSpec.plain.varTypes Tryd.prog ++ Tryd.f13.resultTypes.toList).any (Tryd.prog.wideKeysFrom ·)) = true := by kernel_rfl
theorem k19 : Rows.instFieldsSpec.vars.all (Tryd.prog.varReadable ·) = true := by kernel_rfl
theorem k20 : Tryd.f13.resultTypes.all (fun t => Tryd.prog.readableRec t && decide (t < Tryd.prog.types.size)) = true := by kernel_rfl
theorem k21 : (Rows.instFieldsRow.ifacesOut == Tryd.f13.resultTypes.toList.any (Tryd.prog.ifacesRec ·)) = true := by kernel_rfl
theorem k22 : (Rows.instFieldsRow.loopsOut == Tryd.f13.resultTypes.toList.any (Tryd.prog.loopsFrom ·)) = true := by kernel_rfl
theorem k29 : (Rows.instFieldsRow.kinds == kindsOf Tryd.prog Tryd.f13 Rows.instFieldsRow) = true := by kernel_rfl
theorem k30 : (Rows.instFieldsRow.pinned == Rows.instFieldsRow.pinnedBy) = true := by kernel_rfl
theorem k31 : (Rows.instFieldsRow.veiled == (Tryd.f13.params.toList ++ Rows.instFieldsSpec.plain.varTypes Tryd.prog ++ Tryd.f13.resultTypes.toList).any (Tryd.prog.veiledRec ·)) = true := by kernel_rfl
theorem k32 : Rows.instFieldsRow.veiledFits Tryd.prog Tryd.f13.params.toList (Tryd.f13.params.toList ++ Rows.instFieldsSpec.plain.varTypes Tryd.prog ++ Tryd.f13.resultTypes.toList) = true := by kernel_rfl
theorem kn : Tryd.prog.funcNamed Rows.instFieldsRow.func = some 13 := by kernel_rfl
theorem ki : decide (Tryd.f13.isInstance Tryd.prog Rows.instFieldsRow.origin Rows.instFieldsRow.targs) = true := by kernel_rfl
theorem kg : Rows.instFieldsRow.goesBy Tryd.prog = false := by kernel_rfl
theorem kw : Rows.instFieldsRow.wfByText (OpenSpec.ofChange Rows.instFieldsSpec) = true := by kernel_rfl
theorem kp : (Check.packageOf Tryd.f13.name == "main") = false := by kernel_rfl
theorem k6 : (Rows.instFieldsRow.stops == []) = true := by kernel_rfl
theorem k8 : (Rows.instFieldsRow.knobs == []) = true := by kernel_rfl
theorem k24 : Rows.instFieldsRow.shortTexts.isNone = true := by kernel_rfl
theorem k23 : (Rows.instFieldsRow.plainKeys == Tryd.prog.plainKeys) = true := by kernel_rfl
theorem k27 : (Rows.instFieldsRow.lifted == Tryd.prog.liftsFinal) = true := by
  rw [lifts_final]
  kernel_rfl
theorem k28 : (Tryd.prog.make == some Rows.instFieldsRow.make) = true := by
  rw [make_cut]
  kernel_rfl
theorem closed : joinedFacts Tryd.prog 13 Tryd.f13 Rows.instFieldsSpec Rows.instFieldsRow = true :=
  joined_of k1 p_laid p_rowed k4 k5 k6 p_stops k8 p_knobs k10 k11 k12 k13 k14 k15 k16 k17 k18 k19 k20 k21 k22 k23 k24 p_heard may_enter k27 k28 k29 k30 k31 k32
theorem wrap : Tryd.f13.isWrapper Tryd.prog Rows.instFieldsRow.wrapper Rows.instFieldsRow.mainSum := by
  unfold Func.isWrapper
  rw [if_neg (by have h := kp; simpa using h)]
  exact ⟨rfl, rfl⟩
theorem over : Rows.instFieldsRow.holds Tryd.pinned (OpenSpec.ofChange Rows.instFieldsSpec) :=
  OpenClaim.holds_of_wide 13 Tryd.f13 rfl rfl rfl rfl rfl rfl rfl ⟨rfl, rfl, rfl, rfl, rfl⟩ rfl rfl rfl rfl rfl kn Tryd.func13 closed (of_decide_eq_true ki) wrap
    (fun os started H enc _ => lifted os started H enc)
theorem card : Rows.InstFieldsCardSaid :=
  Claim7.holds_tied_plain_at .later [] [.data, .data, .data, .data] true (true, "32f7f7aec7448378b47f94c14a021b7dc57130e43b4450819b795863dbcbff87") false
    over (fun _ h => by cases h) kw (fun _ h => by cases h) instFields_row_tie rfl ⟨rfl, rfl⟩ main_sum rfl
    (fun f fn hf hfn => by
      obtain rfl : f = 13 := Option.some.inj (kn.symm.trans hf) |>.symm
      obtain rfl : fn = Tryd.f13 := (Option.some.inj (Tryd.func13.symm.trans hfn)).symm
      exact ⟨p_looks.symm, fun j t ht => by
        rw [Tryd.params13] at ht
        have hm : t ∈ [47, 5] := by simpa using Array.mem_of_getElem? ht
        have hall : ([47, 5].all fun u => !Tryd.prog.wantsStandIn u) = true := by kernel_rfl
        exact (show Tryd.prog.wantsStandIn t = false by simpa using List.all_eq_true.1 hall t hm)⟩)
    kg.symm
end instFields
theorem instFields_holds : Rows.InstFieldsCardSaid := instFields.card
#print axioms instFields_holds
end Go.Proofs.YtdhkmdgieflioaaDoor
