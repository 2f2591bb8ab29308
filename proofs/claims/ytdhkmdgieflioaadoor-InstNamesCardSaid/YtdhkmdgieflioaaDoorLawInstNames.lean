/- The law InstNames of the program answers true at every input that its row speaks of; the package-level variables that it reads start as the program's own text lays them (the card ties them). Conditions: those of the given row and card alone. -/
import Derived.Test.YtdhkmdgieflioaaDoorCards
import Derived.Test.YtdhkmdgieflioaaDoorTie
import Derived.SevenTiedAt
import Derived.ProofKit
import Derived.Stop.Joined
import Derived.Test.YtdhkmdgieflioaaDoorRowInstNames
import Derived.Test.YtdhkmdgieflioaaDoorI2
namespace Go.Proofs.YtdhkmdgieflioaaDoor
open Go.Proofs.YtdhkmdgieflioaaDoor.F
set_option linter.unusedVariables false
set_option linter.unusedSimpArgs false
open Go.ChangeShapes Go.WideShapes Go.ChangeAt Go.RowKit
namespace instNames
theorem k1 : Rows.instNamesRow.wf (OpenSpec.ofChange Rows.instNamesSpec) = true := by kernel_rfl
theorem k4 : Tryd.f15.params.all (Tryd.prog.readableRec ·) = true := by kernel_rfl
theorem k5 : namedTie Tryd.prog Rows.instNamesRow.named Rows.instNamesSpec.vars = true := by kernel_rfl
theorem k10 : (Rows.instNamesRow.inPlace == Tryd.prog.inPlace 15) = true := by kernel_rfl
theorem k11 : (Rows.instNamesRow.unfollowed == Tryd.prog.unfollowed 15) = true := by kernel_rfl
theorem k12 : (Rows.instNamesRow.recurses == Tryd.prog.recurses 15) = true := by kernel_rfl
theorem k13 : (Rows.instNamesRow.named == Tryd.prog.varsNamed 15) = true := by kernel_rfl
theorem k14 : (Rows.instNamesRow.maps == (Tryd.f15.params.toList ++ Rows.instNamesSpec.plain.varTypes Tryd.prog).any (Tryd.prog.mapsRec ·)) = true := by kernel_rfl
theorem k15 : (Rows.instNamesRow.ifaces == (Tryd.f15.params.toList ++ Rows.instNamesSpec.plain.varTypes Tryd.prog).any (Tryd.prog.ifacesRec ·)) = true := by kernel_rfl
theorem k16 : (Rows.instNamesRow.mapsOut == Tryd.prog.mapsAmong Tryd.f15.resultTypes.toList) = true := by kernel_rfl
theorem k17 : (Rows.instNamesRow.loops == (Tryd.f15.params.toList ++ Rows.instNamesSpec.plain.varTypes Tryd.prog).any (Tryd.prog.loopsFrom ·)) = true := by kernel_rfl
theorem k18 : (Rows.instNamesRow.wideKeys == (Tryd.f15.params.toList ++ Rows.instNamesSpec.plain.varTypes Tryd.prog ++ Tryd.f15.resultTypes.toList).any (Tryd.prog.wideKeysFrom ·)) = true := by kernel_rfl
theorem k19 : Rows.instNamesSpec.vars.all (Tryd.prog.varReadable ·) = true := by kernel_rfl
theorem k20 : Tryd.f15.resultTypes.all (fun t => Tryd.prog.readableRec t && decide (t < Tryd.prog.types.size)) = true := by kernel_rfl
theorem k21 : (Rows.instNamesRow.ifacesOut == Tryd.f15.resultTypes.toList.any (Tryd.prog.ifacesRec ·)) = true := by kernel_rfl
theorem k22 : (Rows.instNamesRow.loopsOut == Tryd.f15.resultTypes.toList.any (Tryd.prog.loopsFrom ·)) = true := by kernel_rfl
theorem k29 : (Rows.instNamesRow.kinds == kindsOf Tryd.prog Tryd.f15 Rows.instNamesRow) = true := by kernel_rfl
theorem k30 : (Rows.instNamesRow.pinned == Rows.instNamesRow.pinnedBy) = true := by kernel_rfl
theorem k31 : (Rows.instNamesRow.veiled == (Tryd.f15.params.toList ++ Rows.instNamesSpec.plain.varTypes Tryd.prog ++ Tryd.f15.resultTypes.toList).any (Tryd.prog.veiledRec ·)) = true := by kernel_rfl
theorem k32 : Rows.instNamesRow.veiledFits Tryd.prog Tryd.f15.params.toList (Tryd.f15.params.toList ++ Rows.instNamesSpec.plain.varTypes Tryd.prog ++ Tryd.f15.resultTypes.toList) = true := by kernel_rfl
theorem kn : Tryd.prog.funcNamed Rows.instNamesRow.func = some 15 := by kernel_rfl
theorem ki : decide (Tryd.f15.isInstance Tryd.prog Rows.instNamesRow.origin Rows.instNamesRow.targs) = true := by kernel_rfl
theorem kg : Rows.instNamesRow.goesBy Tryd.prog = false := by kernel_rfl
theorem kw : Rows.instNamesRow.wfByText (OpenSpec.ofChange Rows.instNamesSpec) = true := by kernel_rfl
theorem kp : (Check.packageOf Tryd.f15.name == "main") = false := by kernel_rfl
theorem k6 : (Rows.instNamesRow.stops == []) = true := by kernel_rfl
theorem k8 : (Rows.instNamesRow.knobs == []) = true := by kernel_rfl
theorem k24 : Rows.instNamesRow.shortTexts.isNone = true := by kernel_rfl
theorem k23 : (Rows.instNamesRow.plainKeys == Tryd.prog.plainKeys) = true := by kernel_rfl
theorem k27 : (Rows.instNamesRow.lifted == Tryd.prog.liftsFinal) = true := by
  rw [lifts_final]
  kernel_rfl
theorem k28 : (Tryd.prog.make == some Rows.instNamesRow.make) = true := by
  rw [make_cut]
  kernel_rfl
theorem closed : joinedFacts Tryd.prog 15 Tryd.f15 Rows.instNamesSpec Rows.instNamesRow = true :=
  joined_of k1 p_laid p_rowed k4 k5 k6 p_stops k8 p_knobs k10 k11 k12 k13 k14 k15 k16 k17 k18 k19 k20 k21 k22 k23 k24 p_heard may_enter k27 k28 k29 k30 k31 k32
theorem wrap : Tryd.f15.isWrapper Tryd.prog Rows.instNamesRow.wrapper Rows.instNamesRow.mainSum := by
  unfold Func.isWrapper
  rw [if_neg (by have h := kp; simpa using h)]
  exact ⟨rfl, rfl⟩
theorem over : Rows.instNamesRow.holds Tryd.pinned (OpenSpec.ofChange Rows.instNamesSpec) :=
  OpenClaim.holds_of_wide 15 Tryd.f15 rfl rfl rfl rfl rfl rfl rfl ⟨rfl, rfl, rfl, rfl, rfl⟩ rfl rfl rfl rfl rfl kn Tryd.func15 closed (of_decide_eq_true ki) wrap
    (fun os started H enc _ => lifted os started H enc)
theorem card : Rows.InstNamesCardSaid :=
  Claim7.holds_tied_plain_at .later [] [.data, .data, .data, .data] true (true, "32f7f7aec7448378b47f94c14a021b7dc57130e43b4450819b795863dbcbff87") false
    over (fun _ h => by cases h) kw (fun _ h => by cases h) instNames_row_tie rfl ⟨rfl, rfl⟩ main_sum rfl
    (fun f fn hf hfn => by
      obtain rfl : f = 15 := Option.some.inj (kn.symm.trans hf) |>.symm
      obtain rfl : fn = Tryd.f15 := (Option.some.inj (Tryd.func15.symm.trans hfn)).symm
      exact ⟨p_looks.symm, fun j t ht => by
        rw [Tryd.params15] at ht
        have hm : t ∈ [3, 9] := by simpa using Array.mem_of_getElem? ht
        have hall : ([3, 9].all fun u => !Tryd.prog.wantsStandIn u) = true := by kernel_rfl
        exact (show Tryd.prog.wantsStandIn t = false by simpa using List.all_eq_true.1 hall t hm)⟩)
    kg.symm
end instNames
theorem instNames_holds : Rows.InstNamesCardSaid := instNames.card
#print axioms instNames_holds
end Go.Proofs.YtdhkmdgieflioaaDoor
