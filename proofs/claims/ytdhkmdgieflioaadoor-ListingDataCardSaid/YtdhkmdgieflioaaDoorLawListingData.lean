/- The law ListingData of the program answers true at every input that its row speaks of; the package-level variables that it reads start as the program's own text lays them (the card ties them). Conditions: those of the given row and card alone. -/
import Derived.Test.YtdhkmdgieflioaaDoorCards
import Derived.Test.YtdhkmdgieflioaaDoorTie
import Derived.SevenTiedAt
import Derived.ProofKit
import Derived.Stop.Joined
import Derived.Test.YtdhkmdgieflioaaDoorRowListingData
import Derived.Test.YtdhkmdgieflioaaDoorL3
namespace Go.Proofs.YtdhkmdgieflioaaDoor
open Go.Proofs.YtdhkmdgieflioaaDoor.F
set_option linter.unusedVariables false
set_option linter.unusedSimpArgs false
open Go.ChangeShapes Go.WideShapes Go.ChangeAt Go.RowKit
namespace listingData
theorem k1 : Rows.listingDataRow.wf (OpenSpec.ofChange Rows.listingDataSpec) = true := by kernel_rfl
theorem k4 : Tryd.f10.params.all (Tryd.prog.readableRec ·) = true := by kernel_rfl
theorem k5 : namedTie Tryd.prog Rows.listingDataRow.named Rows.listingDataSpec.vars = true := by kernel_rfl
theorem k10 : (Rows.listingDataRow.inPlace == Tryd.prog.inPlace 10) = true := by kernel_rfl
theorem k11 : (Rows.listingDataRow.unfollowed == Tryd.prog.unfollowed 10) = true := by kernel_rfl
theorem k12 : (Rows.listingDataRow.recurses == Tryd.prog.recurses 10) = true := by kernel_rfl
theorem k13 : (Rows.listingDataRow.named == Tryd.prog.varsNamed 10) = true := by kernel_rfl
theorem k14 : (Rows.listingDataRow.maps == (Tryd.f10.params.toList ++ Rows.listingDataSpec.plain.varTypes Tryd.prog).any (Tryd.prog.mapsRec ·)) = true := by kernel_rfl
theorem k15 : (Rows.listingDataRow.ifaces == (Tryd.f10.params.toList ++ Rows.listingDataSpec.plain.varTypes Tryd.prog).any (Tryd.prog.ifacesRec ·)) = true := by kernel_rfl
theorem k16 : (Rows.listingDataRow.mapsOut == Tryd.prog.mapsAmong Tryd.f10.resultTypes.toList) = true := by kernel_rfl
theorem k17 : (Rows.listingDataRow.loops == (Tryd.f10.params.toList ++ Rows.listingDataSpec.plain.varTypes Tryd.prog).any (Tryd.prog.loopsFrom ·)) = true := by kernel_rfl
theorem k18 : (Rows.listingDataRow.wideKeys == (Tryd.f10.params.toList ++ Rows.listingDataSpec.plain.varTypes Tryd.prog ++ Tryd.f10.resultTypes.toList).any (Tryd.prog.wideKeysFrom ·)) = true := by kernel_rfl
theorem k19 : Rows.listingDataSpec.vars.all (Tryd.prog.varReadable ·) = true := by kernel_rfl
theorem k20 : Tryd.f10.resultTypes.all (fun t => Tryd.prog.readableRec t && decide (t < Tryd.prog.types.size)) = true := by kernel_rfl
theorem k21 : (Rows.listingDataRow.ifacesOut == Tryd.f10.resultTypes.toList.any (Tryd.prog.ifacesRec ·)) = true := by kernel_rfl
theorem k22 : (Rows.listingDataRow.loopsOut == Tryd.f10.resultTypes.toList.any (Tryd.prog.loopsFrom ·)) = true := by kernel_rfl
theorem k29 : (Rows.listingDataRow.kinds == kindsOf Tryd.prog Tryd.f10 Rows.listingDataRow) = true := by kernel_rfl
theorem k30 : (Rows.listingDataRow.pinned == Rows.listingDataRow.pinnedBy) = true := by kernel_rfl
theorem k31 : (Rows.listingDataRow.veiled == (Tryd.f10.params.toList ++ Rows.listingDataSpec.plain.varTypes Tryd.prog ++ Tryd.f10.resultTypes.toList).any (Tryd.prog.veiledRec ·)) = true := by kernel_rfl
theorem k32 : Rows.listingDataRow.veiledFits Tryd.prog Tryd.f10.params.toList (Tryd.f10.params.toList ++ Rows.listingDataSpec.plain.varTypes Tryd.prog ++ Tryd.f10.resultTypes.toList) = true := by kernel_rfl
theorem kn : Tryd.prog.funcNamed Rows.listingDataRow.func = some 10 := by kernel_rfl
theorem ki : decide (Tryd.f10.isInstance Tryd.prog Rows.listingDataRow.origin Rows.listingDataRow.targs) = true := by kernel_rfl
theorem kg : Rows.listingDataRow.goesBy Tryd.prog = false := by kernel_rfl
theorem kw : Rows.listingDataRow.wfByText (OpenSpec.ofChange Rows.listingDataSpec) = true := by kernel_rfl
theorem kp : (Check.packageOf Tryd.f10.name == "main") = false := by kernel_rfl
theorem k6 : (Rows.listingDataRow.stops == []) = true := by kernel_rfl
theorem k8 : (Rows.listingDataRow.knobs == []) = true := by kernel_rfl
theorem k24 : Rows.listingDataRow.shortTexts.isNone = true := by kernel_rfl
theorem k23 : (Rows.listingDataRow.plainKeys == Tryd.prog.plainKeys) = true := by kernel_rfl
theorem k27 : (Rows.listingDataRow.lifted == Tryd.prog.liftsFinal) = true := by
  rw [lifts_final]
  kernel_rfl
theorem k28 : (Tryd.prog.make == some Rows.listingDataRow.make) = true := by
  rw [make_cut]
  kernel_rfl
theorem closed : joinedFacts Tryd.prog 10 Tryd.f10 Rows.listingDataSpec Rows.listingDataRow = true :=
  joined_of k1 p_laid p_rowed k4 k5 k6 p_stops k8 p_knobs k10 k11 k12 k13 k14 k15 k16 k17 k18 k19 k20 k21 k22 k23 k24 p_heard may_enter k27 k28 k29 k30 k31 k32
theorem wrap : Tryd.f10.isWrapper Tryd.prog Rows.listingDataRow.wrapper Rows.listingDataRow.mainSum := by
  unfold Func.isWrapper
  rw [if_neg (by have h := kp; simpa using h)]
  exact ⟨rfl, rfl⟩
theorem over : Rows.listingDataRow.holds Tryd.pinned (OpenSpec.ofChange Rows.listingDataSpec) :=
  OpenClaim.holds_of_wide 10 Tryd.f10 rfl rfl rfl rfl rfl rfl rfl ⟨rfl, rfl, rfl, rfl, rfl⟩ rfl rfl rfl rfl rfl kn Tryd.func10 closed (of_decide_eq_true ki) wrap
    (fun os started H enc _ => lifted os started H enc)
theorem card : Rows.ListingDataCardSaid :=
  Claim7.holds_tied_plain_at .later [] [.data, .data, .data, .data] true (true, "32f7f7aec7448378b47f94c14a021b7dc57130e43b4450819b795863dbcbff87") false
    over (fun _ h => by cases h) kw (fun _ h => by cases h) listingData_row_tie rfl ⟨rfl, rfl⟩ main_sum rfl
    (fun f fn hf hfn => by
      obtain rfl : f = 10 := Option.some.inj (kn.symm.trans hf) |>.symm
      obtain rfl : fn = Tryd.f10 := (Option.some.inj (Tryd.func10.symm.trans hfn)).symm
      exact ⟨p_looks.symm, fun j t ht => by
        rw [Tryd.params10] at ht
        have hm : t ∈ [28, 54] := by simpa using Array.mem_of_getElem? ht
        have hall : ([28, 54].all fun u => !Tryd.prog.wantsStandIn u) = true := by kernel_rfl
        exact (show Tryd.prog.wantsStandIn t = false by simpa using List.all_eq_true.1 hall t hm)⟩)
    kg.symm
end listingData
theorem listingData_holds : Rows.ListingDataCardSaid := listingData.card
#print axioms listingData_holds
end Go.Proofs.YtdhkmdgieflioaaDoor
