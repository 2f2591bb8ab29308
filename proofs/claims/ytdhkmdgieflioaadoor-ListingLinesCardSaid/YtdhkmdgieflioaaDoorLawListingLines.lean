/- The law ListingLines of the program answers true at every input that its row speaks of; the package-level variables that it reads start as the program's own text lays them (the card ties them). Conditions: those of the given row and card alone. -/
import Derived.Test.YtdhkmdgieflioaaDoorCards
import Derived.Test.YtdhkmdgieflioaaDoorTie
import Derived.SevenTiedAt
import Derived.ProofKit
import Derived.Stop.Joined
import Derived.Test.YtdhkmdgieflioaaDoorRowListingLines
import Derived.Test.YtdhkmdgieflioaaDoorM4
namespace Go.Proofs.YtdhkmdgieflioaaDoor
open Go.Proofs.YtdhkmdgieflioaaDoor.F
set_option linter.unusedVariables false
set_option linter.unusedSimpArgs false
open Go.ChangeShapes Go.WideShapes Go.ChangeAt Go.RowKit
namespace listingLines
theorem k1 : Rows.listingLinesRow.wf (OpenSpec.ofChange Rows.listingLinesSpec) = true := by kernel_rfl
theorem k4 : Tryd.f19.params.all (Tryd.prog.readableRec ·) = true := by kernel_rfl
theorem k5 : namedTie Tryd.prog Rows.listingLinesRow.named Rows.listingLinesSpec.vars = true := by kernel_rfl
theorem k10 : (Rows.listingLinesRow.inPlace == Tryd.prog.inPlace 19) = true := by kernel_rfl
theorem k11 : (Rows.listingLinesRow.unfollowed == Tryd.prog.unfollowed 19) = true := by kernel_rfl
theorem k12 : (Rows.listingLinesRow.recurses == Tryd.prog.recurses 19) = true := by kernel_rfl
theorem k13 : (Rows.listingLinesRow.named == Tryd.prog.varsNamed 19) = true := by kernel_rfl
theorem k14 : (Rows.listingLinesRow.maps == (Tryd.f19.params.toList ++ Rows.listingLinesSpec.plain.varTypes Tryd.prog).any (Tryd.prog.mapsRec ·)) = true := by kernel_rfl
theorem k15 : (Rows.listingLinesRow.ifaces == (Tryd.f19.params.toList ++ Rows.listingLinesSpec.plain.varTypes Tryd.prog).any (Tryd.prog.ifacesRec ·)) = true := by kernel_rfl
theorem k16 : (Rows.listingLinesRow.mapsOut == Tryd.prog.mapsAmong Tryd.f19.resultTypes.toList) = true := by kernel_rfl
theorem k17 : (Rows.listingLinesRow.loops == (Tryd.f19.params.toList ++ Rows.listingLinesSpec.plain.varTypes Tryd.prog).any (Tryd.prog.loopsFrom ·)) = true := by kernel_rfl
theorem k18 : (Rows.listingLinesRow.wideKeys == (Tryd.f19.params.toList ++ Rows.listingLinesSpec.plain.varTypes Tryd.prog ++ Tryd.f19.resultTypes.toList).any (Tryd.prog.wideKeysFrom ·)) = true := by kernel_rfl
theorem k19 : Rows.listingLinesSpec.vars.all (Tryd.prog.varReadable ·) = true := by kernel_rfl
theorem k20 : Tryd.f19.resultTypes.all (fun t => Tryd.prog.readableRec t && decide (t < Tryd.prog.types.size)) = true := by kernel_rfl
theorem k21 : (Rows.listingLinesRow.ifacesOut == Tryd.f19.resultTypes.toList.any (Tryd.prog.ifacesRec ·)) = true := by kernel_rfl
theorem k22 : (Rows.listingLinesRow.loopsOut == Tryd.f19.resultTypes.toList.any (Tryd.prog.loopsFrom ·)) = true := by kernel_rfl
theorem k29 : (Rows.listingLinesRow.kinds == kindsOf Tryd.prog Tryd.f19 Rows.listingLinesRow) = true := by kernel_rfl
theorem k30 : (Rows.listingLinesRow.pinned == Rows.listingLinesRow.pinnedBy) = true := by kernel_rfl
theorem k31 : (Rows.listingLinesRow.veiled == (Tryd.f19.params.toList ++ Rows.listingLinesSpec.plain.varTypes Tryd.prog ++ Tryd.f19.resultTypes.toList).any (Tryd.prog.veiledRec ·)) = true := by kernel_rfl
theorem k32 : Rows.listingLinesRow.veiledFits Tryd.prog Tryd.f19.params.toList (Tryd.f19.params.toList ++ Rows.listingLinesSpec.plain.varTypes Tryd.prog ++ Tryd.f19.resultTypes.toList) = true := by kernel_rfl
theorem kn : Tryd.prog.funcNamed Rows.listingLinesRow.func = some 19 := by kernel_rfl
theorem ki : decide (Tryd.f19.isInstance Tryd.prog Rows.listingLinesRow.origin Rows.listingLinesRow.targs) = true := by kernel_rfl
theorem kg : Rows.listingLinesRow.goesBy Tryd.prog = false := by kernel_rfl
theorem kw : Rows.listingLinesRow.wfByText (OpenSpec.ofChange Rows.listingLinesSpec) = true := by kernel_rfl
theorem kp : (Check.packageOf Tryd.f19.name == "main") = false := by kernel_rfl
theorem k6 : (Rows.listingLinesRow.stops == []) = true := by kernel_rfl
theorem k8 : (Rows.listingLinesRow.knobs == []) = true := by kernel_rfl
theorem k24 : Rows.listingLinesRow.shortTexts.isNone = true := by kernel_rfl
theorem k23 : (Rows.listingLinesRow.plainKeys == Tryd.prog.plainKeys) = true := by kernel_rfl
theorem k27 : (Rows.listingLinesRow.lifted == Tryd.prog.liftsFinal) = true := by
  rw [lifts_final]
  kernel_rfl
theorem k28 : (Tryd.prog.make == some Rows.listingLinesRow.make) = true := by
  rw [make_cut]
  kernel_rfl
theorem closed : joinedFacts Tryd.prog 19 Tryd.f19 Rows.listingLinesSpec Rows.listingLinesRow = true :=
  joined_of k1 p_laid p_rowed k4 k5 k6 p_stops k8 p_knobs k10 k11 k12 k13 k14 k15 k16 k17 k18 k19 k20 k21 k22 k23 k24 p_heard may_enter k27 k28 k29 k30 k31 k32
theorem wrap : Tryd.f19.isWrapper Tryd.prog Rows.listingLinesRow.wrapper Rows.listingLinesRow.mainSum := by
  unfold Func.isWrapper
  rw [if_neg (by have h := kp; simpa using h)]
  exact ⟨rfl, rfl⟩
theorem over : Rows.listingLinesRow.holds Tryd.pinned (OpenSpec.ofChange Rows.listingLinesSpec) :=
  OpenClaim.holds_of_wide 19 Tryd.f19 rfl rfl rfl rfl rfl rfl rfl ⟨rfl, rfl, rfl, rfl, rfl⟩ rfl rfl rfl rfl rfl kn Tryd.func19 closed (of_decide_eq_true ki) wrap
    (fun os started H enc _ => lifted os started H enc)
theorem card : Rows.ListingLinesCardSaid :=
  Claim7.holds_tied_plain_at .later [] [.data, .data, .data, .data] true (true, "32f7f7aec7448378b47f94c14a021b7dc57130e43b4450819b795863dbcbff87") false
    over (fun _ h => by cases h) kw (fun _ h => by cases h) listingLines_row_tie rfl ⟨rfl, rfl⟩ main_sum rfl
    (fun f fn hf hfn => by
      obtain rfl : f = 19 := Option.some.inj (kn.symm.trans hf) |>.symm
      obtain rfl : fn = Tryd.f19 := (Option.some.inj (Tryd.func19.symm.trans hfn)).symm
      exact ⟨p_looks.symm, fun j t ht => by
        rw [Tryd.params19] at ht
        have hm : t ∈ [28] := by simpa using Array.mem_of_getElem? ht
        have hall : ([28].all fun u => !Tryd.prog.wantsStandIn u) = true := by kernel_rfl
        exact (show Tryd.prog.wantsStandIn t = false by simpa using List.all_eq_true.1 hall t hm)⟩)
    kg.symm
end listingLines
theorem listingLines_holds : Rows.ListingLinesCardSaid := listingLines.card
#print axioms listingLines_holds
end Go.Proofs.YtdhkmdgieflioaaDoor
