/- The law ListingTargets of the program answers true at every input that its row speaks of; the package-level variables that it reads start as the program's own text lays them (the card ties them). Conditions: those of the given row and card alone. -/
import Derived.Test.YtdhkmdgieflioaaDoorCards
import Derived.Test.YtdhkmdgieflioaaDoorTie
import Derived.SevenTiedAt
import Derived.ProofKit
import Derived.Stop.Joined
import Derived.Test.YtdhkmdgieflioaaDoorRowListingTargets
import Derived.Test.YtdhkmdgieflioaaDoorL3
namespace Go.Proofs.YtdhkmdgieflioaaDoor
open Go.Proofs.YtdhkmdgieflioaaDoor.F
set_option linter.unusedVariables false
set_option linter.unusedSimpArgs false
open Go.ChangeShapes Go.WideShapes Go.ChangeAt Go.RowKit
namespace listingTargets
theorem k1 : Rows.listingTargetsRow.wf (OpenSpec.ofChange Rows.listingTargetsSpec) = true := by kernel_rfl
theorem k4 : Tryd.f17.params.all (Tryd.prog.readableRec ·) = true := by kernel_rfl
theorem k5 : namedTie Tryd.prog Rows.listingTargetsRow.named Rows.listingTargetsSpec.vars = true := by kernel_rfl
theorem k10 : (Rows.listingTargetsRow.inPlace == Tryd.prog.inPlace 17) = true := by kernel_rfl
theorem k11 : (Rows.listingTargetsRow.unfollowed == Tryd.prog.unfollowed 17) = true := by kernel_rfl
theorem k12 : (Rows.listingTargetsRow.recurses == Tryd.prog.recurses 17) = true := by kernel_rfl
theorem k13 : (Rows.listingTargetsRow.named == Tryd.prog.varsNamed 17) = true := by kernel_rfl
theorem k14 : (Rows.listingTargetsRow.maps == (Tryd.f17.params.toList ++ Rows.listingTargetsSpec.plain.varTypes Tryd.prog).any (Tryd.prog.mapsRec ·)) = true := by kernel_rfl
theorem k15 : (Rows.listingTargetsRow.ifaces == (Tryd.f17.params.toList ++ Rows.listingTargetsSpec.plain.varTypes Tryd.prog).any (Tryd.prog.ifacesRec ·)) = true := by kernel_rfl
theorem k16 : (Rows.listingTargetsRow.mapsOut == Tryd.prog.mapsAmong Tryd.f17.resultTypes.toList) = true := by kernel_rfl
theorem k17 : (Rows.listingTargetsRow.loops == (Tryd.f17.params.toList ++ Rows.listingTargetsSpec.plain.varTypes Tryd.prog).any (Tryd.prog.loopsFrom ·)) = true := by kernel_rfl
theorem k18 : (Rows.listingTargetsRow.wideKeys == (Tryd.f17.params.toList ++ Rows.listingTargetsSpec.plain.varTypes Tryd.prog ++ Tryd.f17.resultTypes.toList).any (Tryd.prog.wideKeysFrom ·)) = true := by kernel_rfl
theorem k19 : Rows.listingTargetsSpec.vars.all (Tryd.prog.varReadable ·) = true := by kernel_rfl
theorem k20 : Tryd.f17.resultTypes.all (fun t => Tryd.prog.readableRec t && decide (t < Tryd.prog.types.size)) = true := by kernel_rfl
theorem k21 : (Rows.listingTargetsRow.ifacesOut == Tryd.f17.resultTypes.toList.any (Tryd.prog.ifacesRec ·)) = true := by kernel_rfl
theorem k22 : (Rows.listingTargetsRow.loopsOut == Tryd.f17.resultTypes.toList.any (Tryd.prog.loopsFrom ·)) = true := by kernel_rfl
theorem k29 : (Rows.listingTargetsRow.kinds == kindsOf Tryd.prog Tryd.f17 Rows.listingTargetsRow) = true := by kernel_rfl
theorem k30 : (Rows.listingTargetsRow.pinned == Rows.listingTargetsRow.pinnedBy) = true := by kernel_rfl
theorem k31 : (Rows.listingTargetsRow.veiled == (Tryd.f17.params.toList ++ Rows.listingTargetsSpec.plain.varTypes Tryd.prog ++ Tryd.f17.resultTypes.toList).any (Tryd.prog.veiledRec ·)) = true := by kernel_rfl
theorem k32 : Rows.listingTargetsRow.veiledFits Tryd.prog Tryd.f17.params.toList (Tryd.f17.params.toList ++ Rows.listingTargetsSpec.plain.varTypes Tryd.prog ++ Tryd.f17.resultTypes.toList) = true := by kernel_rfl
theorem kn : Tryd.prog.funcNamed Rows.listingTargetsRow.func = some 17 := by kernel_rfl
theorem ki : decide (Tryd.f17.isInstance Tryd.prog Rows.listingTargetsRow.origin Rows.listingTargetsRow.targs) = true := by kernel_rfl
theorem kg : Rows.listingTargetsRow.goesBy Tryd.prog = false := by kernel_rfl
theorem kw : Rows.listingTargetsRow.wfByText (OpenSpec.ofChange Rows.listingTargetsSpec) = true := by kernel_rfl
theorem kp : (Check.packageOf Tryd.f17.name == "main") = false := by kernel_rfl
theorem k6 : (Rows.listingTargetsRow.stops == []) = true := by kernel_rfl
theorem k8 : (Rows.listingTargetsRow.knobs == []) = true := by kernel_rfl
theorem k24 : Rows.listingTargetsRow.shortTexts.isNone = true := by kernel_rfl
theorem k23 : (Rows.listingTargetsRow.plainKeys == Tryd.prog.plainKeys) = true := by kernel_rfl
theorem k27 : (Rows.listingTargetsRow.lifted == Tryd.prog.liftsFinal) = true := by
  rw [lifts_final]
  kernel_rfl
theorem k28 : (Tryd.prog.make == some Rows.listingTargetsRow.make) = true := by
  rw [make_cut]
  kernel_rfl
theorem closed : joinedFacts Tryd.prog 17 Tryd.f17 Rows.listingTargetsSpec Rows.listingTargetsRow = true :=
  joined_of k1 p_laid p_rowed k4 k5 k6 p_stops k8 p_knobs k10 k11 k12 k13 k14 k15 k16 k17 k18 k19 k20 k21 k22 k23 k24 p_heard may_enter k27 k28 k29 k30 k31 k32
theorem wrap : Tryd.f17.isWrapper Tryd.prog Rows.listingTargetsRow.wrapper Rows.listingTargetsRow.mainSum := by
  unfold Func.isWrapper
  rw [if_neg (by have h := kp; simpa using h)]
  exact ⟨rfl, rfl⟩
theorem over : Rows.listingTargetsRow.holds Tryd.pinned (OpenSpec.ofChange Rows.listingTargetsSpec) :=
  OpenClaim.holds_of_wide 17 Tryd.f17 rfl rfl rfl rfl rfl rfl rfl ⟨rfl, rfl, rfl, rfl, rfl⟩ rfl rfl rfl rfl rfl kn Tryd.func17 closed (of_decide_eq_true ki) wrap
    (fun os started H enc _ => lifted os started H enc)
theorem card : Rows.ListingTargetsCardSaid :=
  Claim7.holds_tied_plain_at .later [] [.data, .data, .data, .data] true (true, "32f7f7aec7448378b47f94c14a021b7dc57130e43b4450819b795863dbcbff87") false
    over (fun _ h => by cases h) kw (fun _ h => by cases h) listingTargets_row_tie rfl ⟨rfl, rfl⟩ main_sum rfl
    (fun f fn hf hfn => by
      obtain rfl : f = 17 := Option.some.inj (kn.symm.trans hf) |>.symm
      obtain rfl : fn = Tryd.f17 := (Option.some.inj (Tryd.func17.symm.trans hfn)).symm
      exact ⟨p_looks.symm, fun j t ht => by
        rw [Tryd.params17] at ht
        have hm : t ∈ [28] := by simpa using Array.mem_of_getElem? ht
        have hall : ([28].all fun u => !Tryd.prog.wantsStandIn u) = true := by kernel_rfl
        exact (show Tryd.prog.wantsStandIn t = false by simpa using List.all_eq_true.1 hall t hm)⟩)
    kg.symm
end listingTargets
theorem listingTargets_holds : Rows.ListingTargetsCardSaid := listingTargets.card
#print axioms listingTargets_holds
end Go.Proofs.YtdhkmdgieflioaaDoor
