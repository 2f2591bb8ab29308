/- The law ListingPlaces of the program answers true at every input that its row speaks of; the package-level variables that it reads start as the program's own text lays them (the card ties them). Conditions: those of the given row and card alone. -/
import Derived.Test.YtdhkmdgieflioaaDoorCards
import Derived.Test.YtdhkmdgieflioaaDoorTie
import Derived.SevenTiedAt
import Derived.ProofKit
import Derived.Stop.Joined
import Derived.Test.YtdhkmdgieflioaaDoorRowListingPlaces
import Derived.Test.YtdhkmdgieflioaaDoorL3
namespace Go.Proofs.YtdhkmdgieflioaaDoor
open Go.Proofs.YtdhkmdgieflioaaDoor.F
set_option linter.unusedVariables false
set_option linter.unusedSimpArgs false
open Go.ChangeShapes Go.WideShapes Go.ChangeAt Go.RowKit
namespace listingPlaces
theorem k1 : Rows.listingPlacesRow.wf (OpenSpec.ofChange Rows.listingPlacesSpec) = true := by kernel_rfl
theorem k4 : Tryd.f20.params.all (Tryd.prog.readableRec ·) = true := by kernel_rfl
theorem k5 : namedTie Tryd.prog Rows.listingPlacesRow.named Rows.listingPlacesSpec.vars = true := by kernel_rfl
theorem k10 : (Rows.listingPlacesRow.inPlace == Tryd.prog.inPlace 20) = true := by kernel_rfl
theorem k11 : (Rows.listingPlacesRow.unfollowed == Tryd.prog.unfollowed 20) = true := by kernel_rfl
theorem k12 : (Rows.listingPlacesRow.recurses == Tryd.prog.recurses 20) = true := by kernel_rfl
theorem k13 : (Rows.listingPlacesRow.named == Tryd.prog.varsNamed 20) = true := by kernel_rfl
theorem k14 : (Rows.listingPlacesRow.maps == (Tryd.f20.params.toList ++ Rows.listingPlacesSpec.plain.varTypes Tryd.prog).any (Tryd.prog.mapsRec ·)) = true := by kernel_rfl
theorem k15 : (Rows.listingPlacesRow.ifaces == (Tryd.f20.params.toList ++ Rows.listingPlacesSpec.plain.varTypes Tryd.prog).any (Tryd.prog.ifacesRec ·)) = true := by kernel_rfl
theorem k16 : (Rows.listingPlacesRow.mapsOut == Tryd.prog.mapsAmong Tryd.f20.resultTypes.toList) = true := by kernel_rfl
theorem k17 : (Rows.listingPlacesRow.loops == (Tryd.f20.params.toList ++ Rows.listingPlacesSpec.plain.varTypes Tryd.prog).any (Tryd.prog.loopsFrom ·)) = true := by kernel_rfl
theorem k18 : (Rows.listingPlacesRow.wideKeys == (Tryd.f20.params.toList ++ Rows.listingPlacesSpec.plain.varTypes Tryd.prog ++ Tryd.f20.resultTypes.toList).any (Tryd.prog.wideKeysFrom ·)) = true := by kernel_rfl
theorem k19 : Rows.listingPlacesSpec.vars.all (Tryd.prog.varReadable ·) = true := by kernel_rfl
theorem k20 : Tryd.f20.resultTypes.all (fun t => Tryd.prog.readableRec t && decide (t < Tryd.prog.types.size)) = true := by kernel_rfl
theorem k21 : (Rows.listingPlacesRow.ifacesOut == Tryd.f20.resultTypes.toList.any (Tryd.prog.ifacesRec ·)) = true := by kernel_rfl
theorem k22 : (Rows.listingPlacesRow.loopsOut == Tryd.f20.resultTypes.toList.any (Tryd.prog.loopsFrom ·)) = true := by kernel_rfl
theorem k29 : (Rows.listingPlacesRow.kinds == kindsOf Tryd.prog Tryd.f20 Rows.listingPlacesRow) = true := by kernel_rfl
theorem k30 : (Rows.listingPlacesRow.pinned == Rows.listingPlacesRow.pinnedBy) = true := by kernel_rfl
theorem k31 : (Rows.listingPlacesRow.veiled == (Tryd.f20.params.toList ++ Rows.listingPlacesSpec.plain.varTypes Tryd.prog ++ Tryd.f20.resultTypes.toList).any (Tryd.prog.veiledRec ·)) = true := by kernel_rfl
theorem k32 : Rows.listingPlacesRow.veiledFits Tryd.prog Tryd.f20.params.toList (Tryd.f20.params.toList ++ Rows.listingPlacesSpec.plain.varTypes Tryd.prog ++ Tryd.f20.resultTypes.toList) = true := by kernel_rfl
theorem kn : Tryd.prog.funcNamed Rows.listingPlacesRow.func = some 20 := by kernel_rfl
theorem ki : decide (Tryd.f20.isInstance Tryd.prog Rows.listingPlacesRow.origin Rows.listingPlacesRow.targs) = true := by kernel_rfl
theorem kg : Rows.listingPlacesRow.goesBy Tryd.prog = false := by kernel_rfl
theorem kw : Rows.listingPlacesRow.wfByText (OpenSpec.ofChange Rows.listingPlacesSpec) = true := by kernel_rfl
theorem kp : (Check.packageOf Tryd.f20.name == "main") = false := by kernel_rfl
theorem k6 : (Rows.listingPlacesRow.stops == []) = true := by kernel_rfl
theorem k8 : (Rows.listingPlacesRow.knobs == []) = true := by kernel_rfl
theorem k24 : Rows.listingPlacesRow.shortTexts.isNone = true := by kernel_rfl
theorem k23 : (Rows.listingPlacesRow.plainKeys == Tryd.prog.plainKeys) = true := by kernel_rfl
theorem k27 : (Rows.listingPlacesRow.lifted == Tryd.prog.liftsFinal) = true := by
  rw [lifts_final]
  kernel_rfl
theorem k28 : (Tryd.prog.make == some Rows.listingPlacesRow.make) = true := by
  rw [make_cut]
  kernel_rfl
theorem closed : joinedFacts Tryd.prog 20 Tryd.f20 Rows.listingPlacesSpec Rows.listingPlacesRow = true :=
  joined_of k1 p_laid p_rowed k4 k5 k6 p_stops k8 p_knobs k10 k11 k12 k13 k14 k15 k16 k17 k18 k19 k20 k21 k22 k23 k24 p_heard may_enter k27 k28 k29 k30 k31 k32
theorem wrap : Tryd.f20.isWrapper Tryd.prog Rows.listingPlacesRow.wrapper Rows.listingPlacesRow.mainSum := by
  unfold Func.isWrapper
  rw [if_neg (by have h := kp; simpa using h)]
  exact ⟨rfl, rfl⟩
theorem over : Rows.listingPlacesRow.holds Tryd.pinned (OpenSpec.ofChange Rows.listingPlacesSpec) :=
  OpenClaim.holds_of_wide 20 Tryd.f20 rfl rfl rfl rfl rfl rfl rfl ⟨rfl, rfl, rfl, rfl, rfl⟩ rfl rfl rfl rfl rfl kn Tryd.func20 closed (of_decide_eq_true ki) wrap
    (fun os started H enc _ => lifted os started H enc)
theorem card : Rows.ListingPlacesCardSaid :=
  Claim7.holds_tied_plain_at .later [] [.data, .data, .data, .data] true (true, "32f7f7aec7448378b47f94c14a021b7dc57130e43b4450819b795863dbcbff87") false
    over (fun _ h => by cases h) kw (fun _ h => by cases h) listingPlaces_row_tie rfl ⟨rfl, rfl⟩ main_sum rfl
    (fun f fn hf hfn => by
      obtain rfl : f = 20 := Option.some.inj (kn.symm.trans hf) |>.symm
      obtain rfl : fn = Tryd.f20 := (Option.some.inj (Tryd.func20.symm.trans hfn)).symm
      exact ⟨p_looks.symm, fun j t ht => by
        rw [Tryd.params20] at ht
        have hm : t ∈ [28, 3] := by simpa using Array.mem_of_getElem? ht
        have hall : ([28, 3].all fun u => !Tryd.prog.wantsStandIn u) = true := by kernel_rfl
        exact (show Tryd.prog.wantsStandIn t = false by simpa using List.all_eq_true.1 hall t hm)⟩)
    kg.symm
end listingPlaces
theorem listingPlaces_holds : Rows.ListingPlacesCardSaid := listingPlaces.card
#print axioms listingPlaces_holds
end Go.Proofs.YtdhkmdgieflioaaDoor
