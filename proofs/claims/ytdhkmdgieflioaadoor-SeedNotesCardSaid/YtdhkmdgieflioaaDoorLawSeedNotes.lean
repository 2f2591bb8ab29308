/- The law SeedNotes of the program answers true at every input that its row speaks of; the package-level variables that it reads start as the program's own text lays them (the card ties them). Conditions: those of the given row and card alone. -/
import Derived.Test.YtdhkmdgieflioaaDoorCards
import Derived.Test.YtdhkmdgieflioaaDoorTie
import Derived.SevenTiedAt
import Derived.ProofKit
import Derived.Stop.Joined
import Derived.Test.YtdhkmdgieflioaaDoorRowSeedNotes
import Derived.Test.YtdhkmdgieflioaaDoorC5
namespace Go.Proofs.YtdhkmdgieflioaaDoor
open Go.Proofs.YtdhkmdgieflioaaDoor.F
set_option linter.unusedVariables false
set_option linter.unusedSimpArgs false
open Go.ChangeShapes Go.WideShapes Go.ChangeAt Go.RowKit
namespace seedNotes
theorem k1 : Rows.seedNotesRow.wf (OpenSpec.ofChange Rows.seedNotesSpec) = true := by kernel_rfl
theorem k4 : Tryd.f6.params.all (Tryd.prog.readableRec ·) = true := by kernel_rfl
theorem k5 : namedTie Tryd.prog Rows.seedNotesRow.named Rows.seedNotesSpec.vars = true := by kernel_rfl
theorem k10 : (Rows.seedNotesRow.inPlace == Tryd.prog.inPlace 6) = true := by kernel_rfl
theorem k11 : (Rows.seedNotesRow.unfollowed == Tryd.prog.unfollowed 6) = true := by kernel_rfl
theorem k12 : (Rows.seedNotesRow.recurses == Tryd.prog.recurses 6) = true := by kernel_rfl
theorem k13 : (Rows.seedNotesRow.named == Tryd.prog.varsNamed 6) = true := by kernel_rfl
theorem k14 : (Rows.seedNotesRow.maps == (Tryd.f6.params.toList ++ Rows.seedNotesSpec.plain.varTypes Tryd.prog).any (Tryd.prog.mapsRec ·)) = true := by kernel_rfl
theorem k15 : (Rows.seedNotesRow.ifaces == (Tryd.f6.params.toList ++ Rows.seedNotesSpec.plain.varTypes Tryd.prog).any (Tryd.prog.ifacesRec ·)) = true := by kernel_rfl
theorem k16 : (Rows.seedNotesRow.mapsOut == Tryd.prog.mapsAmong Tryd.f6.resultTypes.toList) = true := by kernel_rfl
theorem k17 : (Rows.seedNotesRow.loops == (Tryd.f6.params.toList ++ Rows.seedNotesSpec.plain.varTypes Tryd.prog).any (Tryd.prog.loopsFrom ·)) = true := by kernel_rfl
theorem k18 : (Rows.seedNotesRow.wideKeys == (Tryd.f6.params.toList ++ Rows.seedNotesSpec.plain.varTypes Tryd.prog ++ Tryd.f6.resultTypes.toList).any (Tryd.prog.wideKeysFrom ·)) = true := by kernel_rfl
theorem k19 : Rows.seedNotesSpec.vars.all (Tryd.prog.varReadable ·) = true := by kernel_rfl
theorem k20 : Tryd.f6.resultTypes.all (fun t => Tryd.prog.readableRec t && decide (t < Tryd.prog.types.size)) = true := by kernel_rfl
theorem k21 : (Rows.seedNotesRow.ifacesOut == Tryd.f6.resultTypes.toList.any (Tryd.prog.ifacesRec ·)) = true := by kernel_rfl
theorem k22 : (Rows.seedNotesRow.loopsOut == Tryd.f6.resultTypes.toList.any (Tryd.prog.loopsFrom ·)) = true := by kernel_rfl
theorem k29 : (Rows.seedNotesRow.kinds == kindsOf Tryd.prog Tryd.f6 Rows.seedNotesRow) = true := by kernel_rfl
theorem k30 : (Rows.seedNotesRow.pinned == Rows.seedNotesRow.pinnedBy) = true := by kernel_rfl
theorem k31 : (Rows.seedNotesRow.veiled == (Tryd.f6.params.toList ++ Rows.seedNotesSpec.plain.varTypes Tryd.prog ++ Tryd.f6.resultTypes.toList).any (Tryd.prog.veiledRec ·)) = true := by kernel_rfl
theorem k32 : Rows.seedNotesRow.veiledFits Tryd.prog Tryd.f6.params.toList (Tryd.f6.params.toList ++ Rows.seedNotesSpec.plain.varTypes Tryd.prog ++ Tryd.f6.resultTypes.toList) = true := by kernel_rfl
theorem kn : Tryd.prog.funcNamed Rows.seedNotesRow.func = some 6 := by kernel_rfl
theorem ki : decide (Tryd.f6.isInstance Tryd.prog Rows.seedNotesRow.origin Rows.seedNotesRow.targs) = true := by kernel_rfl
theorem kg : Rows.seedNotesRow.goesBy Tryd.prog = false := by kernel_rfl
theorem kw : Rows.seedNotesRow.wfByText (OpenSpec.ofChange Rows.seedNotesSpec) = true := by kernel_rfl
theorem kp : (Check.packageOf Tryd.f6.name == "main") = false := by kernel_rfl
theorem k6 : (Rows.seedNotesRow.stops == []) = true := by kernel_rfl
theorem k8 : (Rows.seedNotesRow.knobs == []) = true := by kernel_rfl
theorem k24 : Rows.seedNotesRow.shortTexts.isNone = true := by kernel_rfl
theorem k23 : (Rows.seedNotesRow.plainKeys == Tryd.prog.plainKeys) = true := by kernel_rfl
theorem k27 : (Rows.seedNotesRow.lifted == Tryd.prog.liftsFinal) = true := by
  rw [lifts_final]
  kernel_rfl
theorem k28 : (Tryd.prog.make == some Rows.seedNotesRow.make) = true := by
  rw [make_cut]
  kernel_rfl
theorem closed : joinedFacts Tryd.prog 6 Tryd.f6 Rows.seedNotesSpec Rows.seedNotesRow = true :=
  joined_of k1 p_laid p_rowed k4 k5 k6 p_stops k8 p_knobs k10 k11 k12 k13 k14 k15 k16 k17 k18 k19 k20 k21 k22 k23 k24 p_heard may_enter k27 k28 k29 k30 k31 k32
theorem wrap : Tryd.f6.isWrapper Tryd.prog Rows.seedNotesRow.wrapper Rows.seedNotesRow.mainSum := by
  unfold Func.isWrapper
  rw [if_neg (by have h := kp; simpa using h)]
  exact ⟨rfl, rfl⟩
theorem over : Rows.seedNotesRow.holds Tryd.pinned (OpenSpec.ofChange Rows.seedNotesSpec) :=
  OpenClaim.holds_of_wide 6 Tryd.f6 rfl rfl rfl rfl rfl rfl rfl ⟨rfl, rfl, rfl, rfl, rfl⟩ rfl rfl rfl rfl rfl kn Tryd.func6 closed (of_decide_eq_true ki) wrap
    (fun os started H enc _ => lifted os started H enc)
theorem card : Rows.SeedNotesCardSaid :=
  Claim7.holds_tied_plain_at .later [] [.data, .data] true (true, "32f7f7aec7448378b47f94c14a021b7dc57130e43b4450819b795863dbcbff87") false
    over (fun _ h => by cases h) kw (fun _ h => by cases h) seedNotes_row_tie rfl ⟨rfl, rfl⟩ main_sum rfl
    (fun f fn hf hfn => by
      obtain rfl : f = 6 := Option.some.inj (kn.symm.trans hf) |>.symm
      obtain rfl : fn = Tryd.f6 := (Option.some.inj (Tryd.func6.symm.trans hfn)).symm
      exact ⟨p_looks.symm, fun j t ht => by
        rw [Tryd.params6] at ht
        have hm : t ∈ [9, 9] := by simpa using Array.mem_of_getElem? ht
        have hall : ([9, 9].all fun u => !Tryd.prog.wantsStandIn u) = true := by kernel_rfl
        exact (show Tryd.prog.wantsStandIn t = false by simpa using List.all_eq_true.1 hall t hm)⟩)
    kg.symm
end seedNotes
theorem seedNotes_holds : Rows.SeedNotesCardSaid := seedNotes.card
#print axioms seedNotes_holds
end Go.Proofs.YtdhkmdgieflioaaDoor
