/- The law InstReads of the program answers true at every input that its row speaks of; the package-level variables that it reads start as the program's own text lays them (the card ties them). Conditions: those of the given row and card alone. -/
import Derived.Test.YtdhkmdgieflioaaDoorCards
import Derived.Test.YtdhkmdgieflioaaDoorTie
import Derived.SevenTiedAt
import Derived.ProofKit
import Derived.Stop.Joined
import Derived.Test.YtdhkmdgieflioaaDoorRowInstReads
import Derived.Test.YtdhkmdgieflioaaDoorR2
namespace Go.Proofs.YtdhkmdgieflioaaDoor
open Go.Proofs.YtdhkmdgieflioaaDoor.F
set_option linter.unusedVariables false
set_option linter.unusedSimpArgs false
open Go.ChangeShapes Go.WideShapes Go.ChangeAt Go.RowKit
namespace instReads
theorem k1 : Rows.instReadsRow.wf (OpenSpec.ofChange Rows.instReadsSpec) = true := by kernel_rfl
theorem k4 : Tryd.f11.params.all (Tryd.prog.readableRec ·) = true := by kernel_rfl
theorem k5 : namedTie Tryd.prog Rows.instReadsRow.named Rows.instReadsSpec.vars = true := by kernel_rfl
theorem k10 : (Rows.instReadsRow.inPlace == Tryd.prog.inPlace 11) = true := by kernel_rfl
theorem k11 : (Rows.instReadsRow.unfollowed == Tryd.prog.unfollowed 11) = true := by kernel_rfl
theorem k12 : (Rows.instReadsRow.recurses == Tryd.prog.recurses 11) = true := by kernel_rfl
theorem k13 : (Rows.instReadsRow.named == Tryd.prog.varsNamed 11) = true := by kernel_rfl
theorem k14 : (Rows.instReadsRow.maps == (Tryd.f11.params.toList ++ Rows.instReadsSpec.plain.varTypes Tryd.prog).any (Tryd.prog.mapsRec ·)) = true := by kernel_rfl
theorem k15 : (Rows.instReadsRow.ifaces == (Tryd.f11.params.toList ++ Rows.instReadsSpec.plain.varTypes Tryd.prog).any (Tryd.prog.ifacesRec ·)) = true := by kernel_rfl
theorem k16 : (Rows.instReadsRow.mapsOut == Tryd.prog.mapsAmong Tryd.f11.resultTypes.toList) = true := by kernel_rfl
theorem k17 : (Rows.instReadsRow.loops == (Tryd.f11.params.toList ++ Rows.instReadsSpec.plain.varTypes Tryd.prog).any (Tryd.prog.loopsFrom ·)) = true := by kernel_rfl
theorem k18 : (Rows.instReadsRow.wideKeys == (Tryd.f11.params.toList ++ Rows.instReadsSpec.plain.varTypes Tryd.prog ++ Tryd.f11.resultTypes.toList).any (Tryd.prog.wideKeysFrom ·)) = true := by kernel_rfl
theorem k19 : Rows.instReadsSpec.vars.all (Tryd.prog.varReadable ·) = true := by kernel_rfl
theorem k20 : Tryd.f11.resultTypes.all (fun t => Tryd.prog.readableRec t && decide (t < Tryd.prog.types.size)) = true := by kernel_rfl
theorem k21 : (Rows.instReadsRow.ifacesOut == Tryd.f11.resultTypes.toList.any (Tryd.prog.ifacesRec ·)) = true := by kernel_rfl
theorem k22 : (Rows.instReadsRow.loopsOut == Tryd.f11.resultTypes.toList.any (Tryd.prog.loopsFrom ·)) = true := by kernel_rfl
theorem k29 : (Rows.instReadsRow.kinds == kindsOf Tryd.prog Tryd.f11 Rows.instReadsRow) = true := by kernel_rfl
theorem k30 : (Rows.instReadsRow.pinned == Rows.instReadsRow.pinnedBy) = true := by kernel_rfl
theorem k31 : (Rows.instReadsRow.veiled == (Tryd.f11.params.toList ++ Rows.instReadsSpec.plain.varTypes Tryd.prog ++ Tryd.f11.resultTypes.toList).any (Tryd.prog.veiledRec ·)) = true := by kernel_rfl
theorem k32 : Rows.instReadsRow.veiledFits Tryd.prog Tryd.f11.params.toList (Tryd.f11.params.toList ++ Rows.instReadsSpec.plain.varTypes Tryd.prog ++ Tryd.f11.resultTypes.toList) = true := by kernel_rfl
theorem kn : Tryd.prog.funcNamed Rows.instReadsRow.func = some 11 := by kernel_rfl
theorem ki : decide (Tryd.f11.isInstance Tryd.prog Rows.instReadsRow.origin Rows.instReadsRow.targs) = true := by kernel_rfl
theorem kg : Rows.instReadsRow.goesBy Tryd.prog = false := by kernel_rfl
theorem kw : Rows.instReadsRow.wfByText (OpenSpec.ofChange Rows.instReadsSpec) = true := by kernel_rfl
theorem kp : (Check.packageOf Tryd.f11.name == "main") = false := by kernel_rfl
theorem k6 : (Rows.instReadsRow.stops == []) = true := by kernel_rfl
theorem k8 : (Rows.instReadsRow.knobs == []) = true := by kernel_rfl
theorem k24 : Rows.instReadsRow.shortTexts.isNone = true := by kernel_rfl
theorem k23 : (Rows.instReadsRow.plainKeys == Tryd.prog.plainKeys) = true := by kernel_rfl
theorem k27 : (Rows.instReadsRow.lifted == Tryd.prog.liftsFinal) = true := by
  rw [lifts_final]
  kernel_rfl
theorem k28 : (Tryd.prog.make == some Rows.instReadsRow.make) = true := by
  rw [make_cut]
  kernel_rfl
theorem closed : joinedFacts Tryd.prog 11 Tryd.f11 Rows.instReadsSpec Rows.instReadsRow = true :=
  joined_of k1 p_laid p_rowed k4 k5 k6 p_stops k8 p_knobs k10 k11 k12 k13 k14 k15 k16 k17 k18 k19 k20 k21 k22 k23 k24 p_heard may_enter k27 k28 k29 k30 k31 k32
theorem wrap : Tryd.f11.isWrapper Tryd.prog Rows.instReadsRow.wrapper Rows.instReadsRow.mainSum := by
  unfold Func.isWrapper
  rw [if_neg (by have h := kp; simpa using h)]
  exact ⟨rfl, rfl⟩
theorem over : Rows.instReadsRow.holds Tryd.pinned (OpenSpec.ofChange Rows.instReadsSpec) :=
  OpenClaim.holds_of_wide 11 Tryd.f11 rfl rfl rfl rfl rfl rfl rfl ⟨rfl, rfl, rfl, rfl, rfl⟩ rfl rfl rfl rfl rfl kn Tryd.func11 closed (of_decide_eq_true ki) wrap
    (fun os started H enc _ => lifted os started H enc)
theorem card : Rows.InstReadsCardSaid :=
  Claim7.holds_tied_plain_at .later [] [.data, .data, .data, .data] true (true, "32f7f7aec7448378b47f94c14a021b7dc57130e43b4450819b795863dbcbff87") false
    over (fun _ h => by cases h) kw (fun _ h => by cases h) instReads_row_tie rfl ⟨rfl, rfl⟩ main_sum rfl
    (fun f fn hf hfn => by
      obtain rfl : f = 11 := Option.some.inj (kn.symm.trans hf) |>.symm
      obtain rfl : fn = Tryd.f11 := (Option.some.inj (Tryd.func11.symm.trans hfn)).symm
      exact ⟨p_looks.symm, fun j t ht => by
        rw [Tryd.params11] at ht
        have hm : t ∈ [47] := by simpa using Array.mem_of_getElem? ht
        have hall : ([47].all fun u => !Tryd.prog.wantsStandIn u) = true := by kernel_rfl
        exact (show Tryd.prog.wantsStandIn t = false by simpa using List.all_eq_true.1 hall t hm)⟩)
    kg.symm
end instReads
theorem instReads_holds : Rows.InstReadsCardSaid := instReads.card
#print axioms instReads_holds
end Go.Proofs.YtdhkmdgieflioaaDoor
