/- The law InstCodes of the program answers true at every input that its row speaks of; the package-level variables that it reads start as the program's own text lays them (the card ties them). Conditions: those of the given row and card alone. -/
import Derived.Test.YtdhkmdgieflioaaDoorCards
import Derived.Test.YtdhkmdgieflioaaDoorTie
import Derived.SevenTiedAt
import Derived.ProofKit
import Derived.Stop.Joined
import Derived.Test.YtdhkmdgieflioaaDoorRowInstCodes
import Derived.Test.YtdhkmdgieflioaaDoorE4
namespace Go.Proofs.YtdhkmdgieflioaaDoor
open Go.Proofs.YtdhkmdgieflioaaDoor.F
set_option linter.unusedVariables false
set_option linter.unusedSimpArgs false
open Go.ChangeShapes Go.WideShapes Go.ChangeAt Go.RowKit
namespace instCodes
theorem k1 : Rows.instCodesRow.wf (OpenSpec.ofChange Rows.instCodesSpec) = true := by kernel_rfl
theorem k4 : Tryd.f9.params.all (Tryd.prog.readableRec ·) = true := by kernel_rfl
theorem k5 : namedTie Tryd.prog Rows.instCodesRow.named Rows.instCodesSpec.vars = true := by kernel_rfl
theorem k10 : (Rows.instCodesRow.inPlace == Tryd.prog.inPlace 9) = true := by kernel_rfl
theorem k11 : (Rows.instCodesRow.unfollowed == Tryd.prog.unfollowed 9) = true := by kernel_rfl
theorem k12 : (Rows.instCodesRow.recurses == Tryd.prog.recurses 9) = true := by kernel_rfl
theorem k13 : (Rows.instCodesRow.named == Tryd.prog.varsNamed 9) = true := by kernel_rfl
theorem k14 : (Rows.instCodesRow.maps == (Tryd.f9.params.toList ++ Rows.instCodesSpec.plain.varTypes Tryd.prog).any (Tryd.prog.mapsRec ·)) = true := by kernel_rfl
theorem k15 : (Rows.instCodesRow.ifaces == (Tryd.f9.params.toList ++ Rows.instCodesSpec.plain.varTypes Tryd.prog).any (Tryd.prog.ifacesRec ·)) = true := by kernel_rfl
theorem k16 : (Rows.instCodesRow.mapsOut == Tryd.prog.mapsAmong Tryd.f9.resultTypes.toList) = true := by kernel_rfl
theorem k17 : (Rows.instCodesRow.loops == (Tryd.f9.params.toList ++ Rows.instCodesSpec.plain.varTypes Tryd.prog).any (Tryd.prog.loopsFrom ·)) = true := by kernel_rfl
theorem k18 : (Rows.instCodesRow.wideKeys == (Tryd.f9.params.toList ++ Rows.instCodesSpec.plain.varTypes Tryd.prog ++ Tryd.f9.resultTypes.toList).any (Tryd.prog.wideKeysFrom ·)) = true := by kernel_rfl
theorem k19 : Rows.instCodesSpec.vars.all (Tryd.prog.varReadable ·) = true := by kernel_rfl
theorem k20 : Tryd.f9.resultTypes.all (fun t => Tryd.prog.readableRec t && decide (t < Tryd.prog.types.size)) = true := by kernel_rfl
theorem k21 : (Rows.instCodesRow.ifacesOut == Tryd.f9.resultTypes.toList.any (Tryd.prog.ifacesRec ·)) = true := by kernel_rfl
theorem k22 : (Rows.instCodesRow.loopsOut == Tryd.f9.resultTypes.toList.any (Tryd.prog.loopsFrom ·)) = true := by kernel_rfl
theorem k29 : (Rows.instCodesRow.kinds == kindsOf Tryd.prog Tryd.f9 Rows.instCodesRow) = true := by kernel_rfl
theorem k30 : (Rows.instCodesRow.pinned == Rows.instCodesRow.pinnedBy) = true := by kernel_rfl
theorem k31 : (Rows.instCodesRow.veiled == (Tryd.f9.params.toList ++ Rows.instCodesSpec.plain.varTypes Tryd.prog ++ Tryd.f9.resultTypes.toList).any (Tryd.prog.veiledRec ·)) = true := by kernel_rfl
theorem k32 : Rows.instCodesRow.veiledFits Tryd.prog Tryd.f9.params.toList (Tryd.f9.params.toList ++ Rows.instCodesSpec.plain.varTypes Tryd.prog ++ Tryd.f9.resultTypes.toList) = true := by kernel_rfl
theorem kn : Tryd.prog.funcNamed Rows.instCodesRow.func = some 9 := by kernel_rfl
theorem ki : decide (Tryd.f9.isInstance Tryd.prog Rows.instCodesRow.origin Rows.instCodesRow.targs) = true := by kernel_rfl
theorem kg : Rows.instCodesRow.goesBy Tryd.prog = false := by kernel_rfl
theorem kw : Rows.instCodesRow.wfByText (OpenSpec.ofChange Rows.instCodesSpec) = true := by kernel_rfl
theorem kp : (Check.packageOf Tryd.f9.name == "main") = false := by kernel_rfl
theorem k6 : (Rows.instCodesRow.stops == []) = true := by kernel_rfl
theorem k8 : (Rows.instCodesRow.knobs == []) = true := by kernel_rfl
theorem k24 : Rows.instCodesRow.shortTexts.isNone = true := by kernel_rfl
theorem k23 : (Rows.instCodesRow.plainKeys == Tryd.prog.plainKeys) = true := by kernel_rfl
theorem k27 : (Rows.instCodesRow.lifted == Tryd.prog.liftsFinal) = true := by
  rw [lifts_final]
  kernel_rfl
theorem k28 : (Tryd.prog.make == some Rows.instCodesRow.make) = true := by
  rw [make_cut]
  kernel_rfl
theorem closed : joinedFacts Tryd.prog 9 Tryd.f9 Rows.instCodesSpec Rows.instCodesRow = true :=
  joined_of k1 p_laid p_rowed k4 k5 k6 p_stops k8 p_knobs k10 k11 k12 k13 k14 k15 k16 k17 k18 k19 k20 k21 k22 k23 k24 p_heard may_enter k27 k28 k29 k30 k31 k32
theorem wrap : Tryd.f9.isWrapper Tryd.prog Rows.instCodesRow.wrapper Rows.instCodesRow.mainSum := by
  unfold Func.isWrapper
  rw [if_neg (by have h := kp; simpa using h)]
  exact ⟨rfl, rfl⟩
theorem over : Rows.instCodesRow.holds Tryd.pinned (OpenSpec.ofChange Rows.instCodesSpec) :=
  OpenClaim.holds_of_wide 9 Tryd.f9 rfl rfl rfl rfl rfl rfl rfl ⟨rfl, rfl, rfl, rfl, rfl⟩ rfl rfl rfl rfl rfl kn Tryd.func9 closed (of_decide_eq_true ki) wrap
    (fun os started H enc _ => lifted os started H enc)
theorem card : Rows.InstCodesCardSaid :=
  Claim7.holds_tied_plain_at .later [] [.data, .data, .data, .data] true (true, "32f7f7aec7448378b47f94c14a021b7dc57130e43b4450819b795863dbcbff87") false
    over (fun _ h => by cases h) kw (fun _ h => by cases h) instCodes_row_tie rfl ⟨rfl, rfl⟩ main_sum rfl
    (fun f fn hf hfn => by
      obtain rfl : f = 9 := Option.some.inj (kn.symm.trans hf) |>.symm
      obtain rfl : fn = Tryd.f9 := (Option.some.inj (Tryd.func9.symm.trans hfn)).symm
      exact ⟨p_looks.symm, fun j t ht => by
        rw [Tryd.params9] at ht
        have hm : t ∈ [46] := by simpa using Array.mem_of_getElem? ht
        have hall : ([46].all fun u => !Tryd.prog.wantsStandIn u) = true := by kernel_rfl
        exact (show Tryd.prog.wantsStandIn t = false by simpa using List.all_eq_true.1 hall t hm)⟩)
    kg.symm
end instCodes
theorem instCodes_holds : Rows.InstCodesCardSaid := instCodes.card
#print axioms instCodes_holds
end Go.Proofs.YtdhkmdgieflioaaDoor
