/- Texts of this claim: contracts of functions that the law reaches, and plain lemmas. -/
import Derived.Outline
import Derived.WalkLawsBesides
import Derived.WalkSpells
import Derived.RegionTactic
import Derived.Deep.QuietTactic
import Derived.BigQuiet
import Derived.DataShut
import Derived.Test.YtdhkmdgieflioaaDoorA1
import Derived.Test.YtdhkmdgieflioaaDoorA2
namespace Go.Proofs.YtdhkmdgieflioaaDoor.F
open Go.RowKit Go.Proofs.YtdhkmdgieflioaaDoorW.PrintWords Go.Proofs.YtdhkmdgieflioaaDoorW.PrintLast Go.Proofs.YtdhkmdgieflioaaDoorW.PrintMore
attribute [local go_sem] max2_int min2_int max_two min_two max_three min_three max_four min_four
set_option linter.unusedVariables false
set_option linter.unusedSimpArgs false
def seedcornref07_Name.f (a0 : Int) : Option (ByteArray) := if a0 = 1 then (some (⟨#[108, 105]⟩ : ByteArray)) else (if a0 = 2 then (some (⟨#[108, 117, 105]⟩ : ByteArray)) else (if a0 = 3 then (some (⟨#[109, 111, 118]⟩ : ByteArray)) else (if a0 = 4 then (some (⟨#[97, 100, 100]⟩ : ByteArray)) else (if a0 = 5 then (some (⟨#[115, 117, 98]⟩ : ByteArray)) else (if a0 = 6 then (some (⟨#[109, 117, 108]⟩ : ByteArray)) else (if a0 = 7 then (some (⟨#[100, 105, 118]⟩ : ByteArray)) else (if a0 = 8 then (some (⟨#[109, 111, 100]⟩ : ByteArray)) else (if a0 = 9 then (some (⟨#[97, 110, 100]⟩ : ByteArray)) else (if a0 = 10 then (some (⟨#[111, 114]⟩ : ByteArray)) else (if a0 = 11 then (some (⟨#[120, 111, 114]⟩ : ByteArray)) else (if a0 = 12 then (some (⟨#[115, 104, 108]⟩ : ByteArray)) else (if a0 = 13 then (some (⟨#[115, 104, 114]⟩ : ByteArray)) else (if a0 = 14 then (some (⟨#[108, 116]⟩ : ByteArray)) else (if a0 = 15 then (some (⟨#[101, 113]⟩ : ByteArray)) else (if a0 = 16 then (some (⟨#[108, 100]⟩ : ByteArray)) else (if a0 = 17 then (some (⟨#[115, 116]⟩ : ByteArray)) else (if a0 = 18 then (some (⟨#[106, 109, 112]⟩ : ByteArray)) else (if a0 = 19 then (some (⟨#[106, 122]⟩ : ByteArray)) else (if a0 = 20 then (some (⟨#[106, 110, 122]⟩ : ByteArray)) else (if a0 = 21 then (some (⟨#[99, 97, 108, 108]⟩ : ByteArray)) else (if a0 = 22 then (some (⟨#[114, 101, 116]⟩ : ByteArray)) else (if a0 = 23 then (some (⟨#[103, 101, 116]⟩ : ByteArray)) else (if a0 = 24 then (some (⟨#[112, 117, 116]⟩ : ByteArray)) else (if a0 = 25 then (some (⟨#[99, 104, 107]⟩ : ByteArray)) else (if a0 = 26 then (some (⟨#[104, 97, 108, 116]⟩ : ByteArray)) else (if a0 = 27 then (some (⟨#[108, 100, 99]⟩ : ByteArray)) else (some (⟨#[]⟩ : ByteArray))))))))))))))))))))))))))))
set_option maxHeartbeats 8000000 in
set_option maxRecDepth 100000 in
theorem seedcornref07_Name.calls (a0 : Int) (r : ByteArray) (w : World) (h : seedcornref07_Name.f a0 = some r) :
    Calls Tryd.prog 51 #[.int .i64 a0] w fun e w' => e = .returned (.string r) ∧ Drawn0 w w' := by
  have H : (if a0 = 1 then (some (⟨#[108, 105]⟩ : ByteArray)) else (if a0 = 2 then (some (⟨#[108, 117, 105]⟩ : ByteArray)) else (if a0 = 3 then (some (⟨#[109, 111, 118]⟩ : ByteArray)) else (if a0 = 4 then (some (⟨#[97, 100, 100]⟩ : ByteArray)) else (if a0 = 5 then (some (⟨#[115, 117, 98]⟩ : ByteArray)) else (if a0 = 6 then (some (⟨#[109, 117, 108]⟩ : ByteArray)) else (if a0 = 7 then (some (⟨#[100, 105, 118]⟩ : ByteArray)) else (if a0 = 8 then (some (⟨#[109, 111, 100]⟩ : ByteArray)) else (if a0 = 9 then (some (⟨#[97, 110, 100]⟩ : ByteArray)) else (if a0 = 10 then (some (⟨#[111, 114]⟩ : ByteArray)) else (if a0 = 11 then (some (⟨#[120, 111, 114]⟩ : ByteArray)) else (if a0 = 12 then (some (⟨#[115, 104, 108]⟩ : ByteArray)) else (if a0 = 13 then (some (⟨#[115, 104, 114]⟩ : ByteArray)) else (if a0 = 14 then (some (⟨#[108, 116]⟩ : ByteArray)) else (if a0 = 15 then (some (⟨#[101, 113]⟩ : ByteArray)) else (if a0 = 16 then (some (⟨#[108, 100]⟩ : ByteArray)) else (if a0 = 17 then (some (⟨#[115, 116]⟩ : ByteArray)) else (if a0 = 18 then (some (⟨#[106, 109, 112]⟩ : ByteArray)) else (if a0 = 19 then (some (⟨#[106, 122]⟩ : ByteArray)) else (if a0 = 20 then (some (⟨#[106, 110, 122]⟩ : ByteArray)) else (if a0 = 21 then (some (⟨#[99, 97, 108, 108]⟩ : ByteArray)) else (if a0 = 22 then (some (⟨#[114, 101, 116]⟩ : ByteArray)) else (if a0 = 23 then (some (⟨#[103, 101, 116]⟩ : ByteArray)) else (if a0 = 24 then (some (⟨#[112, 117, 116]⟩ : ByteArray)) else (if a0 = 25 then (some (⟨#[99, 104, 107]⟩ : ByteArray)) else (if a0 = 26 then (some (⟨#[104, 97, 108, 116]⟩ : ByteArray)) else (if a0 = 27 then (some (⟨#[108, 100, 99]⟩ : ByteArray)) else (some (⟨#[]⟩ : ByteArray))))))))))))))))))))))))))))) = some r := h
  clear h
  by_cases c2 : a0 = 1
  · rw [if_pos c2] at H
    have c2b0 : (a0 == 1) = true := beq_iff_eq.mpr c2
    have c2b1 : (a0 != 1) = false := bne_eq_false_iff_eq.mpr c2
    clear c2
    obtain rfl := Option.some.inj H
    go_enter Tryd.func51, Tryd.ntmps51
    go_wp2
    go_ret
    exact ⟨by first | rfl | (simp; done) | (simp [*]; done), by repeat (first | exact Drawn0.refl _ | apply Drawn0.step)⟩
  · rw [if_neg c2] at H
    have c2b0 : (a0 == 1) = false := beq_eq_false_iff_ne.mpr c2
    have c2b1 : (a0 != 1) = true := bne_iff_ne.mpr c2
    by_cases c3 : a0 = 2
    · rw [if_pos c3] at H
      have c3b0 : (a0 == 2) = true := beq_iff_eq.mpr c3
      have c3b1 : (a0 != 2) = false := bne_eq_false_iff_eq.mpr c3
      clear c3
      obtain rfl := Option.some.inj H
      go_enter Tryd.func51, Tryd.ntmps51
      go_wp2
      go_ret
      exact ⟨by first | rfl | (simp; done) | (simp [*]; done), by repeat (first | exact Drawn0.refl _ | apply Drawn0.step)⟩
    · rw [if_neg c3] at H
      have c3b0 : (a0 == 2) = false := beq_eq_false_iff_ne.mpr c3
      have c3b1 : (a0 != 2) = true := bne_iff_ne.mpr c3
      by_cases c4 : a0 = 3
      · rw [if_pos c4] at H
        have c4b0 : (a0 == 3) = true := beq_iff_eq.mpr c4
        have c4b1 : (a0 != 3) = false := bne_eq_false_iff_eq.mpr c4
        clear c4
        obtain rfl := Option.some.inj H
        go_enter Tryd.func51, Tryd.ntmps51
        go_wp2
        go_ret
        exact ⟨by first | rfl | (simp; done) | (simp [*]; done), by repeat (first | exact Drawn0.refl _ | apply Drawn0.step)⟩
      · rw [if_neg c4] at H
        have c4b0 : (a0 == 3) = false := beq_eq_false_iff_ne.mpr c4
        have c4b1 : (a0 != 3) = true := bne_iff_ne.mpr c4
        by_cases c5 : a0 = 4
        · rw [if_pos c5] at H
          have c5b0 : (a0 == 4) = true := beq_iff_eq.mpr c5
          have c5b1 : (a0 != 4) = false := bne_eq_false_iff_eq.mpr c5
          clear c5
          obtain rfl := Option.some.inj H
          go_enter Tryd.func51, Tryd.ntmps51
          go_wp2
          go_ret
          exact ⟨by first | rfl | (simp; done) | (simp [*]; done), by repeat (first | exact Drawn0.refl _ | apply Drawn0.step)⟩
        · rw [if_neg c5] at H
          have c5b0 : (a0 == 4) = false := beq_eq_false_iff_ne.mpr c5
          have c5b1 : (a0 != 4) = true := bne_iff_ne.mpr c5
          by_cases c6 : a0 = 5
          · rw [if_pos c6] at H
            have c6b0 : (a0 == 5) = true := beq_iff_eq.mpr c6
            have c6b1 : (a0 != 5) = false := bne_eq_false_iff_eq.mpr c6
            clear c6
            obtain rfl := Option.some.inj H
            go_enter Tryd.func51, Tryd.ntmps51
            go_wp2
            go_ret
            exact ⟨by first | rfl | (simp; done) | (simp [*]; done), by repeat (first | exact Drawn0.refl _ | apply Drawn0.step)⟩
          · rw [if_neg c6] at H
            have c6b0 : (a0 == 5) = false := beq_eq_false_iff_ne.mpr c6
            have c6b1 : (a0 != 5) = true := bne_iff_ne.mpr c6
            by_cases c7 : a0 = 6
            · rw [if_pos c7] at H
              have c7b0 : (a0 == 6) = true := beq_iff_eq.mpr c7
              have c7b1 : (a0 != 6) = false := bne_eq_false_iff_eq.mpr c7
              clear c7
              obtain rfl := Option.some.inj H
              go_enter Tryd.func51, Tryd.ntmps51
              go_wp2
              go_ret
              exact ⟨by first | rfl | (simp; done) | (simp [*]; done), by repeat (first | exact Drawn0.refl _ | apply Drawn0.step)⟩
            · rw [if_neg c7] at H
              have c7b0 : (a0 == 6) = false := beq_eq_false_iff_ne.mpr c7
              have c7b1 : (a0 != 6) = true := bne_iff_ne.mpr c7
              by_cases c8 : a0 = 7
              · rw [if_pos c8] at H
                have c8b0 : (a0 == 7) = true := beq_iff_eq.mpr c8
                have c8b1 : (a0 != 7) = false := bne_eq_false_iff_eq.mpr c8
                clear c8
                obtain rfl := Option.some.inj H
                go_enter Tryd.func51, Tryd.ntmps51
                go_wp2
                go_ret
                exact ⟨by first | rfl | (simp; done) | (simp [*]; done), by repeat (first | exact Drawn0.refl _ | apply Drawn0.step)⟩
              · rw [if_neg c8] at H
                have c8b0 : (a0 == 7) = false := beq_eq_false_iff_ne.mpr c8
                have c8b1 : (a0 != 7) = true := bne_iff_ne.mpr c8
                by_cases c9 : a0 = 8
                · rw [if_pos c9] at H
                  have c9b0 : (a0 == 8) = true := beq_iff_eq.mpr c9
                  have c9b1 : (a0 != 8) = false := bne_eq_false_iff_eq.mpr c9
                  clear c9
                  obtain rfl := Option.some.inj H
                  go_enter Tryd.func51, Tryd.ntmps51
                  go_wp2
                  go_ret
                  exact ⟨by first | rfl | (simp; done) | (simp [*]; done), by repeat (first | exact Drawn0.refl _ | apply Drawn0.step)⟩
                · rw [if_neg c9] at H
                  have c9b0 : (a0 == 8) = false := beq_eq_false_iff_ne.mpr c9
                  have c9b1 : (a0 != 8) = true := bne_iff_ne.mpr c9
                  by_cases c10 : a0 = 9
                  · rw [if_pos c10] at H
                    have c10b0 : (a0 == 9) = true := beq_iff_eq.mpr c10
                    have c10b1 : (a0 != 9) = false := bne_eq_false_iff_eq.mpr c10
                    clear c10
                    obtain rfl := Option.some.inj H
                    go_enter Tryd.func51, Tryd.ntmps51
                    go_wp2
                    go_ret
                    exact ⟨by first | rfl | (simp; done) | (simp [*]; done), by repeat (first | exact Drawn0.refl _ | apply Drawn0.step)⟩
                  · rw [if_neg c10] at H
                    have c10b0 : (a0 == 9) = false := beq_eq_false_iff_ne.mpr c10
                    have c10b1 : (a0 != 9) = true := bne_iff_ne.mpr c10
                    by_cases c11 : a0 = 10
                    · rw [if_pos c11] at H
                      have c11b0 : (a0 == 10) = true := beq_iff_eq.mpr c11
                      have c11b1 : (a0 != 10) = false := bne_eq_false_iff_eq.mpr c11
                      clear c11
                      obtain rfl := Option.some.inj H
                      go_enter Tryd.func51, Tryd.ntmps51
                      go_wp2
                      go_ret
                      exact ⟨by first | rfl | (simp; done) | (simp [*]; done), by repeat (first | exact Drawn0.refl _ | apply Drawn0.step)⟩
                    · rw [if_neg c11] at H
                      have c11b0 : (a0 == 10) = false := beq_eq_false_iff_ne.mpr c11
                      have c11b1 : (a0 != 10) = true := bne_iff_ne.mpr c11
                      by_cases c12 : a0 = 11
                      · rw [if_pos c12] at H
                        have c12b0 : (a0 == 11) = true := beq_iff_eq.mpr c12
                        have c12b1 : (a0 != 11) = false := bne_eq_false_iff_eq.mpr c12
                        clear c12
                        obtain rfl := Option.some.inj H
                        go_enter Tryd.func51, Tryd.ntmps51
                        go_wp2
                        go_ret
                        exact ⟨by first | rfl | (simp; done) | (simp [*]; done), by repeat (first | exact Drawn0.refl _ | apply Drawn0.step)⟩
                      · rw [if_neg c12] at H
                        have c12b0 : (a0 == 11) = false := beq_eq_false_iff_ne.mpr c12
                        have c12b1 : (a0 != 11) = true := bne_iff_ne.mpr c12
                        by_cases c13 : a0 = 12
                        · rw [if_pos c13] at H
                          have c13b0 : (a0 == 12) = true := beq_iff_eq.mpr c13
                          have c13b1 : (a0 != 12) = false := bne_eq_false_iff_eq.mpr c13
                          clear c13
                          obtain rfl := Option.some.inj H
                          go_enter Tryd.func51, Tryd.ntmps51
                          go_wp2
                          go_ret
                          exact ⟨by first | rfl | (simp; done) | (simp [*]; done), by repeat (first | exact Drawn0.refl _ | apply Drawn0.step)⟩
                        · rw [if_neg c13] at H
                          have c13b0 : (a0 == 12) = false := beq_eq_false_iff_ne.mpr c13
                          have c13b1 : (a0 != 12) = true := bne_iff_ne.mpr c13
                          by_cases c14 : a0 = 13
                          · rw [if_pos c14] at H
                            have c14b0 : (a0 == 13) = true := beq_iff_eq.mpr c14
                            have c14b1 : (a0 != 13) = false := bne_eq_false_iff_eq.mpr c14
                            clear c14
                            obtain rfl := Option.some.inj H
                            go_enter Tryd.func51, Tryd.ntmps51
                            go_wp2
                            go_ret
                            exact ⟨by first | rfl | (simp; done) | (simp [*]; done), by repeat (first | exact Drawn0.refl _ | apply Drawn0.step)⟩
                          · rw [if_neg c14] at H
                            have c14b0 : (a0 == 13) = false := beq_eq_false_iff_ne.mpr c14
                            have c14b1 : (a0 != 13) = true := bne_iff_ne.mpr c14
                            by_cases c15 : a0 = 14
                            · rw [if_pos c15] at H
                              have c15b0 : (a0 == 14) = true := beq_iff_eq.mpr c15
                              have c15b1 : (a0 != 14) = false := bne_eq_false_iff_eq.mpr c15
                              clear c15
                              obtain rfl := Option.some.inj H
                              go_enter Tryd.func51, Tryd.ntmps51
                              go_wp2
                              go_ret
                              exact ⟨by first | rfl | (simp; done) | (simp [*]; done), by repeat (first | exact Drawn0.refl _ | apply Drawn0.step)⟩
                            · rw [if_neg c15] at H
                              have c15b0 : (a0 == 14) = false := beq_eq_false_iff_ne.mpr c15
                              have c15b1 : (a0 != 14) = true := bne_iff_ne.mpr c15
                              by_cases c16 : a0 = 15
                              · rw [if_pos c16] at H
                                have c16b0 : (a0 == 15) = true := beq_iff_eq.mpr c16
                                have c16b1 : (a0 != 15) = false := bne_eq_false_iff_eq.mpr c16
                                clear c16
                                obtain rfl := Option.some.inj H
                                go_enter Tryd.func51, Tryd.ntmps51
                                go_wp2
                                go_ret
                                exact ⟨by first | rfl | (simp; done) | (simp [*]; done), by repeat (first | exact Drawn0.refl _ | apply Drawn0.step)⟩
                              · rw [if_neg c16] at H
                                have c16b0 : (a0 == 15) = false := beq_eq_false_iff_ne.mpr c16
                                have c16b1 : (a0 != 15) = true := bne_iff_ne.mpr c16
                                by_cases c17 : a0 = 16
                                · rw [if_pos c17] at H
                                  have c17b0 : (a0 == 16) = true := beq_iff_eq.mpr c17
                                  have c17b1 : (a0 != 16) = false := bne_eq_false_iff_eq.mpr c17
                                  clear c17
                                  obtain rfl := Option.some.inj H
                                  go_enter Tryd.func51, Tryd.ntmps51
                                  go_wp2
                                  go_ret
                                  exact ⟨by first | rfl | (simp; done) | (simp [*]; done), by repeat (first | exact Drawn0.refl _ | apply Drawn0.step)⟩
                                · rw [if_neg c17] at H
                                  have c17b0 : (a0 == 16) = false := beq_eq_false_iff_ne.mpr c17
                                  have c17b1 : (a0 != 16) = true := bne_iff_ne.mpr c17
                                  by_cases c18 : a0 = 17
                                  · rw [if_pos c18] at H
                                    have c18b0 : (a0 == 17) = true := beq_iff_eq.mpr c18
                                    have c18b1 : (a0 != 17) = false := bne_eq_false_iff_eq.mpr c18
                                    clear c18
                                    obtain rfl := Option.some.inj H
                                    go_enter Tryd.func51, Tryd.ntmps51
                                    go_wp2
                                    go_ret
                                    exact ⟨by first | rfl | (simp; done) | (simp [*]; done), by repeat (first | exact Drawn0.refl _ | apply Drawn0.step)⟩
                                  · rw [if_neg c18] at H
                                    have c18b0 : (a0 == 17) = false := beq_eq_false_iff_ne.mpr c18
                                    have c18b1 : (a0 != 17) = true := bne_iff_ne.mpr c18
                                    by_cases c19 : a0 = 18
                                    · rw [if_pos c19] at H
                                      have c19b0 : (a0 == 18) = true := beq_iff_eq.mpr c19
                                      have c19b1 : (a0 != 18) = false := bne_eq_false_iff_eq.mpr c19
                                      clear c19
                                      obtain rfl := Option.some.inj H
                                      go_enter Tryd.func51, Tryd.ntmps51
                                      go_wp2
                                      go_ret
                                      exact ⟨by first | rfl | (simp; done) | (simp [*]; done), by repeat (first | exact Drawn0.refl _ | apply Drawn0.step)⟩
                                    · rw [if_neg c19] at H
                                      have c19b0 : (a0 == 18) = false := beq_eq_false_iff_ne.mpr c19
                                      have c19b1 : (a0 != 18) = true := bne_iff_ne.mpr c19
                                      by_cases c20 : a0 = 19
                                      · rw [if_pos c20] at H
                                        have c20b0 : (a0 == 19) = true := beq_iff_eq.mpr c20
                                        have c20b1 : (a0 != 19) = false := bne_eq_false_iff_eq.mpr c20
                                        clear c20
                                        obtain rfl := Option.some.inj H
                                        go_enter Tryd.func51, Tryd.ntmps51
                                        go_wp2
                                        go_ret
                                        exact ⟨by first | rfl | (simp; done) | (simp [*]; done), by repeat (first | exact Drawn0.refl _ | apply Drawn0.step)⟩
                                      · rw [if_neg c20] at H
                                        have c20b0 : (a0 == 19) = false := beq_eq_false_iff_ne.mpr c20
                                        have c20b1 : (a0 != 19) = true := bne_iff_ne.mpr c20
                                        by_cases c21 : a0 = 20
                                        · rw [if_pos c21] at H
                                          have c21b0 : (a0 == 20) = true := beq_iff_eq.mpr c21
                                          have c21b1 : (a0 != 20) = false := bne_eq_false_iff_eq.mpr c21
                                          clear c21
                                          obtain rfl := Option.some.inj H
                                          go_enter Tryd.func51, Tryd.ntmps51
                                          go_wp2
                                          go_ret
                                          exact ⟨by first | rfl | (simp; done) | (simp [*]; done), by repeat (first | exact Drawn0.refl _ | apply Drawn0.step)⟩
                                        · rw [if_neg c21] at H
                                          have c21b0 : (a0 == 20) = false := beq_eq_false_iff_ne.mpr c21
                                          have c21b1 : (a0 != 20) = true := bne_iff_ne.mpr c21
                                          by_cases c22 : a0 = 21
                                          · rw [if_pos c22] at H
                                            have c22b0 : (a0 == 21) = true := beq_iff_eq.mpr c22
                                            have c22b1 : (a0 != 21) = false := bne_eq_false_iff_eq.mpr c22
                                            clear c22
                                            obtain rfl := Option.some.inj H
                                            go_enter Tryd.func51, Tryd.ntmps51
                                            go_wp2
                                            go_ret
                                            exact ⟨by first | rfl | (simp; done) | (simp [*]; done), by repeat (first | exact Drawn0.refl _ | apply Drawn0.step)⟩
                                          · rw [if_neg c22] at H
                                            have c22b0 : (a0 == 21) = false := beq_eq_false_iff_ne.mpr c22
                                            have c22b1 : (a0 != 21) = true := bne_iff_ne.mpr c22
                                            by_cases c23 : a0 = 22
                                            · rw [if_pos c23] at H
                                              have c23b0 : (a0 == 22) = true := beq_iff_eq.mpr c23
                                              have c23b1 : (a0 != 22) = false := bne_eq_false_iff_eq.mpr c23
                                              clear c23
                                              obtain rfl := Option.some.inj H
                                              go_enter Tryd.func51, Tryd.ntmps51
                                              go_wp2
                                              go_ret
                                              exact ⟨by first | rfl | (simp; done) | (simp [*]; done), by repeat (first | exact Drawn0.refl _ | apply Drawn0.step)⟩
                                            · rw [if_neg c23] at H
                                              have c23b0 : (a0 == 22) = false := beq_eq_false_iff_ne.mpr c23
                                              have c23b1 : (a0 != 22) = true := bne_iff_ne.mpr c23
                                              by_cases c24 : a0 = 23
                                              · rw [if_pos c24] at H
                                                have c24b0 : (a0 == 23) = true := beq_iff_eq.mpr c24
                                                have c24b1 : (a0 != 23) = false := bne_eq_false_iff_eq.mpr c24
                                                clear c24
                                                obtain rfl := Option.some.inj H
                                                go_enter Tryd.func51, Tryd.ntmps51
                                                go_wp2
                                                go_ret
                                                exact ⟨by first | rfl | (simp; done) | (simp [*]; done), by repeat (first | exact Drawn0.refl _ | apply Drawn0.step)⟩
                                              · rw [if_neg c24] at H
                                                have c24b0 : (a0 == 23) = false := beq_eq_false_iff_ne.mpr c24
                                                have c24b1 : (a0 != 23) = true := bne_iff_ne.mpr c24
                                                by_cases c25 : a0 = 24
                                                · rw [if_pos c25] at H
                                                  have c25b0 : (a0 == 24) = true := beq_iff_eq.mpr c25
                                                  have c25b1 : (a0 != 24) = false := bne_eq_false_iff_eq.mpr c25
                                                  clear c25
                                                  obtain rfl := Option.some.inj H
                                                  go_enter Tryd.func51, Tryd.ntmps51
                                                  go_wp2
                                                  go_ret
                                                  exact ⟨by first | rfl | (simp; done) | (simp [*]; done), by repeat (first | exact Drawn0.refl _ | apply Drawn0.step)⟩
                                                · rw [if_neg c25] at H
                                                  have c25b0 : (a0 == 24) = false := beq_eq_false_iff_ne.mpr c25
                                                  have c25b1 : (a0 != 24) = true := bne_iff_ne.mpr c25
                                                  by_cases c26 : a0 = 25
                                                  · rw [if_pos c26] at H
                                                    have c26b0 : (a0 == 25) = true := beq_iff_eq.mpr c26
                                                    have c26b1 : (a0 != 25) = false := bne_eq_false_iff_eq.mpr c26
                                                    clear c26
                                                    obtain rfl := Option.some.inj H
                                                    go_enter Tryd.func51, Tryd.ntmps51
                                                    go_wp2
                                                    go_ret
                                                    exact ⟨by first | rfl | (simp; done) | (simp [*]; done), by repeat (first | exact Drawn0.refl _ | apply Drawn0.step)⟩
                                                  · rw [if_neg c26] at H
                                                    have c26b0 : (a0 == 25) = false := beq_eq_false_iff_ne.mpr c26
                                                    have c26b1 : (a0 != 25) = true := bne_iff_ne.mpr c26
                                                    by_cases c27 : a0 = 26
                                                    · rw [if_pos c27] at H
                                                      have c27b0 : (a0 == 26) = true := beq_iff_eq.mpr c27
                                                      have c27b1 : (a0 != 26) = false := bne_eq_false_iff_eq.mpr c27
                                                      clear c27
                                                      obtain rfl := Option.some.inj H
                                                      go_enter Tryd.func51, Tryd.ntmps51
                                                      go_wp2
                                                      go_ret
                                                      exact ⟨by first | rfl | (simp; done) | (simp [*]; done), by repeat (first | exact Drawn0.refl _ | apply Drawn0.step)⟩
                                                    · rw [if_neg c27] at H
                                                      have c27b0 : (a0 == 26) = false := beq_eq_false_iff_ne.mpr c27
                                                      have c27b1 : (a0 != 26) = true := bne_iff_ne.mpr c27
                                                      by_cases c28 : a0 = 27
                                                      · rw [if_pos c28] at H
                                                        have c28b0 : (a0 == 27) = true := beq_iff_eq.mpr c28
                                                        have c28b1 : (a0 != 27) = false := bne_eq_false_iff_eq.mpr c28
                                                        clear c28
                                                        obtain rfl := Option.some.inj H
                                                        go_enter Tryd.func51, Tryd.ntmps51
                                                        go_wp2
                                                        go_ret
                                                        exact ⟨by first | rfl | (simp; done) | (simp [*]; done), by repeat (first | exact Drawn0.refl _ | apply Drawn0.step)⟩
                                                      · rw [if_neg c28] at H
                                                        have c28b0 : (a0 == 27) = false := beq_eq_false_iff_ne.mpr c28
                                                        have c28b1 : (a0 != 27) = true := bne_iff_ne.mpr c28
                                                        obtain rfl := Option.some.inj H
                                                        go_enter Tryd.func51, Tryd.ntmps51
                                                        go_wp2
                                                        go_ret
                                                        exact ⟨by first | rfl | (simp; done) | (simp [*]; done), by repeat (first | exact Drawn0.refl _ | apply Drawn0.step)⟩
end Go.Proofs.YtdhkmdgieflioaaDoor.F
namespace Go.Proofs.YtdhkmdgieflioaaDoor.F
open Go.RowKit Go.Proofs.YtdhkmdgieflioaaDoorW.PrintWords Go.Proofs.YtdhkmdgieflioaaDoorW.PrintLast Go.Proofs.YtdhkmdgieflioaaDoorW.PrintMore
attribute [local go_sem] max2_int min2_int max_two min_two max_three min_three max_four min_four
set_option linter.unusedVariables false
set_option linter.unusedSimpArgs false
def seedcornref07_Op.l0 : Nat → ByteArray → Int → Option (Int)
  | 0, _, _ => none
  | k + 1, x0, x3 => if x3 ≤ 27 then ((seedcornref07_Name.f x3).bind fun t395 => (if t395.toList = x0.toList then (some x3) else (seedcornref07_Op.l0 k x0 (wrap64 (x3 + 1))))) else (some 0)
def seedcornref07_Op.f (k : Nat) (a0 : ByteArray) : Option (Int) := seedcornref07_Op.l0 k a0 1
theorem seedcornref07_Op.mono_l : ∀ k, (∀ y0 y1, LeO (seedcornref07_Op.l0 k y0 y1) (seedcornref07_Op.l0 (k + 1) y0 y1))
  | 0 => fun _ _ r h => by simp [seedcornref07_Op.l0] at h
  | k + 1 => by
    have ih0 := seedcornref07_Op.mono_l k
    · intro y0 y1
      unfold seedcornref07_Op.l0
      repeat' first
      | (with_reducible exact ih0 _ _)
      | (with_reducible exact LeO.refl _)
      | (with_reducible exact LeO.none _)
      | (with_reducible refine LeO.ite ?_ ?_)
      | (with_reducible refine LeO.bind ?_ (fun _ => ?_))
      | exact ih0 _ _
      | exact LeO.none _
      | refine LeO.ite ?_ ?_
      | refine LeO.bind ?_ (fun _ => ?_)
theorem seedcornref07_Op.mono : ∀ a0 k, LeO (seedcornref07_Op.f k a0) (seedcornref07_Op.f (k + 1) a0) := by
  intro a0 k
  have ih0 := seedcornref07_Op.mono_l k
  unfold seedcornref07_Op.f
  repeat' first
      | (with_reducible exact ih0 _ _)
      | (with_reducible exact LeO.refl _)
      | (with_reducible exact LeO.none _)
      | (with_reducible refine LeO.ite ?_ ?_)
      | (with_reducible refine LeO.bind ?_ (fun _ => ?_))
      | exact ih0 _ _
      | exact LeO.none _
      | refine LeO.ite ?_ ?_
      | refine LeO.bind ?_ (fun _ => ?_)
set_option maxHeartbeats 8000000 in
set_option maxRecDepth 100000 in
theorem seedcornref07_Op.calls (k : Nat) (a0 : ByteArray) (r : Int) (w : World) (h : seedcornref07_Op.f k a0 = some r) :
    Calls Tryd.prog 52 #[.string a0] w fun e w' => e = .returned (.int .i64 r) ∧ Drawn0 w w' := by
  have H : (seedcornref07_Op.l0 k a0 1) = some r := h
  clear h
  have H' := Aside0.mk H
  clear H
  go_enter Tryd.func52, Tryd.ntmps52
  go_wp2
  go_loopg [3] k (fun kq v3 w' => ∃ (x3_1 : Int), v3 = .int .i64 x3_1 ∧ Aside0 (seedcornref07_Op.l0 kq a0 x3_1 = some r) ∧ Aside0 (kq ≤ k) ∧ Drawn0 w w')
  case atStart => exact ⟨(1), (by first | rfl | (simp; done) | (simp [*]; done)), H', ⟨Nat.le_refl _⟩, by repeat (first | exact Drawn0.refl _ | apply Drawn0.step)⟩
  case round =>
    clear H'
    obtain ⟨x3_1, rfl, HA, HK1, ⟨m1, rfl⟩⟩ := hrel
    cases gk with
    | zero => exact absurd HA.out (by simp [seedcornref07_Op.l0])
    | succ k1 =>
      have H := HA.out
      clear HA
      simp only [seedcornref07_Op.l0] at H
      by_cases c2 : x3_1 ≤ 27
      · rw [if_pos c2] at H
        have c2b0 : decide (x3_1 ≤ 27) = true := decide_eq_true c2
        clear c2
        replace H := Option.bind_eq_some_iff.mp H
        obtain ⟨t395, A30, H⟩ := H
        replace H : (if t395.toList = a0.toList then (some x3_1) else (seedcornref07_Op.l0 k1 a0 (wrap64 (x3_1 + 1)))) = some r := H
        have A3 := Aside0.mk A30
        clear A30
        by_cases c4 : t395.toList = a0.toList
        · rw [if_pos c4] at H
          have c4b0 : (t395.toList == a0.toList) = true := beq_iff_eq.mpr c4
          have c4b1 : (t395.toList != a0.toList) = false := bne_eq_false_iff_eq.mpr c4
          clear c4
          obtain rfl := Option.some.inj H
          go_wp2_with (first | ((with_reducible refine gate_callee (f := 51) rfl ?_); refine goesL_ (some 9) rfl rfl Tryd.func51 (by kernel_rfl) rfl #[.int .i64 x3_1] rfl (by (try simp only [List.map_toArray, List.map_cons, List.map_nil]); first | done | rfl | (simp only [List.length_drop, List.length_take]; rfl)) ?_; (with_reducible refine (seedcornref07_Name.calls x3_1 t395 _ A3.out).mono ?_); rintro e w' ⟨rfl, ⟨nd, rfl⟩⟩; refine ⟨_, rfl, ?_⟩))
          go_ret
          exact ⟨by first | rfl | (simp; done) | (simp [*]; done), by repeat (first | exact Drawn0.refl _ | apply Drawn0.step)⟩
        · rw [if_neg c4] at H
          have c4b0 : (t395.toList == a0.toList) = false := beq_eq_false_iff_ne.mpr c4
          have c4b1 : (t395.toList != a0.toList) = true := bne_iff_ne.mpr c4
          have H' := Aside0.mk H
          clear H
          go_wp2_with (first | ((with_reducible refine gate_callee (f := 51) rfl ?_); refine goesL_ (some 9) rfl rfl Tryd.func51 (by kernel_rfl) rfl #[.int .i64 x3_1] rfl (by (try simp only [List.map_toArray, List.map_cons, List.map_nil]); first | done | rfl | (simp only [List.length_drop, List.length_take]; rfl)) ?_; (with_reducible refine (seedcornref07_Name.calls x3_1 t395 _ A3.out).mono ?_); rintro e w' ⟨rfl, ⟨nd, rfl⟩⟩; refine ⟨_, rfl, ?_⟩))
          go_roundg k1
          case measure => have := HK1.out; omega
          case rel => exact ⟨(wrap64 (x3_1 + 1)), (by first | rfl | (simp; done) | (simp [*]; done)), H', ⟨by have := HK1.out; omega⟩, by repeat (first | exact Drawn0.refl _ | apply Drawn0.step)⟩
      · rw [if_neg c2] at H
        have c2b0 : decide (x3_1 ≤ 27) = false := decide_eq_false c2
        clear c2
        obtain rfl := Option.some.inj H
        go_wp2
        go_ret
        exact ⟨by first | rfl | (simp; done) | (simp [*]; done), by repeat (first | exact Drawn0.refl _ | apply Drawn0.step)⟩
end Go.Proofs.YtdhkmdgieflioaaDoor.F
namespace Go.Proofs.YtdhkmdgieflioaaDoor.F
open Go.RowKit Go.Proofs.YtdhkmdgieflioaaDoorW.PrintWords Go.Proofs.YtdhkmdgieflioaaDoorW.PrintLast Go.Proofs.YtdhkmdgieflioaaDoorW.PrintMore
attribute [local go_sem] max2_int min2_int max_two min_two max_three min_three max_four min_four
set_option linter.unusedVariables false
set_option linter.unusedSimpArgs false
def seedcornlaw07_InstNames.j0 : Nat → Int → ByteArray → ByteArray → Int → Bool → Option (Bool)
  | 0, _, _, _, _, _ => none
  | k + 1, x0, x1, x5, x6, x25 => if x25 = true then (some false) else (if x5.toList = ([] : List UInt8) then (if x6 = 0 then (some true) else ((inst_Name.f x6).bind fun t401 => (some (t401.toList == x1.toList)))) else ((inst_Op.f x5).bind fun t402 => (if t402 = x0 then (if x6 = 0 then (some true) else ((inst_Name.f x6).bind fun t403 => (some (t403.toList == x1.toList)))) else (some false))))
def seedcornlaw07_InstNames.f (k : Nat) (a0 : Int) (a1 : ByteArray) : Option (Bool) := (seedcornlaw07_alive.f).bind fun t396 => (if t396 = true then (if (a1.size : Int) > 100 then (some true) else ((inst_Name.f a0).bind fun t397 => ((inst_Op.f a1).bind fun t398 => ((seedcornref07_Name.f a0).bind fun t399 => (if t397.toList = t399.toList then ((seedcornref07_Op.f k a1).bind fun t400 => (seedcornlaw07_InstNames.j0 k a0 a1 t397 t398 (t398 != t400))) else (seedcornlaw07_InstNames.j0 k a0 a1 t397 t398 true)))))) else (some false))
theorem seedcornlaw07_InstNames.mono_l : ∀ k, (∀ y0 y1 y2 y3 y4, LeO (seedcornlaw07_InstNames.j0 k y0 y1 y2 y3 y4) (seedcornlaw07_InstNames.j0 (k + 1) y0 y1 y2 y3 y4))
  | 0 => fun _ _ _ _ _ r h => by simp [seedcornlaw07_InstNames.j0] at h
  | k + 1 => by
    have ih0 := seedcornlaw07_InstNames.mono_l k
    · intro y0 y1 y2 y3 y4
      unfold seedcornlaw07_InstNames.j0
      repeat' first
      | (with_reducible exact ih0 _ _ _ _ _)
      | (with_reducible exact seedcornref07_Op.mono _ _)
      | (with_reducible exact LeO.refl _)
      | (with_reducible exact LeO.none _)
      | (with_reducible refine LeO.ite ?_ ?_)
      | (with_reducible refine LeO.bind ?_ (fun _ => ?_))
      | exact ih0 _ _ _ _ _
      | exact seedcornref07_Op.mono _ _
      | exact LeO.none _
      | refine LeO.ite ?_ ?_
      | refine LeO.bind ?_ (fun _ => ?_)
theorem seedcornlaw07_InstNames.mono : ∀ a0 a1 k, LeO (seedcornlaw07_InstNames.f k a0 a1) (seedcornlaw07_InstNames.f (k + 1) a0 a1) := by
  intro a0 a1 k
  have ih0 := seedcornlaw07_InstNames.mono_l k
  unfold seedcornlaw07_InstNames.f
  repeat' first
      | (with_reducible exact ih0 _ _ _ _ _)
      | (with_reducible exact seedcornref07_Op.mono _ _)
      | (with_reducible exact LeO.refl _)
      | (with_reducible exact LeO.none _)
      | (with_reducible refine LeO.ite ?_ ?_)
      | (with_reducible refine LeO.bind ?_ (fun _ => ?_))
      | exact ih0 _ _ _ _ _
      | exact seedcornref07_Op.mono _ _
      | exact LeO.none _
      | refine LeO.ite ?_ ?_
      | refine LeO.bind ?_ (fun _ => ?_)
set_option maxHeartbeats 8000000 in
set_option maxRecDepth 100000 in
theorem seedcornlaw07_InstNames.calls (k : Nat) (a0 : Int) (a1 : ByteArray) (r : Bool) (w : World) (hGK : GK w) (hGT : GT w) (h : seedcornlaw07_InstNames.f k a0 a1 = some r) :
    Calls Tryd.prog 15 #[.int .i64 a0, .string a1] w fun e w' => e = .returned (.bool r) ∧ Below w.heap.size w w' := by
  have HGK := Aside0.mk hGK
  clear hGK
  have HGT := Aside0.mk hGT
  clear hGT
  have HB := Aside0.mk (Below.refl w.heap.size w)
  have H : ((seedcornlaw07_alive.f).bind fun t396 => (if t396 = true then (if (a1.size : Int) > 100 then (some true) else ((inst_Name.f a0).bind fun t397 => ((inst_Op.f a1).bind fun t398 => ((seedcornref07_Name.f a0).bind fun t399 => (if t397.toList = t399.toList then ((seedcornref07_Op.f k a1).bind fun t400 => (seedcornlaw07_InstNames.j0 k a0 a1 t397 t398 (t398 != t400))) else (seedcornlaw07_InstNames.j0 k a0 a1 t397 t398 true)))))) else (some false))) = some r := h
  clear h
  replace H := Option.bind_eq_some_iff.mp H
  obtain ⟨t396, A30, H⟩ := H
  replace H : (if t396 = true then (if (a1.size : Int) > 100 then (some true) else ((inst_Name.f a0).bind fun t397 => ((inst_Op.f a1).bind fun t398 => ((seedcornref07_Name.f a0).bind fun t399 => (if t397.toList = t399.toList then ((seedcornref07_Op.f k a1).bind fun t400 => (seedcornlaw07_InstNames.j0 k a0 a1 t397 t398 (t398 != t400))) else (seedcornlaw07_InstNames.j0 k a0 a1 t397 t398 true)))))) else (some false)) = some r := H
  have A3 := Aside0.mk A30
  clear A30
  by_cases c4 : t396 = true
  · subst c4
    have H1 : (if (a1.size : Int) > 100 then (some true) else ((inst_Name.f a0).bind fun t397 => ((inst_Op.f a1).bind fun t398 => ((seedcornref07_Name.f a0).bind fun t399 => (if t397.toList = t399.toList then ((seedcornref07_Op.f k a1).bind fun t400 => (seedcornlaw07_InstNames.j0 k a0 a1 t397 t398 (t398 != t400))) else (seedcornlaw07_InstNames.j0 k a0 a1 t397 t398 true)))))) = some r := by rw [if_pos rfl] at H; exact H
    clear H
    have H := H1
    clear H1
    by_cases c5 : (a1.size : Int) > 100
    · rw [if_pos c5] at H
      have c5b0 : decide (100 < (a1.size : Int)) = true := decide_eq_true c5
      have c5b1 : decide (100 < a1.size) = true := decide_eq_true (by omega)
      clear c5
      obtain rfl := Option.some.inj H
      go_enter Tryd.func15, Tryd.ntmps15
      go_wp2_with (first | ((with_reducible refine gate_callee (f := 37) rfl ?_); refine goesL_ (some 7) rfl rfl Tryd.func37 (by kernel_rfl) rfl #[] rfl (by (try simp only [List.map_toArray, List.map_cons, List.map_nil]); first | done | rfl | (simp only [List.length_drop, List.length_take]; rfl)) ?_; (with_reducible refine (seedcornlaw07_alive.calls  true _ ?side1 ?side2 A3.out).mono ?_); (case side1 => exact GK.below HGK.out (by repeat (first | (with_reducible first | exact HB.out | apply below_alloc | apply pw_below_drewN | apply below_drew1) | exact HB.out))); (case side2 => exact GT.below HGT.out (by repeat (first | (with_reducible first | exact HB.out | apply below_alloc | apply pw_below_drewN | apply below_drew1) | exact HB.out))); rintro e w6 ⟨rfl, hb⟩; refine ⟨_, rfl, ?_⟩; have n0_ := Aside0.mk (below_step (by repeat (first | (with_reducible first | exact HB.out | apply below_alloc | apply pw_below_drewN | apply below_drew1) | exact HB.out)) hb); clear HB; have HB := n0_; clear n0_; (try clear hb); (try clear hb2); (try clear hk); (try clear hi)))
      go_ret
      exact ⟨by first | rfl | (simp [errW_none, errW_some] <;> rfl) | (simp [*, errW_none, errW_some] <;> rfl), by repeat (first | (with_reducible first | exact HB.out | apply below_alloc | apply pw_below_drewN | apply below_drew1) | exact HB.out)⟩
    · rw [if_neg c5] at H
      have c5b0 : decide (100 < (a1.size : Int)) = false := decide_eq_false c5
      have c5b1 : decide (100 < a1.size) = false := decide_eq_false (by omega)
      clear c5
      replace H := Option.bind_eq_some_iff.mp H
      obtain ⟨t397, A70, H⟩ := H
      replace H : ((inst_Op.f a1).bind fun t398 => ((seedcornref07_Name.f a0).bind fun t399 => (if t397.toList = t399.toList then ((seedcornref07_Op.f k a1).bind fun t400 => (seedcornlaw07_InstNames.j0 k a0 a1 t397 t398 (t398 != t400))) else (seedcornlaw07_InstNames.j0 k a0 a1 t397 t398 true)))) = some r := H
      have A7 := Aside0.mk A70
      clear A70
      replace H := Option.bind_eq_some_iff.mp H
      obtain ⟨t398, A80, H⟩ := H
      replace H : ((seedcornref07_Name.f a0).bind fun t399 => (if t397.toList = t399.toList then ((seedcornref07_Op.f k a1).bind fun t400 => (seedcornlaw07_InstNames.j0 k a0 a1 t397 t398 (t398 != t400))) else (seedcornlaw07_InstNames.j0 k a0 a1 t397 t398 true))) = some r := H
      have A8 := Aside0.mk A80
      clear A80
      have HC9 := Aside0.mk H
      clear H
      go_enter Tryd.func15, Tryd.ntmps15
      go_upto_region 6 with (first | ((with_reducible refine gate_callee (f := 37) rfl ?_); refine goesL_ (some 7) rfl rfl Tryd.func37 (by kernel_rfl) rfl #[] rfl (by (try simp only [List.map_toArray, List.map_cons, List.map_nil]); first | done | rfl | (simp only [List.length_drop, List.length_take]; rfl)) ?_; (with_reducible refine (seedcornlaw07_alive.calls  true _ ?side1 ?side2 A3.out).mono ?_); (case side1 => exact GK.below HGK.out (by repeat (first | (with_reducible first | exact HB.out | apply below_alloc | apply pw_below_drewN | apply below_drew1) | exact HB.out))); (case side2 => exact GT.below HGT.out (by repeat (first | (with_reducible first | exact HB.out | apply below_alloc | apply pw_below_drewN | apply below_drew1) | exact HB.out))); rintro e w10 ⟨rfl, hb⟩; refine ⟨_, rfl, ?_⟩; have n0_ := Aside0.mk (below_step (by repeat (first | (with_reducible first | exact HB.out | apply below_alloc | apply pw_below_drewN | apply below_drew1) | exact HB.out)) hb); clear HB; have HB := n0_; clear n0_; (try clear hb); (try clear hb2); (try clear hk); (try clear hi)) | ((with_reducible refine gate_callee (f := 49) rfl ?_); refine goesL_ (some 13) rfl rfl Tryd.func49 (by kernel_rfl) rfl #[.int .i64 a0] rfl (by (try simp only [List.map_toArray, List.map_cons, List.map_nil]); first | done | rfl | (simp only [List.length_drop, List.length_take]; rfl)) ?_; (with_reducible refine (inst_Name.calls a0 t397 _ ?side1 A7.out).mono ?_); (case side1 => exact GK.below HGK.out (by repeat (first | (with_reducible first | exact HB.out | apply below_alloc | apply pw_below_drewN | apply below_drew1) | exact HB.out))); rintro e w11 ⟨rfl, hb⟩; refine ⟨_, rfl, ?_⟩; have n0_ := Aside0.mk (below_step (by repeat (first | (with_reducible first | exact HB.out | apply below_alloc | apply pw_below_drewN | apply below_drew1) | exact HB.out)) hb); clear HB; have HB := n0_; clear n0_; (try clear hb); (try clear hb2); (try clear hk); (try clear hi)) | ((with_reducible refine gate_callee (f := 50) rfl ?_); refine goesL_ (some 15) rfl rfl Tryd.func50 (by kernel_rfl) rfl #[.string a1] rfl (by (try simp only [List.map_toArray, List.map_cons, List.map_nil]); first | done | rfl | (simp only [List.length_drop, List.length_take]; rfl)) ?_; (with_reducible refine (inst_Op.calls a1 t398 _ ?side1 A8.out).mono ?_); (case side1 => exact GK.below HGK.out (by repeat (first | (with_reducible first | exact HB.out | apply below_alloc | apply pw_below_drewN | apply below_drew1) | exact HB.out))); rintro e w12 ⟨rfl, hb⟩; refine ⟨_, rfl, ?_⟩; have n0_ := Aside0.mk (below_step (by repeat (first | (with_reducible first | exact HB.out | apply below_alloc | apply pw_below_drewN | apply below_drew1) | exact HB.out)) hb); clear HB; have HB := n0_; clear n0_; (try clear hb); (try clear hb2); (try clear hk); (try clear hi)))
      (try simp only [Act.put, List.setIfInBounds_toArray, List.set_cons_zero, List.set_cons_succ])
      go_cut [25] (fun v25 wc => ∃ (kq : Nat) (x25_8 : Bool), v25 = .bool x25_8 ∧ Aside0 (seedcornlaw07_InstNames.j0 kq a0 a1 t397 t398 x25_8 = some r) ∧ Aside0 (kq ≤ k) ∧ Aside0 (Below w.heap.size w wc))
      case first =>
        have H := HC9.out
        clear HC9
        replace H := Option.bind_eq_some_iff.mp H
        obtain ⟨t399, A130, H⟩ := H
        replace H : (if t397.toList = t399.toList then ((seedcornref07_Op.f k a1).bind fun t400 => (seedcornlaw07_InstNames.j0 k a0 a1 t397 t398 (t398 != t400))) else (seedcornlaw07_InstNames.j0 k a0 a1 t397 t398 true)) = some r := H
        have A13 := Aside0.mk A130
        clear A130
        by_cases c14 : t397.toList = t399.toList
        · rw [if_pos c14] at H
          have c14b0 : (t397.toList == t399.toList) = true := beq_iff_eq.mpr c14
          have c14b1 : (t397.toList != t399.toList) = false := bne_eq_false_iff_eq.mpr c14
          clear c14
          (first | rw [c14b0] | (simp only [i64_w, i32_w]; rw [c14b0]) | skip)
          replace H := Option.bind_eq_some_iff.mp H
          obtain ⟨t400, A150, H⟩ := H
          replace H : (seedcornlaw07_InstNames.j0 k a0 a1 t397 t398 (t398 != t400)) = some r := H
          have A15 := Aside0.mk A150
          clear A150
          have H' := Aside0.mk H
          clear H
          go_wp2_with (first | ((with_reducible refine gate_callee (f := 51) rfl ?_); refine goesL_ (some 18) rfl rfl Tryd.func51 (by kernel_rfl) rfl #[.int .i64 a0] rfl (by (try simp only [List.map_toArray, List.map_cons, List.map_nil]); first | done | rfl | (simp only [List.length_drop, List.length_take]; rfl)) ?_; (with_reducible refine (seedcornref07_Name.calls a0 t399 _ A13.out).mono ?_); rintro e w' ⟨rfl, ⟨nd, rfl⟩⟩; refine ⟨_, rfl, ?_⟩) | (go_at_call 52; (with_reducible refine (seedcornref07_Op.calls k a1 t400 _ A15.out).mono ?_); rintro e w' ⟨rfl, ⟨nd, rfl⟩⟩))
          go_meet
          case rel => exact ⟨_, ((t398 != t400)), (by first | rfl | (simp; done) | (simp [*]; done)), H', ⟨by first | omega | exact Nat.le_refl _⟩, ⟨by repeat (first | (with_reducible first | exact HB.out | apply below_alloc | apply pw_below_drewN | apply below_drew1) | exact HB.out)⟩⟩
        · rw [if_neg c14] at H
          have c14b0 : (t397.toList == t399.toList) = false := beq_eq_false_iff_ne.mpr c14
          have c14b1 : (t397.toList != t399.toList) = true := bne_iff_ne.mpr c14
          (first | rw [c14b0] | (simp only [i64_w, i32_w]; rw [c14b0]) | skip)
          have H' := Aside0.mk H
          clear H
          go_wp2_with (first | ((with_reducible refine gate_callee (f := 51) rfl ?_); refine goesL_ (some 18) rfl rfl Tryd.func51 (by kernel_rfl) rfl #[.int .i64 a0] rfl (by (try simp only [List.map_toArray, List.map_cons, List.map_nil]); first | done | rfl | (simp only [List.length_drop, List.length_take]; rfl)) ?_; (with_reducible refine (seedcornref07_Name.calls a0 t399 _ A13.out).mono ?_); rintro e w' ⟨rfl, ⟨nd, rfl⟩⟩; refine ⟨_, rfl, ?_⟩))
          go_meet
          case rel => exact ⟨_, (true), (by first | rfl | (simp; done) | (simp [*]; done)), H', ⟨by first | omega | exact Nat.le_refl _⟩, ⟨by repeat (first | (with_reducible first | exact HB.out | apply below_alloc | apply pw_below_drewN | apply below_drew1) | exact HB.out)⟩⟩
      case rest =>
        clear HC9
        try clear c1
        try clear p2
        try clear c3
        try clear c4
        try clear c5
        try clear c5b0
        try clear c5b1
        try clear c14
        try clear c14b0
        try clear c14b1
        try clear c15
        obtain ⟨kq, x25_8, rfl, HA, HJ8, HB⟩ := hcut
        cases kq with
        | zero => exact absurd HA.out (by simp [seedcornlaw07_InstNames.j0])
        | succ kj8 =>
          have H := HA.out
          clear HA
          simp only [seedcornlaw07_InstNames.j0] at H
          by_cases c16 : x25_8 = true
          · subst c16
            have H1 : (some false) = some r := by rw [if_pos rfl] at H; exact H
            clear H
            have H := H1
            clear H1
            obtain rfl := Option.some.inj H
            go_wp2
            go_ret
            exact ⟨by first | rfl | (simp [errW_none, errW_some] <;> rfl) | (simp [*, errW_none, errW_some] <;> rfl), by repeat (first | (with_reducible first | exact HB.out | apply below_alloc | apply pw_below_drewN | apply below_drew1) | exact HB.out)⟩
          · replace c16 := Bool.eq_false_iff.mpr c16
            subst c16
            have H1 : (if t397.toList = ([] : List UInt8) then (if t398 = 0 then (some true) else ((inst_Name.f t398).bind fun t401 => (some (t401.toList == a1.toList)))) else ((inst_Op.f t397).bind fun t402 => (if t402 = a0 then (if t398 = 0 then (some true) else ((inst_Name.f t398).bind fun t403 => (some (t403.toList == a1.toList)))) else (some false)))) = some r := by rw [if_neg (show ¬ (false = true) by decide)] at H; exact H
            clear H
            have H := H1
            clear H1
            by_cases c17 : t397.toList = ([] : List UInt8)
            · rw [if_pos c17] at H
              have c17b0 : (t397.toList == ([] : List UInt8)) = true := beq_iff_eq.mpr c17
              have c17b1 : (t397.toList != ([] : List UInt8)) = false := bne_eq_false_iff_eq.mpr c17
              clear c17
              by_cases c18 : t398 = 0
              · rw [if_pos c18] at H
                have c18b0 : (t398 == 0) = true := beq_iff_eq.mpr c18
                have c18b1 : (t398 != 0) = false := bne_eq_false_iff_eq.mpr c18
                clear c18
                obtain rfl := Option.some.inj H
                go_wp2
                go_ret
                exact ⟨by first | rfl | (simp [errW_none, errW_some] <;> rfl) | (simp [*, errW_none, errW_some] <;> rfl), by repeat (first | (with_reducible first | exact HB.out | apply below_alloc | apply pw_below_drewN | apply below_drew1) | exact HB.out)⟩
              · rw [if_neg c18] at H
                have c18b0 : (t398 == 0) = false := beq_eq_false_iff_ne.mpr c18
                have c18b1 : (t398 != 0) = true := bne_iff_ne.mpr c18
                replace H := Option.bind_eq_some_iff.mp H
                obtain ⟨t401, A190, H⟩ := H
                replace H : (some (t401.toList == a1.toList)) = some r := H
                have A19 := Aside0.mk A190
                clear A190
                obtain rfl := Option.some.inj H
                go_wp2_with (first | (go_at_call 49; (with_reducible refine (inst_Name.calls t398 t401 _ ?side1 A19.out).mono ?_); (case side1 => exact GK.below HGK.out (by repeat (first | (with_reducible first | exact HB.out | apply below_alloc | apply pw_below_drewN | apply below_drew1) | exact HB.out))); rintro e w20 ⟨rfl, hb⟩; have n0_ := Aside0.mk (below_step (by repeat (first | (with_reducible first | exact HB.out | apply below_alloc | apply pw_below_drewN | apply below_drew1) | exact HB.out)) hb); clear HB; have HB := n0_; clear n0_; (try clear hb); (try clear hb2); (try clear hk); (try clear hi)))
                go_ret
                exact ⟨by first | rfl | (simp [errW_none, errW_some] <;> rfl) | (simp [*, errW_none, errW_some] <;> rfl), by repeat (first | (with_reducible first | exact HB.out | apply below_alloc | apply pw_below_drewN | apply below_drew1) | exact HB.out)⟩
            · rw [if_neg c17] at H
              have c17b0 : (t397.toList == ([] : List UInt8)) = false := beq_eq_false_iff_ne.mpr c17
              have c17b1 : (t397.toList != ([] : List UInt8)) = true := bne_iff_ne.mpr c17
              replace H := Option.bind_eq_some_iff.mp H
              obtain ⟨t402, A210, H⟩ := H
              replace H : (if t402 = a0 then (if t398 = 0 then (some true) else ((inst_Name.f t398).bind fun t403 => (some (t403.toList == a1.toList)))) else (some false)) = some r := H
              have A21 := Aside0.mk A210
              clear A210
              by_cases c22 : t402 = a0
              · rw [if_pos c22] at H
                have c22b0 : (t402 == a0) = true := beq_iff_eq.mpr c22
                have c22b1 : (t402 != a0) = false := bne_eq_false_iff_eq.mpr c22
                clear c22
                by_cases c23 : t398 = 0
                · rw [if_pos c23] at H
                  have c23b0 : (t398 == 0) = true := beq_iff_eq.mpr c23
                  have c23b1 : (t398 != 0) = false := bne_eq_false_iff_eq.mpr c23
                  clear c23
                  obtain rfl := Option.some.inj H
                  go_wp2_with (first | (go_at_call 50; (with_reducible refine (inst_Op.calls t397 t402 _ ?side1 A21.out).mono ?_); (case side1 => exact GK.below HGK.out (by repeat (first | (with_reducible first | exact HB.out | apply below_alloc | apply pw_below_drewN | apply below_drew1) | exact HB.out))); rintro e w24 ⟨rfl, hb⟩; have n0_ := Aside0.mk (below_step (by repeat (first | (with_reducible first | exact HB.out | apply below_alloc | apply pw_below_drewN | apply below_drew1) | exact HB.out)) hb); clear HB; have HB := n0_; clear n0_; (try clear hb); (try clear hb2); (try clear hk); (try clear hi)))
                  go_ret
                  exact ⟨by first | rfl | (simp [errW_none, errW_some] <;> rfl) | (simp [*, errW_none, errW_some] <;> rfl), by repeat (first | (with_reducible first | exact HB.out | apply below_alloc | apply pw_below_drewN | apply below_drew1) | exact HB.out)⟩
                · rw [if_neg c23] at H
                  have c23b0 : (t398 == 0) = false := beq_eq_false_iff_ne.mpr c23
                  have c23b1 : (t398 != 0) = true := bne_iff_ne.mpr c23
                  replace H := Option.bind_eq_some_iff.mp H
                  obtain ⟨t403, A250, H⟩ := H
                  replace H : (some (t403.toList == a1.toList)) = some r := H
                  have A25 := Aside0.mk A250
                  clear A250
                  obtain rfl := Option.some.inj H
                  go_wp2_with (first | (go_at_call 50; (with_reducible refine (inst_Op.calls t397 t402 _ ?side1 A21.out).mono ?_); (case side1 => exact GK.below HGK.out (by repeat (first | (with_reducible first | exact HB.out | apply below_alloc | apply pw_below_drewN | apply below_drew1) | exact HB.out))); rintro e w26 ⟨rfl, hb⟩; have n0_ := Aside0.mk (below_step (by repeat (first | (with_reducible first | exact HB.out | apply below_alloc | apply pw_below_drewN | apply below_drew1) | exact HB.out)) hb); clear HB; have HB := n0_; clear n0_; (try clear hb); (try clear hb2); (try clear hk); (try clear hi)) | (go_at_call 49; (with_reducible refine (inst_Name.calls t398 t403 _ ?side1 A25.out).mono ?_); (case side1 => exact GK.below HGK.out (by repeat (first | (with_reducible first | exact HB.out | apply below_alloc | apply pw_below_drewN | apply below_drew1) | exact HB.out))); rintro e w27 ⟨rfl, hb⟩; have n0_ := Aside0.mk (below_step (by repeat (first | (with_reducible first | exact HB.out | apply below_alloc | apply pw_below_drewN | apply below_drew1) | exact HB.out)) hb); clear HB; have HB := n0_; clear n0_; (try clear hb); (try clear hb2); (try clear hk); (try clear hi)))
                  go_ret
                  exact ⟨by first | rfl | (simp [errW_none, errW_some] <;> rfl) | (simp [*, errW_none, errW_some] <;> rfl), by repeat (first | (with_reducible first | exact HB.out | apply below_alloc | apply pw_below_drewN | apply below_drew1) | exact HB.out)⟩
              · rw [if_neg c22] at H
                have c22b0 : (t402 == a0) = false := beq_eq_false_iff_ne.mpr c22
                have c22b1 : (t402 != a0) = true := bne_iff_ne.mpr c22
                obtain rfl := Option.some.inj H
                go_wp2_with (first | (go_at_call 50; (with_reducible refine (inst_Op.calls t397 t402 _ ?side1 A21.out).mono ?_); (case side1 => exact GK.below HGK.out (by repeat (first | (with_reducible first | exact HB.out | apply below_alloc | apply pw_below_drewN | apply below_drew1) | exact HB.out))); rintro e w28 ⟨rfl, hb⟩; have n0_ := Aside0.mk (below_step (by repeat (first | (with_reducible first | exact HB.out | apply below_alloc | apply pw_below_drewN | apply below_drew1) | exact HB.out)) hb); clear HB; have HB := n0_; clear n0_; (try clear hb); (try clear hb2); (try clear hk); (try clear hi)))
                go_ret
                exact ⟨by first | rfl | (simp [errW_none, errW_some] <;> rfl) | (simp [*, errW_none, errW_some] <;> rfl), by repeat (first | (with_reducible first | exact HB.out | apply below_alloc | apply pw_below_drewN | apply below_drew1) | exact HB.out)⟩
  · replace c4 := Bool.eq_false_iff.mpr c4
    subst c4
    have H1 : (some false) = some r := by rw [if_neg (show ¬ (false = true) by decide)] at H; exact H
    clear H
    have H := H1
    clear H1
    obtain rfl := Option.some.inj H
    go_enter Tryd.func15, Tryd.ntmps15
    go_wp2_with (first | ((with_reducible refine gate_callee (f := 37) rfl ?_); refine goesL_ (some 7) rfl rfl Tryd.func37 (by kernel_rfl) rfl #[] rfl (by (try simp only [List.map_toArray, List.map_cons, List.map_nil]); first | done | rfl | (simp only [List.length_drop, List.length_take]; rfl)) ?_; (with_reducible refine (seedcornlaw07_alive.calls  false _ ?side1 ?side2 A3.out).mono ?_); (case side1 => exact GK.below HGK.out (by repeat (first | (with_reducible first | exact HB.out | apply below_alloc | apply pw_below_drewN | apply below_drew1) | exact HB.out))); (case side2 => exact GT.below HGT.out (by repeat (first | (with_reducible first | exact HB.out | apply below_alloc | apply pw_below_drewN | apply below_drew1) | exact HB.out))); rintro e w29 ⟨rfl, hb⟩; refine ⟨_, rfl, ?_⟩; have n0_ := Aside0.mk (below_step (by repeat (first | (with_reducible first | exact HB.out | apply below_alloc | apply pw_below_drewN | apply below_drew1) | exact HB.out)) hb); clear HB; have HB := n0_; clear n0_; (try clear hb); (try clear hb2); (try clear hk); (try clear hi)))
    go_ret
    exact ⟨by first | rfl | (simp [errW_none, errW_some] <;> rfl) | (simp [*, errW_none, errW_some] <;> rfl), by repeat (first | (with_reducible first | exact HB.out | apply below_alloc | apply pw_below_drewN | apply below_drew1) | exact HB.out)⟩
end Go.Proofs.YtdhkmdgieflioaaDoor.F
namespace Go.Proofs.YtdhkmdgieflioaaDoor.F
open Go.RowKit Go.Proofs.YtdhkmdgieflioaaDoorW.PrintWords Go.Proofs.YtdhkmdgieflioaaDoorW.PrintLast Go.Proofs.YtdhkmdgieflioaaDoorW.PrintMore
set_option linter.unusedVariables false
set_option linter.unusedSimpArgs false
theorem wrapI {x : Int} (h0 : -9223372036854775808 ≤ x) (h1 : x ≤ 9223372036854775807) : wrap64 x = x := by unfold wrap64; omega
theorem alive_f : seedcornlaw07_alive.f = some true := by kernel_rfl
def apartOk (i j : Nat) : Bool := decide (i ≤ j) || decide (j = 0) || decide (28 ≤ i) || !((nameOf (i : Int)).data.toList == (nameOf (j : Int)).data.toList)
theorem apart_all : ((List.range 28).all fun i => (List.range 28).all fun j => apartOk i j) = true := by kernel_rfl
theorem names_apart (i j : Nat) (hj : 0 < j) (hij : j < i) (hi : i < 28) : (nameOf (i : Int)).toList ≠ (nameOf (j : Int)).toList := by
  have h1 := List.all_eq_true.1 apart_all i (List.mem_range.2 hi)
  have h2 := List.all_eq_true.1 h1 j (List.mem_range.2 (by omega))
  rw [ByteArray.toList_eq, ByteArray.toList_eq]
  intro h
  unfold apartOk at h2
  rw [h, decide_eq_false (show ¬ i ≤ j by omega), decide_eq_false (show ¬ j = 0 by omega), decide_eq_false (show ¬ 28 ≤ i by omega)] at h2
  simp at h2
theorem filled_all : ((List.range 28).all fun i => decide (i = 0) || !((nameOf (i : Int)).data.toList == [])) = true := by kernel_rfl
theorem name_filled (i : Int) (h1 : 1 ≤ i) (h2 : i < 28) : (nameOf i).toList ≠ [] := by
  obtain ⟨n, rfl⟩ : ∃ n : Nat, i = n := ⟨i.toNat, by omega⟩
  have h3 := List.all_eq_true.1 filled_all n (List.mem_range.2 (by omega))
  rw [ByteArray.toList_eq]
  intro h
  rw [h, decide_eq_false (show ¬ n = 0 by omega)] at h3
  simp at h3
theorem name_empty (i : Int) (h : ¬ (1 ≤ i ∧ i < 28)) : (nameOf i).toList = [] := by
  rw [ByteArray.toList_eq]
  by_cases h0 : i = 0
  · subst h0; rfl
  · unfold nameOf
    rw [if_neg (by omega)]
theorem counts_l1 (x0 : Int) (i : Nat) (hi : i < 28) (hi1 : 1 ≤ i) (x3 : Int) (h3 : x3 = (i : Int) - 1) (G : Ev (fun k => seedcornlaw07_InstCounts.l0 k x0 (i : Int) ((i + 1 : Nat) : Int)) true) (d : Nat) : ∀ (j : Nat), j + d = i → 0 < j →
    Ev (fun k => seedcornlaw07_InstCounts.l1 k x0 x3 (i : Int) (j : Int)) true := by
  induction d with
  | zero =>
    intro j hj hj0
    have hn := name_filled (i : Int) (by omega) (by omega)
    refine Ev.step (f := fun k => seedcornlaw07_InstCounts.l0 k x0 (i : Int) ((i + 1 : Nat) : Int)) (fun k => ?_) G
    simp only [seedcornlaw07_InstCounts.l1, inst_Name.f, Option.bind_some]
    rw [if_neg (by omega), if_neg hn, wrapI (by omega) (by omega), wrapI (by omega) (by omega)]
    congr 1
    omega
  | succ d ih =>
    intro j hj hj0
    have hn := names_apart i j hj0 (by omega) hi
    refine Ev.step (f := fun k => seedcornlaw07_InstCounts.l1 k x0 x3 (i : Int) ((j + 1 : Nat) : Int)) (fun k => ?_) (ih (j + 1) (by omega) (by omega))
    simp only [seedcornlaw07_InstCounts.l1, inst_Name.f, Option.bind_some]
    rw [if_pos (by omega), if_neg hn, wrapI (by omega) (by omega)]
    rfl
theorem counts_l0 (x0 : Int) (d : Nat) : ∀ (i : Nat), i + d = 28 → 1 ≤ i → Ev (fun k => seedcornlaw07_InstCounts.l0 k x0 ((i : Int) - 1) (i : Int)) true := by
  induction d with
  | zero =>
    intro i hi h1
    obtain rfl : i = 28 := by omega
    refine Ev.step (f := fun _ => some true) (fun k => ?_) (Ev.now _)
    simp only [seedcornlaw07_InstCounts.l0, inst_Name.f, Option.bind_some]
    rw [if_neg (by decide), if_pos (by decide)]
    by_cases h : x0 ≥ 1
    · rw [if_pos h]
      by_cases h2 : x0 ≤ 27
      · have := name_filled x0 (by omega) (by omega)
        rw [decide_eq_true h2, bne_iff_ne.2 this]
        rfl
      · have := name_empty x0 (by omega)
        rw [decide_eq_false h2, this]
        rfl
    · rw [if_neg h, name_empty x0 (by omega)]
      rfl
  | succ d ih =>
    intro i hi h1
    have hn := ih (i + 1) (by omega) (by omega)
    refine Ev.step (f := fun k => seedcornlaw07_InstCounts.l1 k x0 ((i : Int) - 1) (i : Int) ((1 : Nat) : Int)) (fun k => ?_) (counts_l1 x0 i (by omega) h1 _ rfl ?_ (i - 1) 1 (by omega) (by omega))
    · simp only [seedcornlaw07_InstCounts.l0]
      rw [if_pos (by omega)]
      rfl
    · have e : ((i + 1 : Nat) : Int) - 1 = (i : Int) := by omega
      rw [e] at hn
      exact hn
theorem instCounts_pure (op : Int) {q : Prop} (_ : q) : ∃ k, seedcornlaw07_InstCounts.f k op = some true := by
  refine Ev.rounds (g := fun k => seedcornlaw07_InstCounts.f k op) ?_
  unfold seedcornlaw07_InstCounts.f
  rw [alive_f]
  exact counts_l0 op 27 1 (by omega) (by omega)
end Go.Proofs.YtdhkmdgieflioaaDoor.F
namespace Go.Proofs.YtdhkmdgieflioaaDoor.F
open Go.RowKit Go.Proofs.YtdhkmdgieflioaaDoorW.PrintWords Go.Proofs.YtdhkmdgieflioaaDoorW.PrintLast Go.Proofs.YtdhkmdgieflioaaDoorW.PrintMore
attribute [local go_sem] max2_int min2_int max_two min_two max_three min_three max_four min_four
set_option linter.unusedVariables false
set_option linter.unusedSimpArgs false
mutual
def seedcornref07_Parts.j0 : Nat → Int → Int → Bool → Option (ByteArray)
  | 0, _, _, _ => none
  | k + 1, x0, x3, x4 => if x4 = true then (some (⟨#[97, 99]⟩ : ByteArray)) else (if x3 = 3 then (some (⟨#[97, 98]⟩ : ByteArray)) else (if x3 = 16 then (seedcornref07_Parts.j1 k x0 x3 (x3 == 16)) else (if x3 = 17 then (seedcornref07_Parts.j1 k x0 x3 (x3 == 17)) else (seedcornref07_Parts.j1 k x0 x3 (x3 == 27)))))
def seedcornref07_Parts.j1 : Nat → Int → Int → Bool → Option (ByteArray)
  | 0, _, _, _ => none
  | k + 1, x0, x3, x13 => if x13 = true then (some (⟨#[97, 98, 99]⟩ : ByteArray)) else (if x3 = 18 then (some (⟨#[99]⟩ : ByteArray)) else (if x3 = 22 then (seedcornref07_Parts.j2 k x0 x3 (x3 == 22)) else (if x3 = 23 then (seedcornref07_Parts.j2 k x0 x3 (x3 == 23)) else (seedcornref07_Parts.j2 k x0 x3 (x3 == 24)))))
def seedcornref07_Parts.j2 : Nat → Int → Int → Bool → Option (ByteArray)
  | 0, _, _, _ => none
  | k + 1, x0, x3, x19 => if x19 = true then (some (⟨#[97]⟩ : ByteArray)) else (if x3 = 26 then (some (⟨#[]⟩ : ByteArray)) else (if x0 ≥ 4 then (if x0 ≤ 15 then (some (⟨#[97, 98, 114]⟩ : ByteArray)) else (some (⟨#[63]⟩ : ByteArray))) else (some (⟨#[63]⟩ : ByteArray))))
end
def seedcornref07_Parts.f (k : Nat) (a0 : Int) : Option (ByteArray) := if a0 = 1 then (seedcornref07_Parts.j0 k a0 a0 (a0 == 1)) else (if a0 = 2 then (seedcornref07_Parts.j0 k a0 a0 (a0 == 2)) else (if a0 = 19 then (seedcornref07_Parts.j0 k a0 a0 (a0 == 19)) else (if a0 = 20 then (seedcornref07_Parts.j0 k a0 a0 (a0 == 20)) else (if a0 = 21 then (seedcornref07_Parts.j0 k a0 a0 (a0 == 21)) else (seedcornref07_Parts.j0 k a0 a0 (a0 == 25))))))
theorem seedcornref07_Parts.mono_l : ∀ k, (∀ y0 y1 y2, LeO (seedcornref07_Parts.j0 k y0 y1 y2) (seedcornref07_Parts.j0 (k + 1) y0 y1 y2)) ∧ (∀ y0 y1 y2, LeO (seedcornref07_Parts.j1 k y0 y1 y2) (seedcornref07_Parts.j1 (k + 1) y0 y1 y2)) ∧ (∀ y0 y1 y2, LeO (seedcornref07_Parts.j2 k y0 y1 y2) (seedcornref07_Parts.j2 (k + 1) y0 y1 y2))
  | 0 => ⟨fun _ _ _ r h => by simp [seedcornref07_Parts.j0] at h, fun _ _ _ r h => by simp [seedcornref07_Parts.j1] at h, fun _ _ _ r h => by simp [seedcornref07_Parts.j2] at h⟩
  | k + 1 => by
    obtain ⟨ih0, ih1, ih2⟩ := seedcornref07_Parts.mono_l k
    refine ⟨?_, ?_, ?_⟩
    · intro y0 y1 y2
      unfold seedcornref07_Parts.j0
      repeat' first
      | (with_reducible exact ih0 _ _ _)
      | (with_reducible exact ih1 _ _ _)
      | (with_reducible exact ih2 _ _ _)
      | (with_reducible exact LeO.refl _)
      | (with_reducible exact LeO.none _)
      | (with_reducible refine LeO.ite ?_ ?_)
      | (with_reducible refine LeO.bind ?_ (fun _ => ?_))
      | exact ih0 _ _ _
      | exact ih1 _ _ _
      | exact ih2 _ _ _
      | exact LeO.none _
      | refine LeO.ite ?_ ?_
      | refine LeO.bind ?_ (fun _ => ?_)
    · intro y0 y1 y2
      unfold seedcornref07_Parts.j1
      repeat' first
      | (with_reducible exact ih0 _ _ _)
      | (with_reducible exact ih1 _ _ _)
      | (with_reducible exact ih2 _ _ _)
      | (with_reducible exact LeO.refl _)
      | (with_reducible exact LeO.none _)
      | (with_reducible refine LeO.ite ?_ ?_)
      | (with_reducible refine LeO.bind ?_ (fun _ => ?_))
      | exact ih0 _ _ _
      | exact ih1 _ _ _
      | exact ih2 _ _ _
      | exact LeO.none _
      | refine LeO.ite ?_ ?_
      | refine LeO.bind ?_ (fun _ => ?_)
    · intro y0 y1 y2
      unfold seedcornref07_Parts.j2
      repeat' first
      | (with_reducible exact ih0 _ _ _)
      | (with_reducible exact ih1 _ _ _)
      | (with_reducible exact ih2 _ _ _)
      | (with_reducible exact LeO.refl _)
      | (with_reducible exact LeO.none _)
      | (with_reducible refine LeO.ite ?_ ?_)
      | (with_reducible refine LeO.bind ?_ (fun _ => ?_))
      | exact ih0 _ _ _
      | exact ih1 _ _ _
      | exact ih2 _ _ _
      | exact LeO.none _
      | refine LeO.ite ?_ ?_
      | refine LeO.bind ?_ (fun _ => ?_)
theorem seedcornref07_Parts.mono : ∀ a0 k, LeO (seedcornref07_Parts.f k a0) (seedcornref07_Parts.f (k + 1) a0) := by
  intro a0 k
  obtain ⟨ih0, ih1, ih2⟩ := seedcornref07_Parts.mono_l k
  unfold seedcornref07_Parts.f
  repeat' first
      | (with_reducible exact ih0 _ _ _)
      | (with_reducible exact ih1 _ _ _)
      | (with_reducible exact ih2 _ _ _)
      | (with_reducible exact LeO.refl _)
      | (with_reducible exact LeO.none _)
      | (with_reducible refine LeO.ite ?_ ?_)
      | (with_reducible refine LeO.bind ?_ (fun _ => ?_))
      | exact ih0 _ _ _
      | exact ih1 _ _ _
      | exact ih2 _ _ _
      | exact LeO.none _
      | refine LeO.ite ?_ ?_
      | refine LeO.bind ?_ (fun _ => ?_)
set_option maxHeartbeats 8000000 in
set_option maxRecDepth 100000 in
theorem seedcornref07_Parts.calls (k : Nat) (a0 : Int) (r : ByteArray) (w : World) (h : seedcornref07_Parts.f k a0 = some r) :
    Calls Tryd.prog 48 #[.int .i64 a0] w fun e w' => e = .returned (.string r) ∧ Drawn0 w w' := by
  have H : (if a0 = 1 then (seedcornref07_Parts.j0 k a0 a0 (a0 == 1)) else (if a0 = 2 then (seedcornref07_Parts.j0 k a0 a0 (a0 == 2)) else (if a0 = 19 then (seedcornref07_Parts.j0 k a0 a0 (a0 == 19)) else (if a0 = 20 then (seedcornref07_Parts.j0 k a0 a0 (a0 == 20)) else (if a0 = 21 then (seedcornref07_Parts.j0 k a0 a0 (a0 == 21)) else (seedcornref07_Parts.j0 k a0 a0 (a0 == 25))))))) = some r := h
  clear h
  have HC2 := Aside0.mk H
  clear H
  go_enter Tryd.func48, Tryd.ntmps48
  go_upto_if 4 with (fail)
  go_cut [4] (fun v4 wc => ∃ (kq : Nat) (x4_1 : Bool), v4 = .bool x4_1 ∧ Aside0 (seedcornref07_Parts.j0 kq a0 a0 x4_1 = some r) ∧ Aside0 (kq ≤ k) ∧ Drawn0 w wc)
  case first =>
    have H := HC2.out
    clear HC2
    by_cases c3 : a0 = 1
    · rw [if_pos c3] at H
      have c3b0 : (a0 == 1) = true := beq_iff_eq.mpr c3
      have c3b1 : (a0 != 1) = false := bne_eq_false_iff_eq.mpr c3
      clear c3
      (first | rw [c3b0] | (simp only [i64_w, i32_w]; rw [c3b0]) | skip)
      have H' := Aside0.mk H
      clear H
      go_wp2
      go_meet
      case rel => exact ⟨_, ((a0 == 1)), (by first | rfl | (simp; done) | (simp [*]; done)), H', ⟨by first | omega | exact Nat.le_refl _⟩, by repeat (first | exact Drawn0.refl _ | apply Drawn0.step)⟩
    · rw [if_neg c3] at H
      have c3b0 : (a0 == 1) = false := beq_eq_false_iff_ne.mpr c3
      have c3b1 : (a0 != 1) = true := bne_iff_ne.mpr c3
      (first | rw [c3b0] | (simp only [i64_w, i32_w]; rw [c3b0]) | skip)
      by_cases c4 : a0 = 2
      · rw [if_pos c4] at H
        have c4b0 : (a0 == 2) = true := beq_iff_eq.mpr c4
        have c4b1 : (a0 != 2) = false := bne_eq_false_iff_eq.mpr c4
        clear c4
        have H' := Aside0.mk H
        clear H
        go_wp2
        go_meet
        case rel => exact ⟨_, ((a0 == 2)), (by first | rfl | (simp; done) | (simp [*]; done)), H', ⟨by first | omega | exact Nat.le_refl _⟩, by repeat (first | exact Drawn0.refl _ | apply Drawn0.step)⟩
      · rw [if_neg c4] at H
        have c4b0 : (a0 == 2) = false := beq_eq_false_iff_ne.mpr c4
        have c4b1 : (a0 != 2) = true := bne_iff_ne.mpr c4
        by_cases c5 : a0 = 19
        · rw [if_pos c5] at H
          have c5b0 : (a0 == 19) = true := beq_iff_eq.mpr c5
          have c5b1 : (a0 != 19) = false := bne_eq_false_iff_eq.mpr c5
          clear c5
          have H' := Aside0.mk H
          clear H
          go_wp2
          go_meet
          case rel => exact ⟨_, ((a0 == 19)), (by first | rfl | (simp; done) | (simp [*]; done)), H', ⟨by first | omega | exact Nat.le_refl _⟩, by repeat (first | exact Drawn0.refl _ | apply Drawn0.step)⟩
        · rw [if_neg c5] at H
          have c5b0 : (a0 == 19) = false := beq_eq_false_iff_ne.mpr c5
          have c5b1 : (a0 != 19) = true := bne_iff_ne.mpr c5
          by_cases c6 : a0 = 20
          · rw [if_pos c6] at H
            have c6b0 : (a0 == 20) = true := beq_iff_eq.mpr c6
            have c6b1 : (a0 != 20) = false := bne_eq_false_iff_eq.mpr c6
            clear c6
            have H' := Aside0.mk H
            clear H
            go_wp2
            go_meet
            case rel => exact ⟨_, ((a0 == 20)), (by first | rfl | (simp; done) | (simp [*]; done)), H', ⟨by first | omega | exact Nat.le_refl _⟩, by repeat (first | exact Drawn0.refl _ | apply Drawn0.step)⟩
          · rw [if_neg c6] at H
            have c6b0 : (a0 == 20) = false := beq_eq_false_iff_ne.mpr c6
            have c6b1 : (a0 != 20) = true := bne_iff_ne.mpr c6
            by_cases c7 : a0 = 21
            · rw [if_pos c7] at H
              have c7b0 : (a0 == 21) = true := beq_iff_eq.mpr c7
              have c7b1 : (a0 != 21) = false := bne_eq_false_iff_eq.mpr c7
              clear c7
              have H' := Aside0.mk H
              clear H
              go_wp2
              go_meet
              case rel => exact ⟨_, ((a0 == 21)), (by first | rfl | (simp; done) | (simp [*]; done)), H', ⟨by first | omega | exact Nat.le_refl _⟩, by repeat (first | exact Drawn0.refl _ | apply Drawn0.step)⟩
            · rw [if_neg c7] at H
              have c7b0 : (a0 == 21) = false := beq_eq_false_iff_ne.mpr c7
              have c7b1 : (a0 != 21) = true := bne_iff_ne.mpr c7
              have H' := Aside0.mk H
              clear H
              go_wp2
              go_meet
              case rel => exact ⟨_, ((a0 == 25)), (by first | rfl | (simp; done) | (simp [*]; done)), H', ⟨by first | omega | exact Nat.le_refl _⟩, by repeat (first | exact Drawn0.refl _ | apply Drawn0.step)⟩
  case rest =>
    clear HC2
    try clear p2
    try clear c3
    try clear c3b0
    try clear c3b1
    try clear c4
    try clear c4b0
    try clear c4b1
    try clear c5
    try clear c5b0
    try clear c5b1
    try clear c6
    try clear c6b0
    try clear c6b1
    try clear c7
    try clear c7b0
    try clear c7b1
    obtain ⟨kq, x4_1, rfl, HA, HJ1, ⟨mc1, rfl⟩⟩ := hcut
    cases kq with
    | zero => exact absurd HA.out (by simp [seedcornref07_Parts.j0])
    | succ kj1 =>
      have H := HA.out
      clear HA
      simp only [seedcornref07_Parts.j0] at H
      by_cases c8 : x4_1 = true
      · subst c8
        have H1 : (some (⟨#[97, 99]⟩ : ByteArray)) = some r := by rw [if_pos rfl] at H; exact H
        clear H
        have H := H1
        clear H1
        obtain rfl := Option.some.inj H
        go_wp2
        go_ret
        exact ⟨by first | rfl | (simp; done) | (simp [*]; done), by repeat (first | exact Drawn0.refl _ | apply Drawn0.step)⟩
      · replace c8 := Bool.eq_false_iff.mpr c8
        subst c8
        have H1 : (if a0 = 3 then (some (⟨#[97, 98]⟩ : ByteArray)) else (if a0 = 16 then (seedcornref07_Parts.j1 kj1 a0 a0 (a0 == 16)) else (if a0 = 17 then (seedcornref07_Parts.j1 kj1 a0 a0 (a0 == 17)) else (seedcornref07_Parts.j1 kj1 a0 a0 (a0 == 27))))) = some r := by rw [if_neg (show ¬ (false = true) by decide)] at H; exact H
        clear H
        have H := H1
        clear H1
        by_cases c9 : a0 = 3
        · rw [if_pos c9] at H
          have c9b0 : (a0 == 3) = true := beq_iff_eq.mpr c9
          have c9b1 : (a0 != 3) = false := bne_eq_false_iff_eq.mpr c9
          clear c9
          obtain rfl := Option.some.inj H
          go_wp2
          go_ret
          exact ⟨by first | rfl | (simp; done) | (simp [*]; done), by repeat (first | exact Drawn0.refl _ | apply Drawn0.step)⟩
        · rw [if_neg c9] at H
          have c9b0 : (a0 == 3) = false := beq_eq_false_iff_ne.mpr c9
          have c9b1 : (a0 != 3) = true := bne_iff_ne.mpr c9
          have HC10 := Aside0.mk H
          clear H
          go_upto_if 13 with (fail)
          go_cut [13] (fun v13 wc => ∃ (kq : Nat) (x13_9 : Bool), v13 = .bool x13_9 ∧ Aside0 (seedcornref07_Parts.j1 kq a0 a0 x13_9 = some r) ∧ Aside0 (kq ≤ kj1) ∧ Drawn0 w wc)
          case first =>
            have H := HC10.out
            clear HC10
            by_cases c11 : a0 = 16
            · rw [if_pos c11] at H
              have c11b0 : (a0 == 16) = true := beq_iff_eq.mpr c11
              have c11b1 : (a0 != 16) = false := bne_eq_false_iff_eq.mpr c11
              clear c11
              (first | rw [c11b0] | (simp only [i64_w, i32_w]; rw [c11b0]) | skip)
              have H' := Aside0.mk H
              clear H
              go_wp2
              go_meet
              case rel => exact ⟨_, ((a0 == 16)), (by first | rfl | (simp; done) | (simp [*]; done)), H', ⟨by have := HJ1.out; first | omega | exact Nat.le_refl _⟩, by repeat (first | exact Drawn0.refl _ | apply Drawn0.step)⟩
            · rw [if_neg c11] at H
              have c11b0 : (a0 == 16) = false := beq_eq_false_iff_ne.mpr c11
              have c11b1 : (a0 != 16) = true := bne_iff_ne.mpr c11
              (first | rw [c11b0] | (simp only [i64_w, i32_w]; rw [c11b0]) | skip)
              by_cases c12 : a0 = 17
              · rw [if_pos c12] at H
                have c12b0 : (a0 == 17) = true := beq_iff_eq.mpr c12
                have c12b1 : (a0 != 17) = false := bne_eq_false_iff_eq.mpr c12
                clear c12
                have H' := Aside0.mk H
                clear H
                go_wp2
                go_meet
                case rel => exact ⟨_, ((a0 == 17)), (by first | rfl | (simp; done) | (simp [*]; done)), H', ⟨by have := HJ1.out; first | omega | exact Nat.le_refl _⟩, by repeat (first | exact Drawn0.refl _ | apply Drawn0.step)⟩
              · rw [if_neg c12] at H
                have c12b0 : (a0 == 17) = false := beq_eq_false_iff_ne.mpr c12
                have c12b1 : (a0 != 17) = true := bne_iff_ne.mpr c12
                have H' := Aside0.mk H
                clear H
                go_wp2
                go_meet
                case rel => exact ⟨_, ((a0 == 27)), (by first | rfl | (simp; done) | (simp [*]; done)), H', ⟨by have := HJ1.out; first | omega | exact Nat.le_refl _⟩, by repeat (first | exact Drawn0.refl _ | apply Drawn0.step)⟩
          case rest =>
            clear HC10
            try clear c1
            try clear p2
            try clear c3
            try clear c3b0
            try clear c3b1
            try clear c4
            try clear c4b0
            try clear c4b1
            try clear c5
            try clear c5b0
            try clear c5b1
            try clear c6
            try clear c6b0
            try clear c6b1
            try clear c7
            try clear c7b0
            try clear c7b1
            try clear c8
            try clear c9
            try clear c9b0
            try clear c9b1
            try clear c11
            try clear c11b0
            try clear c11b1
            try clear c12
            try clear c12b0
            try clear c12b1
            try clear p2
            obtain ⟨kq, x13_9, rfl, HA, HJ9, ⟨mc9, rfl⟩⟩ := hcut
            cases kq with
            | zero => exact absurd HA.out (by simp [seedcornref07_Parts.j1])
            | succ kj9 =>
              have H := HA.out
              clear HA
              simp only [seedcornref07_Parts.j1] at H
              by_cases c13 : x13_9 = true
              · subst c13
                have H1 : (some (⟨#[97, 98, 99]⟩ : ByteArray)) = some r := by rw [if_pos rfl] at H; exact H
                clear H
                have H := H1
                clear H1
                obtain rfl := Option.some.inj H
                go_wp2
                go_ret
                exact ⟨by first | rfl | (simp; done) | (simp [*]; done), by repeat (first | exact Drawn0.refl _ | apply Drawn0.step)⟩
              · replace c13 := Bool.eq_false_iff.mpr c13
                subst c13
                have H1 : (if a0 = 18 then (some (⟨#[99]⟩ : ByteArray)) else (if a0 = 22 then (seedcornref07_Parts.j2 kj9 a0 a0 (a0 == 22)) else (if a0 = 23 then (seedcornref07_Parts.j2 kj9 a0 a0 (a0 == 23)) else (seedcornref07_Parts.j2 kj9 a0 a0 (a0 == 24))))) = some r := by rw [if_neg (show ¬ (false = true) by decide)] at H; exact H
                clear H
                have H := H1
                clear H1
                by_cases c14 : a0 = 18
                · rw [if_pos c14] at H
                  have c14b0 : (a0 == 18) = true := beq_iff_eq.mpr c14
                  have c14b1 : (a0 != 18) = false := bne_eq_false_iff_eq.mpr c14
                  clear c14
                  obtain rfl := Option.some.inj H
                  go_wp2
                  go_ret
                  exact ⟨by first | rfl | (simp; done) | (simp [*]; done), by repeat (first | exact Drawn0.refl _ | apply Drawn0.step)⟩
                · rw [if_neg c14] at H
                  have c14b0 : (a0 == 18) = false := beq_eq_false_iff_ne.mpr c14
                  have c14b1 : (a0 != 18) = true := bne_iff_ne.mpr c14
                  have HC15 := Aside0.mk H
                  clear H
                  go_upto_if 19 with (fail)
                  go_cut [19] (fun v19 wc => ∃ (kq : Nat) (x19_14 : Bool), v19 = .bool x19_14 ∧ Aside0 (seedcornref07_Parts.j2 kq a0 a0 x19_14 = some r) ∧ Aside0 (kq ≤ kj9) ∧ Drawn0 w wc)
                  case first =>
                    have H := HC15.out
                    clear HC15
                    by_cases c16 : a0 = 22
                    · rw [if_pos c16] at H
                      have c16b0 : (a0 == 22) = true := beq_iff_eq.mpr c16
                      have c16b1 : (a0 != 22) = false := bne_eq_false_iff_eq.mpr c16
                      clear c16
                      (first | rw [c16b0] | (simp only [i64_w, i32_w]; rw [c16b0]) | skip)
                      have H' := Aside0.mk H
                      clear H
                      go_wp2
                      go_meet
                      case rel => exact ⟨_, ((a0 == 22)), (by first | rfl | (simp; done) | (simp [*]; done)), H', ⟨by have := HJ1.out; have := HJ9.out; first | omega | exact Nat.le_refl _⟩, by repeat (first | exact Drawn0.refl _ | apply Drawn0.step)⟩
                    · rw [if_neg c16] at H
                      have c16b0 : (a0 == 22) = false := beq_eq_false_iff_ne.mpr c16
                      have c16b1 : (a0 != 22) = true := bne_iff_ne.mpr c16
                      (first | rw [c16b0] | (simp only [i64_w, i32_w]; rw [c16b0]) | skip)
                      by_cases c17 : a0 = 23
                      · rw [if_pos c17] at H
                        have c17b0 : (a0 == 23) = true := beq_iff_eq.mpr c17
                        have c17b1 : (a0 != 23) = false := bne_eq_false_iff_eq.mpr c17
                        clear c17
                        have H' := Aside0.mk H
                        clear H
                        go_wp2
                        go_meet
                        case rel => exact ⟨_, ((a0 == 23)), (by first | rfl | (simp; done) | (simp [*]; done)), H', ⟨by have := HJ1.out; have := HJ9.out; first | omega | exact Nat.le_refl _⟩, by repeat (first | exact Drawn0.refl _ | apply Drawn0.step)⟩
                      · rw [if_neg c17] at H
                        have c17b0 : (a0 == 23) = false := beq_eq_false_iff_ne.mpr c17
                        have c17b1 : (a0 != 23) = true := bne_iff_ne.mpr c17
                        have H' := Aside0.mk H
                        clear H
                        go_wp2
                        go_meet
                        case rel => exact ⟨_, ((a0 == 24)), (by first | rfl | (simp; done) | (simp [*]; done)), H', ⟨by have := HJ1.out; have := HJ9.out; first | omega | exact Nat.le_refl _⟩, by repeat (first | exact Drawn0.refl _ | apply Drawn0.step)⟩
                  case rest =>
                    clear HC15
                    try clear c1
                    try clear p2
                    try clear c3
                    try clear c3b0
                    try clear c3b1
                    try clear c4
                    try clear c4b0
                    try clear c4b1
                    try clear c5
                    try clear c5b0
                    try clear c5b1
                    try clear c6
                    try clear c6b0
                    try clear c6b1
                    try clear c7
                    try clear c7b0
                    try clear c7b1
                    try clear c8
                    try clear c9
                    try clear c9b0
                    try clear c9b1
                    try clear c11
                    try clear c11b0
                    try clear c11b1
                    try clear c12
                    try clear c12b0
                    try clear c12b1
                    try clear c13
                    try clear c14
                    try clear c14b0
                    try clear c14b1
                    try clear c16
                    try clear c16b0
                    try clear c16b1
                    try clear c17
                    try clear c17b0
                    try clear c17b1
                    try clear p2
                    obtain ⟨kq, x19_14, rfl, HA, HJ14, ⟨mc14, rfl⟩⟩ := hcut
                    cases kq with
                    | zero => exact absurd HA.out (by simp [seedcornref07_Parts.j2])
                    | succ kj14 =>
                      have H := HA.out
                      clear HA
                      simp only [seedcornref07_Parts.j2] at H
                      by_cases c18 : x19_14 = true
                      · subst c18
                        have H1 : (some (⟨#[97]⟩ : ByteArray)) = some r := by rw [if_pos rfl] at H; exact H
                        clear H
                        have H := H1
                        clear H1
                        obtain rfl := Option.some.inj H
                        go_wp2
                        go_ret
                        exact ⟨by first | rfl | (simp; done) | (simp [*]; done), by repeat (first | exact Drawn0.refl _ | apply Drawn0.step)⟩
                      · replace c18 := Bool.eq_false_iff.mpr c18
                        subst c18
                        have H1 : (if a0 = 26 then (some (⟨#[]⟩ : ByteArray)) else (if a0 ≥ 4 then (if a0 ≤ 15 then (some (⟨#[97, 98, 114]⟩ : ByteArray)) else (some (⟨#[63]⟩ : ByteArray))) else (some (⟨#[63]⟩ : ByteArray)))) = some r := by rw [if_neg (show ¬ (false = true) by decide)] at H; exact H
                        clear H
                        have H := H1
                        clear H1
                        by_cases c19 : a0 = 26
                        · rw [if_pos c19] at H
                          have c19b0 : (a0 == 26) = true := beq_iff_eq.mpr c19
                          have c19b1 : (a0 != 26) = false := bne_eq_false_iff_eq.mpr c19
                          clear c19
                          obtain rfl := Option.some.inj H
                          go_wp2
                          go_ret
                          exact ⟨by first | rfl | (simp; done) | (simp [*]; done), by repeat (first | exact Drawn0.refl _ | apply Drawn0.step)⟩
                        · rw [if_neg c19] at H
                          have c19b0 : (a0 == 26) = false := beq_eq_false_iff_ne.mpr c19
                          have c19b1 : (a0 != 26) = true := bne_iff_ne.mpr c19
                          by_cases c20 : a0 ≥ 4
                          · rw [if_pos c20] at H
                            have c20b0 : decide (4 ≤ a0) = true := decide_eq_true c20
                            clear c20
                            by_cases c21 : a0 ≤ 15
                            · rw [if_pos c21] at H
                              have c21b0 : decide (a0 ≤ 15) = true := decide_eq_true c21
                              clear c21
                              obtain rfl := Option.some.inj H
                              go_wp2
                              go_ret
                              exact ⟨by first | rfl | (simp; done) | (simp [*]; done), by repeat (first | exact Drawn0.refl _ | apply Drawn0.step)⟩
                            · rw [if_neg c21] at H
                              have c21b0 : decide (a0 ≤ 15) = false := decide_eq_false c21
                              clear c21
                              obtain rfl := Option.some.inj H
                              go_wp2
                              go_ret
                              exact ⟨by first | rfl | (simp; done) | (simp [*]; done), by repeat (first | exact Drawn0.refl _ | apply Drawn0.step)⟩
                          · rw [if_neg c20] at H
                            have c20b0 : decide (4 ≤ a0) = false := decide_eq_false c20
                            clear c20
                            obtain rfl := Option.some.inj H
                            go_wp2
                            go_ret
                            exact ⟨by first | rfl | (simp; done) | (simp [*]; done), by repeat (first | exact Drawn0.refl _ | apply Drawn0.step)⟩
end Go.Proofs.YtdhkmdgieflioaaDoor.F
namespace Go.Proofs.YtdhkmdgieflioaaDoor.F
open Go.RowKit Go.Proofs.YtdhkmdgieflioaaDoorW.PrintWords Go.Proofs.YtdhkmdgieflioaaDoorW.PrintLast Go.Proofs.YtdhkmdgieflioaaDoorW.PrintMore
attribute [local go_sem] max2_int min2_int max_two min_two max_three min_three max_four min_four
set_option linter.unusedVariables false
set_option linter.unusedSimpArgs false
def seedcornref07_has.l0 : Nat → ByteArray → Int → Int → Option (Bool)
  | 0, _, _, _ => none
  | k + 1, x0, x1, x5 => if x5 < (x0.size : Int) then (if 0 ≤ x5 then (if (bt x0 x5) = x1 then (some true) else (seedcornref07_has.l0 k x0 x1 (wrap64 (x5 + 1)))) else (none)) else (some false)
def seedcornref07_has.f (k : Nat) (a0 : ByteArray) (a1 : Int) : Option (Bool) := seedcornref07_has.l0 k a0 a1 0
theorem seedcornref07_has.mono_l : ∀ k, (∀ y0 y1 y2, LeO (seedcornref07_has.l0 k y0 y1 y2) (seedcornref07_has.l0 (k + 1) y0 y1 y2))
  | 0 => fun _ _ _ r h => by simp [seedcornref07_has.l0] at h
  | k + 1 => by
    have ih0 := seedcornref07_has.mono_l k
    · intro y0 y1 y2
      unfold seedcornref07_has.l0
      repeat' first
      | (with_reducible exact ih0 _ _ _)
      | (with_reducible exact LeO.refl _)
      | (with_reducible exact LeO.none _)
      | (with_reducible refine LeO.ite ?_ ?_)
      | (with_reducible refine LeO.bind ?_ (fun _ => ?_))
      | exact ih0 _ _ _
      | exact LeO.none _
      | refine LeO.ite ?_ ?_
      | refine LeO.bind ?_ (fun _ => ?_)
theorem seedcornref07_has.mono : ∀ a0 a1 k, LeO (seedcornref07_has.f k a0 a1) (seedcornref07_has.f (k + 1) a0 a1) := by
  intro a0 a1 k
  have ih0 := seedcornref07_has.mono_l k
  unfold seedcornref07_has.f
  repeat' first
      | (with_reducible exact ih0 _ _ _)
      | (with_reducible exact LeO.refl _)
      | (with_reducible exact LeO.none _)
      | (with_reducible refine LeO.ite ?_ ?_)
      | (with_reducible refine LeO.bind ?_ (fun _ => ?_))
      | exact ih0 _ _ _
      | exact LeO.none _
      | refine LeO.ite ?_ ?_
      | refine LeO.bind ?_ (fun _ => ?_)
set_option maxHeartbeats 8000000 in
set_option maxRecDepth 100000 in
theorem seedcornref07_has.calls (k : Nat) (a0 : ByteArray) (a1 : Int) (r : Bool) (w : World) (h : seedcornref07_has.f k a0 a1 = some r) :
    Calls Tryd.prog 77 #[.string a0, .int .u8 a1] w fun e w' => e = .returned (.bool r) ∧ Drawn0 w w' := by
  have H : (seedcornref07_has.l0 k a0 a1 0) = some r := h
  clear h
  have H' := Aside0.mk H
  clear H
  go_enter Tryd.func77, Tryd.ntmps77
  go_wp2
  go_loopg [5] k (fun kq v5 w' => ∃ (x5_1 : Int), v5 = .int .i64 x5_1 ∧ Aside0 (seedcornref07_has.l0 kq a0 a1 x5_1 = some r) ∧ Aside0 (kq ≤ k) ∧ Drawn0 w w')
  case atStart => exact ⟨(0), (by first | rfl | (simp; done) | (simp [*]; done)), H', ⟨Nat.le_refl _⟩, by repeat (first | exact Drawn0.refl _ | apply Drawn0.step)⟩
  case round =>
    clear H'
    try clear p2
    obtain ⟨x5_1, rfl, HA, HK1, ⟨m1, rfl⟩⟩ := hrel
    cases gk with
    | zero => exact absurd HA.out (by simp [seedcornref07_has.l0])
    | succ k1 =>
      have H := HA.out
      clear HA
      simp only [seedcornref07_has.l0] at H
      by_cases c3 : x5_1 < (a0.size : Int)
      · rw [if_pos c3] at H
        have c3b0 : decide (x5_1 < (a0.size : Int)) = true := decide_eq_true c3
        clear c3
        by_cases c4 : 0 ≤ x5_1
        · rw [if_pos c4] at H
          have c4b0 : decide (0 ≤ x5_1) = true := decide_eq_true c4
          clear c4
          by_cases c6 : (bt a0 x5_1) = a1
          · rw [if_pos c6] at H
            have c6b0 : ((bt a0 x5_1) == a1) = true := beq_iff_eq.mpr c6
            have c6b1 : ((bt a0 x5_1) != a1) = false := bne_eq_false_iff_eq.mpr c6
            clear c6
            obtain rfl := Option.some.inj H
            have p5 : 0 ≤ (x5_1 : Int) := of_decide_eq_true (by first | (with_reducible assumption) | assumption)
            have q5 : x5_1 < (a0.size : Int) := of_decide_eq_true (by first | (with_reducible assumption) | assumption)
            have hx5 := bt_at a0 x5_1
            replace p5 := eq_true p5
            replace q5 := eq_true q5
            go_wp2
            go_ret
            exact ⟨by first | rfl | (simp; done) | (simp [*]; done), by repeat (first | exact Drawn0.refl _ | apply Drawn0.step)⟩
          · rw [if_neg c6] at H
            have c6b0 : ((bt a0 x5_1) == a1) = false := beq_eq_false_iff_ne.mpr c6
            have c6b1 : ((bt a0 x5_1) != a1) = true := bne_iff_ne.mpr c6
            have H' := Aside0.mk H
            clear H
            have p5 : 0 ≤ (x5_1 : Int) := of_decide_eq_true (by first | (with_reducible assumption) | assumption)
            have q5 : x5_1 < (a0.size : Int) := of_decide_eq_true (by first | (with_reducible assumption) | assumption)
            have hx5 := bt_at a0 x5_1
            replace p5 := eq_true p5
            replace q5 := eq_true q5
            go_wp2
            go_roundg k1
            case measure => have := HK1.out; omega
            case rel => exact ⟨(wrap64 (x5_1 + 1)), (by first | rfl | (simp; done) | (simp [*]; done)), H', ⟨by have := HK1.out; omega⟩, by repeat (first | exact Drawn0.refl _ | apply Drawn0.step)⟩
        · rw [if_neg c4] at H
          exact absurd H (by simp)
      · rw [if_neg c3] at H
        have c3b0 : decide (x5_1 < (a0.size : Int)) = false := decide_eq_false c3
        clear c3
        obtain rfl := Option.some.inj H
        go_wp2
        go_ret
        exact ⟨by first | rfl | (simp; done) | (simp [*]; done), by repeat (first | exact Drawn0.refl _ | apply Drawn0.step)⟩
end Go.Proofs.YtdhkmdgieflioaaDoor.F
namespace Go.Proofs.YtdhkmdgieflioaaDoor.F
open Go.RowKit Go.Proofs.YtdhkmdgieflioaaDoorW.PrintWords Go.Proofs.YtdhkmdgieflioaaDoorW.PrintLast Go.Proofs.YtdhkmdgieflioaaDoorW.PrintMore
attribute [local go_sem] max2_int min2_int max_two min_two max_three min_three max_four min_four
set_option linter.unusedVariables false
set_option linter.unusedSimpArgs false
def seedcornref07_within.f (a0 : Bool) (a1 : Int) (a2 : Int) : Option (Bool) := if a0 = true then (if a1 ≥ 0 then (some (decide (a1 ≤ a2))) else (some false)) else (some (a1 == 0))
set_option maxHeartbeats 8000000 in
set_option maxRecDepth 100000 in
theorem seedcornref07_within.calls (a0 : Bool) (a1 : Int) (a2 : Int) (r : Bool) (w : World) (h : seedcornref07_within.f a0 a1 a2 = some r) :
    Calls Tryd.prog 78 #[.bool a0, .int .i64 a1, .int .i64 a2] w fun e w' => e = .returned (.bool r) ∧ Drawn0 w w' := by
  have H : (if a0 = true then (if a1 ≥ 0 then (some (decide (a1 ≤ a2))) else (some false)) else (some (a1 == 0))) = some r := h
  clear h
  by_cases c4 : a0 = true
  · subst c4
    have H1 : (if a1 ≥ 0 then (some (decide (a1 ≤ a2))) else (some false)) = some r := by rw [if_pos rfl] at H; exact H
    clear H
    have H := H1
    clear H1
    by_cases c5 : a1 ≥ 0
    · rw [if_pos c5] at H
      have c5b0 : decide (0 ≤ a1) = true := decide_eq_true c5
      clear c5
      obtain rfl := Option.some.inj H
      go_enter Tryd.func78, Tryd.ntmps78
      go_wp2
      go_ret
      exact ⟨by first | rfl | (simp; done) | (simp [*]; done), by repeat (first | exact Drawn0.refl _ | apply Drawn0.step)⟩
    · rw [if_neg c5] at H
      have c5b0 : decide (0 ≤ a1) = false := decide_eq_false c5
      clear c5
      obtain rfl := Option.some.inj H
      go_enter Tryd.func78, Tryd.ntmps78
      go_wp2
      go_ret
      exact ⟨by first | rfl | (simp; done) | (simp [*]; done), by repeat (first | exact Drawn0.refl _ | apply Drawn0.step)⟩
  · replace c4 := Bool.eq_false_iff.mpr c4
    subst c4
    have H1 : (some (a1 == 0)) = some r := by rw [if_neg (show ¬ (false = true) by decide)] at H; exact H
    clear H
    have H := H1
    clear H1
    obtain rfl := Option.some.inj H
    go_enter Tryd.func78, Tryd.ntmps78
    go_wp2
    go_ret
    exact ⟨by first | rfl | (simp; done) | (simp [*]; done), by repeat (first | exact Drawn0.refl _ | apply Drawn0.step)⟩
end Go.Proofs.YtdhkmdgieflioaaDoor.F
namespace Go.Proofs.YtdhkmdgieflioaaDoor.F
open Go.RowKit Go.Proofs.YtdhkmdgieflioaaDoorW.PrintWords Go.Proofs.YtdhkmdgieflioaaDoorW.PrintLast Go.Proofs.YtdhkmdgieflioaaDoorW.PrintMore
set_option linter.unusedVariables false
set_option linter.unusedSimpArgs false
def seedcornref07_Right.f (a0_0 : Int) (a0_1 : Int) (a0_2 : Int) (a0_3 : Int) : Option Bool :=
  (seedcornref07_Parts.f 40 a0_0).bind fun p => (seedcornref07_has.f 40 p 114).bind fun hr => (seedcornref07_has.f 40 p 97).bind fun ha => (seedcornref07_has.f 40 p 98).bind fun hb => (seedcornref07_has.f 40 p 99).bind fun hc =>
    (seedcornref07_within.f ha a0_1 15).bind fun wa => (seedcornref07_within.f hb a0_2 15).bind fun wb => (seedcornref07_within.f (hc || hr) a0_3 (if hr = true then 15 else 65535)).bind fun wc => some ((!(p.toList == [63])) && (wa && (wb && wc)))
set_option maxHeartbeats 8000000 in
set_option maxRecDepth 100000 in
theorem seedcornref07_Right.calls (a0_0 : Int) (a0_1 : Int) (a0_2 : Int) (a0_3 : Int) (r : Bool) (w : World) (h : seedcornref07_Right.f a0_0 a0_1 a0_2 a0_3 = some r) :
    Calls Tryd.prog 41 #[.agg #[.int .i64 a0_0, .int .i64 a0_1, .int .i64 a0_2, .int .i64 a0_3]] w fun e w' => e = .returned (.bool r) ∧ Below w.heap.size w w' := by
  unfold seedcornref07_Right.f at h
  obtain ⟨p, hp, h⟩ := Option.bind_eq_some_iff.mp h
  obtain ⟨hr, hhr, h⟩ := Option.bind_eq_some_iff.mp h
  obtain ⟨ha, hha, h⟩ := Option.bind_eq_some_iff.mp h
  obtain ⟨hb, hhb, h⟩ := Option.bind_eq_some_iff.mp h
  obtain ⟨hc, hhc, h⟩ := Option.bind_eq_some_iff.mp h
  obtain ⟨wa, hwa, h⟩ := Option.bind_eq_some_iff.mp h
  obtain ⟨wb, hwb, h⟩ := Option.bind_eq_some_iff.mp h
  obtain ⟨wc, hwc, h⟩ := Option.bind_eq_some_iff.mp h
  have hu46 := Tryd.underlying46
  have hu3 := Tryd.underlying3
  have HP := Aside0.mk hp
  have QHR := Aside0.mk hhr
  have QHA := Aside0.mk hha
  have QHB := Aside0.mk hhb
  have QHC := Aside0.mk hhc
  have WA := Aside0.mk hwa
  have WB := Aside0.mk hwb
  obtain rfl := Option.some.inj h
  clear h hp hhr hha hhb hhc hwa hwb
  obtain ⟨q, hq⟩ : ∃ q, (p.toList == [63]) = q := ⟨_, rfl⟩
  rw [hq]
  cases hr <;> (first | rw [if_pos rfl] at hwc | rw [if_neg (by decide)] at hwc) <;> (have WC := Aside0.mk hwc; clear hwc; cases q) <;> try (cases wa) <;> try (cases wb) <;> try (cases hc)
  all_goals try simp only [Bool.true_or, Bool.false_or, Bool.or_true, Bool.or_false] at WC
  all_goals
    go_enter Tryd.func41, Tryd.ntmps41
    go_wp2_with (first | ((with_reducible refine gate_dst (N := 1) rfl ?_); refine box_event ?hg (N := 1) ?hd (cs := #[.int .i64 a0_0, .int .i64 a0_1, .int .i64 a0_2, .int .i64 a0_3]) (t := 46) ?hr ?_; (case hd => rfl); (case hg => rfl); (case hr => first | (go_simp; done) | (go_simp; rfl)); intro gb hg w4 hbox hb; have HBL := Aside0.mk hb; have BK := Aside0.mk hbox; clear hb hbox hg; have f0 : w4.cell? ⟨gb, 0, none⟩ = some (.int .i64 a0_0) := (blk_cell BK.out 0).trans rfl; have f1 : w4.cell? ⟨gb, 1, none⟩ = some (.int .i64 a0_1) := (blk_cell BK.out 1).trans rfl; have f2 : w4.cell? ⟨gb, 2, none⟩ = some (.int .i64 a0_2) := (blk_cell BK.out 2).trans rfl; have f3 : w4.cell? ⟨gb, 3, none⟩ = some (.int .i64 a0_3) := (blk_cell BK.out 3).trans rfl) | (go_at_call 48; (with_reducible refine (seedcornref07_Parts.calls 40 a0_0 p _ HP.out).mono ?_); rintro e w1 ⟨rfl, ⟨n1, rfl⟩⟩) | (go_at_call 77; (with_reducible refine (seedcornref07_has.calls 40 p 114 _ _ QHR.out).mono ?_); rintro e w2 ⟨rfl, ⟨n2, rfl⟩⟩))
    go_quiet (first | ((with_reducible refine (seedcornref07_has.calls 40 p 97 _ _ QHA.out).mono ?_); rintro e w' ⟨rfl, ⟨nd, rfl⟩⟩; first | exact ⟨rfl, _, World.drewN_drewN _ _ _⟩ | exact ⟨rfl, _, Eq.trans (World.drewN_drewN _ _ _) (congrArg (World.drewN _) (Nat.add_assoc _ _ _))⟩ | exact ⟨rfl, _, by rw [World.drewN_drewN]; simp only [Nat.add_assoc]; rfl⟩) | ((with_reducible refine (seedcornref07_has.calls 40 p 98 _ _ QHB.out).mono ?_); rintro e w' ⟨rfl, ⟨nd, rfl⟩⟩; first | exact ⟨rfl, _, World.drewN_drewN _ _ _⟩ | exact ⟨rfl, _, Eq.trans (World.drewN_drewN _ _ _) (congrArg (World.drewN _) (Nat.add_assoc _ _ _))⟩ | exact ⟨rfl, _, by rw [World.drewN_drewN]; simp only [Nat.add_assoc]; rfl⟩) | ((with_reducible refine (seedcornref07_has.calls 40 p 99 _ _ QHC.out).mono ?_); rintro e w' ⟨rfl, ⟨nd, rfl⟩⟩; first | exact ⟨rfl, _, World.drewN_drewN _ _ _⟩ | exact ⟨rfl, _, Eq.trans (World.drewN_drewN _ _ _) (congrArg (World.drewN _) (Nat.add_assoc _ _ _))⟩ | exact ⟨rfl, _, by rw [World.drewN_drewN]; simp only [Nat.add_assoc]; rfl⟩) | ((with_reducible refine (seedcornref07_has.calls 40 p 114 _ _ QHR.out).mono ?_); rintro e w' ⟨rfl, ⟨nd, rfl⟩⟩; first | exact ⟨rfl, _, World.drewN_drewN _ _ _⟩ | exact ⟨rfl, _, Eq.trans (World.drewN_drewN _ _ _) (congrArg (World.drewN _) (Nat.add_assoc _ _ _))⟩ | exact ⟨rfl, _, by rw [World.drewN_drewN]; simp only [Nat.add_assoc]; rfl⟩) | ((with_reducible refine (seedcornref07_within.calls _ a0_1 15 _ _ WA.out).mono ?_); rintro e w' ⟨rfl, ⟨nd, rfl⟩⟩; first | exact ⟨rfl, _, World.drewN_drewN _ _ _⟩ | exact ⟨rfl, _, Eq.trans (World.drewN_drewN _ _ _) (congrArg (World.drewN _) (Nat.add_assoc _ _ _))⟩ | exact ⟨rfl, _, by rw [World.drewN_drewN]; simp only [Nat.add_assoc]; rfl⟩) | ((with_reducible refine (seedcornref07_within.calls _ a0_2 15 _ _ WB.out).mono ?_); rintro e w' ⟨rfl, ⟨nd, rfl⟩⟩; first | exact ⟨rfl, _, World.drewN_drewN _ _ _⟩ | exact ⟨rfl, _, Eq.trans (World.drewN_drewN _ _ _) (congrArg (World.drewN _) (Nat.add_assoc _ _ _))⟩ | exact ⟨rfl, _, by rw [World.drewN_drewN]; simp only [Nat.add_assoc]; rfl⟩) | ((with_reducible refine (seedcornref07_within.calls _ a0_3 _ _ _ WC.out).mono ?_); rintro e w' ⟨rfl, ⟨nd, rfl⟩⟩; first | exact ⟨rfl, _, World.drewN_drewN _ _ _⟩ | exact ⟨rfl, _, Eq.trans (World.drewN_drewN _ _ _) (congrArg (World.drewN _) (Nat.add_assoc _ _ _))⟩ | exact ⟨rfl, _, by rw [World.drewN_drewN]; simp only [Nat.add_assoc]; rfl⟩))
    go_wp2
    go_ret
    exact ⟨by first | rfl | simp, by repeat (first | exact HBL.out | apply pw_below_drewN)⟩
end Go.Proofs.YtdhkmdgieflioaaDoor.F
namespace Go.Proofs.YtdhkmdgieflioaaDoor.F
open Go.RowKit Go.Proofs.YtdhkmdgieflioaaDoorW.PrintWords Go.Proofs.YtdhkmdgieflioaaDoorW.PrintLast Go.Proofs.YtdhkmdgieflioaaDoorW.PrintMore
set_option linter.unusedVariables false
set_option linter.unusedSimpArgs false
def seedcornref07_Decode.f (a0 : Int) : Option (Int × Int × Int × Int × Int) := if 0 ≤ a0 ∧ a0 < 4294967296 then ((seedcornref07_Right.f (a0 / 16777216) (a0 / 1048576 % 16) (a0 / 65536 % 16) (a0 % 65536)).bind fun t115 => (if t115 = true then (some (a0 / 16777216, a0 / 1048576 % 16, a0 / 65536 % 16, a0 % 65536, 0)) else (some (0, 0, 0, 0, 7)))) else none
set_option maxHeartbeats 8000000 in
set_option maxRecDepth 100000 in
theorem seedcornref07_Decode.calls (a0 : Int) (r1 : Int) (r2 : Int) (r3 : Int) (r4 : Int) (r5 : Int) (w : World) (h : seedcornref07_Decode.f a0 = some (r1, r2, r3, r4, r5)) :
    Calls Tryd.prog 46 #[.int .u32 a0] w fun e w' => e = .returned (.tuple #[.agg #[.int .i64 r1, .int .i64 r2, .int .i64 r3, .int .i64 r4], .int .i64 r5]) ∧ Below w.heap.size w w' := by
  have hu46 := Tryd.underlying46
  have HB := Aside0.mk (Below.refl w.heap.size w)
  unfold seedcornref07_Decode.f at h
  by_cases hg : 0 ≤ a0 ∧ a0 < 4294967296
  rotate_left
  · rw [if_neg hg] at h; cases h
  rw [if_pos hg] at h
  obtain ⟨hg0, hg1⟩ := hg
  have H : ((seedcornref07_Right.f (a0 / 16777216) (a0 / 1048576 % 16) (a0 / 65536 % 16) (a0 % 65536)).bind fun t115 => (if t115 = true then (some (a0 / 16777216, a0 / 1048576 % 16, a0 / 65536 % 16, a0 % 65536, 0)) else (some (0, 0, 0, 0, 7)))) = some (r1, r2, r3, r4, r5) := h
  clear h
  replace H := Option.bind_eq_some_iff.mp H
  obtain ⟨t115, A20, H⟩ := H
  replace H : (if t115 = true then (some (a0 / 16777216, a0 / 1048576 % 16, a0 / 65536 % 16, a0 % 65536, 0)) else (some (0, 0, 0, 0, 7))) = some (r1, r2, r3, r4, r5) := H
  have A2 := Aside0.mk A20
  clear A20
  by_cases c3 : t115 = true
  · subst c3
    have H1 : (some (a0 / 16777216, a0 / 1048576 % 16, a0 / 65536 % 16, a0 % 65536, 0)) = some (r1, r2, r3, r4, r5) := by rw [if_pos rfl] at H; exact H
    clear H
    have H := H1
    clear H1
    simp only [Option.some.injEq, Prod.mk.injEq] at H
    obtain ⟨rfl, rfl, rfl, rfl, rfl⟩ := H
    go_enter Tryd.func46, Tryd.ntmps46
    go_wp2_with (first | ((with_reducible refine gate_dst (N := 2) rfl ?_); refine box_event ?hg (N := 2) ?hd (cs := #[.int .i64 0, .int .i64 0, .int .i64 0, .int .i64 0]) (t := 46) ?hr ?_; (case hd => rfl); (case hg => rfl); (case hr => first | (go_simp; done) | (go_simp; rfl)); intro gb113 hg w4 hbox hb; have n0_ := Aside0.mk (below_step (by repeat (first | (with_reducible first | exact HB.out | apply below_alloc | apply pw_below_drewN | apply below_drew1) | exact HB.out)) hb); have n1_ := Aside0.mk (hbox); have n2_ := Aside0.mk ((by rw [hg]; exact (below_size (by repeat (first | (with_reducible first | exact HB.out | apply below_alloc | apply pw_below_drewN | apply below_drew1) | exact HB.out))) : w.heap.size ≤ gb113)); have n3_ := Aside0.mk ((by rw [hg]; exact (below_size (by repeat (first | (with_reducible first | exact HB.out | apply below_alloc | apply pw_below_drewN | apply below_drew1) | exact HB.out))) : w.heap.size ≤ gb113)); clear HB; have HB := n0_; have BK113 := n1_; have GW113 := n2_; have GE113 := n3_; clear n0_ n1_ n2_ n3_; clear hb hbox hg) | ((with_reducible refine gate_dst (N := 4) rfl ?_); refine box_event ?hg (N := 4) ?hd (cs := #[.int .i64 0, .int .i64 0, .int .i64 0, .int .i64 0]) (t := 46) ?hr ?_; (case hd => rfl); (case hg => rfl); (case hr => first | (go_simp; done) | (go_simp; rfl)); intro gb114 hg w5 hbox hb; have n0_ := Aside0.mk (blk_below (g := gb113) (o := .cells #[.int .i64 0, .int .i64 0, .int .i64 0, .int .i64 0] 46 (0, 0)) (by (with_reducible repeat (first | refine blk_drewN ?_ _ | refine blk_drew ?_ | refine blk_alloc ?_ _)); exact BK113.out) hb); have n1_ := Aside0.mk (below_step (by repeat (first | (with_reducible first | exact HB.out | apply below_alloc | apply pw_below_drewN | apply below_drew1 | refine below_set ?_ GE113.out) | exact HB.out)) hb); have n2_ := Aside0.mk (hbox); have n3_ := Aside0.mk ((by rw [hg]; exact (below_size (by repeat (first | (with_reducible first | exact HB.out | apply below_alloc | apply pw_below_drewN | apply below_drew1 | refine below_set ?_ GE113.out) | exact HB.out))) : w.heap.size ≤ gb114)); have n4_ := Aside0.mk ((by rw [hg]; exact (below_size (by repeat (first | (with_reducible first | exact HB.out | apply below_alloc | apply pw_below_drewN | apply below_drew1 | refine below_set ?_ GE113.out) | exact HB.out))) : w.heap.size ≤ gb114)); have n5_ := Aside0.mk ((by rw [hg]; exact Nat.ne_of_lt (blk_lt (g := gb113) (o := .cells #[.int .i64 0, .int .i64 0, .int .i64 0, .int .i64 0] 46 (0, 0)) (by (with_reducible repeat (first | refine blk_drewN ?_ _ | refine blk_drew ?_ | refine blk_alloc ?_ _)); exact BK113.out)) : gb113 ≠ gb114)); have n6_ := Aside0.mk ((by rw [hg]; exact Nat.ne_of_gt (blk_lt (g := gb113) (o := .cells #[.int .i64 0, .int .i64 0, .int .i64 0, .int .i64 0] 46 (0, 0)) (by (with_reducible repeat (first | refine blk_drewN ?_ _ | refine blk_drew ?_ | refine blk_alloc ?_ _)); exact BK113.out)) : gb114 ≠ gb113)); clear BK113; clear HB; have BK113 := n0_; have HB := n1_; have BK114 := n2_; have GW114 := n3_; have GE114 := n4_; have NB113_114 := n5_; have NB114_113 := n6_; clear n0_ n1_ n2_ n3_ n4_ n5_ n6_; clear hb hbox hg; have hnb6 := NB114_113.out; have hnc6 := NB113_114.out; have hcz7_0 : w5.cell? ⟨gb114, 0, none⟩ = some (.int .i64 0) := (blk_cell BK114.out 0).trans rfl; have hcz7_1 : w5.cell? ⟨gb114, 1, none⟩ = some (.int .i64 0) := (blk_cell BK114.out 1).trans rfl; have hcz7_2 : w5.cell? ⟨gb114, 2, none⟩ = some (.int .i64 0) := (blk_cell BK114.out 2).trans rfl; have hcz7_3 : w5.cell? ⟨gb114, 3, none⟩ = some (.int .i64 0) := (blk_cell BK114.out 3).trans rfl; have hfz7_0 := blk_frozen BK114.out 0; have hfz7_1 := blk_frozen BK114.out 1; have hfz7_2 := blk_frozen BK114.out 2; have hfz7_3 := blk_frozen BK114.out 3) | ((with_reducible refine gate_callee (f := 41) rfl ?_); refine goesL_ (some 21) rfl rfl Tryd.func41 (by kernel_rfl) rfl #[.agg #[.int .i64 (a0 / 16777216), .int .i64 (a0 / 1048576 % 16), .int .i64 (a0 / 65536 % 16), .int .i64 (a0 % 65536)]] rfl (by (try simp only [List.map_toArray, List.map_cons, List.map_nil]); first | done | rfl | (simp only [List.length_drop, List.length_take]; rfl)) ?_; (with_reducible refine (seedcornref07_Right.calls (a0 / 16777216) (a0 / 1048576 % 16) (a0 / 65536 % 16) (a0 % 65536) true _ A2.out).mono ?_); rintro e w8 ⟨rfl, hb⟩; refine ⟨_, rfl, ?_⟩; have n0_ := Aside0.mk (blk_below (g := gb113) (o := .cells #[.int .i64 0, .int .i64 0, .int .i64 0, .int .i64 0] 46 (0, 0)) (by (with_reducible repeat (first | refine blk_drewN ?_ _ | refine blk_drew ?_ | refine blk_alloc ?_ _)); refine blk_far ?_ NB113_114.out _; (with_reducible repeat (first | refine blk_drewN ?_ _ | refine blk_drew ?_ | refine blk_alloc ?_ _)); refine blk_far ?_ NB113_114.out _; (with_reducible repeat (first | refine blk_drewN ?_ _ | refine blk_drew ?_ | refine blk_alloc ?_ _)); refine blk_far ?_ NB113_114.out _; (with_reducible repeat (first | refine blk_drewN ?_ _ | refine blk_drew ?_ | refine blk_alloc ?_ _)); refine blk_far ?_ NB113_114.out _; (with_reducible repeat (first | refine blk_drewN ?_ _ | refine blk_drew ?_ | refine blk_alloc ?_ _)); exact BK113.out) hb); have n1_ := Aside0.mk (blk_below (g := gb114) (o := .cells #[.int .i64 (a0 / 16777216), .int .i64 (a0 / 1048576 % 16), .int .i64 (a0 / 65536 % 16), .int .i64 (a0 % 65536)] 46 (0, 0)) (by (with_reducible repeat (first | refine blk_drewN ?_ _ | refine blk_drew ?_ | refine blk_alloc ?_ _)); refine blk_put (cs := #[.int .i64 (a0 / 16777216), .int .i64 (a0 / 1048576 % 16), .int .i64 (a0 / 65536 % 16), .int .i64 0]) ?_ 3 _ rfl; (with_reducible repeat (first | refine blk_drewN ?_ _ | refine blk_drew ?_ | refine blk_alloc ?_ _)); refine blk_put (cs := #[.int .i64 (a0 / 16777216), .int .i64 (a0 / 1048576 % 16), .int .i64 0, .int .i64 0]) ?_ 2 _ rfl; (with_reducible repeat (first | refine blk_drewN ?_ _ | refine blk_drew ?_ | refine blk_alloc ?_ _)); refine blk_put (cs := #[.int .i64 (a0 / 16777216), .int .i64 0, .int .i64 0, .int .i64 0]) ?_ 1 _ rfl; (with_reducible repeat (first | refine blk_drewN ?_ _ | refine blk_drew ?_ | refine blk_alloc ?_ _)); refine blk_put (cs := #[.int .i64 0, .int .i64 0, .int .i64 0, .int .i64 0]) ?_ 0 _ rfl; (with_reducible repeat (first | refine blk_drewN ?_ _ | refine blk_drew ?_ | refine blk_alloc ?_ _)); exact BK114.out) hb); have n2_ := Aside0.mk (below_step (by repeat (first | (with_reducible first | exact HB.out | apply below_alloc | apply pw_below_drewN | apply below_drew1 | refine below_set ?_ GE113.out | refine below_set ?_ GE114.out) | exact HB.out)) hb); clear BK113; clear BK114; clear HB; have BK113 := n0_; have BK114 := n1_; have HB := n2_; clear n0_ n1_ n2_; (try clear hb); (try clear hb2); (try clear hk); (try clear hi); have hcz9_0 : w8.cell? ⟨gb114, 0, none⟩ = some (.int .i64 (a0 / 16777216)) := (blk_cell BK114.out 0).trans rfl; have hcz9_1 : w8.cell? ⟨gb114, 1, none⟩ = some (.int .i64 (a0 / 1048576 % 16)) := (blk_cell BK114.out 1).trans rfl; have hcz9_2 : w8.cell? ⟨gb114, 2, none⟩ = some (.int .i64 (a0 / 65536 % 16)) := (blk_cell BK114.out 2).trans rfl; have hcz9_3 : w8.cell? ⟨gb114, 3, none⟩ = some (.int .i64 (a0 % 65536)) := (blk_cell BK114.out 3).trans rfl; have hfz9_0 := blk_frozen BK114.out 0; have hfz9_1 := blk_frozen BK114.out 1; have hfz9_2 := blk_frozen BK114.out 2; have hfz9_3 := blk_frozen BK114.out 3; have hcz10_0 : w8.cell? ⟨gb113, 0, none⟩ = some (.int .i64 0) := (blk_cell BK113.out 0).trans rfl; have hcz10_1 : w8.cell? ⟨gb113, 1, none⟩ = some (.int .i64 0) := (blk_cell BK113.out 1).trans rfl; have hcz10_2 : w8.cell? ⟨gb113, 2, none⟩ = some (.int .i64 0) := (blk_cell BK113.out 2).trans rfl; have hcz10_3 : w8.cell? ⟨gb113, 3, none⟩ = some (.int .i64 0) := (blk_cell BK113.out 3).trans rfl; have hfz10_0 := blk_frozen BK113.out 0; have hfz10_1 := blk_frozen BK113.out 1; have hfz10_2 := blk_frozen BK113.out 2; have hfz10_3 := blk_frozen BK113.out 3))
    refine bodyPost_ret (results_ct rfl _ _ gb113 46 #[.int .i64 (a0 / 16777216), .int .i64 (a0 / 1048576 % 16), .int .i64 (a0 / 65536 % 16), .int .i64 (a0 % 65536)] (0, 0) _ rfl (by (with_reducible repeat (first | refine blk_drewN ?_ _ | refine blk_drew ?_ | refine blk_alloc ?_ _)); refine blk_put (cs := #[.int .i64 (a0 / 16777216), .int .i64 (a0 / 1048576 % 16), .int .i64 (a0 / 65536 % 16), .int .i64 0]) ?_ 3 _ rfl; (with_reducible repeat (first | refine blk_drewN ?_ _ | refine blk_drew ?_ | refine blk_alloc ?_ _)); refine blk_put (cs := #[.int .i64 (a0 / 16777216), .int .i64 (a0 / 1048576 % 16), .int .i64 0, .int .i64 0]) ?_ 2 _ rfl; (with_reducible repeat (first | refine blk_drewN ?_ _ | refine blk_drew ?_ | refine blk_alloc ?_ _)); refine blk_put (cs := #[.int .i64 (a0 / 16777216), .int .i64 0, .int .i64 0, .int .i64 0]) ?_ 1 _ rfl; (with_reducible repeat (first | refine blk_drewN ?_ _ | refine blk_drew ?_ | refine blk_alloc ?_ _)); refine blk_put (cs := #[.int .i64 0, .int .i64 0, .int .i64 0, .int .i64 0]) ?_ 0 _ rfl; (with_reducible repeat (first | refine blk_drewN ?_ _ | refine blk_drew ?_ | refine blk_alloc ?_ _)); exact BK113.out) Tryd.underlying46 rfl (by kernel_rfl)) rfl ?_
    exact ⟨by first | rfl | (simp [errW_none, errW_some] <;> rfl) | (simp [*, errW_none, errW_some] <;> rfl), by repeat (first | (with_reducible first | exact HB.out | apply below_alloc | apply pw_below_drewN | apply below_drew1 | refine below_set ?_ GE113.out | refine below_set ?_ GE114.out) | exact HB.out)⟩
  · replace c3 := Bool.eq_false_iff.mpr c3
    subst c3
    have H1 : (some (0, 0, 0, 0, 7)) = some (r1, r2, r3, r4, r5) := by rw [if_neg (show ¬ (false = true) by decide)] at H; exact H
    clear H
    have H := H1
    clear H1
    simp only [Option.some.injEq, Prod.mk.injEq] at H
    obtain ⟨rfl, rfl, rfl, rfl, rfl⟩ := H
    go_enter Tryd.func46, Tryd.ntmps46
    go_wp2_with (first | ((with_reducible refine gate_dst (N := 2) rfl ?_); refine box_event ?hg (N := 2) ?hd (cs := #[.int .i64 0, .int .i64 0, .int .i64 0, .int .i64 0]) (t := 46) ?hr ?_; (case hd => rfl); (case hg => rfl); (case hr => first | (go_simp; done) | (go_simp; rfl)); intro gb113 hg w11 hbox hb; have n0_ := Aside0.mk (below_step (by repeat (first | (with_reducible first | exact HB.out | apply below_alloc | apply pw_below_drewN | apply below_drew1) | exact HB.out)) hb); have n1_ := Aside0.mk (hbox); have n2_ := Aside0.mk ((by rw [hg]; exact (below_size (by repeat (first | (with_reducible first | exact HB.out | apply below_alloc | apply pw_below_drewN | apply below_drew1) | exact HB.out))) : w.heap.size ≤ gb113)); have n3_ := Aside0.mk ((by rw [hg]; exact (below_size (by repeat (first | (with_reducible first | exact HB.out | apply below_alloc | apply pw_below_drewN | apply below_drew1) | exact HB.out))) : w.heap.size ≤ gb113)); clear HB; have HB := n0_; have BK113 := n1_; have GW113 := n2_; have GE113 := n3_; clear n0_ n1_ n2_ n3_; clear hb hbox hg) | ((with_reducible refine gate_dst (N := 4) rfl ?_); refine box_event ?hg (N := 4) ?hd (cs := #[.int .i64 0, .int .i64 0, .int .i64 0, .int .i64 0]) (t := 46) ?hr ?_; (case hd => rfl); (case hg => rfl); (case hr => first | (go_simp; done) | (go_simp; rfl)); intro gb114 hg w12 hbox hb; have n0_ := Aside0.mk (blk_below (g := gb113) (o := .cells #[.int .i64 0, .int .i64 0, .int .i64 0, .int .i64 0] 46 (0, 0)) (by (with_reducible repeat (first | refine blk_drewN ?_ _ | refine blk_drew ?_ | refine blk_alloc ?_ _)); exact BK113.out) hb); have n1_ := Aside0.mk (below_step (by repeat (first | (with_reducible first | exact HB.out | apply below_alloc | apply pw_below_drewN | apply below_drew1 | refine below_set ?_ GE113.out) | exact HB.out)) hb); have n2_ := Aside0.mk (hbox); have n3_ := Aside0.mk ((by rw [hg]; exact (below_size (by repeat (first | (with_reducible first | exact HB.out | apply below_alloc | apply pw_below_drewN | apply below_drew1 | refine below_set ?_ GE113.out) | exact HB.out))) : w.heap.size ≤ gb114)); have n4_ := Aside0.mk ((by rw [hg]; exact (below_size (by repeat (first | (with_reducible first | exact HB.out | apply below_alloc | apply pw_below_drewN | apply below_drew1 | refine below_set ?_ GE113.out) | exact HB.out))) : w.heap.size ≤ gb114)); have n5_ := Aside0.mk ((by rw [hg]; exact Nat.ne_of_lt (blk_lt (g := gb113) (o := .cells #[.int .i64 0, .int .i64 0, .int .i64 0, .int .i64 0] 46 (0, 0)) (by (with_reducible repeat (first | refine blk_drewN ?_ _ | refine blk_drew ?_ | refine blk_alloc ?_ _)); exact BK113.out)) : gb113 ≠ gb114)); have n6_ := Aside0.mk ((by rw [hg]; exact Nat.ne_of_gt (blk_lt (g := gb113) (o := .cells #[.int .i64 0, .int .i64 0, .int .i64 0, .int .i64 0] 46 (0, 0)) (by (with_reducible repeat (first | refine blk_drewN ?_ _ | refine blk_drew ?_ | refine blk_alloc ?_ _)); exact BK113.out)) : gb114 ≠ gb113)); clear BK113; clear HB; have BK113 := n0_; have HB := n1_; have BK114 := n2_; have GW114 := n3_; have GE114 := n4_; have NB113_114 := n5_; have NB114_113 := n6_; clear n0_ n1_ n2_ n3_ n4_ n5_ n6_; clear hb hbox hg; have hnb13 := NB114_113.out; have hnc13 := NB113_114.out; have hcz14_0 : w12.cell? ⟨gb114, 0, none⟩ = some (.int .i64 0) := (blk_cell BK114.out 0).trans rfl; have hcz14_1 : w12.cell? ⟨gb114, 1, none⟩ = some (.int .i64 0) := (blk_cell BK114.out 1).trans rfl; have hcz14_2 : w12.cell? ⟨gb114, 2, none⟩ = some (.int .i64 0) := (blk_cell BK114.out 2).trans rfl; have hcz14_3 : w12.cell? ⟨gb114, 3, none⟩ = some (.int .i64 0) := (blk_cell BK114.out 3).trans rfl; have hfz14_0 := blk_frozen BK114.out 0; have hfz14_1 := blk_frozen BK114.out 1; have hfz14_2 := blk_frozen BK114.out 2; have hfz14_3 := blk_frozen BK114.out 3) | ((with_reducible refine gate_callee (f := 41) rfl ?_); refine goesL_ (some 21) rfl rfl Tryd.func41 (by kernel_rfl) rfl #[.agg #[.int .i64 (a0 / 16777216), .int .i64 (a0 / 1048576 % 16), .int .i64 (a0 / 65536 % 16), .int .i64 (a0 % 65536)]] rfl (by (try simp only [List.map_toArray, List.map_cons, List.map_nil]); first | done | rfl | (simp only [List.length_drop, List.length_take]; rfl)) ?_; (with_reducible refine (seedcornref07_Right.calls (a0 / 16777216) (a0 / 1048576 % 16) (a0 / 65536 % 16) (a0 % 65536) false _ A2.out).mono ?_); rintro e w15 ⟨rfl, hb⟩; refine ⟨_, rfl, ?_⟩; have n0_ := Aside0.mk (blk_below (g := gb113) (o := .cells #[.int .i64 0, .int .i64 0, .int .i64 0, .int .i64 0] 46 (0, 0)) (by (with_reducible repeat (first | refine blk_drewN ?_ _ | refine blk_drew ?_ | refine blk_alloc ?_ _)); refine blk_far ?_ NB113_114.out _; (with_reducible repeat (first | refine blk_drewN ?_ _ | refine blk_drew ?_ | refine blk_alloc ?_ _)); refine blk_far ?_ NB113_114.out _; (with_reducible repeat (first | refine blk_drewN ?_ _ | refine blk_drew ?_ | refine blk_alloc ?_ _)); refine blk_far ?_ NB113_114.out _; (with_reducible repeat (first | refine blk_drewN ?_ _ | refine blk_drew ?_ | refine blk_alloc ?_ _)); refine blk_far ?_ NB113_114.out _; (with_reducible repeat (first | refine blk_drewN ?_ _ | refine blk_drew ?_ | refine blk_alloc ?_ _)); exact BK113.out) hb); have n1_ := Aside0.mk (blk_below (g := gb114) (o := .cells #[.int .i64 (a0 / 16777216), .int .i64 (a0 / 1048576 % 16), .int .i64 (a0 / 65536 % 16), .int .i64 (a0 % 65536)] 46 (0, 0)) (by (with_reducible repeat (first | refine blk_drewN ?_ _ | refine blk_drew ?_ | refine blk_alloc ?_ _)); refine blk_put (cs := #[.int .i64 (a0 / 16777216), .int .i64 (a0 / 1048576 % 16), .int .i64 (a0 / 65536 % 16), .int .i64 0]) ?_ 3 _ rfl; (with_reducible repeat (first | refine blk_drewN ?_ _ | refine blk_drew ?_ | refine blk_alloc ?_ _)); refine blk_put (cs := #[.int .i64 (a0 / 16777216), .int .i64 (a0 / 1048576 % 16), .int .i64 0, .int .i64 0]) ?_ 2 _ rfl; (with_reducible repeat (first | refine blk_drewN ?_ _ | refine blk_drew ?_ | refine blk_alloc ?_ _)); refine blk_put (cs := #[.int .i64 (a0 / 16777216), .int .i64 0, .int .i64 0, .int .i64 0]) ?_ 1 _ rfl; (with_reducible repeat (first | refine blk_drewN ?_ _ | refine blk_drew ?_ | refine blk_alloc ?_ _)); refine blk_put (cs := #[.int .i64 0, .int .i64 0, .int .i64 0, .int .i64 0]) ?_ 0 _ rfl; (with_reducible repeat (first | refine blk_drewN ?_ _ | refine blk_drew ?_ | refine blk_alloc ?_ _)); exact BK114.out) hb); have n2_ := Aside0.mk (below_step (by repeat (first | (with_reducible first | exact HB.out | apply below_alloc | apply pw_below_drewN | apply below_drew1 | refine below_set ?_ GE113.out | refine below_set ?_ GE114.out) | exact HB.out)) hb); clear BK113; clear BK114; clear HB; have BK113 := n0_; have BK114 := n1_; have HB := n2_; clear n0_ n1_ n2_; (try clear hb); (try clear hb2); (try clear hk); (try clear hi); have hcz16_0 : w15.cell? ⟨gb113, 0, none⟩ = some (.int .i64 0) := (blk_cell BK113.out 0).trans rfl; have hcz16_1 : w15.cell? ⟨gb113, 1, none⟩ = some (.int .i64 0) := (blk_cell BK113.out 1).trans rfl; have hcz16_2 : w15.cell? ⟨gb113, 2, none⟩ = some (.int .i64 0) := (blk_cell BK113.out 2).trans rfl; have hcz16_3 : w15.cell? ⟨gb113, 3, none⟩ = some (.int .i64 0) := (blk_cell BK113.out 3).trans rfl; have hfz16_0 := blk_frozen BK113.out 0; have hfz16_1 := blk_frozen BK113.out 1; have hfz16_2 := blk_frozen BK113.out 2; have hfz16_3 := blk_frozen BK113.out 3))
    refine bodyPost_ret (results_ct rfl _ _ gb113 46 #[.int .i64 0, .int .i64 0, .int .i64 0, .int .i64 0] (0, 0) _ rfl (by (with_reducible repeat (first | refine blk_drewN ?_ _ | refine blk_drew ?_ | refine blk_alloc ?_ _)); refine blk_put (cs := #[.int .i64 0, .int .i64 0, .int .i64 0, .int .i64 0]) ?_ 3 _ rfl; (with_reducible repeat (first | refine blk_drewN ?_ _ | refine blk_drew ?_ | refine blk_alloc ?_ _)); refine blk_put (cs := #[.int .i64 0, .int .i64 0, .int .i64 0, .int .i64 0]) ?_ 2 _ rfl; (with_reducible repeat (first | refine blk_drewN ?_ _ | refine blk_drew ?_ | refine blk_alloc ?_ _)); refine blk_put (cs := #[.int .i64 0, .int .i64 0, .int .i64 0, .int .i64 0]) ?_ 1 _ rfl; (with_reducible repeat (first | refine blk_drewN ?_ _ | refine blk_drew ?_ | refine blk_alloc ?_ _)); refine blk_put (cs := #[.int .i64 0, .int .i64 0, .int .i64 0, .int .i64 0]) ?_ 0 _ rfl; (with_reducible repeat (first | refine blk_drewN ?_ _ | refine blk_drew ?_ | refine blk_alloc ?_ _)); exact BK113.out) Tryd.underlying46 rfl (by kernel_rfl)) rfl ?_
    exact ⟨by first | rfl | (simp [errW_none, errW_some] <;> rfl) | (simp [*, errW_none, errW_some] <;> rfl), by repeat (first | (with_reducible first | exact HB.out | apply below_alloc | apply pw_below_drewN | apply below_drew1 | refine below_set ?_ GE113.out | refine below_set ?_ GE114.out) | exact HB.out)⟩
end Go.Proofs.YtdhkmdgieflioaaDoor.F
namespace Go.Proofs.YtdhkmdgieflioaaDoor.F
open Go.RowKit Go.Proofs.YtdhkmdgieflioaaDoorW.PrintWords Go.Proofs.YtdhkmdgieflioaaDoorW.PrintLast Go.Proofs.YtdhkmdgieflioaaDoorW.PrintMore
attribute [local go_sem] max2_int min2_int max_two min_two max_three min_three max_four min_four
set_option linter.unusedVariables false
set_option linter.unusedSimpArgs false
attribute [local go_sem high] eqA46
def seedcornlaw07_InstReads.j0 : Nat → Int → Int → Bool → Int → Int → Int → Int → Option (Bool)
  | 0, _, _, _, _, _, _, _ => none
  | k + 1, x0, x4, x28, x354000, x354001, x354002, x354003 => if x28 = true then (some false) else ((inst_Encode.f x354000 x354001 x354002 x354003).bind fun bt360 => (if x4 = 0 then (if bt360.2 = 0 then (if bt360.1 = x0 then ((inst_Right.f x354000 x354001 x354002 x354003).bind fun t362 => (some t362)) else (some false)) else (some false)) else (some true)))
def seedcornlaw07_InstReads.f (k : Nat) (a0 : Int) : Option (Bool) := (seedcornlaw07_alive.f).bind fun t347 => (if t347 = true then ((inst_Decode.f a0).bind fun bt348 => ((seedcornref07_Decode.f a0).bind fun bt354 => (if (!(bt348.1 == bt354.1) || (!(bt348.2.1 == bt354.2.1) || (!(bt348.2.2.1 == bt354.2.2.1) || (!(bt348.2.2.2.1 == bt354.2.2.2.1))))) = true then (seedcornlaw07_InstReads.j0 k a0 bt348.2.2.2.2 true bt348.1 bt348.2.1 bt348.2.2.1 bt348.2.2.2.1) else (seedcornlaw07_InstReads.j0 k a0 bt348.2.2.2.2 (bt348.2.2.2.2 != bt354.2.2.2.2) bt348.1 bt348.2.1 bt348.2.2.1 bt348.2.2.2.1)))) else (some false))
theorem seedcornlaw07_InstReads.mono_l : ∀ k, (∀ y0 y1 y2 y3 y4 y5 y6, LeO (seedcornlaw07_InstReads.j0 k y0 y1 y2 y3 y4 y5 y6) (seedcornlaw07_InstReads.j0 (k + 1) y0 y1 y2 y3 y4 y5 y6))
  | 0 => fun _ _ _ _ _ _ _ r h => by simp [seedcornlaw07_InstReads.j0] at h
  | k + 1 => by
    have ih0 := seedcornlaw07_InstReads.mono_l k
    · intro y0 y1 y2 y3 y4 y5 y6
      unfold seedcornlaw07_InstReads.j0
      repeat' first
      | (with_reducible exact ih0 _ _ _ _ _ _ _)
      | (with_reducible exact LeO.refl _)
      | (with_reducible exact LeO.none _)
      | (with_reducible refine LeO.ite ?_ ?_)
      | (with_reducible refine LeO.bind ?_ (fun _ => ?_))
      | exact ih0 _ _ _ _ _ _ _
      | exact LeO.none _
      | refine LeO.ite ?_ ?_
      | refine LeO.bind ?_ (fun _ => ?_)
theorem seedcornlaw07_InstReads.mono : ∀ a0 k, LeO (seedcornlaw07_InstReads.f k a0) (seedcornlaw07_InstReads.f (k + 1) a0) := by
  intro a0 k
  have ih0 := seedcornlaw07_InstReads.mono_l k
  unfold seedcornlaw07_InstReads.f
  repeat' first
      | (with_reducible exact ih0 _ _ _ _ _ _ _)
      | (with_reducible exact LeO.refl _)
      | (with_reducible exact LeO.none _)
      | (with_reducible refine LeO.ite ?_ ?_)
      | (with_reducible refine LeO.bind ?_ (fun _ => ?_))
      | exact ih0 _ _ _ _ _ _ _
      | exact LeO.none _
      | refine LeO.ite ?_ ?_
      | refine LeO.bind ?_ (fun _ => ?_)
set_option maxHeartbeats 8000000 in
set_option maxRecDepth 100000 in
theorem seedcornlaw07_InstReads.calls (k : Nat) (a0 : Int) (r : Bool) (w : World) (hGK : GK w) (hGT : GT w) (h : seedcornlaw07_InstReads.f k a0 = some r) :
    Calls Tryd.prog 11 #[.int .u32 a0] w fun e w' => e = .returned (.bool r) ∧ Below w.heap.size w w' := by
  have hu46 := Tryd.underlying46
  have HGK := Aside0.mk hGK
  clear hGK
  have HGT := Aside0.mk hGT
  clear hGT
  have HB := Aside0.mk (Below.refl w.heap.size w)
  have H : ((seedcornlaw07_alive.f).bind fun t347 => (if t347 = true then ((inst_Decode.f a0).bind fun bt348 => ((seedcornref07_Decode.f a0).bind fun bt354 => (if (!(bt348.1 == bt354.1) || (!(bt348.2.1 == bt354.2.1) || (!(bt348.2.2.1 == bt354.2.2.1) || (!(bt348.2.2.2.1 == bt354.2.2.2.1))))) = true then (seedcornlaw07_InstReads.j0 k a0 bt348.2.2.2.2 true bt348.1 bt348.2.1 bt348.2.2.1 bt348.2.2.2.1) else (seedcornlaw07_InstReads.j0 k a0 bt348.2.2.2.2 (bt348.2.2.2.2 != bt354.2.2.2.2) bt348.1 bt348.2.1 bt348.2.2.1 bt348.2.2.2.1)))) else (some false))) = some r := h
  clear h
  replace H := Option.bind_eq_some_iff.mp H
  obtain ⟨t347, A20, H⟩ := H
  replace H : (if t347 = true then ((inst_Decode.f a0).bind fun bt348 => ((seedcornref07_Decode.f a0).bind fun bt354 => (if (!(bt348.1 == bt354.1) || (!(bt348.2.1 == bt354.2.1) || (!(bt348.2.2.1 == bt354.2.2.1) || (!(bt348.2.2.2.1 == bt354.2.2.2.1))))) = true then (seedcornlaw07_InstReads.j0 k a0 bt348.2.2.2.2 true bt348.1 bt348.2.1 bt348.2.2.1 bt348.2.2.2.1) else (seedcornlaw07_InstReads.j0 k a0 bt348.2.2.2.2 (bt348.2.2.2.2 != bt354.2.2.2.2) bt348.1 bt348.2.1 bt348.2.2.1 bt348.2.2.2.1)))) else (some false)) = some r := H
  have A2 := Aside0.mk A20
  clear A20
  by_cases c3 : t347 = true
  · subst c3
    have H1 : ((inst_Decode.f a0).bind fun bt348 => ((seedcornref07_Decode.f a0).bind fun bt354 => (if (!(bt348.1 == bt354.1) || (!(bt348.2.1 == bt354.2.1) || (!(bt348.2.2.1 == bt354.2.2.1) || (!(bt348.2.2.2.1 == bt354.2.2.2.1))))) = true then (seedcornlaw07_InstReads.j0 k a0 bt348.2.2.2.2 true bt348.1 bt348.2.1 bt348.2.2.1 bt348.2.2.2.1) else (seedcornlaw07_InstReads.j0 k a0 bt348.2.2.2.2 (bt348.2.2.2.2 != bt354.2.2.2.2) bt348.1 bt348.2.1 bt348.2.2.1 bt348.2.2.2.1)))) = some r := by rw [if_pos rfl] at H; exact H
    clear H
    have H := H1
    clear H1
    replace H := Option.bind_eq_some_iff.mp H
    obtain ⟨⟨t348, t349, t350, t351, t352⟩, A40, H⟩ := H
    replace H : ((seedcornref07_Decode.f a0).bind fun bt354 => (if (!(t348 == bt354.1) || (!(t349 == bt354.2.1) || (!(t350 == bt354.2.2.1) || (!(t351 == bt354.2.2.2.1))))) = true then (seedcornlaw07_InstReads.j0 k a0 t352 true t348 t349 t350 t351) else (seedcornlaw07_InstReads.j0 k a0 t352 (t352 != bt354.2.2.2.2) t348 t349 t350 t351))) = some r := H
    have A4 := Aside0.mk A40
    clear A40
    replace H := Option.bind_eq_some_iff.mp H
    obtain ⟨⟨t354, t355, t356, t357, t358⟩, A50, H⟩ := H
    replace H : (if (!(t348 == t354) || (!(t349 == t355) || (!(t350 == t356) || (!(t351 == t357))))) = true then (seedcornlaw07_InstReads.j0 k a0 t352 true t348 t349 t350 t351) else (seedcornlaw07_InstReads.j0 k a0 t352 (t352 != t358) t348 t349 t350 t351)) = some r := H
    have A5 := Aside0.mk A50
    clear A50
    have HC6 := Aside0.mk H
    clear H
    go_enter Tryd.func11, Tryd.ntmps11
    go_upto_region 5 with (first | ((with_reducible refine gate_callee (f := 37) rfl ?_); refine goesL_ (some 9) rfl rfl Tryd.func37 (by kernel_rfl) rfl #[] rfl (by (try simp only [List.map_toArray, List.map_cons, List.map_nil]); first | done | rfl | (simp only [List.length_drop, List.length_take]; rfl)) ?_; (with_reducible refine (seedcornlaw07_alive.calls  true _ ?side1 ?side2 A2.out).mono ?_); (case side1 => exact GK.below HGK.out (by repeat (first | (with_reducible first | exact HB.out | apply below_alloc | apply pw_below_drewN | apply below_drew1) | exact HB.out))); (case side2 => exact GT.below HGT.out (by repeat (first | (with_reducible first | exact HB.out | apply below_alloc | apply pw_below_drewN | apply below_drew1) | exact HB.out))); rintro e w7 ⟨rfl, hb⟩; refine ⟨_, rfl, ?_⟩; have n0_ := Aside0.mk (below_step (by repeat (first | (with_reducible first | exact HB.out | apply below_alloc | apply pw_below_drewN | apply below_drew1) | exact HB.out)) hb); clear HB; have HB := n0_; clear n0_; (try clear hb); (try clear hb2); (try clear hk); (try clear hi)) | ((with_reducible refine gate_callee (f := 44) rfl ?_); refine goesL_ (some 13) rfl rfl Tryd.func44 (by kernel_rfl) rfl #[.int .u32 a0] rfl (by (try simp only [List.map_toArray, List.map_cons, List.map_nil]); first | done | rfl | (simp only [List.length_drop, List.length_take]; rfl)) ?_; (with_reducible refine (inst_Decode.calls a0 t348 t349 t350 t351 t352 _ ?side1 A4.out).mono ?_); (case side1 => exact GK.below HGK.out (by repeat (first | (with_reducible first | exact HB.out | apply below_alloc | apply pw_below_drewN | apply below_drew1) | exact HB.out))); rintro e w8 ⟨rfl, hb⟩; refine ⟨_, rfl, ?_⟩; have n0_ := Aside0.mk (below_step (by repeat (first | (with_reducible first | exact HB.out | apply below_alloc | apply pw_below_drewN | apply below_drew1) | exact HB.out)) hb); clear HB; have HB := n0_; clear n0_; (try clear hb); (try clear hb2); (try clear hk); (try clear hi)) | ((with_reducible refine gate_dst (N := 3) rfl ?_); refine box_event ?hg (N := 3) ?hd (cs := #[.int .i64 0, .int .i64 0, .int .i64 0, .int .i64 0]) (t := 46) ?hr ?_; (case hd => rfl); (case hg => rfl); (case hr => first | (go_simp; done) | (go_simp; rfl)); intro gb353 hg w9 hbox hb; have n0_ := Aside0.mk (below_step (by repeat (first | (with_reducible first | exact HB.out | apply below_alloc | apply pw_below_drewN | apply below_drew1) | exact HB.out)) hb); have n1_ := Aside0.mk (hbox); have n2_ := Aside0.mk ((by rw [hg]; exact (below_size (by repeat (first | (with_reducible first | exact HB.out | apply below_alloc | apply pw_below_drewN | apply below_drew1) | exact HB.out))) : w.heap.size ≤ gb353)); have n3_ := Aside0.mk ((by rw [hg]; exact (below_size (by repeat (first | (with_reducible first | exact HB.out | apply below_alloc | apply pw_below_drewN | apply below_drew1) | exact HB.out))) : w.heap.size ≤ gb353)); clear HB; have HB := n0_; have BK353 := n1_; have GW353 := n2_; have GE353 := n3_; clear n0_ n1_ n2_ n3_; clear hb hbox hg; have hcz10_0 : w9.cell? ⟨gb353, 0, none⟩ = some (.int .i64 0) := (blk_cell BK353.out 0).trans rfl; have hcz10_1 : w9.cell? ⟨gb353, 1, none⟩ = some (.int .i64 0) := (blk_cell BK353.out 1).trans rfl; have hcz10_2 : w9.cell? ⟨gb353, 2, none⟩ = some (.int .i64 0) := (blk_cell BK353.out 2).trans rfl; have hcz10_3 : w9.cell? ⟨gb353, 3, none⟩ = some (.int .i64 0) := (blk_cell BK353.out 3).trans rfl; have hfz10_0 := blk_frozen BK353.out 0; have hfz10_1 := blk_frozen BK353.out 1; have hfz10_2 := blk_frozen BK353.out 2; have hfz10_3 := blk_frozen BK353.out 3) | ((with_reducible refine gate_callee (f := 46) rfl ?_); refine goesL_ (some 18) rfl rfl Tryd.func46 (by kernel_rfl) rfl #[.int .u32 a0] rfl (by (try simp only [List.map_toArray, List.map_cons, List.map_nil]); first | done | rfl | (simp only [List.length_drop, List.length_take]; rfl)) ?_; (with_reducible refine (seedcornref07_Decode.calls a0 t354 t355 t356 t357 t358 _ A5.out).mono ?_); rintro e w11 ⟨rfl, hb⟩; refine ⟨_, rfl, ?_⟩; have n0_ := Aside0.mk (blk_below (g := gb353) (o := .cells #[.int .i64 t348, .int .i64 t349, .int .i64 t350, .int .i64 t351] 46 (0, 0)) (by (with_reducible repeat (first | refine blk_drewN ?_ _ | refine blk_drew ?_ | refine blk_alloc ?_ _)); refine blk_put (cs := #[.int .i64 t348, .int .i64 t349, .int .i64 t350, .int .i64 0]) ?_ 3 _ rfl; (with_reducible repeat (first | refine blk_drewN ?_ _ | refine blk_drew ?_ | refine blk_alloc ?_ _)); refine blk_put (cs := #[.int .i64 t348, .int .i64 t349, .int .i64 0, .int .i64 0]) ?_ 2 _ rfl; (with_reducible repeat (first | refine blk_drewN ?_ _ | refine blk_drew ?_ | refine blk_alloc ?_ _)); refine blk_put (cs := #[.int .i64 t348, .int .i64 0, .int .i64 0, .int .i64 0]) ?_ 1 _ rfl; (with_reducible repeat (first | refine blk_drewN ?_ _ | refine blk_drew ?_ | refine blk_alloc ?_ _)); refine blk_put (cs := #[.int .i64 0, .int .i64 0, .int .i64 0, .int .i64 0]) ?_ 0 _ rfl; (with_reducible repeat (first | refine blk_drewN ?_ _ | refine blk_drew ?_ | refine blk_alloc ?_ _)); exact BK353.out) hb); have n1_ := Aside0.mk (below_step (by repeat (first | (with_reducible first | exact HB.out | apply below_alloc | apply pw_below_drewN | apply below_drew1 | refine below_set ?_ GE353.out) | exact HB.out)) hb); clear BK353; clear HB; have BK353 := n0_; have HB := n1_; clear n0_ n1_; (try clear hb); (try clear hb2); (try clear hk); (try clear hi)) | ((with_reducible refine gate_dst (N := 5) rfl ?_); refine box_event ?hg (N := 5) ?hd (cs := #[.int .i64 0, .int .i64 0, .int .i64 0, .int .i64 0]) (t := 46) ?hr ?_; (case hd => rfl); (case hg => rfl); (case hr => first | (go_simp; done) | (go_simp; rfl)); intro gb359 hg w12 hbox hb; have n0_ := Aside0.mk (blk_below (g := gb353) (o := .cells #[.int .i64 t348, .int .i64 t349, .int .i64 t350, .int .i64 t351] 46 (0, 0)) (by (with_reducible repeat (first | refine blk_drewN ?_ _ | refine blk_drew ?_ | refine blk_alloc ?_ _)); exact BK353.out) hb); have n1_ := Aside0.mk (below_step (by repeat (first | (with_reducible first | exact HB.out | apply below_alloc | apply pw_below_drewN | apply below_drew1 | refine below_set ?_ GE353.out) | exact HB.out)) hb); have n2_ := Aside0.mk (hbox); have n3_ := Aside0.mk ((by rw [hg]; exact (below_size (by repeat (first | (with_reducible first | exact HB.out | apply below_alloc | apply pw_below_drewN | apply below_drew1 | refine below_set ?_ GE353.out) | exact HB.out))) : w.heap.size ≤ gb359)); have n4_ := Aside0.mk ((by rw [hg]; exact (below_size (by repeat (first | (with_reducible first | exact HB.out | apply below_alloc | apply pw_below_drewN | apply below_drew1 | refine below_set ?_ GE353.out) | exact HB.out))) : w.heap.size ≤ gb359)); have n5_ := Aside0.mk ((by rw [hg]; exact Nat.ne_of_lt (blk_lt (g := gb353) (o := .cells #[.int .i64 t348, .int .i64 t349, .int .i64 t350, .int .i64 t351] 46 (0, 0)) (by (with_reducible repeat (first | refine blk_drewN ?_ _ | refine blk_drew ?_ | refine blk_alloc ?_ _)); exact BK353.out)) : gb353 ≠ gb359)); have n6_ := Aside0.mk ((by rw [hg]; exact Nat.ne_of_gt (blk_lt (g := gb353) (o := .cells #[.int .i64 t348, .int .i64 t349, .int .i64 t350, .int .i64 t351] 46 (0, 0)) (by (with_reducible repeat (first | refine blk_drewN ?_ _ | refine blk_drew ?_ | refine blk_alloc ?_ _)); exact BK353.out)) : gb359 ≠ gb353)); clear BK353; clear HB; have BK353 := n0_; have HB := n1_; have BK359 := n2_; have GW359 := n3_; have GE359 := n4_; have NB353_359 := n5_; have NB359_353 := n6_; clear n0_ n1_ n2_ n3_ n4_ n5_ n6_; clear hb hbox hg; have hnb13 := NB359_353.out; have hnc13 := NB353_359.out; have hcz14_0 : w12.cell? ⟨gb359, 0, none⟩ = some (.int .i64 0) := (blk_cell BK359.out 0).trans rfl; have hcz14_1 : w12.cell? ⟨gb359, 1, none⟩ = some (.int .i64 0) := (blk_cell BK359.out 1).trans rfl; have hcz14_2 : w12.cell? ⟨gb359, 2, none⟩ = some (.int .i64 0) := (blk_cell BK359.out 2).trans rfl; have hcz14_3 : w12.cell? ⟨gb359, 3, none⟩ = some (.int .i64 0) := (blk_cell BK359.out 3).trans rfl; have hfz14_0 := blk_frozen BK359.out 0; have hfz14_1 := blk_frozen BK359.out 1; have hfz14_2 := blk_frozen BK359.out 2; have hfz14_3 := blk_frozen BK359.out 3))
    (try simp only [Act.put, List.setIfInBounds_toArray, List.set_cons_zero, List.set_cons_succ])
    go_cut [28] (fun v28 wc => ∃ (kq : Nat) (x28_5 : Bool), v28 = .bool x28_5 ∧ Aside0 (seedcornlaw07_InstReads.j0 kq a0 t352 x28_5 t348 t349 t350 t351 = some r) ∧ Aside0 (kq ≤ k) ∧ Aside0 (wc.heap[gb353]? = some (.cells #[.int .i64 t348, .int .i64 t349, .int .i64 t350, .int .i64 t351] 46 (0, 0))) ∧ Aside0 (wc.heap[gb359]? = some (.cells #[.int .i64 t354, .int .i64 t355, .int .i64 t356, .int .i64 t357] 46 (0, 0))) ∧ Aside0 (Below w.heap.size w wc))
    case first =>
      have H := HC6.out
      clear HC6
      by_cases c15 : (!(t348 == t354) || (!(t349 == t355) || (!(t350 == t356) || (!(t351 == t357))))) = true
      · rw [if_pos c15] at H
        have c15b0 : (!(t348 == t354) || (!(t349 == t355) || (!(t350 == t356) || (!(t351 == t357))))) = true := c15
        clear c15
        (first | rw [c15b0] | (simp only [i64_w, i32_w]; rw [c15b0]) | skip)
        have H' := Aside0.mk H
        clear H
        have hnb16 := NB353_359.out
        have hnc16 := NB359_353.out
        have hcz17_0 : w12.cell? ⟨gb353, 0, none⟩ = some (.int .i64 t348) := (blk_cell BK353.out 0).trans rfl
        have hcz17_1 : w12.cell? ⟨gb353, 1, none⟩ = some (.int .i64 t349) := (blk_cell BK353.out 1).trans rfl
        have hcz17_2 : w12.cell? ⟨gb353, 2, none⟩ = some (.int .i64 t350) := (blk_cell BK353.out 2).trans rfl
        have hcz17_3 : w12.cell? ⟨gb353, 3, none⟩ = some (.int .i64 t351) := (blk_cell BK353.out 3).trans rfl
        have hfz17_0 := blk_frozen BK353.out 0
        have hfz17_1 := blk_frozen BK353.out 1
        have hfz17_2 := blk_frozen BK353.out 2
        have hfz17_3 := blk_frozen BK353.out 3
        have hcz18_0 : w12.cell? ⟨gb359, 0, none⟩ = some (.int .i64 0) := (blk_cell BK359.out 0).trans rfl
        have hcz18_1 : w12.cell? ⟨gb359, 1, none⟩ = some (.int .i64 0) := (blk_cell BK359.out 1).trans rfl
        have hcz18_2 : w12.cell? ⟨gb359, 2, none⟩ = some (.int .i64 0) := (blk_cell BK359.out 2).trans rfl
        have hcz18_3 : w12.cell? ⟨gb359, 3, none⟩ = some (.int .i64 0) := (blk_cell BK359.out 3).trans rfl
        have hfz18_0 := blk_frozen BK359.out 0
        have hfz18_1 := blk_frozen BK359.out 1
        have hfz18_2 := blk_frozen BK359.out 2
        have hfz18_3 := blk_frozen BK359.out 3
        go_wp2
        go_meet
        case rel => exact ⟨_, (true), (by first | rfl | (simp; done) | (simp [*]; done)), H', ⟨by first | omega | exact Nat.le_refl _⟩, ⟨by (with_reducible repeat (first | refine blk_drewN ?_ _ | refine blk_drew ?_ | refine blk_alloc ?_ _)); refine blk_far ?_ NB353_359.out _; (with_reducible repeat (first | refine blk_drewN ?_ _ | refine blk_drew ?_ | refine blk_alloc ?_ _)); refine blk_far ?_ NB353_359.out _; (with_reducible repeat (first | refine blk_drewN ?_ _ | refine blk_drew ?_ | refine blk_alloc ?_ _)); refine blk_far ?_ NB353_359.out _; (with_reducible repeat (first | refine blk_drewN ?_ _ | refine blk_drew ?_ | refine blk_alloc ?_ _)); refine blk_far ?_ NB353_359.out _; (with_reducible repeat (first | refine blk_drewN ?_ _ | refine blk_drew ?_ | refine blk_alloc ?_ _)); exact BK353.out⟩, ⟨by (with_reducible repeat (first | refine blk_drewN ?_ _ | refine blk_drew ?_ | refine blk_alloc ?_ _)); refine blk_put (cs := #[.int .i64 t354, .int .i64 t355, .int .i64 t356, .int .i64 0]) ?_ 3 _ rfl; (with_reducible repeat (first | refine blk_drewN ?_ _ | refine blk_drew ?_ | refine blk_alloc ?_ _)); refine blk_put (cs := #[.int .i64 t354, .int .i64 t355, .int .i64 0, .int .i64 0]) ?_ 2 _ rfl; (with_reducible repeat (first | refine blk_drewN ?_ _ | refine blk_drew ?_ | refine blk_alloc ?_ _)); refine blk_put (cs := #[.int .i64 t354, .int .i64 0, .int .i64 0, .int .i64 0]) ?_ 1 _ rfl; (with_reducible repeat (first | refine blk_drewN ?_ _ | refine blk_drew ?_ | refine blk_alloc ?_ _)); refine blk_put (cs := #[.int .i64 0, .int .i64 0, .int .i64 0, .int .i64 0]) ?_ 0 _ rfl; (with_reducible repeat (first | refine blk_drewN ?_ _ | refine blk_drew ?_ | refine blk_alloc ?_ _)); exact BK359.out⟩, ⟨by repeat (first | (with_reducible first | exact HB.out | apply below_alloc | apply pw_below_drewN | apply below_drew1 | refine below_set ?_ GE353.out | refine below_set ?_ GE359.out) | exact HB.out)⟩⟩
      · rw [if_neg c15] at H
        have c15b0 : (!(t348 == t354) || (!(t349 == t355) || (!(t350 == t356) || (!(t351 == t357))))) = false := by simpa using c15
        clear c15
        (first | rw [c15b0] | (simp only [i64_w, i32_w]; rw [c15b0]) | skip)
        have H' := Aside0.mk H
        clear H
        have hnb19 := NB353_359.out
        have hnc19 := NB359_353.out
        have hcz20_0 : w12.cell? ⟨gb353, 0, none⟩ = some (.int .i64 t348) := (blk_cell BK353.out 0).trans rfl
        have hcz20_1 : w12.cell? ⟨gb353, 1, none⟩ = some (.int .i64 t349) := (blk_cell BK353.out 1).trans rfl
        have hcz20_2 : w12.cell? ⟨gb353, 2, none⟩ = some (.int .i64 t350) := (blk_cell BK353.out 2).trans rfl
        have hcz20_3 : w12.cell? ⟨gb353, 3, none⟩ = some (.int .i64 t351) := (blk_cell BK353.out 3).trans rfl
        have hfz20_0 := blk_frozen BK353.out 0
        have hfz20_1 := blk_frozen BK353.out 1
        have hfz20_2 := blk_frozen BK353.out 2
        have hfz20_3 := blk_frozen BK353.out 3
        have hcz21_0 : w12.cell? ⟨gb359, 0, none⟩ = some (.int .i64 0) := (blk_cell BK359.out 0).trans rfl
        have hcz21_1 : w12.cell? ⟨gb359, 1, none⟩ = some (.int .i64 0) := (blk_cell BK359.out 1).trans rfl
        have hcz21_2 : w12.cell? ⟨gb359, 2, none⟩ = some (.int .i64 0) := (blk_cell BK359.out 2).trans rfl
        have hcz21_3 : w12.cell? ⟨gb359, 3, none⟩ = some (.int .i64 0) := (blk_cell BK359.out 3).trans rfl
        have hfz21_0 := blk_frozen BK359.out 0
        have hfz21_1 := blk_frozen BK359.out 1
        have hfz21_2 := blk_frozen BK359.out 2
        have hfz21_3 := blk_frozen BK359.out 3
        go_wp2
        go_meet
        case rel => exact ⟨_, ((t352 != t358)), (by first | rfl | (simp; done) | (simp [*]; done)), H', ⟨by first | omega | exact Nat.le_refl _⟩, ⟨by (with_reducible repeat (first | refine blk_drewN ?_ _ | refine blk_drew ?_ | refine blk_alloc ?_ _)); refine blk_far ?_ NB353_359.out _; (with_reducible repeat (first | refine blk_drewN ?_ _ | refine blk_drew ?_ | refine blk_alloc ?_ _)); refine blk_far ?_ NB353_359.out _; (with_reducible repeat (first | refine blk_drewN ?_ _ | refine blk_drew ?_ | refine blk_alloc ?_ _)); refine blk_far ?_ NB353_359.out _; (with_reducible repeat (first | refine blk_drewN ?_ _ | refine blk_drew ?_ | refine blk_alloc ?_ _)); refine blk_far ?_ NB353_359.out _; (with_reducible repeat (first | refine blk_drewN ?_ _ | refine blk_drew ?_ | refine blk_alloc ?_ _)); exact BK353.out⟩, ⟨by (with_reducible repeat (first | refine blk_drewN ?_ _ | refine blk_drew ?_ | refine blk_alloc ?_ _)); refine blk_put (cs := #[.int .i64 t354, .int .i64 t355, .int .i64 t356, .int .i64 0]) ?_ 3 _ rfl; (with_reducible repeat (first | refine blk_drewN ?_ _ | refine blk_drew ?_ | refine blk_alloc ?_ _)); refine blk_put (cs := #[.int .i64 t354, .int .i64 t355, .int .i64 0, .int .i64 0]) ?_ 2 _ rfl; (with_reducible repeat (first | refine blk_drewN ?_ _ | refine blk_drew ?_ | refine blk_alloc ?_ _)); refine blk_put (cs := #[.int .i64 t354, .int .i64 0, .int .i64 0, .int .i64 0]) ?_ 1 _ rfl; (with_reducible repeat (first | refine blk_drewN ?_ _ | refine blk_drew ?_ | refine blk_alloc ?_ _)); refine blk_put (cs := #[.int .i64 0, .int .i64 0, .int .i64 0, .int .i64 0]) ?_ 0 _ rfl; (with_reducible repeat (first | refine blk_drewN ?_ _ | refine blk_drew ?_ | refine blk_alloc ?_ _)); exact BK359.out⟩, ⟨by repeat (first | (with_reducible first | exact HB.out | apply below_alloc | apply pw_below_drewN | apply below_drew1 | refine below_set ?_ GE353.out | refine below_set ?_ GE359.out) | exact HB.out)⟩⟩
    case rest =>
      clear HC6
      try clear c1
      try clear p2
      try clear c3
      try clear c4
      try clear c11
      try clear c13
      try clear c15
      try clear c15b0
      try clear c16
      try clear c19
      try clear hcz10_0
      try clear hcz10_1
      try clear hcz10_2
      try clear hcz10_3
      try clear hcz14_0
      try clear hcz14_1
      try clear hcz14_2
      try clear hcz14_3
      try clear hcz17_0
      try clear hcz17_1
      try clear hcz17_2
      try clear hcz17_3
      try clear hcz18_0
      try clear hcz18_1
      try clear hcz18_2
      try clear hcz18_3
      try clear hcz20_0
      try clear hcz20_1
      try clear hcz20_2
      try clear hcz20_3
      try clear hcz21_0
      try clear hcz21_1
      try clear hcz21_2
      try clear hcz21_3
      try clear hfz10_0
      try clear hfz10_1
      try clear hfz10_2
      try clear hfz10_3
      try clear hfz14_0
      try clear hfz14_1
      try clear hfz14_2
      try clear hfz14_3
      try clear hfz17_0
      try clear hfz17_1
      try clear hfz17_2
      try clear hfz17_3
      try clear hfz18_0
      try clear hfz18_1
      try clear hfz18_2
      try clear hfz18_3
      try clear hfz20_0
      try clear hfz20_1
      try clear hfz20_2
      try clear hfz20_3
      try clear hfz21_0
      try clear hfz21_1
      try clear hfz21_2
      try clear hfz21_3
      obtain ⟨kq, x28_5, rfl, HA, HJ5, BK353, BK359, HB⟩ := hcut
      cases kq with
      | zero => exact absurd HA.out (by simp [seedcornlaw07_InstReads.j0])
      | succ kj5 =>
        have H := HA.out
        clear HA
        simp only [seedcornlaw07_InstReads.j0] at H
        by_cases c22 : x28_5 = true
        · subst c22
          have H1 : (some false) = some r := by rw [if_pos rfl] at H; exact H
          clear H
          have H := H1
          clear H1
          obtain rfl := Option.some.inj H
          go_wp2
          go_ret
          exact ⟨by first | rfl | (simp [errW_none, errW_some] <;> rfl) | (simp [*, errW_none, errW_some] <;> rfl), by repeat (first | (with_reducible first | exact HB.out | apply below_alloc | apply pw_below_drewN | apply below_drew1 | refine below_set ?_ GE353.out | refine below_set ?_ GE359.out) | exact HB.out)⟩
        · replace c22 := Bool.eq_false_iff.mpr c22
          subst c22
          have H1 : ((inst_Encode.f t348 t349 t350 t351).bind fun bt360 => (if t352 = 0 then (if bt360.2 = 0 then (if bt360.1 = a0 then ((inst_Right.f t348 t349 t350 t351).bind fun t362 => (some t362)) else (some false)) else (some false)) else (some true))) = some r := by rw [if_neg (show ¬ (false = true) by decide)] at H; exact H
          clear H
          have H := H1
          clear H1
          replace H := Option.bind_eq_some_iff.mp H
          obtain ⟨⟨t360, t361⟩, A230, H⟩ := H
          replace H : (if t352 = 0 then (if t361 = 0 then (if t360 = a0 then ((inst_Right.f t348 t349 t350 t351).bind fun t362 => (some t362)) else (some false)) else (some false)) else (some true)) = some r := H
          have A23 := Aside0.mk A230
          clear A230
          by_cases c24 : t352 = 0
          · rw [if_pos c24] at H
            have c24b0 : (t352 == 0) = true := beq_iff_eq.mpr c24
            have c24b1 : (t352 != 0) = false := bne_eq_false_iff_eq.mpr c24
            clear c24
            by_cases c25 : t361 = 0
            · rw [if_pos c25] at H
              have c25b0 : (t361 == 0) = true := beq_iff_eq.mpr c25
              have c25b1 : (t361 != 0) = false := bne_eq_false_iff_eq.mpr c25
              clear c25
              by_cases c26 : t360 = a0
              · rw [if_pos c26] at H
                have c26b0 : (t360 == a0) = true := beq_iff_eq.mpr c26
                have c26b1 : (t360 != a0) = false := bne_eq_false_iff_eq.mpr c26
                clear c26
                replace H := Option.bind_eq_some_iff.mp H
                obtain ⟨t362, A270, H⟩ := H
                replace H : (some t362) = some r := H
                have A27 := Aside0.mk A270
                clear A270
                obtain rfl := Option.some.inj H
                have hnb28 := NB353_359.out
                have hnc28 := NB359_353.out
                have hcz29_0 : wc.cell? ⟨gb353, 0, none⟩ = some (.int .i64 t348) := (blk_cell BK353.out 0).trans rfl
                have hcz29_1 : wc.cell? ⟨gb353, 1, none⟩ = some (.int .i64 t349) := (blk_cell BK353.out 1).trans rfl
                have hcz29_2 : wc.cell? ⟨gb353, 2, none⟩ = some (.int .i64 t350) := (blk_cell BK353.out 2).trans rfl
                have hcz29_3 : wc.cell? ⟨gb353, 3, none⟩ = some (.int .i64 t351) := (blk_cell BK353.out 3).trans rfl
                have hfz29_0 := blk_frozen BK353.out 0
                have hfz29_1 := blk_frozen BK353.out 1
                have hfz29_2 := blk_frozen BK353.out 2
                have hfz29_3 := blk_frozen BK353.out 3
                go_wp2_with (first | ((with_reducible refine gate_callee (f := 38) rfl ?_); refine goesL_ (some 31) rfl rfl Tryd.func38 (by kernel_rfl) rfl #[.agg #[.int .i64 t348, .int .i64 t349, .int .i64 t350, .int .i64 t351]] rfl (by (try simp only [List.map_toArray, List.map_cons, List.map_nil]); first | done | rfl | (simp only [List.length_drop, List.length_take]; rfl)) ?_; (with_reducible refine (inst_Encode.calls t348 t349 t350 t351 t360 t361 _ ?side1 A23.out).mono ?_); (case side1 => exact GK.below HGK.out (by repeat (first | (with_reducible first | exact HB.out | apply below_alloc | apply pw_below_drewN | apply below_drew1 | refine below_set ?_ GE353.out | refine below_set ?_ GE359.out) | exact HB.out))); rintro e w30 ⟨rfl, hb⟩; refine ⟨_, rfl, ?_⟩; have n0_ := Aside0.mk (blk_below (g := gb353) (o := .cells #[.int .i64 t348, .int .i64 t349, .int .i64 t350, .int .i64 t351] 46 (0, 0)) (by (with_reducible repeat (first | refine blk_drewN ?_ _ | refine blk_drew ?_ | refine blk_alloc ?_ _)); exact BK353.out) hb); have n1_ := Aside0.mk (blk_below (g := gb359) (o := .cells #[.int .i64 t354, .int .i64 t355, .int .i64 t356, .int .i64 t357] 46 (0, 0)) (by (with_reducible repeat (first | refine blk_drewN ?_ _ | refine blk_drew ?_ | refine blk_alloc ?_ _)); exact BK359.out) hb); have n2_ := Aside0.mk (below_step (by repeat (first | (with_reducible first | exact HB.out | apply below_alloc | apply pw_below_drewN | apply below_drew1 | refine below_set ?_ GE353.out | refine below_set ?_ GE359.out) | exact HB.out)) hb); clear BK353; clear BK359; clear HB; have BK353 := n0_; have BK359 := n1_; have HB := n2_; clear n0_ n1_ n2_; (try clear hb); (try clear hb2); (try clear hk); (try clear hi); have hcz31_0 : w30.cell? ⟨gb353, 0, none⟩ = some (.int .i64 t348) := (blk_cell BK353.out 0).trans rfl; have hcz31_1 : w30.cell? ⟨gb353, 1, none⟩ = some (.int .i64 t349) := (blk_cell BK353.out 1).trans rfl; have hcz31_2 : w30.cell? ⟨gb353, 2, none⟩ = some (.int .i64 t350) := (blk_cell BK353.out 2).trans rfl; have hcz31_3 : w30.cell? ⟨gb353, 3, none⟩ = some (.int .i64 t351) := (blk_cell BK353.out 3).trans rfl; have hfz31_0 := blk_frozen BK353.out 0; have hfz31_1 := blk_frozen BK353.out 1; have hfz31_2 := blk_frozen BK353.out 2; have hfz31_3 := blk_frozen BK353.out 3) | (go_at_call 40; (with_reducible refine (inst_Right.calls t348 t349 t350 t351 t362 _ ?side1 A27.out).mono ?_); (case side1 => exact GK.below HGK.out (by repeat (first | (with_reducible first | exact HB.out | apply below_alloc | apply pw_below_drewN | apply below_drew1 | refine below_set ?_ GE353.out | refine below_set ?_ GE359.out) | exact HB.out))); rintro e w32 ⟨rfl, hb⟩; have n0_ := Aside0.mk (blk_below (g := gb353) (o := .cells #[.int .i64 t348, .int .i64 t349, .int .i64 t350, .int .i64 t351] 46 (0, 0)) (by (with_reducible repeat (first | refine blk_drewN ?_ _ | refine blk_drew ?_ | refine blk_alloc ?_ _)); exact BK353.out) hb); have n1_ := Aside0.mk (blk_below (g := gb359) (o := .cells #[.int .i64 t354, .int .i64 t355, .int .i64 t356, .int .i64 t357] 46 (0, 0)) (by (with_reducible repeat (first | refine blk_drewN ?_ _ | refine blk_drew ?_ | refine blk_alloc ?_ _)); exact BK359.out) hb); have n2_ := Aside0.mk (below_step (by repeat (first | (with_reducible first | exact HB.out | apply below_alloc | apply pw_below_drewN | apply below_drew1 | refine below_set ?_ GE353.out | refine below_set ?_ GE359.out) | exact HB.out)) hb); clear BK353; clear BK359; clear HB; have BK353 := n0_; have BK359 := n1_; have HB := n2_; clear n0_ n1_ n2_; (try clear hb); (try clear hb2); (try clear hk); (try clear hi)))
                go_ret
                exact ⟨by first | rfl | (simp [errW_none, errW_some] <;> rfl) | (simp [*, errW_none, errW_some] <;> rfl), by repeat (first | (with_reducible first | exact HB.out | apply below_alloc | apply pw_below_drewN | apply below_drew1 | refine below_set ?_ GE353.out | refine below_set ?_ GE359.out) | exact HB.out)⟩
              · rw [if_neg c26] at H
                have c26b0 : (t360 == a0) = false := beq_eq_false_iff_ne.mpr c26
                have c26b1 : (t360 != a0) = true := bne_iff_ne.mpr c26
                obtain rfl := Option.some.inj H
                have hnb33 := NB353_359.out
                have hnc33 := NB359_353.out
                have hcz34_0 : wc.cell? ⟨gb353, 0, none⟩ = some (.int .i64 t348) := (blk_cell BK353.out 0).trans rfl
                have hcz34_1 : wc.cell? ⟨gb353, 1, none⟩ = some (.int .i64 t349) := (blk_cell BK353.out 1).trans rfl
                have hcz34_2 : wc.cell? ⟨gb353, 2, none⟩ = some (.int .i64 t350) := (blk_cell BK353.out 2).trans rfl
                have hcz34_3 : wc.cell? ⟨gb353, 3, none⟩ = some (.int .i64 t351) := (blk_cell BK353.out 3).trans rfl
                have hfz34_0 := blk_frozen BK353.out 0
                have hfz34_1 := blk_frozen BK353.out 1
                have hfz34_2 := blk_frozen BK353.out 2
                have hfz34_3 := blk_frozen BK353.out 3
                go_wp2_with (first | ((with_reducible refine gate_callee (f := 38) rfl ?_); refine goesL_ (some 31) rfl rfl Tryd.func38 (by kernel_rfl) rfl #[.agg #[.int .i64 t348, .int .i64 t349, .int .i64 t350, .int .i64 t351]] rfl (by (try simp only [List.map_toArray, List.map_cons, List.map_nil]); first | done | rfl | (simp only [List.length_drop, List.length_take]; rfl)) ?_; (with_reducible refine (inst_Encode.calls t348 t349 t350 t351 t360 t361 _ ?side1 A23.out).mono ?_); (case side1 => exact GK.below HGK.out (by repeat (first | (with_reducible first | exact HB.out | apply below_alloc | apply pw_below_drewN | apply below_drew1 | refine below_set ?_ GE353.out | refine below_set ?_ GE359.out) | exact HB.out))); rintro e w35 ⟨rfl, hb⟩; refine ⟨_, rfl, ?_⟩; have n0_ := Aside0.mk (blk_below (g := gb353) (o := .cells #[.int .i64 t348, .int .i64 t349, .int .i64 t350, .int .i64 t351] 46 (0, 0)) (by (with_reducible repeat (first | refine blk_drewN ?_ _ | refine blk_drew ?_ | refine blk_alloc ?_ _)); exact BK353.out) hb); have n1_ := Aside0.mk (blk_below (g := gb359) (o := .cells #[.int .i64 t354, .int .i64 t355, .int .i64 t356, .int .i64 t357] 46 (0, 0)) (by (with_reducible repeat (first | refine blk_drewN ?_ _ | refine blk_drew ?_ | refine blk_alloc ?_ _)); exact BK359.out) hb); have n2_ := Aside0.mk (below_step (by repeat (first | (with_reducible first | exact HB.out | apply below_alloc | apply pw_below_drewN | apply below_drew1 | refine below_set ?_ GE353.out | refine below_set ?_ GE359.out) | exact HB.out)) hb); clear BK353; clear BK359; clear HB; have BK353 := n0_; have BK359 := n1_; have HB := n2_; clear n0_ n1_ n2_; (try clear hb); (try clear hb2); (try clear hk); (try clear hi)))
                go_ret
                exact ⟨by first | rfl | (simp [errW_none, errW_some] <;> rfl) | (simp [*, errW_none, errW_some] <;> rfl), by repeat (first | (with_reducible first | exact HB.out | apply below_alloc | apply pw_below_drewN | apply below_drew1 | refine below_set ?_ GE353.out | refine below_set ?_ GE359.out) | exact HB.out)⟩
            · rw [if_neg c25] at H
              have c25b0 : (t361 == 0) = false := beq_eq_false_iff_ne.mpr c25
              have c25b1 : (t361 != 0) = true := bne_iff_ne.mpr c25
              obtain rfl := Option.some.inj H
              have hnb36 := NB353_359.out
              have hnc36 := NB359_353.out
              have hcz37_0 : wc.cell? ⟨gb353, 0, none⟩ = some (.int .i64 t348) := (blk_cell BK353.out 0).trans rfl
              have hcz37_1 : wc.cell? ⟨gb353, 1, none⟩ = some (.int .i64 t349) := (blk_cell BK353.out 1).trans rfl
              have hcz37_2 : wc.cell? ⟨gb353, 2, none⟩ = some (.int .i64 t350) := (blk_cell BK353.out 2).trans rfl
              have hcz37_3 : wc.cell? ⟨gb353, 3, none⟩ = some (.int .i64 t351) := (blk_cell BK353.out 3).trans rfl
              have hfz37_0 := blk_frozen BK353.out 0
              have hfz37_1 := blk_frozen BK353.out 1
              have hfz37_2 := blk_frozen BK353.out 2
              have hfz37_3 := blk_frozen BK353.out 3
              go_wp2_with (first | ((with_reducible refine gate_callee (f := 38) rfl ?_); refine goesL_ (some 31) rfl rfl Tryd.func38 (by kernel_rfl) rfl #[.agg #[.int .i64 t348, .int .i64 t349, .int .i64 t350, .int .i64 t351]] rfl (by (try simp only [List.map_toArray, List.map_cons, List.map_nil]); first | done | rfl | (simp only [List.length_drop, List.length_take]; rfl)) ?_; (with_reducible refine (inst_Encode.calls t348 t349 t350 t351 t360 t361 _ ?side1 A23.out).mono ?_); (case side1 => exact GK.below HGK.out (by repeat (first | (with_reducible first | exact HB.out | apply below_alloc | apply pw_below_drewN | apply below_drew1 | refine below_set ?_ GE353.out | refine below_set ?_ GE359.out) | exact HB.out))); rintro e w38 ⟨rfl, hb⟩; refine ⟨_, rfl, ?_⟩; have n0_ := Aside0.mk (blk_below (g := gb353) (o := .cells #[.int .i64 t348, .int .i64 t349, .int .i64 t350, .int .i64 t351] 46 (0, 0)) (by (with_reducible repeat (first | refine blk_drewN ?_ _ | refine blk_drew ?_ | refine blk_alloc ?_ _)); exact BK353.out) hb); have n1_ := Aside0.mk (blk_below (g := gb359) (o := .cells #[.int .i64 t354, .int .i64 t355, .int .i64 t356, .int .i64 t357] 46 (0, 0)) (by (with_reducible repeat (first | refine blk_drewN ?_ _ | refine blk_drew ?_ | refine blk_alloc ?_ _)); exact BK359.out) hb); have n2_ := Aside0.mk (below_step (by repeat (first | (with_reducible first | exact HB.out | apply below_alloc | apply pw_below_drewN | apply below_drew1 | refine below_set ?_ GE353.out | refine below_set ?_ GE359.out) | exact HB.out)) hb); clear BK353; clear BK359; clear HB; have BK353 := n0_; have BK359 := n1_; have HB := n2_; clear n0_ n1_ n2_; (try clear hb); (try clear hb2); (try clear hk); (try clear hi)))
              go_ret
              exact ⟨by first | rfl | (simp [errW_none, errW_some] <;> rfl) | (simp [*, errW_none, errW_some] <;> rfl), by repeat (first | (with_reducible first | exact HB.out | apply below_alloc | apply pw_below_drewN | apply below_drew1 | refine below_set ?_ GE353.out | refine below_set ?_ GE359.out) | exact HB.out)⟩
          · rw [if_neg c24] at H
            have c24b0 : (t352 == 0) = false := beq_eq_false_iff_ne.mpr c24
            have c24b1 : (t352 != 0) = true := bne_iff_ne.mpr c24
            obtain rfl := Option.some.inj H
            have hnb39 := NB353_359.out
            have hnc39 := NB359_353.out
            have hcz40_0 : wc.cell? ⟨gb353, 0, none⟩ = some (.int .i64 t348) := (blk_cell BK353.out 0).trans rfl
            have hcz40_1 : wc.cell? ⟨gb353, 1, none⟩ = some (.int .i64 t349) := (blk_cell BK353.out 1).trans rfl
            have hcz40_2 : wc.cell? ⟨gb353, 2, none⟩ = some (.int .i64 t350) := (blk_cell BK353.out 2).trans rfl
            have hcz40_3 : wc.cell? ⟨gb353, 3, none⟩ = some (.int .i64 t351) := (blk_cell BK353.out 3).trans rfl
            have hfz40_0 := blk_frozen BK353.out 0
            have hfz40_1 := blk_frozen BK353.out 1
            have hfz40_2 := blk_frozen BK353.out 2
            have hfz40_3 := blk_frozen BK353.out 3
            go_wp2_with (first | ((with_reducible refine gate_callee (f := 38) rfl ?_); refine goesL_ (some 31) rfl rfl Tryd.func38 (by kernel_rfl) rfl #[.agg #[.int .i64 t348, .int .i64 t349, .int .i64 t350, .int .i64 t351]] rfl (by (try simp only [List.map_toArray, List.map_cons, List.map_nil]); first | done | rfl | (simp only [List.length_drop, List.length_take]; rfl)) ?_; (with_reducible refine (inst_Encode.calls t348 t349 t350 t351 t360 t361 _ ?side1 A23.out).mono ?_); (case side1 => exact GK.below HGK.out (by repeat (first | (with_reducible first | exact HB.out | apply below_alloc | apply pw_below_drewN | apply below_drew1 | refine below_set ?_ GE353.out | refine below_set ?_ GE359.out) | exact HB.out))); rintro e w41 ⟨rfl, hb⟩; refine ⟨_, rfl, ?_⟩; have n0_ := Aside0.mk (blk_below (g := gb353) (o := .cells #[.int .i64 t348, .int .i64 t349, .int .i64 t350, .int .i64 t351] 46 (0, 0)) (by (with_reducible repeat (first | refine blk_drewN ?_ _ | refine blk_drew ?_ | refine blk_alloc ?_ _)); exact BK353.out) hb); have n1_ := Aside0.mk (blk_below (g := gb359) (o := .cells #[.int .i64 t354, .int .i64 t355, .int .i64 t356, .int .i64 t357] 46 (0, 0)) (by (with_reducible repeat (first | refine blk_drewN ?_ _ | refine blk_drew ?_ | refine blk_alloc ?_ _)); exact BK359.out) hb); have n2_ := Aside0.mk (below_step (by repeat (first | (with_reducible first | exact HB.out | apply below_alloc | apply pw_below_drewN | apply below_drew1 | refine below_set ?_ GE353.out | refine below_set ?_ GE359.out) | exact HB.out)) hb); clear BK353; clear BK359; clear HB; have BK353 := n0_; have BK359 := n1_; have HB := n2_; clear n0_ n1_ n2_; (try clear hb); (try clear hb2); (try clear hk); (try clear hi)))
            go_ret
            exact ⟨by first | rfl | (simp [errW_none, errW_some] <;> rfl) | (simp [*, errW_none, errW_some] <;> rfl), by repeat (first | (with_reducible first | exact HB.out | apply below_alloc | apply pw_below_drewN | apply below_drew1 | refine below_set ?_ GE353.out | refine below_set ?_ GE359.out) | exact HB.out)⟩
  · replace c3 := Bool.eq_false_iff.mpr c3
    subst c3
    have H1 : (some false) = some r := by rw [if_neg (show ¬ (false = true) by decide)] at H; exact H
    clear H
    have H := H1
    clear H1
    obtain rfl := Option.some.inj H
    go_enter Tryd.func11, Tryd.ntmps11
    go_wp2_with (first | ((with_reducible refine gate_callee (f := 37) rfl ?_); refine goesL_ (some 9) rfl rfl Tryd.func37 (by kernel_rfl) rfl #[] rfl (by (try simp only [List.map_toArray, List.map_cons, List.map_nil]); first | done | rfl | (simp only [List.length_drop, List.length_take]; rfl)) ?_; (with_reducible refine (seedcornlaw07_alive.calls  false _ ?side1 ?side2 A2.out).mono ?_); (case side1 => exact GK.below HGK.out (by repeat (first | (with_reducible first | exact HB.out | apply below_alloc | apply pw_below_drewN | apply below_drew1) | exact HB.out))); (case side2 => exact GT.below HGT.out (by repeat (first | (with_reducible first | exact HB.out | apply below_alloc | apply pw_below_drewN | apply below_drew1) | exact HB.out))); rintro e w42 ⟨rfl, hb⟩; refine ⟨_, rfl, ?_⟩; have n0_ := Aside0.mk (below_step (by repeat (first | (with_reducible first | exact HB.out | apply below_alloc | apply pw_below_drewN | apply below_drew1) | exact HB.out)) hb); clear HB; have HB := n0_; clear n0_; (try clear hb); (try clear hb2); (try clear hk); (try clear hi)))
    go_ret
    exact ⟨by first | rfl | (simp [errW_none, errW_some] <;> rfl) | (simp [*, errW_none, errW_some] <;> rfl), by repeat (first | (with_reducible first | exact HB.out | apply below_alloc | apply pw_below_drewN | apply below_drew1) | exact HB.out)⟩
end Go.Proofs.YtdhkmdgieflioaaDoor.F
namespace Go.Proofs.YtdhkmdgieflioaaDoor.F
open Go.RowKit Go.Proofs.YtdhkmdgieflioaaDoorW.PrintWords Go.Proofs.YtdhkmdgieflioaaDoorW.PrintLast Go.Proofs.YtdhkmdgieflioaaDoorW.PrintMore
attribute [local go_sem] max2_int min2_int max_two min_two max_three min_three max_four min_four
set_option linter.unusedVariables false
set_option linter.unusedSimpArgs false
def seedcornref07_Encode.f (a0_0 : Int) (a0_1 : Int) (a0_2 : Int) (a0_3 : Int) : Option (Int × Int) := (seedcornref07_Right.f a0_0 a0_1 a0_2 a0_3).bind fun t315 => (if t315 = true then (some ((wrap64 ((wrap64 ((wrap64 ((wrap64 (a0_0 * 16777216)) + (wrap64 (a0_1 * 1048576)))) + (wrap64 (a0_2 * 65536)))) + a0_3)) % 4294967296, 0)) else (some (0, 1)))
set_option maxHeartbeats 8000000 in
set_option maxRecDepth 100000 in
theorem seedcornref07_Encode.calls (a0_0 : Int) (a0_1 : Int) (a0_2 : Int) (a0_3 : Int) (r1 : Int) (r2 : Int) (w : World) (h : seedcornref07_Encode.f a0_0 a0_1 a0_2 a0_3 = some (r1, r2)) :
    Calls Tryd.prog 39 #[.agg #[.int .i64 a0_0, .int .i64 a0_1, .int .i64 a0_2, .int .i64 a0_3]] w fun e w' => e = .returned (.tuple #[.int .u32 r1, .int .i64 r2]) ∧ Below w.heap.size w w' := by
  have hu46 := Tryd.underlying46
  have HB := Aside0.mk (Below.refl w.heap.size w)
  have H : ((seedcornref07_Right.f a0_0 a0_1 a0_2 a0_3).bind fun t315 => (if t315 = true then (some ((wrap64 ((wrap64 ((wrap64 ((wrap64 (a0_0 * 16777216)) + (wrap64 (a0_1 * 1048576)))) + (wrap64 (a0_2 * 65536)))) + a0_3)) % 4294967296, 0)) else (some (0, 1)))) = some (r1, r2) := h
  clear h
  replace H := Option.bind_eq_some_iff.mp H
  obtain ⟨t315, A20, H⟩ := H
  replace H : (if t315 = true then (some ((wrap64 ((wrap64 ((wrap64 ((wrap64 (a0_0 * 16777216)) + (wrap64 (a0_1 * 1048576)))) + (wrap64 (a0_2 * 65536)))) + a0_3)) % 4294967296, 0)) else (some (0, 1))) = some (r1, r2) := H
  have A2 := Aside0.mk A20
  clear A20
  by_cases c3 : t315 = true
  · subst c3
    have H1 : (some ((wrap64 ((wrap64 ((wrap64 ((wrap64 (a0_0 * 16777216)) + (wrap64 (a0_1 * 1048576)))) + (wrap64 (a0_2 * 65536)))) + a0_3)) % 4294967296, 0)) = some (r1, r2) := by rw [if_pos rfl] at H; exact H
    clear H
    have H := H1
    clear H1
    simp only [Option.some.injEq, Prod.mk.injEq] at H
    obtain ⟨rfl, rfl⟩ := H
    go_enter Tryd.func39, Tryd.ntmps39
    go_wp2_with (first | ((with_reducible refine gate_dst (N := 1) rfl ?_); refine box_event ?hg (N := 1) ?hd (cs := #[.int .i64 a0_0, .int .i64 a0_1, .int .i64 a0_2, .int .i64 a0_3]) (t := 46) ?hr ?_; (case hd => rfl); (case hg => rfl); (case hr => first | (go_simp; done) | (go_simp; rfl)); intro gb314 hg w4 hbox hb; have n0_ := Aside0.mk (below_step (by repeat (first | (with_reducible first | exact HB.out | apply below_alloc | apply pw_below_drewN | apply below_drew1) | exact HB.out)) hb); have n1_ := Aside0.mk (hbox); have n2_ := Aside0.mk ((by rw [hg]; exact (below_size (by repeat (first | (with_reducible first | exact HB.out | apply below_alloc | apply pw_below_drewN | apply below_drew1) | exact HB.out))) : w.heap.size ≤ gb314)); have n3_ := Aside0.mk ((by rw [hg]; exact (below_size (by repeat (first | (with_reducible first | exact HB.out | apply below_alloc | apply pw_below_drewN | apply below_drew1) | exact HB.out))) : w.heap.size ≤ gb314)); clear HB; have HB := n0_; have BK314 := n1_; have GW314 := n2_; have GE314 := n3_; clear n0_ n1_ n2_ n3_; clear hb hbox hg; have hcz5_0 : w4.cell? ⟨gb314, 0, none⟩ = some (.int .i64 a0_0) := (blk_cell BK314.out 0).trans rfl; have hcz5_1 : w4.cell? ⟨gb314, 1, none⟩ = some (.int .i64 a0_1) := (blk_cell BK314.out 1).trans rfl; have hcz5_2 : w4.cell? ⟨gb314, 2, none⟩ = some (.int .i64 a0_2) := (blk_cell BK314.out 2).trans rfl; have hcz5_3 : w4.cell? ⟨gb314, 3, none⟩ = some (.int .i64 a0_3) := (blk_cell BK314.out 3).trans rfl; have hfz5_0 := blk_frozen BK314.out 0; have hfz5_1 := blk_frozen BK314.out 1; have hfz5_2 := blk_frozen BK314.out 2; have hfz5_3 := blk_frozen BK314.out 3) | ((with_reducible refine gate_callee (f := 41) rfl ?_); refine goesL_ (some 5) rfl rfl Tryd.func41 (by kernel_rfl) rfl #[.agg #[.int .i64 a0_0, .int .i64 a0_1, .int .i64 a0_2, .int .i64 a0_3]] rfl (by (try simp only [List.map_toArray, List.map_cons, List.map_nil]); first | done | rfl | (simp only [List.length_drop, List.length_take]; rfl)) ?_; (with_reducible refine (seedcornref07_Right.calls a0_0 a0_1 a0_2 a0_3 true _ A2.out).mono ?_); rintro e w6 ⟨rfl, hb⟩; refine ⟨_, rfl, ?_⟩; have n0_ := Aside0.mk (blk_below (g := gb314) (o := .cells #[.int .i64 a0_0, .int .i64 a0_1, .int .i64 a0_2, .int .i64 a0_3] 46 (0, 0)) (by (with_reducible repeat (first | refine blk_drewN ?_ _ | refine blk_drew ?_ | refine blk_alloc ?_ _)); exact BK314.out) hb); have n1_ := Aside0.mk (below_step (by repeat (first | (with_reducible first | exact HB.out | apply below_alloc | apply pw_below_drewN | apply below_drew1 | refine below_set ?_ GE314.out) | exact HB.out)) hb); clear BK314; clear HB; have BK314 := n0_; have HB := n1_; clear n0_ n1_; (try clear hb); (try clear hb2); (try clear hk); (try clear hi); have hcz7_0 : w6.cell? ⟨gb314, 0, none⟩ = some (.int .i64 a0_0) := (blk_cell BK314.out 0).trans rfl; have hcz7_1 : w6.cell? ⟨gb314, 1, none⟩ = some (.int .i64 a0_1) := (blk_cell BK314.out 1).trans rfl; have hcz7_2 : w6.cell? ⟨gb314, 2, none⟩ = some (.int .i64 a0_2) := (blk_cell BK314.out 2).trans rfl; have hcz7_3 : w6.cell? ⟨gb314, 3, none⟩ = some (.int .i64 a0_3) := (blk_cell BK314.out 3).trans rfl; have hfz7_0 := blk_frozen BK314.out 0; have hfz7_1 := blk_frozen BK314.out 1; have hfz7_2 := blk_frozen BK314.out 2; have hfz7_3 := blk_frozen BK314.out 3))
    go_ret2
    exact ⟨by first | rfl | (simp [errW_none, errW_some] <;> rfl) | (simp [*, errW_none, errW_some] <;> rfl), by repeat (first | (with_reducible first | exact HB.out | apply below_alloc | apply pw_below_drewN | apply below_drew1 | refine below_set ?_ GE314.out) | exact HB.out)⟩
  · replace c3 := Bool.eq_false_iff.mpr c3
    subst c3
    have H1 : (some (0, 1)) = some (r1, r2) := by rw [if_neg (show ¬ (false = true) by decide)] at H; exact H
    clear H
    have H := H1
    clear H1
    simp only [Option.some.injEq, Prod.mk.injEq] at H
    obtain ⟨rfl, rfl⟩ := H
    go_enter Tryd.func39, Tryd.ntmps39
    go_wp2_with (first | ((with_reducible refine gate_dst (N := 1) rfl ?_); refine box_event ?hg (N := 1) ?hd (cs := #[.int .i64 a0_0, .int .i64 a0_1, .int .i64 a0_2, .int .i64 a0_3]) (t := 46) ?hr ?_; (case hd => rfl); (case hg => rfl); (case hr => first | (go_simp; done) | (go_simp; rfl)); intro gb314 hg w8 hbox hb; have n0_ := Aside0.mk (below_step (by repeat (first | (with_reducible first | exact HB.out | apply below_alloc | apply pw_below_drewN | apply below_drew1) | exact HB.out)) hb); have n1_ := Aside0.mk (hbox); have n2_ := Aside0.mk ((by rw [hg]; exact (below_size (by repeat (first | (with_reducible first | exact HB.out | apply below_alloc | apply pw_below_drewN | apply below_drew1) | exact HB.out))) : w.heap.size ≤ gb314)); have n3_ := Aside0.mk ((by rw [hg]; exact (below_size (by repeat (first | (with_reducible first | exact HB.out | apply below_alloc | apply pw_below_drewN | apply below_drew1) | exact HB.out))) : w.heap.size ≤ gb314)); clear HB; have HB := n0_; have BK314 := n1_; have GW314 := n2_; have GE314 := n3_; clear n0_ n1_ n2_ n3_; clear hb hbox hg; have hcz9_0 : w8.cell? ⟨gb314, 0, none⟩ = some (.int .i64 a0_0) := (blk_cell BK314.out 0).trans rfl; have hcz9_1 : w8.cell? ⟨gb314, 1, none⟩ = some (.int .i64 a0_1) := (blk_cell BK314.out 1).trans rfl; have hcz9_2 : w8.cell? ⟨gb314, 2, none⟩ = some (.int .i64 a0_2) := (blk_cell BK314.out 2).trans rfl; have hcz9_3 : w8.cell? ⟨gb314, 3, none⟩ = some (.int .i64 a0_3) := (blk_cell BK314.out 3).trans rfl; have hfz9_0 := blk_frozen BK314.out 0; have hfz9_1 := blk_frozen BK314.out 1; have hfz9_2 := blk_frozen BK314.out 2; have hfz9_3 := blk_frozen BK314.out 3) | ((with_reducible refine gate_callee (f := 41) rfl ?_); refine goesL_ (some 5) rfl rfl Tryd.func41 (by kernel_rfl) rfl #[.agg #[.int .i64 a0_0, .int .i64 a0_1, .int .i64 a0_2, .int .i64 a0_3]] rfl (by (try simp only [List.map_toArray, List.map_cons, List.map_nil]); first | done | rfl | (simp only [List.length_drop, List.length_take]; rfl)) ?_; (with_reducible refine (seedcornref07_Right.calls a0_0 a0_1 a0_2 a0_3 false _ A2.out).mono ?_); rintro e w10 ⟨rfl, hb⟩; refine ⟨_, rfl, ?_⟩; have n0_ := Aside0.mk (blk_below (g := gb314) (o := .cells #[.int .i64 a0_0, .int .i64 a0_1, .int .i64 a0_2, .int .i64 a0_3] 46 (0, 0)) (by (with_reducible repeat (first | refine blk_drewN ?_ _ | refine blk_drew ?_ | refine blk_alloc ?_ _)); exact BK314.out) hb); have n1_ := Aside0.mk (below_step (by repeat (first | (with_reducible first | exact HB.out | apply below_alloc | apply pw_below_drewN | apply below_drew1 | refine below_set ?_ GE314.out) | exact HB.out)) hb); clear BK314; clear HB; have BK314 := n0_; have HB := n1_; clear n0_ n1_; (try clear hb); (try clear hb2); (try clear hk); (try clear hi)))
    go_ret2
    exact ⟨by first | rfl | (simp [errW_none, errW_some] <;> rfl) | (simp [*, errW_none, errW_some] <;> rfl), by repeat (first | (with_reducible first | exact HB.out | apply below_alloc | apply pw_below_drewN | apply below_drew1 | refine below_set ?_ GE314.out) | exact HB.out)⟩
end Go.Proofs.YtdhkmdgieflioaaDoor.F
namespace Go.Proofs.YtdhkmdgieflioaaDoor.F
open Go.RowKit Go.Proofs.YtdhkmdgieflioaaDoorW.PrintWords Go.Proofs.YtdhkmdgieflioaaDoorW.PrintLast Go.Proofs.YtdhkmdgieflioaaDoorW.PrintMore
set_option linter.unusedVariables false
set_option linter.unusedSimpArgs false
def wB (h : Bool) (x m : Int) : Bool := if h = true then (if x ≥ 0 then decide (x ≤ m) else false) else x == 0
theorem within_f (h : Bool) (x m : Int) : seedcornref07_within.f h x m = some (wB h x m) := by
  unfold seedcornref07_within.f wB
  split
  · split <;> rfl
  · rfl
theorem hasB_w (p : ByteArray) (c n m : Int) (h : Bool) (hh : decide (Lib.indexByte p.data.toList c.toNat.toUInt8 < 0) = !h) : hasB p c n m = wB h n m := by
  unfold hasB wB
  cases h with
  | true =>
    rw [if_neg (of_decide_eq_false hh), if_pos rfl]
  | false =>
    rw [if_pos (of_decide_eq_true hh), if_neg (by decide)]
theorem ref_right (op a b c : Int) (p : ByteArray) (hr ha hb hc : Bool) (hop : ¬ (op < 1 ∨ 28 ≤ op)) (hP : seedcornref07_Parts.f 40 op = some p) (g114 : seedcornref07_has.f 40 p 114 = some hr)
    (g97 : seedcornref07_has.f 40 p 97 = some ha) (g98 : seedcornref07_has.f 40 p 98 = some hb) (g99 : seedcornref07_has.f 40 p 99 = some hc) (hq : (p.data.toList == [63]) = false)
    (k97 : decide (Lib.indexByte (partsOf op).data.toList (97 : Int).toNat.toUInt8 < 0) = !ha) (k98 : decide (Lib.indexByte (partsOf op).data.toList (98 : Int).toNat.toUInt8 < 0) = !hb) (k99 : decide (Lib.indexByte (partsOf op).data.toList (99 : Int).toNat.toUInt8 < 0) = !hc) (ke : endsR (partsOf op) = hr) :
    seedcornref07_Right.f op a b c = some (rightB op a b c) := by
  unfold seedcornref07_Right.f rightB
  rw [if_neg hop, hP, hasB_w _ 97 a 15 ha k97, hasB_w _ 98 b 15 hb k98, hasB_w _ 99 c 65535 hc k99, ke]
  simp only [Option.bind_some, g114, g97, g98, g99, within_f, ByteArray.toList_eq, hq]
  cases hr <;> cases wB ha a 15 <;> cases wB hb b 15 <;> simp [wB]
def refOk (n : Nat) : Bool :=
  match seedcornref07_Parts.f 40 (n : Int) with
  | none => false
  | some p => match seedcornref07_has.f 40 p 114, seedcornref07_has.f 40 p 97, seedcornref07_has.f 40 p 98, seedcornref07_has.f 40 p 99 with
    | some hr, some ha, some hb, some hc => !(p.data.toList == [63]) && (decide (Lib.indexByte (partsOf n).data.toList (97 : Int).toNat.toUInt8 < 0) == !ha) && (decide (Lib.indexByte (partsOf n).data.toList (98 : Int).toNat.toUInt8 < 0) == !hb) && (decide (Lib.indexByte (partsOf n).data.toList (99 : Int).toNat.toUInt8 < 0) == !hc) && (endsR (partsOf n) == hr)
    | _, _, _, _ => false
theorem refOk_all : ((List.range 28).all fun n => decide (n = 0) || refOk n) = true := by kernel_rfl
theorem refOk_at (n : Nat) (h : refOk n = true) (hop : ¬ ((n : Int) < 1 ∨ 28 ≤ (n : Int))) (a b c : Int) : seedcornref07_Right.f n a b c = some (rightB n a b c) := by
  unfold refOk at h
  split at h
  · cases h
  · rename_i p hP
    split at h
    · rename_i hr ha hb hc g1 g2 g3 g4
      simp only [Bool.and_eq_true, Bool.not_eq_true', beq_iff_eq] at h
      obtain ⟨⟨⟨⟨h1, h2⟩, h3⟩, h4⟩, h5⟩ := h
      exact ref_right n a b c p hr ha hb hc hop hP g1 g2 g3 g4 h1 h2 h3 h4 h5
    · cases h
theorem parts_out (op : Int) (h : op < 1 ∨ 28 ≤ op) : seedcornref07_Parts.f 40 op = some ⟨#[63]⟩ := by
  have e (n : Int) (h1 : 1 ≤ n) (h2 : n < 28) : ¬ op = n := by omega
  simp [seedcornref07_Parts.f, seedcornref07_Parts.j0, seedcornref07_Parts.j1, seedcornref07_Parts.j2, e]
  omega
theorem refRight_f (op a b c : Int) : seedcornref07_Right.f op a b c = some (rightB op a b c) := by
  by_cases h : op < 1 ∨ 28 ≤ op
  · unfold seedcornref07_Right.f rightB
    rw [if_pos h, parts_out op h]
    have g1 : seedcornref07_has.f 40 ⟨#[63]⟩ 114 = some false := by kernel_rfl
    have g2 : seedcornref07_has.f 40 ⟨#[63]⟩ 97 = some false := by kernel_rfl
    have g3 : seedcornref07_has.f 40 ⟨#[63]⟩ 98 = some false := by kernel_rfl
    have g4 : seedcornref07_has.f 40 ⟨#[63]⟩ 99 = some false := by kernel_rfl
    simp only [Option.bind_some, g1, g2, g3, g4, within_f, ByteArray.toList_eq]
    simp
  · obtain ⟨n, rfl⟩ : ∃ n : Nat, op = n := ⟨op.toNat, by omega⟩
    have h1 := List.all_eq_true.1 refOk_all n (List.mem_range.2 (by omega))
    rw [decide_eq_false (show ¬ n = 0 by omega), Bool.false_or] at h1
    exact refOk_at n h1 h a b c
theorem dec_parts (v : Int) (h0 : 0 ≤ v) (h1 : v < 4294967296) : wrap64 (v / 16777216) = v / 16777216 ∧ wrap64 (Go.bits .and .u32 (v / 1048576) 15) = v / 1048576 % 16 ∧ wrap64 (Go.bits .and .u32 (v / 65536) 15) = v / 65536 % 16 ∧ wrap64 (Go.bits .and .u32 v 65535) = v % 65536 := by
  have wr : ∀ n : Int, 0 ≤ n → n < 2 ^ 32 → IntKind.u32.wrap n = n := by intro n g0 g1; rw [IntKind.wrap_u32]; omega
  have m1 := bits_mask .u32 32 (by decide) wr 4 (by decide) (v / 1048576) (by omega) (by omega)
  have m2 := bits_mask .u32 32 (by decide) wr 4 (by decide) (v / 65536) (by omega) (by omega)
  have m3 := bits_mask .u32 32 (by decide) wr 16 (by decide) v (by omega) (by omega)
  have e1 : (2 ^ 4 - 1 : Int) = 15 := by decide
  have e2 : (2 ^ 16 - 1 : Int) = 65535 := by decide
  have e3 : (2 ^ 4 : Int) = 16 := by decide
  have e4 : (2 ^ 16 : Int) = 65536 := by decide
  rw [e1, e3] at m1 m2
  rw [e2, e4] at m3
  rw [m1, m2, m3]
  refine ⟨wrapI (by omega) (by omega), wrapI (by omega) (by omega), wrapI (by omega) (by omega), wrapI (by omega) (by omega)⟩
theorem enc_join (op a b c : Int) (h1 : 0 ≤ op) (h2 : op < 256) (ha0 : 0 ≤ a) (ha : a < 16) (hb0 : 0 ≤ b) (hb : b < 16) (hc0 : 0 ≤ c) (hc : c < 65536) :
    Go.bits .or .u32 (Go.bits .or .u32 (Go.bits .or .u32 ((((op) % 4294967296) * 16777216) % 4294967296) ((((a) % 4294967296) * 1048576) % 4294967296)) ((((b) % 4294967296) * 65536) % 4294967296)) ((c) % 4294967296) = op * 16777216 + a * 1048576 + b * 65536 + c := by
  have wr : ∀ n : Int, 0 ≤ n → n < 2 ^ 32 → IntKind.u32.wrap n = n := by intro n g0 g1; rw [IntKind.wrap_u32]; omega
  have e1 : (((op) % 4294967296) * 16777216) % 4294967296 = op * 16777216 := by omega
  have e2 : (((a) % 4294967296) * 1048576) % 4294967296 = a * 1048576 := by omega
  have e3 : (((b) % 4294967296) * 65536) % 4294967296 = b * 65536 := by omega
  have e4 : (c) % 4294967296 = c := by omega
  have p1 : (2 ^ 24 : Int) = 16777216 := by decide
  have p2 : (2 ^ 20 : Int) = 1048576 := by decide
  have p3 : (2 ^ 16 : Int) = 65536 := by decide
  rw [e1, e2, e3, e4, bits_join .u32 32 (by decide) wr 24 (op * 16777216) (a * 1048576) (by omega) (by omega) (by omega) (by omega) (by omega) (by omega),
    bits_join .u32 32 (by decide) wr 20 (op * 16777216 + a * 1048576) (b * 65536) (by omega) (by omega) (by omega) (by omega) (by omega) (by omega),
    bits_join .u32 32 (by decide) wr 16 (op * 16777216 + a * 1048576 + b * 65536) c (by omega) (by omega) (by omega) (by omega) (by omega) (by omega)]
theorem enc_f (op a b c : Int) : inst_Encode.f op a b c = some (if rightB op a b c = true then (Go.bits .or .u32 (Go.bits .or .u32 (Go.bits .or .u32 ((((op) % 4294967296) * 16777216) % 4294967296) ((((a) % 4294967296) * 1048576) % 4294967296)) ((((b) % 4294967296) * 65536) % 4294967296)) ((c) % 4294967296), 0) else (0, 1)) := by
  unfold inst_Encode.f inst_Right.f
  simp only [Option.bind_some]
  split <;> rfl
theorem reads_core (v op a b c : Int) (h0 : 0 ≤ v) (h1 : v < 4294967296) (d1 : wrap64 (v / 16777216) = op) (d2 : wrap64 (Go.bits .and .u32 (v / 1048576) 15) = a) (d3 : wrap64 (Go.bits .and .u32 (v / 65536) 15) = b) (d4 : wrap64 (Go.bits .and .u32 v 65535) = c)
    (q1 : v / 16777216 = op) (q2 : v / 1048576 % 16 = a) (q3 : v / 65536 % 16 = b) (q4 : v % 65536 = c)
    (hen : inst_Encode.f op a b c = some (if rightB op a b c = true then (v, 0) else (0, 1))) : seedcornlaw07_InstReads.f 1 v = some true := by
  have hd : inst_Decode.f v = some (if rightB op a b c = true then (op, a, b, c, 0) else (0, 0, 0, 0, 7)) := by
    unfold inst_Decode.f inst_Right.f
    rw [d1, d2, d3, d4]
    simp only [Option.bind_some]
    split <;> rfl
  have hd2 : seedcornref07_Decode.f v = some (if rightB op a b c = true then (op, a, b, c, 0) else (0, 0, 0, 0, 7)) := by
    unfold seedcornref07_Decode.f
    rw [if_pos ⟨h0, h1⟩, q1, q2, q3, q4, refRight_f]
    simp only [Option.bind_some]
    split <;> rfl
  have hrt : inst_Right.f op a b c = some (rightB op a b c) := rfl
  have he0 : ∃ x, inst_Encode.f 0 0 0 0 = some x := ⟨_, rfl⟩
  obtain ⟨x, he0⟩ := he0
  unfold seedcornlaw07_InstReads.f
  rw [alive_f, hd, hd2]
  cases hb : rightB op a b c with
  | true =>
    rw [hb] at hen hrt
    simp only [Option.bind_some, if_true, beq_self_eq_true, Bool.not_true, Bool.or_false, bne_self_eq_false, Bool.false_eq_true, if_false]
    simp only [seedcornlaw07_InstReads.j0, hen, hrt, Option.bind_some, if_true, Bool.false_eq_true, if_false]
  | false =>
    simp only [Option.bind_some, if_true, beq_self_eq_true, Bool.not_true, Bool.or_false, bne_self_eq_false, Bool.false_eq_true, if_false]
    simp only [seedcornlaw07_InstReads.j0, he0, Option.bind_some, if_true, Bool.false_eq_true, if_false]
    rw [if_neg (by decide)]
theorem instReads_pure (v : Int) (w0 : (Lit.int .u32 v).wf = true) : ∃ k, seedcornlaw07_InstReads.f k v = some true := by
  have hr := (Lit.wf_int_iff .u32 v).1 w0
  have h0 : 0 ≤ v := hr.1
  have h1 : v < 4294967296 := by have h2 : v ≤ 4294967295 := hr.2; omega
  clear hr w0
  obtain ⟨d1, d2, d3, d4⟩ := dec_parts v h0 h1
  refine ⟨1, reads_core v _ _ _ _ h0 h1 d1 d2 d3 d4 rfl rfl rfl rfl ?_⟩
  rw [enc_f, enc_join _ _ _ _ (by omega) (by omega) (by omega) (by omega) (by omega) (by omega) (by omega) (by omega)]
  rw [show v / 16777216 * 16777216 + v / 1048576 % 16 * 1048576 + v / 65536 % 16 * 65536 + v % 65536 = v by omega]
end Go.Proofs.YtdhkmdgieflioaaDoor.F
namespace Go.Proofs.YtdhkmdgieflioaaDoor.F
open Go.RowKit Go.Proofs.YtdhkmdgieflioaaDoorW.PrintWords Go.Proofs.YtdhkmdgieflioaaDoorW.PrintLast Go.Proofs.YtdhkmdgieflioaaDoorW.PrintMore
set_option linter.unusedVariables false
set_option linter.unusedSimpArgs false
theorem refName_f (a : Int) : seedcornref07_Name.f a = some (nameOf a) := by
  by_cases h : 1 ≤ a ∧ a < 28
  · obtain ⟨n, rfl⟩ : ∃ n : Nat, a = n := ⟨a.toNat, by omega⟩
    have h3 : n < 28 := by omega
    have : n = 1 ∨ n = 2 ∨ n = 3 ∨ n = 4 ∨ n = 5 ∨ n = 6 ∨ n = 7 ∨ n = 8 ∨ n = 9 ∨ n = 10 ∨ n = 11 ∨ n = 12 ∨ n = 13 ∨ n = 14 ∨ n = 15 ∨ n = 16 ∨ n = 17 ∨ n = 18 ∨ n = 19 ∨ n = 20 ∨ n = 21 ∨ n = 22 ∨ n = 23 ∨ n = 24 ∨ n = 25 ∨ n = 26 ∨ n = 27 := by omega
    rcases this with rfl | rfl | rfl | rfl | rfl | rfl | rfl | rfl | rfl | rfl | rfl | rfl | rfl | rfl | rfl | rfl | rfl | rfl | rfl | rfl | rfl | rfl | rfl | rfl | rfl | rfl | rfl
    all_goals rfl
  · have he : nameOf a = ⟨#[]⟩ := bytes_eq (by rw [name_empty a h, ByteArray.toList_eq])
    rw [he]
    unfold seedcornref07_Name.f
    repeat rw [if_neg (by omega)]
theorem refOp_l0 (a0 : ByteArray) (d : Nat) : ∀ (i : Nat), i + d = 28 → 1 ≤ i → Ev (fun k => seedcornref07_Op.l0 k a0 (i : Int)) (opFrom a0 d i) := by
  induction d with
  | zero =>
    intro i hi h1
    refine Ev.step (f := fun _ => some 0) (fun k => ?_) (Ev.now _)
    simp only [seedcornref07_Op.l0]
    rw [if_neg (by omega)]
  | succ d ih =>
    intro i hi h1
    have hst : opFrom a0 (d + 1) i = if 0 < i ∧ nameOf (i : Int) = a0 then (i : Int) else opFrom a0 d (i + 1) := rfl
    by_cases h : nameOf (i : Int) = a0
    · refine Ev.step (f := fun _ => some (opFrom a0 (d + 1) i)) (fun k => ?_) (Ev.now _)
      simp only [seedcornref07_Op.l0, refName_f, Option.bind_some]
      rw [if_pos (by omega), if_pos (by rw [h]), hst, if_pos ⟨by omega, h⟩]
    · rw [hst, if_neg (fun x => h x.2)]
      refine Ev.step (f := fun k => seedcornref07_Op.l0 k a0 ((i + 1 : Nat) : Int)) (fun k => ?_) (ih (i + 1) (by omega) (by omega))
      simp only [seedcornref07_Op.l0, refName_f, Option.bind_some]
      rw [if_pos (by omega), if_neg (fun x => h (bytes_eq x)), wrapI (by omega) (by omega)]
      rfl
theorem opOf_from (a0 : ByteArray) : opOf a0 = opFrom a0 27 1 := by
  show (if 0 < 0 ∧ nameOf ((0 : Nat) : Int) = a0 then ((0 : Nat) : Int) else opFrom a0 27 1) = _
  rw [if_neg (by omega)]
theorem refOp_ev (a0 : ByteArray) : Ev (fun k => seedcornref07_Op.f k a0) (opOf a0) := by
  rw [opOf_from]
  exact refOp_l0 a0 27 1 (by omega) (by omega)
theorem opFrom_name (a0 : ByteArray) (d : Nat) : ∀ i : Nat, opFrom a0 d i = 0 ∨ nameOf (opFrom a0 d i) = a0 := by
  induction d with
  | zero => intro i; exact Or.inl rfl
  | succ d ih =>
    intro i
    have hst : opFrom a0 (d + 1) i = if 0 < i ∧ nameOf (i : Int) = a0 then (i : Int) else opFrom a0 d (i + 1) := rfl
    by_cases h : 0 < i ∧ nameOf (i : Int) = a0
    · rw [hst, if_pos h]; exact Or.inr h.2
    · rw [hst, if_neg h]; exact ih (i + 1)
theorem opFrom_at (n : Nat) (hn : n < 28) (d : Nat) : ∀ i : Nat, i + d = 28 → 0 < i → i ≤ n → opFrom (nameOf (n : Int)) d i = (n : Int) := by
  induction d with
  | zero => intro i hi h0 h1; omega
  | succ d ih =>
    intro i hi h0 h1
    have hst : opFrom (nameOf (n : Int)) (d + 1) i = if 0 < i ∧ nameOf (i : Int) = nameOf (n : Int) then (i : Int) else opFrom (nameOf (n : Int)) d (i + 1) := rfl
    by_cases h : i = n
    · rw [hst, if_pos ⟨h0, by rw [h]⟩, h]
    · have := names_apart n i h0 (by omega) hn
      rw [hst, if_neg (fun x => this (by rw [x.2]))]
      exact ih (i + 1) (by omega) (by omega) (by omega)
theorem instNames_j0 (a0 : Int) (a1 : ByteArray) : Ev (fun k => seedcornlaw07_InstNames.j0 k a0 a1 (nameOf a0) (opOf a1) false) true := by
  refine Ev.step (f := fun _ => some true) (fun k => ?_) (Ev.now _)
  have hname : (if opOf a1 = 0 then some true else some ((nameOf (opOf a1)).toList == a1.toList)) = some true := by
    rcases opFrom_name a1 28 0 with h | h
    · have h : opOf a1 = 0 := h
      rw [if_pos h]
    · by_cases h0 : opOf a1 = 0
      · rw [if_pos h0]
      · have h : nameOf (opOf a1) = a1 := h
        rw [if_neg h0, h, beq_self_eq_true]
  simp only [seedcornlaw07_InstNames.j0, inst_Name.f, inst_Op.f, Option.bind_some]
  rw [if_neg (by decide)]
  by_cases h : (nameOf a0).toList = []
  · rw [if_pos h]
    exact hname
  · rw [if_neg h]
    have hr : 1 ≤ a0 ∧ a0 < 28 := Classical.byContradiction fun x => h (name_empty a0 x)
    have ho : opOf (nameOf a0) = a0 := by
      obtain ⟨n, rfl⟩ : ∃ n : Nat, a0 = n := ⟨a0.toNat, by omega⟩
      rw [opOf_from]
      exact opFrom_at n (by omega) 27 1 (by omega) (by omega) (by omega)
    rw [if_pos ho]
    exact hname
theorem instNames_pure (a0 : Int) (a1 : ByteArray) {q : Prop} (_ : q) : ∃ k, seedcornlaw07_InstNames.f k a0 a1 = some true := by
  refine Ev.rounds (g := fun k => seedcornlaw07_InstNames.f k a0 a1) ?_
  unfold seedcornlaw07_InstNames.f
  rw [alive_f]
  by_cases h : (a1.size : Int) > 100
  · refine Ev.congr (fun k => ?_) (Ev.now true)
    simp only [Option.bind_some, if_true]
    rw [if_pos h]
  · refine Ev.congr (f := fun k => (seedcornref07_Op.f k a1).bind fun t => seedcornlaw07_InstNames.j0 k a0 a1 (nameOf a0) (opOf a1) (opOf a1 != t)) (fun k => ?_) ?_
    · simp only [Option.bind_some, inst_Name.f, inst_Op.f, refName_f, if_true]
      rw [if_neg h]
    · refine Ev.bind (refOp_ev a1) ?_
      rw [show (opOf a1 != opOf a1) = false by simp]
      exact instNames_j0 a0 a1
end Go.Proofs.YtdhkmdgieflioaaDoor.F
namespace Go.Proofs.YtdhkmdgieflioaaDoor.F
open Go.RowKit Go.Proofs.YtdhkmdgieflioaaDoorW.PrintWords Go.Proofs.YtdhkmdgieflioaaDoorW.PrintLast Go.Proofs.YtdhkmdgieflioaaDoorW.PrintMore
attribute [local go_sem] max2_int min2_int max_two min_two max_three min_three max_four min_four
set_option linter.unusedVariables false
set_option linter.unusedSimpArgs false
def seedcornref01_Text.l0 : Nat → Int → ByteArray → Option (ByteArray)
  | 0, _, _ => none
  | k + 1, x0, x3 => if x0 > 9 then ((some (([((48 + (Int.tmod x0 10)) % 4294967296) % 256] : List Int) : List Int)).bind fun y316 => (if (strOfNums y316).size + x3.size ≤ 9223372036854775807 then (seedcornref01_Text.l0 k ((Int.tdiv x0 10) % 4294967296) ((strOfNums y316) ++ x3)) else (none))) else ((some (([((48 + x0) % 4294967296) % 256] : List Int) : List Int)).bind fun y319 => (if (strOfNums y319).size + x3.size ≤ 9223372036854775807 then (some ((strOfNums y319) ++ x3)) else (none)))
def seedcornref01_Text.f (k : Nat) (a0 : Int) : Option (ByteArray) := seedcornref01_Text.l0 k a0 (⟨#[]⟩ : ByteArray)
theorem seedcornref01_Text.mono_l : ∀ k, (∀ y0 y1, LeO (seedcornref01_Text.l0 k y0 y1) (seedcornref01_Text.l0 (k + 1) y0 y1))
  | 0 => fun _ _ r h => by simp [seedcornref01_Text.l0] at h
  | k + 1 => by
    have ih0 := seedcornref01_Text.mono_l k
    · intro y0 y1
      unfold seedcornref01_Text.l0
      repeat' first
      | (with_reducible exact ih0 _ _)
      | (with_reducible exact LeO.refl _)
      | (with_reducible exact LeO.none _)
      | (with_reducible refine LeO.ite ?_ ?_)
      | (with_reducible refine LeO.bind ?_ (fun _ => ?_))
      | exact ih0 _ _
      | exact LeO.none _
      | refine LeO.ite ?_ ?_
      | refine LeO.bind ?_ (fun _ => ?_)
theorem seedcornref01_Text.mono : ∀ a0 k, LeO (seedcornref01_Text.f k a0) (seedcornref01_Text.f (k + 1) a0) := by
  intro a0 k
  have ih0 := seedcornref01_Text.mono_l k
  unfold seedcornref01_Text.f
  repeat' first
      | (with_reducible exact ih0 _ _)
      | (with_reducible exact LeO.refl _)
      | (with_reducible exact LeO.none _)
      | (with_reducible refine LeO.ite ?_ ?_)
      | (with_reducible refine LeO.bind ?_ (fun _ => ?_))
      | exact ih0 _ _
      | exact LeO.none _
      | refine LeO.ite ?_ ?_
      | refine LeO.bind ?_ (fun _ => ?_)
set_option maxHeartbeats 8000000 in
set_option maxRecDepth 100000 in
theorem seedcornref01_Text.calls (k : Nat) (a0 : Int) (r : ByteArray) (w : World) (h : seedcornref01_Text.f k a0 = some r) :
    Calls Tryd.prog 103 #[.int .u32 a0] w fun e w' => e = .returned (.string r) ∧ Below w.heap.size w w' := by
  have HB := Aside0.mk (Below.refl w.heap.size w)
  have H : (seedcornref01_Text.l0 k a0 (⟨#[]⟩ : ByteArray)) = some r := h
  clear h
  have H' := Aside0.mk H
  clear H
  go_enter Tryd.func103, Tryd.ntmps103
  go_wp2
  go_loopg [0, 3] k (fun kq v0 v3 w' => ∃ (x0_1 : Int) (x3_1 : ByteArray), v0 = .int .u32 x0_1 ∧ v3 = .string x3_1 ∧ Aside0 (seedcornref01_Text.l0 kq x0_1 x3_1 = some r) ∧ Aside0 (kq ≤ k) ∧ Aside0 (Below w.heap.size w w'))
  case atStart => exact ⟨(a0), ((⟨#[]⟩ : ByteArray)), (by first | rfl | (simp; done) | (simp [*]; done)), (by first | rfl | (simp; done) | (simp [*]; done)), H', ⟨Nat.le_refl _⟩, ⟨by repeat (first | (with_reducible first | exact HB.out | apply below_alloc | apply pw_below_drewN | apply below_drew1) | exact HB.out)⟩⟩
  case round =>
    clear H'
    try clear c1
    obtain ⟨x0_1, x3_1, rfl, rfl, HA, HK1, HB⟩ := hrel
    cases gk with
    | zero => exact absurd HA.out (by simp [seedcornref01_Text.l0])
    | succ k1 =>
      have H := HA.out
      clear HA
      simp only [seedcornref01_Text.l0] at H
      by_cases c2 : x0_1 > 9
      · rw [if_pos c2] at H
        have c2b0 : decide (9 < x0_1) = true := decide_eq_true c2
        clear c2
        obtain ⟨y316, hy316⟩ : ∃ y_ : List Int, y_ = (([((48 + (Int.tmod x0_1 10)) % 4294967296) % 256] : List Int)) := ⟨_, rfl⟩
        replace H : (if (strOfNums y316).size + x3_1.size ≤ 9223372036854775807 then (seedcornref01_Text.l0 k1 ((Int.tdiv x0_1 10) % 4294967296) ((strOfNums y316) ++ x3_1)) else (none)) = some r := by first | (rw [hy316]; with_reducible exact H) | (have H2_ := (Option.bind_some _ _).symm.trans H; rw [hy316]; with_reducible exact H2_) | (have H2_ := (Option.bind_some _ _).symm.trans H; with_reducible exact H2_) | with_reducible exact H | (rw [hy316]; exact H) | exact H
        have Ny316 := Aside0.mk hy316
        clear hy316
        by_cases c3 : (strOfNums y316).size + x3_1.size ≤ 9223372036854775807
        · rw [if_pos c3] at H
          have c3b0 := eq_true c3
          have c3b1 : decide ((strOfNums y316).size + x3_1.size ≤ 9223372036854775807) = true := decide_eq_true c3
          try have c3b2 : (9223372036854775807 < (strOfNums y316).size + x3_1.size) = False := eq_false (Nat.not_lt.2 c3)
          have H' := Aside0.mk H
          clear H
          go_wp2_with (first | ((with_reducible refine gate_dst (N := 10) rfl ?_); refine Kd.R_lit (Kd.int .u8) _ 5 ?hg (N := 10) ?hd (xs := ([((48 + (Int.tmod x0_1 10)) % 4294967296) % 256] : List Int)) (inner := [.int .u8 (((48 + (Int.tmod x0_1 10)) % 4294967296) % 256)]) (ok := fun _ => True) (okp := fun _ => True) ?hr ?hp (fun _ hk => hk) trivial (Below.refl _ _) (Nat.le_refl _) (by simp) ?_; (case hd => rfl); (case hg => rfl); (case hr => first | (go_simp; done) | (go_simp; rfl)); (case hp => exact (Reps.one (show Kd.M (Kd.int .u8) _ _ _ (((48 + (Int.tmod x0_1 10)) % 4294967296) % 256) [.int .u8 (((48 + (Int.tmod x0_1 10)) % 4294967296) % 256)] from rfl) (Reps.none _ _))); intro v317 w4 ho5 hb hg_ hnew_; clear hg_ hnew_; (first | rw [← Ny316.out] at ho5 | (simp only [Int.reduceToNat] at ho5; rw [← Ny316.out] at ho5)); have n0_ := Aside0.mk (Kd.R_lower ho5 (below_size (by repeat (first | (with_reducible first | exact HB.out | apply below_alloc | apply pw_below_drewN | apply below_drew1) | exact HB.out)))); have n1_ := Aside0.mk (below_step (by repeat (first | (with_reducible first | exact HB.out | apply below_alloc | apply pw_below_drewN | apply below_drew1) | exact HB.out)) hb); clear HB; have HO318 := n0_; have HB := n1_; clear n0_ n1_; clear hb ho5; have hcv6 := own_string (P := Tryd.prog) Tryd.underlying72 Tryd.underlying5 Tryd.underlying9 (Kd.own_of_R HO318.out)))
          go_roundg k1
          case measure => have := HK1.out; omega
          case rel => exact ⟨((Int.tdiv x0_1 10) % 4294967296), ((strOfNums y316) ++ x3_1), (by first | rfl | (simp; done) | (simp [*]; done)), (by first | rfl | (simp; done) | (simp [*]; done)), H', ⟨by have := HK1.out; omega⟩, ⟨by repeat (first | (with_reducible first | exact HB.out | apply below_alloc | apply pw_below_drewN | apply below_drew1) | exact HB.out)⟩⟩
        · rw [if_neg c3] at H
          exact absurd H (by simp)
      · rw [if_neg c2] at H
        have c2b0 : decide (9 < x0_1) = false := decide_eq_false c2
        clear c2
        obtain ⟨y319, hy319⟩ : ∃ y_ : List Int, y_ = (([((48 + x0_1) % 4294967296) % 256] : List Int)) := ⟨_, rfl⟩
        replace H : (if (strOfNums y319).size + x3_1.size ≤ 9223372036854775807 then (some ((strOfNums y319) ++ x3_1)) else (none)) = some r := by first | (rw [hy319]; with_reducible exact H) | (have H2_ := (Option.bind_some _ _).symm.trans H; rw [hy319]; with_reducible exact H2_) | (have H2_ := (Option.bind_some _ _).symm.trans H; with_reducible exact H2_) | with_reducible exact H | (rw [hy319]; exact H) | exact H
        have Ny319 := Aside0.mk hy319
        clear hy319
        by_cases c7 : (strOfNums y319).size + x3_1.size ≤ 9223372036854775807
        · rw [if_pos c7] at H
          have c7b0 := eq_true c7
          have c7b1 : decide ((strOfNums y319).size + x3_1.size ≤ 9223372036854775807) = true := decide_eq_true c7
          try have c7b2 : (9223372036854775807 < (strOfNums y319).size + x3_1.size) = False := eq_false (Nat.not_lt.2 c7)
          obtain rfl := Option.some.inj H
          go_wp2_with (first | ((with_reducible refine gate_dst (N := 19) rfl ?_); refine Kd.R_lit (Kd.int .u8) _ 5 ?hg (N := 19) ?hd (xs := ([((48 + x0_1) % 4294967296) % 256] : List Int)) (inner := [.int .u8 (((48 + x0_1) % 4294967296) % 256)]) (ok := fun _ => True) (okp := fun _ => True) ?hr ?hp (fun _ hk => hk) trivial (Below.refl _ _) (Nat.le_refl _) (by simp) ?_; (case hd => rfl); (case hg => rfl); (case hr => first | (go_simp; done) | (go_simp; rfl)); (case hp => exact (Reps.one (show Kd.M (Kd.int .u8) _ _ _ (((48 + x0_1) % 4294967296) % 256) [.int .u8 (((48 + x0_1) % 4294967296) % 256)] from rfl) (Reps.none _ _))); intro v320 w8 ho9 hb hg_ hnew_; clear hg_ hnew_; (first | rw [← Ny319.out] at ho9 | (simp only [Int.reduceToNat] at ho9; rw [← Ny319.out] at ho9)); have n0_ := Aside0.mk (Kd.R_lower ho9 (below_size (by repeat (first | (with_reducible first | exact HB.out | apply below_alloc | apply pw_below_drewN | apply below_drew1) | exact HB.out)))); have n1_ := Aside0.mk (below_step (by repeat (first | (with_reducible first | exact HB.out | apply below_alloc | apply pw_below_drewN | apply below_drew1) | exact HB.out)) hb); clear HB; have HO321 := n0_; have HB := n1_; clear n0_ n1_; clear hb ho9; have hcv10 := own_string (P := Tryd.prog) Tryd.underlying72 Tryd.underlying5 Tryd.underlying9 (Kd.own_of_R HO321.out)))
          go_ret
          exact ⟨by first | rfl | (simp [errW_none, errW_some] <;> rfl) | (simp [*, errW_none, errW_some] <;> rfl), by repeat (first | (with_reducible first | exact HB.out | apply below_alloc | apply pw_below_drewN | apply below_drew1) | exact HB.out)⟩
        · rw [if_neg c7] at H
          exact absurd H (by simp)
end Go.Proofs.YtdhkmdgieflioaaDoor.F
namespace Go.Proofs.YtdhkmdgieflioaaDoor.F
open Go.RowKit Go.Proofs.YtdhkmdgieflioaaDoorW.PrintWords Go.Proofs.YtdhkmdgieflioaaDoorW.PrintLast Go.Proofs.YtdhkmdgieflioaaDoorW.PrintMore
attribute [local go_sem] max2_int min2_int max_two min_two max_three min_three max_four min_four
set_option linter.unusedVariables false
set_option linter.unusedSimpArgs false
def seedcornref07_number.f (k : Nat) (a0 : Int) : Option (ByteArray) := (seedcornref01_Text.f k ((a0) % 4294967296)).bind fun t322 => (some t322)
theorem seedcornref07_number.mono : ∀ a0 k, LeO (seedcornref07_number.f k a0) (seedcornref07_number.f (k + 1) a0) := by
  intro a0 k
  unfold seedcornref07_number.f
  repeat' first
      | (with_reducible exact seedcornref01_Text.mono _ _)
      | (with_reducible exact LeO.refl _)
      | (with_reducible exact LeO.none _)
      | (with_reducible refine LeO.ite ?_ ?_)
      | (with_reducible refine LeO.bind ?_ (fun _ => ?_))
      | exact seedcornref01_Text.mono _ _
      | exact LeO.none _
      | refine LeO.ite ?_ ?_
      | refine LeO.bind ?_ (fun _ => ?_)
set_option maxHeartbeats 8000000 in
set_option maxRecDepth 100000 in
theorem seedcornref07_number.calls (k : Nat) (a0 : Int) (r : ByteArray) (w : World) (h : seedcornref07_number.f k a0 = some r) :
    Calls Tryd.prog 81 #[.int .i64 a0] w fun e w' => e = .returned (.string r) ∧ Below w.heap.size w w' := by
  have HB := Aside0.mk (Below.refl w.heap.size w)
  have H : ((seedcornref01_Text.f k ((a0) % 4294967296)).bind fun t322 => (some t322)) = some r := h
  clear h
  replace H := Option.bind_eq_some_iff.mp H
  obtain ⟨t322, A20, H⟩ := H
  replace H : (some t322) = some r := H
  have A2 := Aside0.mk A20
  clear A20
  obtain rfl := Option.some.inj H
  go_enter Tryd.func81, Tryd.ntmps81
  go_wp2_with (first | ((with_reducible refine gate_callee (f := 103) rfl ?_); refine goesL_ (some 5) rfl rfl Tryd.func103 (by kernel_rfl) rfl #[.int .u32 ((a0) % 4294967296)] rfl (by (try simp only [List.map_toArray, List.map_cons, List.map_nil]); first | done | rfl | (simp only [List.length_drop, List.length_take]; rfl)) ?_; (with_reducible refine (seedcornref01_Text.calls k ((a0) % 4294967296) t322 _ A2.out).mono ?_); rintro e w3 ⟨rfl, hb⟩; refine ⟨_, rfl, ?_⟩; have n0_ := Aside0.mk (below_step (by repeat (first | (with_reducible first | exact HB.out | apply below_alloc | apply pw_below_drewN | apply below_drew1) | exact HB.out)) hb); clear HB; have HB := n0_; clear n0_; (try clear hb); (try clear hb2); (try clear hk); (try clear hi)))
  go_ret
  exact ⟨by first | rfl | (simp [errW_none, errW_some] <;> rfl) | (simp [*, errW_none, errW_some] <;> rfl), by repeat (first | (with_reducible first | exact HB.out | apply below_alloc | apply pw_below_drewN | apply below_drew1) | exact HB.out)⟩
end Go.Proofs.YtdhkmdgieflioaaDoor.F
namespace Go.Proofs.YtdhkmdgieflioaaDoor.F
open Go.RowKit Go.Proofs.YtdhkmdgieflioaaDoorW.PrintWords Go.Proofs.YtdhkmdgieflioaaDoorW.PrintLast Go.Proofs.YtdhkmdgieflioaaDoorW.PrintMore
attribute [local go_sem] max2_int min2_int max_two min_two max_three min_three max_four min_four
set_option linter.unusedVariables false
set_option linter.unusedSimpArgs false
mutual
def seedcornref07_Text.l0 : Nat → ByteArray → ByteArray → Int → Int → Int → Int → Int → Option (ByteArray)
  | 0, _, _, _, _, _, _, _ => none
  | k + 1, x3, x4, x5, x324000, x324001, x324002, x324003 => if x5 < (x3.size : Int) then (if x5 = 0 then (if x4.size + 1 ≤ 9223372036854775807 then (seedcornref07_Text.j1 k x3 (x4 ++ (⟨#[32]⟩ : ByteArray)) x5 x324000 x324001 x324002 x324003) else (none)) else (if x4.size + 2 ≤ 9223372036854775807 then (seedcornref07_Text.j1 k x3 (x4 ++ (⟨#[44, 32]⟩ : ByteArray)) x5 x324000 x324001 x324002 x324003) else (none))) else (some x4)
def seedcornref07_Text.j1 : Nat → ByteArray → ByteArray → Int → Int → Int → Int → Int → Option (ByteArray)
  | 0, _, _, _, _, _, _, _ => none
  | k + 1, x3, x4, x5, x324000, x324001, x324002, x324003 => if 0 ≤ x5 then (if x5 < (x3.size : Int) then (if (bt x3 x5) = 97 then (if x4.size + 1 ≤ 9223372036854775807 then ((seedcornref07_number.f k x324001).bind fun t327 => (if (x4 ++ (⟨#[114]⟩ : ByteArray)).size + t327.size ≤ 9223372036854775807 then (seedcornref07_Text.l0 k x3 ((x4 ++ (⟨#[114]⟩ : ByteArray)) ++ t327) (wrap64 (x5 + 1)) x324000 x324001 x324002 x324003) else (none))) else (none)) else (if (bt x3 x5) = 98 then (if x4.size + 1 ≤ 9223372036854775807 then ((seedcornref07_number.f k x324002).bind fun t328 => (if (x4 ++ (⟨#[114]⟩ : ByteArray)).size + t328.size ≤ 9223372036854775807 then (seedcornref07_Text.l0 k x3 ((x4 ++ (⟨#[114]⟩ : ByteArray)) ++ t328) (wrap64 (x5 + 1)) x324000 x324001 x324002 x324003) else (none))) else (none)) else (if (bt x3 x5) = 114 then (if x4.size + 1 ≤ 9223372036854775807 then ((seedcornref07_number.f k x324003).bind fun t329 => (if (x4 ++ (⟨#[114]⟩ : ByteArray)).size + t329.size ≤ 9223372036854775807 then (seedcornref07_Text.l0 k x3 ((x4 ++ (⟨#[114]⟩ : ByteArray)) ++ t329) (wrap64 (x5 + 1)) x324000 x324001 x324002 x324003) else (none))) else (none)) else ((seedcornref07_number.f k x324003).bind fun t330 => (if x4.size + t330.size ≤ 9223372036854775807 then (seedcornref07_Text.l0 k x3 (x4 ++ t330) (wrap64 (x5 + 1)) x324000 x324001 x324002 x324003) else (none)))))) else (none)) else (none)
end
def seedcornref07_Text.f (k : Nat) (a0_0 : Int) (a0_1 : Int) (a0_2 : Int) (a0_3 : Int) : Option (ByteArray) := (seedcornref07_Right.f a0_0 a0_1 a0_2 a0_3).bind fun t324 => (if t324 = true then ((seedcornref07_Parts.f k a0_0).bind fun t325 => ((seedcornref07_Name.f a0_0).bind fun t326 => (seedcornref07_Text.l0 k t325 t326 0 a0_0 a0_1 a0_2 a0_3))) else (some (⟨#[]⟩ : ByteArray)))
theorem seedcornref07_Text.mono_l : ∀ k, (∀ y0 y1 y2 y3 y4 y5 y6, LeO (seedcornref07_Text.l0 k y0 y1 y2 y3 y4 y5 y6) (seedcornref07_Text.l0 (k + 1) y0 y1 y2 y3 y4 y5 y6)) ∧ (∀ y0 y1 y2 y3 y4 y5 y6, LeO (seedcornref07_Text.j1 k y0 y1 y2 y3 y4 y5 y6) (seedcornref07_Text.j1 (k + 1) y0 y1 y2 y3 y4 y5 y6))
  | 0 => ⟨fun _ _ _ _ _ _ _ r h => by simp [seedcornref07_Text.l0] at h, fun _ _ _ _ _ _ _ r h => by simp [seedcornref07_Text.j1] at h⟩
  | k + 1 => by
    obtain ⟨ih0, ih1⟩ := seedcornref07_Text.mono_l k
    refine ⟨?_, ?_⟩
    · intro y0 y1 y2 y3 y4 y5 y6
      unfold seedcornref07_Text.l0
      repeat' first
      | (with_reducible exact ih0 _ _ _ _ _ _ _)
      | (with_reducible exact ih1 _ _ _ _ _ _ _)
      | (with_reducible exact seedcornref07_Parts.mono _ _)
      | (with_reducible exact seedcornref07_number.mono _ _)
      | (with_reducible exact LeO.refl _)
      | (with_reducible exact LeO.none _)
      | (with_reducible refine LeO.ite ?_ ?_)
      | (with_reducible refine LeO.bind ?_ (fun _ => ?_))
      | exact ih0 _ _ _ _ _ _ _
      | exact ih1 _ _ _ _ _ _ _
      | exact seedcornref07_Parts.mono _ _
      | exact seedcornref07_number.mono _ _
      | exact LeO.none _
      | refine LeO.ite ?_ ?_
      | refine LeO.bind ?_ (fun _ => ?_)
    · intro y0 y1 y2 y3 y4 y5 y6
      unfold seedcornref07_Text.j1
      repeat' first
      | (with_reducible exact ih0 _ _ _ _ _ _ _)
      | (with_reducible exact ih1 _ _ _ _ _ _ _)
      | (with_reducible exact seedcornref07_Parts.mono _ _)
      | (with_reducible exact seedcornref07_number.mono _ _)
      | (with_reducible exact LeO.refl _)
      | (with_reducible exact LeO.none _)
      | (with_reducible refine LeO.ite ?_ ?_)
      | (with_reducible refine LeO.bind ?_ (fun _ => ?_))
      | exact ih0 _ _ _ _ _ _ _
      | exact ih1 _ _ _ _ _ _ _
      | exact seedcornref07_Parts.mono _ _
      | exact seedcornref07_number.mono _ _
      | exact LeO.none _
      | refine LeO.ite ?_ ?_
      | refine LeO.bind ?_ (fun _ => ?_)
theorem seedcornref07_Text.mono : ∀ a0 a1 a2 a3 k, LeO (seedcornref07_Text.f k a0 a1 a2 a3) (seedcornref07_Text.f (k + 1) a0 a1 a2 a3) := by
  intro a0 a1 a2 a3 k
  obtain ⟨ih0, ih1⟩ := seedcornref07_Text.mono_l k
  unfold seedcornref07_Text.f
  repeat' first
      | (with_reducible exact ih0 _ _ _ _ _ _ _)
      | (with_reducible exact ih1 _ _ _ _ _ _ _)
      | (with_reducible exact seedcornref07_Parts.mono _ _)
      | (with_reducible exact seedcornref07_number.mono _ _)
      | (with_reducible exact LeO.refl _)
      | (with_reducible exact LeO.none _)
      | (with_reducible refine LeO.ite ?_ ?_)
      | (with_reducible refine LeO.bind ?_ (fun _ => ?_))
      | exact ih0 _ _ _ _ _ _ _
      | exact ih1 _ _ _ _ _ _ _
      | exact seedcornref07_Parts.mono _ _
      | exact seedcornref07_number.mono _ _
      | exact LeO.none _
      | refine LeO.ite ?_ ?_
      | refine LeO.bind ?_ (fun _ => ?_)
set_option maxHeartbeats 8000000 in
set_option maxRecDepth 100000 in
theorem seedcornref07_Text.calls (k : Nat) (a0_0 : Int) (a0_1 : Int) (a0_2 : Int) (a0_3 : Int) (r : ByteArray) (w : World) (h : seedcornref07_Text.f k a0_0 a0_1 a0_2 a0_3 = some r) :
    Calls Tryd.prog 43 #[.agg #[.int .i64 a0_0, .int .i64 a0_1, .int .i64 a0_2, .int .i64 a0_3]] w fun e w' => e = .returned (.string r) ∧ Below w.heap.size w w' := by
  have hu46 := Tryd.underlying46
  have HB := Aside0.mk (Below.refl w.heap.size w)
  have H : ((seedcornref07_Right.f a0_0 a0_1 a0_2 a0_3).bind fun t324 => (if t324 = true then ((seedcornref07_Parts.f k a0_0).bind fun t325 => ((seedcornref07_Name.f a0_0).bind fun t326 => (seedcornref07_Text.l0 k t325 t326 0 a0_0 a0_1 a0_2 a0_3))) else (some (⟨#[]⟩ : ByteArray)))) = some r := h
  clear h
  replace H := Option.bind_eq_some_iff.mp H
  obtain ⟨t324, A20, H⟩ := H
  replace H : (if t324 = true then ((seedcornref07_Parts.f k a0_0).bind fun t325 => ((seedcornref07_Name.f a0_0).bind fun t326 => (seedcornref07_Text.l0 k t325 t326 0 a0_0 a0_1 a0_2 a0_3))) else (some (⟨#[]⟩ : ByteArray))) = some r := H
  have A2 := Aside0.mk A20
  clear A20
  by_cases c3 : t324 = true
  · subst c3
    have H1 : ((seedcornref07_Parts.f k a0_0).bind fun t325 => ((seedcornref07_Name.f a0_0).bind fun t326 => (seedcornref07_Text.l0 k t325 t326 0 a0_0 a0_1 a0_2 a0_3))) = some r := by rw [if_pos rfl] at H; exact H
    clear H
    have H := H1
    clear H1
    replace H := Option.bind_eq_some_iff.mp H
    obtain ⟨t325, A40, H⟩ := H
    replace H : ((seedcornref07_Name.f a0_0).bind fun t326 => (seedcornref07_Text.l0 k t325 t326 0 a0_0 a0_1 a0_2 a0_3)) = some r := H
    have A4 := Aside0.mk A40
    clear A40
    replace H := Option.bind_eq_some_iff.mp H
    obtain ⟨t326, A50, H⟩ := H
    replace H : (seedcornref07_Text.l0 k t325 t326 0 a0_0 a0_1 a0_2 a0_3) = some r := H
    have A5 := Aside0.mk A50
    clear A50
    have H' := Aside0.mk H
    clear H
    go_enter Tryd.func43, Tryd.ntmps43
    go_wp2_with (first | ((with_reducible refine gate_dst (N := 1) rfl ?_); refine box_event ?hg (N := 1) ?hd (cs := #[.int .i64 a0_0, .int .i64 a0_1, .int .i64 a0_2, .int .i64 a0_3]) (t := 46) ?hr ?_; (case hd => rfl); (case hg => rfl); (case hr => first | (go_simp; done) | (go_simp; rfl)); intro gb323 hg w6 hbox hb; have n0_ := Aside0.mk (below_step (by repeat (first | (with_reducible first | exact HB.out | apply below_alloc | apply pw_below_drewN | apply below_drew1) | exact HB.out)) hb); have n1_ := Aside0.mk (hbox); have n2_ := Aside0.mk ((by rw [hg]; exact (below_size (by repeat (first | (with_reducible first | exact HB.out | apply below_alloc | apply pw_below_drewN | apply below_drew1) | exact HB.out))) : w.heap.size ≤ gb323)); have n3_ := Aside0.mk ((by rw [hg]; exact (below_size (by repeat (first | (with_reducible first | exact HB.out | apply below_alloc | apply pw_below_drewN | apply below_drew1) | exact HB.out))) : w.heap.size ≤ gb323)); clear HB; have HB := n0_; have BK323 := n1_; have GW323 := n2_; have GE323 := n3_; clear n0_ n1_ n2_ n3_; clear hb hbox hg; have hcz7_0 : w6.cell? ⟨gb323, 0, none⟩ = some (.int .i64 a0_0) := (blk_cell BK323.out 0).trans rfl; have hcz7_1 : w6.cell? ⟨gb323, 1, none⟩ = some (.int .i64 a0_1) := (blk_cell BK323.out 1).trans rfl; have hcz7_2 : w6.cell? ⟨gb323, 2, none⟩ = some (.int .i64 a0_2) := (blk_cell BK323.out 2).trans rfl; have hcz7_3 : w6.cell? ⟨gb323, 3, none⟩ = some (.int .i64 a0_3) := (blk_cell BK323.out 3).trans rfl; have hfz7_0 := blk_frozen BK323.out 0; have hfz7_1 := blk_frozen BK323.out 1; have hfz7_2 := blk_frozen BK323.out 2; have hfz7_3 := blk_frozen BK323.out 3) | ((with_reducible refine gate_callee (f := 41) rfl ?_); refine goesL_ (some 7) rfl rfl Tryd.func41 (by kernel_rfl) rfl #[.agg #[.int .i64 a0_0, .int .i64 a0_1, .int .i64 a0_2, .int .i64 a0_3]] rfl (by (try simp only [List.map_toArray, List.map_cons, List.map_nil]); first | done | rfl | (simp only [List.length_drop, List.length_take]; rfl)) ?_; (with_reducible refine (seedcornref07_Right.calls a0_0 a0_1 a0_2 a0_3 true _ A2.out).mono ?_); rintro e w8 ⟨rfl, hb⟩; refine ⟨_, rfl, ?_⟩; have n0_ := Aside0.mk (blk_below (g := gb323) (o := .cells #[.int .i64 a0_0, .int .i64 a0_1, .int .i64 a0_2, .int .i64 a0_3] 46 (0, 0)) (by (with_reducible repeat (first | refine blk_drewN ?_ _ | refine blk_drew ?_ | refine blk_alloc ?_ _)); exact BK323.out) hb); have n1_ := Aside0.mk (below_step (by repeat (first | (with_reducible first | exact HB.out | apply below_alloc | apply pw_below_drewN | apply below_drew1 | refine below_set ?_ GE323.out) | exact HB.out)) hb); clear BK323; clear HB; have BK323 := n0_; have HB := n1_; clear n0_ n1_; (try clear hb); (try clear hb2); (try clear hk); (try clear hi); have hcz9_0 : w8.cell? ⟨gb323, 0, none⟩ = some (.int .i64 a0_0) := (blk_cell BK323.out 0).trans rfl; have hcz9_1 : w8.cell? ⟨gb323, 1, none⟩ = some (.int .i64 a0_1) := (blk_cell BK323.out 1).trans rfl; have hcz9_2 : w8.cell? ⟨gb323, 2, none⟩ = some (.int .i64 a0_2) := (blk_cell BK323.out 2).trans rfl; have hcz9_3 : w8.cell? ⟨gb323, 3, none⟩ = some (.int .i64 a0_3) := (blk_cell BK323.out 3).trans rfl; have hfz9_0 := blk_frozen BK323.out 0; have hfz9_1 := blk_frozen BK323.out 1; have hfz9_2 := blk_frozen BK323.out 2; have hfz9_3 := blk_frozen BK323.out 3) | ((with_reducible refine gate_callee (f := 48) rfl ?_); refine goesL_ (some 11) rfl rfl Tryd.func48 (by kernel_rfl) rfl #[.int .i64 a0_0] rfl (by (try simp only [List.map_toArray, List.map_cons, List.map_nil]); first | done | rfl | (simp only [List.length_drop, List.length_take]; rfl)) ?_; (with_reducible refine (seedcornref07_Parts.calls k a0_0 t325 _ A4.out).mono ?_); rintro e w' ⟨rfl, ⟨nd, rfl⟩⟩; refine ⟨_, rfl, ?_⟩) | ((with_reducible refine gate_callee (f := 51) rfl ?_); refine goesL_ (some 14) rfl rfl Tryd.func51 (by kernel_rfl) rfl #[.int .i64 a0_0] rfl (by (try simp only [List.map_toArray, List.map_cons, List.map_nil]); first | done | rfl | (simp only [List.length_drop, List.length_take]; rfl)) ?_; (with_reducible refine (seedcornref07_Name.calls a0_0 t326 _ A5.out).mono ?_); rintro e w' ⟨rfl, ⟨nd, rfl⟩⟩; refine ⟨_, rfl, ?_⟩))
    go_loopg [4, 5] k (fun kq v4 v5 w' => ∃ (x4_1 : ByteArray) (x5_1 : Int), v4 = .string x4_1 ∧ v5 = .int .i64 x5_1 ∧ Aside0 (seedcornref07_Text.l0 kq t325 x4_1 x5_1 a0_0 a0_1 a0_2 a0_3 = some r) ∧ Aside0 (kq ≤ k) ∧ Aside0 (w'.heap[gb323]? = some (.cells #[.int .i64 a0_0, .int .i64 a0_1, .int .i64 a0_2, .int .i64 a0_3] 46 (0, 0))) ∧ Aside0 (Below w.heap.size w w'))
    case atStart => exact ⟨(t326), (0), (by first | rfl | (simp; done) | (simp [*]; done)), (by first | rfl | (simp; done) | (simp [*]; done)), H', ⟨Nat.le_refl _⟩, ⟨by (with_reducible repeat (first | refine blk_drewN ?_ _ | refine blk_drew ?_ | refine blk_alloc ?_ _)); exact BK323.out⟩, ⟨by repeat (first | (with_reducible first | exact HB.out | apply below_alloc | apply pw_below_drewN | apply below_drew1 | refine below_set ?_ GE323.out) | exact HB.out)⟩⟩
    case round =>
      clear H'
      try clear p2
      try clear c3
      try clear c4
      try clear c5
      try clear hcz7_0
      try clear hcz7_1
      try clear hcz7_2
      try clear hcz7_3
      try clear hcz9_0
      try clear hcz9_1
      try clear hcz9_2
      try clear hcz9_3
      try clear hfz7_0
      try clear hfz7_1
      try clear hfz7_2
      try clear hfz7_3
      try clear hfz9_0
      try clear hfz9_1
      try clear hfz9_2
      try clear hfz9_3
      obtain ⟨x4_1, x5_1, rfl, rfl, HA, HK1, BK323, HB⟩ := hrel
      cases gk with
      | zero => exact absurd HA.out (by simp [seedcornref07_Text.l0])
      | succ k1 =>
        have H := HA.out
        clear HA
        simp only [seedcornref07_Text.l0] at H
        by_cases c10 : x5_1 < (t325.size : Int)
        · rw [if_pos c10] at H
          have c10b0 : decide (x5_1 < (t325.size : Int)) = true := decide_eq_true c10
          clear c10
          have HC11 := Aside0.mk H
          clear H
          go_upto_if 22 with (fail)
          go_cut [4] (fun v4 wc => ∃ (kq : Nat) (x4_10 : ByteArray), v4 = .string x4_10 ∧ Aside0 (seedcornref07_Text.j1 kq t325 x4_10 x5_1 a0_0 a0_1 a0_2 a0_3 = some r) ∧ Aside0 (kq ≤ k1) ∧ Aside0 (wc.heap[gb323]? = some (.cells #[.int .i64 a0_0, .int .i64 a0_1, .int .i64 a0_2, .int .i64 a0_3] 46 (0, 0))) ∧ Aside0 (Below w.heap.size w wc))
          case first =>
            have H := HC11.out
            clear HC11
            by_cases c12 : x5_1 = 0
            · rw [if_pos c12] at H
              have c12b0 : (x5_1 == 0) = true := beq_iff_eq.mpr c12
              have c12b1 : (x5_1 != 0) = false := bne_eq_false_iff_eq.mpr c12
              clear c12
              (first | rw [c12b0] | (simp only [i64_w, i32_w]; rw [c12b0]) | skip)
              by_cases c13 : x4_1.size + 1 ≤ 9223372036854775807
              · rw [if_pos c13] at H
                have c13b0 := eq_true c13
                have c13b1 : decide (x4_1.size + 1 ≤ 9223372036854775807) = true := decide_eq_true c13
                try have c13b2 : (9223372036854775807 < x4_1.size + 1) = False := eq_false (Nat.not_lt.2 c13)
                have H' := Aside0.mk H
                clear H
                go_wp2
                go_meet
                case rel => exact ⟨_, (x4_1 ++ (⟨#[32]⟩ : ByteArray)), (by first | rfl | (simp; done) | (simp [*]; done)), H', ⟨by have := HK1.out; first | omega | exact Nat.le_refl _⟩, ⟨by (with_reducible repeat (first | refine blk_drewN ?_ _ | refine blk_drew ?_ | refine blk_alloc ?_ _)); exact BK323.out⟩, ⟨by repeat (first | (with_reducible first | exact HB.out | apply below_alloc | apply pw_below_drewN | apply below_drew1 | refine below_set ?_ GE323.out) | exact HB.out)⟩⟩
              · rw [if_neg c13] at H
                exact absurd H (by simp)
            · rw [if_neg c12] at H
              have c12b0 : (x5_1 == 0) = false := beq_eq_false_iff_ne.mpr c12
              have c12b1 : (x5_1 != 0) = true := bne_iff_ne.mpr c12
              (first | rw [c12b0] | (simp only [i64_w, i32_w]; rw [c12b0]) | skip)
              by_cases c14 : x4_1.size + 2 ≤ 9223372036854775807
              · rw [if_pos c14] at H
                have c14b0 := eq_true c14
                have c14b1 : decide (x4_1.size + 2 ≤ 9223372036854775807) = true := decide_eq_true c14
                try have c14b2 : (9223372036854775807 < x4_1.size + 2) = False := eq_false (Nat.not_lt.2 c14)
                have H' := Aside0.mk H
                clear H
                go_wp2
                go_meet
                case rel => exact ⟨_, (x4_1 ++ (⟨#[44, 32]⟩ : ByteArray)), (by first | rfl | (simp; done) | (simp [*]; done)), H', ⟨by have := HK1.out; first | omega | exact Nat.le_refl _⟩, ⟨by (with_reducible repeat (first | refine blk_drewN ?_ _ | refine blk_drew ?_ | refine blk_alloc ?_ _)); exact BK323.out⟩, ⟨by repeat (first | (with_reducible first | exact HB.out | apply below_alloc | apply pw_below_drewN | apply below_drew1 | refine below_set ?_ GE323.out) | exact HB.out)⟩⟩
              · rw [if_neg c14] at H
                exact absurd H (by simp)
          case rest =>
            clear HC11
            try clear c1
            try clear p2
            try clear c3
            try clear c4
            try clear c5
            try clear c10
            try clear c10b0
            try clear c12
            try clear c12b0
            try clear c12b1
            try clear c13
            try clear c13b0
            try clear c13b1
            try clear c13b2
            try clear c14
            try clear c14b0
            try clear c14b1
            try clear c14b2
            try clear hcz7_0
            try clear hcz7_1
            try clear hcz7_2
            try clear hcz7_3
            try clear hcz9_0
            try clear hcz9_1
            try clear hcz9_2
            try clear hcz9_3
            try clear hfz7_0
            try clear hfz7_1
            try clear hfz7_2
            try clear hfz7_3
            try clear hfz9_0
            try clear hfz9_1
            try clear hfz9_2
            try clear hfz9_3
            try clear p2
            obtain ⟨kq, x4_10, rfl, HA, HJ10, BK323, HB⟩ := hcut
            cases kq with
            | zero => exact absurd HA.out (by simp [seedcornref07_Text.j1])
            | succ kj10 =>
              have H := HA.out
              clear HA
              simp only [seedcornref07_Text.j1] at H
              by_cases c15 : 0 ≤ x5_1
              · rw [if_pos c15] at H
                have c15b0 : decide (0 ≤ x5_1) = true := decide_eq_true c15
                clear c15
                by_cases c16 : x5_1 < (t325.size : Int)
                · rw [if_pos c16] at H
                  have c16b0 : decide (x5_1 < (t325.size : Int)) = true := decide_eq_true c16
                  clear c16
                  by_cases c18 : (bt t325 x5_1) = 97
                  · rw [if_pos c18] at H
                    have c18b0 : ((bt t325 x5_1) == 97) = true := beq_iff_eq.mpr c18
                    have c18b1 : ((bt t325 x5_1) != 97) = false := bne_eq_false_iff_eq.mpr c18
                    clear c18
                    by_cases c19 : x4_10.size + 1 ≤ 9223372036854775807
                    · rw [if_pos c19] at H
                      have c19b0 := eq_true c19
                      have c19b1 : decide (x4_10.size + 1 ≤ 9223372036854775807) = true := decide_eq_true c19
                      try have c19b2 : (9223372036854775807 < x4_10.size + 1) = False := eq_false (Nat.not_lt.2 c19)
                      replace H := Option.bind_eq_some_iff.mp H
                      obtain ⟨t327, A200, H⟩ := H
                      replace H : (if (x4_10 ++ (⟨#[114]⟩ : ByteArray)).size + t327.size ≤ 9223372036854775807 then (seedcornref07_Text.l0 kj10 t325 ((x4_10 ++ (⟨#[114]⟩ : ByteArray)) ++ t327) (wrap64 (x5_1 + 1)) a0_0 a0_1 a0_2 a0_3) else (none)) = some r := H
                      have A20 := Aside0.mk A200
                      clear A200
                      by_cases c21 : (x4_10 ++ (⟨#[114]⟩ : ByteArray)).size + t327.size ≤ 9223372036854775807
                      · rw [if_pos c21] at H
                        have c21b0 := eq_true c21
                        have c21b1 : decide ((x4_10 ++ (⟨#[114]⟩ : ByteArray)).size + t327.size ≤ 9223372036854775807) = true := decide_eq_true c21
                        try have c21b2 : (9223372036854775807 < (x4_10 ++ (⟨#[114]⟩ : ByteArray)).size + t327.size) = False := eq_false (Nat.not_lt.2 c21)
                        try have c21b3 : (9223372036854775807 < x4_10.size + 1 + t327.size) = False := eq_false (by have c21z := c21; simp only [ByteArray.size_append] at c21z; (try rw [show (⟨#[114]⟩ : ByteArray).size = 1 from rfl] at c21z); omega)
                        have H' := Aside0.mk H
                        clear H
                        have p17 : 0 ≤ (x5_1 : Int) := of_decide_eq_true (by first | (with_reducible assumption) | assumption)
                        have q17 : x5_1 < (t325.size : Int) := of_decide_eq_true (by first | (with_reducible assumption) | assumption)
                        have hx17 := bt_at t325 x5_1
                        replace p17 := eq_true p17
                        replace q17 := eq_true q17
                        have hcz22_0 : wc.cell? ⟨gb323, 0, none⟩ = some (.int .i64 a0_0) := (blk_cell BK323.out 0).trans rfl
                        have hcz22_1 : wc.cell? ⟨gb323, 1, none⟩ = some (.int .i64 a0_1) := (blk_cell BK323.out 1).trans rfl
                        have hcz22_2 : wc.cell? ⟨gb323, 2, none⟩ = some (.int .i64 a0_2) := (blk_cell BK323.out 2).trans rfl
                        have hcz22_3 : wc.cell? ⟨gb323, 3, none⟩ = some (.int .i64 a0_3) := (blk_cell BK323.out 3).trans rfl
                        have hfz22_0 := blk_frozen BK323.out 0
                        have hfz22_1 := blk_frozen BK323.out 1
                        have hfz22_2 := blk_frozen BK323.out 2
                        have hfz22_3 := blk_frozen BK323.out 3
                        go_wp2_with (first | ((with_reducible refine gate_callee (f := 81) rfl ?_); refine goesL_ (some 41) rfl rfl Tryd.func81 (by kernel_rfl) rfl #[.int .i64 a0_1] rfl (by (try simp only [List.map_toArray, List.map_cons, List.map_nil]); first | done | rfl | (simp only [List.length_drop, List.length_take]; rfl)) ?_; (with_reducible refine (seedcornref07_number.calls kj10 a0_1 t327 _ A20.out).mono ?_); rintro e w23 ⟨rfl, hb⟩; refine ⟨_, rfl, ?_⟩; have n0_ := Aside0.mk (blk_below (g := gb323) (o := .cells #[.int .i64 a0_0, .int .i64 a0_1, .int .i64 a0_2, .int .i64 a0_3] 46 (0, 0)) (by (with_reducible repeat (first | refine blk_drewN ?_ _ | refine blk_drew ?_ | refine blk_alloc ?_ _)); exact BK323.out) hb); have n1_ := Aside0.mk (below_step (by repeat (first | (with_reducible first | exact HB.out | apply below_alloc | apply pw_below_drewN | apply below_drew1 | refine below_set ?_ GE323.out) | exact HB.out)) hb); clear BK323; clear HB; have BK323 := n0_; have HB := n1_; clear n0_ n1_; (try clear hb); (try clear hb2); (try clear hk); (try clear hi)))
                        go_roundg kj10
                        case measure => have := HK1.out; have := HJ10.out; omega
                        case rel => exact ⟨((x4_10 ++ (⟨#[114]⟩ : ByteArray)) ++ t327), (wrap64 (x5_1 + 1)), (by first | rfl | (simp; done) | (simp [*]; done)), (by first | rfl | (simp; done) | (simp [*]; done)), H', ⟨by have := HK1.out; have := HJ10.out; omega⟩, ⟨by (with_reducible repeat (first | refine blk_drewN ?_ _ | refine blk_drew ?_ | refine blk_alloc ?_ _)); exact BK323.out⟩, ⟨by repeat (first | (with_reducible first | exact HB.out | apply below_alloc | apply pw_below_drewN | apply below_drew1 | refine below_set ?_ GE323.out) | exact HB.out)⟩⟩
                      · rw [if_neg c21] at H
                        exact absurd H (by simp)
                    · rw [if_neg c19] at H
                      exact absurd H (by simp)
                  · rw [if_neg c18] at H
                    have c18b0 : ((bt t325 x5_1) == 97) = false := beq_eq_false_iff_ne.mpr c18
                    have c18b1 : ((bt t325 x5_1) != 97) = true := bne_iff_ne.mpr c18
                    by_cases c24 : (bt t325 x5_1) = 98
                    · rw [if_pos c24] at H
                      have c24b0 : ((bt t325 x5_1) == 98) = true := beq_iff_eq.mpr c24
                      have c24b1 : ((bt t325 x5_1) != 98) = false := bne_eq_false_iff_eq.mpr c24
                      clear c24
                      by_cases c25 : x4_10.size + 1 ≤ 9223372036854775807
                      · rw [if_pos c25] at H
                        have c25b0 := eq_true c25
                        have c25b1 : decide (x4_10.size + 1 ≤ 9223372036854775807) = true := decide_eq_true c25
                        try have c25b2 : (9223372036854775807 < x4_10.size + 1) = False := eq_false (Nat.not_lt.2 c25)
                        replace H := Option.bind_eq_some_iff.mp H
                        obtain ⟨t328, A260, H⟩ := H
                        replace H : (if (x4_10 ++ (⟨#[114]⟩ : ByteArray)).size + t328.size ≤ 9223372036854775807 then (seedcornref07_Text.l0 kj10 t325 ((x4_10 ++ (⟨#[114]⟩ : ByteArray)) ++ t328) (wrap64 (x5_1 + 1)) a0_0 a0_1 a0_2 a0_3) else (none)) = some r := H
                        have A26 := Aside0.mk A260
                        clear A260
                        by_cases c27 : (x4_10 ++ (⟨#[114]⟩ : ByteArray)).size + t328.size ≤ 9223372036854775807
                        · rw [if_pos c27] at H
                          have c27b0 := eq_true c27
                          have c27b1 : decide ((x4_10 ++ (⟨#[114]⟩ : ByteArray)).size + t328.size ≤ 9223372036854775807) = true := decide_eq_true c27
                          try have c27b2 : (9223372036854775807 < (x4_10 ++ (⟨#[114]⟩ : ByteArray)).size + t328.size) = False := eq_false (Nat.not_lt.2 c27)
                          try have c27b3 : (9223372036854775807 < x4_10.size + 1 + t328.size) = False := eq_false (by have c27z := c27; simp only [ByteArray.size_append] at c27z; (try rw [show (⟨#[114]⟩ : ByteArray).size = 1 from rfl] at c27z); omega)
                          have H' := Aside0.mk H
                          clear H
                          have p17 : 0 ≤ (x5_1 : Int) := of_decide_eq_true (by first | (with_reducible assumption) | assumption)
                          have q17 : x5_1 < (t325.size : Int) := of_decide_eq_true (by first | (with_reducible assumption) | assumption)
                          have hx17 := bt_at t325 x5_1
                          replace p17 := eq_true p17
                          replace q17 := eq_true q17
                          have hcz28_0 : wc.cell? ⟨gb323, 0, none⟩ = some (.int .i64 a0_0) := (blk_cell BK323.out 0).trans rfl
                          have hcz28_1 : wc.cell? ⟨gb323, 1, none⟩ = some (.int .i64 a0_1) := (blk_cell BK323.out 1).trans rfl
                          have hcz28_2 : wc.cell? ⟨gb323, 2, none⟩ = some (.int .i64 a0_2) := (blk_cell BK323.out 2).trans rfl
                          have hcz28_3 : wc.cell? ⟨gb323, 3, none⟩ = some (.int .i64 a0_3) := (blk_cell BK323.out 3).trans rfl
                          have hfz28_0 := blk_frozen BK323.out 0
                          have hfz28_1 := blk_frozen BK323.out 1
                          have hfz28_2 := blk_frozen BK323.out 2
                          have hfz28_3 := blk_frozen BK323.out 3
                          go_wp2_with (first | ((with_reducible refine gate_callee (f := 81) rfl ?_); refine goesL_ (some 49) rfl rfl Tryd.func81 (by kernel_rfl) rfl #[.int .i64 a0_2] rfl (by (try simp only [List.map_toArray, List.map_cons, List.map_nil]); first | done | rfl | (simp only [List.length_drop, List.length_take]; rfl)) ?_; (with_reducible refine (seedcornref07_number.calls kj10 a0_2 t328 _ A26.out).mono ?_); rintro e w29 ⟨rfl, hb⟩; refine ⟨_, rfl, ?_⟩; have n0_ := Aside0.mk (blk_below (g := gb323) (o := .cells #[.int .i64 a0_0, .int .i64 a0_1, .int .i64 a0_2, .int .i64 a0_3] 46 (0, 0)) (by (with_reducible repeat (first | refine blk_drewN ?_ _ | refine blk_drew ?_ | refine blk_alloc ?_ _)); exact BK323.out) hb); have n1_ := Aside0.mk (below_step (by repeat (first | (with_reducible first | exact HB.out | apply below_alloc | apply pw_below_drewN | apply below_drew1 | refine below_set ?_ GE323.out) | exact HB.out)) hb); clear BK323; clear HB; have BK323 := n0_; have HB := n1_; clear n0_ n1_; (try clear hb); (try clear hb2); (try clear hk); (try clear hi)))
                          go_roundg kj10
                          case measure => have := HK1.out; have := HJ10.out; omega
                          case rel => exact ⟨((x4_10 ++ (⟨#[114]⟩ : ByteArray)) ++ t328), (wrap64 (x5_1 + 1)), (by first | rfl | (simp; done) | (simp [*]; done)), (by first | rfl | (simp; done) | (simp [*]; done)), H', ⟨by have := HK1.out; have := HJ10.out; omega⟩, ⟨by (with_reducible repeat (first | refine blk_drewN ?_ _ | refine blk_drew ?_ | refine blk_alloc ?_ _)); exact BK323.out⟩, ⟨by repeat (first | (with_reducible first | exact HB.out | apply below_alloc | apply pw_below_drewN | apply below_drew1 | refine below_set ?_ GE323.out) | exact HB.out)⟩⟩
                        · rw [if_neg c27] at H
                          exact absurd H (by simp)
                      · rw [if_neg c25] at H
                        exact absurd H (by simp)
                    · rw [if_neg c24] at H
                      have c24b0 : ((bt t325 x5_1) == 98) = false := beq_eq_false_iff_ne.mpr c24
                      have c24b1 : ((bt t325 x5_1) != 98) = true := bne_iff_ne.mpr c24
                      by_cases c30 : (bt t325 x5_1) = 114
                      · rw [if_pos c30] at H
                        have c30b0 : ((bt t325 x5_1) == 114) = true := beq_iff_eq.mpr c30
                        have c30b1 : ((bt t325 x5_1) != 114) = false := bne_eq_false_iff_eq.mpr c30
                        clear c30
                        by_cases c31 : x4_10.size + 1 ≤ 9223372036854775807
                        · rw [if_pos c31] at H
                          have c31b0 := eq_true c31
                          have c31b1 : decide (x4_10.size + 1 ≤ 9223372036854775807) = true := decide_eq_true c31
                          try have c31b2 : (9223372036854775807 < x4_10.size + 1) = False := eq_false (Nat.not_lt.2 c31)
                          replace H := Option.bind_eq_some_iff.mp H
                          obtain ⟨t329, A320, H⟩ := H
                          replace H : (if (x4_10 ++ (⟨#[114]⟩ : ByteArray)).size + t329.size ≤ 9223372036854775807 then (seedcornref07_Text.l0 kj10 t325 ((x4_10 ++ (⟨#[114]⟩ : ByteArray)) ++ t329) (wrap64 (x5_1 + 1)) a0_0 a0_1 a0_2 a0_3) else (none)) = some r := H
                          have A32 := Aside0.mk A320
                          clear A320
                          by_cases c33 : (x4_10 ++ (⟨#[114]⟩ : ByteArray)).size + t329.size ≤ 9223372036854775807
                          · rw [if_pos c33] at H
                            have c33b0 := eq_true c33
                            have c33b1 : decide ((x4_10 ++ (⟨#[114]⟩ : ByteArray)).size + t329.size ≤ 9223372036854775807) = true := decide_eq_true c33
                            try have c33b2 : (9223372036854775807 < (x4_10 ++ (⟨#[114]⟩ : ByteArray)).size + t329.size) = False := eq_false (Nat.not_lt.2 c33)
                            try have c33b3 : (9223372036854775807 < x4_10.size + 1 + t329.size) = False := eq_false (by have c33z := c33; simp only [ByteArray.size_append] at c33z; (try rw [show (⟨#[114]⟩ : ByteArray).size = 1 from rfl] at c33z); omega)
                            have H' := Aside0.mk H
                            clear H
                            have p17 : 0 ≤ (x5_1 : Int) := of_decide_eq_true (by first | (with_reducible assumption) | assumption)
                            have q17 : x5_1 < (t325.size : Int) := of_decide_eq_true (by first | (with_reducible assumption) | assumption)
                            have hx17 := bt_at t325 x5_1
                            replace p17 := eq_true p17
                            replace q17 := eq_true q17
                            have hcz34_0 : wc.cell? ⟨gb323, 0, none⟩ = some (.int .i64 a0_0) := (blk_cell BK323.out 0).trans rfl
                            have hcz34_1 : wc.cell? ⟨gb323, 1, none⟩ = some (.int .i64 a0_1) := (blk_cell BK323.out 1).trans rfl
                            have hcz34_2 : wc.cell? ⟨gb323, 2, none⟩ = some (.int .i64 a0_2) := (blk_cell BK323.out 2).trans rfl
                            have hcz34_3 : wc.cell? ⟨gb323, 3, none⟩ = some (.int .i64 a0_3) := (blk_cell BK323.out 3).trans rfl
                            have hfz34_0 := blk_frozen BK323.out 0
                            have hfz34_1 := blk_frozen BK323.out 1
                            have hfz34_2 := blk_frozen BK323.out 2
                            have hfz34_3 := blk_frozen BK323.out 3
                            go_wp2_with (first | ((with_reducible refine gate_callee (f := 81) rfl ?_); refine goesL_ (some 57) rfl rfl Tryd.func81 (by kernel_rfl) rfl #[.int .i64 a0_3] rfl (by (try simp only [List.map_toArray, List.map_cons, List.map_nil]); first | done | rfl | (simp only [List.length_drop, List.length_take]; rfl)) ?_; (with_reducible refine (seedcornref07_number.calls kj10 a0_3 t329 _ A32.out).mono ?_); rintro e w35 ⟨rfl, hb⟩; refine ⟨_, rfl, ?_⟩; have n0_ := Aside0.mk (blk_below (g := gb323) (o := .cells #[.int .i64 a0_0, .int .i64 a0_1, .int .i64 a0_2, .int .i64 a0_3] 46 (0, 0)) (by (with_reducible repeat (first | refine blk_drewN ?_ _ | refine blk_drew ?_ | refine blk_alloc ?_ _)); exact BK323.out) hb); have n1_ := Aside0.mk (below_step (by repeat (first | (with_reducible first | exact HB.out | apply below_alloc | apply pw_below_drewN | apply below_drew1 | refine below_set ?_ GE323.out) | exact HB.out)) hb); clear BK323; clear HB; have BK323 := n0_; have HB := n1_; clear n0_ n1_; (try clear hb); (try clear hb2); (try clear hk); (try clear hi)))
                            go_roundg kj10
                            case measure => have := HK1.out; have := HJ10.out; omega
                            case rel => exact ⟨((x4_10 ++ (⟨#[114]⟩ : ByteArray)) ++ t329), (wrap64 (x5_1 + 1)), (by first | rfl | (simp; done) | (simp [*]; done)), (by first | rfl | (simp; done) | (simp [*]; done)), H', ⟨by have := HK1.out; have := HJ10.out; omega⟩, ⟨by (with_reducible repeat (first | refine blk_drewN ?_ _ | refine blk_drew ?_ | refine blk_alloc ?_ _)); exact BK323.out⟩, ⟨by repeat (first | (with_reducible first | exact HB.out | apply below_alloc | apply pw_below_drewN | apply below_drew1 | refine below_set ?_ GE323.out) | exact HB.out)⟩⟩
                          · rw [if_neg c33] at H
                            exact absurd H (by simp)
                        · rw [if_neg c31] at H
                          exact absurd H (by simp)
                      · rw [if_neg c30] at H
                        have c30b0 : ((bt t325 x5_1) == 114) = false := beq_eq_false_iff_ne.mpr c30
                        have c30b1 : ((bt t325 x5_1) != 114) = true := bne_iff_ne.mpr c30
                        replace H := Option.bind_eq_some_iff.mp H
                        obtain ⟨t330, A360, H⟩ := H
                        replace H : (if x4_10.size + t330.size ≤ 9223372036854775807 then (seedcornref07_Text.l0 kj10 t325 (x4_10 ++ t330) (wrap64 (x5_1 + 1)) a0_0 a0_1 a0_2 a0_3) else (none)) = some r := H
                        have A36 := Aside0.mk A360
                        clear A360
                        by_cases c37 : x4_10.size + t330.size ≤ 9223372036854775807
                        · rw [if_pos c37] at H
                          have c37b0 := eq_true c37
                          have c37b1 : decide (x4_10.size + t330.size ≤ 9223372036854775807) = true := decide_eq_true c37
                          try have c37b2 : (9223372036854775807 < x4_10.size + t330.size) = False := eq_false (Nat.not_lt.2 c37)
                          have H' := Aside0.mk H
                          clear H
                          have p17 : 0 ≤ (x5_1 : Int) := of_decide_eq_true (by first | (with_reducible assumption) | assumption)
                          have q17 : x5_1 < (t325.size : Int) := of_decide_eq_true (by first | (with_reducible assumption) | assumption)
                          have hx17 := bt_at t325 x5_1
                          replace p17 := eq_true p17
                          replace q17 := eq_true q17
                          have hcz38_0 : wc.cell? ⟨gb323, 0, none⟩ = some (.int .i64 a0_0) := (blk_cell BK323.out 0).trans rfl
                          have hcz38_1 : wc.cell? ⟨gb323, 1, none⟩ = some (.int .i64 a0_1) := (blk_cell BK323.out 1).trans rfl
                          have hcz38_2 : wc.cell? ⟨gb323, 2, none⟩ = some (.int .i64 a0_2) := (blk_cell BK323.out 2).trans rfl
                          have hcz38_3 : wc.cell? ⟨gb323, 3, none⟩ = some (.int .i64 a0_3) := (blk_cell BK323.out 3).trans rfl
                          have hfz38_0 := blk_frozen BK323.out 0
                          have hfz38_1 := blk_frozen BK323.out 1
                          have hfz38_2 := blk_frozen BK323.out 2
                          have hfz38_3 := blk_frozen BK323.out 3
                          go_wp2_with (first | ((with_reducible refine gate_callee (f := 81) rfl ?_); refine goesL_ (some 33) rfl rfl Tryd.func81 (by kernel_rfl) rfl #[.int .i64 a0_3] rfl (by (try simp only [List.map_toArray, List.map_cons, List.map_nil]); first | done | rfl | (simp only [List.length_drop, List.length_take]; rfl)) ?_; (with_reducible refine (seedcornref07_number.calls kj10 a0_3 t330 _ A36.out).mono ?_); rintro e w39 ⟨rfl, hb⟩; refine ⟨_, rfl, ?_⟩; have n0_ := Aside0.mk (blk_below (g := gb323) (o := .cells #[.int .i64 a0_0, .int .i64 a0_1, .int .i64 a0_2, .int .i64 a0_3] 46 (0, 0)) (by (with_reducible repeat (first | refine blk_drewN ?_ _ | refine blk_drew ?_ | refine blk_alloc ?_ _)); exact BK323.out) hb); have n1_ := Aside0.mk (below_step (by repeat (first | (with_reducible first | exact HB.out | apply below_alloc | apply pw_below_drewN | apply below_drew1 | refine below_set ?_ GE323.out) | exact HB.out)) hb); clear BK323; clear HB; have BK323 := n0_; have HB := n1_; clear n0_ n1_; (try clear hb); (try clear hb2); (try clear hk); (try clear hi)))
                          go_roundg kj10
                          case measure => have := HK1.out; have := HJ10.out; omega
                          case rel => exact ⟨(x4_10 ++ t330), (wrap64 (x5_1 + 1)), (by first | rfl | (simp; done) | (simp [*]; done)), (by first | rfl | (simp; done) | (simp [*]; done)), H', ⟨by have := HK1.out; have := HJ10.out; omega⟩, ⟨by (with_reducible repeat (first | refine blk_drewN ?_ _ | refine blk_drew ?_ | refine blk_alloc ?_ _)); exact BK323.out⟩, ⟨by repeat (first | (with_reducible first | exact HB.out | apply below_alloc | apply pw_below_drewN | apply below_drew1 | refine below_set ?_ GE323.out) | exact HB.out)⟩⟩
                        · rw [if_neg c37] at H
                          exact absurd H (by simp)
                · rw [if_neg c16] at H
                  exact absurd H (by simp)
              · rw [if_neg c15] at H
                exact absurd H (by simp)
        · rw [if_neg c10] at H
          have c10b0 : decide (x5_1 < (t325.size : Int)) = false := decide_eq_false c10
          clear c10
          obtain rfl := Option.some.inj H
          go_wp2
          go_ret
          exact ⟨by first | rfl | (simp [errW_none, errW_some] <;> rfl) | (simp [*, errW_none, errW_some] <;> rfl), by repeat (first | (with_reducible first | exact HB.out | apply below_alloc | apply pw_below_drewN | apply below_drew1 | refine below_set ?_ GE323.out) | exact HB.out)⟩
  · replace c3 := Bool.eq_false_iff.mpr c3
    subst c3
    have H1 : (some (⟨#[]⟩ : ByteArray)) = some r := by rw [if_neg (show ¬ (false = true) by decide)] at H; exact H
    clear H
    have H := H1
    clear H1
    obtain rfl := Option.some.inj H
    go_enter Tryd.func43, Tryd.ntmps43
    go_wp2_with (first | ((with_reducible refine gate_dst (N := 1) rfl ?_); refine box_event ?hg (N := 1) ?hd (cs := #[.int .i64 a0_0, .int .i64 a0_1, .int .i64 a0_2, .int .i64 a0_3]) (t := 46) ?hr ?_; (case hd => rfl); (case hg => rfl); (case hr => first | (go_simp; done) | (go_simp; rfl)); intro gb323 hg w40 hbox hb; have n0_ := Aside0.mk (below_step (by repeat (first | (with_reducible first | exact HB.out | apply below_alloc | apply pw_below_drewN | apply below_drew1) | exact HB.out)) hb); have n1_ := Aside0.mk (hbox); have n2_ := Aside0.mk ((by rw [hg]; exact (below_size (by repeat (first | (with_reducible first | exact HB.out | apply below_alloc | apply pw_below_drewN | apply below_drew1) | exact HB.out))) : w.heap.size ≤ gb323)); have n3_ := Aside0.mk ((by rw [hg]; exact (below_size (by repeat (first | (with_reducible first | exact HB.out | apply below_alloc | apply pw_below_drewN | apply below_drew1) | exact HB.out))) : w.heap.size ≤ gb323)); clear HB; have HB := n0_; have BK323 := n1_; have GW323 := n2_; have GE323 := n3_; clear n0_ n1_ n2_ n3_; clear hb hbox hg; have hcz41_0 : w40.cell? ⟨gb323, 0, none⟩ = some (.int .i64 a0_0) := (blk_cell BK323.out 0).trans rfl; have hcz41_1 : w40.cell? ⟨gb323, 1, none⟩ = some (.int .i64 a0_1) := (blk_cell BK323.out 1).trans rfl; have hcz41_2 : w40.cell? ⟨gb323, 2, none⟩ = some (.int .i64 a0_2) := (blk_cell BK323.out 2).trans rfl; have hcz41_3 : w40.cell? ⟨gb323, 3, none⟩ = some (.int .i64 a0_3) := (blk_cell BK323.out 3).trans rfl; have hfz41_0 := blk_frozen BK323.out 0; have hfz41_1 := blk_frozen BK323.out 1; have hfz41_2 := blk_frozen BK323.out 2; have hfz41_3 := blk_frozen BK323.out 3) | ((with_reducible refine gate_callee (f := 41) rfl ?_); refine goesL_ (some 7) rfl rfl Tryd.func41 (by kernel_rfl) rfl #[.agg #[.int .i64 a0_0, .int .i64 a0_1, .int .i64 a0_2, .int .i64 a0_3]] rfl (by (try simp only [List.map_toArray, List.map_cons, List.map_nil]); first | done | rfl | (simp only [List.length_drop, List.length_take]; rfl)) ?_; (with_reducible refine (seedcornref07_Right.calls a0_0 a0_1 a0_2 a0_3 false _ A2.out).mono ?_); rintro e w42 ⟨rfl, hb⟩; refine ⟨_, rfl, ?_⟩; have n0_ := Aside0.mk (blk_below (g := gb323) (o := .cells #[.int .i64 a0_0, .int .i64 a0_1, .int .i64 a0_2, .int .i64 a0_3] 46 (0, 0)) (by (with_reducible repeat (first | refine blk_drewN ?_ _ | refine blk_drew ?_ | refine blk_alloc ?_ _)); exact BK323.out) hb); have n1_ := Aside0.mk (below_step (by repeat (first | (with_reducible first | exact HB.out | apply below_alloc | apply pw_below_drewN | apply below_drew1 | refine below_set ?_ GE323.out) | exact HB.out)) hb); clear BK323; clear HB; have BK323 := n0_; have HB := n1_; clear n0_ n1_; (try clear hb); (try clear hb2); (try clear hk); (try clear hi)))
    go_ret
    exact ⟨by first | rfl | (simp [errW_none, errW_some] <;> rfl) | (simp [*, errW_none, errW_some] <;> rfl), by repeat (first | (with_reducible first | exact HB.out | apply below_alloc | apply pw_below_drewN | apply below_drew1 | refine below_set ?_ GE323.out) | exact HB.out)⟩
end Go.Proofs.YtdhkmdgieflioaaDoor.F
