/- Texts of this claim: contracts of functions that the law reaches, and plain lemmas. -/
import Derived.Test.YtdhkmdgieflioaaDoorC5
namespace Go.Proofs.YtdhkmdgieflioaaDoor.F
open Go.RowKit Go.Proofs.YtdhkmdgieflioaaDoorW.PrintWords Go.Proofs.YtdhkmdgieflioaaDoorW.PrintLast Go.Proofs.YtdhkmdgieflioaaDoorW.PrintMore
set_option linter.unusedVariables false
set_option linter.unusedSimpArgs false
open SeedSim
def sgn (n : Int) : Int := if n < 10 then 48 + n else 87 + n
theorem sign_f (n : Int) (h0 : 0 ≤ n) (h1 : n ≤ 15) : seedcornref02_sign.f n = some (sgn n) := by
  unfold seedcornref02_sign.f sgn
  by_cases h : n < 10
  · rw [if_pos h, if_pos h, wrapS (by omega) (by omega), show (48 + n) % 256 = 48 + n by omega]
  · rw [if_neg h, if_neg h, wrapS (x := 97 + n) (by omega) (by omega), wrapS (by omega) (by omega), show (97 + n - 10) % 256 = 87 + n by omega]
theorem sgn_byte (n : Int) (h0 : 0 ≤ n) (h1 : n ≤ 15) : 0 ≤ sgn n ∧ sgn n ≤ 255 := by unfold sgn; split <;> omega
theorem digit_sgn (n : Int) (h0 : 0 ≤ n) (h1 : n ≤ 15) : digit (sgn n) = n ∧ sgn n ≠ 10 ∧ sgn n ≠ 35 := by
  unfold sgn digit
  by_cases h : n < 10
  · rw [if_pos h]
    rw [if_pos (by omega)]
    omega
  · rw [if_neg h]
    rw [if_neg (by omega), if_pos (by omega)]
    omega
theorem inpL_append (a b : ByteArray) : inpL (a ++ b) = inpL a ++ inpL b := by
  unfold inpL
  rw [ByteArray.data_append, Array.toList_append, List.map_append]
theorem inpL_nums (xs : List Int) (h : ∀ x ∈ xs, 0 ≤ x ∧ x ≤ 255) : inpL (strOfNums xs) = xs := by
  unfold inpL strOfNums
  show List.map _ (List.map _ xs) = xs
  rw [List.map_map]
  conv => rhs; rw [← List.map_id xs]
  refine List.map_congr_left (fun x hx => ?_)
  have := h x hx
  simp
  omega
theorem loads_append (l : LS) (a b : List Int) : loads l (a ++ b) = loads (loads l a) b := by unfold loads; rw [List.foldl_append]
theorem loads_note (xs : List Int) (note : List Int) (h : ∀ c ∈ note, c ≠ 10) : loads ⟨true, -1, xs⟩ note = ⟨true, -1, xs⟩ := by
  induction note with
  | nil => rfl
  | cons c note ih =>
    show loads (lstep ⟨true, -1, xs⟩ c) note = _
    have hc := h c (List.mem_cons_self ..)
    have : lstep ⟨true, -1, xs⟩ c = ⟨true, -1, xs⟩ := by simp [lstep, hc]
    rw [this]
    exact ih (fun d hd => h d (List.mem_cons_of_mem _ hd))
theorem text1_ev (s : ByteArray) (i : Nat) (hi : i < s.size) (hs : s.size < 1000) :
    Ev (fun k => seedcornref02_Text.f k (s.extract i (i + 1))) (strOfNums [sgn (bt s (i : Int) / 16), sgn (bt s (i : Int) % 16)]) := by
  have hb := bt_range s (i : Int)
  have hsz : (s.extract i (i + 1)).size = 1 := by rw [ByteArray.size_extract]; omega
  have hbt : bt (s.extract i (i + 1)) 0 = bt s (i : Int) := by
    unfold bt
    rw [dif_pos (by rw [hsz]; decide), dif_pos (by simpa using hi)]
    congr 2
    rw [ByteArray.getElem_extract]
    simp
  generalize hc : bt s (i : Int) = c at hb hbt
  generalize s.extract i (i + 1) = t at hsz hbt
  unfold seedcornref02_Text.f
  refine Ev.step (f := fun k => seedcornref02_Text.l0 k t [sgn (c / 16), sgn (c % 16)] 1) (fun k => ?_) ?_
  · simp only [seedcornref02_Text.l0]
    rw [if_pos (by rw [hsz]; decide), if_pos (by decide), hbt, wrapS (x := c) (by omega) (by omega), Int.tdiv_eq_ediv_of_nonneg (by omega), wrapS (x := c / 16) (by omega) (by omega), sign_f (c / 16) (by omega) (by omega)]
    rw [Int.tmod_eq_emod_of_nonneg (by omega), sign_f (c % 16) (by omega) (by omega)]
    simp only [Option.bind_some]
    rw [if_pos (by simp), wrapS (x := 0 + 1) (by omega) (by omega)]
    rfl
  · refine Ev.step (f := fun _ => some (strOfNums [sgn (c / 16), sgn (c % 16)])) (fun k => ?_) (Ev.now _)
    simp only [seedcornref02_Text.l0]
    rw [if_neg (by rw [hsz]; decide)]
theorem map_toNat_inj : ∀ (x y : List UInt8), x.map (fun b => (b.toNat : Int)) = y.map (fun b => (b.toNat : Int)) → x = y
  | [], [], _ => rfl
  | [], y :: ys, h => by simp at h
  | x :: xs, [], h => by simp at h
  | x :: xs, y :: ys, h => by
    rw [List.map_cons, List.map_cons, List.cons.injEq] at h
    rw [map_toNat_inj xs ys h.2, show x = y from UInt8.toNat_inj.1 (by have := h.1; omega)]
theorem inpL_inj (a b : ByteArray) (h : inpL a = inpL b) : a = b := by
  have h1 : a.data.toList = b.data.toList := map_toNat_inj _ _ h
  cases a; cases b
  simp only [ByteArray.mk.injEq]
  exact Array.toList_inj.1 h1
theorem notes_l1 (s note : ByteArray) (hs : s.size ≤ 60) (hn : note.size ≤ 30) (hno : ∀ c ∈ inpL note, c ≠ 10) (d : Nat) : ∀ (i : Nat) (t : ByteArray), i + d = s.size → t.size ≤ 100 * i → loads ⟨false, -1, []⟩ (inpL t) = ⟨false, -1, (inpL s).take i⟩ →
    Ev (fun k => seedcornlaw50_SeedNotes.l1 k s note t (i : Int)) true := by
  induction d with
  | zero =>
    intro i t hi ht hl
    have hload : loadOf t = s := by
      refine inpL_inj _ _ ?_
      unfold loadOf
      rw [hl, inpL_nums]
      · exact List.take_of_length_le (by rw [inpL_len]; omega)
      · intro x hx
        exact inpL_byte s x (List.mem_of_mem_take hx)
    refine Ev.step (f := fun k => ((seedcornlaw50_awake.f k).bind fun t243 => (if t243 = true then ((seedcornref02_Load.f k t).bind fun t244 => (if t244.toList = s.toList then ((seed_Image.f k).bind fun t245 => ((seedcornref50_Loads.f k t245 t).bind fun t246 => (some t246))) else (some false))) else (some false)))) (fun k => ?_) ?_
    · simp only [seedcornlaw50_SeedNotes.l1]
      rw [if_neg (by omega)]
    refine Ev.bind awake_f ?_
    refine Ev.congr (fun k => by rw [if_pos rfl]) ?_
    refine Ev.bind (load_f t (by omega)) ?_
    rw [hload]
    refine Ev.congr (fun k => by rw [if_pos rfl]) ?_
    refine Ev.bind image_ev ?_
    exact Ev.bind (loads_f t (by omega)) (Ev.now _)
  | succ d ih =>
    intro i t hi ht hl
    have hlt : i < s.size := by omega
    have hb := bt_range s (i : Int)
    have hwi : wrap64 ((i : Int) + 1) = ((i + 1 : Nat) : Int) := by rw [wrapS (by omega) (by omega)]; omega
    have htx := text1_ev s i hlt (by omega)
    obtain ⟨c, hc⟩ : ∃ c, c = bt s (i : Int) := ⟨_, rfl⟩
    rw [← hc] at hb htx
    obtain ⟨t2, ht2⟩ : ∃ t2, t2 = strOfNums [sgn (c / 16), sgn (c % 16)] := ⟨_, rfl⟩
    rw [← ht2] at htx
    have h2s : t2.size = 2 := by rw [ht2, strOfNums_size]; rfl
    have e1 : (t ++ t2).size = t.size + 2 := by rw [ByteArray.size_append, h2s]
    have e2 : ((t ++ t2) ++ (⟨#[32, 35]⟩ : ByteArray)).size = t.size + 4 := by rw [ByteArray.size_append, e1]; rfl
    have e3 : (((t ++ t2) ++ (⟨#[32, 35]⟩ : ByteArray)) ++ note).size = t.size + 4 + note.size := by rw [ByteArray.size_append, e2]
    have e4 : ((((t ++ t2) ++ (⟨#[32, 35]⟩ : ByteArray)) ++ note) ++ (⟨#[10]⟩ : ByteArray)).size = t.size + 4 + note.size + 1 := by rw [ByteArray.size_append, e3]; rfl
    refine Ev.step (f := fun k => (seedcornref02_Text.f k (s.extract i (i + 1))).bind fun t242 => (if t.size + t242.size ≤ 9223372036854775807 then (if (t ++ t242).size + 2 ≤ 9223372036854775807 then (if ((t ++ t242) ++ (⟨#[32, 35]⟩ : ByteArray)).size + note.size ≤ 9223372036854775807 then (if (((t ++ t242) ++ (⟨#[32, 35]⟩ : ByteArray)) ++ note).size + 1 ≤ 9223372036854775807 then (seedcornlaw50_SeedNotes.l1 k s note ((((t ++ t242) ++ (⟨#[32, 35]⟩ : ByteArray)) ++ note) ++ (⟨#[10]⟩ : ByteArray)) ((i + 1 : Nat) : Int)) else (none)) else (none)) else (none)) else (none))) (fun k => ?_) ?_
    · simp only [seedcornlaw50_SeedNotes.l1]
      rw [if_pos (by omega), if_pos (by omega), hwi, if_pos (by omega), if_pos (by omega)]
      rfl
    refine Ev.bind htx ?_
    refine Ev.congr (fun k => by rw [if_pos (by omega), if_pos (by omega), if_pos (by omega), if_pos (by omega)]) ?_
    refine ih (i + 1) _ (by omega) (by omega) ?_
    have d1 := digit_sgn (c / 16) (by omega) (by omega)
    have d2 := digit_sgn (c % 16) (by omega) (by omega)
    rw [inpL_append, inpL_append, inpL_append, inpL_append, ht2, inpL_nums _ (by
      intro x hx
      simp only [List.mem_cons, List.not_mem_nil, or_false] at hx
      rcases hx with rfl | rfl
      · exact sgn_byte _ (by omega) (by omega)
      · exact sgn_byte _ (by omega) (by omega))]
    rw [loads_append, loads_append, loads_append, loads_append, hl]
    have s1 : loads ⟨false, -1, (inpL s).take i⟩ [sgn (c / 16), sgn (c % 16)] = ⟨false, -1, (inpL s).take (i + 1)⟩ := by
      show lstep (lstep ⟨false, -1, (inpL s).take i⟩ (sgn (c / 16))) (sgn (c % 16)) = _
      have k1 : lstep ⟨false, -1, (inpL s).take i⟩ (sgn (c / 16)) = ⟨false, c / 16, (inpL s).take i⟩ := by
        unfold lstep
        simp only [if_neg d1.2.1, if_neg d1.2.2, d1.1]
        rw [if_neg (by simp; omega), if_pos (by decide)]
      rw [k1]
      unfold lstep
      simp only [if_neg d2.2.1, if_neg d2.2.2, d2.1]
      rw [if_neg (by simp; omega), if_neg (by omega)]
      have hc16 : 16 * (c / 16) + c % 16 = c := by omega
      rw [hc16, hc, List.take_add_one]
      have : (inpL s)[i]? = some (bt s (i : Int)) := by rw [List.getElem?_eq_getElem (by rw [inpL_len]; exact hlt), bt_inp s i hlt]
      rw [this]
      rfl
    rw [s1]
    have s2 : loads ⟨false, -1, (inpL s).take (i + 1)⟩ (inpL (⟨#[32, 35]⟩ : ByteArray)) = ⟨true, -1, (inpL s).take (i + 1)⟩ := by
      show lstep (lstep ⟨false, -1, (inpL s).take (i + 1)⟩ 32) 35 = _
      simp [lstep, digit]
    rw [s2, loads_note _ _ hno]
    show lstep ⟨true, -1, (inpL s).take (i + 1)⟩ 10 = _
    simp [lstep, digit]
theorem notes_l0 (s note : ByteArray) (hs : s.size ≤ 60) (hn : note.size ≤ 30) (d : Nat) : ∀ i : Nat, i + d = note.size → (∀ j : Nat, j < i → bt note (j : Int) ≠ 10) → Ev (fun k => seedcornlaw50_SeedNotes.l0 k s note (i : Int)) true := by
  induction d with
  | zero =>
    intro i hi hj
    refine Ev.step (f := fun k => seedcornlaw50_SeedNotes.l1 k s note (⟨#[]⟩ : ByteArray) ((0 : Nat) : Int)) (fun k => ?_) ?_
    · simp only [seedcornlaw50_SeedNotes.l0]
      rw [if_neg (by omega)]
      rfl
    · refine notes_l1 s note hs hn ?_ s.size 0 _ (by omega) (by decide) (by rfl)
      intro c hc
      obtain ⟨j, hlt, rfl⟩ := List.getElem_of_mem hc
      rw [inpL_len] at hlt
      rw [bt_inp note j hlt]
      exact hj j (by omega)
  | succ d ih =>
    intro i hi hj
    have hwi : wrap64 ((i : Int) + 1) = ((i + 1 : Nat) : Int) := by rw [wrapS (by omega) (by omega)]; omega
    by_cases h10 : bt note (i : Int) = 10
    · refine Ev.step (f := fun k => (seedcornlaw50_awake.f k).bind fun t241 => (some t241)) (fun k => ?_) (Ev.bind awake_f (Ev.now _))
      simp only [seedcornlaw50_SeedNotes.l0]
      rw [if_pos (by omega), if_pos (by omega), if_pos h10]
    · refine Ev.step (f := fun k => seedcornlaw50_SeedNotes.l0 k s note ((i + 1 : Nat) : Int)) (fun k => ?_) (ih (i + 1) (by omega) ?_)
      · simp only [seedcornlaw50_SeedNotes.l0]
        rw [if_pos (by omega), if_pos (by omega), if_neg h10, hwi]
      · intro j hlt
        by_cases e : j = i
        · subst e; exact h10
        · exact hj j (by omega)
theorem notes_j0 (s note : ByteArray) : Ev (fun k => seedcornlaw50_SeedNotes.j0 k s note true) true := by
  refine Ev.step (f := fun k => (seedcornlaw50_awake.f k).bind fun t240 => (some t240)) (fun k => ?_) (Ev.bind awake_f (Ev.now _))
  simp only [seedcornlaw50_SeedNotes.j0, if_true]
theorem seedNotes_pure (s note : ByteArray) : ∃ k, seedcornlaw50_SeedNotes.f k s note = some true := by
  refine Ev.rounds (g := fun k => seedcornlaw50_SeedNotes.f k s note) ?_
  unfold seedcornlaw50_SeedNotes.f
  by_cases h : (s.size : Int) > 60
  · exact Ev.congr (fun k => by rw [if_pos h]) (notes_j0 s note)
  · refine Ev.congr (fun k => by rw [if_neg h]) ?_
    by_cases h2 : (note.size : Int) > 30
    · rw [decide_eq_true h2]
      exact notes_j0 s note
    · rw [decide_eq_false h2]
      refine Ev.step (f := fun k => seedcornlaw50_SeedNotes.l0 k s note ((0 : Nat) : Int)) (fun k => ?_) (notes_l0 s note (by omega) (by omega) note.size 0 (by omega) (by intro j hj; omega))
      simp only [seedcornlaw50_SeedNotes.j0]
      rw [if_neg (by decide)]
      rfl
end Go.Proofs.YtdhkmdgieflioaaDoor.F
