/- Printed functions of a law, and their walks. -/
import Derived.Test.YthghblmffdfbaaaGreatDoorXShortH
import Derived.Test.YthghblmffdfbaaaGreatDoorPWholePackx2H
namespace Go.Proofs.YthghblmffdfbaaaGreatDoor.PWholePack
open Go.RowKit Go.Proofs.YthghblmffdfbaaaGreatDoorW.PrintWords Go.Proofs.YthghblmffdfbaaaGreatDoorW.PrintLast Go.Proofs.YthghblmffdfbaaaGreatDoorW.PrintMore
open Go.Proofs.YthghblmffdfbaaaGreatDoor.PFrBase
open Go.Proofs.YthghblmffdfbaaaGreatDoor.PUnBase (bits_OnesCount8.f bits_OnesCount8.calls tagbyte_Ones.f tagbyte_Ones.calls)
open Go.Proofs.YthghblmffdfbaaaGreatDoor.POfBase (tagbyte_Of.f tagbyte_Of.calls tagbyte_Of.mono tagbyte_Of.mono_l)
attribute [local go_sem] max2_int min2_int max_two min_two max_three min_three max_four min_four   -- for this text's walks alone
set_option linter.unusedVariables false
set_option linter.unusedSimpArgs false
def pack_Words.l0 : Nat → List Int → List Int → Option (List Int)
  | 0, _, _ => none
  | k + 1, x0, x3 => if (x0.length : Int) > 0 then (if 0 < (x0.length : Int) then ((tagbyte_Of.f k (rd x0 0)).bind fun t158 => (if x3.length < 140737488355328 then ((some (x3 ++ [t158] : List Int)).bind fun y159 => ((tagbyte_Bytes.f k (rd x0 0)).bind fun t163 => (if y159.length + t163.length < 140737488355328 then ((some (y159 ++ t163 : List Int)).bind fun y166 => (if 1 ≤ (x0.length : Int) then (if t158 = 0 then ((pack_run_with_pack_Words_1.f k (x0.drop 1)).bind fun t170 => (if y166.length < 140737488355328 then (if 0 ≤ t170 then (if t170 ≤ ((x0.drop 1).length : Int) then (pack_Words.l0 k ((x0.drop 1).drop (t170 : Int).toNat) (y166 ++ [(t170) % 256])) else (none)) else (none)) else (none))) else (if t158 = 255 then ((pack_run_with_tagbyte_Dense.f k (x0.drop 1)).bind fun t175 => (if y166.length < 140737488355328 then ((some (y166 ++ [(t175) % 256] : List Int)).bind fun y176 => (if 0 ≤ t175 then (if t175 ≤ ((x0.drop 1).length : Int) then ((word_Bytes.f k ((x0.drop 1).take (t175 : Int).toNat)).bind fun t180 => (if y176.length + t180.length < 140737488355328 then (pack_Words.l0 k ((x0.drop 1).drop (t175 : Int).toNat) (y176 ++ t180)) else (none))) else (none)) else (none))) else (none))) else (pack_Words.l0 k (x0.drop 1) y166))) else (none))) else (none)))) else (none))) else (none)) else (some x3)
def pack_Words.f (k : Nat) (l0 : List Int) : Option (List Int) := pack_Words.l0 k l0 ([] : List Int)
def pack_Words.T4 : Bool × List (List Nat × List Nat) := (true, [([], []), ([], []), ([1], [1]), ([0, 2], [0, 2]), ([], []), ([4], [4]), ([5], [5]), ([6, 3], [6]), ([3, 7, 7], [3, 7]), ([8, 8, 0, 1, 2, 3, 4, 5, 6, 7, 8], [0, 8])])
def pack_Words.B4 : List Nat := [0, 0, 2, 7, 0, 16, 48, 127, 255, 511]
theorem pack_Words.tab4 : rtab .any (opsOf Tryz.f31 4) = pack_Words.T4 := by kernel_rfl
theorem pack_Words.bits4 : waitsOk pack_Words.T4.2 pack_Words.B4 = true := by kernel_rfl
def pack_Words.T13 : Bool × List (List Nat × List Nat) := (true, [([], []), ([], []), ([1], [1]), ([2], [2]), ([0, 3], [0, 3]), ([], []), ([], []), ([5, 6], [5, 6]), ([7, 4], [7]), ([4, 8, 8], [4, 8]), ([9, 9, 0, 1, 2, 3, 4, 5, 6, 7, 8, 9], [0, 9])])
def pack_Words.B13 : List Nat := [0, 0, 2, 6, 15, 0, 0, 96, 255, 511, 1023]
theorem pack_Words.tab13 : rtab .any (opsOf Tryz.f31 13) = pack_Words.T13 := by kernel_rfl
theorem pack_Words.bits13 : waitsOk pack_Words.T13.2 pack_Words.B13 = true := by kernel_rfl
set_option maxHeartbeats 8000000 in
set_option maxRecDepth 100000 in
theorem pack_Words.calls (k : Nat) (A0 : Option Addr) (c0 : Nat) (l0 : List Int) (r : List Int) (w : World) (hr0 : Kd.C (Kd.int .u64) w A0 l0.length l0) (hc0 : l0.length ≤ c0) (h : pack_Words.f k l0 = some r) :
    Calls Tryz.prog 31 #[.slice A0 l0.length c0] w fun e w' => ∃ v0_ : Value, e = .returned (v0_) ∧ Kd.R (Kd.int .u8) 5 w' w.heap.size (fun _ => True) v0_ r ∧ Below w.heap.size w w' := by
  have HR0 := Aside0.mk hr0
  have HC0 := Aside0.mk hc0
  clear hr0 hc0
  have HB := Aside0.mk (Below.refl w.heap.size w)
  have H : (pack_Words.l0 k l0 ([] : List Int)) = some r := h
  clear h
  have H' := Aside0.mk H
  clear H
  go_enter Tryz.func31, Tryz.ntmps31
  go_wp2
  (try go_step3)
  (try go_wp2)
  (try go_step3)
  (try go_wp2)
  go_loopg [0, 3] k (fun kq v0 v3 w' => ∃ (x0_1 : List Int) (x3_1 : List Int) (Aq0 : Option Addr) (cq0 : Nat), v0 = .slice Aq0 x0_1.length cq0 ∧ Aside0 (Kd.C (Kd.int .u64) w Aq0 x0_1.length x0_1) ∧ Aside0 (x0_1.length ≤ cq0) ∧ Aside0 (pack_Words.l0 kq x0_1 x3_1 = some r) ∧ Aside0 (kq ≤ k) ∧ Aside0 (Kd.R (Kd.int .u8) 5 w' w.heap.size (fun _ => True) v3 x3_1) ∧ Aside0 (Below w.heap.size w w'))
  case atStart => exact ⟨(l0), (([] : List Int)), _, _, (by first | rfl | (simp only [List.length_drop, List.length_take, Int.reduceToNat]; done) | (simp only [List.length_drop, List.length_take, Int.reduceToNat]; rfl) | (congr 1 <;> (first | rfl | (simp only [List.length_drop, List.length_take, Int.reduceToNat]; omega)))), HR0, HC0, H', ⟨Nat.le_refl _⟩, ⟨by first | exact Kd.R_nil _ _ _ _ _ | exact Kd.N_nil _ _ _ _ _ | exact Kd.V_nil _ _ _ _ _ | exact Kd.Q_nil _ _ _ _ _ | exact Kd.S_nil _ _ _ _ _⟩, ⟨pB⟩⟩
  case round =>
    clear H'
    obtain ⟨x0_1, x3_1, Aq0, cq0, rfl, HRq0, HCq0, HA, HK1, HO_3, HB⟩ := hrel
    cases gk with
    | zero => exact absurd HA.out (by simp [pack_Words.l0])
    | succ k1 =>
      have H := HA.out
      clear HA
      simp only [pack_Words.l0] at H
      by_cases c2 : (x0_1.length : Int) > 0
      · rw [if_pos c2] at H
        have c2b0 : decide (0 < (x0_1.length : Int)) = true := decide_eq_true c2
        have c2b1 : decide (0 < x0_1.length) = true := decide_eq_true (by omega)
        clear c2
        by_cases c3 : 0 < (x0_1.length : Int)
        · rw [if_pos c3] at H
          have c3b0 : decide (0 < (x0_1.length : Int)) = true := decide_eq_true c3
          have c3b1 : decide (0 < x0_1.length) = true := decide_eq_true (by omega)
          clear c3
          replace H := Option.bind_eq_some_iff.mp H
          obtain ⟨t158, A40, H⟩ := H
          replace H : (if x3_1.length < 140737488355328 then ((some (x3_1 ++ [t158] : List Int)).bind fun y159 => ((tagbyte_Bytes.f k1 (rd x0_1 0)).bind fun t163 => (if y159.length + t163.length < 140737488355328 then ((some (y159 ++ t163 : List Int)).bind fun y166 => (if 1 ≤ (x0_1.length : Int) then (if t158 = 0 then ((pack_run_with_pack_Words_1.f k1 (x0_1.drop 1)).bind fun t170 => (if y166.length < 140737488355328 then (if 0 ≤ t170 then (if t170 ≤ ((x0_1.drop 1).length : Int) then (pack_Words.l0 k1 ((x0_1.drop 1).drop (t170 : Int).toNat) (y166 ++ [(t170) % 256])) else (none)) else (none)) else (none))) else (if t158 = 255 then ((pack_run_with_tagbyte_Dense.f k1 (x0_1.drop 1)).bind fun t175 => (if y166.length < 140737488355328 then ((some (y166 ++ [(t175) % 256] : List Int)).bind fun y176 => (if 0 ≤ t175 then (if t175 ≤ ((x0_1.drop 1).length : Int) then ((word_Bytes.f k1 ((x0_1.drop 1).take (t175 : Int).toNat)).bind fun t180 => (if y176.length + t180.length < 140737488355328 then (pack_Words.l0 k1 ((x0_1.drop 1).drop (t175 : Int).toNat) (y176 ++ t180)) else (none))) else (none)) else (none))) else (none))) else (pack_Words.l0 k1 (x0_1.drop 1) y166))) else (none))) else (none)))) else (none)) = some r := H
          have A4 := Aside0.mk A40
          clear A40
          by_cases c5 : x3_1.length < 140737488355328
          · rw [if_pos c5] at H
            have LMc5 := Aside0.mk c5
            clear c5
            obtain ⟨y159, hy159⟩ : ∃ y_ : List Int, y_ = (x3_1 ++ [t158]) := ⟨_, rfl⟩
            replace H : ((tagbyte_Bytes.f k1 (rd x0_1 0)).bind fun t163 => (if y159.length + t163.length < 140737488355328 then ((some (y159 ++ t163 : List Int)).bind fun y166 => (if 1 ≤ (x0_1.length : Int) then (if t158 = 0 then ((pack_run_with_pack_Words_1.f k1 (x0_1.drop 1)).bind fun t170 => (if y166.length < 140737488355328 then (if 0 ≤ t170 then (if t170 ≤ ((x0_1.drop 1).length : Int) then (pack_Words.l0 k1 ((x0_1.drop 1).drop (t170 : Int).toNat) (y166 ++ [(t170) % 256])) else (none)) else (none)) else (none))) else (if t158 = 255 then ((pack_run_with_tagbyte_Dense.f k1 (x0_1.drop 1)).bind fun t175 => (if y166.length < 140737488355328 then ((some (y166 ++ [(t175) % 256] : List Int)).bind fun y176 => (if 0 ≤ t175 then (if t175 ≤ ((x0_1.drop 1).length : Int) then ((word_Bytes.f k1 ((x0_1.drop 1).take (t175 : Int).toNat)).bind fun t180 => (if y176.length + t180.length < 140737488355328 then (pack_Words.l0 k1 ((x0_1.drop 1).drop (t175 : Int).toNat) (y176 ++ t180)) else (none))) else (none)) else (none))) else (none))) else (pack_Words.l0 k1 (x0_1.drop 1) y166))) else (none))) else (none))) = some r := by first | (rw [hy159]; with_reducible exact H) | (have H2_ := (Option.bind_some _ _).symm.trans H; rw [hy159]; with_reducible exact H2_) | (have H2_ := (Option.bind_some _ _).symm.trans H; with_reducible exact H2_) | with_reducible exact H | (rw [hy159]; exact H) | exact H
            have Ny159 := Aside0.mk hy159
            clear hy159
            replace H := Option.bind_eq_some_iff.mp H
            obtain ⟨t163, A60, H⟩ := H
            replace H : (if y159.length + t163.length < 140737488355328 then ((some (y159 ++ t163 : List Int)).bind fun y166 => (if 1 ≤ (x0_1.length : Int) then (if t158 = 0 then ((pack_run_with_pack_Words_1.f k1 (x0_1.drop 1)).bind fun t170 => (if y166.length < 140737488355328 then (if 0 ≤ t170 then (if t170 ≤ ((x0_1.drop 1).length : Int) then (pack_Words.l0 k1 ((x0_1.drop 1).drop (t170 : Int).toNat) (y166 ++ [(t170) % 256])) else (none)) else (none)) else (none))) else (if t158 = 255 then ((pack_run_with_tagbyte_Dense.f k1 (x0_1.drop 1)).bind fun t175 => (if y166.length < 140737488355328 then ((some (y166 ++ [(t175) % 256] : List Int)).bind fun y176 => (if 0 ≤ t175 then (if t175 ≤ ((x0_1.drop 1).length : Int) then ((word_Bytes.f k1 ((x0_1.drop 1).take (t175 : Int).toNat)).bind fun t180 => (if y176.length + t180.length < 140737488355328 then (pack_Words.l0 k1 ((x0_1.drop 1).drop (t175 : Int).toNat) (y176 ++ t180)) else (none))) else (none)) else (none))) else (none))) else (pack_Words.l0 k1 (x0_1.drop 1) y166))) else (none))) else (none)) = some r := H
            have A6 := Aside0.mk A60
            clear A60
            by_cases c7 : y159.length + t163.length < 140737488355328
            · rw [if_pos c7] at H
              have LMc7 := Aside0.mk c7
              clear c7
              obtain ⟨y166, hy166⟩ : ∃ y_ : List Int, y_ = (y159 ++ t163) := ⟨_, rfl⟩
              replace H : (if 1 ≤ (x0_1.length : Int) then (if t158 = 0 then ((pack_run_with_pack_Words_1.f k1 (x0_1.drop 1)).bind fun t170 => (if y166.length < 140737488355328 then (if 0 ≤ t170 then (if t170 ≤ ((x0_1.drop 1).length : Int) then (pack_Words.l0 k1 ((x0_1.drop 1).drop (t170 : Int).toNat) (y166 ++ [(t170) % 256])) else (none)) else (none)) else (none))) else (if t158 = 255 then ((pack_run_with_tagbyte_Dense.f k1 (x0_1.drop 1)).bind fun t175 => (if y166.length < 140737488355328 then ((some (y166 ++ [(t175) % 256] : List Int)).bind fun y176 => (if 0 ≤ t175 then (if t175 ≤ ((x0_1.drop 1).length : Int) then ((word_Bytes.f k1 ((x0_1.drop 1).take (t175 : Int).toNat)).bind fun t180 => (if y176.length + t180.length < 140737488355328 then (pack_Words.l0 k1 ((x0_1.drop 1).drop (t175 : Int).toNat) (y176 ++ t180)) else (none))) else (none)) else (none))) else (none))) else (pack_Words.l0 k1 (x0_1.drop 1) y166))) else (none)) = some r := by first | (rw [hy166]; with_reducible exact H) | (have H2_ := (Option.bind_some _ _).symm.trans H; rw [hy166]; with_reducible exact H2_) | (have H2_ := (Option.bind_some _ _).symm.trans H; with_reducible exact H2_) | with_reducible exact H | (rw [hy166]; exact H) | exact H
              have Ny166 := Aside0.mk hy166
              clear hy166
              by_cases c8 : 1 ≤ (x0_1.length : Int)
              · rw [if_pos c8] at H
                have c8b0 := eq_true c8
                have c8b1 : decide (1 ≤ (x0_1.length : Int)) = true := decide_eq_true c8
                clear c8
                by_cases c9 : t158 = 0
                · rw [if_pos c9] at H
                  have c9b0 : (t158 == 0) = true := beq_iff_eq.mpr c9
                  have c9b1 : (t158 != 0) = false := bne_eq_false_iff_eq.mpr c9
                  clear c9
                  replace H := Option.bind_eq_some_iff.mp H
                  obtain ⟨t170, A100, H⟩ := H
                  replace H : (if y166.length < 140737488355328 then (if 0 ≤ t170 then (if t170 ≤ ((x0_1.drop 1).length : Int) then (pack_Words.l0 k1 ((x0_1.drop 1).drop (t170 : Int).toNat) (y166 ++ [(t170) % 256])) else (none)) else (none)) else (none)) = some r := H
                  have A10 := Aside0.mk A100
                  clear A100
                  by_cases c11 : y166.length < 140737488355328
                  · rw [if_pos c11] at H
                    have LMc11 := Aside0.mk c11
                    clear c11
                    obtain ⟨y171, hy171⟩ : ∃ y_ : List Int, y_ = (y166 ++ [(t170) % 256]) := ⟨_, rfl⟩
                    replace H : (if 0 ≤ t170 then (if t170 ≤ ((x0_1.drop 1).length : Int) then (pack_Words.l0 k1 ((x0_1.drop 1).drop (t170 : Int).toNat) y171) else (none)) else (none)) = some r := by first | (rw [hy171]; with_reducible exact H) | (have H2_ := (Option.bind_some _ _).symm.trans H; rw [hy171]; with_reducible exact H2_) | (have H2_ := (Option.bind_some _ _).symm.trans H; with_reducible exact H2_) | with_reducible exact H | (rw [hy171]; exact H) | exact H
                    have Ny171 := Aside0.mk hy171
                    clear hy171
                    by_cases c12 : 0 ≤ t170
                    · rw [if_pos c12] at H
                      have c12b0 := eq_true c12
                      have c12b1 : decide (0 ≤ t170) = true := decide_eq_true c12
                      clear c12
                      by_cases c13 : t170 ≤ ((x0_1.drop 1).length : Int)
                      · rw [if_pos c13] at H
                        have c13b0 := eq_true c13
                        have c13b1 : decide (t170 ≤ ((x0_1.drop 1).length : Int)) = true := decide_eq_true c13
                        clear c13
                        have H' := Aside0.mk H
                        clear H
                        have p157 : 0 ≤ (0 : Int) := (by omega)
                        have q157 : 0 < (x0_1.length : Int) := of_decide_eq_true pA
                        obtain ⟨ad157, e157, hx157_0⟩ := Kd.at_int HRq0.out 0 p157 q157
                        cases e157
                        have qi157 : (0 < x0_1.length) = True := eq_true (by omega)
                        (try rw [show ((0 : Int)).toNat = 0 from rfl] at hx157_0)
                        (try rw [Addr.add_zero'] at hx157_0)
                        replace hx157_0 := (HB.out.cell (World.block_lt_of_cell? w _ hx157_0)).trans hx157_0
                        replace p157 := eq_true p157
                        replace q157 := eq_true q157
                        try go_wp2_with (first | ((with_reducible refine gate_callee (f := 56) rfl ?_); refine goesL_ (some 12) rfl rfl Tryz.func56 (by kernel_rfl) rfl #[.int .u64 (rd x0_1 0)] rfl pM ?_; (with_reducible refine (tagbyte_Of.calls k1 (rd x0_1 0) t158 _ A4.out).mono ?_); rintro e w14 ⟨rfl, hb⟩; refine ⟨_, rfl, ?_⟩; have n0_ := Aside0.mk (Kd.R_below (pR HO_3) hb); have n1_ := Aside0.mk (below_step pB hb); clear HO_3; clear HB; have HO_3 := n0_; have HB := n1_; clear n0_ n1_; (try clear hb); (try clear hb2); (try clear hk); (try clear hi)))
                        have n0_ := Aside0.mk (Kd.R_drew HO_3.out)
                        have n1_ := Aside0.mk (below_drew1 HB.out)
                        clear HO_3
                        clear HB
                        have HO_3 := n0_
                        have HB := n1_
                        clear n0_ n1_
                        have p162 : 0 ≤ (0 : Int) := (by omega)
                        have q162 : 0 < (x0_1.length : Int) := of_decide_eq_true pA
                        obtain ⟨ad162, e162, hx162_0⟩ := Kd.at_int HRq0.out 0 p162 q162
                        have hw162_0 := hx162_0
                        (try rw [show ((0 : Int)).toNat = 0 from rfl] at hw162_0)
                        (try rw [show 0 * 1 = 0 from rfl] at hw162_0)
                        (try rw [Addr.add_zero'] at hw162_0)
                        obtain rfl : ad157 = ad162 := (by injection e162)
                        have qi162 : (0 < x0_1.length) = True := eq_true (by omega)
                        (try rw [show ((0 : Int)).toNat = 0 from rfl] at hx162_0)
                        (try rw [Addr.add_zero'] at hx162_0)
                        replace hx162_0 := (HB.out.cell (World.block_lt_of_cell? w _ hx162_0)).trans hx162_0
                        replace p162 := eq_true p162
                        replace q162 := eq_true q162
                        refine start_ (n := 10) (S := fun w' => w'.cell? ad157 = some (.int .u64 (rd x0_1 0))) (ds := []) #[false, false, false, false, false, false, false, false, false, false] (by kernel_rfl) rfl rfl (((HB.out.cell (World.block_lt_of_cell? w _ hw162_0)).trans hw162_0)) (fun hHeld => ?_); refine with_tabW pack_Words.tab4 pack_Words.bits4 (fun HT_ HW_ => ?_)
                        generalize w14.drew = w15 at HO_3 HB hx162_0 hHeld ⊢
                        refine pure_ (i := 0) (N := some 13) (v := ?_) (a' := ?_) #[true, false, false, false, false, false, false, false, false, false] rfl rfl (any_of HT_.out (by kernel_rfl)) (fun _ _ _ h => h) (Or.inl ⟨by rfl, ?_⟩) ?_ ?_
                        rotate_left
                        · intro w'
                          go_simp
                          with_reducible rfl
                        rotate_left
                        · simp only [Act.put, List.setIfInBounds_toArray, List.set_cons_zero, List.set_cons_succ, i64_w, i32_w]
                          rfl
                        refine pure_ (i := 1) (N := some 14) (v := ?_) (a' := ?_) #[true, true, false, false, false, false, false, false, false, false] rfl rfl (any_of HT_.out (by kernel_rfl)) (fun _ _ _ h => h) (Or.inl ⟨by rfl, ?_⟩) ?_ ?_
                        rotate_left
                        · intro w'
                          go_simp
                          with_reducible rfl
                        rotate_left
                        · simp only [Act.put, List.setIfInBounds_toArray, List.set_cons_zero, List.set_cons_succ, i64_w, i32_w]
                          rfl
                        refine pure_ (i := 4) (N := some 17) (v := ?_) (a' := ?_) #[true, true, false, false, true, false, false, false, false, false] rfl rfl (any_of HT_.out (by kernel_rfl)) (fun _ _ _ h => h) (Or.inl ⟨by rfl, ?_⟩) ?_ ?_
                        rotate_left
                        · intro w'
                          go_simp
                          with_reducible rfl
                        rotate_left
                        · simp only [Act.put, List.setIfInBounds_toArray, List.set_cons_zero, List.set_cons_succ, i64_w, i32_w]
                          rfl
                        refine pure_ (i := 5) (N := some 18) (v := ?_) (a' := ?_) #[true, true, false, false, true, true, false, false, false, false] rfl rfl (any_of HT_.out (by kernel_rfl)) (fun _ _ _ h => h) (Or.inl ⟨by rfl, ?_⟩) ?_ ?_
                        rotate_left
                        · intro w'
                          go_simp
                          with_reducible rfl
                        rotate_left
                        · simp only [Act.put, List.setIfInBounds_toArray, List.set_cons_zero, List.set_cons_succ, i64_w, i32_w]
                          rfl
                        refine take_ (i := 6) (N := some 19) (v := ?_) (a' := ?_) #[true, true, false, false, true, true, true, false, false, false] rfl rfl (take_ofW HT_.out HW_.out (by kernel_rfl)) (fun _ _ _ h => h) (Or.inl ⟨by rfl, ?_⟩) hHeld ?_ ?_
                        rotate_left
                        · intro w' s0
                          go_simp
                          with_reducible rfl
                        rotate_left
                        · simp only [Act.put, List.setIfInBounds_toArray, List.set_cons_zero, List.set_cons_succ, i64_w, i32_w]
                          rfl
                        refine one_ (i := 2) (N := some 15) #[true, true, true, false, true, true, true, false, false, false] rfl rfl (one_of HT_.out (by kernel_rfl)) (by decide) (fun K hK => ?_)
                        refine value_ (w1 := ?_) (v := ?_) (by rfl) rfl ?_ ?_
                        rotate_left 2
                        · go_simp
                          constructor
                          · rfl
                          · rfl
                        refine hK.out _ _ ((World.cell?_alloc_lt _ _ _ (World.block_lt_of_cell? _ _ (((HB.out.cell (World.block_lt_of_cell? w _ hw162_0)).trans hw162_0)))).trans (((HB.out.cell (World.block_lt_of_cell? w _ hw162_0)).trans hw162_0))) (fun hHeld => ?_)
                        clear hK K
                        refine norm_ (a' := ?_) ?_ ?_
                        rotate_left
                        · show Act.put _ (some 15) _ = _
                          simp only [Act.put, List.setIfInBounds_toArray, List.set_cons_zero, List.set_cons_succ, i64_w, i32_w]
                          rfl
                        refine one_ (i := 3) (N := some 16) #[true, true, true, true, true, true, true, false, false, false] rfl rfl (one_of HT_.out (by kernel_rfl)) (by decide) (fun K hK => ?_)
                        refine Kd.R_append_step (Kd.int .u8) (w0 := w) w.heap.size (by rfl) (.tmp 13) (.tmp 15) 22 5 (.int .u8 0) 1 rfl Tryz.underlying22 info5 rfl (by decide) (by omega) u3 x3_1 t158 [.int .u8 t158] (fun _ => True) (fun _ => False) rfl rfl ?aP (fun _ hk => hk.elim) ?aF ?aO ?aB ?aS ?aL ?_
                        (case aP => exact rfl)
                        (case aB => exact pB)
                        (case aF => exact (fun _ _ => trivial))
                        (case aO => exact (pR HO_3))
                        (case aS => exact (below_size pB))
                        (case aL => have := LMc5.out; omega)
                        intro v160 w16 ho hb hg hat
                        rw [← Ny159.out] at ho
                        have n0_ := Aside0.mk (hb)
                        have n1_ := Aside0.mk (ho)
                        clear HB
                        clear HO_3
                        have HB := n0_
                        have HO161 := n1_
                        clear n0_ n1_
                        clear ho hb hg hat
                        refine hK.out _ _ (((HB.out.cell (World.block_lt_of_cell? w _ hw162_0)).trans hw162_0)) (fun hHeld => ?_)
                        clear hK K
                        refine norm_ (a' := ?_) ?_ ?_
                        rotate_left
                        · show Act.put _ (some 16) _ = _
                          simp only [Act.put, List.setIfInBounds_toArray, List.set_cons_zero, List.set_cons_succ, i64_w, i32_w]
                          rfl
                        refine one_ (i := 7) (N := some 20) #[true, true, true, true, true, true, true, true, false, false] rfl rfl (one_of HT_.out (by kernel_rfl)) (by decide) (fun K hK => ?_)
                        refine goes_ Tryz.func57 (by kernel_rfl) rfl #[.int .u64 (rd x0_1 0)] (by rfl) rfl rfl pM ?_
                        with_reducible refine (tagbyte_Bytes.calls k1 (rd x0_1 0) t163 _ A6.out).mono ?_
                        rintro e w17 ⟨v164, rfl, ho0, hb⟩
                        refine ⟨_, rfl, ?_⟩
                        have n0_ := Aside0.mk (Kd.R_elder' (pR HO161) (Kd.R_base ho0) hb)
                        have n1_ := Aside0.mk (Kd.R_lower (Kd.R_new' ho0 (Kd.R_lt (pR HO161))) (below_size pB))
                        have n2_ := Aside0.mk (below_step pB hb)
                        clear HO161
                        clear HB
                        have HO161 := n0_
                        have HO165 := n1_
                        have HB := n2_
                        clear n0_ n1_ n2_
                        (try clear hb)
                        (try clear hb2)
                        (try clear hk)
                        (try clear hi)
                        (try clear ho0)
                        obtain ⟨Ao19, co19, eo19⟩ := Kd.R_slice HO165.out
                        (first | subst eo19 | (injection eo19 with f1_ f2_ f3_; have f4_ := f1_.symm; have f5_ := f3_.symm; clear f1_ f2_ f3_; subst f4_; subst f5_))
                        refine hK.out _ _ (((HB.out.cell (World.block_lt_of_cell? w _ hw162_0)).trans hw162_0)) (fun hHeld => ?_)
                        clear hK K
                        refine norm_ (a' := ?_) ?_ ?_
                        rotate_left
                        · show Act.put _ (some 20) _ = _
                          simp only [Act.put, List.setIfInBounds_toArray, List.set_cons_zero, List.set_cons_succ, i64_w, i32_w]
                          rfl
                        refine one_ (i := 8) (N := some 21) #[true, true, true, true, true, true, true, true, true, false] rfl rfl (one_of HT_.out (by kernel_rfl)) (by decide) (fun K hK => ?_)
                        refine Kd.R_append_rows_step (Kd.int .u8) (w0 := w) w.heap.size (by rfl) (.tmp 16) (.tmp 20) 22 5 (.int .u8 0) 1 rfl Tryz.underlying22 info5 rfl (by decide) (by omega) v160 y159 t163 _ _ _ (fun k_ => some k_ ≠ (.slice Ao19 t163.length co19 : Value).ownBlock) (fun _ => False) rfl rfl ?aO ?aR (fun _ _ h => h) (fun _ h => h.elim) ?aF ?aB ?aS ?aL ?_
                        (case aR => repeat (first | exact (Kd.R_reads' HO165.out).2.2 | (with_reducible refine Kd.C_alloc ?_ _) | (with_reducible refine Kd.C_drewN ?_ _) | (with_reducible refine Kd.C_drew ?_)))
                        (case aB => exact pB)
                        (case aF => exact (fun k_ hk => Kd.fresh' (Kd.R_lt (pR HO165)) k_ hk))
                        (case aO => exact (by (with_reducible repeat (first | apply Kd.R_alloc | apply Kd.R_drewN | apply Kd.R_drew)); exact Kd.R_mono HO161.out (fun _ hk => hk.2)))
                        (case aS => exact (below_size pB))
                        (case aL => have := LMc7.out; omega)
                        intro v167 w18 ho hb hg hat
                        rw [← Ny166.out] at ho
                        have n0_ := Aside0.mk (Kd.R_after (ok := (fun _ => True)) (pR HO165) hg hat)
                        have n1_ := Aside0.mk (hb)
                        have n2_ := Aside0.mk (ho)
                        clear HO165
                        clear HB
                        clear HO161
                        have HO165 := n0_
                        have HB := n1_
                        have HO168 := n2_
                        clear n0_ n1_ n2_
                        clear ho hb hg hat
                        refine hK.out _ _ (((HB.out.cell (World.block_lt_of_cell? w _ hw162_0)).trans hw162_0)) (fun hHeld => ?_)
                        clear hK K
                        refine norm_ (a' := ?_) ?_ ?_
                        rotate_left
                        · show Act.put _ (some 21) _ = _
                          simp only [Act.put, List.setIfInBounds_toArray, List.set_cons_zero, List.set_cons_succ, i64_w, i32_w]
                          rfl
                        refine pure_ (i := 9) (N := some 3) (v := ?_) (a' := ?_) #[true, true, true, true, true, true, true, true, true, true] rfl rfl (any_of HT_.out (by kernel_rfl)) (fun _ _ _ h => h) (Or.inl ⟨by rfl, ?_⟩) ?_ ?_
                        rotate_left
                        · intro w'
                          go_simp
                          with_reducible rfl
                        rotate_left
                        · simp only [Act.put, List.setIfInBounds_toArray, List.set_cons_zero, List.set_cons_succ, i64_w, i32_w]
                          rfl
                        refine done_ (done_of HT_.out (by kernel_rfl)) ?_
                        obtain ⟨i020, hi020, _, hsz20, _⟩ := info_parts info61
                        obtain ⟨A20, hcut20, hA20, hC20⟩ := print_drop_of (P := Tryz.prog) (Value.int .u64) 0 27 61 .i64 Tryz.underlying27 hi020 hsz20 (some ad157) cq0 x0_1 1 (by omega) (of_decide_eq_true pA) HCq0.out
                        have HR169 := Aside0.mk (Kd.C_of_reads (h1 := fun _ => rfl) (hA20 _ (Kd.reads_of_C HRq0.out)))
                        have HC169 := Aside0.mk hC20
                        clear hA20 hC20 hi020 hsz20
                        (try simp only [List.length_drop, Int.reduceToNat] at hcut20)
                        try go_wp2_with (first | ((with_reducible refine gate_callee (f := 58) rfl ?_); refine goesL_ (some 28) rfl rfl Tryz.func58 (by kernel_rfl) rfl #[.slice A20 (x0_1.drop 1).length (cq0 - 1), .func (.func 59) #[] #[]] rfl (by (try simp only [List.map_toArray, List.map_cons, List.map_nil]); first | done | (rw [show (x0_1.drop 1).length = (x0_1.length - 1) from List.length_drop] <;> rfl) | rfl | (simp only [List.length_drop, List.length_take]; rfl)) ?_; (with_reducible refine (pack_run_with_pack_Words_1.calls k1 _ _ (x0_1.drop 1)  t170 _ ?side1 ?side2 A10.out).mono ?_); (case side1 => repeat (first | exact (Kd.C_below HR169.out HB.out) | (with_reducible refine Kd.C_alloc ?_ _) | (with_reducible refine Kd.C_drewN ?_ _) | (with_reducible refine Kd.C_drew ?_))); (case side2 => exact HC169.out); rintro e w' ⟨rfl, ⟨nd, rfl⟩⟩; refine ⟨_, rfl, ?_⟩) | ((with_reducible refine gate_builtin (b := .append) (xs := #[.tmp 29, .tmp 32]) rfl ?_); at_builtin; refine Kd.R_append (Kd.int .u8) (w0 := w) w.heap.size rfl (.tmp 29) (.tmp 32) 22 5 (.int .u8 0) 1 rfl Tryz.underlying22 info5 rfl (by decide) (by omega) v167 y166 ((t170) % 256) [.int .u8 ((t170) % 256)] (fun k_ => some k_ ≠ (.slice Ao19 t163.length co19 : Value).ownBlock) (fun _ => False) rfl rfl ?aP (fun _ hk => hk.elim) ?aF ?aO ?aB ?aS ?aL ?_; (case aP => exact rfl); (case aB => exact pB); (case aF => exact (fun k_ hk => Kd.fresh' (Kd.R_lt (pR HO165)) k_ hk)); (case aO => exact (pR HO168)); (case aS => exact (below_size pB)); (case aL => have := LMc11.out; omega); intro v172 w21 ho hb hg hat; rw [← Ny171.out] at ho; have n0_ := Aside0.mk (Kd.R_after (ok := (fun _ => True)) (pR HO165) hg hat); have n1_ := Aside0.mk (hb); have n2_ := Aside0.mk (ho); clear HO165; clear HB; clear HO168; have HO165 := n0_; have HB := n1_; have HO173 := n2_; clear n0_ n1_ n2_; clear ho hb hg hat; obtain ⟨i022, hi022, _, hsz22, _⟩ := info_parts info61; obtain ⟨A22, hcut22, hA22, hC22⟩ := print_drop_of (P := Tryz.prog) (Value.int .u64) 0 27 61 .i64 Tryz.underlying27 hi022 hsz22 A20 (cq0 - 1) (x0_1.drop 1) t170 (of_decide_eq_true pA) (of_decide_eq_true pA) HC169.out; have HR174 := Aside0.mk (Kd.C_of_reads (h1 := fun _ => rfl) (hA22 _ (Kd.reads_of_C HR169.out))); have HC174 := Aside0.mk hC22; clear hA22 hC22 hi022 hsz22; (try simp only [List.length_drop, Int.reduceToNat] at hcut22)))
                        go_roundg k1
                        case measure => have := HK1.out; omega
                        case rel => exact ⟨((x0_1.drop 1).drop (t170 : Int).toNat), (y171), _, _, (by first | rfl | (simp only [List.length_drop, List.length_take, Int.reduceToNat]; done) | (simp only [List.length_drop, List.length_take, Int.reduceToNat]; rfl) | (congr 1 <;> (first | rfl | (simp only [List.length_drop, List.length_take, Int.reduceToNat]; omega)))), HR174, HC174, H', ⟨by have := HK1.out; omega⟩, ⟨by (with_reducible repeat (first | apply Kd.R_alloc | apply Kd.R_drewN | apply Kd.R_drew)); exact Kd.R_mono HO173.out (fun _ hk => trivial)⟩, ⟨pB⟩⟩
                      · rw [if_neg c13] at H
                        exact absurd H (by simp)
                    · rw [if_neg c12] at H
                      exact absurd H (by simp)
                  · rw [if_neg c11] at H
                    exact absurd H (by simp)
                · rw [if_neg c9] at H
                  have c9b0 : (t158 == 0) = false := beq_eq_false_iff_ne.mpr c9
                  have c9b1 : (t158 != 0) = true := bne_iff_ne.mpr c9
                  by_cases c23 : t158 = 255
                  · rw [if_pos c23] at H
                    have c23b0 : (t158 == 255) = true := beq_iff_eq.mpr c23
                    have c23b1 : (t158 != 255) = false := bne_eq_false_iff_eq.mpr c23
                    clear c23
                    replace H := Option.bind_eq_some_iff.mp H
                    obtain ⟨t175, A240, H⟩ := H
                    replace H : (if y166.length < 140737488355328 then ((some (y166 ++ [(t175) % 256] : List Int)).bind fun y176 => (if 0 ≤ t175 then (if t175 ≤ ((x0_1.drop 1).length : Int) then ((word_Bytes.f k1 ((x0_1.drop 1).take (t175 : Int).toNat)).bind fun t180 => (if y176.length + t180.length < 140737488355328 then (pack_Words.l0 k1 ((x0_1.drop 1).drop (t175 : Int).toNat) (y176 ++ t180)) else (none))) else (none)) else (none))) else (none)) = some r := H
                    have A24 := Aside0.mk A240
                    clear A240
                    by_cases c25 : y166.length < 140737488355328
                    · rw [if_pos c25] at H
                      have LMc25 := Aside0.mk c25
                      clear c25
                      obtain ⟨y176, hy176⟩ : ∃ y_ : List Int, y_ = (y166 ++ [(t175) % 256]) := ⟨_, rfl⟩
                      replace H : (if 0 ≤ t175 then (if t175 ≤ ((x0_1.drop 1).length : Int) then ((word_Bytes.f k1 ((x0_1.drop 1).take (t175 : Int).toNat)).bind fun t180 => (if y176.length + t180.length < 140737488355328 then (pack_Words.l0 k1 ((x0_1.drop 1).drop (t175 : Int).toNat) (y176 ++ t180)) else (none))) else (none)) else (none)) = some r := by first | (rw [hy176]; with_reducible exact H) | (have H2_ := (Option.bind_some _ _).symm.trans H; rw [hy176]; with_reducible exact H2_) | (have H2_ := (Option.bind_some _ _).symm.trans H; with_reducible exact H2_) | with_reducible exact H | (rw [hy176]; exact H) | exact H
                      have Ny176 := Aside0.mk hy176
                      clear hy176
                      by_cases c26 : 0 ≤ t175
                      · rw [if_pos c26] at H
                        have c26b0 := eq_true c26
                        have c26b1 : decide (0 ≤ t175) = true := decide_eq_true c26
                        clear c26
                        by_cases c27 : t175 ≤ ((x0_1.drop 1).length : Int)
                        · rw [if_pos c27] at H
                          have c27b0 := eq_true c27
                          have c27b1 : decide (t175 ≤ ((x0_1.drop 1).length : Int)) = true := decide_eq_true c27
                          clear c27
                          replace H := Option.bind_eq_some_iff.mp H
                          obtain ⟨t180, A280, H⟩ := H
                          replace H : (if y176.length + t180.length < 140737488355328 then (pack_Words.l0 k1 ((x0_1.drop 1).drop (t175 : Int).toNat) (y176 ++ t180)) else (none)) = some r := H
                          have A28 := Aside0.mk A280
                          clear A280
                          by_cases c29 : y176.length + t180.length < 140737488355328
                          · rw [if_pos c29] at H
                            have LMc29 := Aside0.mk c29
                            clear c29
                            obtain ⟨y183, hy183⟩ : ∃ y_ : List Int, y_ = (y176 ++ t180) := ⟨_, rfl⟩
                            replace H : (pack_Words.l0 k1 ((x0_1.drop 1).drop (t175 : Int).toNat) y183) = some r := by first | (rw [hy183]; with_reducible exact H) | (have H2_ := (Option.bind_some _ _).symm.trans H; rw [hy183]; with_reducible exact H2_) | (have H2_ := (Option.bind_some _ _).symm.trans H; with_reducible exact H2_) | with_reducible exact H | (rw [hy183]; exact H) | exact H
                            have Ny183 := Aside0.mk hy183
                            clear hy183
                            have c30b0 := eq_true (of_decide_eq_true pA : 0 ≤ t175)
                            have c31b0 := eq_true (of_decide_eq_true pA : t175 ≤ ((x0_1.drop 1).length : Int))
                            have H' := Aside0.mk H
                            clear H
                            have p157 : 0 ≤ (0 : Int) := (by omega)
                            have q157 : 0 < (x0_1.length : Int) := of_decide_eq_true pA
                            obtain ⟨ad157, e157, hx157_0⟩ := Kd.at_int HRq0.out 0 p157 q157
                            cases e157
                            have qi157 : (0 < x0_1.length) = True := eq_true (by omega)
                            (try rw [show ((0 : Int)).toNat = 0 from rfl] at hx157_0)
                            (try rw [Addr.add_zero'] at hx157_0)
                            replace hx157_0 := (HB.out.cell (World.block_lt_of_cell? w _ hx157_0)).trans hx157_0
                            replace p157 := eq_true p157
                            replace q157 := eq_true q157
                            try go_wp2_with (first | ((with_reducible refine gate_callee (f := 56) rfl ?_); refine goesL_ (some 12) rfl rfl Tryz.func56 (by kernel_rfl) rfl #[.int .u64 (rd x0_1 0)] rfl pM ?_; (with_reducible refine (tagbyte_Of.calls k1 (rd x0_1 0) t158 _ A4.out).mono ?_); rintro e w32 ⟨rfl, hb⟩; refine ⟨_, rfl, ?_⟩; have n0_ := Aside0.mk (Kd.R_below (pR HO_3) hb); have n1_ := Aside0.mk (below_step pB hb); clear HO_3; clear HB; have HO_3 := n0_; have HB := n1_; clear n0_ n1_; (try clear hb); (try clear hb2); (try clear hk); (try clear hi)))
                            have n0_ := Aside0.mk (Kd.R_drew HO_3.out)
                            have n1_ := Aside0.mk (below_drew1 HB.out)
                            clear HO_3
                            clear HB
                            have HO_3 := n0_
                            have HB := n1_
                            clear n0_ n1_
                            have p162 : 0 ≤ (0 : Int) := (by omega)
                            have q162 : 0 < (x0_1.length : Int) := of_decide_eq_true pA
                            obtain ⟨ad162, e162, hx162_0⟩ := Kd.at_int HRq0.out 0 p162 q162
                            have hw162_0 := hx162_0
                            (try rw [show ((0 : Int)).toNat = 0 from rfl] at hw162_0)
                            (try rw [show 0 * 1 = 0 from rfl] at hw162_0)
                            (try rw [Addr.add_zero'] at hw162_0)
                            obtain rfl : ad157 = ad162 := (by injection e162)
                            have qi162 : (0 < x0_1.length) = True := eq_true (by omega)
                            (try rw [show ((0 : Int)).toNat = 0 from rfl] at hx162_0)
                            (try rw [Addr.add_zero'] at hx162_0)
                            replace hx162_0 := (HB.out.cell (World.block_lt_of_cell? w _ hx162_0)).trans hx162_0
                            replace p162 := eq_true p162
                            replace q162 := eq_true q162
                            refine start_ (n := 10) (S := fun w' => w'.cell? ad157 = some (.int .u64 (rd x0_1 0))) (ds := []) #[false, false, false, false, false, false, false, false, false, false] (by kernel_rfl) rfl rfl (((HB.out.cell (World.block_lt_of_cell? w _ hw162_0)).trans hw162_0)) (fun hHeld => ?_); refine with_tabW pack_Words.tab4 pack_Words.bits4 (fun HT_ HW_ => ?_)
                            generalize w32.drew = w33 at HO_3 HB hx162_0 hHeld ⊢
                            refine pure_ (i := 0) (N := some 13) (v := ?_) (a' := ?_) #[true, false, false, false, false, false, false, false, false, false] rfl rfl (any_of HT_.out (by kernel_rfl)) (fun _ _ _ h => h) (Or.inl ⟨by rfl, ?_⟩) ?_ ?_
                            rotate_left
                            · intro w'
                              go_simp
                              with_reducible rfl
                            rotate_left
                            · simp only [Act.put, List.setIfInBounds_toArray, List.set_cons_zero, List.set_cons_succ, i64_w, i32_w]
                              rfl
                            refine pure_ (i := 1) (N := some 14) (v := ?_) (a' := ?_) #[true, true, false, false, false, false, false, false, false, false] rfl rfl (any_of HT_.out (by kernel_rfl)) (fun _ _ _ h => h) (Or.inl ⟨by rfl, ?_⟩) ?_ ?_
                            rotate_left
                            · intro w'
                              go_simp
                              with_reducible rfl
                            rotate_left
                            · simp only [Act.put, List.setIfInBounds_toArray, List.set_cons_zero, List.set_cons_succ, i64_w, i32_w]
                              rfl
                            refine pure_ (i := 4) (N := some 17) (v := ?_) (a' := ?_) #[true, true, false, false, true, false, false, false, false, false] rfl rfl (any_of HT_.out (by kernel_rfl)) (fun _ _ _ h => h) (Or.inl ⟨by rfl, ?_⟩) ?_ ?_
                            rotate_left
                            · intro w'
                              go_simp
                              with_reducible rfl
                            rotate_left
                            · simp only [Act.put, List.setIfInBounds_toArray, List.set_cons_zero, List.set_cons_succ, i64_w, i32_w]
                              rfl
                            refine pure_ (i := 5) (N := some 18) (v := ?_) (a' := ?_) #[true, true, false, false, true, true, false, false, false, false] rfl rfl (any_of HT_.out (by kernel_rfl)) (fun _ _ _ h => h) (Or.inl ⟨by rfl, ?_⟩) ?_ ?_
                            rotate_left
                            · intro w'
                              go_simp
                              with_reducible rfl
                            rotate_left
                            · simp only [Act.put, List.setIfInBounds_toArray, List.set_cons_zero, List.set_cons_succ, i64_w, i32_w]
                              rfl
                            refine take_ (i := 6) (N := some 19) (v := ?_) (a' := ?_) #[true, true, false, false, true, true, true, false, false, false] rfl rfl (take_ofW HT_.out HW_.out (by kernel_rfl)) (fun _ _ _ h => h) (Or.inl ⟨by rfl, ?_⟩) hHeld ?_ ?_
                            rotate_left
                            · intro w' s0
                              go_simp
                              with_reducible rfl
                            rotate_left
                            · simp only [Act.put, List.setIfInBounds_toArray, List.set_cons_zero, List.set_cons_succ, i64_w, i32_w]
                              rfl
                            refine one_ (i := 2) (N := some 15) #[true, true, true, false, true, true, true, false, false, false] rfl rfl (one_of HT_.out (by kernel_rfl)) (by decide) (fun K hK => ?_)
                            refine value_ (w1 := ?_) (v := ?_) (by rfl) rfl ?_ ?_
                            rotate_left 2
                            · go_simp
                              constructor
                              · rfl
                              · rfl
                            refine hK.out _ _ ((World.cell?_alloc_lt _ _ _ (World.block_lt_of_cell? _ _ (((HB.out.cell (World.block_lt_of_cell? w _ hw162_0)).trans hw162_0)))).trans (((HB.out.cell (World.block_lt_of_cell? w _ hw162_0)).trans hw162_0))) (fun hHeld => ?_)
                            clear hK K
                            refine norm_ (a' := ?_) ?_ ?_
                            rotate_left
                            · show Act.put _ (some 15) _ = _
                              simp only [Act.put, List.setIfInBounds_toArray, List.set_cons_zero, List.set_cons_succ, i64_w, i32_w]
                              rfl
                            refine one_ (i := 3) (N := some 16) #[true, true, true, true, true, true, true, false, false, false] rfl rfl (one_of HT_.out (by kernel_rfl)) (by decide) (fun K hK => ?_)
                            refine Kd.R_append_step (Kd.int .u8) (w0 := w) w.heap.size (by rfl) (.tmp 13) (.tmp 15) 22 5 (.int .u8 0) 1 rfl Tryz.underlying22 info5 rfl (by decide) (by omega) u3 x3_1 t158 [.int .u8 t158] (fun _ => True) (fun _ => False) rfl rfl ?aP (fun _ hk => hk.elim) ?aF ?aO ?aB ?aS ?aL ?_
                            (case aP => exact rfl)
                            (case aB => exact pB)
                            (case aF => exact (fun _ _ => trivial))
                            (case aO => exact (pR HO_3))
                            (case aS => exact (below_size pB))
                            (case aL => have := LMc5.out; omega)
                            intro v160 w34 ho hb hg hat
                            rw [← Ny159.out] at ho
                            have n0_ := Aside0.mk (hb)
                            have n1_ := Aside0.mk (ho)
                            clear HB
                            clear HO_3
                            have HB := n0_
                            have HO161 := n1_
                            clear n0_ n1_
                            clear ho hb hg hat
                            refine hK.out _ _ (((HB.out.cell (World.block_lt_of_cell? w _ hw162_0)).trans hw162_0)) (fun hHeld => ?_)
                            clear hK K
                            refine norm_ (a' := ?_) ?_ ?_
                            rotate_left
                            · show Act.put _ (some 16) _ = _
                              simp only [Act.put, List.setIfInBounds_toArray, List.set_cons_zero, List.set_cons_succ, i64_w, i32_w]
                              rfl
                            refine one_ (i := 7) (N := some 20) #[true, true, true, true, true, true, true, true, false, false] rfl rfl (one_of HT_.out (by kernel_rfl)) (by decide) (fun K hK => ?_)
                            refine goes_ Tryz.func57 (by kernel_rfl) rfl #[.int .u64 (rd x0_1 0)] (by rfl) rfl rfl pM ?_
                            with_reducible refine (tagbyte_Bytes.calls k1 (rd x0_1 0) t163 _ A6.out).mono ?_
                            rintro e w35 ⟨v164, rfl, ho0, hb⟩
                            refine ⟨_, rfl, ?_⟩
                            have n0_ := Aside0.mk (Kd.R_elder' (pR HO161) (Kd.R_base ho0) hb)
                            have n1_ := Aside0.mk (Kd.R_lower (Kd.R_new' ho0 (Kd.R_lt (pR HO161))) (below_size pB))
                            have n2_ := Aside0.mk (below_step pB hb)
                            clear HO161
                            clear HB
                            have HO161 := n0_
                            have HO165 := n1_
                            have HB := n2_
                            clear n0_ n1_ n2_
                            (try clear hb)
                            (try clear hb2)
                            (try clear hk)
                            (try clear hi)
                            (try clear ho0)
                            obtain ⟨Ao37, co37, eo37⟩ := Kd.R_slice HO165.out
                            (first | subst eo37 | (injection eo37 with f1_ f2_ f3_; have f4_ := f1_.symm; have f5_ := f3_.symm; clear f1_ f2_ f3_; subst f4_; subst f5_))
                            refine hK.out _ _ (((HB.out.cell (World.block_lt_of_cell? w _ hw162_0)).trans hw162_0)) (fun hHeld => ?_)
                            clear hK K
                            refine norm_ (a' := ?_) ?_ ?_
                            rotate_left
                            · show Act.put _ (some 20) _ = _
                              simp only [Act.put, List.setIfInBounds_toArray, List.set_cons_zero, List.set_cons_succ, i64_w, i32_w]
                              rfl
                            refine one_ (i := 8) (N := some 21) #[true, true, true, true, true, true, true, true, true, false] rfl rfl (one_of HT_.out (by kernel_rfl)) (by decide) (fun K hK => ?_)
                            refine Kd.R_append_rows_step (Kd.int .u8) (w0 := w) w.heap.size (by rfl) (.tmp 16) (.tmp 20) 22 5 (.int .u8 0) 1 rfl Tryz.underlying22 info5 rfl (by decide) (by omega) v160 y159 t163 _ _ _ (fun k_ => some k_ ≠ (.slice Ao37 t163.length co37 : Value).ownBlock) (fun _ => False) rfl rfl ?aO ?aR (fun _ _ h => h) (fun _ h => h.elim) ?aF ?aB ?aS ?aL ?_
                            (case aR => repeat (first | exact (Kd.R_reads' HO165.out).2.2 | (with_reducible refine Kd.C_alloc ?_ _) | (with_reducible refine Kd.C_drewN ?_ _) | (with_reducible refine Kd.C_drew ?_)))
                            (case aB => exact pB)
                            (case aF => exact (fun k_ hk => Kd.fresh' (Kd.R_lt (pR HO165)) k_ hk))
                            (case aO => exact (by (with_reducible repeat (first | apply Kd.R_alloc | apply Kd.R_drewN | apply Kd.R_drew)); exact Kd.R_mono HO161.out (fun _ hk => hk.2)))
                            (case aS => exact (below_size pB))
                            (case aL => have := LMc7.out; omega)
                            intro v167 w36 ho hb hg hat
                            rw [← Ny166.out] at ho
                            have n0_ := Aside0.mk (Kd.R_after (ok := (fun _ => True)) (pR HO165) hg hat)
                            have n1_ := Aside0.mk (hb)
                            have n2_ := Aside0.mk (ho)
                            clear HO165
                            clear HB
                            clear HO161
                            have HO165 := n0_
                            have HB := n1_
                            have HO168 := n2_
                            clear n0_ n1_ n2_
                            clear ho hb hg hat
                            refine hK.out _ _ (((HB.out.cell (World.block_lt_of_cell? w _ hw162_0)).trans hw162_0)) (fun hHeld => ?_)
                            clear hK K
                            refine norm_ (a' := ?_) ?_ ?_
                            rotate_left
                            · show Act.put _ (some 21) _ = _
                              simp only [Act.put, List.setIfInBounds_toArray, List.set_cons_zero, List.set_cons_succ, i64_w, i32_w]
                              rfl
                            refine pure_ (i := 9) (N := some 3) (v := ?_) (a' := ?_) #[true, true, true, true, true, true, true, true, true, true] rfl rfl (any_of HT_.out (by kernel_rfl)) (fun _ _ _ h => h) (Or.inl ⟨by rfl, ?_⟩) ?_ ?_
                            rotate_left
                            · intro w'
                              go_simp
                              with_reducible rfl
                            rotate_left
                            · simp only [Act.put, List.setIfInBounds_toArray, List.set_cons_zero, List.set_cons_succ, i64_w, i32_w]
                              rfl
                            refine done_ (done_of HT_.out (by kernel_rfl)) ?_
                            obtain ⟨i038, hi038, _, hsz38, _⟩ := info_parts info61
                            obtain ⟨A38, hcut38, hA38, hC38⟩ := print_drop_of (P := Tryz.prog) (Value.int .u64) 0 27 61 .i64 Tryz.underlying27 hi038 hsz38 (some ad157) cq0 x0_1 1 (by omega) (of_decide_eq_true pA) HCq0.out
                            have HR169 := Aside0.mk (Kd.C_of_reads (h1 := fun _ => rfl) (hA38 _ (Kd.reads_of_C HRq0.out)))
                            have HC169 := Aside0.mk hC38
                            clear hA38 hC38 hi038 hsz38
                            (try simp only [List.length_drop, Int.reduceToNat] at hcut38)
                            try go_wp2_with (first | ((with_reducible refine gate_callee (f := 58) rfl ?_); refine goesL_ (some 37) rfl rfl Tryz.func58 (by kernel_rfl) rfl #[.slice A38 (x0_1.drop 1).length (cq0 - 1), .func (.func 60) #[] #[]] rfl (by (try simp only [List.map_toArray, List.map_cons, List.map_nil]); first | done | (rw [show (x0_1.drop 1).length = (x0_1.length - 1) from List.length_drop] <;> rfl) | rfl | (simp only [List.length_drop, List.length_take]; rfl)) ?_; (with_reducible refine (pack_run_with_tagbyte_Dense.calls k1 _ _ (x0_1.drop 1)  t175 _ ?side1 ?side2 A24.out).mono ?_); (case side1 => repeat (first | exact (Kd.C_below HR169.out HB.out) | (with_reducible refine Kd.C_alloc ?_ _) | (with_reducible refine Kd.C_drewN ?_ _) | (with_reducible refine Kd.C_drew ?_))); (case side2 => exact HC169.out); rintro e w39 ⟨rfl, hb⟩; refine ⟨_, rfl, ?_⟩; have n0_ := Aside0.mk (Kd.R_below (pR HO165) hb); have n1_ := Aside0.mk (Kd.R_below (pR HO168) hb); have n2_ := Aside0.mk (below_step pB hb); clear HO165; clear HO168; clear HB; have HO165 := n0_; have HO168 := n1_; have HB := n2_; clear n0_ n1_ n2_; (try clear hb); (try clear hb2); (try clear hk); (try clear hi)))
                            have n0_ := Aside0.mk (Kd.R_drew HO165.out)
                            have n1_ := Aside0.mk (Kd.R_drew HO168.out)
                            have n2_ := Aside0.mk (below_drew1 HB.out)
                            clear HO165
                            clear HO168
                            clear HB
                            have HO165 := n0_
                            have HO168 := n1_
                            have HB := n2_
                            clear n0_ n1_ n2_
                            obtain ⟨i041, hi041, _, hsz41, _⟩ := info_parts info61
                            obtain ⟨hcut41, hA41, hC41⟩ := print_take_of (P := Tryz.prog) (Value.int .u64) 0 27 61 .i64 Tryz.underlying27 hi041 hsz41 A38 (cq0 - 1) (x0_1.drop 1) t175 (of_decide_eq_true pA) (of_decide_eq_true pA) HC169.out
                            have HR179 := Aside0.mk (Kd.C_of_reads (h1 := fun _ => rfl) (hA41 _ (Kd.reads_of_C HR169.out)))
                            have HC179 := Aside0.mk hC41
                            clear hA41 hC41 hi041 hsz41
                            (try simp only [List.length_drop, Int.reduceToNat] at hcut41)
                            refine start_ (n := 11) (S := fun w' => True) (ds := []) #[false, false, false, false, false, false, false, false, false, false, false] (by kernel_rfl) rfl rfl trivial (fun hHeld => ?_); refine with_tabW pack_Words.tab13 pack_Words.bits13 (fun HT_ HW_ => ?_)
                            generalize w39.drew = w40 at HO165 HO168 HB HR179 hHeld ⊢
                            refine pure_ (i := 0) (N := some 38) (v := ?_) (a' := ?_) #[true, false, false, false, false, false, false, false, false, false, false] rfl rfl (any_of HT_.out (by kernel_rfl)) (fun _ _ _ h => h) (Or.inl ⟨by rfl, ?_⟩) ?_ ?_
                            rotate_left
                            · intro w'
                              go_simp
                              with_reducible rfl
                            rotate_left
                            · simp only [Act.put, List.setIfInBounds_toArray, List.set_cons_zero, List.set_cons_succ, i64_w, i32_w]
                              rfl
                            refine pure_ (i := 1) (N := some 39) (v := ?_) (a' := ?_) #[true, true, false, false, false, false, false, false, false, false, false] rfl rfl (any_of HT_.out (by kernel_rfl)) (fun _ _ _ h => h) (Or.inl ⟨by rfl, ?_⟩) ?_ ?_
                            rotate_left
                            · intro w'
                              go_simp
                              with_reducible rfl
                            rotate_left
                            · simp only [Act.put, List.setIfInBounds_toArray, List.set_cons_zero, List.set_cons_succ, i64_w, i32_w]
                              rfl
                            refine pure_ (i := 2) (N := some 40) (v := ?_) (a' := ?_) #[true, true, true, false, false, false, false, false, false, false, false] rfl rfl (any_of HT_.out (by kernel_rfl)) (fun _ _ _ h => h) (Or.inl ⟨by rfl, ?_⟩) ?_ ?_
                            rotate_left
                            · intro w'
                              go_simp
                              with_reducible rfl
                            rotate_left
                            · simp only [Act.put, List.setIfInBounds_toArray, List.set_cons_zero, List.set_cons_succ, i64_w, i32_w]
                              rfl
                            refine pure_ (i := 5) (N := some 43) (v := ?_) (a' := ?_) #[true, true, true, false, false, true, false, false, false, false, false] rfl rfl (any_of HT_.out (by kernel_rfl)) (fun _ _ _ h => h) (Or.inl ⟨by rfl, ?_⟩) ?_ ?_
                            rotate_left
                            · intro w'
                              go_simp
                              with_reducible rfl
                            rotate_left
                            · simp only [Act.put, List.setIfInBounds_toArray, List.set_cons_zero, List.set_cons_succ, i64_w, i32_w]
                              rfl
                            refine pure_ (i := 6) (N := some 44) (v := ?_) (a' := ?_) #[true, true, true, false, false, true, true, false, false, false, false] rfl rfl (any_of HT_.out (by kernel_rfl)) (fun _ _ _ h => h) (Or.inl ⟨by rfl, ?_⟩) ?_ ?_
                            rotate_left
                            · intro w'
                              go_simp
                              with_reducible rfl
                            rotate_left
                            · simp only [Act.put, List.setIfInBounds_toArray, List.set_cons_zero, List.set_cons_succ, i64_w, i32_w]
                              rfl
                            refine pure_ (i := 7) (N := some 45) (v := ?_) (a' := ?_) #[true, true, true, false, false, true, true, true, false, false, false] rfl rfl (any_of HT_.out (by kernel_rfl)) (fun _ _ _ h => h) (Or.inl ⟨by rfl, ?_⟩) ?_ ?_
                            rotate_left
                            · intro w'
                              go_simp
                              with_reducible rfl
                            rotate_left
                            · simp only [Act.put, List.setIfInBounds_toArray, List.set_cons_zero, List.set_cons_succ, i64_w, i32_w]
                              rfl
                            refine one_ (i := 3) (N := some 41) #[true, true, true, true, false, true, true, true, false, false, false] rfl rfl (one_of HT_.out (by kernel_rfl)) (by decide) (fun K hK => ?_)
                            refine value_ (w1 := ?_) (v := ?_) (by rfl) rfl ?_ ?_
                            rotate_left 2
                            · go_simp
                              constructor
                              · rfl
                              · rfl
                            refine hK.out _ _ trivial (fun hHeld => ?_)
                            clear hK K
                            refine norm_ (a' := ?_) ?_ ?_
                            rotate_left
                            · show Act.put _ (some 41) _ = _
                              simp only [Act.put, List.setIfInBounds_toArray, List.set_cons_zero, List.set_cons_succ, i64_w, i32_w]
                              rfl
                            refine one_ (i := 4) (N := some 42) #[true, true, true, true, true, true, true, true, false, false, false] rfl rfl (one_of HT_.out (by kernel_rfl)) (by decide) (fun K hK => ?_)
                            refine Kd.R_append_step (Kd.int .u8) (w0 := w) w.heap.size (by rfl) (.tmp 38) (.tmp 41) 22 5 (.int .u8 0) 1 rfl Tryz.underlying22 info5 rfl (by decide) (by omega) v167 y166 ((t175) % 256) [.int .u8 ((t175) % 256)] (fun k_ => some k_ ≠ (.slice Ao37 t163.length co37 : Value).ownBlock) (fun _ => False) rfl rfl ?aP (fun _ hk => hk.elim) ?aF ?aO ?aB ?aS ?aL ?_
                            (case aP => exact rfl)
                            (case aB => exact pB)
                            (case aF => exact (fun k_ hk => Kd.fresh' (Kd.R_lt (pR HO165)) k_ hk))
                            (case aO => exact (pR HO168))
                            (case aS => exact (below_size pB))
                            (case aL => have := LMc25.out; omega)
                            intro v177 w42 ho hb hg hat
                            rw [← Ny176.out] at ho
                            have n0_ := Aside0.mk (Kd.R_after (ok := (fun _ => True)) (pR HO165) hg hat)
                            have n1_ := Aside0.mk (hb)
                            have n2_ := Aside0.mk (ho)
                            clear HO165
                            clear HB
                            clear HO168
                            have HO165 := n0_
                            have HB := n1_
                            have HO178 := n2_
                            clear n0_ n1_ n2_
                            clear ho hb hg hat
                            refine hK.out _ _ trivial (fun hHeld => ?_)
                            clear hK K
                            refine norm_ (a' := ?_) ?_ ?_
                            rotate_left
                            · show Act.put _ (some 42) _ = _
                              simp only [Act.put, List.setIfInBounds_toArray, List.set_cons_zero, List.set_cons_succ, i64_w, i32_w]
                              rfl
                            refine one_ (i := 8) (N := some 46) #[true, true, true, true, true, true, true, true, true, false, false] rfl rfl (one_of HT_.out (by kernel_rfl)) (by decide) (fun K hK => ?_)
                            refine goes_ Tryz.func34 (by kernel_rfl) rfl #[.slice A38 ((x0_1.drop 1).take (t175 : Int).toNat).length (cq0 - 1)] (by rfl) rfl rfl (by (try simp only [List.map_toArray, List.map_cons, List.map_nil]); first | done | (rw [show ((x0_1.drop 1).take (t175 : Int).toNat).length = t175.toNat from (by rw [List.length_take]; have h_ : (t175 : Int) ≤ ((x0_1.drop 1).length : Int) := of_decide_eq_true pA; omega)] <;> rfl) | rfl | (simp only [List.length_drop, List.length_take]; rfl)) ?_
                            with_reducible refine (word_Bytes.calls k1 _ _ ((x0_1.drop 1).take (t175 : Int).toNat) t180 _ ?side1 ?side2 A28.out).mono ?_
                            (case side1 => repeat (first | exact (Kd.C_below HR179.out HB.out) | (with_reducible refine Kd.C_alloc ?_ _) | (with_reducible refine Kd.C_drewN ?_ _) | (with_reducible refine Kd.C_drew ?_)))
                            (case side2 => exact HC179.out)
                            rintro e w43 ⟨v181, rfl, ho0, hb⟩
                            refine ⟨_, rfl, ?_⟩
                            have n0_ := Aside0.mk (Kd.R_elder' (pR HO165) (Kd.R_base ho0) hb)
                            have n1_ := Aside0.mk (Kd.R_elder' (pR HO178) (Kd.R_base ho0) hb)
                            have n2_ := Aside0.mk (Kd.R_lower (Kd.R_new' (Kd.R_new' ho0 (Kd.R_lt (pR HO165))) (Kd.R_lt (pR HO178))) (below_size pB))
                            have n3_ := Aside0.mk (below_step pB hb)
                            clear HO165
                            clear HO178
                            clear HB
                            have HO165 := n0_
                            have HO178 := n1_
                            have HO182 := n2_
                            have HB := n3_
                            clear n0_ n1_ n2_ n3_
                            (try clear hb)
                            (try clear hb2)
                            (try clear hk)
                            (try clear hi)
                            (try clear ho0)
                            obtain ⟨Ao45, co45, eo45⟩ := Kd.R_slice HO182.out
                            (first | subst eo45 | (injection eo45 with f1_ f2_ f3_; have f4_ := f1_.symm; have f5_ := f3_.symm; clear f1_ f2_ f3_; subst f4_; subst f5_))
                            refine hK.out _ _ trivial (fun hHeld => ?_)
                            clear hK K
                            refine norm_ (a' := ?_) ?_ ?_
                            rotate_left
                            · show Act.put _ (some 46) _ = _
                              simp only [Act.put, List.setIfInBounds_toArray, List.set_cons_zero, List.set_cons_succ, i64_w, i32_w]
                              rfl
                            refine one_ (i := 9) (N := some 47) #[true, true, true, true, true, true, true, true, true, true, false] rfl rfl (one_of HT_.out (by kernel_rfl)) (by decide) (fun K hK => ?_)
                            refine Kd.R_append_rows_step (Kd.int .u8) (w0 := w) w.heap.size (by rfl) (.tmp 42) (.tmp 46) 22 5 (.int .u8 0) 1 rfl Tryz.underlying22 info5 rfl (by decide) (by omega) v177 y176 t180 _ _ _ (fun k_ => some k_ ≠ (.slice Ao37 t163.length co37 : Value).ownBlock ∧ some k_ ≠ (.slice Ao45 t180.length co45 : Value).ownBlock) (fun _ => False) rfl rfl ?aO ?aR (fun _ _ h => h) (fun _ h => h.elim) ?aF ?aB ?aS ?aL ?_
                            (case aR => repeat (first | exact (Kd.R_reads' HO182.out).2.2 | (with_reducible refine Kd.C_alloc ?_ _) | (with_reducible refine Kd.C_drewN ?_ _) | (with_reducible refine Kd.C_drew ?_)))
                            (case aB => exact pB)
                            (case aF => exact (fun k_ hk => ⟨Kd.fresh' (Kd.R_lt (pR HO165)) k_ hk, Kd.fresh' (Kd.R_lt (pR HO182)) k_ hk⟩))
                            (case aO => exact (pR HO178))
                            (case aS => exact (below_size pB))
                            (case aL => have := LMc29.out; omega)
                            intro v184 w44 ho hb hg hat
                            rw [← Ny183.out] at ho
                            have n0_ := Aside0.mk (Kd.R_after (ok := (fun k_ => some k_ ≠ (.slice Ao45 t180.length co45 : Value).ownBlock)) (by (with_reducible repeat (first | apply Kd.R_alloc | apply Kd.R_drewN | apply Kd.R_drew)); exact Kd.R_mono HO165.out (fun _ hk => ⟨hk.2, hk.1.2⟩)) hg hat)
                            have n1_ := Aside0.mk (Kd.R_after (ok := (fun k_ => some k_ ≠ (.slice Ao37 t163.length co37 : Value).ownBlock)) (by (with_reducible repeat (first | apply Kd.R_alloc | apply Kd.R_drewN | apply Kd.R_drew)); exact Kd.R_mono HO182.out (fun _ hk => ⟨hk.1.2, hk.2⟩)) hg hat)
                            have n2_ := Aside0.mk (hb)
                            have n3_ := Aside0.mk (ho)
                            clear HO165
                            clear HO182
                            clear HB
                            clear HO178
                            have HO165 := n0_
                            have HO182 := n1_
                            have HB := n2_
                            have HO185 := n3_
                            clear n0_ n1_ n2_ n3_
                            clear ho hb hg hat
                            refine hK.out _ _ trivial (fun hHeld => ?_)
                            clear hK K
                            refine norm_ (a' := ?_) ?_ ?_
                            rotate_left
                            · show Act.put _ (some 47) _ = _
                              simp only [Act.put, List.setIfInBounds_toArray, List.set_cons_zero, List.set_cons_succ, i64_w, i32_w]
                              rfl
                            refine pure_ (i := 10) (N := some 3) (v := ?_) (a' := ?_) #[true, true, true, true, true, true, true, true, true, true, true] rfl rfl (any_of HT_.out (by kernel_rfl)) (fun _ _ _ h => h) (Or.inl ⟨by rfl, ?_⟩) ?_ ?_
                            rotate_left
                            · intro w'
                              go_simp
                              with_reducible rfl
                            rotate_left
                            · simp only [Act.put, List.setIfInBounds_toArray, List.set_cons_zero, List.set_cons_succ, i64_w, i32_w]
                              rfl
                            refine done_ (done_of HT_.out (by kernel_rfl)) ?_
                            obtain ⟨i046, hi046, _, hsz46, _⟩ := info_parts info61
                            obtain ⟨A46, hcut46, hA46, hC46⟩ := print_drop_of (P := Tryz.prog) (Value.int .u64) 0 27 61 .i64 Tryz.underlying27 hi046 hsz46 A38 (cq0 - 1) (x0_1.drop 1) t175 (of_decide_eq_true pA) (of_decide_eq_true pA) HC169.out
                            have HR186 := Aside0.mk (Kd.C_of_reads (h1 := fun _ => rfl) (hA46 _ (Kd.reads_of_C HR169.out)))
                            have HC186 := Aside0.mk hC46
                            clear hA46 hC46 hi046 hsz46
                            (try simp only [List.length_drop, Int.reduceToNat] at hcut46)
                            try go_wp2
                            go_roundg k1
                            case measure => have := HK1.out; omega
                            case rel => exact ⟨((x0_1.drop 1).drop (t175 : Int).toNat), (y183), _, _, (by first | rfl | (simp only [List.length_drop, List.length_take, Int.reduceToNat]; done) | (simp only [List.length_drop, List.length_take, Int.reduceToNat]; rfl) | (congr 1 <;> (first | rfl | (simp only [List.length_drop, List.length_take, Int.reduceToNat]; omega)))), HR186, HC186, H', ⟨by have := HK1.out; omega⟩, ⟨by (with_reducible repeat (first | apply Kd.R_alloc | apply Kd.R_drewN | apply Kd.R_drew)); exact Kd.R_mono HO185.out (fun _ hk => trivial)⟩, ⟨pB⟩⟩
                          · rw [if_neg c29] at H
                            exact absurd H (by simp)
                        · rw [if_neg c27] at H
                          exact absurd H (by simp)
                      · rw [if_neg c26] at H
                        exact absurd H (by simp)
                    · rw [if_neg c25] at H
                      exact absurd H (by simp)
                  · rw [if_neg c23] at H
                    have c23b0 : (t158 == 255) = false := beq_eq_false_iff_ne.mpr c23
                    have c23b1 : (t158 != 255) = true := bne_iff_ne.mpr c23
                    have H' := Aside0.mk H
                    clear H
                    have p157 : 0 ≤ (0 : Int) := (by omega)
                    have q157 : 0 < (x0_1.length : Int) := of_decide_eq_true pA
                    obtain ⟨ad157, e157, hx157_0⟩ := Kd.at_int HRq0.out 0 p157 q157
                    cases e157
                    have qi157 : (0 < x0_1.length) = True := eq_true (by omega)
                    (try rw [show ((0 : Int)).toNat = 0 from rfl] at hx157_0)
                    (try rw [Addr.add_zero'] at hx157_0)
                    replace hx157_0 := (HB.out.cell (World.block_lt_of_cell? w _ hx157_0)).trans hx157_0
                    replace p157 := eq_true p157
                    replace q157 := eq_true q157
                    try go_wp2_with (first | ((with_reducible refine gate_callee (f := 56) rfl ?_); refine goesL_ (some 12) rfl rfl Tryz.func56 (by kernel_rfl) rfl #[.int .u64 (rd x0_1 0)] rfl pM ?_; (with_reducible refine (tagbyte_Of.calls k1 (rd x0_1 0) t158 _ A4.out).mono ?_); rintro e w47 ⟨rfl, hb⟩; refine ⟨_, rfl, ?_⟩; have n0_ := Aside0.mk (Kd.R_below (pR HO_3) hb); have n1_ := Aside0.mk (below_step pB hb); clear HO_3; clear HB; have HO_3 := n0_; have HB := n1_; clear n0_ n1_; (try clear hb); (try clear hb2); (try clear hk); (try clear hi)))
                    have n0_ := Aside0.mk (Kd.R_drew HO_3.out)
                    have n1_ := Aside0.mk (below_drew1 HB.out)
                    clear HO_3
                    clear HB
                    have HO_3 := n0_
                    have HB := n1_
                    clear n0_ n1_
                    have p162 : 0 ≤ (0 : Int) := (by omega)
                    have q162 : 0 < (x0_1.length : Int) := of_decide_eq_true pA
                    obtain ⟨ad162, e162, hx162_0⟩ := Kd.at_int HRq0.out 0 p162 q162
                    have hw162_0 := hx162_0
                    (try rw [show ((0 : Int)).toNat = 0 from rfl] at hw162_0)
                    (try rw [show 0 * 1 = 0 from rfl] at hw162_0)
                    (try rw [Addr.add_zero'] at hw162_0)
                    obtain rfl : ad157 = ad162 := (by injection e162)
                    have qi162 : (0 < x0_1.length) = True := eq_true (by omega)
                    (try rw [show ((0 : Int)).toNat = 0 from rfl] at hx162_0)
                    (try rw [Addr.add_zero'] at hx162_0)
                    replace hx162_0 := (HB.out.cell (World.block_lt_of_cell? w _ hx162_0)).trans hx162_0
                    replace p162 := eq_true p162
                    replace q162 := eq_true q162
                    refine start_ (n := 10) (S := fun w' => w'.cell? ad157 = some (.int .u64 (rd x0_1 0))) (ds := []) #[false, false, false, false, false, false, false, false, false, false] (by kernel_rfl) rfl rfl (((HB.out.cell (World.block_lt_of_cell? w _ hw162_0)).trans hw162_0)) (fun hHeld => ?_); refine with_tabW pack_Words.tab4 pack_Words.bits4 (fun HT_ HW_ => ?_)
                    generalize w47.drew = w48 at HO_3 HB hx162_0 hHeld ⊢
                    refine pure_ (i := 0) (N := some 13) (v := ?_) (a' := ?_) #[true, false, false, false, false, false, false, false, false, false] rfl rfl (any_of HT_.out (by kernel_rfl)) (fun _ _ _ h => h) (Or.inl ⟨by rfl, ?_⟩) ?_ ?_
                    rotate_left
                    · intro w'
                      go_simp
                      with_reducible rfl
                    rotate_left
                    · simp only [Act.put, List.setIfInBounds_toArray, List.set_cons_zero, List.set_cons_succ, i64_w, i32_w]
                      rfl
                    refine pure_ (i := 1) (N := some 14) (v := ?_) (a' := ?_) #[true, true, false, false, false, false, false, false, false, false] rfl rfl (any_of HT_.out (by kernel_rfl)) (fun _ _ _ h => h) (Or.inl ⟨by rfl, ?_⟩) ?_ ?_
                    rotate_left
                    · intro w'
                      go_simp
                      with_reducible rfl
                    rotate_left
                    · simp only [Act.put, List.setIfInBounds_toArray, List.set_cons_zero, List.set_cons_succ, i64_w, i32_w]
                      rfl
                    refine pure_ (i := 4) (N := some 17) (v := ?_) (a' := ?_) #[true, true, false, false, true, false, false, false, false, false] rfl rfl (any_of HT_.out (by kernel_rfl)) (fun _ _ _ h => h) (Or.inl ⟨by rfl, ?_⟩) ?_ ?_
                    rotate_left
                    · intro w'
                      go_simp
                      with_reducible rfl
                    rotate_left
                    · simp only [Act.put, List.setIfInBounds_toArray, List.set_cons_zero, List.set_cons_succ, i64_w, i32_w]
                      rfl
                    refine pure_ (i := 5) (N := some 18) (v := ?_) (a' := ?_) #[true, true, false, false, true, true, false, false, false, false] rfl rfl (any_of HT_.out (by kernel_rfl)) (fun _ _ _ h => h) (Or.inl ⟨by rfl, ?_⟩) ?_ ?_
                    rotate_left
                    · intro w'
                      go_simp
                      with_reducible rfl
                    rotate_left
                    · simp only [Act.put, List.setIfInBounds_toArray, List.set_cons_zero, List.set_cons_succ, i64_w, i32_w]
                      rfl
                    refine take_ (i := 6) (N := some 19) (v := ?_) (a' := ?_) #[true, true, false, false, true, true, true, false, false, false] rfl rfl (take_ofW HT_.out HW_.out (by kernel_rfl)) (fun _ _ _ h => h) (Or.inl ⟨by rfl, ?_⟩) hHeld ?_ ?_
                    rotate_left
                    · intro w' s0
                      go_simp
                      with_reducible rfl
                    rotate_left
                    · simp only [Act.put, List.setIfInBounds_toArray, List.set_cons_zero, List.set_cons_succ, i64_w, i32_w]
                      rfl
                    refine one_ (i := 2) (N := some 15) #[true, true, true, false, true, true, true, false, false, false] rfl rfl (one_of HT_.out (by kernel_rfl)) (by decide) (fun K hK => ?_)
                    refine value_ (w1 := ?_) (v := ?_) (by rfl) rfl ?_ ?_
                    rotate_left 2
                    · go_simp
                      constructor
                      · rfl
                      · rfl
                    refine hK.out _ _ ((World.cell?_alloc_lt _ _ _ (World.block_lt_of_cell? _ _ (((HB.out.cell (World.block_lt_of_cell? w _ hw162_0)).trans hw162_0)))).trans (((HB.out.cell (World.block_lt_of_cell? w _ hw162_0)).trans hw162_0))) (fun hHeld => ?_)
                    clear hK K
                    refine norm_ (a' := ?_) ?_ ?_
                    rotate_left
                    · show Act.put _ (some 15) _ = _
                      simp only [Act.put, List.setIfInBounds_toArray, List.set_cons_zero, List.set_cons_succ, i64_w, i32_w]
                      rfl
                    refine one_ (i := 3) (N := some 16) #[true, true, true, true, true, true, true, false, false, false] rfl rfl (one_of HT_.out (by kernel_rfl)) (by decide) (fun K hK => ?_)
                    refine Kd.R_append_step (Kd.int .u8) (w0 := w) w.heap.size (by rfl) (.tmp 13) (.tmp 15) 22 5 (.int .u8 0) 1 rfl Tryz.underlying22 info5 rfl (by decide) (by omega) u3 x3_1 t158 [.int .u8 t158] (fun _ => True) (fun _ => False) rfl rfl ?aP (fun _ hk => hk.elim) ?aF ?aO ?aB ?aS ?aL ?_
                    (case aP => exact rfl)
                    (case aB => exact pB)
                    (case aF => exact (fun _ _ => trivial))
                    (case aO => exact (pR HO_3))
                    (case aS => exact (below_size pB))
                    (case aL => have := LMc5.out; omega)
                    intro v160 w49 ho hb hg hat
                    rw [← Ny159.out] at ho
                    have n0_ := Aside0.mk (hb)
                    have n1_ := Aside0.mk (ho)
                    clear HB
                    clear HO_3
                    have HB := n0_
                    have HO161 := n1_
                    clear n0_ n1_
                    clear ho hb hg hat
                    refine hK.out _ _ (((HB.out.cell (World.block_lt_of_cell? w _ hw162_0)).trans hw162_0)) (fun hHeld => ?_)
                    clear hK K
                    refine norm_ (a' := ?_) ?_ ?_
                    rotate_left
                    · show Act.put _ (some 16) _ = _
                      simp only [Act.put, List.setIfInBounds_toArray, List.set_cons_zero, List.set_cons_succ, i64_w, i32_w]
                      rfl
                    refine one_ (i := 7) (N := some 20) #[true, true, true, true, true, true, true, true, false, false] rfl rfl (one_of HT_.out (by kernel_rfl)) (by decide) (fun K hK => ?_)
                    refine goes_ Tryz.func57 (by kernel_rfl) rfl #[.int .u64 (rd x0_1 0)] (by rfl) rfl rfl pM ?_
                    with_reducible refine (tagbyte_Bytes.calls k1 (rd x0_1 0) t163 _ A6.out).mono ?_
                    rintro e w50 ⟨v164, rfl, ho0, hb⟩
                    refine ⟨_, rfl, ?_⟩
                    have n0_ := Aside0.mk (Kd.R_elder' (pR HO161) (Kd.R_base ho0) hb)
                    have n1_ := Aside0.mk (Kd.R_lower (Kd.R_new' ho0 (Kd.R_lt (pR HO161))) (below_size pB))
                    have n2_ := Aside0.mk (below_step pB hb)
                    clear HO161
                    clear HB
                    have HO161 := n0_
                    have HO165 := n1_
                    have HB := n2_
                    clear n0_ n1_ n2_
                    (try clear hb)
                    (try clear hb2)
                    (try clear hk)
                    (try clear hi)
                    (try clear ho0)
                    obtain ⟨Ao52, co52, eo52⟩ := Kd.R_slice HO165.out
                    (first | subst eo52 | (injection eo52 with f1_ f2_ f3_; have f4_ := f1_.symm; have f5_ := f3_.symm; clear f1_ f2_ f3_; subst f4_; subst f5_))
                    refine hK.out _ _ (((HB.out.cell (World.block_lt_of_cell? w _ hw162_0)).trans hw162_0)) (fun hHeld => ?_)
                    clear hK K
                    refine norm_ (a' := ?_) ?_ ?_
                    rotate_left
                    · show Act.put _ (some 20) _ = _
                      simp only [Act.put, List.setIfInBounds_toArray, List.set_cons_zero, List.set_cons_succ, i64_w, i32_w]
                      rfl
                    refine one_ (i := 8) (N := some 21) #[true, true, true, true, true, true, true, true, true, false] rfl rfl (one_of HT_.out (by kernel_rfl)) (by decide) (fun K hK => ?_)
                    refine Kd.R_append_rows_step (Kd.int .u8) (w0 := w) w.heap.size (by rfl) (.tmp 16) (.tmp 20) 22 5 (.int .u8 0) 1 rfl Tryz.underlying22 info5 rfl (by decide) (by omega) v160 y159 t163 _ _ _ (fun k_ => some k_ ≠ (.slice Ao52 t163.length co52 : Value).ownBlock) (fun _ => False) rfl rfl ?aO ?aR (fun _ _ h => h) (fun _ h => h.elim) ?aF ?aB ?aS ?aL ?_
                    (case aR => repeat (first | exact (Kd.R_reads' HO165.out).2.2 | (with_reducible refine Kd.C_alloc ?_ _) | (with_reducible refine Kd.C_drewN ?_ _) | (with_reducible refine Kd.C_drew ?_)))
                    (case aB => exact pB)
                    (case aF => exact (fun k_ hk => Kd.fresh' (Kd.R_lt (pR HO165)) k_ hk))
                    (case aO => exact (by (with_reducible repeat (first | apply Kd.R_alloc | apply Kd.R_drewN | apply Kd.R_drew)); exact Kd.R_mono HO161.out (fun _ hk => hk.2)))
                    (case aS => exact (below_size pB))
                    (case aL => have := LMc7.out; omega)
                    intro v167 w51 ho hb hg hat
                    rw [← Ny166.out] at ho
                    have n0_ := Aside0.mk (Kd.R_after (ok := (fun _ => True)) (pR HO165) hg hat)
                    have n1_ := Aside0.mk (hb)
                    have n2_ := Aside0.mk (ho)
                    clear HO165
                    clear HB
                    clear HO161
                    have HO165 := n0_
                    have HB := n1_
                    have HO168 := n2_
                    clear n0_ n1_ n2_
                    clear ho hb hg hat
                    refine hK.out _ _ (((HB.out.cell (World.block_lt_of_cell? w _ hw162_0)).trans hw162_0)) (fun hHeld => ?_)
                    clear hK K
                    refine norm_ (a' := ?_) ?_ ?_
                    rotate_left
                    · show Act.put _ (some 21) _ = _
                      simp only [Act.put, List.setIfInBounds_toArray, List.set_cons_zero, List.set_cons_succ, i64_w, i32_w]
                      rfl
                    refine pure_ (i := 9) (N := some 3) (v := ?_) (a' := ?_) #[true, true, true, true, true, true, true, true, true, true] rfl rfl (any_of HT_.out (by kernel_rfl)) (fun _ _ _ h => h) (Or.inl ⟨by rfl, ?_⟩) ?_ ?_
                    rotate_left
                    · intro w'
                      go_simp
                      with_reducible rfl
                    rotate_left
                    · simp only [Act.put, List.setIfInBounds_toArray, List.set_cons_zero, List.set_cons_succ, i64_w, i32_w]
                      rfl
                    refine done_ (done_of HT_.out (by kernel_rfl)) ?_
                    obtain ⟨i053, hi053, _, hsz53, _⟩ := info_parts info61
                    obtain ⟨A53, hcut53, hA53, hC53⟩ := print_drop_of (P := Tryz.prog) (Value.int .u64) 0 27 61 .i64 Tryz.underlying27 hi053 hsz53 (some ad157) cq0 x0_1 1 (by omega) (of_decide_eq_true pA) HCq0.out
                    have HR169 := Aside0.mk (Kd.C_of_reads (h1 := fun _ => rfl) (hA53 _ (Kd.reads_of_C HRq0.out)))
                    have HC169 := Aside0.mk hC53
                    clear hA53 hC53 hi053 hsz53
                    (try simp only [List.length_drop, Int.reduceToNat] at hcut53)
                    try go_wp2
                    go_roundg k1
                    case measure => have := HK1.out; omega
                    case rel => exact ⟨(x0_1.drop 1), (y166), _, _, (by first | rfl | (simp only [List.length_drop, List.length_take, Int.reduceToNat]; done) | (simp only [List.length_drop, List.length_take, Int.reduceToNat]; rfl) | (congr 1 <;> (first | rfl | (simp only [List.length_drop, List.length_take, Int.reduceToNat]; omega)))), HR169, HC169, H', ⟨by have := HK1.out; omega⟩, ⟨by (with_reducible repeat (first | apply Kd.R_alloc | apply Kd.R_drewN | apply Kd.R_drew)); exact Kd.R_mono HO168.out (fun _ hk => trivial)⟩, ⟨pB⟩⟩
              · rw [if_neg c8] at H
                exact absurd H (by simp)
            · rw [if_neg c7] at H
              exact absurd H (by simp)
          · rw [if_neg c5] at H
            exact absurd H (by simp)
        · rw [if_neg c3] at H
          exact absurd H (by simp)
      · rw [if_neg c2] at H
        have c2b0 : decide (0 < (x0_1.length : Int)) = false := decide_eq_false c2
        have c2b1 : decide (0 < x0_1.length) = false := decide_eq_false (by omega)
        clear c2
        obtain rfl := Option.some.inj H
        go_wp2
        (try rw [Exit.noGoto_ret])
        go_ret
        exact ⟨_, by first | rfl | (simp [errW_none, errW_some] <;> rfl) | (simp [*, errW_none, errW_some] <;> rfl), by (with_reducible repeat (first | apply Kd.R_alloc | apply Kd.R_drewN | apply Kd.R_drew)); exact HO_3.out, pB⟩
end Go.Proofs.YthghblmffdfbaaaGreatDoor.PWholePack
