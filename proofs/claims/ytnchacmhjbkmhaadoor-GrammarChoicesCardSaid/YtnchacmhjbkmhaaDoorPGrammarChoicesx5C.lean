/- (Halved.) Printed functions of a law, and their walks. -/
import Derived.Test.YtnchacmhjbkmhaaDoorXShortC
import Derived.Test.YtnchacmhjbkmhaaDoorPGrammarChoicesx0C
import Derived.Test.YtnchacmhjbkmhaaDoorPGrammarChoicesx2C
import Derived.Test.YtnchacmhjbkmhaaDoorPGrammarChoicesx3C
import Derived.Test.YtnchacmhjbkmhaaDoorPGrammarChoicesx4C
namespace Go.Proofs.YtnchacmhjbkmhaaDoor.PGrammarChoices
open Go.RowKit Go.Proofs.YtnchacmhjbkmhaaDoorW.PrintWords Go.Proofs.YtnchacmhjbkmhaaDoorW.PrintLast Go.Proofs.YtnchacmhjbkmhaaDoorW.PrintMore
open Go.Proofs.YtnchacmhjbkmhaaDoor.PUnBase
open Go.Proofs.YtnchacmhjbkmhaaDoor.POfBase (tagbyte_Of.f tagbyte_Of.calls tagbyte_Of.mono tagbyte_Of.mono_l)
attribute [local go_sem] max2_int min2_int max_two min_two max_three min_three max_four min_four   -- for this text's walks alone
set_option linter.unusedVariables false
set_option linter.unusedSimpArgs false
def pack_Words.l0 : Nat → List Int → List Int → Option (List Int)
 | 0, _, _ => none
 | k + 1, x0, x3 => if (x0.length : Int) > 0 then (if 0 < (x0.length : Int) then ((tagbyte_Of.f k (rd x0 0)).bind fun t174 => (if x3.length < 140737488355328 then ((some (x3 ++ [t174] : List Int)).bind fun y175 => ((tagbyte_Bytes.f k (rd x0 0)).bind fun t179 => (if y175.length + t179.length < 140737488355328 then ((some (y175 ++ t179 : List Int)).bind fun y182 => (if 1 ≤ (x0.length : Int) then (if t174 = 0 then ((pack_run_with_pack_Words_1.f k (x0.drop 1)).bind fun t186 => (if y182.length < 140737488355328 then (if 0 ≤ t186 then (if t186 ≤ ((x0.drop 1).length : Int) then (pack_Words.l0 k ((x0.drop 1).drop (t186 : Int).toNat) (y182 ++ [(t186) % 256])) else (none)) else (none)) else (none))) else (if t174 = 255 then ((pack_run_with_tagbyte_Dense.f k (x0.drop 1)).bind fun t191 => (if y182.length < 140737488355328 then ((some (y182 ++ [(t191) % 256] : List Int)).bind fun y192 => (if 0 ≤ t191 then (if t191 ≤ ((x0.drop 1).length : Int) then ((word_Bytes.f k ((x0.drop 1).take (t191 : Int).toNat)).bind fun t196 => (if y192.length + t196.length < 140737488355328 then (pack_Words.l0 k ((x0.drop 1).drop (t191 : Int).toNat) (y192 ++ t196)) else (none))) else (none)) else (none))) else (none))) else (pack_Words.l0 k (x0.drop 1) y182))) else (none))) else (none)))) else (none))) else (none)) else (some x3)
def pack_Words.f (k : Nat) (l0 : List Int) : Option (List Int) := pack_Words.l0 k l0 ([] : List Int)
theorem pack_Words.mono_l : ∀ k, (∀ y0 y1, LeO (pack_Words.l0 k y0 y1) (pack_Words.l0 (k + 1) y0 y1))
 | 0 => fun _ _ r h => by simp [pack_Words.l0] at h
 | k + 1 => by
  have ih0 := pack_Words.mono_l k
  ·intro y0 y1
   unfold pack_Words.l0
   repeat' first
   | (with_reducible exact ih0 _ _)
   | (with_reducible exact pack_run_with_pack_Words_1.mono _ _)
   | (with_reducible exact pack_run_with_tagbyte_Dense.mono _ _)
   | (with_reducible exact tagbyte_Bytes.mono _ _)
   | (with_reducible exact tagbyte_Of.mono _ _)
   | (with_reducible exact word_Bytes.mono _ _)
   | (with_reducible exact LeO.refl _)
   | (with_reducible exact LeO.none _)
   | (with_reducible refine LeO.ite ?_ ?_)
   | (with_reducible refine LeO.bind ?_ (fun _ => ?_))
   | exact ih0 _ _
   | exact pack_run_with_pack_Words_1.mono _ _
   | exact pack_run_with_tagbyte_Dense.mono _ _
   | exact tagbyte_Bytes.mono _ _
   | exact tagbyte_Of.mono _ _
   | exact word_Bytes.mono _ _
   | exact LeO.none _
   | refine LeO.ite ?_ ?_
   | refine LeO.bind ?_ (fun _ => ?_)
theorem pack_Words.mono : ∀ a0 k, LeO (pack_Words.f k a0) (pack_Words.f (k + 1) a0) := by
 intro a0 k
 have ih0 := pack_Words.mono_l k
 unfold pack_Words.f
 repeat' first
   | (with_reducible exact ih0 _ _)
   | (with_reducible exact pack_run_with_pack_Words_1.mono _ _)
   | (with_reducible exact pack_run_with_tagbyte_Dense.mono _ _)
   | (with_reducible exact tagbyte_Bytes.mono _ _)
   | (with_reducible exact tagbyte_Of.mono _ _)
   | (with_reducible exact word_Bytes.mono _ _)
   | (with_reducible exact LeO.refl _)
   | (with_reducible exact LeO.none _)
   | (with_reducible refine LeO.ite ?_ ?_)
   | (with_reducible refine LeO.bind ?_ (fun _ => ?_))
   | exact ih0 _ _
   | exact pack_run_with_pack_Words_1.mono _ _
   | exact pack_run_with_tagbyte_Dense.mono _ _
   | exact tagbyte_Bytes.mono _ _
   | exact tagbyte_Of.mono _ _
   | exact word_Bytes.mono _ _
   | exact LeO.none _
   | refine LeO.ite ?_ ?_
   | refine LeO.bind ?_ (fun _ => ?_)
def pack_Words.T4 : Bool × List (List Nat × List Nat) := (true, [([], []), ([], []), ([1], [1]), ([0, 2], [0, 2]), ([], []), ([4], [4]), ([5], [5]), ([6, 3], [6]), ([3, 7, 7], [3, 7]), ([8, 8, 0, 1, 2, 3, 4, 5, 6, 7, 8], [0, 8])])
def pack_Words.B4 : List Nat := [0, 0, 2, 7, 0, 16, 48, 127, 255, 511]
theorem pack_Words.tab4 : rtab .any (opsOf Tryd.f43 4) = pack_Words.T4 := by kernel_rfl
theorem pack_Words.bits4 : waitsOk pack_Words.T4.2 pack_Words.B4 = true := by kernel_rfl
def pack_Words.T13 : Bool × List (List Nat × List Nat) := (true, [([], []), ([], []), ([1], [1]), ([2], [2]), ([0, 3], [0, 3]), ([], []), ([], []), ([5, 6], [5, 6]), ([7, 4], [7]), ([4, 8, 8], [4, 8]), ([9, 9, 0, 1, 2, 3, 4, 5, 6, 7, 8, 9], [0, 9])])
def pack_Words.B13 : List Nat := [0, 0, 2, 6, 15, 0, 0, 96, 255, 511, 1023]
theorem pack_Words.tab13 : rtab .any (opsOf Tryd.f43 13) = pack_Words.T13 := by kernel_rfl
theorem pack_Words.bits13 : waitsOk pack_Words.T13.2 pack_Words.B13 = true := by kernel_rfl
set_option maxHeartbeats 8000000 in
set_option maxRecDepth 100000 in
theorem pack_Words.calls (k : Nat) (A0 : Option Addr) (c0 : Nat) (l0 : List Int) (r : List Int) (w : World) (hr0 : Kd.C (Kd.int .u64) w A0 l0.length l0) (hc0 : l0.length ≤ c0) (h : pack_Words.f k l0 = some r) :
  Calls Tryd.prog 43 #[.slice A0 l0.length c0] w fun e w' => ∃ v0_ : Value, e = .returned (v0_) ∧ Kd.R (Kd.int .u8) 5 w' w.heap.size (fun _ => True) v0_ r ∧ Below w.heap.size w w' := by
 have HR0 := Aside0.mk hr0
 have HC0 := Aside0.mk hc0
 clear hr0 hc0
 have HB := Aside0.mk (Below.refl w.heap.size w)
 have H : (pack_Words.l0 k l0 ([] : List Int)) = some r := h
 clear h
 have H' := Aside0.mk H
 clear H
 go_enter Tryd.func43, Tryd.ntmps43
 go_wp2
 (try go_step3)
 (try go_wp2)
 (try go_step3)
 (try go_wp2)
 go_loopg [0, 3] k (fun kq v0 v3 w' => ∃ (x0_1 : List Int) (x3_1 : List Int) (Aq0 : Option Addr) (cq0 : Nat), v0 = .slice Aq0 x0_1.length cq0 ∧ Aside0 (Kd.C (Kd.int .u64) w Aq0 x0_1.length x0_1) ∧ Aside0 (x0_1.length ≤ cq0) ∧ Aside0 (pack_Words.l0 kq x0_1 x3_1 = some r) ∧ Aside0 (kq ≤ k) ∧ Aside0 (Kd.R (Kd.int .u8) 5 w' w.heap.size (fun _ => True) v3 x3_1) ∧ Aside0 (Below w.heap.size w w'))
 case atStart => exact ⟨(l0), (([] : List Int)), _, _, (by first | rfl | (simp only [List.length_drop, List.length_take, Int.reduceToNat]; done) | (simp only [List.length_drop, List.length_take, Int.reduceToNat]; rfl) | (congr 1 <;> (first | rfl | (simp only [List.length_drop, List.length_take, Int.reduceToNat]; omega)))), HR0, HC0, H', ⟨Nat.le_refl _⟩, ⟨by first | exact Kd.R_nil _ _ _ _ _ | exact Kd.N_nil _ _ _ _ _ | exact Kd.V_nil _ _ _ _ _ | exact Kd.Q_nil _ _ _ _ _ | exact Kd.S_nil _ _ _ _ _⟩, ⟨pB⟩⟩
 case round =>
  clear H'
  obtain ⟨x0_1, x3_1, Aq0, cq0, rfl, HRq0, HCq0, HA, HK1, HO_3, HB⟩ := hrel
  cases gk with
  | zero => exact absurd HA.out (by simp [pack_Words.l0])
  | succ k1 =>
   have H := HA.out
   clear HA
   simp only [pack_Words.l0] at H
   by_cases c2 : (x0_1.length : Int) > 0
   ·rw [if_pos c2] at H
    have c2b0 : decide (0 < (x0_1.length : Int)) = true := decide_eq_true c2
    have c2b1 : decide (0 < x0_1.length) = true := decide_eq_true (by omega)
    clear c2
    by_cases c3 : 0 < (x0_1.length : Int)
    ·rw [if_pos c3] at H
     have c3b0 : decide (0 < (x0_1.length : Int)) = true := decide_eq_true c3
     have c3b1 : decide (0 < x0_1.length) = true := decide_eq_true (by omega)
     clear c3
     replace H := Option.bind_eq_some_iff.mp H
     obtain ⟨t174, A40, H⟩ := H
     replace H : (if x3_1.length < 140737488355328 then ((some (x3_1 ++ [t174] : List Int)).bind fun y175 => ((tagbyte_Bytes.f k1 (rd x0_1 0)).bind fun t179 => (if y175.length + t179.length < 140737488355328 then ((some (y175 ++ t179 : List Int)).bind fun y182 => (if 1 ≤ (x0_1.length : Int) then (if t174 = 0 then ((pack_run_with_pack_Words_1.f k1 (x0_1.drop 1)).bind fun t186 => (if y182.length < 140737488355328 then (if 0 ≤ t186 then (if t186 ≤ ((x0_1.drop 1).length : Int) then (pack_Words.l0 k1 ((x0_1.drop 1).drop (t186 : Int).toNat) (y182 ++ [(t186) % 256])) else (none)) else (none)) else (none))) else (if t174 = 255 then ((pack_run_with_tagbyte_Dense.f k1 (x0_1.drop 1)).bind fun t191 => (if y182.length < 140737488355328 then ((some (y182 ++ [(t191) % 256] : List Int)).bind fun y192 => (if 0 ≤ t191 then (if t191 ≤ ((x0_1.drop 1).length : Int) then ((word_Bytes.f k1 ((x0_1.drop 1).take (t191 : Int).toNat)).bind fun t196 => (if y192.length + t196.length < 140737488355328 then (pack_Words.l0 k1 ((x0_1.drop 1).drop (t191 : Int).toNat) (y192 ++ t196)) else (none))) else (none)) else (none))) else (none))) else (pack_Words.l0 k1 (x0_1.drop 1) y182))) else (none))) else (none)))) else (none)) = some r := H
     have A4 := Aside0.mk A40
     clear A40
     by_cases c5 : x3_1.length < 140737488355328
     ·rw [if_pos c5] at H
      have LMc5 := Aside0.mk c5
      clear c5
      obtain ⟨y175, hy175⟩ : ∃ y_ : List Int, y_ = (x3_1 ++ [t174]) := ⟨_, rfl⟩
      replace H : ((tagbyte_Bytes.f k1 (rd x0_1 0)).bind fun t179 => (if y175.length + t179.length < 140737488355328 then ((some (y175 ++ t179 : List Int)).bind fun y182 => (if 1 ≤ (x0_1.length : Int) then (if t174 = 0 then ((pack_run_with_pack_Words_1.f k1 (x0_1.drop 1)).bind fun t186 => (if y182.length < 140737488355328 then (if 0 ≤ t186 then (if t186 ≤ ((x0_1.drop 1).length : Int) then (pack_Words.l0 k1 ((x0_1.drop 1).drop (t186 : Int).toNat) (y182 ++ [(t186) % 256])) else (none)) else (none)) else (none))) else (if t174 = 255 then ((pack_run_with_tagbyte_Dense.f k1 (x0_1.drop 1)).bind fun t191 => (if y182.length < 140737488355328 then ((some (y182 ++ [(t191) % 256] : List Int)).bind fun y192 => (if 0 ≤ t191 then (if t191 ≤ ((x0_1.drop 1).length : Int) then ((word_Bytes.f k1 ((x0_1.drop 1).take (t191 : Int).toNat)).bind fun t196 => (if y192.length + t196.length < 140737488355328 then (pack_Words.l0 k1 ((x0_1.drop 1).drop (t191 : Int).toNat) (y192 ++ t196)) else (none))) else (none)) else (none))) else (none))) else (pack_Words.l0 k1 (x0_1.drop 1) y182))) else (none))) else (none))) = some r := by first | (rw [hy175]; with_reducible exact H) | (have H2_ := (Option.bind_some _ _).symm.trans H; rw [hy175]; with_reducible exact H2_) | (have H2_ := (Option.bind_some _ _).symm.trans H; with_reducible exact H2_) | with_reducible exact H | (rw [hy175]; exact H) | exact H
      have Ny175 := Aside0.mk hy175
      clear hy175
      replace H := Option.bind_eq_some_iff.mp H
      obtain ⟨t179, A60, H⟩ := H
      replace H : (if y175.length + t179.length < 140737488355328 then ((some (y175 ++ t179 : List Int)).bind fun y182 => (if 1 ≤ (x0_1.length : Int) then (if t174 = 0 then ((pack_run_with_pack_Words_1.f k1 (x0_1.drop 1)).bind fun t186 => (if y182.length < 140737488355328 then (if 0 ≤ t186 then (if t186 ≤ ((x0_1.drop 1).length : Int) then (pack_Words.l0 k1 ((x0_1.drop 1).drop (t186 : Int).toNat) (y182 ++ [(t186) % 256])) else (none)) else (none)) else (none))) else (if t174 = 255 then ((pack_run_with_tagbyte_Dense.f k1 (x0_1.drop 1)).bind fun t191 => (if y182.length < 140737488355328 then ((some (y182 ++ [(t191) % 256] : List Int)).bind fun y192 => (if 0 ≤ t191 then (if t191 ≤ ((x0_1.drop 1).length : Int) then ((word_Bytes.f k1 ((x0_1.drop 1).take (t191 : Int).toNat)).bind fun t196 => (if y192.length + t196.length < 140737488355328 then (pack_Words.l0 k1 ((x0_1.drop 1).drop (t191 : Int).toNat) (y192 ++ t196)) else (none))) else (none)) else (none))) else (none))) else (pack_Words.l0 k1 (x0_1.drop 1) y182))) else (none))) else (none)) = some r := H
      have A6 := Aside0.mk A60
      clear A60
      by_cases c7 : y175.length + t179.length < 140737488355328
      ·rw [if_pos c7] at H
       have LMc7 := Aside0.mk c7
       clear c7
       obtain ⟨y182, hy182⟩ : ∃ y_ : List Int, y_ = (y175 ++ t179) := ⟨_, rfl⟩
       replace H : (if 1 ≤ (x0_1.length : Int) then (if t174 = 0 then ((pack_run_with_pack_Words_1.f k1 (x0_1.drop 1)).bind fun t186 => (if y182.length < 140737488355328 then (if 0 ≤ t186 then (if t186 ≤ ((x0_1.drop 1).length : Int) then (pack_Words.l0 k1 ((x0_1.drop 1).drop (t186 : Int).toNat) (y182 ++ [(t186) % 256])) else (none)) else (none)) else (none))) else (if t174 = 255 then ((pack_run_with_tagbyte_Dense.f k1 (x0_1.drop 1)).bind fun t191 => (if y182.length < 140737488355328 then ((some (y182 ++ [(t191) % 256] : List Int)).bind fun y192 => (if 0 ≤ t191 then (if t191 ≤ ((x0_1.drop 1).length : Int) then ((word_Bytes.f k1 ((x0_1.drop 1).take (t191 : Int).toNat)).bind fun t196 => (if y192.length + t196.length < 140737488355328 then (pack_Words.l0 k1 ((x0_1.drop 1).drop (t191 : Int).toNat) (y192 ++ t196)) else (none))) else (none)) else (none))) else (none))) else (pack_Words.l0 k1 (x0_1.drop 1) y182))) else (none)) = some r := by first | (rw [hy182]; with_reducible exact H) | (have H2_ := (Option.bind_some _ _).symm.trans H; rw [hy182]; with_reducible exact H2_) | (have H2_ := (Option.bind_some _ _).symm.trans H; with_reducible exact H2_) | with_reducible exact H | (rw [hy182]; exact H) | exact H
       have Ny182 := Aside0.mk hy182
       clear hy182
       by_cases c8 : 1 ≤ (x0_1.length : Int)
       ·rw [if_pos c8] at H
        have c8b0 := eq_true c8
        have c8b1 : decide (1 ≤ (x0_1.length : Int)) = true := decide_eq_true c8
        clear c8
        by_cases c9 : t174 = 0
        ·rw [if_pos c9] at H
         have c9b0 : (t174 == 0) = true := beq_iff_eq.mpr c9
         have c9b1 : (t174 != 0) = false := bne_eq_false_iff_eq.mpr c9
         clear c9
         replace H := Option.bind_eq_some_iff.mp H
         obtain ⟨t186, A100, H⟩ := H
         replace H : (if y182.length < 140737488355328 then (if 0 ≤ t186 then (if t186 ≤ ((x0_1.drop 1).length : Int) then (pack_Words.l0 k1 ((x0_1.drop 1).drop (t186 : Int).toNat) (y182 ++ [(t186) % 256])) else (none)) else (none)) else (none)) = some r := H
         have A10 := Aside0.mk A100
         clear A100
         by_cases c11 : y182.length < 140737488355328
         ·rw [if_pos c11] at H
          have LMc11 := Aside0.mk c11
          clear c11
          obtain ⟨y187, hy187⟩ : ∃ y_ : List Int, y_ = (y182 ++ [(t186) % 256]) := ⟨_, rfl⟩
          replace H : (if 0 ≤ t186 then (if t186 ≤ ((x0_1.drop 1).length : Int) then (pack_Words.l0 k1 ((x0_1.drop 1).drop (t186 : Int).toNat) y187) else (none)) else (none)) = some r := by first | (rw [hy187]; with_reducible exact H) | (have H2_ := (Option.bind_some _ _).symm.trans H; rw [hy187]; with_reducible exact H2_) | (have H2_ := (Option.bind_some _ _).symm.trans H; with_reducible exact H2_) | with_reducible exact H | (rw [hy187]; exact H) | exact H
          have Ny187 := Aside0.mk hy187
          clear hy187
          by_cases c12 : 0 ≤ t186
          ·rw [if_pos c12] at H
           have c12b0 := eq_true c12
           have c12b1 : decide (0 ≤ t186) = true := decide_eq_true c12
           clear c12
           by_cases c13 : t186 ≤ ((x0_1.drop 1).length : Int)
           ·rw [if_pos c13] at H
            have c13b0 := eq_true c13
            have c13b1 : decide (t186 ≤ ((x0_1.drop 1).length : Int)) = true := decide_eq_true c13
            clear c13
            have H' := Aside0.mk H
            clear H
            have p173 : 0 ≤ (0 : Int) := (by omega)
            have q173 : 0 < (x0_1.length : Int) := of_decide_eq_true pA
            obtain ⟨ad173, e173, hx173_0⟩ := Kd.at_int HRq0.out 0 p173 q173
            cases e173
            have qi173 : (0 < x0_1.length) = True := eq_true (by omega)
            (try rw [show ((0 : Int)).toNat = 0 from rfl] at hx173_0)
            (try rw [Addr.add_zero'] at hx173_0)
            replace hx173_0 := (HB.out.cell (World.block_lt_of_cell? w _ hx173_0)).trans hx173_0
            replace p173 := eq_true p173
            replace q173 := eq_true q173
            try go_wp2_with (first | ((with_reducible refine gate_callee (f := 50) rfl ?_); refine goesL_ (some 12) rfl rfl Tryd.func50 (by kernel_rfl) rfl #[.int .u64 (rd x0_1 0)] rfl pM ?_; (with_reducible refine (tagbyte_Of.calls k1 (rd x0_1 0) t174 _ A4.out).mono ?_); rintro e w14 ⟨rfl, hb⟩; refine ⟨_, rfl, ?_⟩; have n0_ := Aside0.mk (Kd.R_below (pR HO_3) hb); have n1_ := Aside0.mk (below_step pB hb); clear HO_3; clear HB; have HO_3 := n0_; have HB := n1_; clear n0_ n1_; (try clear hb); (try clear hb2); (try clear hk); (try clear hi)))
            have n0_ := Aside0.mk (Kd.R_drew HO_3.out)
            have n1_ := Aside0.mk (below_drew1 HB.out)
            clear HO_3
            clear HB
            have HO_3 := n0_
            have HB := n1_
            clear n0_ n1_
            have p178 : 0 ≤ (0 : Int) := (by omega)
            have q178 : 0 < (x0_1.length : Int) := of_decide_eq_true pA
            obtain ⟨ad178, e178, hx178_0⟩ := Kd.at_int HRq0.out 0 p178 q178
            have hw178_0 := hx178_0
            (try rw [show ((0 : Int)).toNat = 0 from rfl] at hw178_0)
            (try rw [show 0 * 1 = 0 from rfl] at hw178_0)
            (try rw [Addr.add_zero'] at hw178_0)
            obtain rfl : ad173 = ad178 := (by injection e178)
            have qi178 : (0 < x0_1.length) = True := eq_true (by omega)
            (try rw [show ((0 : Int)).toNat = 0 from rfl] at hx178_0)
            (try rw [Addr.add_zero'] at hx178_0)
            replace hx178_0 := (HB.out.cell (World.block_lt_of_cell? w _ hx178_0)).trans hx178_0
            replace p178 := eq_true p178
            replace q178 := eq_true q178
            refine start_ (n := 10) (S := fun w' => w'.cell? ad173 = some (.int .u64 (rd x0_1 0))) (ds := []) #[false, false, false, false, false, false, false, false, false, false] (by kernel_rfl) rfl rfl (((HB.out.cell (World.block_lt_of_cell? w _ hw178_0)).trans hw178_0)) (fun hHeld => ?_); refine with_tabW pack_Words.tab4 pack_Words.bits4 (fun HT_ HW_ => ?_)
            generalize w14.drew = w15 at HO_3 HB hx178_0 hHeld ⊢
            refine pure_ (i := 0) (N := some 13) (v := ?_) (a' := ?_) #[true, false, false, false, false, false, false, false, false, false] rfl rfl (any_of HT_.out (by kernel_rfl)) (fun _ _ _ h => h) (Or.inl ⟨by rfl, ?_⟩) ?_ ?_
            rotate_left
            ·intro w'
             go_simp
             with_reducible rfl
            rotate_left
            ·simp only [Act.put, List.setIfInBounds_toArray, List.set_cons_zero, List.set_cons_succ, i64_w, i32_w]
             rfl
            refine pure_ (i := 1) (N := some 14) (v := ?_) (a' := ?_) #[true, true, false, false, false, false, false, false, false, false] rfl rfl (any_of HT_.out (by kernel_rfl)) (fun _ _ _ h => h) (Or.inl ⟨by rfl, ?_⟩) ?_ ?_
            rotate_left
            ·intro w'
             go_simp
             with_reducible rfl
            rotate_left
            ·simp only [Act.put, List.setIfInBounds_toArray, List.set_cons_zero, List.set_cons_succ, i64_w, i32_w]
             rfl
            refine pure_ (i := 4) (N := some 17) (v := ?_) (a' := ?_) #[true, true, false, false, true, false, false, false, false, false] rfl rfl (any_of HT_.out (by kernel_rfl)) (fun _ _ _ h => h) (Or.inl ⟨by rfl, ?_⟩) ?_ ?_
            rotate_left
            ·intro w'
             go_simp
             with_reducible rfl
            rotate_left
            ·simp only [Act.put, List.setIfInBounds_toArray, List.set_cons_zero, List.set_cons_succ, i64_w, i32_w]
             rfl
            refine pure_ (i := 5) (N := some 18) (v := ?_) (a' := ?_) #[true, true, false, false, true, true, false, false, false, false] rfl rfl (any_of HT_.out (by kernel_rfl)) (fun _ _ _ h => h) (Or.inl ⟨by rfl, ?_⟩) ?_ ?_
            rotate_left
            ·intro w'
             go_simp
             with_reducible rfl
            rotate_left
            ·simp only [Act.put, List.setIfInBounds_toArray, List.set_cons_zero, List.set_cons_succ, i64_w, i32_w]
             rfl
            refine take_ (i := 6) (N := some 19) (v := ?_) (a' := ?_) #[true, true, false, false, true, true, true, false, false, false] rfl rfl (take_ofW HT_.out HW_.out (by kernel_rfl)) (fun _ _ _ h => h) (Or.inl ⟨by rfl, ?_⟩) hHeld ?_ ?_
            rotate_left
            ·intro w' s0
             go_simp
             with_reducible rfl
            rotate_left
            ·simp only [Act.put, List.setIfInBounds_toArray, List.set_cons_zero, List.set_cons_succ, i64_w, i32_w]
             rfl
            refine one_ (i := 2) (N := some 15) #[true, true, true, false, true, true, true, false, false, false] rfl rfl (one_of HT_.out (by kernel_rfl)) (by decide) (fun K hK => ?_)
            refine value_ (w1 := ?_) (v := ?_) (by rfl) rfl ?_ ?_
            rotate_left 2
            ·go_simp
             constructor
             ·rfl
             ·rfl
            refine hK.out _ _ ((World.cell?_alloc_lt _ _ _ (World.block_lt_of_cell? _ _ (((HB.out.cell (World.block_lt_of_cell? w _ hw178_0)).trans hw178_0)))).trans (((HB.out.cell (World.block_lt_of_cell? w _ hw178_0)).trans hw178_0))) (fun hHeld => ?_)
            clear hK K
            refine norm_ (a' := ?_) ?_ ?_
            rotate_left
            ·show Act.put _ (some 15) _ = _
             simp only [Act.put, List.setIfInBounds_toArray, List.set_cons_zero, List.set_cons_succ, i64_w, i32_w]
             rfl
            refine one_ (i := 3) (N := some 16) #[true, true, true, true, true, true, true, false, false, false] rfl rfl (one_of HT_.out (by kernel_rfl)) (by decide) (fun K hK => ?_)
            refine Kd.R_append_step (Kd.int .u8) (w0 := w) w.heap.size (by rfl) (.tmp 13) (.tmp 15) 22 5 (.int .u8 0) 1 rfl Tryd.underlying22 info5 rfl (by decide) (by omega) u3 x3_1 t174 [.int .u8 t174] (fun _ => True) (fun _ => False) rfl rfl ?aP (fun _ hk => hk.elim) ?aF ?aO ?aB ?aS ?aL ?_
            (case aP => exact rfl)
            (case aB => exact pB)
            (case aF => exact (fun _ _ => trivial))
            (case aO => exact (pR HO_3))
            (case aS => exact (below_size pB))
            (case aL => have := LMc5.out; omega)
            intro v176 w16 ho hb hg hat
            rw [← Ny175.out] at ho
            have n0_ := Aside0.mk (hb)
            have n1_ := Aside0.mk (ho)
            clear HB
            clear HO_3
            have HB := n0_
            have HO177 := n1_
            clear n0_ n1_
            clear ho hb hg hat
            refine hK.out _ _ (((HB.out.cell (World.block_lt_of_cell? w _ hw178_0)).trans hw178_0)) (fun hHeld => ?_)
            clear hK K
            refine norm_ (a' := ?_) ?_ ?_
            rotate_left
            ·show Act.put _ (some 16) _ = _
             simp only [Act.put, List.setIfInBounds_toArray, List.set_cons_zero, List.set_cons_succ, i64_w, i32_w]
             rfl
            refine one_ (i := 7) (N := some 20) #[true, true, true, true, true, true, true, true, false, false] rfl rfl (one_of HT_.out (by kernel_rfl)) (by decide) (fun K hK => ?_)
            refine goes_ Tryd.func51 (by kernel_rfl) rfl #[.int .u64 (rd x0_1 0)] (by rfl) rfl rfl pM ?_
            with_reducible refine (tagbyte_Bytes.calls k1 (rd x0_1 0) t179 _ A6.out).mono ?_
            rintro e w17 ⟨v180, rfl, ho0, hb⟩
            refine ⟨_, rfl, ?_⟩
            have n0_ := Aside0.mk (Kd.R_elder' (pR HO177) (Kd.R_base ho0) hb)
            have n1_ := Aside0.mk (Kd.R_lower (Kd.R_new' ho0 (Kd.R_lt (pR HO177))) (below_size pB))
            have n2_ := Aside0.mk (below_step pB hb)
            clear HO177
            clear HB
            have HO177 := n0_
            have HO181 := n1_
            have HB := n2_
            clear n0_ n1_ n2_
            (try clear hb)
            (try clear hb2)
            (try clear hk)
            (try clear hi)
            (try clear ho0)
            obtain ⟨Ao19, co19, eo19⟩ := Kd.R_slice HO181.out
            (first | subst eo19 | (injection eo19 with f1_ f2_ f3_; have f4_ := f1_.symm; have f5_ := f3_.symm; clear f1_ f2_ f3_; subst f4_; subst f5_))
            refine hK.out _ _ (((HB.out.cell (World.block_lt_of_cell? w _ hw178_0)).trans hw178_0)) (fun hHeld => ?_)
            clear hK K
            refine norm_ (a' := ?_) ?_ ?_
            rotate_left
            ·show Act.put _ (some 20) _ = _
             simp only [Act.put, List.setIfInBounds_toArray, List.set_cons_zero, List.set_cons_succ, i64_w, i32_w]
             rfl
            refine one_ (i := 8) (N := some 21) #[true, true, true, true, true, true, true, true, true, false] rfl rfl (one_of HT_.out (by kernel_rfl)) (by decide) (fun K hK => ?_)
            refine Kd.R_append_rows_step (Kd.int .u8) (w0 := w) w.heap.size (by rfl) (.tmp 16) (.tmp 20) 22 5 (.int .u8 0) 1 rfl Tryd.underlying22 info5 rfl (by decide) (by omega) v176 y175 t179 _ _ _ (fun k_ => some k_ ≠ (.slice Ao19 t179.length co19 : Value).ownBlock) (fun _ => False) rfl rfl ?aO ?aR (fun _ _ h => h) (fun _ h => h.elim) ?aF ?aB ?aS ?aL ?_
            (case aR => repeat (first | exact (Kd.R_reads' HO181.out).2.2 | (with_reducible refine Kd.C_alloc ?_ _) | (with_reducible refine Kd.C_drewN ?_ _) | (with_reducible refine Kd.C_drew ?_)))
            (case aB => exact pB)
            (case aF => exact (fun k_ hk => Kd.fresh' (Kd.R_lt (pR HO181)) k_ hk))
            (case aO => exact (by (with_reducible repeat (first | apply Kd.R_alloc | apply Kd.R_drewN | apply Kd.R_drew)); exact Kd.R_mono HO177.out (fun _ hk => hk.2)))
            (case aS => exact (below_size pB))
            (case aL => have := LMc7.out; omega)
            intro v183 w18 ho hb hg hat
            rw [← Ny182.out] at ho
            have n0_ := Aside0.mk (Kd.R_after (ok := (fun _ => True)) (pR HO181) hg hat)
            have n1_ := Aside0.mk (hb)
            have n2_ := Aside0.mk (ho)
            clear HO181
            clear HB
            clear HO177
            have HO181 := n0_
            have HB := n1_
            have HO184 := n2_
            clear n0_ n1_ n2_
            clear ho hb hg hat
            refine hK.out _ _ (((HB.out.cell (World.block_lt_of_cell? w _ hw178_0)).trans hw178_0)) (fun hHeld => ?_)
            clear hK K
            refine norm_ (a' := ?_) ?_ ?_
            rotate_left
            ·show Act.put _ (some 21) _ = _
             simp only [Act.put, List.setIfInBounds_toArray, List.set_cons_zero, List.set_cons_succ, i64_w, i32_w]
             rfl
            refine pure_ (i := 9) (N := some 3) (v := ?_) (a' := ?_) #[true, true, true, true, true, true, true, true, true, true] rfl rfl (any_of HT_.out (by kernel_rfl)) (fun _ _ _ h => h) (Or.inl ⟨by rfl, ?_⟩) ?_ ?_
            rotate_left
            ·intro w'
             go_simp
             with_reducible rfl
            rotate_left
            ·simp only [Act.put, List.setIfInBounds_toArray, List.set_cons_zero, List.set_cons_succ, i64_w, i32_w]
             rfl
            refine done_ (done_of HT_.out (by kernel_rfl)) ?_
            obtain ⟨i020, hi020, _, hsz20, _⟩ := info_parts info37
            obtain ⟨A20, hcut20, hA20, hC20⟩ := print_drop_of (P := Tryd.prog) (Value.int .u64) 0 23 37 .i64 Tryd.underlying23 hi020 hsz20 (some ad173) cq0 x0_1 1 (by omega) (of_decide_eq_true pA) HCq0.out
            have HR185 := Aside0.mk (Kd.C_of_reads (h1 := fun _ => rfl) (hA20 _ (Kd.reads_of_C HRq0.out)))
            have HC185 := Aside0.mk hC20
            clear hA20 hC20 hi020 hsz20
            (try simp only [List.length_drop, Int.reduceToNat] at hcut20)
            try go_wp2_with (first | ((with_reducible refine gate_callee (f := 52) rfl ?_); refine goesL_ (some 28) rfl rfl Tryd.func52 (by kernel_rfl) rfl #[.slice A20 (x0_1.drop 1).length (cq0 - 1), .func (.func 53) #[] #[]] rfl (by (try simp only [List.map_toArray, List.map_cons, List.map_nil]); first | done | (rw [show (x0_1.drop 1).length = (x0_1.length - 1) from List.length_drop] <;> rfl) | rfl | (simp only [List.length_drop, List.length_take]; rfl)) ?_; (with_reducible refine (pack_run_with_pack_Words_1.calls k1 _ _ (x0_1.drop 1)  t186 _ ?side1 ?side2 A10.out).mono ?_); (case side1 => repeat (first | exact (Kd.C_below HR185.out HB.out) | (with_reducible refine Kd.C_alloc ?_ _) | (with_reducible refine Kd.C_drewN ?_ _) | (with_reducible refine Kd.C_drew ?_))); (case side2 => exact HC185.out); rintro e w' ⟨rfl, ⟨nd, rfl⟩⟩; refine ⟨_, rfl, ?_⟩) | ((with_reducible refine gate_builtin (b := .append) (xs := #[.tmp 29, .tmp 32]) rfl ?_); at_builtin; refine Kd.R_append (Kd.int .u8) (w0 := w) w.heap.size rfl (.tmp 29) (.tmp 32) 22 5 (.int .u8 0) 1 rfl Tryd.underlying22 info5 rfl (by decide) (by omega) v183 y182 ((t186) % 256) [.int .u8 ((t186) % 256)] (fun k_ => some k_ ≠ (.slice Ao19 t179.length co19 : Value).ownBlock) (fun _ => False) rfl rfl ?aP (fun _ hk => hk.elim) ?aF ?aO ?aB ?aS ?aL ?_; (case aP => exact rfl); (case aB => exact pB); (case aF => exact (fun k_ hk => Kd.fresh' (Kd.R_lt (pR HO181)) k_ hk)); (case aO => exact (pR HO184)); (case aS => exact (below_size pB)); (case aL => have := LMc11.out; omega); intro v188 w21 ho hb hg hat; rw [← Ny187.out] at ho; have n0_ := Aside0.mk (Kd.R_after (ok := (fun _ => True)) (pR HO181) hg hat); have n1_ := Aside0.mk (hb); have n2_ := Aside0.mk (ho); clear HO181; clear HB; clear HO184; have HO181 := n0_; have HB := n1_; have HO189 := n2_; clear n0_ n1_ n2_; clear ho hb hg hat; obtain ⟨i022, hi022, _, hsz22, _⟩ := info_parts info37; obtain ⟨A22, hcut22, hA22, hC22⟩ := print_drop_of (P := Tryd.prog) (Value.int .u64) 0 23 37 .i64 Tryd.underlying23 hi022 hsz22 A20 (cq0 - 1) (x0_1.drop 1) t186 (of_decide_eq_true pA) (of_decide_eq_true pA) HC185.out; have HR190 := Aside0.mk (Kd.C_of_reads (h1 := fun _ => rfl) (hA22 _ (Kd.reads_of_C HR185.out))); have HC190 := Aside0.mk hC22; clear hA22 hC22 hi022 hsz22; (try simp only [List.length_drop, Int.reduceToNat] at hcut22)))
            go_roundg k1
            case measure => have := HK1.out; omega
            case rel => exact ⟨((x0_1.drop 1).drop (t186 : Int).toNat), (y187), _, _, (by first | rfl | (simp only [List.length_drop, List.length_take, Int.reduceToNat]; done) | (simp only [List.length_drop, List.length_take, Int.reduceToNat]; rfl) | (congr 1 <;> (first | rfl | (simp only [List.length_drop, List.length_take, Int.reduceToNat]; omega)))), HR190, HC190, H', ⟨by have := HK1.out; omega⟩, ⟨by (with_reducible repeat (first | apply Kd.R_alloc | apply Kd.R_drewN | apply Kd.R_drew)); exact Kd.R_mono HO189.out (fun _ hk => trivial)⟩, ⟨pB⟩⟩
           ·rw [if_neg c13] at H
            exact absurd H (by simp)
          ·rw [if_neg c12] at H
           exact absurd H (by simp)
         ·rw [if_neg c11] at H
          exact absurd H (by simp)
        ·rw [if_neg c9] at H
         have c9b0 : (t174 == 0) = false := beq_eq_false_iff_ne.mpr c9
         have c9b1 : (t174 != 0) = true := bne_iff_ne.mpr c9
         by_cases c23 : t174 = 255
         ·rw [if_pos c23] at H
          have c23b0 : (t174 == 255) = true := beq_iff_eq.mpr c23
          have c23b1 : (t174 != 255) = false := bne_eq_false_iff_eq.mpr c23
          clear c23
          replace H := Option.bind_eq_some_iff.mp H
          obtain ⟨t191, A240, H⟩ := H
          replace H : (if y182.length < 140737488355328 then ((some (y182 ++ [(t191) % 256] : List Int)).bind fun y192 => (if 0 ≤ t191 then (if t191 ≤ ((x0_1.drop 1).length : Int) then ((word_Bytes.f k1 ((x0_1.drop 1).take (t191 : Int).toNat)).bind fun t196 => (if y192.length + t196.length < 140737488355328 then (pack_Words.l0 k1 ((x0_1.drop 1).drop (t191 : Int).toNat) (y192 ++ t196)) else (none))) else (none)) else (none))) else (none)) = some r := H
          have A24 := Aside0.mk A240
          clear A240
          by_cases c25 : y182.length < 140737488355328
          ·rw [if_pos c25] at H
           have LMc25 := Aside0.mk c25
           clear c25
           obtain ⟨y192, hy192⟩ : ∃ y_ : List Int, y_ = (y182 ++ [(t191) % 256]) := ⟨_, rfl⟩
           replace H : (if 0 ≤ t191 then (if t191 ≤ ((x0_1.drop 1).length : Int) then ((word_Bytes.f k1 ((x0_1.drop 1).take (t191 : Int).toNat)).bind fun t196 => (if y192.length + t196.length < 140737488355328 then (pack_Words.l0 k1 ((x0_1.drop 1).drop (t191 : Int).toNat) (y192 ++ t196)) else (none))) else (none)) else (none)) = some r := by first | (rw [hy192]; with_reducible exact H) | (have H2_ := (Option.bind_some _ _).symm.trans H; rw [hy192]; with_reducible exact H2_) | (have H2_ := (Option.bind_some _ _).symm.trans H; with_reducible exact H2_) | with_reducible exact H | (rw [hy192]; exact H) | exact H
           have Ny192 := Aside0.mk hy192
           clear hy192
           by_cases c26 : 0 ≤ t191
           ·rw [if_pos c26] at H
            have c26b0 := eq_true c26
            have c26b1 : decide (0 ≤ t191) = true := decide_eq_true c26
            clear c26
            by_cases c27 : t191 ≤ ((x0_1.drop 1).length : Int)
            ·rw [if_pos c27] at H
             have c27b0 := eq_true c27
             have c27b1 : decide (t191 ≤ ((x0_1.drop 1).length : Int)) = true := decide_eq_true c27
             clear c27
             replace H := Option.bind_eq_some_iff.mp H
             obtain ⟨t196, A280, H⟩ := H
             replace H : (if y192.length + t196.length < 140737488355328 then (pack_Words.l0 k1 ((x0_1.drop 1).drop (t191 : Int).toNat) (y192 ++ t196)) else (none)) = some r := H
             have A28 := Aside0.mk A280
             clear A280
             by_cases c29 : y192.length + t196.length < 140737488355328
             ·rw [if_pos c29] at H
              have LMc29 := Aside0.mk c29
              clear c29
              obtain ⟨y199, hy199⟩ : ∃ y_ : List Int, y_ = (y192 ++ t196) := ⟨_, rfl⟩
              replace H : (pack_Words.l0 k1 ((x0_1.drop 1).drop (t191 : Int).toNat) y199) = some r := by first | (rw [hy199]; with_reducible exact H) | (have H2_ := (Option.bind_some _ _).symm.trans H; rw [hy199]; with_reducible exact H2_) | (have H2_ := (Option.bind_some _ _).symm.trans H; with_reducible exact H2_) | with_reducible exact H | (rw [hy199]; exact H) | exact H
              have Ny199 := Aside0.mk hy199
              clear hy199
              have c30b0 := eq_true (of_decide_eq_true pA : 0 ≤ t191)
              have c31b0 := eq_true (of_decide_eq_true pA : t191 ≤ ((x0_1.drop 1).length : Int))
              have H' := Aside0.mk H
              clear H
              have p173 : 0 ≤ (0 : Int) := (by omega)
              have q173 : 0 < (x0_1.length : Int) := of_decide_eq_true pA
              obtain ⟨ad173, e173, hx173_0⟩ := Kd.at_int HRq0.out 0 p173 q173
              cases e173
              have qi173 : (0 < x0_1.length) = True := eq_true (by omega)
              (try rw [show ((0 : Int)).toNat = 0 from rfl] at hx173_0)
              (try rw [Addr.add_zero'] at hx173_0)
              replace hx173_0 := (HB.out.cell (World.block_lt_of_cell? w _ hx173_0)).trans hx173_0
              replace p173 := eq_true p173
              replace q173 := eq_true q173
              try go_wp2_with (first | ((with_reducible refine gate_callee (f := 50) rfl ?_); refine goesL_ (some 12) rfl rfl Tryd.func50 (by kernel_rfl) rfl #[.int .u64 (rd x0_1 0)] rfl pM ?_; (with_reducible refine (tagbyte_Of.calls k1 (rd x0_1 0) t174 _ A4.out).mono ?_); rintro e w32 ⟨rfl, hb⟩; refine ⟨_, rfl, ?_⟩; have n0_ := Aside0.mk (Kd.R_below (pR HO_3) hb); have n1_ := Aside0.mk (below_step pB hb); clear HO_3; clear HB; have HO_3 := n0_; have HB := n1_; clear n0_ n1_; (try clear hb); (try clear hb2); (try clear hk); (try clear hi)))
              have n0_ := Aside0.mk (Kd.R_drew HO_3.out)
              have n1_ := Aside0.mk (below_drew1 HB.out)
              clear HO_3
              clear HB
              have HO_3 := n0_
              have HB := n1_
              clear n0_ n1_
              have p178 : 0 ≤ (0 : Int) := (by omega)
              have q178 : 0 < (x0_1.length : Int) := of_decide_eq_true pA
              obtain ⟨ad178, e178, hx178_0⟩ := Kd.at_int HRq0.out 0 p178 q178
              have hw178_0 := hx178_0
              (try rw [show ((0 : Int)).toNat = 0 from rfl] at hw178_0)
              (try rw [show 0 * 1 = 0 from rfl] at hw178_0)
              (try rw [Addr.add_zero'] at hw178_0)
              obtain rfl : ad173 = ad178 := (by injection e178)
              have qi178 : (0 < x0_1.length) = True := eq_true (by omega)
              (try rw [show ((0 : Int)).toNat = 0 from rfl] at hx178_0)
              (try rw [Addr.add_zero'] at hx178_0)
              replace hx178_0 := (HB.out.cell (World.block_lt_of_cell? w _ hx178_0)).trans hx178_0
              replace p178 := eq_true p178
              replace q178 := eq_true q178
              refine start_ (n := 10) (S := fun w' => w'.cell? ad173 = some (.int .u64 (rd x0_1 0))) (ds := []) #[false, false, false, false, false, false, false, false, false, false] (by kernel_rfl) rfl rfl (((HB.out.cell (World.block_lt_of_cell? w _ hw178_0)).trans hw178_0)) (fun hHeld => ?_); refine with_tabW pack_Words.tab4 pack_Words.bits4 (fun HT_ HW_ => ?_)
              generalize w32.drew = w33 at HO_3 HB hx178_0 hHeld ⊢
              refine pure_ (i := 0) (N := some 13) (v := ?_) (a' := ?_) #[true, false, false, false, false, false, false, false, false, false] rfl rfl (any_of HT_.out (by kernel_rfl)) (fun _ _ _ h => h) (Or.inl ⟨by rfl, ?_⟩) ?_ ?_
              rotate_left
              ·intro w'
               go_simp
               with_reducible rfl
              rotate_left
              ·simp only [Act.put, List.setIfInBounds_toArray, List.set_cons_zero, List.set_cons_succ, i64_w, i32_w]
               rfl
              refine pure_ (i := 1) (N := some 14) (v := ?_) (a' := ?_) #[true, true, false, false, false, false, false, false, false, false] rfl rfl (any_of HT_.out (by kernel_rfl)) (fun _ _ _ h => h) (Or.inl ⟨by rfl, ?_⟩) ?_ ?_
              rotate_left
              ·intro w'
               go_simp
               with_reducible rfl
              rotate_left
              ·simp only [Act.put, List.setIfInBounds_toArray, List.set_cons_zero, List.set_cons_succ, i64_w, i32_w]
               rfl
              refine pure_ (i := 4) (N := some 17) (v := ?_) (a' := ?_) #[true, true, false, false, true, false, false, false, false, false] rfl rfl (any_of HT_.out (by kernel_rfl)) (fun _ _ _ h => h) (Or.inl ⟨by rfl, ?_⟩) ?_ ?_
              rotate_left
              ·intro w'
               go_simp
               with_reducible rfl
              rotate_left
              ·simp only [Act.put, List.setIfInBounds_toArray, List.set_cons_zero, List.set_cons_succ, i64_w, i32_w]
               rfl
              refine pure_ (i := 5) (N := some 18) (v := ?_) (a' := ?_) #[true, true, false, false, true, true, false, false, false, false] rfl rfl (any_of HT_.out (by kernel_rfl)) (fun _ _ _ h => h) (Or.inl ⟨by rfl, ?_⟩) ?_ ?_
              rotate_left
              ·intro w'
               go_simp
               with_reducible rfl
              rotate_left
              ·simp only [Act.put, List.setIfInBounds_toArray, List.set_cons_zero, List.set_cons_succ, i64_w, i32_w]
               rfl
              refine take_ (i := 6) (N := some 19) (v := ?_) (a' := ?_) #[true, true, false, false, true, true, true, false, false, false] rfl rfl (take_ofW HT_.out HW_.out (by kernel_rfl)) (fun _ _ _ h => h) (Or.inl ⟨by rfl, ?_⟩) hHeld ?_ ?_
              rotate_left
              ·intro w' s0
               go_simp
               with_reducible rfl
              rotate_left
              ·simp only [Act.put, List.setIfInBounds_toArray, List.set_cons_zero, List.set_cons_succ, i64_w, i32_w]
               rfl
              refine one_ (i := 2) (N := some 15) #[true, true, true, false, true, true, true, false, false, false] rfl rfl (one_of HT_.out (by kernel_rfl)) (by decide) (fun K hK => ?_)
              refine value_ (w1 := ?_) (v := ?_) (by rfl) rfl ?_ ?_
              rotate_left 2
              ·go_simp
               constructor
               ·rfl
               ·rfl
              refine hK.out _ _ ((World.cell?_alloc_lt _ _ _ (World.block_lt_of_cell? _ _ (((HB.out.cell (World.block_lt_of_cell? w _ hw178_0)).trans hw178_0)))).trans (((HB.out.cell (World.block_lt_of_cell? w _ hw178_0)).trans hw178_0))) (fun hHeld => ?_)
              clear hK K
              refine norm_ (a' := ?_) ?_ ?_
              rotate_left
              ·show Act.put _ (some 15) _ = _
               simp only [Act.put, List.setIfInBounds_toArray, List.set_cons_zero, List.set_cons_succ, i64_w, i32_w]
               rfl
              refine one_ (i := 3) (N := some 16) #[true, true, true, true, true, true, true, false, false, false] rfl rfl (one_of HT_.out (by kernel_rfl)) (by decide) (fun K hK => ?_)
              refine Kd.R_append_step (Kd.int .u8) (w0 := w) w.heap.size (by rfl) (.tmp 13) (.tmp 15) 22 5 (.int .u8 0) 1 rfl Tryd.underlying22 info5 rfl (by decide) (by omega) u3 x3_1 t174 [.int .u8 t174] (fun _ => True) (fun _ => False) rfl rfl ?aP (fun _ hk => hk.elim) ?aF ?aO ?aB ?aS ?aL ?_
              (case aP => exact rfl)
              (case aB => exact pB)
              (case aF => exact (fun _ _ => trivial))
              (case aO => exact (pR HO_3))
              (case aS => exact (below_size pB))
              (case aL => have := LMc5.out; omega)
              intro v176 w34 ho hb hg hat
              rw [← Ny175.out] at ho
              have n0_ := Aside0.mk (hb)
              have n1_ := Aside0.mk (ho)
              clear HB
              clear HO_3
              have HB := n0_
              have HO177 := n1_
              clear n0_ n1_
              clear ho hb hg hat
              refine hK.out _ _ (((HB.out.cell (World.block_lt_of_cell? w _ hw178_0)).trans hw178_0)) (fun hHeld => ?_)
              clear hK K
              refine norm_ (a' := ?_) ?_ ?_
              rotate_left
              ·show Act.put _ (some 16) _ = _
               simp only [Act.put, List.setIfInBounds_toArray, List.set_cons_zero, List.set_cons_succ, i64_w, i32_w]
               rfl
              refine one_ (i := 7) (N := some 20) #[true, true, true, true, true, true, true, true, false, false] rfl rfl (one_of HT_.out (by kernel_rfl)) (by decide) (fun K hK => ?_)
              refine goes_ Tryd.func51 (by kernel_rfl) rfl #[.int .u64 (rd x0_1 0)] (by rfl) rfl rfl pM ?_
              with_reducible refine (tagbyte_Bytes.calls k1 (rd x0_1 0) t179 _ A6.out).mono ?_
              rintro e w35 ⟨v180, rfl, ho0, hb⟩
              refine ⟨_, rfl, ?_⟩
              have n0_ := Aside0.mk (Kd.R_elder' (pR HO177) (Kd.R_base ho0) hb)
              have n1_ := Aside0.mk (Kd.R_lower (Kd.R_new' ho0 (Kd.R_lt (pR HO177))) (below_size pB))
              have n2_ := Aside0.mk (below_step pB hb)
              clear HO177
              clear HB
              have HO177 := n0_
              have HO181 := n1_
              have HB := n2_
              clear n0_ n1_ n2_
              (try clear hb)
              (try clear hb2)
              (try clear hk)
              (try clear hi)
              (try clear ho0)
              obtain ⟨Ao37, co37, eo37⟩ := Kd.R_slice HO181.out
              (first | subst eo37 | (injection eo37 with f1_ f2_ f3_; have f4_ := f1_.symm; have f5_ := f3_.symm; clear f1_ f2_ f3_; subst f4_; subst f5_))
              refine hK.out _ _ (((HB.out.cell (World.block_lt_of_cell? w _ hw178_0)).trans hw178_0)) (fun hHeld => ?_)
              clear hK K
              refine norm_ (a' := ?_) ?_ ?_
              rotate_left
              ·show Act.put _ (some 20) _ = _
               simp only [Act.put, List.setIfInBounds_toArray, List.set_cons_zero, List.set_cons_succ, i64_w, i32_w]
               rfl
              refine one_ (i := 8) (N := some 21) #[true, true, true, true, true, true, true, true, true, false] rfl rfl (one_of HT_.out (by kernel_rfl)) (by decide) (fun K hK => ?_)
              refine Kd.R_append_rows_step (Kd.int .u8) (w0 := w) w.heap.size (by rfl) (.tmp 16) (.tmp 20) 22 5 (.int .u8 0) 1 rfl Tryd.underlying22 info5 rfl (by decide) (by omega) v176 y175 t179 _ _ _ (fun k_ => some k_ ≠ (.slice Ao37 t179.length co37 : Value).ownBlock) (fun _ => False) rfl rfl ?aO ?aR (fun _ _ h => h) (fun _ h => h.elim) ?aF ?aB ?aS ?aL ?_
              (case aR => repeat (first | exact (Kd.R_reads' HO181.out).2.2 | (with_reducible refine Kd.C_alloc ?_ _) | (with_reducible refine Kd.C_drewN ?_ _) | (with_reducible refine Kd.C_drew ?_)))
              (case aB => exact pB)
              (case aF => exact (fun k_ hk => Kd.fresh' (Kd.R_lt (pR HO181)) k_ hk))
              (case aO => exact (by (with_reducible repeat (first | apply Kd.R_alloc | apply Kd.R_drewN | apply Kd.R_drew)); exact Kd.R_mono HO177.out (fun _ hk => hk.2)))
              (case aS => exact (below_size pB))
              (case aL => have := LMc7.out; omega)
              intro v183 w36 ho hb hg hat
              rw [← Ny182.out] at ho
              have n0_ := Aside0.mk (Kd.R_after (ok := (fun _ => True)) (pR HO181) hg hat)
              have n1_ := Aside0.mk (hb)
              have n2_ := Aside0.mk (ho)
              clear HO181
              clear HB
              clear HO177
              have HO181 := n0_
              have HB := n1_
              have HO184 := n2_
              clear n0_ n1_ n2_
              clear ho hb hg hat
              refine hK.out _ _ (((HB.out.cell (World.block_lt_of_cell? w _ hw178_0)).trans hw178_0)) (fun hHeld => ?_)
              clear hK K
              refine norm_ (a' := ?_) ?_ ?_
              rotate_left
              ·show Act.put _ (some 21) _ = _
               simp only [Act.put, List.setIfInBounds_toArray, List.set_cons_zero, List.set_cons_succ, i64_w, i32_w]
               rfl
              refine pure_ (i := 9) (N := some 3) (v := ?_) (a' := ?_) #[true, true, true, true, true, true, true, true, true, true] rfl rfl (any_of HT_.out (by kernel_rfl)) (fun _ _ _ h => h) (Or.inl ⟨by rfl, ?_⟩) ?_ ?_
              rotate_left
              ·intro w'
               go_simp
               with_reducible rfl
              rotate_left
              ·simp only [Act.put, List.setIfInBounds_toArray, List.set_cons_zero, List.set_cons_succ, i64_w, i32_w]
               rfl
              refine done_ (done_of HT_.out (by kernel_rfl)) ?_
              obtain ⟨i038, hi038, _, hsz38, _⟩ := info_parts info37
              obtain ⟨A38, hcut38, hA38, hC38⟩ := print_drop_of (P := Tryd.prog) (Value.int .u64) 0 23 37 .i64 Tryd.underlying23 hi038 hsz38 (some ad173) cq0 x0_1 1 (by omega) (of_decide_eq_true pA) HCq0.out
              have HR185 := Aside0.mk (Kd.C_of_reads (h1 := fun _ => rfl) (hA38 _ (Kd.reads_of_C HRq0.out)))
              have HC185 := Aside0.mk hC38
              clear hA38 hC38 hi038 hsz38
              (try simp only [List.length_drop, Int.reduceToNat] at hcut38)
              try go_wp2_with (first | ((with_reducible refine gate_callee (f := 52) rfl ?_); refine goesL_ (some 37) rfl rfl Tryd.func52 (by kernel_rfl) rfl #[.slice A38 (x0_1.drop 1).length (cq0 - 1), .func (.func 54) #[] #[]] rfl (by (try simp only [List.map_toArray, List.map_cons, List.map_nil]); first | done | (rw [show (x0_1.drop 1).length = (x0_1.length - 1) from List.length_drop] <;> rfl) | rfl | (simp only [List.length_drop, List.length_take]; rfl)) ?_; (with_reducible refine (pack_run_with_tagbyte_Dense.calls k1 _ _ (x0_1.drop 1)  t191 _ ?side1 ?side2 A24.out).mono ?_); (case side1 => repeat (first | exact (Kd.C_below HR185.out HB.out) | (with_reducible refine Kd.C_alloc ?_ _) | (with_reducible refine Kd.C_drewN ?_ _) | (with_reducible refine Kd.C_drew ?_))); (case side2 => exact HC185.out); rintro e w39 ⟨rfl, hb⟩; refine ⟨_, rfl, ?_⟩; have n0_ := Aside0.mk (Kd.R_below (pR HO181) hb); have n1_ := Aside0.mk (Kd.R_below (pR HO184) hb); have n2_ := Aside0.mk (below_step pB hb); clear HO181; clear HO184; clear HB; have HO181 := n0_; have HO184 := n1_; have HB := n2_; clear n0_ n1_ n2_; (try clear hb); (try clear hb2); (try clear hk); (try clear hi)))
              have n0_ := Aside0.mk (Kd.R_drew HO181.out)
              have n1_ := Aside0.mk (Kd.R_drew HO184.out)
              have n2_ := Aside0.mk (below_drew1 HB.out)
              clear HO181
              clear HO184
              clear HB
              have HO181 := n0_
              have HO184 := n1_
              have HB := n2_
              clear n0_ n1_ n2_
              obtain ⟨i041, hi041, _, hsz41, _⟩ := info_parts info37
              obtain ⟨hcut41, hA41, hC41⟩ := print_take_of (P := Tryd.prog) (Value.int .u64) 0 23 37 .i64 Tryd.underlying23 hi041 hsz41 A38 (cq0 - 1) (x0_1.drop 1) t191 (of_decide_eq_true pA) (of_decide_eq_true pA) HC185.out
              have HR195 := Aside0.mk (Kd.C_of_reads (h1 := fun _ => rfl) (hA41 _ (Kd.reads_of_C HR185.out)))
              have HC195 := Aside0.mk hC41
              clear hA41 hC41 hi041 hsz41
              (try simp only [List.length_drop, Int.reduceToNat] at hcut41)
              refine start_ (n := 11) (S := fun w' => True) (ds := []) #[false, false, false, false, false, false, false, false, false, false, false] (by kernel_rfl) rfl rfl trivial (fun hHeld => ?_); refine with_tabW pack_Words.tab13 pack_Words.bits13 (fun HT_ HW_ => ?_)
              generalize w39.drew = w40 at HO181 HO184 HB HR195 hHeld ⊢
              refine pure_ (i := 0) (N := some 38) (v := ?_) (a' := ?_) #[true, false, false, false, false, false, false, false, false, false, false] rfl rfl (any_of HT_.out (by kernel_rfl)) (fun _ _ _ h => h) (Or.inl ⟨by rfl, ?_⟩) ?_ ?_
              rotate_left
              ·intro w'
               go_simp
               with_reducible rfl
              rotate_left
              ·simp only [Act.put, List.setIfInBounds_toArray, List.set_cons_zero, List.set_cons_succ, i64_w, i32_w]
               rfl
              refine pure_ (i := 1) (N := some 39) (v := ?_) (a' := ?_) #[true, true, false, false, false, false, false, false, false, false, false] rfl rfl (any_of HT_.out (by kernel_rfl)) (fun _ _ _ h => h) (Or.inl ⟨by rfl, ?_⟩) ?_ ?_
              rotate_left
              ·intro w'
               go_simp
               with_reducible rfl
              rotate_left
              ·simp only [Act.put, List.setIfInBounds_toArray, List.set_cons_zero, List.set_cons_succ, i64_w, i32_w]
               rfl
              refine pure_ (i := 2) (N := some 40) (v := ?_) (a' := ?_) #[true, true, true, false, false, false, false, false, false, false, false] rfl rfl (any_of HT_.out (by kernel_rfl)) (fun _ _ _ h => h) (Or.inl ⟨by rfl, ?_⟩) ?_ ?_
              rotate_left
              ·intro w'
               go_simp
               with_reducible rfl
              rotate_left
              ·simp only [Act.put, List.setIfInBounds_toArray, List.set_cons_zero, List.set_cons_succ, i64_w, i32_w]
               rfl
              refine pure_ (i := 5) (N := some 43) (v := ?_) (a' := ?_) #[true, true, true, false, false, true, false, false, false, false, false] rfl rfl (any_of HT_.out (by kernel_rfl)) (fun _ _ _ h => h) (Or.inl ⟨by rfl, ?_⟩) ?_ ?_
              rotate_left
              ·intro w'
               go_simp
               with_reducible rfl
              rotate_left
              ·simp only [Act.put, List.setIfInBounds_toArray, List.set_cons_zero, List.set_cons_succ, i64_w, i32_w]
               rfl
              refine pure_ (i := 6) (N := some 44) (v := ?_) (a' := ?_) #[true, true, true, false, false, true, true, false, false, false, false] rfl rfl (any_of HT_.out (by kernel_rfl)) (fun _ _ _ h => h) (Or.inl ⟨by rfl, ?_⟩) ?_ ?_
              rotate_left
              ·intro w'
               go_simp
               with_reducible rfl
              rotate_left
              ·simp only [Act.put, List.setIfInBounds_toArray, List.set_cons_zero, List.set_cons_succ, i64_w, i32_w]
               rfl
              refine pure_ (i := 7) (N := some 45) (v := ?_) (a' := ?_) #[true, true, true, false, false, true, true, true, false, false, false] rfl rfl (any_of HT_.out (by kernel_rfl)) (fun _ _ _ h => h) (Or.inl ⟨by rfl, ?_⟩) ?_ ?_
              rotate_left
              ·intro w'
               go_simp
               with_reducible rfl
              rotate_left
              ·simp only [Act.put, List.setIfInBounds_toArray, List.set_cons_zero, List.set_cons_succ, i64_w, i32_w]
               rfl
              refine one_ (i := 3) (N := some 41) #[true, true, true, true, false, true, true, true, false, false, false] rfl rfl (one_of HT_.out (by kernel_rfl)) (by decide) (fun K hK => ?_)
              refine value_ (w1 := ?_) (v := ?_) (by rfl) rfl ?_ ?_
              rotate_left 2
              ·go_simp
               constructor
               ·rfl
               ·rfl
              refine hK.out _ _ trivial (fun hHeld => ?_)
              clear hK K
              refine norm_ (a' := ?_) ?_ ?_
              rotate_left
              ·show Act.put _ (some 41) _ = _
               simp only [Act.put, List.setIfInBounds_toArray, List.set_cons_zero, List.set_cons_succ, i64_w, i32_w]
               rfl
              refine one_ (i := 4) (N := some 42) #[true, true, true, true, true, true, true, true, false, false, false] rfl rfl (one_of HT_.out (by kernel_rfl)) (by decide) (fun K hK => ?_)
              refine Kd.R_append_step (Kd.int .u8) (w0 := w) w.heap.size (by rfl) (.tmp 38) (.tmp 41) 22 5 (.int .u8 0) 1 rfl Tryd.underlying22 info5 rfl (by decide) (by omega) v183 y182 ((t191) % 256) [.int .u8 ((t191) % 256)] (fun k_ => some k_ ≠ (.slice Ao37 t179.length co37 : Value).ownBlock) (fun _ => False) rfl rfl ?aP (fun _ hk => hk.elim) ?aF ?aO ?aB ?aS ?aL ?_
              (case aP => exact rfl)
              (case aB => exact pB)
              (case aF => exact (fun k_ hk => Kd.fresh' (Kd.R_lt (pR HO181)) k_ hk))
              (case aO => exact (pR HO184))
              (case aS => exact (below_size pB))
              (case aL => have := LMc25.out; omega)
              intro v193 w42 ho hb hg hat
              rw [← Ny192.out] at ho
              have n0_ := Aside0.mk (Kd.R_after (ok := (fun _ => True)) (pR HO181) hg hat)
              have n1_ := Aside0.mk (hb)
              have n2_ := Aside0.mk (ho)
              clear HO181
              clear HB
              clear HO184
              have HO181 := n0_
              have HB := n1_
              have HO194 := n2_
              clear n0_ n1_ n2_
              clear ho hb hg hat
              refine hK.out _ _ trivial (fun hHeld => ?_)
              clear hK K
              refine norm_ (a' := ?_) ?_ ?_
              rotate_left
              ·show Act.put _ (some 42) _ = _
               simp only [Act.put, List.setIfInBounds_toArray, List.set_cons_zero, List.set_cons_succ, i64_w, i32_w]
               rfl
              refine one_ (i := 8) (N := some 46) #[true, true, true, true, true, true, true, true, true, false, false] rfl rfl (one_of HT_.out (by kernel_rfl)) (by decide) (fun K hK => ?_)
              refine goes_ Tryd.func30 (by kernel_rfl) rfl #[.slice A38 ((x0_1.drop 1).take (t191 : Int).toNat).length (cq0 - 1)] (by rfl) rfl rfl (by (try simp only [List.map_toArray, List.map_cons, List.map_nil]); first | done | (rw [show ((x0_1.drop 1).take (t191 : Int).toNat).length = t191.toNat from (by rw [List.length_take]; have h_ : (t191 : Int) ≤ ((x0_1.drop 1).length : Int) := of_decide_eq_true pA; omega)] <;> rfl) | rfl | (simp only [List.length_drop, List.length_take]; rfl)) ?_
              with_reducible refine (word_Bytes.calls k1 _ _ ((x0_1.drop 1).take (t191 : Int).toNat) t196 _ ?side1 ?side2 A28.out).mono ?_
              (case side1 => repeat (first | exact (Kd.C_below HR195.out HB.out) | (with_reducible refine Kd.C_alloc ?_ _) | (with_reducible refine Kd.C_drewN ?_ _) | (with_reducible refine Kd.C_drew ?_)))
              (case side2 => exact HC195.out)
              rintro e w43 ⟨v197, rfl, ho0, hb⟩
              refine ⟨_, rfl, ?_⟩
              have n0_ := Aside0.mk (Kd.R_elder' (pR HO181) (Kd.R_base ho0) hb)
              have n1_ := Aside0.mk (Kd.R_elder' (pR HO194) (Kd.R_base ho0) hb)
              have n2_ := Aside0.mk (Kd.R_lower (Kd.R_new' (Kd.R_new' ho0 (Kd.R_lt (pR HO181))) (Kd.R_lt (pR HO194))) (below_size pB))
              have n3_ := Aside0.mk (below_step pB hb)
              clear HO181
              clear HO194
              clear HB
              have HO181 := n0_
              have HO194 := n1_
              have HO198 := n2_
              have HB := n3_
              clear n0_ n1_ n2_ n3_
              (try clear hb)
              (try clear hb2)
              (try clear hk)
              (try clear hi)
              (try clear ho0)
              obtain ⟨Ao45, co45, eo45⟩ := Kd.R_slice HO198.out
              (first | subst eo45 | (injection eo45 with f1_ f2_ f3_; have f4_ := f1_.symm; have f5_ := f3_.symm; clear f1_ f2_ f3_; subst f4_; subst f5_))
              refine hK.out _ _ trivial (fun hHeld => ?_)
              clear hK K
              refine norm_ (a' := ?_) ?_ ?_
              rotate_left
              ·show Act.put _ (some 46) _ = _
               simp only [Act.put, List.setIfInBounds_toArray, List.set_cons_zero, List.set_cons_succ, i64_w, i32_w]
               rfl
              refine one_ (i := 9) (N := some 47) #[true, true, true, true, true, true, true, true, true, true, false] rfl rfl (one_of HT_.out (by kernel_rfl)) (by decide) (fun K hK => ?_)
              refine Kd.R_append_rows_step (Kd.int .u8) (w0 := w) w.heap.size (by rfl) (.tmp 42) (.tmp 46) 22 5 (.int .u8 0) 1 rfl Tryd.underlying22 info5 rfl (by decide) (by omega) v193 y192 t196 _ _ _ (fun k_ => some k_ ≠ (.slice Ao37 t179.length co37 : Value).ownBlock ∧ some k_ ≠ (.slice Ao45 t196.length co45 : Value).ownBlock) (fun _ => False) rfl rfl ?aO ?aR (fun _ _ h => h) (fun _ h => h.elim) ?aF ?aB ?aS ?aL ?_
              (case aR => repeat (first | exact (Kd.R_reads' HO198.out).2.2 | (with_reducible refine Kd.C_alloc ?_ _) | (with_reducible refine Kd.C_drewN ?_ _) | (with_reducible refine Kd.C_drew ?_)))
              (case aB => exact pB)
              (case aF => exact (fun k_ hk => ⟨Kd.fresh' (Kd.R_lt (pR HO181)) k_ hk, Kd.fresh' (Kd.R_lt (pR HO198)) k_ hk⟩))
              (case aO => exact (pR HO194))
              (case aS => exact (below_size pB))
              (case aL => have := LMc29.out; omega)
              intro v200 w44 ho hb hg hat
              rw [← Ny199.out] at ho
              have n0_ := Aside0.mk (Kd.R_after (ok := (fun k_ => some k_ ≠ (.slice Ao45 t196.length co45 : Value).ownBlock)) (by (with_reducible repeat (first | apply Kd.R_alloc | apply Kd.R_drewN | apply Kd.R_drew)); exact Kd.R_mono HO181.out (fun _ hk => ⟨hk.2, hk.1.2⟩)) hg hat)
              have n1_ := Aside0.mk (Kd.R_after (ok := (fun k_ => some k_ ≠ (.slice Ao37 t179.length co37 : Value).ownBlock)) (by (with_reducible repeat (first | apply Kd.R_alloc | apply Kd.R_drewN | apply Kd.R_drew)); exact Kd.R_mono HO198.out (fun _ hk => ⟨hk.1.2, hk.2⟩)) hg hat)
              have n2_ := Aside0.mk (hb)
              have n3_ := Aside0.mk (ho)
              clear HO181
              clear HO198
              clear HB
              clear HO194
              have HO181 := n0_
              have HO198 := n1_
              have HB := n2_
              have HO201 := n3_
              clear n0_ n1_ n2_ n3_
              clear ho hb hg hat
              refine hK.out _ _ trivial (fun hHeld => ?_)
              clear hK K
              refine norm_ (a' := ?_) ?_ ?_
              rotate_left
              ·show Act.put _ (some 47) _ = _
               simp only [Act.put, List.setIfInBounds_toArray, List.set_cons_zero, List.set_cons_succ, i64_w, i32_w]
               rfl
              refine pure_ (i := 10) (N := some 3) (v := ?_) (a' := ?_) #[true, true, true, true, true, true, true, true, true, true, true] rfl rfl (any_of HT_.out (by kernel_rfl)) (fun _ _ _ h => h) (Or.inl ⟨by rfl, ?_⟩) ?_ ?_
              rotate_left
              ·intro w'
               go_simp
               with_reducible rfl
              rotate_left
              ·simp only [Act.put, List.setIfInBounds_toArray, List.set_cons_zero, List.set_cons_succ, i64_w, i32_w]
               rfl
              refine done_ (done_of HT_.out (by kernel_rfl)) ?_
              obtain ⟨i046, hi046, _, hsz46, _⟩ := info_parts info37
              obtain ⟨A46, hcut46, hA46, hC46⟩ := print_drop_of (P := Tryd.prog) (Value.int .u64) 0 23 37 .i64 Tryd.underlying23 hi046 hsz46 A38 (cq0 - 1) (x0_1.drop 1) t191 (of_decide_eq_true pA) (of_decide_eq_true pA) HC185.out
              have HR202 := Aside0.mk (Kd.C_of_reads (h1 := fun _ => rfl) (hA46 _ (Kd.reads_of_C HR185.out)))
              have HC202 := Aside0.mk hC46
              clear hA46 hC46 hi046 hsz46
              (try simp only [List.length_drop, Int.reduceToNat] at hcut46)
              try go_wp2
              go_roundg k1
              case measure => have := HK1.out; omega
              case rel => exact ⟨((x0_1.drop 1).drop (t191 : Int).toNat), (y199), _, _, (by first | rfl | (simp only [List.length_drop, List.length_take, Int.reduceToNat]; done) | (simp only [List.length_drop, List.length_take, Int.reduceToNat]; rfl) | (congr 1 <;> (first | rfl | (simp only [List.length_drop, List.length_take, Int.reduceToNat]; omega)))), HR202, HC202, H', ⟨by have := HK1.out; omega⟩, ⟨by (with_reducible repeat (first | apply Kd.R_alloc | apply Kd.R_drewN | apply Kd.R_drew)); exact Kd.R_mono HO201.out (fun _ hk => trivial)⟩, ⟨pB⟩⟩
             ·rw [if_neg c29] at H
              exact absurd H (by simp)
            ·rw [if_neg c27] at H
             exact absurd H (by simp)
           ·rw [if_neg c26] at H
            exact absurd H (by simp)
          ·rw [if_neg c25] at H
           exact absurd H (by simp)
         ·rw [if_neg c23] at H
          have c23b0 : (t174 == 255) = false := beq_eq_false_iff_ne.mpr c23
          have c23b1 : (t174 != 255) = true := bne_iff_ne.mpr c23
          have H' := Aside0.mk H
          clear H
          have p173 : 0 ≤ (0 : Int) := (by omega)
          have q173 : 0 < (x0_1.length : Int) := of_decide_eq_true pA
          obtain ⟨ad173, e173, hx173_0⟩ := Kd.at_int HRq0.out 0 p173 q173
          cases e173
          have qi173 : (0 < x0_1.length) = True := eq_true (by omega)
          (try rw [show ((0 : Int)).toNat = 0 from rfl] at hx173_0)
          (try rw [Addr.add_zero'] at hx173_0)
          replace hx173_0 := (HB.out.cell (World.block_lt_of_cell? w _ hx173_0)).trans hx173_0
          replace p173 := eq_true p173
          replace q173 := eq_true q173
          try go_wp2_with (first | ((with_reducible refine gate_callee (f := 50) rfl ?_); refine goesL_ (some 12) rfl rfl Tryd.func50 (by kernel_rfl) rfl #[.int .u64 (rd x0_1 0)] rfl pM ?_; (with_reducible refine (tagbyte_Of.calls k1 (rd x0_1 0) t174 _ A4.out).mono ?_); rintro e w47 ⟨rfl, hb⟩; refine ⟨_, rfl, ?_⟩; have n0_ := Aside0.mk (Kd.R_below (pR HO_3) hb); have n1_ := Aside0.mk (below_step pB hb); clear HO_3; clear HB; have HO_3 := n0_; have HB := n1_; clear n0_ n1_; (try clear hb); (try clear hb2); (try clear hk); (try clear hi)))
          have n0_ := Aside0.mk (Kd.R_drew HO_3.out)
          have n1_ := Aside0.mk (below_drew1 HB.out)
          clear HO_3
          clear HB
          have HO_3 := n0_
          have HB := n1_
          clear n0_ n1_
          have p178 : 0 ≤ (0 : Int) := (by omega)
          have q178 : 0 < (x0_1.length : Int) := of_decide_eq_true pA
          obtain ⟨ad178, e178, hx178_0⟩ := Kd.at_int HRq0.out 0 p178 q178
          have hw178_0 := hx178_0
          (try rw [show ((0 : Int)).toNat = 0 from rfl] at hw178_0)
          (try rw [show 0 * 1 = 0 from rfl] at hw178_0)
          (try rw [Addr.add_zero'] at hw178_0)
          obtain rfl : ad173 = ad178 := (by injection e178)
          have qi178 : (0 < x0_1.length) = True := eq_true (by omega)
          (try rw [show ((0 : Int)).toNat = 0 from rfl] at hx178_0)
          (try rw [Addr.add_zero'] at hx178_0)
          replace hx178_0 := (HB.out.cell (World.block_lt_of_cell? w _ hx178_0)).trans hx178_0
          replace p178 := eq_true p178
          replace q178 := eq_true q178
          refine start_ (n := 10) (S := fun w' => w'.cell? ad173 = some (.int .u64 (rd x0_1 0))) (ds := []) #[false, false, false, false, false, false, false, false, false, false] (by kernel_rfl) rfl rfl (((HB.out.cell (World.block_lt_of_cell? w _ hw178_0)).trans hw178_0)) (fun hHeld => ?_); refine with_tabW pack_Words.tab4 pack_Words.bits4 (fun HT_ HW_ => ?_)
          generalize w47.drew = w48 at HO_3 HB hx178_0 hHeld ⊢
          refine pure_ (i := 0) (N := some 13) (v := ?_) (a' := ?_) #[true, false, false, false, false, false, false, false, false, false] rfl rfl (any_of HT_.out (by kernel_rfl)) (fun _ _ _ h => h) (Or.inl ⟨by rfl, ?_⟩) ?_ ?_
          rotate_left
          ·intro w'
           go_simp
           with_reducible rfl
          rotate_left
          ·simp only [Act.put, List.setIfInBounds_toArray, List.set_cons_zero, List.set_cons_succ, i64_w, i32_w]
           rfl
          refine pure_ (i := 1) (N := some 14) (v := ?_) (a' := ?_) #[true, true, false, false, false, false, false, false, false, false] rfl rfl (any_of HT_.out (by kernel_rfl)) (fun _ _ _ h => h) (Or.inl ⟨by rfl, ?_⟩) ?_ ?_
          rotate_left
          ·intro w'
           go_simp
           with_reducible rfl
          rotate_left
          ·simp only [Act.put, List.setIfInBounds_toArray, List.set_cons_zero, List.set_cons_succ, i64_w, i32_w]
           rfl
          refine pure_ (i := 4) (N := some 17) (v := ?_) (a' := ?_) #[true, true, false, false, true, false, false, false, false, false] rfl rfl (any_of HT_.out (by kernel_rfl)) (fun _ _ _ h => h) (Or.inl ⟨by rfl, ?_⟩) ?_ ?_
          rotate_left
          ·intro w'
           go_simp
           with_reducible rfl
          rotate_left
          ·simp only [Act.put, List.setIfInBounds_toArray, List.set_cons_zero, List.set_cons_succ, i64_w, i32_w]
           rfl
          refine pure_ (i := 5) (N := some 18) (v := ?_) (a' := ?_) #[true, true, false, false, true, true, false, false, false, false] rfl rfl (any_of HT_.out (by kernel_rfl)) (fun _ _ _ h => h) (Or.inl ⟨by rfl, ?_⟩) ?_ ?_
          rotate_left
          ·intro w'
           go_simp
           with_reducible rfl
          rotate_left
          ·simp only [Act.put, List.setIfInBounds_toArray, List.set_cons_zero, List.set_cons_succ, i64_w, i32_w]
           rfl
          refine take_ (i := 6) (N := some 19) (v := ?_) (a' := ?_) #[true, true, false, false, true, true, true, false, false, false] rfl rfl (take_ofW HT_.out HW_.out (by kernel_rfl)) (fun _ _ _ h => h) (Or.inl ⟨by rfl, ?_⟩) hHeld ?_ ?_
          rotate_left
          ·intro w' s0
           go_simp
           with_reducible rfl
          rotate_left
          ·simp only [Act.put, List.setIfInBounds_toArray, List.set_cons_zero, List.set_cons_succ, i64_w, i32_w]
           rfl
          refine one_ (i := 2) (N := some 15) #[true, true, true, false, true, true, true, false, false, false] rfl rfl (one_of HT_.out (by kernel_rfl)) (by decide) (fun K hK => ?_)
          refine value_ (w1 := ?_) (v := ?_) (by rfl) rfl ?_ ?_
          rotate_left 2
          ·go_simp
           constructor
           ·rfl
           ·rfl
          refine hK.out _ _ ((World.cell?_alloc_lt _ _ _ (World.block_lt_of_cell? _ _ (((HB.out.cell (World.block_lt_of_cell? w _ hw178_0)).trans hw178_0)))).trans (((HB.out.cell (World.block_lt_of_cell? w _ hw178_0)).trans hw178_0))) (fun hHeld => ?_)
          clear hK K
          refine norm_ (a' := ?_) ?_ ?_
          rotate_left
          ·show Act.put _ (some 15) _ = _
           simp only [Act.put, List.setIfInBounds_toArray, List.set_cons_zero, List.set_cons_succ, i64_w, i32_w]
           rfl
          refine one_ (i := 3) (N := some 16) #[true, true, true, true, true, true, true, false, false, false] rfl rfl (one_of HT_.out (by kernel_rfl)) (by decide) (fun K hK => ?_)
          refine Kd.R_append_step (Kd.int .u8) (w0 := w) w.heap.size (by rfl) (.tmp 13) (.tmp 15) 22 5 (.int .u8 0) 1 rfl Tryd.underlying22 info5 rfl (by decide) (by omega) u3 x3_1 t174 [.int .u8 t174] (fun _ => True) (fun _ => False) rfl rfl ?aP (fun _ hk => hk.elim) ?aF ?aO ?aB ?aS ?aL ?_
          (case aP => exact rfl)
          (case aB => exact pB)
          (case aF => exact (fun _ _ => trivial))
          (case aO => exact (pR HO_3))
          (case aS => exact (below_size pB))
          (case aL => have := LMc5.out; omega)
          intro v176 w49 ho hb hg hat
          rw [← Ny175.out] at ho
          have n0_ := Aside0.mk (hb)
          have n1_ := Aside0.mk (ho)
          clear HB
          clear HO_3
          have HB := n0_
          have HO177 := n1_
          clear n0_ n1_
          clear ho hb hg hat
          refine hK.out _ _ (((HB.out.cell (World.block_lt_of_cell? w _ hw178_0)).trans hw178_0)) (fun hHeld => ?_)
          clear hK K
          refine norm_ (a' := ?_) ?_ ?_
          rotate_left
          ·show Act.put _ (some 16) _ = _
           simp only [Act.put, List.setIfInBounds_toArray, List.set_cons_zero, List.set_cons_succ, i64_w, i32_w]
           rfl
          refine one_ (i := 7) (N := some 20) #[true, true, true, true, true, true, true, true, false, false] rfl rfl (one_of HT_.out (by kernel_rfl)) (by decide) (fun K hK => ?_)
          refine goes_ Tryd.func51 (by kernel_rfl) rfl #[.int .u64 (rd x0_1 0)] (by rfl) rfl rfl pM ?_
          with_reducible refine (tagbyte_Bytes.calls k1 (rd x0_1 0) t179 _ A6.out).mono ?_
          rintro e w50 ⟨v180, rfl, ho0, hb⟩
          refine ⟨_, rfl, ?_⟩
          have n0_ := Aside0.mk (Kd.R_elder' (pR HO177) (Kd.R_base ho0) hb)
          have n1_ := Aside0.mk (Kd.R_lower (Kd.R_new' ho0 (Kd.R_lt (pR HO177))) (below_size pB))
          have n2_ := Aside0.mk (below_step pB hb)
          clear HO177
          clear HB
          have HO177 := n0_
          have HO181 := n1_
          have HB := n2_
          clear n0_ n1_ n2_
          (try clear hb)
          (try clear hb2)
          (try clear hk)
          (try clear hi)
          (try clear ho0)
          obtain ⟨Ao52, co52, eo52⟩ := Kd.R_slice HO181.out
          (first | subst eo52 | (injection eo52 with f1_ f2_ f3_; have f4_ := f1_.symm; have f5_ := f3_.symm; clear f1_ f2_ f3_; subst f4_; subst f5_))
          refine hK.out _ _ (((HB.out.cell (World.block_lt_of_cell? w _ hw178_0)).trans hw178_0)) (fun hHeld => ?_)
          clear hK K
          refine norm_ (a' := ?_) ?_ ?_
          rotate_left
          ·show Act.put _ (some 20) _ = _
           simp only [Act.put, List.setIfInBounds_toArray, List.set_cons_zero, List.set_cons_succ, i64_w, i32_w]
           rfl
          refine one_ (i := 8) (N := some 21) #[true, true, true, true, true, true, true, true, true, false] rfl rfl (one_of HT_.out (by kernel_rfl)) (by decide) (fun K hK => ?_)
          refine Kd.R_append_rows_step (Kd.int .u8) (w0 := w) w.heap.size (by rfl) (.tmp 16) (.tmp 20) 22 5 (.int .u8 0) 1 rfl Tryd.underlying22 info5 rfl (by decide) (by omega) v176 y175 t179 _ _ _ (fun k_ => some k_ ≠ (.slice Ao52 t179.length co52 : Value).ownBlock) (fun _ => False) rfl rfl ?aO ?aR (fun _ _ h => h) (fun _ h => h.elim) ?aF ?aB ?aS ?aL ?_
          (case aR => repeat (first | exact (Kd.R_reads' HO181.out).2.2 | (with_reducible refine Kd.C_alloc ?_ _) | (with_reducible refine Kd.C_drewN ?_ _) | (with_reducible refine Kd.C_drew ?_)))
          (case aB => exact pB)
          (case aF => exact (fun k_ hk => Kd.fresh' (Kd.R_lt (pR HO181)) k_ hk))
          (case aO => exact (by (with_reducible repeat (first | apply Kd.R_alloc | apply Kd.R_drewN | apply Kd.R_drew)); exact Kd.R_mono HO177.out (fun _ hk => hk.2)))
          (case aS => exact (below_size pB))
          (case aL => have := LMc7.out; omega)
          intro v183 w51 ho hb hg hat
          rw [← Ny182.out] at ho
          have n0_ := Aside0.mk (Kd.R_after (ok := (fun _ => True)) (pR HO181) hg hat)
          have n1_ := Aside0.mk (hb)
          have n2_ := Aside0.mk (ho)
          clear HO181
          clear HB
          clear HO177
          have HO181 := n0_
          have HB := n1_
          have HO184 := n2_
          clear n0_ n1_ n2_
          clear ho hb hg hat
          refine hK.out _ _ (((HB.out.cell (World.block_lt_of_cell? w _ hw178_0)).trans hw178_0)) (fun hHeld => ?_)
          clear hK K
          refine norm_ (a' := ?_) ?_ ?_
          rotate_left
          ·show Act.put _ (some 21) _ = _
           simp only [Act.put, List.setIfInBounds_toArray, List.set_cons_zero, List.set_cons_succ, i64_w, i32_w]
           rfl
          refine pure_ (i := 9) (N := some 3) (v := ?_) (a' := ?_) #[true, true, true, true, true, true, true, true, true, true] rfl rfl (any_of HT_.out (by kernel_rfl)) (fun _ _ _ h => h) (Or.inl ⟨by rfl, ?_⟩) ?_ ?_
          rotate_left
          ·intro w'
           go_simp
           with_reducible rfl
          rotate_left
          ·simp only [Act.put, List.setIfInBounds_toArray, List.set_cons_zero, List.set_cons_succ, i64_w, i32_w]
           rfl
          refine done_ (done_of HT_.out (by kernel_rfl)) ?_
          obtain ⟨i053, hi053, _, hsz53, _⟩ := info_parts info37
          obtain ⟨A53, hcut53, hA53, hC53⟩ := print_drop_of (P := Tryd.prog) (Value.int .u64) 0 23 37 .i64 Tryd.underlying23 hi053 hsz53 (some ad173) cq0 x0_1 1 (by omega) (of_decide_eq_true pA) HCq0.out
          have HR185 := Aside0.mk (Kd.C_of_reads (h1 := fun _ => rfl) (hA53 _ (Kd.reads_of_C HRq0.out)))
          have HC185 := Aside0.mk hC53
          clear hA53 hC53 hi053 hsz53
          (try simp only [List.length_drop, Int.reduceToNat] at hcut53)
          try go_wp2
          go_roundg k1
          case measure => have := HK1.out; omega
          case rel => exact ⟨(x0_1.drop 1), (y182), _, _, (by first | rfl | (simp only [List.length_drop, List.length_take, Int.reduceToNat]; done) | (simp only [List.length_drop, List.length_take, Int.reduceToNat]; rfl) | (congr 1 <;> (first | rfl | (simp only [List.length_drop, List.length_take, Int.reduceToNat]; omega)))), HR185, HC185, H', ⟨by have := HK1.out; omega⟩, ⟨by (with_reducible repeat (first | apply Kd.R_alloc | apply Kd.R_drewN | apply Kd.R_drew)); exact Kd.R_mono HO184.out (fun _ hk => trivial)⟩, ⟨pB⟩⟩
       ·rw [if_neg c8] at H
        exact absurd H (by simp)
      ·rw [if_neg c7] at H
       exact absurd H (by simp)
     ·rw [if_neg c5] at H
      exact absurd H (by simp)
    ·rw [if_neg c3] at H
     exact absurd H (by simp)
   ·rw [if_neg c2] at H
    have c2b0 : decide (0 < (x0_1.length : Int)) = false := decide_eq_false c2
    have c2b1 : decide (0 < x0_1.length) = false := decide_eq_false (by omega)
    clear c2
    obtain rfl := Option.some.inj H
    go_wp2
    (try rw [Exit.noGoto_ret])
    go_ret
    exact ⟨_, by first | rfl | (simp [errW_none, errW_some] <;> rfl) | (simp [*, errW_none, errW_some] <;> rfl), by (with_reducible repeat (first | apply Kd.R_alloc | apply Kd.R_drewN | apply Kd.R_drew)); exact HO_3.out, pB⟩
end Go.Proofs.YtnchacmhjbkmhaaDoor.PGrammarChoices
