/- (Halved.) Printed functions of a law, and their walks. -/
import Derived.Test.YtnchacmhjbkmhaaDoorXShortC
import Derived.Test.YtnchacmhjbkmhaaDoorPGrammarChoicesx0C
import Derived.Test.YtnchacmhjbkmhaaDoorPGrammarChoicesx2C
import Derived.Test.YtnchacmhjbkmhaaDoorPGrammarChoicesx3C
namespace Go.Proofs.YtnchacmhjbkmhaaDoor.PGrammarChoices
open Go.RowKit Go.Proofs.YtnchacmhjbkmhaaDoorW.PrintWords Go.Proofs.YtnchacmhjbkmhaaDoorW.PrintLast Go.Proofs.YtnchacmhjbkmhaaDoorW.PrintMore
open Go.Proofs.YtnchacmhjbkmhaaDoor.PUnBase
open Go.Proofs.YtnchacmhjbkmhaaDoor.POfBase (tagbyte_Of.f tagbyte_Of.calls tagbyte_Of.mono tagbyte_Of.mono_l)
attribute [local go_sem] max2_int min2_int max_two min_two max_three min_three max_four min_four   -- for this text's walks alone
set_option linter.unusedVariables false
set_option linter.unusedSimpArgs false
set_option maxHeartbeats 8000000
set_option maxRecDepth 100000
def tagbyte_Dense.f (k : Nat) (a0 : Int) : Option (Bool) := (tagbyte_Of.f k a0).bind fun t167 => ((tagbyte_Ones.f t167).bind fun t168 => (some (decide (t168 ≥ 7))))
theorem tagbyte_Dense.mono : ∀ a0 k, LeO (tagbyte_Dense.f k a0) (tagbyte_Dense.f (k + 1) a0) := by
 intro a0 k
 unfold tagbyte_Dense.f
 repeat' first
   | (with_reducible exact tagbyte_Of.mono _ _)
   | (with_reducible exact LeO.refl _)
   | (with_reducible exact LeO.none _)
   | (with_reducible refine LeO.ite ?_ ?_)
   | (with_reducible refine LeO.bind ?_ (fun _ => ?_))
   | exact tagbyte_Of.mono _ _
   | exact LeO.none _
   | refine LeO.ite ?_ ?_
   | refine LeO.bind ?_ (fun _ => ?_)
theorem tagbyte_Dense.calls (k : Nat) (a0 : Int) (r : Bool) (w : World) (h : tagbyte_Dense.f k a0 = some r) :
  Calls Tryd.prog 54 #[.int .u64 a0] w fun e w' => e = .returned (.bool r) ∧ Below w.heap.size w w' := by
 have HB := Aside0.mk (Below.refl w.heap.size w)
 have H : ((tagbyte_Of.f k a0).bind fun t167 => ((tagbyte_Ones.f t167).bind fun t168 => (some (decide (t168 ≥ 7))))) = some r := h
 clear h
 replace H := Option.bind_eq_some_iff.mp H
 obtain ⟨t167, A20, H⟩ := H
 replace H : ((tagbyte_Ones.f t167).bind fun t168 => (some (decide (t168 ≥ 7)))) = some r := H
 have A2 := Aside0.mk A20
 clear A20
 replace H := Option.bind_eq_some_iff.mp H
 obtain ⟨t168, A30, H⟩ := H
 replace H : (some (decide (t168 ≥ 7))) = some r := H
 have A3 := Aside0.mk A30
 clear A30
 obtain rfl := Option.some.inj H
 go_enter Tryd.func54, Tryd.ntmps54
 go_wp2_with (first | ((with_reducible refine gate_callee (f := 50) rfl ?_); refine goesL_ (some 4) rfl rfl Tryd.func50 (by kernel_rfl) rfl #[.int .u64 a0] rfl pM ?_; (with_reducible refine (tagbyte_Of.calls k a0 t167 _ A2.out).mono ?_); rintro e w4 ⟨rfl, hb⟩; refine ⟨_, rfl, ?_⟩; have n0_ := Aside0.mk (below_step pB hb); clear HB; have HB := n0_; clear n0_; (try clear hb); (try clear hb2); (try clear hk); (try clear hi)) | ((with_reducible refine gate_callee (f := 40) rfl ?_); refine goesL_ (some 5) rfl rfl Tryd.func40 (by kernel_rfl) rfl #[.int .u8 t167] rfl pM ?_; (with_reducible refine (tagbyte_Ones.calls t167 t168 _ A3.out).mono ?_); rintro e w' ⟨rfl, ⟨nd, rfl⟩⟩; refine ⟨_, rfl, ?_⟩))
 go_ret
 exact ⟨by first | rfl | (simp [errW_none, errW_some] <;> rfl) | (simp [*, errW_none, errW_some] <;> rfl), pB⟩
def pack_Words_1.f (a0 : Int) : Option (Bool) := some (a0 == 0)
theorem pack_Words_1.calls (a0 : Int) (r : Bool) (w : World) (h : pack_Words_1.f a0 = some r) :
  Calls Tryd.prog 53 #[.int .u64 a0] w fun e w' => e = .returned (.bool r) ∧ Drawn0 w w' := by
 have H : (some (a0 == 0)) = some r := h
 clear h
 obtain rfl := Option.some.inj H
 go_enter Tryd.func53, Tryd.ntmps53
 go_wp2
 go_ret
 exact ⟨by first | rfl | (simp; done) | (simp [*]; done), by repeat (first | exact Drawn0.refl _ | apply Drawn0.step)⟩
def pack_run_with_pack_Words_1.l0 : Nat → List Int → Int → Option (Int)
 | 0, _, _ => none
 | k + 1, x0, x5 => if x5 < (x0.length : Int) then (if x5 < 255 then (if 0 ≤ x5 then ((pack_Words_1.f (rd x0 x5)).bind fun t170 => (if t170 = true then (pack_run_with_pack_Words_1.l0 k x0 (wrap64 (x5 + 1))) else (some x5))) else (none)) else (some x5)) else (some x5)
def pack_run_with_pack_Words_1.f (k : Nat) (l0 : List Int)  : Option (Int) := pack_run_with_pack_Words_1.l0 k l0 0
theorem pack_run_with_pack_Words_1.mono_l : ∀ k, (∀ y0 y1, LeO (pack_run_with_pack_Words_1.l0 k y0 y1) (pack_run_with_pack_Words_1.l0 (k + 1) y0 y1))
 | 0 => fun _ _ r h => by simp [pack_run_with_pack_Words_1.l0] at h
 | k + 1 => by
  have ih0 := pack_run_with_pack_Words_1.mono_l k
  ·intro y0 y1
   unfold pack_run_with_pack_Words_1.l0
   repeat' first
   | (with_reducible exact ih0 _ _)
   | (with_reducible exact LeO.refl _)
   | (with_reducible exact LeO.none _)
   | (with_reducible refine LeO.ite ?_ ?_)
   | (with_reducible refine LeO.bind ?_ (fun _ => ?_))
   | exact ih0 _ _
   | exact LeO.none _
   | refine LeO.ite ?_ ?_
   | refine LeO.bind ?_ (fun _ => ?_)
theorem pack_run_with_pack_Words_1.mono : ∀ a0 k, LeO (pack_run_with_pack_Words_1.f k a0) (pack_run_with_pack_Words_1.f (k + 1) a0) := by
 intro a0 k
 have ih0 := pack_run_with_pack_Words_1.mono_l k
 unfold pack_run_with_pack_Words_1.f
 repeat' first
   | (with_reducible exact ih0 _ _)
   | (with_reducible exact LeO.refl _)
   | (with_reducible exact LeO.none _)
   | (with_reducible refine LeO.ite ?_ ?_)
   | (with_reducible refine LeO.bind ?_ (fun _ => ?_))
   | exact ih0 _ _
   | exact LeO.none _
   | refine LeO.ite ?_ ?_
   | refine LeO.bind ?_ (fun _ => ?_)
theorem pack_run_with_pack_Words_1.calls (k : Nat) (A0 : Option Addr) (c0 : Nat) (l0 : List Int)  (r : Int) (w : World) (hr0 : Kd.C (Kd.int .u64) w A0 l0.length l0) (hc0 : l0.length ≤ c0) (h : pack_run_with_pack_Words_1.f k l0 = some r) :
  Calls Tryd.prog 52 #[.slice A0 l0.length c0, .func (.func 53) #[] #[]] w fun e w' => e = .returned (.int .i64 r) ∧ Drawn0 w w' := by
 have HR0 := Aside0.mk hr0
 have HC0 := Aside0.mk hc0
 clear hr0 hc0
 have H : (pack_run_with_pack_Words_1.l0 k l0 0) = some r := h
 clear h
 have H' := Aside0.mk H
 clear H
 go_enter Tryd.func52, Tryd.ntmps52
 go_wp2
 go_loopg [5] k (fun kq v5 w' => ∃ (x5_1 : Int), v5 = .int .i64 x5_1 ∧ Aside0 (pack_run_with_pack_Words_1.l0 kq l0 x5_1 = some r) ∧ Aside0 (kq ≤ k) ∧ Drawn0 w w')
 case atStart => exact ⟨(0), (by first | rfl | (simp; done) | (simp [*]; done)), H', ⟨Nat.le_refl _⟩, by repeat (first | exact Drawn0.refl _ | apply Drawn0.step)⟩
 case round =>
  clear H'
  try clear c1
  try clear p2
  obtain ⟨x5_1, rfl, HA, HK1, ⟨m1, rfl⟩⟩ := hrel
  cases gk with
  | zero => exact absurd HA.out (by simp [pack_run_with_pack_Words_1.l0])
  | succ k1 =>
   have H := HA.out
   clear HA
   simp only [pack_run_with_pack_Words_1.l0] at H
   by_cases c3 : x5_1 < (l0.length : Int)
   ·rw [if_pos c3] at H
    have c3b0 : decide (x5_1 < (l0.length : Int)) = true := decide_eq_true c3
    clear c3
    by_cases c4 : x5_1 < 255
    ·rw [if_pos c4] at H
     have c4b0 : decide (x5_1 < 255) = true := decide_eq_true c4
     clear c4
     by_cases c5 : 0 ≤ x5_1
     ·rw [if_pos c5] at H
      have c5b0 : decide (0 ≤ x5_1) = true := decide_eq_true c5
      clear c5
      replace H := Option.bind_eq_some_iff.mp H
      obtain ⟨t170, A60, H⟩ := H
      replace H : (if t170 = true then (pack_run_with_pack_Words_1.l0 k1 l0 (wrap64 (x5_1 + 1))) else (some x5_1)) = some r := H
      have A6 := Aside0.mk A60
      clear A60
      by_cases c7 : t170 = true
      ·subst c7
       have H1 : (pack_run_with_pack_Words_1.l0 k1 l0 (wrap64 (x5_1 + 1))) = some r := by rw [if_pos rfl] at H; exact H
       clear H
       have H := H1
       clear H1
       have H' := Aside0.mk H
       clear H
       have p169 : 0 ≤ (x5_1 : Int) := of_decide_eq_true pA
       have q169 : x5_1 < (l0.length : Int) := of_decide_eq_true pA
       obtain ⟨ad169, e169, hx169_0⟩ := Kd.at_int HR0.out x5_1 p169 q169
       cases e169
       replace p169 := eq_true p169
       replace q169 := eq_true q169
       go_wp2_with (first | (go_at_call 53; (with_reducible refine (pack_Words_1.calls (rd l0 x5_1) true _ A6.out).mono ?_); rintro e w' ⟨rfl, ⟨nd, rfl⟩⟩))
       go_roundg k1
       case measure => have := HK1.out; omega
       case rel => exact ⟨(wrap64 (x5_1 + 1)), (by first | rfl | (simp; done) | (simp [*]; done)), H', ⟨by have := HK1.out; omega⟩, by repeat (first | exact Drawn0.refl _ | apply Drawn0.step)⟩
      ·replace c7 := Bool.eq_false_iff.mpr c7
       subst c7
       have H1 : (some x5_1) = some r := by rw [if_neg (show ¬ (false = true) by decide)] at H; exact H
       clear H
       have H := H1
       clear H1
       obtain rfl := Option.some.inj H
       have p169 : 0 ≤ (x5_1 : Int) := of_decide_eq_true pA
       have q169 : x5_1 < (l0.length : Int) := of_decide_eq_true pA
       obtain ⟨ad169, e169, hx169_0⟩ := Kd.at_int HR0.out x5_1 p169 q169
       cases e169
       replace p169 := eq_true p169
       replace q169 := eq_true q169
       go_wp2_with (first | (go_at_call 53; (with_reducible refine (pack_Words_1.calls (rd l0 x5_1) false _ A6.out).mono ?_); rintro e w' ⟨rfl, ⟨nd, rfl⟩⟩))
       go_ret
       exact ⟨by first | rfl | (simp; done) | (simp [*]; done), by repeat (first | exact Drawn0.refl _ | apply Drawn0.step)⟩
     ·rw [if_neg c5] at H
      exact absurd H (by simp)
    ·rw [if_neg c4] at H
     have c4b0 : decide (x5_1 < 255) = false := decide_eq_false c4
     clear c4
     obtain rfl := Option.some.inj H
     go_wp2
     go_ret
     exact ⟨by first | rfl | (simp; done) | (simp [*]; done), by repeat (first | exact Drawn0.refl _ | apply Drawn0.step)⟩
   ·rw [if_neg c3] at H
    have c3b0 : decide (x5_1 < (l0.length : Int)) = false := decide_eq_false c3
    clear c3
    obtain rfl := Option.some.inj H
    go_wp2
    go_ret
    exact ⟨by first | rfl | (simp; done) | (simp [*]; done), by repeat (first | exact Drawn0.refl _ | apply Drawn0.step)⟩
def pack_run_with_tagbyte_Dense.l0 : Nat → List Int → Int → Option (Int)
 | 0, _, _ => none
 | k + 1, x0, x5 => if x5 < (x0.length : Int) then (if x5 < 255 then (if 0 ≤ x5 then ((tagbyte_Dense.f k (rd x0 x5)).bind fun t172 => (if t172 = true then (pack_run_with_tagbyte_Dense.l0 k x0 (wrap64 (x5 + 1))) else (some x5))) else (none)) else (some x5)) else (some x5)
def pack_run_with_tagbyte_Dense.f (k : Nat) (l0 : List Int)  : Option (Int) := pack_run_with_tagbyte_Dense.l0 k l0 0
theorem pack_run_with_tagbyte_Dense.mono_l : ∀ k, (∀ y0 y1, LeO (pack_run_with_tagbyte_Dense.l0 k y0 y1) (pack_run_with_tagbyte_Dense.l0 (k + 1) y0 y1))
 | 0 => fun _ _ r h => by simp [pack_run_with_tagbyte_Dense.l0] at h
 | k + 1 => by
  have ih0 := pack_run_with_tagbyte_Dense.mono_l k
  ·intro y0 y1
   unfold pack_run_with_tagbyte_Dense.l0
   repeat' first
   | (with_reducible exact ih0 _ _)
   | (with_reducible exact tagbyte_Dense.mono _ _)
   | (with_reducible exact LeO.refl _)
   | (with_reducible exact LeO.none _)
   | (with_reducible refine LeO.ite ?_ ?_)
   | (with_reducible refine LeO.bind ?_ (fun _ => ?_))
   | exact ih0 _ _
   | exact tagbyte_Dense.mono _ _
   | exact LeO.none _
   | refine LeO.ite ?_ ?_
   | refine LeO.bind ?_ (fun _ => ?_)
theorem pack_run_with_tagbyte_Dense.mono : ∀ a0 k, LeO (pack_run_with_tagbyte_Dense.f k a0) (pack_run_with_tagbyte_Dense.f (k + 1) a0) := by
 intro a0 k
 have ih0 := pack_run_with_tagbyte_Dense.mono_l k
 unfold pack_run_with_tagbyte_Dense.f
 repeat' first
   | (with_reducible exact ih0 _ _)
   | (with_reducible exact tagbyte_Dense.mono _ _)
   | (with_reducible exact LeO.refl _)
   | (with_reducible exact LeO.none _)
   | (with_reducible refine LeO.ite ?_ ?_)
   | (with_reducible refine LeO.bind ?_ (fun _ => ?_))
   | exact ih0 _ _
   | exact tagbyte_Dense.mono _ _
   | exact LeO.none _
   | refine LeO.ite ?_ ?_
   | refine LeO.bind ?_ (fun _ => ?_)
theorem pack_run_with_tagbyte_Dense.calls (k : Nat) (A0 : Option Addr) (c0 : Nat) (l0 : List Int)  (r : Int) (w : World) (hr0 : Kd.C (Kd.int .u64) w A0 l0.length l0) (hc0 : l0.length ≤ c0) (h : pack_run_with_tagbyte_Dense.f k l0 = some r) :
  Calls Tryd.prog 52 #[.slice A0 l0.length c0, .func (.func 54) #[] #[]] w fun e w' => e = .returned (.int .i64 r) ∧ Below w.heap.size w w' := by
 have HR0 := Aside0.mk hr0
 have HC0 := Aside0.mk hc0
 clear hr0 hc0
 have HB := Aside0.mk (Below.refl w.heap.size w)
 have H : (pack_run_with_tagbyte_Dense.l0 k l0 0) = some r := h
 clear h
 have H' := Aside0.mk H
 clear H
 go_enter Tryd.func52, Tryd.ntmps52
 go_wp2
 go_loopg [5] k (fun kq v5 w' => ∃ (x5_1 : Int), v5 = .int .i64 x5_1 ∧ Aside0 (pack_run_with_tagbyte_Dense.l0 kq l0 x5_1 = some r) ∧ Aside0 (kq ≤ k) ∧ Aside0 (Below w.heap.size w w'))
 case atStart => exact ⟨(0), (by first | rfl | (simp; done) | (simp [*]; done)), H', ⟨Nat.le_refl _⟩, ⟨pB⟩⟩
 case round =>
  clear H'
  try clear c1
  try clear p2
  obtain ⟨x5_1, rfl, HA, HK1, HB⟩ := hrel
  cases gk with
  | zero => exact absurd HA.out (by simp [pack_run_with_tagbyte_Dense.l0])
  | succ k1 =>
   have H := HA.out
   clear HA
   simp only [pack_run_with_tagbyte_Dense.l0] at H
   by_cases c3 : x5_1 < (l0.length : Int)
   ·rw [if_pos c3] at H
    have c3b0 : decide (x5_1 < (l0.length : Int)) = true := decide_eq_true c3
    clear c3
    by_cases c4 : x5_1 < 255
    ·rw [if_pos c4] at H
     have c4b0 : decide (x5_1 < 255) = true := decide_eq_true c4
     clear c4
     by_cases c5 : 0 ≤ x5_1
     ·rw [if_pos c5] at H
      have c5b0 : decide (0 ≤ x5_1) = true := decide_eq_true c5
      clear c5
      replace H := Option.bind_eq_some_iff.mp H
      obtain ⟨t172, A60, H⟩ := H
      replace H : (if t172 = true then (pack_run_with_tagbyte_Dense.l0 k1 l0 (wrap64 (x5_1 + 1))) else (some x5_1)) = some r := H
      have A6 := Aside0.mk A60
      clear A60
      by_cases c7 : t172 = true
      ·subst c7
       have H1 : (pack_run_with_tagbyte_Dense.l0 k1 l0 (wrap64 (x5_1 + 1))) = some r := by rw [if_pos rfl] at H; exact H
       clear H
       have H := H1
       clear H1
       have H' := Aside0.mk H
       clear H
       have p171 : 0 ≤ (x5_1 : Int) := of_decide_eq_true pA
       have q171 : x5_1 < (l0.length : Int) := of_decide_eq_true pA
       obtain ⟨ad171, e171, hx171_0⟩ := Kd.at_int HR0.out x5_1 p171 q171
       cases e171
       replace hx171_0 := (HB.out.cell (World.block_lt_of_cell? w _ hx171_0)).trans hx171_0
       replace p171 := eq_true p171
       replace q171 := eq_true q171
       go_wp2_with (first | (go_at_call 54; (with_reducible refine (tagbyte_Dense.calls k1 (rd l0 x5_1) true _ A6.out).mono ?_); rintro e w8 ⟨rfl, hb⟩; have n0_ := Aside0.mk (below_step pB hb); clear HB; have HB := n0_; clear n0_; (try clear hb); (try clear hb2); (try clear hk); (try clear hi)))
       go_roundg k1
       case measure => have := HK1.out; omega
       case rel => exact ⟨(wrap64 (x5_1 + 1)), (by first | rfl | (simp; done) | (simp [*]; done)), H', ⟨by have := HK1.out; omega⟩, ⟨pB⟩⟩
      ·replace c7 := Bool.eq_false_iff.mpr c7
       subst c7
       have H1 : (some x5_1) = some r := by rw [if_neg (show ¬ (false = true) by decide)] at H; exact H
       clear H
       have H := H1
       clear H1
       obtain rfl := Option.some.inj H
       have p171 : 0 ≤ (x5_1 : Int) := of_decide_eq_true pA
       have q171 : x5_1 < (l0.length : Int) := of_decide_eq_true pA
       obtain ⟨ad171, e171, hx171_0⟩ := Kd.at_int HR0.out x5_1 p171 q171
       cases e171
       replace hx171_0 := (HB.out.cell (World.block_lt_of_cell? w _ hx171_0)).trans hx171_0
       replace p171 := eq_true p171
       replace q171 := eq_true q171
       go_wp2_with (first | (go_at_call 54; (with_reducible refine (tagbyte_Dense.calls k1 (rd l0 x5_1) false _ A6.out).mono ?_); rintro e w9 ⟨rfl, hb⟩; have n0_ := Aside0.mk (below_step pB hb); clear HB; have HB := n0_; clear n0_; (try clear hb); (try clear hb2); (try clear hk); (try clear hi)))
       go_ret
       exact ⟨by first | rfl | (simp [errW_none, errW_some] <;> rfl) | (simp [*, errW_none, errW_some] <;> rfl), pB⟩
     ·rw [if_neg c5] at H
      exact absurd H (by simp)
    ·rw [if_neg c4] at H
     have c4b0 : decide (x5_1 < 255) = false := decide_eq_false c4
     clear c4
     obtain rfl := Option.some.inj H
     go_wp2
     go_ret
     exact ⟨by first | rfl | (simp [errW_none, errW_some] <;> rfl) | (simp [*, errW_none, errW_some] <;> rfl), pB⟩
   ·rw [if_neg c3] at H
    have c3b0 : decide (x5_1 < (l0.length : Int)) = false := decide_eq_false c3
    clear c3
    obtain rfl := Option.some.inj H
    go_wp2
    go_ret
    exact ⟨by first | rfl | (simp [errW_none, errW_some] <;> rfl) | (simp [*, errW_none, errW_some] <;> rfl), pB⟩
end Go.Proofs.YtnchacmhjbkmhaaDoor.PGrammarChoices
