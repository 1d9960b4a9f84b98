/- (Halved.) Printed functions of a law, and their walks. -/
import Derived.Test.YtnchacmhjbkmhaaDoorXShortC
import Derived.Test.YtnchacmhjbkmhaaDoorPGrammarChoicesx0C
import Derived.Test.YtnchacmhjbkmhaaDoorPGrammarChoicesx6C
namespace Go.Proofs.YtnchacmhjbkmhaaDoor.PGrammarChoices
open Go.RowKit Go.Proofs.YtnchacmhjbkmhaaDoorW.PrintWords Go.Proofs.YtnchacmhjbkmhaaDoorW.PrintLast Go.Proofs.YtnchacmhjbkmhaaDoorW.PrintMore
open Go.Proofs.YtnchacmhjbkmhaaDoor.PUnBase
open Go.Proofs.YtnchacmhjbkmhaaDoor.POfBase (tagbyte_Of.f tagbyte_Of.calls tagbyte_Of.mono tagbyte_Of.mono_l)
attribute [local go_sem] max2_int min2_int max_two min_two max_three min_three max_four min_four   -- for this text's walks alone
set_option linter.unusedVariables false
set_option linter.unusedSimpArgs false
set_option maxHeartbeats 8000000
set_option maxRecDepth 100000
def capnpref20_Bytes.l0 : Nat → List Int → List Int → Int → Option (List Int)
 | 0, _, _, _ => none
 | k + 1, x3, x4, x5 => if x5 < 8 then (if 0 ≤ x5 then (if x5 < (x3.length : Int) then (if (rd x3 x5) = 0 then (capnpref20_Bytes.l0 k x3 x4 (wrap64 (x5 + 1))) else (if x4.length < 140737488355328 then (capnpref20_Bytes.l0 k x3 (x4 ++ [rd x3 x5]) (wrap64 (x5 + 1))) else (none))) else (none)) else (none)) else (some x4)
def capnpref20_Bytes.f (k : Nat) (a0 : Int) : Option (List Int) := (capnpref01_Bytes.f k (([a0] : List Int))).bind fun t290 => (capnpref20_Bytes.l0 k t290 ([] : List Int) 0)
theorem capnpref20_Bytes.mono_l : ∀ k, (∀ y0 y1 y2, LeO (capnpref20_Bytes.l0 k y0 y1 y2) (capnpref20_Bytes.l0 (k + 1) y0 y1 y2))
 | 0 => fun _ _ _ r h => by simp [capnpref20_Bytes.l0] at h
 | k + 1 => by
  have ih0 := capnpref20_Bytes.mono_l k
  ·intro y0 y1 y2
   unfold capnpref20_Bytes.l0
   repeat' first
   | (with_reducible exact ih0 _ _ _)
   | (with_reducible exact capnpref01_Bytes.mono _ _)
   | (with_reducible exact LeO.refl _)
   | (with_reducible exact LeO.none _)
   | (with_reducible refine LeO.ite ?_ ?_)
   | (with_reducible refine LeO.bind ?_ (fun _ => ?_))
   | exact ih0 _ _ _
   | exact capnpref01_Bytes.mono _ _
   | exact LeO.none _
   | refine LeO.ite ?_ ?_
   | refine LeO.bind ?_ (fun _ => ?_)
theorem capnpref20_Bytes.mono : ∀ a0 k, LeO (capnpref20_Bytes.f k a0) (capnpref20_Bytes.f (k + 1) a0) := by
 intro a0 k
 have ih0 := capnpref20_Bytes.mono_l k
 unfold capnpref20_Bytes.f
 repeat' first
   | (with_reducible exact ih0 _ _ _)
   | (with_reducible exact capnpref01_Bytes.mono _ _)
   | (with_reducible exact LeO.refl _)
   | (with_reducible exact LeO.none _)
   | (with_reducible refine LeO.ite ?_ ?_)
   | (with_reducible refine LeO.bind ?_ (fun _ => ?_))
   | exact ih0 _ _ _
   | exact capnpref01_Bytes.mono _ _
   | exact LeO.none _
   | refine LeO.ite ?_ ?_
   | refine LeO.bind ?_ (fun _ => ?_)
theorem capnpref20_Bytes.calls (k : Nat) (a0 : Int) (r : List Int) (w : World) (h : capnpref20_Bytes.f k a0 = some r) :
  Calls Tryd.prog 37 #[.int .u64 a0] w fun e w' => ∃ v0_ : Value, e = .returned (v0_) ∧ Kd.R (Kd.int .u8) 5 w' w.heap.size (fun _ => True) v0_ r ∧ Below w.heap.size w w' := by
 have HB := Aside0.mk (Below.refl w.heap.size w)
 have H : ((capnpref01_Bytes.f k (([a0] : List Int))).bind fun t290 => (capnpref20_Bytes.l0 k t290 ([] : List Int) 0)) = some r := h
 clear h
 obtain ⟨y287, hy287⟩ : ∃ y_ : List Int, y_ = (([a0] : List Int)) := ⟨_, rfl⟩
 replace H : ((capnpref01_Bytes.f k y287).bind fun t290 => (capnpref20_Bytes.l0 k t290 ([] : List Int) 0)) = some r := by first | (rw [hy287]; with_reducible exact H) | (have H2_ := (Option.bind_some _ _).symm.trans H; rw [hy287]; with_reducible exact H2_) | (have H2_ := (Option.bind_some _ _).symm.trans H; with_reducible exact H2_) | with_reducible exact H | (rw [hy287]; exact H) | exact H
 have Ny287 := Aside0.mk hy287
 clear hy287
 replace H := Option.bind_eq_some_iff.mp H
 obtain ⟨t290, A20, H⟩ := H
 replace H : (capnpref20_Bytes.l0 k t290 ([] : List Int) 0) = some r := H
 have A2 := Aside0.mk A20
 clear A20
 have H' := Aside0.mk H
 clear H
 go_enter Tryd.func37, Tryd.ntmps37
 go_wp2_with (first | ((with_reducible refine gate_dst (N := 7) rfl ?_); refine Kd.R_lit (Kd.int .u64) _ 37 ?hg (N := 7) ?hd (xs := ([a0] : List Int)) (inner := [.int .u64 a0]) (ok := fun _ => True) (okp := fun _ => True) ?hr ?hp (fun _ hk => hk) trivial (Below.refl _ _) (Nat.le_refl _) (by simp) ?_; (case hd => rfl); (case hg => rfl); (case hr => first | (go_simp; done) | (go_simp; rfl)); (case hp => exact (Reps.one (show Kd.M (Kd.int .u64) _ _ _ a0 [.int .u64 a0] from rfl) (Reps.none _ _))); intro v288 w3 ho4 hb hg_ hnew_; clear hg_ hnew_; (first | rw [← Ny287.out] at ho4 | (simp only [Int.reduceToNat] at ho4; rw [← Ny287.out] at ho4)); have n0_ := Aside0.mk (Kd.R_lower ho4 (below_size pB)); have n1_ := Aside0.mk (below_step pB hb); clear HB; have HO289 := n0_; have HB := n1_; clear n0_ n1_; clear hb ho4; obtain ⟨Ao5, co5, eo5⟩ := Kd.R_slice HO289.out; subst eo5) | ((with_reducible refine gate_callee (f := 23) rfl ?_); refine goesL_ (some 8) rfl rfl Tryd.func23 (by kernel_rfl) rfl #[.slice Ao5 y287.length co5] rfl pM ?_; (with_reducible refine (capnpref01_Bytes.calls k _ _ y287 t290 _ ?side1 ?side2 A2.out).mono ?_); (case side1 => repeat (first | exact (Kd.R_reads' HO289.out).2.2 | (with_reducible refine Kd.C_alloc ?_ _) | (with_reducible refine Kd.C_drewN ?_ _) | (with_reducible refine Kd.C_drew ?_))); (case side2 => exact (Kd.R_reads' HO289.out).2.1); rintro e w6 ⟨v291, rfl, ho0, hb⟩; refine ⟨_, rfl, ?_⟩; have n0_ := Aside0.mk (Kd.R_below (pR HO289) hb); have n1_ := Aside0.mk (Kd.R_lower ho0 (below_size pB)); have n2_ := Aside0.mk (below_step pB hb); clear HO289; clear HB; have HO289 := n0_; have HO292 := n1_; have HB := n2_; clear n0_ n1_ n2_; (try clear hb); (try clear hb2); (try clear hk); (try clear hi); (try clear ho0)))
 go_loopg [4, 5] k (fun kq v4 v5 w' => ∃ (x4_1 : List Int) (x5_1 : Int), v5 = .int .i64 x5_1 ∧ Aside0 (capnpref20_Bytes.l0 kq t290 x4_1 x5_1 = some r) ∧ Aside0 (kq ≤ k) ∧ Aside0 (Kd.R (Kd.int .u8) 5 w' w.heap.size (fun k_ => some k_ ≠ (v4 : Value).ownBlock) v291 t290) ∧ Aside0 (Kd.R (Kd.int .u8) 5 w' w.heap.size (fun k_ => some k_ ≠ (v291 : Value).ownBlock) v4 x4_1) ∧ Aside0 (Below w.heap.size w w'))
 case atStart => exact ⟨(([] : List Int)), (0), (by first | rfl | (simp; done) | (simp [*]; done)), H', ⟨Nat.le_refl _⟩, ⟨by (with_reducible repeat (first | apply Kd.R_alloc | apply Kd.R_drewN | apply Kd.R_drew)); exact Kd.R_mono HO292.out (fun _ hk => (by simp [Value.ownBlock]))⟩, ⟨by first | exact Kd.R_nil _ _ _ _ _ | exact Kd.N_nil _ _ _ _ _ | exact Kd.V_nil _ _ _ _ _ | exact Kd.Q_nil _ _ _ _ _ | exact Kd.S_nil _ _ _ _ _⟩, ⟨pB⟩⟩
 case round =>
  clear H'
  try clear c2
  try clear p2
  try clear c3
  obtain ⟨x4_1, x5_1, rfl, HA, HK1, HO_3, HO_4, HB⟩ := hrel
  cases gk with
  | zero => exact absurd HA.out (by simp [capnpref20_Bytes.l0])
  | succ k1 =>
   have H := HA.out
   clear HA
   simp only [capnpref20_Bytes.l0] at H
   by_cases c7 : x5_1 < 8
   ·rw [if_pos c7] at H
    have c7b0 : decide (x5_1 < 8) = true := decide_eq_true c7
    clear c7
    by_cases c8 : 0 ≤ x5_1
    ·rw [if_pos c8] at H
     have c8b0 : decide (0 ≤ x5_1) = true := decide_eq_true c8
     clear c8
     by_cases c9 : x5_1 < (t290.length : Int)
     ·rw [if_pos c9] at H
      have c9b0 : decide (x5_1 < (t290.length : Int)) = true := decide_eq_true c9
      clear c9
      by_cases c10 : (rd t290 x5_1) = 0
      ·rw [if_pos c10] at H
       have c10b0 : ((rd t290 x5_1) == 0) = true := beq_iff_eq.mpr c10
       have c10b1 : ((rd t290 x5_1) != 0) = false := bne_eq_false_iff_eq.mpr c10
       clear c10
       have H' := Aside0.mk H
       clear H
       obtain ⟨Ao11, co11, eo11⟩ := Kd.R_slice HO_3.out
       subst eo11
       have p293 : 0 ≤ (x5_1 : Int) := of_decide_eq_true pA
       have q293 : x5_1 < (t290.length : Int) := of_decide_eq_true pA
       obtain ⟨ad293, e293, hx293_0⟩ := Kd.at_int (Kd.R_reads' HO_3.out).2.2 x5_1 p293 q293
       cases e293
       replace p293 := eq_true p293
       replace q293 := eq_true q293
       go_wp2
       go_roundg k1
       case measure => have := HK1.out; omega
       case rel => exact ⟨(x4_1), (wrap64 (x5_1 + 1)), (by first | rfl | (simp; done) | (simp [*]; done)), H', ⟨by have := HK1.out; omega⟩, ⟨pR HO_3⟩, ⟨pR HO_4⟩, ⟨pB⟩⟩
      ·rw [if_neg c10] at H
       have c10b0 : ((rd t290 x5_1) == 0) = false := beq_eq_false_iff_ne.mpr c10
       have c10b1 : ((rd t290 x5_1) != 0) = true := bne_iff_ne.mpr c10
       by_cases c12 : x4_1.length < 140737488355328
       ·rw [if_pos c12] at H
        have LMc12 := Aside0.mk c12
        clear c12
        obtain ⟨y295, hy295⟩ : ∃ y_ : List Int, y_ = (x4_1 ++ [rd t290 x5_1]) := ⟨_, rfl⟩
        replace H : (capnpref20_Bytes.l0 k1 t290 y295 (wrap64 (x5_1 + 1))) = some r := by first | (rw [hy295]; with_reducible exact H) | (have H2_ := (Option.bind_some _ _).symm.trans H; rw [hy295]; with_reducible exact H2_) | (have H2_ := (Option.bind_some _ _).symm.trans H; with_reducible exact H2_) | with_reducible exact H | (rw [hy295]; exact H) | exact H
        have Ny295 := Aside0.mk hy295
        clear hy295
        have H' := Aside0.mk H
        clear H
        obtain ⟨Ao13, co13, eo13⟩ := Kd.R_slice HO_3.out
        subst eo13
        have p293 : 0 ≤ (x5_1 : Int) := of_decide_eq_true pA
        have q293 : x5_1 < (t290.length : Int) := of_decide_eq_true pA
        obtain ⟨ad293, e293, hx293_0⟩ := Kd.at_int (Kd.R_reads' HO_3.out).2.2 x5_1 p293 q293
        cases e293
        replace p293 := eq_true p293
        replace q293 := eq_true q293
        have p294 : 0 ≤ (x5_1 : Int) := of_decide_eq_true pA
        have q294 : x5_1 < (t290.length : Int) := of_decide_eq_true pA
        obtain ⟨ad294, e294, hx294_0⟩ := Kd.at_int (Kd.R_reads' HO_3.out).2.2 x5_1 p294 q294
        obtain rfl : ad293 = ad294 := (by injection e294)
        replace p294 := eq_true p294
        replace q294 := eq_true q294
        go_wp2_with (first | ((with_reducible refine gate_builtin (b := .append) (xs := #[.tmp 18, .tmp 23]) rfl ?_); at_builtin; refine Kd.R_append (Kd.int .u8) (w0 := w) w.heap.size rfl (.tmp 18) (.tmp 23) 22 5 (.int .u8 0) 1 rfl Tryd.underlying22 info5 rfl (by decide) (by omega) u4 x4_1 (rd t290 x5_1) [.int .u8 (rd t290 x5_1)] (fun k_ => some k_ ≠ (.slice (some ad293) t290.length co13 : Value).ownBlock) (fun _ => False) rfl rfl ?aP (fun _ hk => hk.elim) ?aF ?aO ?aB ?aS ?aL ?_; (case aP => exact rfl); (case aB => exact pB); (case aF => exact (fun k_ hk => Kd.fresh' (Kd.R_lt (pR HO_3)) k_ hk)); (case aO => exact (pR HO_4)); (case aS => exact (below_size pB)); (case aL => have := LMc12.out; omega); intro v296 w14 ho hb hg hat; rw [← Ny295.out] at ho; have n0_ := Aside0.mk (Kd.R_after (ok := (fun _ => True)) (by (with_reducible repeat (first | apply Kd.R_alloc | apply Kd.R_drewN | apply Kd.R_drew)); exact Kd.R_mono HO_3.out (fun _ hk => ⟨trivial, hk⟩)) hg hat); have n1_ := Aside0.mk (hb); have n2_ := Aside0.mk (ho); clear HO_3; clear HB; clear HO_4; have HO_3 := n0_; have HB := n1_; have HO297 := n2_; clear n0_ n1_ n2_; clear ho hb hg hat))
        go_roundg k1
        case measure => have := HK1.out; omega
        case rel => exact ⟨(y295), (wrap64 (x5_1 + 1)), (by first | rfl | (simp; done) | (simp [*]; done)), H', ⟨by have := HK1.out; omega⟩, ⟨by (with_reducible repeat (first | apply Kd.R_alloc | apply Kd.R_drewN | apply Kd.R_drew)); exact Kd.R_mono HO_3.out (fun _ hk => hk.2)⟩, ⟨pR HO297⟩, ⟨pB⟩⟩
       ·rw [if_neg c12] at H
        exact absurd H (by simp)
     ·rw [if_neg c9] at H
      exact absurd H (by simp)
    ·rw [if_neg c8] at H
     exact absurd H (by simp)
   ·rw [if_neg c7] at H
    have c7b0 : decide (x5_1 < 8) = false := decide_eq_false c7
    clear c7
    obtain rfl := Option.some.inj H
    go_wp2
    go_ret
    exact ⟨_, by first | rfl | (simp [errW_none, errW_some] <;> rfl) | (simp [*, errW_none, errW_some] <;> rfl), by (with_reducible repeat (first | apply Kd.R_alloc | apply Kd.R_drewN | apply Kd.R_drew)); exact Kd.R_mono HO_4.out (fun _ hk => trivial), pB⟩
def capnpref20_Dense.f (k : Nat) (a0 : Int) : Option (Bool) := (capnpref20_Bytes.f k a0).bind fun t298 => (some (decide ((t298.length : Int) ≥ 7)))
theorem capnpref20_Dense.mono : ∀ a0 k, LeO (capnpref20_Dense.f k a0) (capnpref20_Dense.f (k + 1) a0) := by
 intro a0 k
 unfold capnpref20_Dense.f
 repeat' first
   | (with_reducible exact capnpref20_Bytes.mono _ _)
   | (with_reducible exact LeO.refl _)
   | (with_reducible exact LeO.none _)
   | (with_reducible refine LeO.ite ?_ ?_)
   | (with_reducible refine LeO.bind ?_ (fun _ => ?_))
   | exact capnpref20_Bytes.mono _ _
   | exact LeO.none _
   | refine LeO.ite ?_ ?_
   | refine LeO.bind ?_ (fun _ => ?_)
theorem capnpref20_Dense.calls (k : Nat) (a0 : Int) (r : Bool) (w : World) (h : capnpref20_Dense.f k a0 = some r) :
  Calls Tryd.prog 25 #[.int .u64 a0] w fun e w' => e = .returned (.bool r) ∧ Below w.heap.size w w' := by
 have HB := Aside0.mk (Below.refl w.heap.size w)
 have H : ((capnpref20_Bytes.f k a0).bind fun t298 => (some (decide ((t298.length : Int) ≥ 7)))) = some r := h
 clear h
 replace H := Option.bind_eq_some_iff.mp H
 obtain ⟨t298, A20, H⟩ := H
 replace H : (some (decide ((t298.length : Int) ≥ 7))) = some r := H
 have A2 := Aside0.mk A20
 clear A20
 obtain rfl := Option.some.inj H
 go_enter Tryd.func25, Tryd.ntmps25
 go_wp2_with (first | ((with_reducible refine gate_callee (f := 37) rfl ?_); refine goesL_ (some 4) rfl rfl Tryd.func37 (by kernel_rfl) rfl #[.int .u64 a0] rfl pM ?_; (with_reducible refine (capnpref20_Bytes.calls k a0 t298 _ A2.out).mono ?_); rintro e w3 ⟨v299, rfl, ho0, hb⟩; refine ⟨_, rfl, ?_⟩; have n0_ := Aside0.mk (Kd.R_lower ho0 (below_size pB)); have n1_ := Aside0.mk (below_step pB hb); clear HB; have HO300 := n0_; have HB := n1_; clear n0_ n1_; (try clear hb); (try clear hb2); (try clear hk); (try clear hi); (try clear ho0); obtain ⟨Ao4, co4, eo4⟩ := Kd.R_slice HO300.out; subst eo4))
 go_ret
 exact ⟨by first | rfl | (simp [errW_none, errW_some] <;> rfl) | (simp [*, errW_none, errW_some] <;> rfl), pB⟩
end Go.Proofs.YtnchacmhjbkmhaaDoor.PGrammarChoices
