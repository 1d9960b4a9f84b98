/- (Halved.) Written by myprint.py, a program of this session: printed functions of a law, and the proofs that the Go code comes to them. -/
import Derived.Test.YtnchacmhjbkmhaaDoorXShortR
import Derived.Test.YtnchacmhjbkmhaaDoorPGrammarMatchesReferencex0R
namespace Go.Proofs.YtnchacmhjbkmhaaDoor.PGrammarMatchesReference
open Go.RowKit Go.Proofs.YtnchacmhjbkmhaaDoorW.PrintWords Go.Proofs.YtnchacmhjbkmhaaDoorW.PrintLast Go.Proofs.YtnchacmhjbkmhaaDoorW.PrintMore
open Go.Proofs.YtnchacmhjbkmhaaDoor.PUnBase
open Go.Proofs.YtnchacmhjbkmhaaDoor.POfBase (tagbyte_Of.f tagbyte_Of.calls tagbyte_Of.mono tagbyte_Of.mono_l)
attribute [local go_sem] max2_int min2_int max_two min_two max_three min_three max_four min_four   -- for this text's walks alone
set_option linter.unusedVariables false
set_option linter.unusedSimpArgs false
set_option maxHeartbeats 8000000
set_option maxRecDepth 100000
mutual
def capnpref01_Bytes.l0 : Nat → List Int → List Int → Int → Option (List Int)
 | 0, _, _, _ => none
 | k + 1, x0, x3, x4 => if x4 < (x0.length : Int) then (if 0 ≤ x4 then (capnpref01_Bytes.l1 k x0 x3 x4 (rd x0 x4) 0) else (none)) else (some x3)
def capnpref01_Bytes.l1 : Nat → List Int → List Int → Int → Int → Int → Option (List Int)
 | 0, _, _, _, _, _ => none
 | k + 1, x0, x3, x4, x5, x6 => if x6 < 8 then (if x3.length < 140737488355328 then (capnpref01_Bytes.l1 k x0 (x3 ++ [(Int.tmod x5 256) % 256]) x4 (IntKind.u64.wrap (Int.tdiv x5 256)) (wrap64 (x6 + 1))) else (none)) else (capnpref01_Bytes.l0 k x0 x3 (wrap64 (x4 + 1)))
end
def capnpref01_Bytes.f (k : Nat) (l0 : List Int) : Option (List Int) := capnpref01_Bytes.l0 k l0 ([] : List Int) 0
theorem capnpref01_Bytes.mono_l : ∀ k, (∀ y0 y1 y2, LeO (capnpref01_Bytes.l0 k y0 y1 y2) (capnpref01_Bytes.l0 (k + 1) y0 y1 y2)) ∧ (∀ y0 y1 y2 y3 y4, LeO (capnpref01_Bytes.l1 k y0 y1 y2 y3 y4) (capnpref01_Bytes.l1 (k + 1) y0 y1 y2 y3 y4))
 | 0 => ⟨fun _ _ _ r h => by simp [capnpref01_Bytes.l0] at h, fun _ _ _ _ _ r h => by simp [capnpref01_Bytes.l1] at h⟩
 | k + 1 => by
  obtain ⟨ih0, ih1⟩ := capnpref01_Bytes.mono_l k
  refine ⟨?_, ?_⟩
  ·intro y0 y1 y2
   unfold capnpref01_Bytes.l0
   repeat' first
   | (with_reducible exact ih0 _ _ _)
   | (with_reducible exact ih1 _ _ _ _ _)
   | (with_reducible exact LeO.refl _)
   | (with_reducible exact LeO.none _)
   | (with_reducible refine LeO.ite ?_ ?_)
   | (with_reducible refine LeO.bind ?_ (fun _ => ?_))
   | exact ih0 _ _ _
   | exact ih1 _ _ _ _ _
   | exact LeO.none _
   | refine LeO.ite ?_ ?_
   | refine LeO.bind ?_ (fun _ => ?_)
  ·intro y0 y1 y2 y3 y4
   unfold capnpref01_Bytes.l1
   repeat' first
   | (with_reducible exact ih0 _ _ _)
   | (with_reducible exact ih1 _ _ _ _ _)
   | (with_reducible exact LeO.refl _)
   | (with_reducible exact LeO.none _)
   | (with_reducible refine LeO.ite ?_ ?_)
   | (with_reducible refine LeO.bind ?_ (fun _ => ?_))
   | exact ih0 _ _ _
   | exact ih1 _ _ _ _ _
   | exact LeO.none _
   | refine LeO.ite ?_ ?_
   | refine LeO.bind ?_ (fun _ => ?_)
theorem capnpref01_Bytes.mono : ∀ a0 k, LeO (capnpref01_Bytes.f k a0) (capnpref01_Bytes.f (k + 1) a0) := by
 intro a0 k
 obtain ⟨ih0, ih1⟩ := capnpref01_Bytes.mono_l k
 unfold capnpref01_Bytes.f
 repeat' first
   | (with_reducible exact ih0 _ _ _)
   | (with_reducible exact ih1 _ _ _ _ _)
   | (with_reducible exact LeO.refl _)
   | (with_reducible exact LeO.none _)
   | (with_reducible refine LeO.ite ?_ ?_)
   | (with_reducible refine LeO.bind ?_ (fun _ => ?_))
   | exact ih0 _ _ _
   | exact ih1 _ _ _ _ _
   | exact LeO.none _
   | refine LeO.ite ?_ ?_
   | refine LeO.bind ?_ (fun _ => ?_)
theorem capnpref01_Bytes.calls (k : Nat) (A0 : Option Addr) (c0 : Nat) (l0 : List Int) (r : List Int) (w : World) (hr0 : Kd.C (Kd.int .u64) w A0 l0.length l0) (hc0 : l0.length ≤ c0) (h : capnpref01_Bytes.f k l0 = some r) :
  Calls Tryd.prog 23 #[.slice A0 l0.length c0] w fun e w' => ∃ v0_ : Value, e = .returned (v0_) ∧ Kd.R (Kd.int .u8) 5 w' w.heap.size (fun _ => True) v0_ r ∧ Below w.heap.size w w' := by
 have HR0 := Aside0.mk hr0
 have HC0 := Aside0.mk hc0
 clear hr0 hc0
 have HB := Aside0.mk (Below.refl w.heap.size w)
 have H : (capnpref01_Bytes.l0 k l0 ([] : List Int) 0) = some r := h
 clear h
 have H' := Aside0.mk H
 clear H
 go_enter Tryd.func23, Tryd.ntmps23
 go_wp2
 go_loopg [3, 4] k (fun kq v3 v4 w' => ∃ (x3_1 : List Int) (x4_1 : Int), v4 = .int .i64 x4_1 ∧ Aside0 (capnpref01_Bytes.l0 kq l0 x3_1 x4_1 = some r) ∧ Aside0 (kq ≤ k) ∧ Aside0 (Kd.R (Kd.int .u8) 5 w' w.heap.size (fun _ => True) v3 x3_1) ∧ Aside0 (Below w.heap.size w w'))
 case atStart => exact ⟨(([] : List Int)), (0), (by first | rfl | (simp; done) | (simp [*]; done)), H', ⟨Nat.le_refl _⟩, ⟨by first | exact Kd.R_nil _ _ _ _ _ | exact Kd.N_nil _ _ _ _ _ | exact Kd.V_nil _ _ _ _ _ | exact Kd.Q_nil _ _ _ _ _ | exact Kd.S_nil _ _ _ _ _⟩, ⟨pB⟩⟩
 case round =>
  clear H'
  obtain ⟨x3_1, x4_1, rfl, HA, HK1, HO_3, HB⟩ := hrel
  cases gk with
  | zero => exact absurd HA.out (by simp [capnpref01_Bytes.l0])
  | succ k1 =>
   have H := HA.out
   clear HA
   simp only [capnpref01_Bytes.l0] at H
   by_cases c2 : x4_1 < (l0.length : Int)
   ·rw [if_pos c2] at H
    have c2b0 : decide (x4_1 < (l0.length : Int)) = true := decide_eq_true c2
    clear c2
    by_cases c3 : 0 ≤ x4_1
    ·rw [if_pos c3] at H
     have c3b0 : decide (0 ≤ x4_1) = true := decide_eq_true c3
     clear c3
     have H' := Aside0.mk H
     clear H
     have p327 : 0 ≤ (x4_1 : Int) := of_decide_eq_true pA
     have q327 : x4_1 < (l0.length : Int) := of_decide_eq_true pA
     obtain ⟨ad327, e327, hx327_0⟩ := Kd.at_int HR0.out x4_1 p327 q327
     cases e327
     replace hx327_0 := (HB.out.cell (World.block_lt_of_cell? w _ hx327_0)).trans hx327_0
     replace p327 := eq_true p327
     replace q327 := eq_true q327
     go_wp2
     go_loopg [3, 5, 6] k1 (fun kq v3 v5 v6 w' => ∃ (x3_2 : List Int) (x5_2 : Int) (x6_2 : Int), v5 = .int .u64 x5_2 ∧ v6 = .int .i64 x6_2 ∧ Aside0 (capnpref01_Bytes.l1 kq l0 x3_2 x4_1 x5_2 x6_2 = some r) ∧ Aside0 (kq ≤ k1) ∧ Aside0 (Kd.R (Kd.int .u8) 5 w' w.heap.size (fun _ => True) v3 x3_2) ∧ Aside0 (Below w.heap.size w w'))
     case atStart => exact ⟨(x3_1), (rd l0 x4_1), (0), (by first | rfl | (simp; done) | (simp [*]; done)), (by first | rfl | (simp; done) | (simp [*]; done)), H', ⟨Nat.le_refl _⟩, ⟨pR HO_3⟩, ⟨pB⟩⟩
     case round =>
      clear H'
      try clear c2
      try clear c2b0
      try clear p2
      try clear c3
      try clear c3b0
      try clear p3
      try clear q3
      try clear hx3
      try clear hx327_0
      try clear p327
      try clear q327
      obtain ⟨x3_2, x5_2, x6_2, rfl, rfl, HA, HK2, HO_3, HB⟩ := hrel
      cases gk with
      | zero => exact absurd HA.out (by simp [capnpref01_Bytes.l1])
      | succ k2 =>
       have H := HA.out
       clear HA
       simp only [capnpref01_Bytes.l1] at H
       by_cases c4 : x6_2 < 8
       ·rw [if_pos c4] at H
        have c4b0 : decide (x6_2 < 8) = true := decide_eq_true c4
        clear c4
        by_cases c5 : x3_2.length < 140737488355328
        ·rw [if_pos c5] at H
         have LMc5 := Aside0.mk c5
         clear c5
         obtain ⟨y328, hy328⟩ : ∃ y_ : List Int, y_ = (x3_2 ++ [(Int.tmod x5_2 256) % 256]) := ⟨_, rfl⟩
         replace H : (capnpref01_Bytes.l1 k2 l0 y328 x4_1 (IntKind.u64.wrap (Int.tdiv x5_2 256)) (wrap64 (x6_2 + 1))) = some r := by first | (rw [hy328]; with_reducible exact H) | (have H2_ := (Option.bind_some _ _).symm.trans H; rw [hy328]; with_reducible exact H2_) | (have H2_ := (Option.bind_some _ _).symm.trans H; with_reducible exact H2_) | with_reducible exact H | (rw [hy328]; exact H) | exact H
         have Ny328 := Aside0.mk hy328
         clear hy328
         have H' := Aside0.mk H
         clear H
         go_wp2_with (first | ((with_reducible refine gate_builtin (b := .append) (xs := #[.tmp 21, .tmp 25]) rfl ?_); at_builtin; refine Kd.R_append (Kd.int .u8) (w0 := w) w.heap.size rfl (.tmp 21) (.tmp 25) 22 5 (.int .u8 0) 1 rfl Tryd.underlying22 info5 rfl (by decide) (by omega) u3 x3_2 ((Int.tmod x5_2 256) % 256) [.int .u8 ((Int.tmod x5_2 256) % 256)] (fun _ => True) (fun _ => False) rfl rfl ?aP (fun _ hk => hk.elim) ?aF ?aO ?aB ?aS ?aL ?_; (case aP => exact rfl); (case aB => exact pB); (case aF => exact (fun _ _ => trivial)); (case aO => exact (pR HO_3)); (case aS => exact (below_size pB)); (case aL => have := LMc5.out; omega); intro v329 w6 ho hb hg hat; rw [← Ny328.out] at ho; have n0_ := Aside0.mk (hb); have n1_ := Aside0.mk (ho); clear HB; clear HO_3; have HB := n0_; have HO330 := n1_; clear n0_ n1_; clear ho hb hg hat))
         go_roundg k2
         case measure => have := HK1.out; have := HK2.out; omega
         case rel => exact ⟨(y328), (IntKind.u64.wrap (Int.tdiv x5_2 256)), (wrap64 (x6_2 + 1)), (by first | rfl | (simp; done) | (simp [*]; done)), (by first | rfl | (simp; done) | (simp [*]; done)), H', ⟨by have := HK1.out; have := HK2.out; omega⟩, ⟨pR HO330⟩, ⟨pB⟩⟩
        ·rw [if_neg c5] at H
         exact absurd H (by simp)
       ·rw [if_neg c4] at H
        have c4b0 : decide (x6_2 < 8) = false := decide_eq_false c4
        clear c4
        have H' := Aside0.mk H
        clear H
        go_wp2
        go_roundg k2
        case measure => have := HK1.out; have := HK2.out; omega
        case rel => exact ⟨(x3_2), (wrap64 (x4_1 + 1)), (by first | rfl | (simp; done) | (simp [*]; done)), H', ⟨by have := HK1.out; have := HK2.out; omega⟩, ⟨pR HO_3⟩, ⟨pB⟩⟩
    ·rw [if_neg c3] at H
     exact absurd H (by simp)
   ·rw [if_neg c2] at H
    have c2b0 : decide (x4_1 < (l0.length : Int)) = false := decide_eq_false c2
    clear c2
    obtain rfl := Option.some.inj H
    go_wp2
    go_ret
    exact ⟨_, by first | rfl | (simp [errW_none, errW_some] <;> rfl) | (simp [*, errW_none, errW_some] <;> rfl), by (with_reducible repeat (first | apply Kd.R_alloc | apply Kd.R_drewN | apply Kd.R_drew)); exact HO_3.out, pB⟩
def capnpref20_Of.l0 : Nat → List Int → Int → Int → Int → Option (Int)
 | 0, _, _, _, _ => none
 | k + 1, x3, x4, x5, x6 => if x6 < 8 then (if 0 ≤ x6 then (if x6 < (x3.length : Int) then (if (rd x3 x6) = 0 then (capnpref20_Of.l0 k x3 x4 (wrap64 (x5 * 2)) (wrap64 (x6 + 1))) else (capnpref20_Of.l0 k x3 (wrap64 (x4 + x5)) (wrap64 (x5 * 2)) (wrap64 (x6 + 1)))) else (none)) else (none)) else (some ((x4) % 256))
def capnpref20_Of.f (k : Nat) (a0 : Int) : Option (Int) := (capnpref01_Bytes.f k (([a0] : List Int))).bind fun t334 => (capnpref20_Of.l0 k t334 0 1 0)
theorem capnpref20_Of.mono_l : ∀ k, (∀ y0 y1 y2 y3, LeO (capnpref20_Of.l0 k y0 y1 y2 y3) (capnpref20_Of.l0 (k + 1) y0 y1 y2 y3))
 | 0 => fun _ _ _ _ r h => by simp [capnpref20_Of.l0] at h
 | k + 1 => by
  have ih0 := capnpref20_Of.mono_l k
  ·intro y0 y1 y2 y3
   unfold capnpref20_Of.l0
   repeat' first
   | (with_reducible exact ih0 _ _ _ _)
   | (with_reducible exact capnpref01_Bytes.mono _ _)
   | (with_reducible exact LeO.refl _)
   | (with_reducible exact LeO.none _)
   | (with_reducible refine LeO.ite ?_ ?_)
   | (with_reducible refine LeO.bind ?_ (fun _ => ?_))
   | exact ih0 _ _ _ _
   | exact capnpref01_Bytes.mono _ _
   | exact LeO.none _
   | refine LeO.ite ?_ ?_
   | refine LeO.bind ?_ (fun _ => ?_)
theorem capnpref20_Of.mono : ∀ a0 k, LeO (capnpref20_Of.f k a0) (capnpref20_Of.f (k + 1) a0) := by
 intro a0 k
 have ih0 := capnpref20_Of.mono_l k
 unfold capnpref20_Of.f
 repeat' first
   | (with_reducible exact ih0 _ _ _ _)
   | (with_reducible exact capnpref01_Bytes.mono _ _)
   | (with_reducible exact LeO.refl _)
   | (with_reducible exact LeO.none _)
   | (with_reducible refine LeO.ite ?_ ?_)
   | (with_reducible refine LeO.bind ?_ (fun _ => ?_))
   | exact ih0 _ _ _ _
   | exact capnpref01_Bytes.mono _ _
   | exact LeO.none _
   | refine LeO.ite ?_ ?_
   | refine LeO.bind ?_ (fun _ => ?_)
theorem capnpref20_Of.calls (k : Nat) (a0 : Int) (r : Int) (w : World) (h : capnpref20_Of.f k a0 = some r) :
  Calls Tryd.prog 24 #[.int .u64 a0] w fun e w' => e = .returned (.int .u8 r) ∧ Below w.heap.size w w' := by
 have HB := Aside0.mk (Below.refl w.heap.size w)
 have H : ((capnpref01_Bytes.f k (([a0] : List Int))).bind fun t334 => (capnpref20_Of.l0 k t334 0 1 0)) = some r := h
 clear h
 obtain ⟨y331, hy331⟩ : ∃ y_ : List Int, y_ = (([a0] : List Int)) := ⟨_, rfl⟩
 replace H : ((capnpref01_Bytes.f k y331).bind fun t334 => (capnpref20_Of.l0 k t334 0 1 0)) = some r := by first | (rw [hy331]; with_reducible exact H) | (have H2_ := (Option.bind_some _ _).symm.trans H; rw [hy331]; with_reducible exact H2_) | (have H2_ := (Option.bind_some _ _).symm.trans H; with_reducible exact H2_) | with_reducible exact H | (rw [hy331]; exact H) | exact H
 have Ny331 := Aside0.mk hy331
 clear hy331
 replace H := Option.bind_eq_some_iff.mp H
 obtain ⟨t334, A20, H⟩ := H
 replace H : (capnpref20_Of.l0 k t334 0 1 0) = some r := H
 have A2 := Aside0.mk A20
 clear A20
 have H' := Aside0.mk H
 clear H
 go_enter Tryd.func24, Tryd.ntmps24
 go_wp2_with (first | ((with_reducible refine gate_dst (N := 8) rfl ?_); refine Kd.R_lit (Kd.int .u64) _ 37 ?hg (N := 8) ?hd (xs := ([a0] : List Int)) (inner := [.int .u64 a0]) (ok := fun _ => True) (okp := fun _ => True) ?hr ?hp (fun _ hk => hk) trivial (Below.refl _ _) (Nat.le_refl _) (by simp) ?_; (case hd => rfl); (case hg => rfl); (case hr => first | (go_simp; done) | (go_simp; rfl)); (case hp => exact (Reps.one (show Kd.M (Kd.int .u64) _ _ _ a0 [.int .u64 a0] from rfl) (Reps.none _ _))); intro v332 w3 ho4 hb hg_ hnew_; clear hg_ hnew_; (first | rw [← Ny331.out] at ho4 | (simp only [Int.reduceToNat] at ho4; rw [← Ny331.out] at ho4)); have n0_ := Aside0.mk (Kd.R_lower ho4 (below_size pB)); have n1_ := Aside0.mk (below_step pB hb); clear HB; have HO333 := n0_; have HB := n1_; clear n0_ n1_; clear hb ho4; obtain ⟨Ao5, co5, eo5⟩ := Kd.R_slice HO333.out; subst eo5) | ((with_reducible refine gate_callee (f := 23) rfl ?_); refine goesL_ (some 9) rfl rfl Tryd.func23 (by kernel_rfl) rfl #[.slice Ao5 y331.length co5] rfl pM ?_; (with_reducible refine (capnpref01_Bytes.calls k _ _ y331 t334 _ ?side1 ?side2 A2.out).mono ?_); (case side1 => repeat (first | exact (Kd.R_reads' HO333.out).2.2 | (with_reducible refine Kd.C_alloc ?_ _) | (with_reducible refine Kd.C_drewN ?_ _) | (with_reducible refine Kd.C_drew ?_))); (case side2 => exact (Kd.R_reads' HO333.out).2.1); rintro e w6 ⟨v335, rfl, ho0, hb⟩; refine ⟨_, rfl, ?_⟩; have n0_ := Aside0.mk (Kd.R_below (pR HO333) hb); have n1_ := Aside0.mk (Kd.R_lower ho0 (below_size pB)); have n2_ := Aside0.mk (below_step pB hb); clear HO333; clear HB; have HO333 := n0_; have HO336 := n1_; have HB := n2_; clear n0_ n1_ n2_; (try clear hb); (try clear hb2); (try clear hk); (try clear hi); (try clear ho0)))
 go_loopg [4, 5, 6] k (fun kq v4 v5 v6 w' => ∃ (x4_1 : Int) (x5_1 : Int) (x6_1 : Int), v4 = .int .i64 x4_1 ∧ v5 = .int .i64 x5_1 ∧ v6 = .int .i64 x6_1 ∧ Aside0 (capnpref20_Of.l0 kq t334 x4_1 x5_1 x6_1 = some r) ∧ Aside0 (kq ≤ k) ∧ Aside0 (Kd.R (Kd.int .u8) 5 w' w.heap.size (fun _ => True) v335 t334) ∧ Aside0 (Below w.heap.size w w'))
 case atStart => exact ⟨(0), (1), (0), (by first | rfl | (simp; done) | (simp [*]; done)), (by first | rfl | (simp; done) | (simp [*]; done)), (by first | rfl | (simp; done) | (simp [*]; done)), H', ⟨Nat.le_refl _⟩, ⟨pR HO336⟩, ⟨pB⟩⟩
 case round =>
  clear H'
  try clear c2
  try clear p2
  obtain ⟨x4_1, x5_1, x6_1, rfl, rfl, rfl, HA, HK1, HO_3, HB⟩ := hrel
  cases gk with
  | zero => exact absurd HA.out (by simp [capnpref20_Of.l0])
  | succ k1 =>
   have H := HA.out
   clear HA
   simp only [capnpref20_Of.l0] at H
   by_cases c7 : x6_1 < 8
   ·rw [if_pos c7] at H
    have c7b0 : decide (x6_1 < 8) = true := decide_eq_true c7
    clear c7
    by_cases c8 : 0 ≤ x6_1
    ·rw [if_pos c8] at H
     have c8b0 : decide (0 ≤ x6_1) = true := decide_eq_true c8
     clear c8
     by_cases c9 : x6_1 < (t334.length : Int)
     ·rw [if_pos c9] at H
      have c9b0 : decide (x6_1 < (t334.length : Int)) = true := decide_eq_true c9
      clear c9
      by_cases c10 : (rd t334 x6_1) = 0
      ·rw [if_pos c10] at H
       have c10b0 : ((rd t334 x6_1) == 0) = true := beq_iff_eq.mpr c10
       have c10b1 : ((rd t334 x6_1) != 0) = false := bne_eq_false_iff_eq.mpr c10
       clear c10
       have H' := Aside0.mk H
       clear H
       obtain ⟨Ao11, co11, eo11⟩ := Kd.R_slice HO_3.out
       subst eo11
       have p337 : 0 ≤ (x6_1 : Int) := of_decide_eq_true pA
       have q337 : x6_1 < (t334.length : Int) := of_decide_eq_true pA
       obtain ⟨ad337, e337, hx337_0⟩ := Kd.at_int (Kd.R_reads' HO_3.out).2.2 x6_1 p337 q337
       cases e337
       replace p337 := eq_true p337
       replace q337 := eq_true q337
       go_wp2
       go_roundg k1
       case measure => have := HK1.out; omega
       case rel => exact ⟨(x4_1), (wrap64 (x5_1 * 2)), (wrap64 (x6_1 + 1)), (by first | rfl | (simp; done) | (simp [*]; done)), (by first | rfl | (simp; done) | (simp [*]; done)), (by first | rfl | (simp; done) | (simp [*]; done)), H', ⟨by have := HK1.out; omega⟩, ⟨pR HO_3⟩, ⟨pB⟩⟩
      ·rw [if_neg c10] at H
       have c10b0 : ((rd t334 x6_1) == 0) = false := beq_eq_false_iff_ne.mpr c10
       have c10b1 : ((rd t334 x6_1) != 0) = true := bne_iff_ne.mpr c10
       have H' := Aside0.mk H
       clear H
       obtain ⟨Ao12, co12, eo12⟩ := Kd.R_slice HO_3.out
       subst eo12
       have p337 : 0 ≤ (x6_1 : Int) := of_decide_eq_true pA
       have q337 : x6_1 < (t334.length : Int) := of_decide_eq_true pA
       obtain ⟨ad337, e337, hx337_0⟩ := Kd.at_int (Kd.R_reads' HO_3.out).2.2 x6_1 p337 q337
       cases e337
       replace p337 := eq_true p337
       replace q337 := eq_true q337
       go_wp2
       go_roundg k1
       case measure => have := HK1.out; omega
       case rel => exact ⟨(wrap64 (x4_1 + x5_1)), (wrap64 (x5_1 * 2)), (wrap64 (x6_1 + 1)), (by first | rfl | (simp; done) | (simp [*]; done)), (by first | rfl | (simp; done) | (simp [*]; done)), (by first | rfl | (simp; done) | (simp [*]; done)), H', ⟨by have := HK1.out; omega⟩, ⟨pR HO_3⟩, ⟨pB⟩⟩
     ·rw [if_neg c9] at H
      exact absurd H (by simp)
    ·rw [if_neg c8] at H
     exact absurd H (by simp)
   ·rw [if_neg c7] at H
    have c7b0 : decide (x6_1 < 8) = false := decide_eq_false c7
    clear c7
    obtain rfl := Option.some.inj H
    go_wp2
    go_ret
    exact ⟨by first | rfl | (simp [errW_none, errW_some] <;> rfl) | (simp [*, errW_none, errW_some] <;> rfl), pB⟩
def capnpref20_Bytes.l0 : Nat → List Int → List Int → Int → Option (List Int)
 | 0, _, _, _ => none
 | k + 1, x3, x4, x5 => if x5 < 8 then (if 0 ≤ x5 then (if x5 < (x3.length : Int) then (if (rd x3 x5) = 0 then (capnpref20_Bytes.l0 k x3 x4 (wrap64 (x5 + 1))) else (if x4.length < 140737488355328 then (capnpref20_Bytes.l0 k x3 (x4 ++ [rd x3 x5]) (wrap64 (x5 + 1))) else (none))) else (none)) else (none)) else (some x4)
def capnpref20_Bytes.f (k : Nat) (a0 : Int) : Option (List Int) := (capnpref01_Bytes.f k (([a0] : List Int))).bind fun t341 => (capnpref20_Bytes.l0 k t341 ([] : List Int) 0)
theorem capnpref20_Bytes.mono_l : ∀ k, (∀ y0 y1 y2, LeO (capnpref20_Bytes.l0 k y0 y1 y2) (capnpref20_Bytes.l0 (k + 1) y0 y1 y2))
 | 0 => fun _ _ _ r h => by simp [capnpref20_Bytes.l0] at h
 | k + 1 => by
  have ih0 := capnpref20_Bytes.mono_l k
  ·intro y0 y1 y2
   unfold capnpref20_Bytes.l0
   repeat' first
   | (with_reducible exact ih0 _ _ _)
   | (with_reducible exact capnpref01_Bytes.mono _ _)
   | (with_reducible exact LeO.refl _)
   | (with_reducible exact LeO.none _)
   | (with_reducible refine LeO.ite ?_ ?_)
   | (with_reducible refine LeO.bind ?_ (fun _ => ?_))
   | exact ih0 _ _ _
   | exact capnpref01_Bytes.mono _ _
   | exact LeO.none _
   | refine LeO.ite ?_ ?_
   | refine LeO.bind ?_ (fun _ => ?_)
theorem capnpref20_Bytes.mono : ∀ a0 k, LeO (capnpref20_Bytes.f k a0) (capnpref20_Bytes.f (k + 1) a0) := by
 intro a0 k
 have ih0 := capnpref20_Bytes.mono_l k
 unfold capnpref20_Bytes.f
 repeat' first
   | (with_reducible exact ih0 _ _ _)
   | (with_reducible exact capnpref01_Bytes.mono _ _)
   | (with_reducible exact LeO.refl _)
   | (with_reducible exact LeO.none _)
   | (with_reducible refine LeO.ite ?_ ?_)
   | (with_reducible refine LeO.bind ?_ (fun _ => ?_))
   | exact ih0 _ _ _
   | exact capnpref01_Bytes.mono _ _
   | exact LeO.none _
   | refine LeO.ite ?_ ?_
   | refine LeO.bind ?_ (fun _ => ?_)
theorem capnpref20_Bytes.calls (k : Nat) (a0 : Int) (r : List Int) (w : World) (h : capnpref20_Bytes.f k a0 = some r) :
  Calls Tryd.prog 37 #[.int .u64 a0] w fun e w' => ∃ v0_ : Value, e = .returned (v0_) ∧ Kd.R (Kd.int .u8) 5 w' w.heap.size (fun _ => True) v0_ r ∧ Below w.heap.size w w' := by
 have HB := Aside0.mk (Below.refl w.heap.size w)
 have H : ((capnpref01_Bytes.f k (([a0] : List Int))).bind fun t341 => (capnpref20_Bytes.l0 k t341 ([] : List Int) 0)) = some r := h
 clear h
 obtain ⟨y338, hy338⟩ : ∃ y_ : List Int, y_ = (([a0] : List Int)) := ⟨_, rfl⟩
 replace H : ((capnpref01_Bytes.f k y338).bind fun t341 => (capnpref20_Bytes.l0 k t341 ([] : List Int) 0)) = some r := by first | (rw [hy338]; with_reducible exact H) | (have H2_ := (Option.bind_some _ _).symm.trans H; rw [hy338]; with_reducible exact H2_) | (have H2_ := (Option.bind_some _ _).symm.trans H; with_reducible exact H2_) | with_reducible exact H | (rw [hy338]; exact H) | exact H
 have Ny338 := Aside0.mk hy338
 clear hy338
 replace H := Option.bind_eq_some_iff.mp H
 obtain ⟨t341, A20, H⟩ := H
 replace H : (capnpref20_Bytes.l0 k t341 ([] : List Int) 0) = some r := H
 have A2 := Aside0.mk A20
 clear A20
 have H' := Aside0.mk H
 clear H
 go_enter Tryd.func37, Tryd.ntmps37
 go_wp2_with (first | ((with_reducible refine gate_dst (N := 7) rfl ?_); refine Kd.R_lit (Kd.int .u64) _ 37 ?hg (N := 7) ?hd (xs := ([a0] : List Int)) (inner := [.int .u64 a0]) (ok := fun _ => True) (okp := fun _ => True) ?hr ?hp (fun _ hk => hk) trivial (Below.refl _ _) (Nat.le_refl _) (by simp) ?_; (case hd => rfl); (case hg => rfl); (case hr => first | (go_simp; done) | (go_simp; rfl)); (case hp => exact (Reps.one (show Kd.M (Kd.int .u64) _ _ _ a0 [.int .u64 a0] from rfl) (Reps.none _ _))); intro v339 w3 ho4 hb hg_ hnew_; clear hg_ hnew_; (first | rw [← Ny338.out] at ho4 | (simp only [Int.reduceToNat] at ho4; rw [← Ny338.out] at ho4)); have n0_ := Aside0.mk (Kd.R_lower ho4 (below_size pB)); have n1_ := Aside0.mk (below_step pB hb); clear HB; have HO340 := n0_; have HB := n1_; clear n0_ n1_; clear hb ho4; obtain ⟨Ao5, co5, eo5⟩ := Kd.R_slice HO340.out; subst eo5) | ((with_reducible refine gate_callee (f := 23) rfl ?_); refine goesL_ (some 8) rfl rfl Tryd.func23 (by kernel_rfl) rfl #[.slice Ao5 y338.length co5] rfl pM ?_; (with_reducible refine (capnpref01_Bytes.calls k _ _ y338 t341 _ ?side1 ?side2 A2.out).mono ?_); (case side1 => repeat (first | exact (Kd.R_reads' HO340.out).2.2 | (with_reducible refine Kd.C_alloc ?_ _) | (with_reducible refine Kd.C_drewN ?_ _) | (with_reducible refine Kd.C_drew ?_))); (case side2 => exact (Kd.R_reads' HO340.out).2.1); rintro e w6 ⟨v342, rfl, ho0, hb⟩; refine ⟨_, rfl, ?_⟩; have n0_ := Aside0.mk (Kd.R_below (pR HO340) hb); have n1_ := Aside0.mk (Kd.R_lower ho0 (below_size pB)); have n2_ := Aside0.mk (below_step pB hb); clear HO340; clear HB; have HO340 := n0_; have HO343 := n1_; have HB := n2_; clear n0_ n1_ n2_; (try clear hb); (try clear hb2); (try clear hk); (try clear hi); (try clear ho0)))
 go_loopg [4, 5] k (fun kq v4 v5 w' => ∃ (x4_1 : List Int) (x5_1 : Int), v5 = .int .i64 x5_1 ∧ Aside0 (capnpref20_Bytes.l0 kq t341 x4_1 x5_1 = some r) ∧ Aside0 (kq ≤ k) ∧ Aside0 (Kd.R (Kd.int .u8) 5 w' w.heap.size (fun k_ => some k_ ≠ (v4 : Value).ownBlock) v342 t341) ∧ Aside0 (Kd.R (Kd.int .u8) 5 w' w.heap.size (fun k_ => some k_ ≠ (v342 : Value).ownBlock) v4 x4_1) ∧ Aside0 (Below w.heap.size w w'))
 case atStart => exact ⟨(([] : List Int)), (0), (by first | rfl | (simp; done) | (simp [*]; done)), H', ⟨Nat.le_refl _⟩, ⟨by (with_reducible repeat (first | apply Kd.R_alloc | apply Kd.R_drewN | apply Kd.R_drew)); exact Kd.R_mono HO343.out (fun _ hk => (by simp [Value.ownBlock]))⟩, ⟨by first | exact Kd.R_nil _ _ _ _ _ | exact Kd.N_nil _ _ _ _ _ | exact Kd.V_nil _ _ _ _ _ | exact Kd.Q_nil _ _ _ _ _ | exact Kd.S_nil _ _ _ _ _⟩, ⟨pB⟩⟩
 case round =>
  clear H'
  try clear c2
  try clear p2
  try clear c3
  obtain ⟨x4_1, x5_1, rfl, HA, HK1, HO_3, HO_4, HB⟩ := hrel
  cases gk with
  | zero => exact absurd HA.out (by simp [capnpref20_Bytes.l0])
  | succ k1 =>
   have H := HA.out
   clear HA
   simp only [capnpref20_Bytes.l0] at H
   by_cases c7 : x5_1 < 8
   ·rw [if_pos c7] at H
    have c7b0 : decide (x5_1 < 8) = true := decide_eq_true c7
    clear c7
    by_cases c8 : 0 ≤ x5_1
    ·rw [if_pos c8] at H
     have c8b0 : decide (0 ≤ x5_1) = true := decide_eq_true c8
     clear c8
     by_cases c9 : x5_1 < (t341.length : Int)
     ·rw [if_pos c9] at H
      have c9b0 : decide (x5_1 < (t341.length : Int)) = true := decide_eq_true c9
      clear c9
      by_cases c10 : (rd t341 x5_1) = 0
      ·rw [if_pos c10] at H
       have c10b0 : ((rd t341 x5_1) == 0) = true := beq_iff_eq.mpr c10
       have c10b1 : ((rd t341 x5_1) != 0) = false := bne_eq_false_iff_eq.mpr c10
       clear c10
       have H' := Aside0.mk H
       clear H
       obtain ⟨Ao11, co11, eo11⟩ := Kd.R_slice HO_3.out
       subst eo11
       have p344 : 0 ≤ (x5_1 : Int) := of_decide_eq_true pA
       have q344 : x5_1 < (t341.length : Int) := of_decide_eq_true pA
       obtain ⟨ad344, e344, hx344_0⟩ := Kd.at_int (Kd.R_reads' HO_3.out).2.2 x5_1 p344 q344
       cases e344
       replace p344 := eq_true p344
       replace q344 := eq_true q344
       go_wp2
       go_roundg k1
       case measure => have := HK1.out; omega
       case rel => exact ⟨(x4_1), (wrap64 (x5_1 + 1)), (by first | rfl | (simp; done) | (simp [*]; done)), H', ⟨by have := HK1.out; omega⟩, ⟨pR HO_3⟩, ⟨pR HO_4⟩, ⟨pB⟩⟩
      ·rw [if_neg c10] at H
       have c10b0 : ((rd t341 x5_1) == 0) = false := beq_eq_false_iff_ne.mpr c10
       have c10b1 : ((rd t341 x5_1) != 0) = true := bne_iff_ne.mpr c10
       by_cases c12 : x4_1.length < 140737488355328
       ·rw [if_pos c12] at H
        have LMc12 := Aside0.mk c12
        clear c12
        obtain ⟨y346, hy346⟩ : ∃ y_ : List Int, y_ = (x4_1 ++ [rd t341 x5_1]) := ⟨_, rfl⟩
        replace H : (capnpref20_Bytes.l0 k1 t341 y346 (wrap64 (x5_1 + 1))) = some r := by first | (rw [hy346]; with_reducible exact H) | (have H2_ := (Option.bind_some _ _).symm.trans H; rw [hy346]; with_reducible exact H2_) | (have H2_ := (Option.bind_some _ _).symm.trans H; with_reducible exact H2_) | with_reducible exact H | (rw [hy346]; exact H) | exact H
        have Ny346 := Aside0.mk hy346
        clear hy346
        have H' := Aside0.mk H
        clear H
        obtain ⟨Ao13, co13, eo13⟩ := Kd.R_slice HO_3.out
        subst eo13
        have p344 : 0 ≤ (x5_1 : Int) := of_decide_eq_true pA
        have q344 : x5_1 < (t341.length : Int) := of_decide_eq_true pA
        obtain ⟨ad344, e344, hx344_0⟩ := Kd.at_int (Kd.R_reads' HO_3.out).2.2 x5_1 p344 q344
        cases e344
        replace p344 := eq_true p344
        replace q344 := eq_true q344
        have p345 : 0 ≤ (x5_1 : Int) := of_decide_eq_true pA
        have q345 : x5_1 < (t341.length : Int) := of_decide_eq_true pA
        obtain ⟨ad345, e345, hx345_0⟩ := Kd.at_int (Kd.R_reads' HO_3.out).2.2 x5_1 p345 q345
        obtain rfl : ad344 = ad345 := (by injection e345)
        replace p345 := eq_true p345
        replace q345 := eq_true q345
        go_wp2_with (first | ((with_reducible refine gate_builtin (b := .append) (xs := #[.tmp 18, .tmp 23]) rfl ?_); at_builtin; refine Kd.R_append (Kd.int .u8) (w0 := w) w.heap.size rfl (.tmp 18) (.tmp 23) 22 5 (.int .u8 0) 1 rfl Tryd.underlying22 info5 rfl (by decide) (by omega) u4 x4_1 (rd t341 x5_1) [.int .u8 (rd t341 x5_1)] (fun k_ => some k_ ≠ (.slice (some ad344) t341.length co13 : Value).ownBlock) (fun _ => False) rfl rfl ?aP (fun _ hk => hk.elim) ?aF ?aO ?aB ?aS ?aL ?_; (case aP => exact rfl); (case aB => exact pB); (case aF => exact (fun k_ hk => Kd.fresh' (Kd.R_lt (pR HO_3)) k_ hk)); (case aO => exact (pR HO_4)); (case aS => exact (below_size pB)); (case aL => have := LMc12.out; omega); intro v347 w14 ho hb hg hat; rw [← Ny346.out] at ho; have n0_ := Aside0.mk (Kd.R_after (ok := (fun _ => True)) (by (with_reducible repeat (first | apply Kd.R_alloc | apply Kd.R_drewN | apply Kd.R_drew)); exact Kd.R_mono HO_3.out (fun _ hk => ⟨trivial, hk⟩)) hg hat); have n1_ := Aside0.mk (hb); have n2_ := Aside0.mk (ho); clear HO_3; clear HB; clear HO_4; have HO_3 := n0_; have HB := n1_; have HO348 := n2_; clear n0_ n1_ n2_; clear ho hb hg hat))
        go_roundg k1
        case measure => have := HK1.out; omega
        case rel => exact ⟨(y346), (wrap64 (x5_1 + 1)), (by first | rfl | (simp; done) | (simp [*]; done)), H', ⟨by have := HK1.out; omega⟩, ⟨by (with_reducible repeat (first | apply Kd.R_alloc | apply Kd.R_drewN | apply Kd.R_drew)); exact Kd.R_mono HO_3.out (fun _ hk => hk.2)⟩, ⟨pR HO348⟩, ⟨pB⟩⟩
       ·rw [if_neg c12] at H
        exact absurd H (by simp)
     ·rw [if_neg c9] at H
      exact absurd H (by simp)
    ·rw [if_neg c8] at H
     exact absurd H (by simp)
   ·rw [if_neg c7] at H
    have c7b0 : decide (x5_1 < 8) = false := decide_eq_false c7
    clear c7
    obtain rfl := Option.some.inj H
    go_wp2
    go_ret
    exact ⟨_, by first | rfl | (simp [errW_none, errW_some] <;> rfl) | (simp [*, errW_none, errW_some] <;> rfl), by (with_reducible repeat (first | apply Kd.R_alloc | apply Kd.R_drewN | apply Kd.R_drew)); exact Kd.R_mono HO_4.out (fun _ hk => trivial), pB⟩
def capnpref20_Dense.f (k : Nat) (a0 : Int) : Option (Bool) := (capnpref20_Bytes.f k a0).bind fun t349 => (some (decide ((t349.length : Int) ≥ 7)))
theorem capnpref20_Dense.mono : ∀ a0 k, LeO (capnpref20_Dense.f k a0) (capnpref20_Dense.f (k + 1) a0) := by
 intro a0 k
 unfold capnpref20_Dense.f
 repeat' first
   | (with_reducible exact capnpref20_Bytes.mono _ _)
   | (with_reducible exact LeO.refl _)
   | (with_reducible exact LeO.none _)
   | (with_reducible refine LeO.ite ?_ ?_)
   | (with_reducible refine LeO.bind ?_ (fun _ => ?_))
   | exact capnpref20_Bytes.mono _ _
   | exact LeO.none _
   | refine LeO.ite ?_ ?_
   | refine LeO.bind ?_ (fun _ => ?_)
theorem capnpref20_Dense.calls (k : Nat) (a0 : Int) (r : Bool) (w : World) (h : capnpref20_Dense.f k a0 = some r) :
  Calls Tryd.prog 25 #[.int .u64 a0] w fun e w' => e = .returned (.bool r) ∧ Below w.heap.size w w' := by
 have HB := Aside0.mk (Below.refl w.heap.size w)
 have H : ((capnpref20_Bytes.f k a0).bind fun t349 => (some (decide ((t349.length : Int) ≥ 7)))) = some r := h
 clear h
 replace H := Option.bind_eq_some_iff.mp H
 obtain ⟨t349, A20, H⟩ := H
 replace H : (some (decide ((t349.length : Int) ≥ 7))) = some r := H
 have A2 := Aside0.mk A20
 clear A20
 obtain rfl := Option.some.inj H
 go_enter Tryd.func25, Tryd.ntmps25
 go_wp2_with (first | ((with_reducible refine gate_callee (f := 37) rfl ?_); refine goesL_ (some 4) rfl rfl Tryd.func37 (by kernel_rfl) rfl #[.int .u64 a0] rfl pM ?_; (with_reducible refine (capnpref20_Bytes.calls k a0 t349 _ A2.out).mono ?_); rintro e w3 ⟨v350, rfl, ho0, hb⟩; refine ⟨_, rfl, ?_⟩; have n0_ := Aside0.mk (Kd.R_lower ho0 (below_size pB)); have n1_ := Aside0.mk (below_step pB hb); clear HB; have HO351 := n0_; have HB := n1_; clear n0_ n1_; (try clear hb); (try clear hb2); (try clear hk); (try clear hi); (try clear ho0); obtain ⟨Ao4, co4, eo4⟩ := Kd.R_slice HO351.out; subst eo4))
 go_ret
 exact ⟨by first | rfl | (simp [errW_none, errW_some] <;> rfl) | (simp [*, errW_none, errW_some] <;> rfl), pB⟩
end Go.Proofs.YtnchacmhjbkmhaaDoor.PGrammarMatchesReference
