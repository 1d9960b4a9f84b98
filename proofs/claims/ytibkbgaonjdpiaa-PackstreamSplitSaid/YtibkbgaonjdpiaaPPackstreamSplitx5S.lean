/- (Halved.) Printed functions of a law, and their walks. -/
import Derived.Test.YtibkbgaonjdpiaaXShortS
import Derived.Test.YtibkbgaonjdpiaaPPackstreamSplitx0S
import Derived.Test.YtibkbgaonjdpiaaPPackstreamSplitx2S
import Derived.Test.YtibkbgaonjdpiaaPPackstreamSplitx3S
import Derived.Test.YtibkbgaonjdpiaaPPackstreamSplitx4S
namespace Go.Proofs.Ytibkbgaonjdpiaa.PPackstreamSplit
open Go.RowKit Go.Proofs.YtibkbgaonjdpiaaW.PrintWords Go.Proofs.YtibkbgaonjdpiaaW.PrintLast Go.Proofs.YtibkbgaonjdpiaaW.PrintMore
open Go.Proofs.Ytibkbgaonjdpiaa.PPaBase
attribute [local go_sem] max2_int min2_int max_two min_two max_three min_three max_four min_four   -- for this text's walks alone
set_option linter.unusedVariables false
set_option linter.unusedSimpArgs false
def capnplaw24_PackstreamSplit.j0 : Nat → List Int → List Int → Bool → List Int → Int → List Int → Option (Bool)
 | 0, _, _, _, _, _, _ => none
 | k + 1, x1, x2, x36, x244000, x244001, x244002 => if x36 = true then ((capnplaw24_awake.f k).bind fun t245 => (some t245)) else ((packstream_Write.f x244000 x244001 x244002 x1).bind fun bt246 => ((packstream_Write.f bt246.1 bt246.2.1 bt246.2.2.1 x2).bind fun bt257 => ((some (([] : List Int) : List Int)).bind fun y268 => (if y268.length + x1.length < 140737488355328 then ((some (y268 ++ x1 : List Int)).bind fun y271 => (if y271.length + x2.length < 140737488355328 then ((packstream_Write.f x244000 x244001 x244002 (y271 ++ x2)).bind fun bt277 => ((capnpref24_Same.f k bt257.1 bt257.2.1 bt257.2.2.1 bt277.1 bt277.2.1 bt277.2.2.1).bind fun t288 => (if t288 = true then ((some (([] : List Int) : List Int)).bind fun y289 => (if y289.length + bt246.2.2.2.length < 140737488355328 then ((some (y289 ++ bt246.2.2.2 : List Int)).bind fun y292 => (if y292.length + bt257.2.2.2.length < 140737488355328 then ((capnpref01_Same.f k (y292 ++ bt257.2.2.2) bt277.2.2.2).bind fun t298 => (if t298 = true then ((packstream_Valid.f k x244000 x244001 x244002).bind fun t299 => ((packstream_Valid.f k bt246.1 bt246.2.1 bt246.2.2.1).bind fun t300 => (some (t299 == t300)))) else (none))) else (none))) else (none))) else (none)))) else (none))) else (none)))))
def capnplaw24_PackstreamSplit.f (k : Nat) (l0_0 : List Int) (a0_1 : Int) (l0_2 : List Int) (l1 : List Int) (l2 : List Int) : Option (Bool) := (capnplaw24_awake.f k).bind fun t244 => (if t244 = true then (if (l0_0.length : Int) > 7 then (capnplaw24_PackstreamSplit.j0 k l1 l2 true l0_0 a0_1 l0_2) else (if (l0_2.length : Int) > 3000 then (capnplaw24_PackstreamSplit.j0 k l1 l2 true l0_0 a0_1 l0_2) else (if (l1.length : Int) > 6000 then (capnplaw24_PackstreamSplit.j0 k l1 l2 true l0_0 a0_1 l0_2) else (capnplaw24_PackstreamSplit.j0 k l1 l2 (decide ((l2.length : Int) > 6000)) l0_0 a0_1 l0_2)))) else (capnplaw24_PackstreamSplit.j0 k l1 l2 true l0_0 a0_1 l0_2))
theorem capnplaw24_PackstreamSplit.mono_l : ∀ k, (∀ y0 y1 y2 y3 y4 y5, LeO (capnplaw24_PackstreamSplit.j0 k y0 y1 y2 y3 y4 y5) (capnplaw24_PackstreamSplit.j0 (k + 1) y0 y1 y2 y3 y4 y5))
 | 0 => fun _ _ _ _ _ _ r h => by simp [capnplaw24_PackstreamSplit.j0] at h
 | k + 1 => by
  have ih0 := capnplaw24_PackstreamSplit.mono_l k
  ·intro y0 y1 y2 y3 y4 y5
   unfold capnplaw24_PackstreamSplit.j0
   repeat' first
   | (with_reducible exact ih0 _ _ _ _ _ _)
   | (with_reducible exact capnplaw24_awake.mono _)
   | (with_reducible exact capnpref01_Same.mono _ _ _)
   | (with_reducible exact capnpref24_Same.mono _ _ _ _ _ _ _)
   | (with_reducible exact packstream_Valid.mono _ _ _ _)
   | (with_reducible exact LeO.refl _)
   | (with_reducible exact LeO.none _)
   | (with_reducible refine LeO.ite ?_ ?_)
   | (with_reducible refine LeO.bind ?_ (fun _ => ?_))
   | exact ih0 _ _ _ _ _ _
   | exact capnplaw24_awake.mono _
   | exact capnpref01_Same.mono _ _ _
   | exact capnpref24_Same.mono _ _ _ _ _ _ _
   | exact packstream_Valid.mono _ _ _ _
   | exact LeO.none _
   | refine LeO.ite ?_ ?_
   | refine LeO.bind ?_ (fun _ => ?_)
theorem capnplaw24_PackstreamSplit.mono : ∀ a0 a1 a2 a3 a4 k, LeO (capnplaw24_PackstreamSplit.f k a0 a1 a2 a3 a4) (capnplaw24_PackstreamSplit.f (k + 1) a0 a1 a2 a3 a4) := by
 intro a0 a1 a2 a3 a4 k
 have ih0 := capnplaw24_PackstreamSplit.mono_l k
 unfold capnplaw24_PackstreamSplit.f
 repeat' first
   | (with_reducible exact ih0 _ _ _ _ _ _)
   | (with_reducible exact capnplaw24_awake.mono _)
   | (with_reducible exact capnpref01_Same.mono _ _ _)
   | (with_reducible exact capnpref24_Same.mono _ _ _ _ _ _ _)
   | (with_reducible exact packstream_Valid.mono _ _ _ _)
   | (with_reducible exact LeO.refl _)
   | (with_reducible exact LeO.none _)
   | (with_reducible refine LeO.ite ?_ ?_)
   | (with_reducible refine LeO.bind ?_ (fun _ => ?_))
   | exact ih0 _ _ _ _ _ _
   | exact capnplaw24_awake.mono _
   | exact capnpref01_Same.mono _ _ _
   | exact capnpref24_Same.mono _ _ _ _ _ _ _
   | exact packstream_Valid.mono _ _ _ _
   | exact LeO.none _
   | refine LeO.ite ?_ ?_
   | refine LeO.bind ?_ (fun _ => ?_)
def capnplaw24_PackstreamSplit.T5 : Bool × List (List Nat × List Nat) := (true, [([], []), ([], []), ([], []), ([1, 2], [1, 2]), ([], []), ([3, 4, 3], [3, 4]), ([0, 5, 5], [0, 5]), ([6], [6]), ([7], [7]), ([7], [7]), ([], []), ([10, 8, 6, 0, 1, 2, 3, 4, 5, 6, 7, 8, 10], [8, 10]), ([9, 11, 0, 1, 2, 3, 4, 5, 6, 7, 8, 9, 10, 11], [9])])
def capnplaw24_PackstreamSplit.B5 : List Nat := [0, 0, 0, 6, 0, 30, 63, 127, 255, 255, 0, 1535, 4095]
theorem capnplaw24_PackstreamSplit.tab5 : rtab .any (opsOf Try.f5 5) = capnplaw24_PackstreamSplit.T5 := by kernel_rfl
theorem capnplaw24_PackstreamSplit.bits5 : waitsOk capnplaw24_PackstreamSplit.T5.2 capnplaw24_PackstreamSplit.B5 = true := by kernel_rfl
def capnplaw24_PackstreamSplit.T6 : Bool × List (List Nat × List Nat) := (true, [([], []), ([], []), ([0, 1], [0, 1]), ([2, 2], [2]), ([3], [3]), ([3], [3]), ([4, 5, 3, 3], [3, 4, 5]), ([3], [3]), ([6, 7, 6, 3], [3, 6, 7]), ([3], [3]), ([8, 9, 8, 3], [3, 8, 9]), ([3, 10], [3, 10]), ([11, 10], [11]), ([12], [12]), ([13, 12, 12], [12, 13]), ([12], [12]), ([15, 14, 12], [12, 15]), ([14, 16, 12], [12, 14, 16]), ([12, 17], [12, 17]), ([18, 16, 0, 1, 2, 3, 4, 5, 6, 7, 8, 9, 10, 11, 12, 13, 14, 15, 16, 17, 18], [18])])
def capnplaw24_PackstreamSplit.B6 : List Nat := [0, 0, 3, 7, 15, 15, 63, 15, 255, 15, 1023, 2047, 4095, 8191, 16383, 8191, 65535, 131071, 262143, 524287]
theorem capnplaw24_PackstreamSplit.tab6 : rtab .any (opsOf Try.f5 6) = capnplaw24_PackstreamSplit.T6 := by kernel_rfl
theorem capnplaw24_PackstreamSplit.bits6 : waitsOk capnplaw24_PackstreamSplit.T6.2 capnplaw24_PackstreamSplit.B6 = true := by kernel_rfl
set_option maxHeartbeats 8000000 in
set_option maxRecDepth 100000 in
theorem capnplaw24_PackstreamSplit.calls (k : Nat) (A0_0 : Option Addr) (c0_0 : Nat) (l0_0 : List Int) (a0_1 : Int) (A0_2 : Option Addr) (c0_2 : Nat) (l0_2 : List Int) (A1 : Option Addr) (c1 : Nat) (l1 : List Int) (A2 : Option Addr) (c2 : Nat) (l2 : List Int) (r : Bool) (w : World) (hr0_0 : Kd.C (Kd.int .u8) w A0_0 l0_0.length l0_0) (hc0_0 : l0_0.length ≤ c0_0) (hr0_2 : Kd.C (Kd.int .u8) w A0_2 l0_2.length l0_2) (hc0_2 : l0_2.length ≤ c0_2) (hr1 : Kd.C (Kd.int .u8) w A1 l1.length l1) (hc1 : l1.length ≤ c1) (hr2 : Kd.C (Kd.int .u8) w A2 l2.length l2) (hc2 : l2.length ≤ c2) (h : capnplaw24_PackstreamSplit.f k l0_0 a0_1 l0_2 l1 l2 = some r) :
  Calls Try.prog 5 #[.agg #[.slice A0_0 l0_0.length c0_0, .int .i64 a0_1, .slice A0_2 l0_2.length c0_2], .slice A1 l1.length c1, .slice A2 l2.length c2] w fun e w' => e = .returned (.bool r) ∧ Below w.heap.size w w' := by
 have hu24 := Try.underlying24
 have HR0_0 := Aside0.mk hr0_0
 have HC0_0 := Aside0.mk hc0_0
 clear hr0_0 hc0_0
 have HR0_2 := Aside0.mk hr0_2
 have HC0_2 := Aside0.mk hc0_2
 clear hr0_2 hc0_2
 have HR1 := Aside0.mk hr1
 have HC1 := Aside0.mk hc1
 clear hr1 hc1
 have HR2 := Aside0.mk hr2
 have HC2 := Aside0.mk hc2
 clear hr2 hc2
 have HB := Aside0.mk (Below.refl w.heap.size w)
 have H : ((capnplaw24_awake.f k).bind fun t244 => (if t244 = true then (if (l0_0.length : Int) > 7 then (capnplaw24_PackstreamSplit.j0 k l1 l2 true l0_0 a0_1 l0_2) else (if (l0_2.length : Int) > 3000 then (capnplaw24_PackstreamSplit.j0 k l1 l2 true l0_0 a0_1 l0_2) else (if (l1.length : Int) > 6000 then (capnplaw24_PackstreamSplit.j0 k l1 l2 true l0_0 a0_1 l0_2) else (capnplaw24_PackstreamSplit.j0 k l1 l2 (decide ((l2.length : Int) > 6000)) l0_0 a0_1 l0_2)))) else (capnplaw24_PackstreamSplit.j0 k l1 l2 true l0_0 a0_1 l0_2))) = some r := h
 clear h
 have HC4 := Aside0.mk H
 clear H
 go_enter Try.func5, Try.ntmps5
 try simp only [List.append_eq, List.cons_append, List.nil_append]
 go_upto_region 1 with (first | ((with_reducible refine gate_dst (N := 3) rfl ?_); (try (refine gate_guard (by rfl) ?_; dsimp only)); refine box_event ?hg (N := 3) ?hd (cs := #[.slice A0_0 l0_0.length c0_0, .int .i64 a0_1, .slice A0_2 l0_2.length c0_2]) (t := 24) ?hr ?_; (case hd => rfl); (case hg => rfl); (case hr => first | (go_simp; done) | (go_simp; rfl)); intro gb243 hg w5 hbox hb; have n0_ := Aside0.mk (below_step pB hb); have n1_ := Aside0.mk (hbox); have n2_ := Aside0.mk ((by rw [hg]; exact (below_size pB) : w.heap.size ≤ gb243)); have n3_ := Aside0.mk ((by rw [hg]; exact (below_size pB) : w.heap.size ≤ gb243)); clear HB; have HB := n0_; have BK243 := n1_; have GW243 := n2_; have GE243 := n3_; clear n0_ n1_ n2_ n3_; clear hb hbox hg))
 (try simp only [Act.put, List.setIfInBounds_toArray, List.set_cons_zero, List.set_cons_succ])
 go_cut [36] (fun v36 wc => ∃ (kq : Nat) (x36_3 : Bool), v36 = .bool x36_3 ∧ Aside0 (capnplaw24_PackstreamSplit.j0 kq l1 l2 x36_3 l0_0 a0_1 l0_2 = some r) ∧ Aside0 (kq ≤ k) ∧ Aside0 (wc.heap[gb243]? = some (.cells #[(.slice A0_0 l0_0.length c0_0), .int .i64 a0_1, (.slice A0_2 l0_2.length c0_2)] 24 (0, 0))) ∧ Aside0 (Below w.heap.size w wc))
 case first =>
  have H := HC4.out
  clear HC4
  replace H := Option.bind_eq_some_iff.mp H
  obtain ⟨t244, A60, H⟩ := H
  replace H : (if t244 = true then (if (l0_0.length : Int) > 7 then (capnplaw24_PackstreamSplit.j0 k l1 l2 true l0_0 a0_1 l0_2) else (if (l0_2.length : Int) > 3000 then (capnplaw24_PackstreamSplit.j0 k l1 l2 true l0_0 a0_1 l0_2) else (if (l1.length : Int) > 6000 then (capnplaw24_PackstreamSplit.j0 k l1 l2 true l0_0 a0_1 l0_2) else (capnplaw24_PackstreamSplit.j0 k l1 l2 (decide ((l2.length : Int) > 6000)) l0_0 a0_1 l0_2)))) else (capnplaw24_PackstreamSplit.j0 k l1 l2 true l0_0 a0_1 l0_2)) = some r := H
  have A6 := Aside0.mk A60
  clear A60
  by_cases c7 : t244 = true
  ·subst c7
   have H1 : (if (l0_0.length : Int) > 7 then (capnplaw24_PackstreamSplit.j0 k l1 l2 true l0_0 a0_1 l0_2) else (if (l0_2.length : Int) > 3000 then (capnplaw24_PackstreamSplit.j0 k l1 l2 true l0_0 a0_1 l0_2) else (if (l1.length : Int) > 6000 then (capnplaw24_PackstreamSplit.j0 k l1 l2 true l0_0 a0_1 l0_2) else (capnplaw24_PackstreamSplit.j0 k l1 l2 (decide ((l2.length : Int) > 6000)) l0_0 a0_1 l0_2)))) = some r := by rw [if_pos rfl] at H; exact H
   clear H
   have H := H1
   clear H1
   by_cases c8 : (l0_0.length : Int) > 7
   ·rw [if_pos c8] at H
    have c8b0 : decide (7 < (l0_0.length : Int)) = true := decide_eq_true c8
    have c8b1 : decide (7 < l0_0.length) = true := decide_eq_true (by omega)
    clear c8
    (first | rw [c8b0] | (simp only [i64_w, i32_w]; rw [c8b0]) | skip)
    have H' := Aside0.mk H
    clear H
    go_wp2_with (first | ((with_reducible refine gate_callee (f := 7) rfl ?_); refine goesL_ (some 13) rfl rfl Try.func7 (by kernel_rfl) rfl #[] rfl pM ?_; (with_reducible refine (capnplaw24_awake.calls k  true _ A6.out).mono ?_); rintro e w9 ⟨rfl, hb⟩; refine ⟨_, rfl, ?_⟩; have n0_ := Aside0.mk (blk_below (g := gb243) (o := .cells #[.slice A0_0 l0_0.length c0_0, .int .i64 a0_1, .slice A0_2 l0_2.length c0_2] 24 (0, 0)) (pK BK243) hb); have n1_ := Aside0.mk (below_step pS hb); clear BK243; clear HB; have BK243 := n0_; have HB := n1_; clear n0_ n1_; (try clear hb); (try clear hb2); (try clear hk); (try clear hi); have hcz10_0 : w9.cell? ⟨gb243, 0, none⟩ = some (.slice A0_0 l0_0.length c0_0) := (blk_cell BK243.out 0).trans rfl; have hcz10_1 : w9.cell? ⟨gb243, 1, none⟩ = some (.int .i64 a0_1) := (blk_cell BK243.out 1).trans rfl; have hcz10_2 : w9.cell? ⟨gb243, 2, none⟩ = some (.slice A0_2 l0_2.length c0_2) := (blk_cell BK243.out 2).trans rfl; have hfz10_0 := blk_frozen BK243.out 0; have hfz10_1 := blk_frozen BK243.out 1; have hfz10_2 := blk_frozen BK243.out 2))
    go_meet
    case rel => exact ⟨_, (true), (by first | rfl | (simp; done) | (simp [*]; done)), H', ⟨by first | omega | exact Nat.le_refl _⟩, ⟨pK BK243⟩, ⟨by repeat (first | (with_reducible first | exact HB.out | apply below_alloc | apply pw_below_drewN | apply below_drew1 | refine below_set ?_ GE243.out) | exact HB.out)⟩⟩
   ·rw [if_neg c8] at H
    have c8b0 : decide (7 < (l0_0.length : Int)) = false := decide_eq_false c8
    have c8b1 : decide (7 < l0_0.length) = false := decide_eq_false (by omega)
    clear c8
    (first | rw [c8b0] | (simp only [i64_w, i32_w]; rw [c8b0]) | skip)
    by_cases c11 : (l0_2.length : Int) > 3000
    ·rw [if_pos c11] at H
     have c11b0 : decide (3000 < (l0_2.length : Int)) = true := decide_eq_true c11
     have c11b1 : decide (3000 < l0_2.length) = true := decide_eq_true (by omega)
     clear c11
     have H' := Aside0.mk H
     clear H
     go_wp2_with (first | ((with_reducible refine gate_callee (f := 7) rfl ?_); refine goesL_ (some 13) rfl rfl Try.func7 (by kernel_rfl) rfl #[] rfl pM ?_; (with_reducible refine (capnplaw24_awake.calls k  true _ A6.out).mono ?_); rintro e w12 ⟨rfl, hb⟩; refine ⟨_, rfl, ?_⟩; have n0_ := Aside0.mk (blk_below (g := gb243) (o := .cells #[.slice A0_0 l0_0.length c0_0, .int .i64 a0_1, .slice A0_2 l0_2.length c0_2] 24 (0, 0)) (pK BK243) hb); have n1_ := Aside0.mk (below_step pS hb); clear BK243; clear HB; have BK243 := n0_; have HB := n1_; clear n0_ n1_; (try clear hb); (try clear hb2); (try clear hk); (try clear hi); have hcz13_0 : w12.cell? ⟨gb243, 0, none⟩ = some (.slice A0_0 l0_0.length c0_0) := (blk_cell BK243.out 0).trans rfl; have hcz13_1 : w12.cell? ⟨gb243, 1, none⟩ = some (.int .i64 a0_1) := (blk_cell BK243.out 1).trans rfl; have hcz13_2 : w12.cell? ⟨gb243, 2, none⟩ = some (.slice A0_2 l0_2.length c0_2) := (blk_cell BK243.out 2).trans rfl; have hfz13_0 := blk_frozen BK243.out 0; have hfz13_1 := blk_frozen BK243.out 1; have hfz13_2 := blk_frozen BK243.out 2))
     go_meet
     case rel => exact ⟨_, (true), (by first | rfl | (simp; done) | (simp [*]; done)), H', ⟨by first | omega | exact Nat.le_refl _⟩, ⟨pK BK243⟩, ⟨by repeat (first | (with_reducible first | exact HB.out | apply below_alloc | apply pw_below_drewN | apply below_drew1 | refine below_set ?_ GE243.out) | exact HB.out)⟩⟩
    ·rw [if_neg c11] at H
     have c11b0 : decide (3000 < (l0_2.length : Int)) = false := decide_eq_false c11
     have c11b1 : decide (3000 < l0_2.length) = false := decide_eq_false (by omega)
     clear c11
     by_cases c14 : (l1.length : Int) > 6000
     ·rw [if_pos c14] at H
      have c14b0 : decide (6000 < (l1.length : Int)) = true := decide_eq_true c14
      have c14b1 : decide (6000 < l1.length) = true := decide_eq_true (by omega)
      clear c14
      have H' := Aside0.mk H
      clear H
      go_wp2_with (first | ((with_reducible refine gate_callee (f := 7) rfl ?_); refine goesL_ (some 13) rfl rfl Try.func7 (by kernel_rfl) rfl #[] rfl pM ?_; (with_reducible refine (capnplaw24_awake.calls k  true _ A6.out).mono ?_); rintro e w15 ⟨rfl, hb⟩; refine ⟨_, rfl, ?_⟩; have n0_ := Aside0.mk (blk_below (g := gb243) (o := .cells #[.slice A0_0 l0_0.length c0_0, .int .i64 a0_1, .slice A0_2 l0_2.length c0_2] 24 (0, 0)) (pK BK243) hb); have n1_ := Aside0.mk (below_step pS hb); clear BK243; clear HB; have BK243 := n0_; have HB := n1_; clear n0_ n1_; (try clear hb); (try clear hb2); (try clear hk); (try clear hi); have hcz16_0 : w15.cell? ⟨gb243, 0, none⟩ = some (.slice A0_0 l0_0.length c0_0) := (blk_cell BK243.out 0).trans rfl; have hcz16_1 : w15.cell? ⟨gb243, 1, none⟩ = some (.int .i64 a0_1) := (blk_cell BK243.out 1).trans rfl; have hcz16_2 : w15.cell? ⟨gb243, 2, none⟩ = some (.slice A0_2 l0_2.length c0_2) := (blk_cell BK243.out 2).trans rfl; have hfz16_0 := blk_frozen BK243.out 0; have hfz16_1 := blk_frozen BK243.out 1; have hfz16_2 := blk_frozen BK243.out 2))
      go_meet
      case rel => exact ⟨_, (true), (by first | rfl | (simp; done) | (simp [*]; done)), H', ⟨by first | omega | exact Nat.le_refl _⟩, ⟨pK BK243⟩, ⟨by repeat (first | (with_reducible first | exact HB.out | apply below_alloc | apply pw_below_drewN | apply below_drew1 | refine below_set ?_ GE243.out) | exact HB.out)⟩⟩
     ·rw [if_neg c14] at H
      have c14b0 : decide (6000 < (l1.length : Int)) = false := decide_eq_false c14
      have c14b1 : decide (6000 < l1.length) = false := decide_eq_false (by omega)
      clear c14
      have H' := Aside0.mk H
      clear H
      go_wp2_with (first | ((with_reducible refine gate_callee (f := 7) rfl ?_); refine goesL_ (some 13) rfl rfl Try.func7 (by kernel_rfl) rfl #[] rfl pM ?_; (with_reducible refine (capnplaw24_awake.calls k  true _ A6.out).mono ?_); rintro e w17 ⟨rfl, hb⟩; refine ⟨_, rfl, ?_⟩; have n0_ := Aside0.mk (blk_below (g := gb243) (o := .cells #[.slice A0_0 l0_0.length c0_0, .int .i64 a0_1, .slice A0_2 l0_2.length c0_2] 24 (0, 0)) (pK BK243) hb); have n1_ := Aside0.mk (below_step pS hb); clear BK243; clear HB; have BK243 := n0_; have HB := n1_; clear n0_ n1_; (try clear hb); (try clear hb2); (try clear hk); (try clear hi); have hcz18_0 : w17.cell? ⟨gb243, 0, none⟩ = some (.slice A0_0 l0_0.length c0_0) := (blk_cell BK243.out 0).trans rfl; have hcz18_1 : w17.cell? ⟨gb243, 1, none⟩ = some (.int .i64 a0_1) := (blk_cell BK243.out 1).trans rfl; have hcz18_2 : w17.cell? ⟨gb243, 2, none⟩ = some (.slice A0_2 l0_2.length c0_2) := (blk_cell BK243.out 2).trans rfl; have hfz18_0 := blk_frozen BK243.out 0; have hfz18_1 := blk_frozen BK243.out 1; have hfz18_2 := blk_frozen BK243.out 2))
      go_meet
      case rel => exact ⟨_, (decide ((l2.length : Int) > 6000)), (by first | rfl | (simp; done) | (simp [*]; done)), H', ⟨by first | omega | exact Nat.le_refl _⟩, ⟨pK BK243⟩, ⟨by repeat (first | (with_reducible first | exact HB.out | apply below_alloc | apply pw_below_drewN | apply below_drew1 | refine below_set ?_ GE243.out) | exact HB.out)⟩⟩
  ·replace c7 := Bool.eq_false_iff.mpr c7
   subst c7
   have H1 : (capnplaw24_PackstreamSplit.j0 k l1 l2 true l0_0 a0_1 l0_2) = some r := by rw [if_neg (show ¬ (false = true) by decide)] at H; exact H
   clear H
   have H := H1
   clear H1
   have H' := Aside0.mk H
   clear H
   go_wp2_with (first | ((with_reducible refine gate_callee (f := 7) rfl ?_); refine goesL_ (some 13) rfl rfl Try.func7 (by kernel_rfl) rfl #[] rfl pM ?_; (with_reducible refine (capnplaw24_awake.calls k  false _ A6.out).mono ?_); rintro e w19 ⟨rfl, hb⟩; refine ⟨_, rfl, ?_⟩; have n0_ := Aside0.mk (blk_below (g := gb243) (o := .cells #[.slice A0_0 l0_0.length c0_0, .int .i64 a0_1, .slice A0_2 l0_2.length c0_2] 24 (0, 0)) (pK BK243) hb); have n1_ := Aside0.mk (below_step pS hb); clear BK243; clear HB; have BK243 := n0_; have HB := n1_; clear n0_ n1_; (try clear hb); (try clear hb2); (try clear hk); (try clear hi)))
   go_meet
   case rel => exact ⟨_, (true), (by first | rfl | (simp; done) | (simp [*]; done)), H', ⟨by first | omega | exact Nat.le_refl _⟩, ⟨pK BK243⟩, ⟨by repeat (first | (with_reducible first | exact HB.out | apply below_alloc | apply pw_below_drewN | apply below_drew1 | refine below_set ?_ GE243.out) | exact HB.out)⟩⟩
 case rest =>
  clear HC4
  try clear c1
  try clear c2
  try clear p2
  try clear c5
  try clear c7
  try clear c8
  try clear c8b0
  try clear c8b1
  try clear c11
  try clear c11b0
  try clear c11b1
  try clear c14
  try clear c14b0
  try clear c14b1
  try clear hcz10_0
  try clear hcz10_1
  try clear hcz10_2
  try clear hcz13_0
  try clear hcz13_1
  try clear hcz13_2
  try clear hcz16_0
  try clear hcz16_1
  try clear hcz16_2
  try clear hcz18_0
  try clear hcz18_1
  try clear hcz18_2
  try clear hfz10_0
  try clear hfz10_1
  try clear hfz10_2
  try clear hfz13_0
  try clear hfz13_1
  try clear hfz13_2
  try clear hfz16_0
  try clear hfz16_1
  try clear hfz16_2
  try clear hfz18_0
  try clear hfz18_1
  try clear hfz18_2
  obtain ⟨kq, x36_3, rfl, HA, HJ3, BK243, HB⟩ := hcut
  cases kq with
  | zero => exact absurd HA.out (by simp [capnplaw24_PackstreamSplit.j0])
  | succ kj3 =>
   have H := HA.out
   clear HA
   simp only [capnplaw24_PackstreamSplit.j0] at H
   by_cases c20 : x36_3 = true
   ·subst c20
    have H1 : ((capnplaw24_awake.f kj3).bind fun t245 => (some t245)) = some r := by rw [if_pos rfl] at H; exact H
    clear H
    have H := H1
    clear H1
    replace H := Option.bind_eq_some_iff.mp H
    obtain ⟨t245, A210, H⟩ := H
    replace H : (some t245) = some r := H
    have A21 := Aside0.mk A210
    clear A210
    obtain rfl := Option.some.inj H
    go_wp2_with (first | ((with_reducible refine gate_callee (f := 7) rfl ?_); refine goesL_ (some 37) rfl rfl Try.func7 (by kernel_rfl) rfl #[] rfl pM ?_; (with_reducible refine (capnplaw24_awake.calls kj3  t245 _ A21.out).mono ?_); rintro e w22 ⟨rfl, hb⟩; refine ⟨_, rfl, ?_⟩; have n0_ := Aside0.mk (blk_below (g := gb243) (o := .cells #[.slice A0_0 l0_0.length c0_0, .int .i64 a0_1, .slice A0_2 l0_2.length c0_2] 24 (0, 0)) (pK BK243) hb); have n1_ := Aside0.mk (below_step pS hb); clear BK243; clear HB; have BK243 := n0_; have HB := n1_; clear n0_ n1_; (try clear hb); (try clear hb2); (try clear hk); (try clear hi)))
    go_ret
    exact ⟨by first | rfl | (simp [errW_none, errW_some] <;> rfl) | (simp [*, errW_none, errW_some] <;> rfl), by repeat (first | (with_reducible first | exact HB.out | apply below_alloc | apply pw_below_drewN | apply below_drew1 | refine below_set ?_ GE243.out) | exact HB.out)⟩
   ·replace c20 := Bool.eq_false_iff.mpr c20
    subst c20
    have H1 : ((packstream_Write.f l0_0 a0_1 l0_2 l1).bind fun bt246 => ((packstream_Write.f bt246.1 bt246.2.1 bt246.2.2.1 l2).bind fun bt257 => ((some (([] : List Int) : List Int)).bind fun y268 => (if y268.length + l1.length < 140737488355328 then ((some (y268 ++ l1 : List Int)).bind fun y271 => (if y271.length + l2.length < 140737488355328 then ((packstream_Write.f l0_0 a0_1 l0_2 (y271 ++ l2)).bind fun bt277 => ((capnpref24_Same.f kj3 bt257.1 bt257.2.1 bt257.2.2.1 bt277.1 bt277.2.1 bt277.2.2.1).bind fun t288 => (if t288 = true then ((some (([] : List Int) : List Int)).bind fun y289 => (if y289.length + bt246.2.2.2.length < 140737488355328 then ((some (y289 ++ bt246.2.2.2 : List Int)).bind fun y292 => (if y292.length + bt257.2.2.2.length < 140737488355328 then ((capnpref01_Same.f kj3 (y292 ++ bt257.2.2.2) bt277.2.2.2).bind fun t298 => (if t298 = true then ((packstream_Valid.f kj3 l0_0 a0_1 l0_2).bind fun t299 => ((packstream_Valid.f kj3 bt246.1 bt246.2.1 bt246.2.2.1).bind fun t300 => (some (t299 == t300)))) else (none))) else (none))) else (none))) else (none)))) else (none))) else (none))))) = some r := by rw [if_neg (show ¬ (false = true) by decide)] at H; exact H
    clear H
    have H := H1
    clear H1
    replace H := Option.bind_eq_some_iff.mp H
    obtain ⟨⟨t246, t249, t250, t253⟩, A230, H⟩ := H
    replace H : ((packstream_Write.f t246 t249 t250 l2).bind fun bt257 => ((some (([] : List Int) : List Int)).bind fun y268 => (if y268.length + l1.length < 140737488355328 then ((some (y268 ++ l1 : List Int)).bind fun y271 => (if y271.length + l2.length < 140737488355328 then ((packstream_Write.f l0_0 a0_1 l0_2 (y271 ++ l2)).bind fun bt277 => ((capnpref24_Same.f kj3 bt257.1 bt257.2.1 bt257.2.2.1 bt277.1 bt277.2.1 bt277.2.2.1).bind fun t288 => (if t288 = true then ((some (([] : List Int) : List Int)).bind fun y289 => (if y289.length + t253.length < 140737488355328 then ((some (y289 ++ t253 : List Int)).bind fun y292 => (if y292.length + bt257.2.2.2.length < 140737488355328 then ((capnpref01_Same.f kj3 (y292 ++ bt257.2.2.2) bt277.2.2.2).bind fun t298 => (if t298 = true then ((packstream_Valid.f kj3 l0_0 a0_1 l0_2).bind fun t299 => ((packstream_Valid.f kj3 t246 t249 t250).bind fun t300 => (some (t299 == t300)))) else (none))) else (none))) else (none))) else (none)))) else (none))) else (none)))) = some r := H
    have A23 := Aside0.mk A230
    clear A230
    replace H := Option.bind_eq_some_iff.mp H
    obtain ⟨⟨t257, t260, t261, t264⟩, A240, H⟩ := H
    replace H : ((some (([] : List Int) : List Int)).bind fun y268 => (if y268.length + l1.length < 140737488355328 then ((some (y268 ++ l1 : List Int)).bind fun y271 => (if y271.length + l2.length < 140737488355328 then ((packstream_Write.f l0_0 a0_1 l0_2 (y271 ++ l2)).bind fun bt277 => ((capnpref24_Same.f kj3 t257 t260 t261 bt277.1 bt277.2.1 bt277.2.2.1).bind fun t288 => (if t288 = true then ((some (([] : List Int) : List Int)).bind fun y289 => (if y289.length + t253.length < 140737488355328 then ((some (y289 ++ t253 : List Int)).bind fun y292 => (if y292.length + t264.length < 140737488355328 then ((capnpref01_Same.f kj3 (y292 ++ t264) bt277.2.2.2).bind fun t298 => (if t298 = true then ((packstream_Valid.f kj3 l0_0 a0_1 l0_2).bind fun t299 => ((packstream_Valid.f kj3 t246 t249 t250).bind fun t300 => (some (t299 == t300)))) else (none))) else (none))) else (none))) else (none)))) else (none))) else (none))) = some r := H
    have A24 := Aside0.mk A240
    clear A240
    obtain ⟨y268, hy268⟩ : ∃ y_ : List Int, y_ = (([] : List Int)) := ⟨_, rfl⟩
    replace H : (if y268.length + l1.length < 140737488355328 then ((some (y268 ++ l1 : List Int)).bind fun y271 => (if y271.length + l2.length < 140737488355328 then ((packstream_Write.f l0_0 a0_1 l0_2 (y271 ++ l2)).bind fun bt277 => ((capnpref24_Same.f kj3 t257 t260 t261 bt277.1 bt277.2.1 bt277.2.2.1).bind fun t288 => (if t288 = true then ((some (([] : List Int) : List Int)).bind fun y289 => (if y289.length + t253.length < 140737488355328 then ((some (y289 ++ t253 : List Int)).bind fun y292 => (if y292.length + t264.length < 140737488355328 then ((capnpref01_Same.f kj3 (y292 ++ t264) bt277.2.2.2).bind fun t298 => (if t298 = true then ((packstream_Valid.f kj3 l0_0 a0_1 l0_2).bind fun t299 => ((packstream_Valid.f kj3 t246 t249 t250).bind fun t300 => (some (t299 == t300)))) else (none))) else (none))) else (none))) else (none)))) else (none))) else (none)) = some r := by first | (rw [hy268]; with_reducible exact H) | (have H2_ := (Option.bind_some _ _).symm.trans H; rw [hy268]; with_reducible exact H2_) | (have H2_ := (Option.bind_some _ _).symm.trans H; with_reducible exact H2_) | with_reducible exact H | (rw [hy268]; exact H) | exact H
    have Ny268 := Aside0.mk hy268
    clear hy268
    by_cases c25 : y268.length + l1.length < 140737488355328
    ·rw [if_pos c25] at H
     have LMc25 := Aside0.mk c25
     clear c25
     obtain ⟨y271, hy271⟩ : ∃ y_ : List Int, y_ = (y268 ++ l1) := ⟨_, rfl⟩
     replace H : (if y271.length + l2.length < 140737488355328 then ((packstream_Write.f l0_0 a0_1 l0_2 (y271 ++ l2)).bind fun bt277 => ((capnpref24_Same.f kj3 t257 t260 t261 bt277.1 bt277.2.1 bt277.2.2.1).bind fun t288 => (if t288 = true then ((some (([] : List Int) : List Int)).bind fun y289 => (if y289.length + t253.length < 140737488355328 then ((some (y289 ++ t253 : List Int)).bind fun y292 => (if y292.length + t264.length < 140737488355328 then ((capnpref01_Same.f kj3 (y292 ++ t264) bt277.2.2.2).bind fun t298 => (if t298 = true then ((packstream_Valid.f kj3 l0_0 a0_1 l0_2).bind fun t299 => ((packstream_Valid.f kj3 t246 t249 t250).bind fun t300 => (some (t299 == t300)))) else (none))) else (none))) else (none))) else (none)))) else (none)) = some r := by first | (rw [hy271]; with_reducible exact H) | (have H2_ := (Option.bind_some _ _).symm.trans H; rw [hy271]; with_reducible exact H2_) | (have H2_ := (Option.bind_some _ _).symm.trans H; with_reducible exact H2_) | with_reducible exact H | (rw [hy271]; exact H) | exact H
     have Ny271 := Aside0.mk hy271
     clear hy271
     by_cases c26 : y271.length + l2.length < 140737488355328
     ·rw [if_pos c26] at H
      have LMc26 := Aside0.mk c26
      clear c26
      obtain ⟨y274, hy274⟩ : ∃ y_ : List Int, y_ = (y271 ++ l2) := ⟨_, rfl⟩
      replace H : ((packstream_Write.f l0_0 a0_1 l0_2 y274).bind fun bt277 => ((capnpref24_Same.f kj3 t257 t260 t261 bt277.1 bt277.2.1 bt277.2.2.1).bind fun t288 => (if t288 = true then ((some (([] : List Int) : List Int)).bind fun y289 => (if y289.length + t253.length < 140737488355328 then ((some (y289 ++ t253 : List Int)).bind fun y292 => (if y292.length + t264.length < 140737488355328 then ((capnpref01_Same.f kj3 (y292 ++ t264) bt277.2.2.2).bind fun t298 => (if t298 = true then ((packstream_Valid.f kj3 l0_0 a0_1 l0_2).bind fun t299 => ((packstream_Valid.f kj3 t246 t249 t250).bind fun t300 => (some (t299 == t300)))) else (none))) else (none))) else (none))) else (none)))) = some r := by first | (rw [hy274]; with_reducible exact H) | (have H2_ := (Option.bind_some _ _).symm.trans H; rw [hy274]; with_reducible exact H2_) | (have H2_ := (Option.bind_some _ _).symm.trans H; with_reducible exact H2_) | with_reducible exact H | (rw [hy274]; exact H) | exact H
      have Ny274 := Aside0.mk hy274
      clear hy274
      replace H := Option.bind_eq_some_iff.mp H
      obtain ⟨⟨t277, t280, t281, t284⟩, A270, H⟩ := H
      replace H : ((capnpref24_Same.f kj3 t257 t260 t261 t277 t280 t281).bind fun t288 => (if t288 = true then ((some (([] : List Int) : List Int)).bind fun y289 => (if y289.length + t253.length < 140737488355328 then ((some (y289 ++ t253 : List Int)).bind fun y292 => (if y292.length + t264.length < 140737488355328 then ((capnpref01_Same.f kj3 (y292 ++ t264) t284).bind fun t298 => (if t298 = true then ((packstream_Valid.f kj3 l0_0 a0_1 l0_2).bind fun t299 => ((packstream_Valid.f kj3 t246 t249 t250).bind fun t300 => (some (t299 == t300)))) else (none))) else (none))) else (none))) else (none))) = some r := H
      have A27 := Aside0.mk A270
      clear A270
      replace H := Option.bind_eq_some_iff.mp H
      obtain ⟨t288, A280, H⟩ := H
      replace H : (if t288 = true then ((some (([] : List Int) : List Int)).bind fun y289 => (if y289.length + t253.length < 140737488355328 then ((some (y289 ++ t253 : List Int)).bind fun y292 => (if y292.length + t264.length < 140737488355328 then ((capnpref01_Same.f kj3 (y292 ++ t264) t284).bind fun t298 => (if t298 = true then ((packstream_Valid.f kj3 l0_0 a0_1 l0_2).bind fun t299 => ((packstream_Valid.f kj3 t246 t249 t250).bind fun t300 => (some (t299 == t300)))) else (none))) else (none))) else (none))) else (none)) = some r := H
      have A28 := Aside0.mk A280
      clear A280
      by_cases c29 : t288 = true
      ·subst c29
       have H1 : ((some (([] : List Int) : List Int)).bind fun y289 => (if y289.length + t253.length < 140737488355328 then ((some (y289 ++ t253 : List Int)).bind fun y292 => (if y292.length + t264.length < 140737488355328 then ((capnpref01_Same.f kj3 (y292 ++ t264) t284).bind fun t298 => (if t298 = true then ((packstream_Valid.f kj3 l0_0 a0_1 l0_2).bind fun t299 => ((packstream_Valid.f kj3 t246 t249 t250).bind fun t300 => (some (t299 == t300)))) else (none))) else (none))) else (none))) = some r := by rw [if_pos rfl] at H; exact H
       clear H
       have H := H1
       clear H1
       obtain ⟨y289, hy289⟩ : ∃ y_ : List Int, y_ = (([] : List Int)) := ⟨_, rfl⟩
       replace H : (if y289.length + t253.length < 140737488355328 then ((some (y289 ++ t253 : List Int)).bind fun y292 => (if y292.length + t264.length < 140737488355328 then ((capnpref01_Same.f kj3 (y292 ++ t264) t284).bind fun t298 => (if t298 = true then ((packstream_Valid.f kj3 l0_0 a0_1 l0_2).bind fun t299 => ((packstream_Valid.f kj3 t246 t249 t250).bind fun t300 => (some (t299 == t300)))) else (none))) else (none))) else (none)) = some r := by first | (rw [hy289]; with_reducible exact H) | (have H2_ := (Option.bind_some _ _).symm.trans H; rw [hy289]; with_reducible exact H2_) | (have H2_ := (Option.bind_some _ _).symm.trans H; with_reducible exact H2_) | with_reducible exact H | (rw [hy289]; exact H) | exact H
       have Ny289 := Aside0.mk hy289
       clear hy289
       by_cases c30 : y289.length + t253.length < 140737488355328
       ·rw [if_pos c30] at H
        have LMc30 := Aside0.mk c30
        clear c30
        obtain ⟨y292, hy292⟩ : ∃ y_ : List Int, y_ = (y289 ++ t253) := ⟨_, rfl⟩
        replace H : (if y292.length + t264.length < 140737488355328 then ((capnpref01_Same.f kj3 (y292 ++ t264) t284).bind fun t298 => (if t298 = true then ((packstream_Valid.f kj3 l0_0 a0_1 l0_2).bind fun t299 => ((packstream_Valid.f kj3 t246 t249 t250).bind fun t300 => (some (t299 == t300)))) else (none))) else (none)) = some r := by first | (rw [hy292]; with_reducible exact H) | (have H2_ := (Option.bind_some _ _).symm.trans H; rw [hy292]; with_reducible exact H2_) | (have H2_ := (Option.bind_some _ _).symm.trans H; with_reducible exact H2_) | with_reducible exact H | (rw [hy292]; exact H) | exact H
        have Ny292 := Aside0.mk hy292
        clear hy292
        by_cases c31 : y292.length + t264.length < 140737488355328
        ·rw [if_pos c31] at H
         have LMc31 := Aside0.mk c31
         clear c31
         obtain ⟨y295, hy295⟩ : ∃ y_ : List Int, y_ = (y292 ++ t264) := ⟨_, rfl⟩
         replace H : ((capnpref01_Same.f kj3 y295 t284).bind fun t298 => (if t298 = true then ((packstream_Valid.f kj3 l0_0 a0_1 l0_2).bind fun t299 => ((packstream_Valid.f kj3 t246 t249 t250).bind fun t300 => (some (t299 == t300)))) else (none))) = some r := by first | (rw [hy295]; with_reducible exact H) | (have H2_ := (Option.bind_some _ _).symm.trans H; rw [hy295]; with_reducible exact H2_) | (have H2_ := (Option.bind_some _ _).symm.trans H; with_reducible exact H2_) | with_reducible exact H | (rw [hy295]; exact H) | exact H
         have Ny295 := Aside0.mk hy295
         clear hy295
         replace H := Option.bind_eq_some_iff.mp H
         obtain ⟨t298, A320, H⟩ := H
         replace H : (if t298 = true then ((packstream_Valid.f kj3 l0_0 a0_1 l0_2).bind fun t299 => ((packstream_Valid.f kj3 t246 t249 t250).bind fun t300 => (some (t299 == t300)))) else (none)) = some r := H
         have A32 := Aside0.mk A320
         clear A320
         by_cases c33 : t298 = true
         ·subst c33
          have H1 : ((packstream_Valid.f kj3 l0_0 a0_1 l0_2).bind fun t299 => ((packstream_Valid.f kj3 t246 t249 t250).bind fun t300 => (some (t299 == t300)))) = some r := by rw [if_pos rfl] at H; exact H
          clear H
          have H := H1
          clear H1
          replace H := Option.bind_eq_some_iff.mp H
          obtain ⟨t299, A340, H⟩ := H
          replace H : ((packstream_Valid.f kj3 t246 t249 t250).bind fun t300 => (some (t299 == t300))) = some r := H
          have A34 := Aside0.mk A340
          clear A340
          replace H := Option.bind_eq_some_iff.mp H
          obtain ⟨t300, A350, H⟩ := H
          replace H : (some (t299 == t300)) = some r := H
          have A35 := Aside0.mk A350
          clear A350
          obtain rfl := Option.some.inj H
          have hcz36_0 : wc.cell? ⟨gb243, 0, none⟩ = some (.slice A0_0 l0_0.length c0_0) := (blk_cell BK243.out 0).trans rfl
          have hcz36_1 : wc.cell? ⟨gb243, 1, none⟩ = some (.int .i64 a0_1) := (blk_cell BK243.out 1).trans rfl
          have hcz36_2 : wc.cell? ⟨gb243, 2, none⟩ = some (.slice A0_2 l0_2.length c0_2) := (blk_cell BK243.out 2).trans rfl
          have hfz36_0 := blk_frozen BK243.out 0
          have hfz36_1 := blk_frozen BK243.out 1
          have hfz36_2 := blk_frozen BK243.out 2
          try go_wp2_with (first | ((with_reducible refine gate_callee (f := 8) rfl ?_); refine goesL_ (some 41) rfl rfl Try.func8 (by kernel_rfl) rfl #[.agg #[.slice A0_0 l0_0.length c0_0, .int .i64 a0_1, .slice A0_2 l0_2.length c0_2], .slice A1 l1.length c1] rfl pM ?_; (with_reducible refine (packstream_Write.calls _ _ l0_0 a0_1 _ _ l0_2 _ _ l1 t246 t249 t250 t253 _ ?side1 ?side2 ?side3 ?side4 ?side5 ?side6 A23.out).mono ?_); (case side1 => repeat (first | exact (Kd.C_below HR0_0.out HB.out) | (with_reducible refine Kd.C_alloc ?_ _) | (with_reducible refine Kd.C_drewN ?_ _) | (with_reducible refine Kd.C_drew ?_))); (case side2 => exact HC0_0.out); (case side3 => repeat (first | exact (Kd.C_below HR0_2.out HB.out) | (with_reducible refine Kd.C_alloc ?_ _) | (with_reducible refine Kd.C_drewN ?_ _) | (with_reducible refine Kd.C_drew ?_))); (case side4 => exact HC0_2.out); (case side5 => repeat (first | exact (Kd.C_below HR1.out HB.out) | (with_reducible refine Kd.C_alloc ?_ _) | (with_reducible refine Kd.C_drewN ?_ _) | (with_reducible refine Kd.C_drew ?_))); (case side6 => exact HC1.out); rintro e w37 ⟨v247, v251, v254, rfl, ho0, ho1, ho2, hb⟩; refine ⟨_, rfl, ?_⟩; have n0_ := Aside0.mk (Kd.R_lower ho0 (below_size pS)); have n1_ := Aside0.mk (Kd.R_lower ho1 (below_size pS)); have n2_ := Aside0.mk (Kd.R_lower ho2 (below_size pS)); have n3_ := Aside0.mk (blk_below (g := gb243) (o := .cells #[.slice A0_0 l0_0.length c0_0, .int .i64 a0_1, .slice A0_2 l0_2.length c0_2] 24 (0, 0)) (pK BK243) hb); have n4_ := Aside0.mk (below_step pS hb); clear BK243; clear HB; have HO248 := n0_; have HO252 := n1_; have HO255 := n2_; have BK243 := n3_; have HB := n4_; clear n0_ n1_ n2_ n3_ n4_; (try clear hb); (try clear hb2); (try clear hk); (try clear hi); (try clear ho0); (try clear ho1); (try clear ho2)) | ((with_reducible refine gate_dst (N := 7) rfl ?_); (try (refine gate_guard (by rfl) ?_; dsimp only)); refine box_event ?hg (N := 7) ?hd (cs := #[.slice none 0 0, .int .i64 0, .slice none 0 0]) (t := 24) ?hr ?_; (case hd => rfl); (case hg => rfl); (case hr => first | (go_simp; done) | (go_simp; rfl)); intro gb256 hg w38 hbox hb; have n0_ := Aside0.mk (Kd.R_below (pR HO248) hb); have n1_ := Aside0.mk (Kd.R_below (pR HO252) hb); have n2_ := Aside0.mk (Kd.R_below (pR HO255) hb); have n3_ := Aside0.mk (blk_below (g := gb243) (o := .cells #[.slice A0_0 l0_0.length c0_0, .int .i64 a0_1, .slice A0_2 l0_2.length c0_2] 24 (0, 0)) (pK BK243) hb); have n4_ := Aside0.mk (below_step pS hb); have n5_ := Aside0.mk (hbox); have n6_ := Aside0.mk ((by rw [hg]; exact (below_size pS) : w.heap.size ≤ gb256)); have n7_ := Aside0.mk ((by rw [hg]; exact (below_size pS) : w.heap.size ≤ gb256)); have n8_ := Aside0.mk ((by rw [hg]; exact Nat.ne_of_lt (blk_lt (g := gb243) (o := .cells #[.slice A0_0 l0_0.length c0_0, .int .i64 a0_1, .slice A0_2 l0_2.length c0_2] 24 (0, 0)) (pK BK243)) : gb243 ≠ gb256)); have n9_ := Aside0.mk ((by rw [hg]; exact Nat.ne_of_gt (blk_lt (g := gb243) (o := .cells #[.slice A0_0 l0_0.length c0_0, .int .i64 a0_1, .slice A0_2 l0_2.length c0_2] 24 (0, 0)) (pK BK243)) : gb256 ≠ gb243)); clear HO248; clear HO252; clear HO255; clear BK243; clear HB; have HO248 := n0_; have HO252 := n1_; have HO255 := n2_; have BK243 := n3_; have HB := n4_; have BK256 := n5_; have GW256 := n6_; have GE256 := n7_; have NB243_256 := n8_; have NB256_243 := n9_; clear n0_ n1_ n2_ n3_ n4_ n5_ n6_ n7_ n8_ n9_; clear hb hbox hg; obtain ⟨Ao39, co39, eo39⟩ := Kd.R_slice HO248.out; subst eo39; have hnb40 := NB256_243.out; have hnc40 := NB243_256.out; have hcz41_0 : w38.cell? ⟨gb256, 0, none⟩ = some (.slice none 0 0) := (blk_cell BK256.out 0).trans rfl; have hcz41_1 : w38.cell? ⟨gb256, 1, none⟩ = some (.int .i64 0) := (blk_cell BK256.out 1).trans rfl; have hcz41_2 : w38.cell? ⟨gb256, 2, none⟩ = some (.slice none 0 0) := (blk_cell BK256.out 2).trans rfl; have hfz41_0 := blk_frozen BK256.out 0; have hfz41_1 := blk_frozen BK256.out 1; have hfz41_2 := blk_frozen BK256.out 2; obtain ⟨Ao42, co42, eo42⟩ := Kd.R_slice HO252.out; subst eo42) | ((with_reducible refine gate_callee (f := 8) rfl ?_); refine goesL_ (some 47) rfl rfl Try.func8 (by kernel_rfl) rfl #[.agg #[.slice Ao39 t246.length co39, .int .i64 t249, .slice Ao42 t250.length co42], .slice A2 l2.length c2] rfl pM ?_; (with_reducible refine (packstream_Write.calls _ _ t246 t249 _ _ t250 _ _ l2 t257 t260 t261 t264 _ ?side1 ?side2 ?side3 ?side4 ?side5 ?side6 A24.out).mono ?_); (case side1 => refine (Kd.R_reads' (e := 5) (base := w.heap.size) (ok := fun k_ => (some k_ ≠ (.slice Ao42 t250.length co42 : Value).ownBlock ∧ some k_ ≠ (v254 : Value).ownBlock)) (n := t246.length) (c := co39) ?_).2.2; exact (by (with_reducible repeat (first | apply Kd.R_alloc | apply Kd.R_drewN | apply Kd.R_drew)); exact (Kd.R_mono (Kd.R_far (p := ⟨gb256, 2, none⟩) (Kd.R_far (p := ⟨gb256, 1, none⟩) (Kd.R_far (p := ⟨gb256, 0, none⟩) (Kd.R_types HO248.out BK256.out (by decide)) (fun _ hk => hk.2) (.slice Ao39 t246.length co39)) (fun _ hk => hk.2) (.int .i64 t249)) (fun _ hk => hk.2) (.slice Ao42 t250.length co42)) (fun _ h_ => h_.1)))); (case side2 => exact (Kd.R_reads' HO248.out).2.1); (case side3 => refine (Kd.R_reads' (e := 5) (base := w.heap.size) (ok := fun k_ => (some k_ ≠ (.slice Ao39 t246.length co39 : Value).ownBlock ∧ some k_ ≠ (v254 : Value).ownBlock)) (n := t250.length) (c := co42) ?_).2.2; exact (by (with_reducible repeat (first | apply Kd.R_alloc | apply Kd.R_drewN | apply Kd.R_drew)); exact (Kd.R_mono (Kd.R_far (p := ⟨gb256, 2, none⟩) (Kd.R_far (p := ⟨gb256, 1, none⟩) (Kd.R_far (p := ⟨gb256, 0, none⟩) (Kd.R_types HO252.out BK256.out (by decide)) (fun _ hk => hk.2) (.slice Ao39 t246.length co39)) (fun _ hk => hk.2) (.int .i64 t249)) (fun _ hk => hk.2) (.slice Ao42 t250.length co42)) (fun _ h_ => h_.1)))); (case side4 => exact (Kd.R_reads' HO252.out).2.1); (case side5 => exact Kd.C_below HR2.out pS); (case side6 => exact HC2.out); rintro e w43 ⟨v258, v262, v265, rfl, ho0, ho1, ho2, hb⟩; refine ⟨_, rfl, ?_⟩; have n0_ := Aside0.mk (Kd.R_mono (Kd.R_told (Kd.R_told (Kd.R_told (Kd.R_old (by (with_reducible repeat (first | apply Kd.R_alloc | apply Kd.R_drewN | apply Kd.R_drew)); exact (Kd.R_mono (Kd.R_far (p := ⟨gb256, 2, none⟩) (Kd.R_far (p := ⟨gb256, 1, none⟩) (Kd.R_far (p := ⟨gb256, 0, none⟩) (Kd.R_types HO248.out BK256.out (by decide)) (fun _ hk => hk.2) (.slice Ao39 t246.length co39)) (fun _ hk => hk.2) (.int .i64 t249)) (fun _ hk => hk.2) (.slice Ao42 t250.length co42)) (fun _ h_ => h_.1))) hb) (Kd.R_base ho0)) (Kd.R_base ho1)) (Kd.R_base ho2)) (fun _ h_ => h_.1)); have n1_ := Aside0.mk (Kd.R_mono (Kd.R_told (Kd.R_told (Kd.R_told (Kd.R_old (by (with_reducible repeat (first | apply Kd.R_alloc | apply Kd.R_drewN | apply Kd.R_drew)); exact (Kd.R_mono (Kd.R_far (p := ⟨gb256, 2, none⟩) (Kd.R_far (p := ⟨gb256, 1, none⟩) (Kd.R_far (p := ⟨gb256, 0, none⟩) (Kd.R_types HO252.out BK256.out (by decide)) (fun _ hk => hk.2) (.slice Ao39 t246.length co39)) (fun _ hk => hk.2) (.int .i64 t249)) (fun _ hk => hk.2) (.slice Ao42 t250.length co42)) (fun _ h_ => h_.1))) hb) (Kd.R_base ho0)) (Kd.R_base ho1)) (Kd.R_base ho2)) (fun _ h_ => h_.1)); have n2_ := Aside0.mk (Kd.R_mono (Kd.R_told (Kd.R_told (Kd.R_told (Kd.R_old (by (with_reducible repeat (first | apply Kd.R_alloc | apply Kd.R_drewN | apply Kd.R_drew)); exact (Kd.R_mono (Kd.R_far (p := ⟨gb256, 2, none⟩) (Kd.R_far (p := ⟨gb256, 1, none⟩) (Kd.R_far (p := ⟨gb256, 0, none⟩) (Kd.R_types HO255.out BK256.out (by decide)) (fun _ hk => hk.2) (.slice Ao39 t246.length co39)) (fun _ hk => hk.2) (.int .i64 t249)) (fun _ hk => hk.2) (.slice Ao42 t250.length co42)) (fun _ h_ => h_.1))) hb) (Kd.R_base ho0)) (Kd.R_base ho1)) (Kd.R_base ho2)) (fun _ h_ => h_.1)); have n3_ := Aside0.mk (Kd.R_lower (Kd.R_new' (Kd.R_new' (Kd.R_new' ho0 (Kd.R_lt (by (with_reducible repeat (first | apply Kd.R_alloc | apply Kd.R_drewN | apply Kd.R_drew)); exact (Kd.R_mono (Kd.R_far (p := ⟨gb256, 2, none⟩) (Kd.R_far (p := ⟨gb256, 1, none⟩) (Kd.R_far (p := ⟨gb256, 0, none⟩) (Kd.R_types HO248.out BK256.out (by decide)) (fun _ hk => hk.2) (.slice Ao39 t246.length co39)) (fun _ hk => hk.2) (.int .i64 t249)) (fun _ hk => hk.2) (.slice Ao42 t250.length co42)) (fun _ h_ => h_.1))))) (Kd.R_lt (by (with_reducible repeat (first | apply Kd.R_alloc | apply Kd.R_drewN | apply Kd.R_drew)); exact (Kd.R_mono (Kd.R_far (p := ⟨gb256, 2, none⟩) (Kd.R_far (p := ⟨gb256, 1, none⟩) (Kd.R_far (p := ⟨gb256, 0, none⟩) (Kd.R_types HO252.out BK256.out (by decide)) (fun _ hk => hk.2) (.slice Ao39 t246.length co39)) (fun _ hk => hk.2) (.int .i64 t249)) (fun _ hk => hk.2) (.slice Ao42 t250.length co42)) (fun _ h_ => h_.1))))) (Kd.R_lt (by (with_reducible repeat (first | apply Kd.R_alloc | apply Kd.R_drewN | apply Kd.R_drew)); exact (Kd.R_mono (Kd.R_far (p := ⟨gb256, 2, none⟩) (Kd.R_far (p := ⟨gb256, 1, none⟩) (Kd.R_far (p := ⟨gb256, 0, none⟩) (Kd.R_types HO255.out BK256.out (by decide)) (fun _ hk => hk.2) (.slice Ao39 t246.length co39)) (fun _ hk => hk.2) (.int .i64 t249)) (fun _ hk => hk.2) (.slice Ao42 t250.length co42)) (fun _ h_ => h_.1))))) (below_size pS)); have n4_ := Aside0.mk (Kd.R_lower (Kd.R_new' (Kd.R_new' (Kd.R_new' ho1 (Kd.R_lt (by (with_reducible repeat (first | apply Kd.R_alloc | apply Kd.R_drewN | apply Kd.R_drew)); exact (Kd.R_mono (Kd.R_far (p := ⟨gb256, 2, none⟩) (Kd.R_far (p := ⟨gb256, 1, none⟩) (Kd.R_far (p := ⟨gb256, 0, none⟩) (Kd.R_types HO248.out BK256.out (by decide)) (fun _ hk => hk.2) (.slice Ao39 t246.length co39)) (fun _ hk => hk.2) (.int .i64 t249)) (fun _ hk => hk.2) (.slice Ao42 t250.length co42)) (fun _ h_ => h_.1))))) (Kd.R_lt (by (with_reducible repeat (first | apply Kd.R_alloc | apply Kd.R_drewN | apply Kd.R_drew)); exact (Kd.R_mono (Kd.R_far (p := ⟨gb256, 2, none⟩) (Kd.R_far (p := ⟨gb256, 1, none⟩) (Kd.R_far (p := ⟨gb256, 0, none⟩) (Kd.R_types HO252.out BK256.out (by decide)) (fun _ hk => hk.2) (.slice Ao39 t246.length co39)) (fun _ hk => hk.2) (.int .i64 t249)) (fun _ hk => hk.2) (.slice Ao42 t250.length co42)) (fun _ h_ => h_.1))))) (Kd.R_lt (by (with_reducible repeat (first | apply Kd.R_alloc | apply Kd.R_drewN | apply Kd.R_drew)); exact (Kd.R_mono (Kd.R_far (p := ⟨gb256, 2, none⟩) (Kd.R_far (p := ⟨gb256, 1, none⟩) (Kd.R_far (p := ⟨gb256, 0, none⟩) (Kd.R_types HO255.out BK256.out (by decide)) (fun _ hk => hk.2) (.slice Ao39 t246.length co39)) (fun _ hk => hk.2) (.int .i64 t249)) (fun _ hk => hk.2) (.slice Ao42 t250.length co42)) (fun _ h_ => h_.1))))) (below_size pS)); have n5_ := Aside0.mk (Kd.R_lower (Kd.R_new' (Kd.R_new' (Kd.R_new' ho2 (Kd.R_lt (by (with_reducible repeat (first | apply Kd.R_alloc | apply Kd.R_drewN | apply Kd.R_drew)); exact (Kd.R_mono (Kd.R_far (p := ⟨gb256, 2, none⟩) (Kd.R_far (p := ⟨gb256, 1, none⟩) (Kd.R_far (p := ⟨gb256, 0, none⟩) (Kd.R_types HO248.out BK256.out (by decide)) (fun _ hk => hk.2) (.slice Ao39 t246.length co39)) (fun _ hk => hk.2) (.int .i64 t249)) (fun _ hk => hk.2) (.slice Ao42 t250.length co42)) (fun _ h_ => h_.1))))) (Kd.R_lt (by (with_reducible repeat (first | apply Kd.R_alloc | apply Kd.R_drewN | apply Kd.R_drew)); exact (Kd.R_mono (Kd.R_far (p := ⟨gb256, 2, none⟩) (Kd.R_far (p := ⟨gb256, 1, none⟩) (Kd.R_far (p := ⟨gb256, 0, none⟩) (Kd.R_types HO252.out BK256.out (by decide)) (fun _ hk => hk.2) (.slice Ao39 t246.length co39)) (fun _ hk => hk.2) (.int .i64 t249)) (fun _ hk => hk.2) (.slice Ao42 t250.length co42)) (fun _ h_ => h_.1))))) (Kd.R_lt (by (with_reducible repeat (first | apply Kd.R_alloc | apply Kd.R_drewN | apply Kd.R_drew)); exact (Kd.R_mono (Kd.R_far (p := ⟨gb256, 2, none⟩) (Kd.R_far (p := ⟨gb256, 1, none⟩) (Kd.R_far (p := ⟨gb256, 0, none⟩) (Kd.R_types HO255.out BK256.out (by decide)) (fun _ hk => hk.2) (.slice Ao39 t246.length co39)) (fun _ hk => hk.2) (.int .i64 t249)) (fun _ hk => hk.2) (.slice Ao42 t250.length co42)) (fun _ h_ => h_.1))))) (below_size pS)); have n6_ := Aside0.mk (blk_below (g := gb243) (o := .cells #[.slice A0_0 l0_0.length c0_0, .int .i64 a0_1, .slice A0_2 l0_2.length c0_2] 24 (0, 0)) (by (with_reducible repeat (first | refine blk_drewN ?_ _ | refine blk_drew ?_ | refine blk_alloc ?_ _)); refine blk_far ?_ NB243_256.out _; (with_reducible repeat (first | refine blk_drewN ?_ _ | refine blk_drew ?_ | refine blk_alloc ?_ _)); refine blk_far ?_ NB243_256.out _; (with_reducible repeat (first | refine blk_drewN ?_ _ | refine blk_drew ?_ | refine blk_alloc ?_ _)); refine blk_far ?_ NB243_256.out _; (with_reducible repeat (first | refine blk_drewN ?_ _ | refine blk_drew ?_ | refine blk_alloc ?_ _)); exact BK243.out) hb); have n7_ := Aside0.mk (blk_below (g := gb256) (o := .cells #[.slice Ao39 t246.length co39, .int .i64 t249, .slice Ao42 t250.length co42] 24 (0, 0)) (by (with_reducible repeat (first | refine blk_drewN ?_ _ | refine blk_drew ?_ | refine blk_alloc ?_ _)); refine blk_put (cs := #[.slice Ao39 t246.length co39, .int .i64 t249, .slice none 0 0]) ?_ 2 _ rfl; (with_reducible repeat (first | refine blk_drewN ?_ _ | refine blk_drew ?_ | refine blk_alloc ?_ _)); refine blk_put (cs := #[.slice Ao39 t246.length co39, .int .i64 0, .slice none 0 0]) ?_ 1 _ rfl; (with_reducible repeat (first | refine blk_drewN ?_ _ | refine blk_drew ?_ | refine blk_alloc ?_ _)); refine blk_put (cs := #[.slice none 0 0, .int .i64 0, .slice none 0 0]) ?_ 0 _ rfl; (with_reducible repeat (first | refine blk_drewN ?_ _ | refine blk_drew ?_ | refine blk_alloc ?_ _)); exact BK256.out) hb); have n8_ := Aside0.mk (below_step pS hb); clear HO248; clear HO252; clear HO255; clear BK243; clear BK256; clear HB; have HO248 := n0_; have HO252 := n1_; have HO255 := n2_; have HO259 := n3_; have HO263 := n4_; have HO266 := n5_; have BK243 := n6_; have BK256 := n7_; have HB := n8_; clear n0_ n1_ n2_ n3_ n4_ n5_ n6_ n7_ n8_; (try clear hb); (try clear hb2); (try clear hk); (try clear hi); (try clear ho0); (try clear ho1); (try clear ho2)) | ((with_reducible refine gate_dst (N := 9) rfl ?_); (try (refine gate_guard (by rfl) ?_; dsimp only)); refine box_event ?hg (N := 9) ?hd (cs := #[.slice none 0 0, .int .i64 0, .slice none 0 0]) (t := 24) ?hr ?_; (case hd => rfl); (case hg => rfl); (case hr => first | (go_simp; done) | (go_simp; rfl)); intro gb267 hg w44 hbox hb; have n0_ := Aside0.mk (Kd.R_below (pR HO248) hb); have n1_ := Aside0.mk (Kd.R_below (pR HO252) hb); have n2_ := Aside0.mk (Kd.R_below (pR HO255) hb); have n3_ := Aside0.mk (Kd.R_below (pR HO259) hb); have n4_ := Aside0.mk (Kd.R_below (pR HO263) hb); have n5_ := Aside0.mk (Kd.R_below (pR HO266) hb); have n6_ := Aside0.mk (blk_below (g := gb243) (o := .cells #[.slice A0_0 l0_0.length c0_0, .int .i64 a0_1, .slice A0_2 l0_2.length c0_2] 24 (0, 0)) (pK BK243) hb); have n7_ := Aside0.mk (blk_below (g := gb256) (o := .cells #[.slice Ao39 t246.length co39, .int .i64 t249, .slice Ao42 t250.length co42] 24 (0, 0)) (pK BK256) hb); have n8_ := Aside0.mk (below_step pS hb); have n9_ := Aside0.mk (hbox); have n10_ := Aside0.mk ((by rw [hg]; exact (below_size pS) : w.heap.size ≤ gb267)); have n11_ := Aside0.mk ((by rw [hg]; exact (below_size pS) : w.heap.size ≤ gb267)); have n12_ := Aside0.mk ((by rw [hg]; exact Nat.ne_of_lt (blk_lt (g := gb243) (o := .cells #[.slice A0_0 l0_0.length c0_0, .int .i64 a0_1, .slice A0_2 l0_2.length c0_2] 24 (0, 0)) (pK BK243)) : gb243 ≠ gb267)); have n13_ := Aside0.mk ((by rw [hg]; exact Nat.ne_of_gt (blk_lt (g := gb243) (o := .cells #[.slice A0_0 l0_0.length c0_0, .int .i64 a0_1, .slice A0_2 l0_2.length c0_2] 24 (0, 0)) (pK BK243)) : gb267 ≠ gb243)); have n14_ := Aside0.mk ((by rw [hg]; exact Nat.ne_of_lt (blk_lt (g := gb256) (o := .cells #[.slice Ao39 t246.length co39, .int .i64 t249, .slice Ao42 t250.length co42] 24 (0, 0)) (pK BK256)) : gb256 ≠ gb267)); have n15_ := Aside0.mk ((by rw [hg]; exact Nat.ne_of_gt (blk_lt (g := gb256) (o := .cells #[.slice Ao39 t246.length co39, .int .i64 t249, .slice Ao42 t250.length co42] 24 (0, 0)) (pK BK256)) : gb267 ≠ gb256)); clear HO248; clear HO252; clear HO255; clear HO259; clear HO263; clear HO266; clear BK243; clear BK256; clear HB; have HO248 := n0_; have HO252 := n1_; have HO255 := n2_; have HO259 := n3_; have HO263 := n4_; have HO266 := n5_; have BK243 := n6_; have BK256 := n7_; have HB := n8_; have BK267 := n9_; have GW267 := n10_; have GE267 := n11_; have NB243_267 := n12_; have NB267_243 := n13_; have NB256_267 := n14_; have NB267_256 := n15_; clear n0_ n1_ n2_ n3_ n4_ n5_ n6_ n7_ n8_ n9_ n10_ n11_ n12_ n13_ n14_ n15_; clear hb hbox hg; obtain ⟨Ao45, co45, eo45⟩ := Kd.R_slice HO259.out; subst eo45; have hnb46 := NB267_243.out; have hnc46 := NB243_267.out; have hnb47 := NB267_256.out; have hnc47 := NB256_267.out; have hcz48_0 : w44.cell? ⟨gb267, 0, none⟩ = some (.slice none 0 0) := (blk_cell BK267.out 0).trans rfl; have hcz48_1 : w44.cell? ⟨gb267, 1, none⟩ = some (.int .i64 0) := (blk_cell BK267.out 1).trans rfl; have hcz48_2 : w44.cell? ⟨gb267, 2, none⟩ = some (.slice none 0 0) := (blk_cell BK267.out 2).trans rfl; have hfz48_0 := blk_frozen BK267.out 0; have hfz48_1 := blk_frozen BK267.out 1; have hfz48_2 := blk_frozen BK267.out 2; obtain ⟨Ao49, co49, eo49⟩ := Kd.R_slice HO263.out; subst eo49))
          have n0_ : Aside0 (Kd.R (Kd.int .u8) 5 (((w44.setCell ⟨gb267, 0, none⟩ (.slice Ao45 t257.length co45)).setCell ⟨gb267, 1, none⟩ (.int .i64 t260)).setCell ⟨gb267, 2, none⟩ (.slice Ao49 t261.length co49)) w.heap.size (fun k_ => some k_ ≠ (.slice Ao42 t250.length co42 : Value).ownBlock ∧ some k_ ≠ (v254 : Value).ownBlock ∧ some k_ ≠ (.slice Ao45 t257.length co45 : Value).ownBlock ∧ some k_ ≠ (.slice Ao49 t261.length co49 : Value).ownBlock ∧ some k_ ≠ (v265 : Value).ownBlock) (.slice Ao39 t246.length co39) t246) := ⟨by (with_reducible repeat (first | apply Kd.R_alloc | apply Kd.R_drewN | apply Kd.R_drew)); exact Kd.R_mono (Kd.R_far (p := ⟨gb267, 2, none⟩) (Kd.R_far (p := ⟨gb267, 1, none⟩) (Kd.R_far (p := ⟨gb267, 0, none⟩) (Kd.R_types HO248.out BK267.out (by decide)) (fun _ hk => hk.2) (.slice Ao45 t257.length co45)) (fun _ hk => hk.2) (.int .i64 t260)) (fun _ hk => hk.2) (.slice Ao49 t261.length co49)) (fun _ hk => ⟨hk.1.1.1.1.1, ⟨hk.1.1.1.1.2, ⟨hk.1.1.1.2, ⟨hk.1.1.2, hk.1.2⟩⟩⟩⟩)⟩
          have n1_ : Aside0 (Kd.R (Kd.int .u8) 5 (((w44.setCell ⟨gb267, 0, none⟩ (.slice Ao45 t257.length co45)).setCell ⟨gb267, 1, none⟩ (.int .i64 t260)).setCell ⟨gb267, 2, none⟩ (.slice Ao49 t261.length co49)) w.heap.size (fun k_ => some k_ ≠ (.slice Ao39 t246.length co39 : Value).ownBlock ∧ some k_ ≠ (v254 : Value).ownBlock ∧ some k_ ≠ (.slice Ao45 t257.length co45 : Value).ownBlock ∧ some k_ ≠ (.slice Ao49 t261.length co49 : Value).ownBlock ∧ some k_ ≠ (v265 : Value).ownBlock) (.slice Ao42 t250.length co42) t250) := ⟨by (with_reducible repeat (first | apply Kd.R_alloc | apply Kd.R_drewN | apply Kd.R_drew)); exact Kd.R_mono (Kd.R_far (p := ⟨gb267, 2, none⟩) (Kd.R_far (p := ⟨gb267, 1, none⟩) (Kd.R_far (p := ⟨gb267, 0, none⟩) (Kd.R_types HO252.out BK267.out (by decide)) (fun _ hk => hk.2) (.slice Ao45 t257.length co45)) (fun _ hk => hk.2) (.int .i64 t260)) (fun _ hk => hk.2) (.slice Ao49 t261.length co49)) (fun _ hk => ⟨hk.1.1.1.1.1, ⟨hk.1.1.1.1.2, ⟨hk.1.1.1.2, ⟨hk.1.1.2, hk.1.2⟩⟩⟩⟩)⟩
          have n2_ : Aside0 (Kd.R (Kd.int .u8) 5 (((w44.setCell ⟨gb267, 0, none⟩ (.slice Ao45 t257.length co45)).setCell ⟨gb267, 1, none⟩ (.int .i64 t260)).setCell ⟨gb267, 2, none⟩ (.slice Ao49 t261.length co49)) w.heap.size (fun k_ => some k_ ≠ (.slice Ao39 t246.length co39 : Value).ownBlock ∧ some k_ ≠ (.slice Ao42 t250.length co42 : Value).ownBlock ∧ some k_ ≠ (.slice Ao45 t257.length co45 : Value).ownBlock ∧ some k_ ≠ (.slice Ao49 t261.length co49 : Value).ownBlock ∧ some k_ ≠ (v265 : Value).ownBlock) v254 t253) := ⟨by (with_reducible repeat (first | apply Kd.R_alloc | apply Kd.R_drewN | apply Kd.R_drew)); exact Kd.R_mono (Kd.R_far (p := ⟨gb267, 2, none⟩) (Kd.R_far (p := ⟨gb267, 1, none⟩) (Kd.R_far (p := ⟨gb267, 0, none⟩) (Kd.R_types HO255.out BK267.out (by decide)) (fun _ hk => hk.2) (.slice Ao45 t257.length co45)) (fun _ hk => hk.2) (.int .i64 t260)) (fun _ hk => hk.2) (.slice Ao49 t261.length co49)) (fun _ hk => ⟨hk.1.1.1.1.1, ⟨hk.1.1.1.1.2, ⟨hk.1.1.1.2, ⟨hk.1.1.2, hk.1.2⟩⟩⟩⟩)⟩
          have n3_ : Aside0 (Kd.R (Kd.int .u8) 5 (((w44.setCell ⟨gb267, 0, none⟩ (.slice Ao45 t257.length co45)).setCell ⟨gb267, 1, none⟩ (.int .i64 t260)).setCell ⟨gb267, 2, none⟩ (.slice Ao49 t261.length co49)) w.heap.size (fun k_ => some k_ ≠ (.slice Ao39 t246.length co39 : Value).ownBlock ∧ some k_ ≠ (.slice Ao42 t250.length co42 : Value).ownBlock ∧ some k_ ≠ (v254 : Value).ownBlock ∧ some k_ ≠ (.slice Ao49 t261.length co49 : Value).ownBlock ∧ some k_ ≠ (v265 : Value).ownBlock) (.slice Ao45 t257.length co45) t257) := ⟨by (with_reducible repeat (first | apply Kd.R_alloc | apply Kd.R_drewN | apply Kd.R_drew)); exact Kd.R_mono (Kd.R_far (p := ⟨gb267, 2, none⟩) (Kd.R_far (p := ⟨gb267, 1, none⟩) (Kd.R_far (p := ⟨gb267, 0, none⟩) (Kd.R_types HO259.out BK267.out (by decide)) (fun _ hk => hk.2) (.slice Ao45 t257.length co45)) (fun _ hk => hk.2) (.int .i64 t260)) (fun _ hk => hk.2) (.slice Ao49 t261.length co49)) (fun _ hk => ⟨hk.1.1.1.2, ⟨hk.1.1.2, ⟨hk.1.2, ⟨hk.1.1.1.1.1, hk.1.1.1.1.2⟩⟩⟩⟩)⟩
          have n4_ : Aside0 (Kd.R (Kd.int .u8) 5 (((w44.setCell ⟨gb267, 0, none⟩ (.slice Ao45 t257.length co45)).setCell ⟨gb267, 1, none⟩ (.int .i64 t260)).setCell ⟨gb267, 2, none⟩ (.slice Ao49 t261.length co49)) w.heap.size (fun k_ => some k_ ≠ (.slice Ao39 t246.length co39 : Value).ownBlock ∧ some k_ ≠ (.slice Ao42 t250.length co42 : Value).ownBlock ∧ some k_ ≠ (v254 : Value).ownBlock ∧ some k_ ≠ (.slice Ao45 t257.length co45 : Value).ownBlock ∧ some k_ ≠ (v265 : Value).ownBlock) (.slice Ao49 t261.length co49) t261) := ⟨by (with_reducible repeat (first | apply Kd.R_alloc | apply Kd.R_drewN | apply Kd.R_drew)); exact Kd.R_mono (Kd.R_far (p := ⟨gb267, 2, none⟩) (Kd.R_far (p := ⟨gb267, 1, none⟩) (Kd.R_far (p := ⟨gb267, 0, none⟩) (Kd.R_types HO263.out BK267.out (by decide)) (fun _ hk => hk.2) (.slice Ao45 t257.length co45)) (fun _ hk => hk.2) (.int .i64 t260)) (fun _ hk => hk.2) (.slice Ao49 t261.length co49)) (fun _ hk => ⟨hk.1.1.1.2, ⟨hk.1.1.2, ⟨hk.1.2, ⟨hk.1.1.1.1.1, hk.1.1.1.1.2⟩⟩⟩⟩)⟩
          have n5_ : Aside0 (Kd.R (Kd.int .u8) 5 (((w44.setCell ⟨gb267, 0, none⟩ (.slice Ao45 t257.length co45)).setCell ⟨gb267, 1, none⟩ (.int .i64 t260)).setCell ⟨gb267, 2, none⟩ (.slice Ao49 t261.length co49)) w.heap.size (fun k_ => some k_ ≠ (.slice Ao39 t246.length co39 : Value).ownBlock ∧ some k_ ≠ (.slice Ao42 t250.length co42 : Value).ownBlock ∧ some k_ ≠ (v254 : Value).ownBlock ∧ some k_ ≠ (.slice Ao45 t257.length co45 : Value).ownBlock ∧ some k_ ≠ (.slice Ao49 t261.length co49 : Value).ownBlock) v265 t264) := ⟨by (with_reducible repeat (first | apply Kd.R_alloc | apply Kd.R_drewN | apply Kd.R_drew)); exact Kd.R_mono (Kd.R_far (p := ⟨gb267, 2, none⟩) (Kd.R_far (p := ⟨gb267, 1, none⟩) (Kd.R_far (p := ⟨gb267, 0, none⟩) (Kd.R_types HO266.out BK267.out (by decide)) (fun _ hk => hk.2) (.slice Ao45 t257.length co45)) (fun _ hk => hk.2) (.int .i64 t260)) (fun _ hk => hk.2) (.slice Ao49 t261.length co49)) (fun _ hk => ⟨hk.1.1.1.2, ⟨hk.1.1.2, ⟨hk.1.2, ⟨hk.1.1.1.1.1, hk.1.1.1.1.2⟩⟩⟩⟩)⟩
          have n6_ : Aside0 ((((w44.setCell ⟨gb267, 0, none⟩ (.slice Ao45 t257.length co45)).setCell ⟨gb267, 1, none⟩ (.int .i64 t260)).setCell ⟨gb267, 2, none⟩ (.slice Ao49 t261.length co49)).heap[gb243]? = some (.cells #[.slice A0_0 l0_0.length c0_0, .int .i64 a0_1, .slice A0_2 l0_2.length c0_2] 24 (0, 0))) := ⟨by (with_reducible repeat (first | refine blk_drewN ?_ _ | refine blk_drew ?_ | refine blk_alloc ?_ _)); refine blk_far ?_ NB243_267.out _; (with_reducible repeat (first | refine blk_drewN ?_ _ | refine blk_drew ?_ | refine blk_alloc ?_ _)); refine blk_far ?_ NB243_267.out _; (with_reducible repeat (first | refine blk_drewN ?_ _ | refine blk_drew ?_ | refine blk_alloc ?_ _)); refine blk_far ?_ NB243_267.out _; (with_reducible repeat (first | refine blk_drewN ?_ _ | refine blk_drew ?_ | refine blk_alloc ?_ _)); exact BK243.out⟩
          have n7_ : Aside0 ((((w44.setCell ⟨gb267, 0, none⟩ (.slice Ao45 t257.length co45)).setCell ⟨gb267, 1, none⟩ (.int .i64 t260)).setCell ⟨gb267, 2, none⟩ (.slice Ao49 t261.length co49)).heap[gb256]? = some (.cells #[.slice Ao39 t246.length co39, .int .i64 t249, .slice Ao42 t250.length co42] 24 (0, 0))) := ⟨by (with_reducible repeat (first | refine blk_drewN ?_ _ | refine blk_drew ?_ | refine blk_alloc ?_ _)); refine blk_far ?_ NB256_267.out _; (with_reducible repeat (first | refine blk_drewN ?_ _ | refine blk_drew ?_ | refine blk_alloc ?_ _)); refine blk_far ?_ NB256_267.out _; (with_reducible repeat (first | refine blk_drewN ?_ _ | refine blk_drew ?_ | refine blk_alloc ?_ _)); refine blk_far ?_ NB256_267.out _; (with_reducible repeat (first | refine blk_drewN ?_ _ | refine blk_drew ?_ | refine blk_alloc ?_ _)); exact BK256.out⟩
          have n8_ : Aside0 ((((w44.setCell ⟨gb267, 0, none⟩ (.slice Ao45 t257.length co45)).setCell ⟨gb267, 1, none⟩ (.int .i64 t260)).setCell ⟨gb267, 2, none⟩ (.slice Ao49 t261.length co49)).heap[gb267]? = some (.cells #[.slice Ao45 t257.length co45, .int .i64 t260, .slice Ao49 t261.length co49] 24 (0, 0))) := ⟨by (with_reducible repeat (first | refine blk_drewN ?_ _ | refine blk_drew ?_ | refine blk_alloc ?_ _)); refine blk_put (cs := #[.slice Ao45 t257.length co45, .int .i64 t260, .slice none 0 0]) ?_ 2 _ rfl; (with_reducible repeat (first | refine blk_drewN ?_ _ | refine blk_drew ?_ | refine blk_alloc ?_ _)); refine blk_put (cs := #[.slice Ao45 t257.length co45, .int .i64 0, .slice none 0 0]) ?_ 1 _ rfl; (with_reducible repeat (first | refine blk_drewN ?_ _ | refine blk_drew ?_ | refine blk_alloc ?_ _)); refine blk_put (cs := #[.slice none 0 0, .int .i64 0, .slice none 0 0]) ?_ 0 _ rfl; (with_reducible repeat (first | refine blk_drewN ?_ _ | refine blk_drew ?_ | refine blk_alloc ?_ _)); exact BK267.out⟩
          have n9_ : Aside0 (Below w.heap.size w (((w44.setCell ⟨gb267, 0, none⟩ (.slice Ao45 t257.length co45)).setCell ⟨gb267, 1, none⟩ (.int .i64 t260)).setCell ⟨gb267, 2, none⟩ (.slice Ao49 t261.length co49))) := ⟨by repeat (first | (with_reducible first | exact HB.out | apply below_alloc | apply pw_below_drewN | apply below_drew1 | refine below_set ?_ GE243.out | refine below_set ?_ GE256.out | refine below_set ?_ GE267.out) | exact HB.out)⟩
          (try clear HO248)
          (try clear HO252)
          (try clear HO255)
          (try clear HO259)
          (try clear HO263)
          (try clear HO266)
          (try clear BK243)
          (try clear BK256)
          (try clear BK267)
          (try clear HB)
          generalize (((w44.setCell ⟨gb267, 0, none⟩ (.slice Ao45 t257.length co45)).setCell ⟨gb267, 1, none⟩ (.int .i64 t260)).setCell ⟨gb267, 2, none⟩ (.slice Ao49 t261.length co49)) = w50 at n0_ n1_ n2_ n3_ n4_ n5_ n6_ n7_ n8_ n9_ ⊢
          have HO248 := n0_; have HO252 := n1_; have HO255 := n2_; have HO259 := n3_; have HO263 := n4_; have HO266 := n5_; have BK243 := n6_; have BK256 := n7_; have BK267 := n8_; have HB := n9_
          clear n0_ n1_ n2_ n3_ n4_ n5_ n6_ n7_ n8_ n9_
          have n0_ := Aside0.mk (Kd.R_drew HO248.out)
          have n1_ := Aside0.mk (Kd.R_drew HO252.out)
          have n2_ := Aside0.mk (Kd.R_drew HO255.out)
          have n3_ := Aside0.mk (Kd.R_drew HO259.out)
          have n4_ := Aside0.mk (Kd.R_drew HO263.out)
          have n5_ := Aside0.mk (Kd.R_drew HO266.out)
          have n6_ := Aside0.mk (blk_drew BK243.out)
          have n7_ := Aside0.mk (blk_drew BK256.out)
          have n8_ := Aside0.mk (blk_drew BK267.out)
          have n9_ := Aside0.mk (below_drew1 HB.out)
          clear HO248 HO252 HO255 HO259 HO263 HO266 BK243 BK256 BK267 HB
          have HO248 := n0_; have HO252 := n1_; have HO255 := n2_; have HO259 := n3_; have HO263 := n4_; have HO266 := n5_; have BK243 := n6_; have BK256 := n7_; have BK267 := n8_; have HB := n9_
          clear n0_ n1_ n2_ n3_ n4_ n5_ n6_ n7_ n8_ n9_
          refine start_ (n := 13) (S := fun w' => w'.cell? ⟨gb243, 0, none⟩ = some (.slice A0_0 l0_0.length c0_0) ∧ w'.cell? ⟨gb243, 1, none⟩ = some (.int .i64 a0_1) ∧ w'.cell? ⟨gb243, 2, none⟩ = some (.slice A0_2 l0_2.length c0_2)) (ds := []) #[false, false, false, false, false, false, false, false, false, false, false, false, false] (by kernel_rfl) rfl rfl ⟨(blk_cell BK243.out 0).trans rfl, (blk_cell BK243.out 1).trans rfl, (blk_cell BK243.out 2).trans rfl⟩ (fun hHeld => ?_); refine with_tabW capnplaw24_PackstreamSplit.tab5 capnplaw24_PackstreamSplit.bits5 (fun HT_ HW_ => ?_)
          generalize w50.drew = w51 at HO248 HO252 HO255 HO259 HO263 HO266 BK243 BK256 BK267 HB hHeld ⊢
          refine pure_ (i := 2) (N := some 53) (v := ?_) (a' := ?_) #[false, false, true, false, false, false, false, false, false, false, false, false, false] rfl rfl (any_of HT_.out (by kernel_rfl)) (fun _ _ _ h => h) (Or.inl ⟨by rfl, ?_⟩) ?_ ?_
          rotate_left
          ·intro w'
           go_simp
           with_reducible rfl
          rotate_left
          ·simp only [Act.put, List.setIfInBounds_toArray, List.set_cons_zero, List.set_cons_succ, i64_w, i32_w]
           rfl
          refine pure_ (i := 4) (N := some 55) (v := ?_) (a' := ?_) #[false, false, true, false, true, false, false, false, false, false, false, false, false] rfl rfl (any_of HT_.out (by kernel_rfl)) (fun _ _ _ h => h) (Or.inl ⟨by rfl, ?_⟩) ?_ ?_
          rotate_left
          ·intro w'
           go_simp
           with_reducible rfl
          rotate_left
          ·simp only [Act.put, List.setIfInBounds_toArray, List.set_cons_zero, List.set_cons_succ, i64_w, i32_w]
           rfl
          refine take_ (i := 0) (N := some 51) (v := ?_) (a' := ?_) #[true, false, true, false, true, false, false, false, false, false, false, false, false] rfl rfl (take_ofW HT_.out HW_.out (by kernel_rfl)) (fun _ _ _ h => h) (Or.inl ⟨by rfl, ?_⟩) hHeld ?_ ?_
          rotate_left
          ·rintro w' ⟨s0, s1, s2⟩
           go_simp
           with_reducible rfl
          rotate_left
          ·simp only [Act.put, List.setIfInBounds_toArray, List.set_cons_zero, List.set_cons_succ, i64_w, i32_w]
           rfl
          refine join_ (σ := Value × Value × Value × Value × Value × Value × Nat) 2 #[true, true, true, true, true, true, true, true, true, true, true, false, false] (fun s_ => [(52, s_.1), (54, s_.2.1), (56, s_.2.2.1), (57, .tuple #[.agg #[s_.2.2.2.1, .int .i64 t280, s_.2.2.2.2.1], s_.2.2.2.2.2.1]), (11, .pointer (some ⟨s_.2.2.2.2.2.2, 0, none⟩)), (50, .tuple #[.agg #[s_.2.2.2.1, .int .i64 t280, s_.2.2.2.2.1], s_.2.2.2.2.2.1]), (58, .agg #[s_.2.2.2.1, .int .i64 t280, s_.2.2.2.2.1]), (59, s_.2.2.2.2.2.1)]) (fun s_ w' => (w'.cell? ⟨gb243, 0, none⟩ = some (.slice A0_0 l0_0.length c0_0) ∧ w'.cell? ⟨gb243, 1, none⟩ = some (.int .i64 a0_1) ∧ w'.cell? ⟨gb243, 2, none⟩ = some (.slice A0_2 l0_2.length c0_2)) ∧ (Kd.R (Kd.int .u8) 5 w' w.heap.size (fun k_ => some k_ ≠ (.slice Ao42 t250.length co42 : Value).ownBlock ∧ some k_ ≠ (v254 : Value).ownBlock ∧ some k_ ≠ (.slice Ao45 t257.length co45 : Value).ownBlock ∧ some k_ ≠ (.slice Ao49 t261.length co49 : Value).ownBlock ∧ some k_ ≠ (v265 : Value).ownBlock ∧ some k_ ≠ (s_.2.2.1 : Value).ownBlock ∧ some k_ ≠ (s_.2.2.2.1 : Value).ownBlock ∧ some k_ ≠ (s_.2.2.2.2.1 : Value).ownBlock ∧ some k_ ≠ (s_.2.2.2.2.2.1 : Value).ownBlock) (.slice Ao39 t246.length co39) t246) ∧ (Kd.R (Kd.int .u8) 5 w' w.heap.size (fun k_ => some k_ ≠ (.slice Ao39 t246.length co39 : Value).ownBlock ∧ some k_ ≠ (v254 : Value).ownBlock ∧ some k_ ≠ (.slice Ao45 t257.length co45 : Value).ownBlock ∧ some k_ ≠ (.slice Ao49 t261.length co49 : Value).ownBlock ∧ some k_ ≠ (v265 : Value).ownBlock ∧ some k_ ≠ (s_.2.2.1 : Value).ownBlock ∧ some k_ ≠ (s_.2.2.2.1 : Value).ownBlock ∧ some k_ ≠ (s_.2.2.2.2.1 : Value).ownBlock ∧ some k_ ≠ (s_.2.2.2.2.2.1 : Value).ownBlock) (.slice Ao42 t250.length co42) t250) ∧ (Kd.R (Kd.int .u8) 5 w' w.heap.size (fun k_ => some k_ ≠ (.slice Ao39 t246.length co39 : Value).ownBlock ∧ some k_ ≠ (.slice Ao42 t250.length co42 : Value).ownBlock ∧ some k_ ≠ (.slice Ao45 t257.length co45 : Value).ownBlock ∧ some k_ ≠ (.slice Ao49 t261.length co49 : Value).ownBlock ∧ some k_ ≠ (v265 : Value).ownBlock ∧ some k_ ≠ (s_.2.2.1 : Value).ownBlock ∧ some k_ ≠ (s_.2.2.2.1 : Value).ownBlock ∧ some k_ ≠ (s_.2.2.2.2.1 : Value).ownBlock ∧ some k_ ≠ (s_.2.2.2.2.2.1 : Value).ownBlock) v254 t253) ∧ (Kd.R (Kd.int .u8) 5 w' w.heap.size (fun k_ => some k_ ≠ (.slice Ao39 t246.length co39 : Value).ownBlock ∧ some k_ ≠ (.slice Ao42 t250.length co42 : Value).ownBlock ∧ some k_ ≠ (v254 : Value).ownBlock ∧ some k_ ≠ (.slice Ao49 t261.length co49 : Value).ownBlock ∧ some k_ ≠ (v265 : Value).ownBlock ∧ some k_ ≠ (s_.2.2.1 : Value).ownBlock ∧ some k_ ≠ (s_.2.2.2.1 : Value).ownBlock ∧ some k_ ≠ (s_.2.2.2.2.1 : Value).ownBlock ∧ some k_ ≠ (s_.2.2.2.2.2.1 : Value).ownBlock) (.slice Ao45 t257.length co45) t257) ∧ (Kd.R (Kd.int .u8) 5 w' w.heap.size (fun k_ => some k_ ≠ (.slice Ao39 t246.length co39 : Value).ownBlock ∧ some k_ ≠ (.slice Ao42 t250.length co42 : Value).ownBlock ∧ some k_ ≠ (v254 : Value).ownBlock ∧ some k_ ≠ (.slice Ao45 t257.length co45 : Value).ownBlock ∧ some k_ ≠ (v265 : Value).ownBlock ∧ some k_ ≠ (s_.2.2.1 : Value).ownBlock ∧ some k_ ≠ (s_.2.2.2.1 : Value).ownBlock ∧ some k_ ≠ (s_.2.2.2.2.1 : Value).ownBlock ∧ some k_ ≠ (s_.2.2.2.2.2.1 : Value).ownBlock) (.slice Ao49 t261.length co49) t261) ∧ (Kd.R (Kd.int .u8) 5 w' w.heap.size (fun k_ => some k_ ≠ (.slice Ao39 t246.length co39 : Value).ownBlock ∧ some k_ ≠ (.slice Ao42 t250.length co42 : Value).ownBlock ∧ some k_ ≠ (v254 : Value).ownBlock ∧ some k_ ≠ (.slice Ao45 t257.length co45 : Value).ownBlock ∧ some k_ ≠ (.slice Ao49 t261.length co49 : Value).ownBlock ∧ some k_ ≠ (s_.2.2.1 : Value).ownBlock ∧ some k_ ≠ (s_.2.2.2.1 : Value).ownBlock ∧ some k_ ≠ (s_.2.2.2.2.1 : Value).ownBlock ∧ some k_ ≠ (s_.2.2.2.2.2.1 : Value).ownBlock) v265 t264) ∧ (Kd.R (Kd.int .u8) 5 w' w.heap.size (fun k_ => some k_ ≠ (.slice Ao39 t246.length co39 : Value).ownBlock ∧ some k_ ≠ (.slice Ao42 t250.length co42 : Value).ownBlock ∧ some k_ ≠ (v254 : Value).ownBlock ∧ some k_ ≠ (.slice Ao45 t257.length co45 : Value).ownBlock ∧ some k_ ≠ (.slice Ao49 t261.length co49 : Value).ownBlock ∧ some k_ ≠ (v265 : Value).ownBlock ∧ some k_ ≠ (s_.2.2.2.1 : Value).ownBlock ∧ some k_ ≠ (s_.2.2.2.2.1 : Value).ownBlock ∧ some k_ ≠ (s_.2.2.2.2.2.1 : Value).ownBlock) s_.2.2.1 y274) ∧ (Kd.R (Kd.int .u8) 5 w' w.heap.size (fun k_ => some k_ ≠ (.slice Ao39 t246.length co39 : Value).ownBlock ∧ some k_ ≠ (.slice Ao42 t250.length co42 : Value).ownBlock ∧ some k_ ≠ (v254 : Value).ownBlock ∧ some k_ ≠ (.slice Ao45 t257.length co45 : Value).ownBlock ∧ some k_ ≠ (.slice Ao49 t261.length co49 : Value).ownBlock ∧ some k_ ≠ (v265 : Value).ownBlock ∧ some k_ ≠ (s_.2.2.1 : Value).ownBlock ∧ some k_ ≠ (s_.2.2.2.2.1 : Value).ownBlock ∧ some k_ ≠ (s_.2.2.2.2.2.1 : Value).ownBlock) s_.2.2.2.1 t277) ∧ (Kd.R (Kd.int .u8) 5 w' w.heap.size (fun k_ => some k_ ≠ (.slice Ao39 t246.length co39 : Value).ownBlock ∧ some k_ ≠ (.slice Ao42 t250.length co42 : Value).ownBlock ∧ some k_ ≠ (v254 : Value).ownBlock ∧ some k_ ≠ (.slice Ao45 t257.length co45 : Value).ownBlock ∧ some k_ ≠ (.slice Ao49 t261.length co49 : Value).ownBlock ∧ some k_ ≠ (v265 : Value).ownBlock ∧ some k_ ≠ (s_.2.2.1 : Value).ownBlock ∧ some k_ ≠ (s_.2.2.2.1 : Value).ownBlock ∧ some k_ ≠ (s_.2.2.2.2.2.1 : Value).ownBlock) s_.2.2.2.2.1 t281) ∧ (Kd.R (Kd.int .u8) 5 w' w.heap.size (fun k_ => some k_ ≠ (.slice Ao39 t246.length co39 : Value).ownBlock ∧ some k_ ≠ (.slice Ao42 t250.length co42 : Value).ownBlock ∧ some k_ ≠ (v254 : Value).ownBlock ∧ some k_ ≠ (.slice Ao45 t257.length co45 : Value).ownBlock ∧ some k_ ≠ (.slice Ao49 t261.length co49 : Value).ownBlock ∧ some k_ ≠ (v265 : Value).ownBlock ∧ some k_ ≠ (s_.2.2.1 : Value).ownBlock ∧ some k_ ≠ (s_.2.2.2.1 : Value).ownBlock ∧ some k_ ≠ (s_.2.2.2.2.1 : Value).ownBlock) s_.2.2.2.2.2.1 t284) ∧ (w'.heap[gb243]? = some (.cells #[.slice A0_0 l0_0.length c0_0, .int .i64 a0_1, .slice A0_2 l0_2.length c0_2] 24 (0, 0))) ∧ (w'.heap[gb256]? = some (.cells #[.slice Ao39 t246.length co39, .int .i64 t249, .slice Ao42 t250.length co42] 24 (0, 0))) ∧ (w'.heap[gb267]? = some (.cells #[.slice Ao45 t257.length co45, .int .i64 t260, .slice Ao49 t261.length co49] 24 (0, 0))) ∧ (w'.heap[s_.2.2.2.2.2.2]? = some (.cells #[.slice none 0 0, .int .i64 0, .slice none 0 0] 24 (0, 0))) ∧ (w.heap.size ≤ s_.2.2.2.2.2.2) ∧ (w.heap.size ≤ s_.2.2.2.2.2.2) ∧ (gb243 ≠ s_.2.2.2.2.2.2) ∧ (s_.2.2.2.2.2.2 ≠ gb243) ∧ (gb256 ≠ s_.2.2.2.2.2.2) ∧ (s_.2.2.2.2.2.2 ≠ gb256) ∧ (gb267 ≠ s_.2.2.2.2.2.2) ∧ (s_.2.2.2.2.2.2 ≠ gb267) ∧ (Below w.heap.size w w')) ?_ ?_
          rotate_left
          ·intro hJ1_3_5_6_10
           refine join_ (σ := Value × Value × Value × Value × Value × Value) 3 #[true, true, true, true, true, true, true, true, true, true, false, false, false] (fun s_ => [(52, s_.1), (54, s_.2.1), (56, s_.2.2.1), (57, .tuple #[.agg #[s_.2.2.2.1, .int .i64 t280, s_.2.2.2.2.1], s_.2.2.2.2.2]), (50, .tuple #[.agg #[s_.2.2.2.1, .int .i64 t280, s_.2.2.2.2.1], s_.2.2.2.2.2]), (58, .agg #[s_.2.2.2.1, .int .i64 t280, s_.2.2.2.2.1]), (59, s_.2.2.2.2.2)]) (fun s_ w' => (w'.cell? ⟨gb243, 0, none⟩ = some (.slice A0_0 l0_0.length c0_0) ∧ w'.cell? ⟨gb243, 1, none⟩ = some (.int .i64 a0_1) ∧ w'.cell? ⟨gb243, 2, none⟩ = some (.slice A0_2 l0_2.length c0_2)) ∧ (Kd.R (Kd.int .u8) 5 w' w.heap.size (fun k_ => some k_ ≠ (.slice Ao42 t250.length co42 : Value).ownBlock ∧ some k_ ≠ (v254 : Value).ownBlock ∧ some k_ ≠ (.slice Ao45 t257.length co45 : Value).ownBlock ∧ some k_ ≠ (.slice Ao49 t261.length co49 : Value).ownBlock ∧ some k_ ≠ (v265 : Value).ownBlock ∧ some k_ ≠ (s_.2.2.1 : Value).ownBlock ∧ some k_ ≠ (s_.2.2.2.1 : Value).ownBlock ∧ some k_ ≠ (s_.2.2.2.2.1 : Value).ownBlock ∧ some k_ ≠ (s_.2.2.2.2.2 : Value).ownBlock) (.slice Ao39 t246.length co39) t246) ∧ (Kd.R (Kd.int .u8) 5 w' w.heap.size (fun k_ => some k_ ≠ (.slice Ao39 t246.length co39 : Value).ownBlock ∧ some k_ ≠ (v254 : Value).ownBlock ∧ some k_ ≠ (.slice Ao45 t257.length co45 : Value).ownBlock ∧ some k_ ≠ (.slice Ao49 t261.length co49 : Value).ownBlock ∧ some k_ ≠ (v265 : Value).ownBlock ∧ some k_ ≠ (s_.2.2.1 : Value).ownBlock ∧ some k_ ≠ (s_.2.2.2.1 : Value).ownBlock ∧ some k_ ≠ (s_.2.2.2.2.1 : Value).ownBlock ∧ some k_ ≠ (s_.2.2.2.2.2 : Value).ownBlock) (.slice Ao42 t250.length co42) t250) ∧ (Kd.R (Kd.int .u8) 5 w' w.heap.size (fun k_ => some k_ ≠ (.slice Ao39 t246.length co39 : Value).ownBlock ∧ some k_ ≠ (.slice Ao42 t250.length co42 : Value).ownBlock ∧ some k_ ≠ (.slice Ao45 t257.length co45 : Value).ownBlock ∧ some k_ ≠ (.slice Ao49 t261.length co49 : Value).ownBlock ∧ some k_ ≠ (v265 : Value).ownBlock ∧ some k_ ≠ (s_.2.2.1 : Value).ownBlock ∧ some k_ ≠ (s_.2.2.2.1 : Value).ownBlock ∧ some k_ ≠ (s_.2.2.2.2.1 : Value).ownBlock ∧ some k_ ≠ (s_.2.2.2.2.2 : Value).ownBlock) v254 t253) ∧ (Kd.R (Kd.int .u8) 5 w' w.heap.size (fun k_ => some k_ ≠ (.slice Ao39 t246.length co39 : Value).ownBlock ∧ some k_ ≠ (.slice Ao42 t250.length co42 : Value).ownBlock ∧ some k_ ≠ (v254 : Value).ownBlock ∧ some k_ ≠ (.slice Ao49 t261.length co49 : Value).ownBlock ∧ some k_ ≠ (v265 : Value).ownBlock ∧ some k_ ≠ (s_.2.2.1 : Value).ownBlock ∧ some k_ ≠ (s_.2.2.2.1 : Value).ownBlock ∧ some k_ ≠ (s_.2.2.2.2.1 : Value).ownBlock ∧ some k_ ≠ (s_.2.2.2.2.2 : Value).ownBlock) (.slice Ao45 t257.length co45) t257) ∧ (Kd.R (Kd.int .u8) 5 w' w.heap.size (fun k_ => some k_ ≠ (.slice Ao39 t246.length co39 : Value).ownBlock ∧ some k_ ≠ (.slice Ao42 t250.length co42 : Value).ownBlock ∧ some k_ ≠ (v254 : Value).ownBlock ∧ some k_ ≠ (.slice Ao45 t257.length co45 : Value).ownBlock ∧ some k_ ≠ (v265 : Value).ownBlock ∧ some k_ ≠ (s_.2.2.1 : Value).ownBlock ∧ some k_ ≠ (s_.2.2.2.1 : Value).ownBlock ∧ some k_ ≠ (s_.2.2.2.2.1 : Value).ownBlock ∧ some k_ ≠ (s_.2.2.2.2.2 : Value).ownBlock) (.slice Ao49 t261.length co49) t261) ∧ (Kd.R (Kd.int .u8) 5 w' w.heap.size (fun k_ => some k_ ≠ (.slice Ao39 t246.length co39 : Value).ownBlock ∧ some k_ ≠ (.slice Ao42 t250.length co42 : Value).ownBlock ∧ some k_ ≠ (v254 : Value).ownBlock ∧ some k_ ≠ (.slice Ao45 t257.length co45 : Value).ownBlock ∧ some k_ ≠ (.slice Ao49 t261.length co49 : Value).ownBlock ∧ some k_ ≠ (s_.2.2.1 : Value).ownBlock ∧ some k_ ≠ (s_.2.2.2.1 : Value).ownBlock ∧ some k_ ≠ (s_.2.2.2.2.1 : Value).ownBlock ∧ some k_ ≠ (s_.2.2.2.2.2 : Value).ownBlock) v265 t264) ∧ (Kd.R (Kd.int .u8) 5 w' w.heap.size (fun k_ => some k_ ≠ (.slice Ao39 t246.length co39 : Value).ownBlock ∧ some k_ ≠ (.slice Ao42 t250.length co42 : Value).ownBlock ∧ some k_ ≠ (v254 : Value).ownBlock ∧ some k_ ≠ (.slice Ao45 t257.length co45 : Value).ownBlock ∧ some k_ ≠ (.slice Ao49 t261.length co49 : Value).ownBlock ∧ some k_ ≠ (v265 : Value).ownBlock ∧ some k_ ≠ (s_.2.2.2.1 : Value).ownBlock ∧ some k_ ≠ (s_.2.2.2.2.1 : Value).ownBlock ∧ some k_ ≠ (s_.2.2.2.2.2 : Value).ownBlock) s_.2.2.1 y274) ∧ (Kd.R (Kd.int .u8) 5 w' w.heap.size (fun k_ => some k_ ≠ (.slice Ao39 t246.length co39 : Value).ownBlock ∧ some k_ ≠ (.slice Ao42 t250.length co42 : Value).ownBlock ∧ some k_ ≠ (v254 : Value).ownBlock ∧ some k_ ≠ (.slice Ao45 t257.length co45 : Value).ownBlock ∧ some k_ ≠ (.slice Ao49 t261.length co49 : Value).ownBlock ∧ some k_ ≠ (v265 : Value).ownBlock ∧ some k_ ≠ (s_.2.2.1 : Value).ownBlock ∧ some k_ ≠ (s_.2.2.2.2.1 : Value).ownBlock ∧ some k_ ≠ (s_.2.2.2.2.2 : Value).ownBlock) s_.2.2.2.1 t277) ∧ (Kd.R (Kd.int .u8) 5 w' w.heap.size (fun k_ => some k_ ≠ (.slice Ao39 t246.length co39 : Value).ownBlock ∧ some k_ ≠ (.slice Ao42 t250.length co42 : Value).ownBlock ∧ some k_ ≠ (v254 : Value).ownBlock ∧ some k_ ≠ (.slice Ao45 t257.length co45 : Value).ownBlock ∧ some k_ ≠ (.slice Ao49 t261.length co49 : Value).ownBlock ∧ some k_ ≠ (v265 : Value).ownBlock ∧ some k_ ≠ (s_.2.2.1 : Value).ownBlock ∧ some k_ ≠ (s_.2.2.2.1 : Value).ownBlock ∧ some k_ ≠ (s_.2.2.2.2.2 : Value).ownBlock) s_.2.2.2.2.1 t281) ∧ (Kd.R (Kd.int .u8) 5 w' w.heap.size (fun k_ => some k_ ≠ (.slice Ao39 t246.length co39 : Value).ownBlock ∧ some k_ ≠ (.slice Ao42 t250.length co42 : Value).ownBlock ∧ some k_ ≠ (v254 : Value).ownBlock ∧ some k_ ≠ (.slice Ao45 t257.length co45 : Value).ownBlock ∧ some k_ ≠ (.slice Ao49 t261.length co49 : Value).ownBlock ∧ some k_ ≠ (v265 : Value).ownBlock ∧ some k_ ≠ (s_.2.2.1 : Value).ownBlock ∧ some k_ ≠ (s_.2.2.2.1 : Value).ownBlock ∧ some k_ ≠ (s_.2.2.2.2.1 : Value).ownBlock) s_.2.2.2.2.2 t284) ∧ (w'.heap[gb243]? = some (.cells #[.slice A0_0 l0_0.length c0_0, .int .i64 a0_1, .slice A0_2 l0_2.length c0_2] 24 (0, 0))) ∧ (w'.heap[gb256]? = some (.cells #[.slice Ao39 t246.length co39, .int .i64 t249, .slice Ao42 t250.length co42] 24 (0, 0))) ∧ (w'.heap[gb267]? = some (.cells #[.slice Ao45 t257.length co45, .int .i64 t260, .slice Ao49 t261.length co49] 24 (0, 0))) ∧ (Below w.heap.size w w')) ?_ ?_
           rotate_left
           ·intro hJ1_3_5_6
            refine join_ (σ := Value × Value × Value × Nat) 6 #[true, true, true, true, true, true, false, false, false, false, true, false, false] (fun s_ => [(52, s_.1), (54, s_.2.1), (56, s_.2.2.1), (11, .pointer (some ⟨s_.2.2.2, 0, none⟩))]) (fun s_ w' => (w'.cell? ⟨gb243, 0, none⟩ = some (.slice A0_0 l0_0.length c0_0) ∧ w'.cell? ⟨gb243, 1, none⟩ = some (.int .i64 a0_1) ∧ w'.cell? ⟨gb243, 2, none⟩ = some (.slice A0_2 l0_2.length c0_2)) ∧ (Kd.R (Kd.int .u8) 5 w' w.heap.size (fun k_ => some k_ ≠ (.slice Ao42 t250.length co42 : Value).ownBlock ∧ some k_ ≠ (v254 : Value).ownBlock ∧ some k_ ≠ (.slice Ao45 t257.length co45 : Value).ownBlock ∧ some k_ ≠ (.slice Ao49 t261.length co49 : Value).ownBlock ∧ some k_ ≠ (v265 : Value).ownBlock ∧ some k_ ≠ (s_.2.2.1 : Value).ownBlock) (.slice Ao39 t246.length co39) t246) ∧ (Kd.R (Kd.int .u8) 5 w' w.heap.size (fun k_ => some k_ ≠ (.slice Ao39 t246.length co39 : Value).ownBlock ∧ some k_ ≠ (v254 : Value).ownBlock ∧ some k_ ≠ (.slice Ao45 t257.length co45 : Value).ownBlock ∧ some k_ ≠ (.slice Ao49 t261.length co49 : Value).ownBlock ∧ some k_ ≠ (v265 : Value).ownBlock ∧ some k_ ≠ (s_.2.2.1 : Value).ownBlock) (.slice Ao42 t250.length co42) t250) ∧ (Kd.R (Kd.int .u8) 5 w' w.heap.size (fun k_ => some k_ ≠ (.slice Ao39 t246.length co39 : Value).ownBlock ∧ some k_ ≠ (.slice Ao42 t250.length co42 : Value).ownBlock ∧ some k_ ≠ (.slice Ao45 t257.length co45 : Value).ownBlock ∧ some k_ ≠ (.slice Ao49 t261.length co49 : Value).ownBlock ∧ some k_ ≠ (v265 : Value).ownBlock ∧ some k_ ≠ (s_.2.2.1 : Value).ownBlock) v254 t253) ∧ (Kd.R (Kd.int .u8) 5 w' w.heap.size (fun k_ => some k_ ≠ (.slice Ao39 t246.length co39 : Value).ownBlock ∧ some k_ ≠ (.slice Ao42 t250.length co42 : Value).ownBlock ∧ some k_ ≠ (v254 : Value).ownBlock ∧ some k_ ≠ (.slice Ao49 t261.length co49 : Value).ownBlock ∧ some k_ ≠ (v265 : Value).ownBlock ∧ some k_ ≠ (s_.2.2.1 : Value).ownBlock) (.slice Ao45 t257.length co45) t257) ∧ (Kd.R (Kd.int .u8) 5 w' w.heap.size (fun k_ => some k_ ≠ (.slice Ao39 t246.length co39 : Value).ownBlock ∧ some k_ ≠ (.slice Ao42 t250.length co42 : Value).ownBlock ∧ some k_ ≠ (v254 : Value).ownBlock ∧ some k_ ≠ (.slice Ao45 t257.length co45 : Value).ownBlock ∧ some k_ ≠ (v265 : Value).ownBlock ∧ some k_ ≠ (s_.2.2.1 : Value).ownBlock) (.slice Ao49 t261.length co49) t261) ∧ (Kd.R (Kd.int .u8) 5 w' w.heap.size (fun k_ => some k_ ≠ (.slice Ao39 t246.length co39 : Value).ownBlock ∧ some k_ ≠ (.slice Ao42 t250.length co42 : Value).ownBlock ∧ some k_ ≠ (v254 : Value).ownBlock ∧ some k_ ≠ (.slice Ao45 t257.length co45 : Value).ownBlock ∧ some k_ ≠ (.slice Ao49 t261.length co49 : Value).ownBlock ∧ some k_ ≠ (s_.2.2.1 : Value).ownBlock) v265 t264) ∧ (Kd.R (Kd.int .u8) 5 w' w.heap.size (fun k_ => some k_ ≠ (.slice Ao39 t246.length co39 : Value).ownBlock ∧ some k_ ≠ (.slice Ao42 t250.length co42 : Value).ownBlock ∧ some k_ ≠ (v254 : Value).ownBlock ∧ some k_ ≠ (.slice Ao45 t257.length co45 : Value).ownBlock ∧ some k_ ≠ (.slice Ao49 t261.length co49 : Value).ownBlock ∧ some k_ ≠ (v265 : Value).ownBlock) s_.2.2.1 y274) ∧ (w'.heap[gb243]? = some (.cells #[.slice A0_0 l0_0.length c0_0, .int .i64 a0_1, .slice A0_2 l0_2.length c0_2] 24 (0, 0))) ∧ (w'.heap[gb256]? = some (.cells #[.slice Ao39 t246.length co39, .int .i64 t249, .slice Ao42 t250.length co42] 24 (0, 0))) ∧ (w'.heap[gb267]? = some (.cells #[.slice Ao45 t257.length co45, .int .i64 t260, .slice Ao49 t261.length co49] 24 (0, 0))) ∧ (w'.heap[s_.2.2.2]? = some (.cells #[.slice none 0 0, .int .i64 0, .slice none 0 0] 24 (0, 0))) ∧ (w.heap.size ≤ s_.2.2.2) ∧ (w.heap.size ≤ s_.2.2.2) ∧ (gb243 ≠ s_.2.2.2) ∧ (s_.2.2.2 ≠ gb243) ∧ (gb256 ≠ s_.2.2.2) ∧ (s_.2.2.2 ≠ gb256) ∧ (gb267 ≠ s_.2.2.2) ∧ (s_.2.2.2 ≠ gb267) ∧ (Below w.heap.size w w')) ?_ ?_
            rotate_left
            ·intro hJ1_3_5_10
             refine join_ (σ := Value × Value × Value) 7 #[true, true, true, true, true, true, false, false, false, false, false, false, false] (fun s_ => [(52, s_.1), (54, s_.2.1), (56, s_.2.2)]) (fun s_ w' => (w'.cell? ⟨gb243, 0, none⟩ = some (.slice A0_0 l0_0.length c0_0) ∧ w'.cell? ⟨gb243, 1, none⟩ = some (.int .i64 a0_1) ∧ w'.cell? ⟨gb243, 2, none⟩ = some (.slice A0_2 l0_2.length c0_2)) ∧ (Kd.R (Kd.int .u8) 5 w' w.heap.size (fun k_ => some k_ ≠ (.slice Ao42 t250.length co42 : Value).ownBlock ∧ some k_ ≠ (v254 : Value).ownBlock ∧ some k_ ≠ (.slice Ao45 t257.length co45 : Value).ownBlock ∧ some k_ ≠ (.slice Ao49 t261.length co49 : Value).ownBlock ∧ some k_ ≠ (v265 : Value).ownBlock ∧ some k_ ≠ (s_.2.2 : Value).ownBlock) (.slice Ao39 t246.length co39) t246) ∧ (Kd.R (Kd.int .u8) 5 w' w.heap.size (fun k_ => some k_ ≠ (.slice Ao39 t246.length co39 : Value).ownBlock ∧ some k_ ≠ (v254 : Value).ownBlock ∧ some k_ ≠ (.slice Ao45 t257.length co45 : Value).ownBlock ∧ some k_ ≠ (.slice Ao49 t261.length co49 : Value).ownBlock ∧ some k_ ≠ (v265 : Value).ownBlock ∧ some k_ ≠ (s_.2.2 : Value).ownBlock) (.slice Ao42 t250.length co42) t250) ∧ (Kd.R (Kd.int .u8) 5 w' w.heap.size (fun k_ => some k_ ≠ (.slice Ao39 t246.length co39 : Value).ownBlock ∧ some k_ ≠ (.slice Ao42 t250.length co42 : Value).ownBlock ∧ some k_ ≠ (.slice Ao45 t257.length co45 : Value).ownBlock ∧ some k_ ≠ (.slice Ao49 t261.length co49 : Value).ownBlock ∧ some k_ ≠ (v265 : Value).ownBlock ∧ some k_ ≠ (s_.2.2 : Value).ownBlock) v254 t253) ∧ (Kd.R (Kd.int .u8) 5 w' w.heap.size (fun k_ => some k_ ≠ (.slice Ao39 t246.length co39 : Value).ownBlock ∧ some k_ ≠ (.slice Ao42 t250.length co42 : Value).ownBlock ∧ some k_ ≠ (v254 : Value).ownBlock ∧ some k_ ≠ (.slice Ao49 t261.length co49 : Value).ownBlock ∧ some k_ ≠ (v265 : Value).ownBlock ∧ some k_ ≠ (s_.2.2 : Value).ownBlock) (.slice Ao45 t257.length co45) t257) ∧ (Kd.R (Kd.int .u8) 5 w' w.heap.size (fun k_ => some k_ ≠ (.slice Ao39 t246.length co39 : Value).ownBlock ∧ some k_ ≠ (.slice Ao42 t250.length co42 : Value).ownBlock ∧ some k_ ≠ (v254 : Value).ownBlock ∧ some k_ ≠ (.slice Ao45 t257.length co45 : Value).ownBlock ∧ some k_ ≠ (v265 : Value).ownBlock ∧ some k_ ≠ (s_.2.2 : Value).ownBlock) (.slice Ao49 t261.length co49) t261) ∧ (Kd.R (Kd.int .u8) 5 w' w.heap.size (fun k_ => some k_ ≠ (.slice Ao39 t246.length co39 : Value).ownBlock ∧ some k_ ≠ (.slice Ao42 t250.length co42 : Value).ownBlock ∧ some k_ ≠ (v254 : Value).ownBlock ∧ some k_ ≠ (.slice Ao45 t257.length co45 : Value).ownBlock ∧ some k_ ≠ (.slice Ao49 t261.length co49 : Value).ownBlock ∧ some k_ ≠ (s_.2.2 : Value).ownBlock) v265 t264) ∧ (Kd.R (Kd.int .u8) 5 w' w.heap.size (fun k_ => some k_ ≠ (.slice Ao39 t246.length co39 : Value).ownBlock ∧ some k_ ≠ (.slice Ao42 t250.length co42 : Value).ownBlock ∧ some k_ ≠ (v254 : Value).ownBlock ∧ some k_ ≠ (.slice Ao45 t257.length co45 : Value).ownBlock ∧ some k_ ≠ (.slice Ao49 t261.length co49 : Value).ownBlock ∧ some k_ ≠ (v265 : Value).ownBlock) s_.2.2 y274) ∧ (w'.heap[gb243]? = some (.cells #[.slice A0_0 l0_0.length c0_0, .int .i64 a0_1, .slice A0_2 l0_2.length c0_2] 24 (0, 0))) ∧ (w'.heap[gb256]? = some (.cells #[.slice Ao39 t246.length co39, .int .i64 t249, .slice Ao42 t250.length co42] 24 (0, 0))) ∧ (w'.heap[gb267]? = some (.cells #[.slice Ao45 t257.length co45, .int .i64 t260, .slice Ao49 t261.length co49] 24 (0, 0))) ∧ (Below w.heap.size w w')) ?_ ?_
             rotate_left
             ·intro hJ1_3_5
              refine join_ (σ := Value × Value × Nat) 7 #[true, true, true, true, true, false, false, false, false, false, true, false, false] (fun s_ => [(52, s_.1), (54, s_.2.1), (11, .pointer (some ⟨s_.2.2, 0, none⟩))]) (fun s_ w' => (w'.cell? ⟨gb243, 0, none⟩ = some (.slice A0_0 l0_0.length c0_0) ∧ w'.cell? ⟨gb243, 1, none⟩ = some (.int .i64 a0_1) ∧ w'.cell? ⟨gb243, 2, none⟩ = some (.slice A0_2 l0_2.length c0_2)) ∧ (Kd.R (Kd.int .u8) 5 w' w.heap.size (fun k_ => some k_ ≠ (.slice Ao42 t250.length co42 : Value).ownBlock ∧ some k_ ≠ (v254 : Value).ownBlock ∧ some k_ ≠ (.slice Ao45 t257.length co45 : Value).ownBlock ∧ some k_ ≠ (.slice Ao49 t261.length co49 : Value).ownBlock ∧ some k_ ≠ (v265 : Value).ownBlock ∧ some k_ ≠ (s_.2.1 : Value).ownBlock) (.slice Ao39 t246.length co39) t246) ∧ (Kd.R (Kd.int .u8) 5 w' w.heap.size (fun k_ => some k_ ≠ (.slice Ao39 t246.length co39 : Value).ownBlock ∧ some k_ ≠ (v254 : Value).ownBlock ∧ some k_ ≠ (.slice Ao45 t257.length co45 : Value).ownBlock ∧ some k_ ≠ (.slice Ao49 t261.length co49 : Value).ownBlock ∧ some k_ ≠ (v265 : Value).ownBlock ∧ some k_ ≠ (s_.2.1 : Value).ownBlock) (.slice Ao42 t250.length co42) t250) ∧ (Kd.R (Kd.int .u8) 5 w' w.heap.size (fun k_ => some k_ ≠ (.slice Ao39 t246.length co39 : Value).ownBlock ∧ some k_ ≠ (.slice Ao42 t250.length co42 : Value).ownBlock ∧ some k_ ≠ (.slice Ao45 t257.length co45 : Value).ownBlock ∧ some k_ ≠ (.slice Ao49 t261.length co49 : Value).ownBlock ∧ some k_ ≠ (v265 : Value).ownBlock ∧ some k_ ≠ (s_.2.1 : Value).ownBlock) v254 t253) ∧ (Kd.R (Kd.int .u8) 5 w' w.heap.size (fun k_ => some k_ ≠ (.slice Ao39 t246.length co39 : Value).ownBlock ∧ some k_ ≠ (.slice Ao42 t250.length co42 : Value).ownBlock ∧ some k_ ≠ (v254 : Value).ownBlock ∧ some k_ ≠ (.slice Ao49 t261.length co49 : Value).ownBlock ∧ some k_ ≠ (v265 : Value).ownBlock ∧ some k_ ≠ (s_.2.1 : Value).ownBlock) (.slice Ao45 t257.length co45) t257) ∧ (Kd.R (Kd.int .u8) 5 w' w.heap.size (fun k_ => some k_ ≠ (.slice Ao39 t246.length co39 : Value).ownBlock ∧ some k_ ≠ (.slice Ao42 t250.length co42 : Value).ownBlock ∧ some k_ ≠ (v254 : Value).ownBlock ∧ some k_ ≠ (.slice Ao45 t257.length co45 : Value).ownBlock ∧ some k_ ≠ (v265 : Value).ownBlock ∧ some k_ ≠ (s_.2.1 : Value).ownBlock) (.slice Ao49 t261.length co49) t261) ∧ (Kd.R (Kd.int .u8) 5 w' w.heap.size (fun k_ => some k_ ≠ (.slice Ao39 t246.length co39 : Value).ownBlock ∧ some k_ ≠ (.slice Ao42 t250.length co42 : Value).ownBlock ∧ some k_ ≠ (v254 : Value).ownBlock ∧ some k_ ≠ (.slice Ao45 t257.length co45 : Value).ownBlock ∧ some k_ ≠ (.slice Ao49 t261.length co49 : Value).ownBlock ∧ some k_ ≠ (s_.2.1 : Value).ownBlock) v265 t264) ∧ (Kd.R (Kd.int .u8) 5 w' w.heap.size (fun k_ => some k_ ≠ (.slice Ao39 t246.length co39 : Value).ownBlock ∧ some k_ ≠ (.slice Ao42 t250.length co42 : Value).ownBlock ∧ some k_ ≠ (v254 : Value).ownBlock ∧ some k_ ≠ (.slice Ao45 t257.length co45 : Value).ownBlock ∧ some k_ ≠ (.slice Ao49 t261.length co49 : Value).ownBlock ∧ some k_ ≠ (v265 : Value).ownBlock) s_.2.1 y271) ∧ (w'.heap[gb243]? = some (.cells #[.slice A0_0 l0_0.length c0_0, .int .i64 a0_1, .slice A0_2 l0_2.length c0_2] 24 (0, 0))) ∧ (w'.heap[gb256]? = some (.cells #[.slice Ao39 t246.length co39, .int .i64 t249, .slice Ao42 t250.length co42] 24 (0, 0))) ∧ (w'.heap[gb267]? = some (.cells #[.slice Ao45 t257.length co45, .int .i64 t260, .slice Ao49 t261.length co49] 24 (0, 0))) ∧ (w'.heap[s_.2.2]? = some (.cells #[.slice none 0 0, .int .i64 0, .slice none 0 0] 24 (0, 0))) ∧ (w.heap.size ≤ s_.2.2) ∧ (w.heap.size ≤ s_.2.2) ∧ (gb243 ≠ s_.2.2) ∧ (s_.2.2 ≠ gb243) ∧ (gb256 ≠ s_.2.2) ∧ (s_.2.2 ≠ gb256) ∧ (gb267 ≠ s_.2.2) ∧ (s_.2.2 ≠ gb267) ∧ (Below w.heap.size w w')) ?_ ?_
              rotate_left
              ·intro hJ1_3_10
               refine join_ (σ := Value × Value) 8 #[true, true, true, true, true, false, false, false, false, false, false, false, false] (fun s_ => [(52, s_.1), (54, s_.2)]) (fun s_ w' => (w'.cell? ⟨gb243, 0, none⟩ = some (.slice A0_0 l0_0.length c0_0) ∧ w'.cell? ⟨gb243, 1, none⟩ = some (.int .i64 a0_1) ∧ w'.cell? ⟨gb243, 2, none⟩ = some (.slice A0_2 l0_2.length c0_2)) ∧ (Kd.R (Kd.int .u8) 5 w' w.heap.size (fun k_ => some k_ ≠ (.slice Ao42 t250.length co42 : Value).ownBlock ∧ some k_ ≠ (v254 : Value).ownBlock ∧ some k_ ≠ (.slice Ao45 t257.length co45 : Value).ownBlock ∧ some k_ ≠ (.slice Ao49 t261.length co49 : Value).ownBlock ∧ some k_ ≠ (v265 : Value).ownBlock ∧ some k_ ≠ (s_.2 : Value).ownBlock) (.slice Ao39 t246.length co39) t246) ∧ (Kd.R (Kd.int .u8) 5 w' w.heap.size (fun k_ => some k_ ≠ (.slice Ao39 t246.length co39 : Value).ownBlock ∧ some k_ ≠ (v254 : Value).ownBlock ∧ some k_ ≠ (.slice Ao45 t257.length co45 : Value).ownBlock ∧ some k_ ≠ (.slice Ao49 t261.length co49 : Value).ownBlock ∧ some k_ ≠ (v265 : Value).ownBlock ∧ some k_ ≠ (s_.2 : Value).ownBlock) (.slice Ao42 t250.length co42) t250) ∧ (Kd.R (Kd.int .u8) 5 w' w.heap.size (fun k_ => some k_ ≠ (.slice Ao39 t246.length co39 : Value).ownBlock ∧ some k_ ≠ (.slice Ao42 t250.length co42 : Value).ownBlock ∧ some k_ ≠ (.slice Ao45 t257.length co45 : Value).ownBlock ∧ some k_ ≠ (.slice Ao49 t261.length co49 : Value).ownBlock ∧ some k_ ≠ (v265 : Value).ownBlock ∧ some k_ ≠ (s_.2 : Value).ownBlock) v254 t253) ∧ (Kd.R (Kd.int .u8) 5 w' w.heap.size (fun k_ => some k_ ≠ (.slice Ao39 t246.length co39 : Value).ownBlock ∧ some k_ ≠ (.slice Ao42 t250.length co42 : Value).ownBlock ∧ some k_ ≠ (v254 : Value).ownBlock ∧ some k_ ≠ (.slice Ao49 t261.length co49 : Value).ownBlock ∧ some k_ ≠ (v265 : Value).ownBlock ∧ some k_ ≠ (s_.2 : Value).ownBlock) (.slice Ao45 t257.length co45) t257) ∧ (Kd.R (Kd.int .u8) 5 w' w.heap.size (fun k_ => some k_ ≠ (.slice Ao39 t246.length co39 : Value).ownBlock ∧ some k_ ≠ (.slice Ao42 t250.length co42 : Value).ownBlock ∧ some k_ ≠ (v254 : Value).ownBlock ∧ some k_ ≠ (.slice Ao45 t257.length co45 : Value).ownBlock ∧ some k_ ≠ (v265 : Value).ownBlock ∧ some k_ ≠ (s_.2 : Value).ownBlock) (.slice Ao49 t261.length co49) t261) ∧ (Kd.R (Kd.int .u8) 5 w' w.heap.size (fun k_ => some k_ ≠ (.slice Ao39 t246.length co39 : Value).ownBlock ∧ some k_ ≠ (.slice Ao42 t250.length co42 : Value).ownBlock ∧ some k_ ≠ (v254 : Value).ownBlock ∧ some k_ ≠ (.slice Ao45 t257.length co45 : Value).ownBlock ∧ some k_ ≠ (.slice Ao49 t261.length co49 : Value).ownBlock ∧ some k_ ≠ (s_.2 : Value).ownBlock) v265 t264) ∧ (Kd.R (Kd.int .u8) 5 w' w.heap.size (fun k_ => some k_ ≠ (.slice Ao39 t246.length co39 : Value).ownBlock ∧ some k_ ≠ (.slice Ao42 t250.length co42 : Value).ownBlock ∧ some k_ ≠ (v254 : Value).ownBlock ∧ some k_ ≠ (.slice Ao45 t257.length co45 : Value).ownBlock ∧ some k_ ≠ (.slice Ao49 t261.length co49 : Value).ownBlock ∧ some k_ ≠ (v265 : Value).ownBlock) s_.2 y271) ∧ (w'.heap[gb243]? = some (.cells #[.slice A0_0 l0_0.length c0_0, .int .i64 a0_1, .slice A0_2 l0_2.length c0_2] 24 (0, 0))) ∧ (w'.heap[gb256]? = some (.cells #[.slice Ao39 t246.length co39, .int .i64 t249, .slice Ao42 t250.length co42] 24 (0, 0))) ∧ (w'.heap[gb267]? = some (.cells #[.slice Ao45 t257.length co45, .int .i64 t260, .slice Ao49 t261.length co49] 24 (0, 0))) ∧ (Below w.heap.size w w')) ?_ ?_
               rotate_left
               ·intro hJ1_3
                refine join_ (σ := Value × Nat) 8 #[true, true, true, false, true, false, false, false, false, false, true, false, false] (fun s_ => [(52, s_.1), (11, .pointer (some ⟨s_.2, 0, none⟩))]) (fun s_ w' => (w'.cell? ⟨gb243, 0, none⟩ = some (.slice A0_0 l0_0.length c0_0) ∧ w'.cell? ⟨gb243, 1, none⟩ = some (.int .i64 a0_1) ∧ w'.cell? ⟨gb243, 2, none⟩ = some (.slice A0_2 l0_2.length c0_2)) ∧ (Kd.R (Kd.int .u8) 5 w' w.heap.size (fun k_ => some k_ ≠ (.slice Ao42 t250.length co42 : Value).ownBlock ∧ some k_ ≠ (v254 : Value).ownBlock ∧ some k_ ≠ (.slice Ao45 t257.length co45 : Value).ownBlock ∧ some k_ ≠ (.slice Ao49 t261.length co49 : Value).ownBlock ∧ some k_ ≠ (v265 : Value).ownBlock ∧ some k_ ≠ (s_.1 : Value).ownBlock) (.slice Ao39 t246.length co39) t246) ∧ (Kd.R (Kd.int .u8) 5 w' w.heap.size (fun k_ => some k_ ≠ (.slice Ao39 t246.length co39 : Value).ownBlock ∧ some k_ ≠ (v254 : Value).ownBlock ∧ some k_ ≠ (.slice Ao45 t257.length co45 : Value).ownBlock ∧ some k_ ≠ (.slice Ao49 t261.length co49 : Value).ownBlock ∧ some k_ ≠ (v265 : Value).ownBlock ∧ some k_ ≠ (s_.1 : Value).ownBlock) (.slice Ao42 t250.length co42) t250) ∧ (Kd.R (Kd.int .u8) 5 w' w.heap.size (fun k_ => some k_ ≠ (.slice Ao39 t246.length co39 : Value).ownBlock ∧ some k_ ≠ (.slice Ao42 t250.length co42 : Value).ownBlock ∧ some k_ ≠ (.slice Ao45 t257.length co45 : Value).ownBlock ∧ some k_ ≠ (.slice Ao49 t261.length co49 : Value).ownBlock ∧ some k_ ≠ (v265 : Value).ownBlock ∧ some k_ ≠ (s_.1 : Value).ownBlock) v254 t253) ∧ (Kd.R (Kd.int .u8) 5 w' w.heap.size (fun k_ => some k_ ≠ (.slice Ao39 t246.length co39 : Value).ownBlock ∧ some k_ ≠ (.slice Ao42 t250.length co42 : Value).ownBlock ∧ some k_ ≠ (v254 : Value).ownBlock ∧ some k_ ≠ (.slice Ao49 t261.length co49 : Value).ownBlock ∧ some k_ ≠ (v265 : Value).ownBlock ∧ some k_ ≠ (s_.1 : Value).ownBlock) (.slice Ao45 t257.length co45) t257) ∧ (Kd.R (Kd.int .u8) 5 w' w.heap.size (fun k_ => some k_ ≠ (.slice Ao39 t246.length co39 : Value).ownBlock ∧ some k_ ≠ (.slice Ao42 t250.length co42 : Value).ownBlock ∧ some k_ ≠ (v254 : Value).ownBlock ∧ some k_ ≠ (.slice Ao45 t257.length co45 : Value).ownBlock ∧ some k_ ≠ (v265 : Value).ownBlock ∧ some k_ ≠ (s_.1 : Value).ownBlock) (.slice Ao49 t261.length co49) t261) ∧ (Kd.R (Kd.int .u8) 5 w' w.heap.size (fun k_ => some k_ ≠ (.slice Ao39 t246.length co39 : Value).ownBlock ∧ some k_ ≠ (.slice Ao42 t250.length co42 : Value).ownBlock ∧ some k_ ≠ (v254 : Value).ownBlock ∧ some k_ ≠ (.slice Ao45 t257.length co45 : Value).ownBlock ∧ some k_ ≠ (.slice Ao49 t261.length co49 : Value).ownBlock ∧ some k_ ≠ (s_.1 : Value).ownBlock) v265 t264) ∧ (Kd.R (Kd.int .u8) 5 w' w.heap.size (fun k_ => some k_ ≠ (.slice Ao39 t246.length co39 : Value).ownBlock ∧ some k_ ≠ (.slice Ao42 t250.length co42 : Value).ownBlock ∧ some k_ ≠ (v254 : Value).ownBlock ∧ some k_ ≠ (.slice Ao45 t257.length co45 : Value).ownBlock ∧ some k_ ≠ (.slice Ao49 t261.length co49 : Value).ownBlock ∧ some k_ ≠ (v265 : Value).ownBlock) s_.1 y268) ∧ (w'.heap[gb243]? = some (.cells #[.slice A0_0 l0_0.length c0_0, .int .i64 a0_1, .slice A0_2 l0_2.length c0_2] 24 (0, 0))) ∧ (w'.heap[gb256]? = some (.cells #[.slice Ao39 t246.length co39, .int .i64 t249, .slice Ao42 t250.length co42] 24 (0, 0))) ∧ (w'.heap[gb267]? = some (.cells #[.slice Ao45 t257.length co45, .int .i64 t260, .slice Ao49 t261.length co49] 24 (0, 0))) ∧ (w'.heap[s_.2]? = some (.cells #[.slice none 0 0, .int .i64 0, .slice none 0 0] 24 (0, 0))) ∧ (w.heap.size ≤ s_.2) ∧ (w.heap.size ≤ s_.2) ∧ (gb243 ≠ s_.2) ∧ (s_.2 ≠ gb243) ∧ (gb256 ≠ s_.2) ∧ (s_.2 ≠ gb256) ∧ (gb267 ≠ s_.2) ∧ (s_.2 ≠ gb267) ∧ (Below w.heap.size w w')) ?_ ?_
                rotate_left
                ·intro hJ1_10
                 refine join_ (σ := Value) 9 #[true, true, true, false, true, false, false, false, false, false, false, false, false] (fun s_ => [(52, s_)]) (fun s_ w' => (w'.cell? ⟨gb243, 0, none⟩ = some (.slice A0_0 l0_0.length c0_0) ∧ w'.cell? ⟨gb243, 1, none⟩ = some (.int .i64 a0_1) ∧ w'.cell? ⟨gb243, 2, none⟩ = some (.slice A0_2 l0_2.length c0_2)) ∧ (Kd.R (Kd.int .u8) 5 w' w.heap.size (fun k_ => some k_ ≠ (.slice Ao42 t250.length co42 : Value).ownBlock ∧ some k_ ≠ (v254 : Value).ownBlock ∧ some k_ ≠ (.slice Ao45 t257.length co45 : Value).ownBlock ∧ some k_ ≠ (.slice Ao49 t261.length co49 : Value).ownBlock ∧ some k_ ≠ (v265 : Value).ownBlock ∧ some k_ ≠ (s_ : Value).ownBlock) (.slice Ao39 t246.length co39) t246) ∧ (Kd.R (Kd.int .u8) 5 w' w.heap.size (fun k_ => some k_ ≠ (.slice Ao39 t246.length co39 : Value).ownBlock ∧ some k_ ≠ (v254 : Value).ownBlock ∧ some k_ ≠ (.slice Ao45 t257.length co45 : Value).ownBlock ∧ some k_ ≠ (.slice Ao49 t261.length co49 : Value).ownBlock ∧ some k_ ≠ (v265 : Value).ownBlock ∧ some k_ ≠ (s_ : Value).ownBlock) (.slice Ao42 t250.length co42) t250) ∧ (Kd.R (Kd.int .u8) 5 w' w.heap.size (fun k_ => some k_ ≠ (.slice Ao39 t246.length co39 : Value).ownBlock ∧ some k_ ≠ (.slice Ao42 t250.length co42 : Value).ownBlock ∧ some k_ ≠ (.slice Ao45 t257.length co45 : Value).ownBlock ∧ some k_ ≠ (.slice Ao49 t261.length co49 : Value).ownBlock ∧ some k_ ≠ (v265 : Value).ownBlock ∧ some k_ ≠ (s_ : Value).ownBlock) v254 t253) ∧ (Kd.R (Kd.int .u8) 5 w' w.heap.size (fun k_ => some k_ ≠ (.slice Ao39 t246.length co39 : Value).ownBlock ∧ some k_ ≠ (.slice Ao42 t250.length co42 : Value).ownBlock ∧ some k_ ≠ (v254 : Value).ownBlock ∧ some k_ ≠ (.slice Ao49 t261.length co49 : Value).ownBlock ∧ some k_ ≠ (v265 : Value).ownBlock ∧ some k_ ≠ (s_ : Value).ownBlock) (.slice Ao45 t257.length co45) t257) ∧ (Kd.R (Kd.int .u8) 5 w' w.heap.size (fun k_ => some k_ ≠ (.slice Ao39 t246.length co39 : Value).ownBlock ∧ some k_ ≠ (.slice Ao42 t250.length co42 : Value).ownBlock ∧ some k_ ≠ (v254 : Value).ownBlock ∧ some k_ ≠ (.slice Ao45 t257.length co45 : Value).ownBlock ∧ some k_ ≠ (v265 : Value).ownBlock ∧ some k_ ≠ (s_ : Value).ownBlock) (.slice Ao49 t261.length co49) t261) ∧ (Kd.R (Kd.int .u8) 5 w' w.heap.size (fun k_ => some k_ ≠ (.slice Ao39 t246.length co39 : Value).ownBlock ∧ some k_ ≠ (.slice Ao42 t250.length co42 : Value).ownBlock ∧ some k_ ≠ (v254 : Value).ownBlock ∧ some k_ ≠ (.slice Ao45 t257.length co45 : Value).ownBlock ∧ some k_ ≠ (.slice Ao49 t261.length co49 : Value).ownBlock ∧ some k_ ≠ (s_ : Value).ownBlock) v265 t264) ∧ (Kd.R (Kd.int .u8) 5 w' w.heap.size (fun k_ => some k_ ≠ (.slice Ao39 t246.length co39 : Value).ownBlock ∧ some k_ ≠ (.slice Ao42 t250.length co42 : Value).ownBlock ∧ some k_ ≠ (v254 : Value).ownBlock ∧ some k_ ≠ (.slice Ao45 t257.length co45 : Value).ownBlock ∧ some k_ ≠ (.slice Ao49 t261.length co49 : Value).ownBlock ∧ some k_ ≠ (v265 : Value).ownBlock) s_ y268) ∧ (w'.heap[gb243]? = some (.cells #[.slice A0_0 l0_0.length c0_0, .int .i64 a0_1, .slice A0_2 l0_2.length c0_2] 24 (0, 0))) ∧ (w'.heap[gb256]? = some (.cells #[.slice Ao39 t246.length co39, .int .i64 t249, .slice Ao42 t250.length co42] 24 (0, 0))) ∧ (w'.heap[gb267]? = some (.cells #[.slice Ao45 t257.length co45, .int .i64 t260, .slice Ao49 t261.length co49] 24 (0, 0))) ∧ (Below w.heap.size w w')) ?_ ?_
                 rotate_left
                 ·intro hJ1
                  refine join_ (σ := Nat) 9 #[true, false, true, false, true, false, false, false, false, false, true, false, false] (fun s_ => [(11, .pointer (some ⟨s_, 0, none⟩))]) (fun s_ w' => (w'.cell? ⟨gb243, 0, none⟩ = some (.slice A0_0 l0_0.length c0_0) ∧ w'.cell? ⟨gb243, 1, none⟩ = some (.int .i64 a0_1) ∧ w'.cell? ⟨gb243, 2, none⟩ = some (.slice A0_2 l0_2.length c0_2)) ∧ (Kd.R (Kd.int .u8) 5 w' w.heap.size (fun k_ => some k_ ≠ (.slice Ao42 t250.length co42 : Value).ownBlock ∧ some k_ ≠ (v254 : Value).ownBlock ∧ some k_ ≠ (.slice Ao45 t257.length co45 : Value).ownBlock ∧ some k_ ≠ (.slice Ao49 t261.length co49 : Value).ownBlock ∧ some k_ ≠ (v265 : Value).ownBlock) (.slice Ao39 t246.length co39) t246) ∧ (Kd.R (Kd.int .u8) 5 w' w.heap.size (fun k_ => some k_ ≠ (.slice Ao39 t246.length co39 : Value).ownBlock ∧ some k_ ≠ (v254 : Value).ownBlock ∧ some k_ ≠ (.slice Ao45 t257.length co45 : Value).ownBlock ∧ some k_ ≠ (.slice Ao49 t261.length co49 : Value).ownBlock ∧ some k_ ≠ (v265 : Value).ownBlock) (.slice Ao42 t250.length co42) t250) ∧ (Kd.R (Kd.int .u8) 5 w' w.heap.size (fun k_ => some k_ ≠ (.slice Ao39 t246.length co39 : Value).ownBlock ∧ some k_ ≠ (.slice Ao42 t250.length co42 : Value).ownBlock ∧ some k_ ≠ (.slice Ao45 t257.length co45 : Value).ownBlock ∧ some k_ ≠ (.slice Ao49 t261.length co49 : Value).ownBlock ∧ some k_ ≠ (v265 : Value).ownBlock) v254 t253) ∧ (Kd.R (Kd.int .u8) 5 w' w.heap.size (fun k_ => some k_ ≠ (.slice Ao39 t246.length co39 : Value).ownBlock ∧ some k_ ≠ (.slice Ao42 t250.length co42 : Value).ownBlock ∧ some k_ ≠ (v254 : Value).ownBlock ∧ some k_ ≠ (.slice Ao49 t261.length co49 : Value).ownBlock ∧ some k_ ≠ (v265 : Value).ownBlock) (.slice Ao45 t257.length co45) t257) ∧ (Kd.R (Kd.int .u8) 5 w' w.heap.size (fun k_ => some k_ ≠ (.slice Ao39 t246.length co39 : Value).ownBlock ∧ some k_ ≠ (.slice Ao42 t250.length co42 : Value).ownBlock ∧ some k_ ≠ (v254 : Value).ownBlock ∧ some k_ ≠ (.slice Ao45 t257.length co45 : Value).ownBlock ∧ some k_ ≠ (v265 : Value).ownBlock) (.slice Ao49 t261.length co49) t261) ∧ (Kd.R (Kd.int .u8) 5 w' w.heap.size (fun k_ => some k_ ≠ (.slice Ao39 t246.length co39 : Value).ownBlock ∧ some k_ ≠ (.slice Ao42 t250.length co42 : Value).ownBlock ∧ some k_ ≠ (v254 : Value).ownBlock ∧ some k_ ≠ (.slice Ao45 t257.length co45 : Value).ownBlock ∧ some k_ ≠ (.slice Ao49 t261.length co49 : Value).ownBlock) v265 t264) ∧ (w'.heap[gb243]? = some (.cells #[.slice A0_0 l0_0.length c0_0, .int .i64 a0_1, .slice A0_2 l0_2.length c0_2] 24 (0, 0))) ∧ (w'.heap[gb256]? = some (.cells #[.slice Ao39 t246.length co39, .int .i64 t249, .slice Ao42 t250.length co42] 24 (0, 0))) ∧ (w'.heap[gb267]? = some (.cells #[.slice Ao45 t257.length co45, .int .i64 t260, .slice Ao49 t261.length co49] 24 (0, 0))) ∧ (w'.heap[s_]? = some (.cells #[.slice none 0 0, .int .i64 0, .slice none 0 0] 24 (0, 0))) ∧ (w.heap.size ≤ s_) ∧ (w.heap.size ≤ s_) ∧ (gb243 ≠ s_) ∧ (s_ ≠ gb243) ∧ (gb256 ≠ s_) ∧ (s_ ≠ gb256) ∧ (gb267 ≠ s_) ∧ (s_ ≠ gb267) ∧ (Below w.heap.size w w')) ?_ ?_
                  rotate_left
                  ·intro hJ10
                   refine two_ (i := 1) (j := 10) (Ni := some 52) (Nj := some 11) #[true, true, true, false, true, false, false, false, false, false, false, false, false] #[true, false, true, false, true, false, false, false, false, false, true, false, false] rfl rfl rfl rfl (two_of HT_.out (by kernel_rfl)) (by decide) (by decide) (fun K hK => ?_) (fun K hK => ?_)
                   ·skip
                    refine Kd.R_lit_step (Kd.int .u8) _ 5 ?hg (N := 52) ?hd (xs := ([] : List Int)) (inner := []) (ok := fun _ => True) (okp := fun _ => True) ?hr ?hp (fun _ hk => hk) trivial (Below.refl _ _) (Nat.le_refl _) (by simp) ?_; (case hd => rfl); (case hg => rfl); (case hr => first | (go_simp; done) | (go_simp; rfl)); (case hp => exact (Reps.none _ _))
                    intro v269 w52 ho53 hb hg_ hnew_
                    clear hg_ hnew_
                    (first | rw [← Ny268.out] at ho53 | (simp only [Int.reduceToNat] at ho53; rw [← Ny268.out] at ho53))
                    have n0_ := Aside0.mk (Kd.R_elder' (pR HO248) (Kd.R_base ho53) hb)
                    have n1_ := Aside0.mk (Kd.R_elder' (pR HO252) (Kd.R_base ho53) hb)
                    have n2_ := Aside0.mk (Kd.R_elder' (pR HO255) (Kd.R_base ho53) hb)
                    have n3_ := Aside0.mk (Kd.R_elder' (pR HO259) (Kd.R_base ho53) hb)
                    have n4_ := Aside0.mk (Kd.R_elder' (pR HO263) (Kd.R_base ho53) hb)
                    have n5_ := Aside0.mk (Kd.R_elder' (pR HO266) (Kd.R_base ho53) hb)
                    have n6_ := Aside0.mk (Kd.R_lower (Kd.R_new' (Kd.R_new' (Kd.R_new' (Kd.R_new' (Kd.R_new' (Kd.R_new' ho53 (Kd.R_lt (pR HO248))) (Kd.R_lt (pR HO252))) (Kd.R_lt (pR HO255))) (Kd.R_lt (pR HO259))) (Kd.R_lt (pR HO263))) (Kd.R_lt (pR HO266))) (below_size pS))
                    have n7_ := Aside0.mk (blk_below (g := gb243) (o := .cells #[.slice A0_0 l0_0.length c0_0, .int .i64 a0_1, .slice A0_2 l0_2.length c0_2] 24 (0, 0)) (pK BK243) hb)
                    have n8_ := Aside0.mk (blk_below (g := gb256) (o := .cells #[.slice Ao39 t246.length co39, .int .i64 t249, .slice Ao42 t250.length co42] 24 (0, 0)) (pK BK256) hb)
                    have n9_ := Aside0.mk (blk_below (g := gb267) (o := .cells #[.slice Ao45 t257.length co45, .int .i64 t260, .slice Ao49 t261.length co49] 24 (0, 0)) (pK BK267) hb)
                    have n10_ := Aside0.mk (below_step pS hb)
                    clear HO248 HO252 HO255 HO259 HO263 HO266 BK243 BK256 BK267 HB
                    have HO248 := n0_; have HO252 := n1_; have HO255 := n2_; have HO259 := n3_; have HO263 := n4_; have HO266 := n5_; have HO270 := n6_; have BK243 := n7_; have BK256 := n8_; have BK267 := n9_; have HB := n10_
                    clear n0_ n1_ n2_ n3_ n4_ n5_ n6_ n7_ n8_ n9_ n10_ hb ho53
                    refine hK.out _ _ ⟨(blk_cell BK243.out 0).trans rfl, (blk_cell BK243.out 1).trans rfl, (blk_cell BK243.out 2).trans rfl⟩ (fun hHeld => ?_)
                    clear hK K
                    refine norm_ (a' := ?_) ?_ ?_
                    rotate_left
                    ·show Act.put _ (some 52) _ = _
                     simp only [Act.put, List.setIfInBounds_toArray, List.set_cons_zero, List.set_cons_succ, i64_w, i32_w]
                     rfl
                    exact norm_ pN (hJ1 (v269) _ ⟨hHeld, (pQ HO248), (pQ HO252), (pQ HO255), (pQ HO259), (pQ HO263), (pQ HO266), (pQ HO270), (pK BK243), (pK BK256), (pK BK267), pS⟩)
                   ·skip
                    refine box_step ?hg (N := 11) ?hd (cs := #[.slice none 0 0, .int .i64 0, .slice none 0 0]) (t := 24) ?hr ?_; (case hd => rfl); (case hg => rfl); (case hr => first | (go_simp; done) | (go_simp; rfl))
                    intro gb287 hg w52 hbox hb
                    have n0_ := Aside0.mk (Kd.R_below (pR HO248) hb)
                    have n1_ := Aside0.mk (Kd.R_below (pR HO252) hb)
                    have n2_ := Aside0.mk (Kd.R_below (pR HO255) hb)
                    have n3_ := Aside0.mk (Kd.R_below (pR HO259) hb)
                    have n4_ := Aside0.mk (Kd.R_below (pR HO263) hb)
                    have n5_ := Aside0.mk (Kd.R_below (pR HO266) hb)
                    have n6_ := Aside0.mk (blk_below (g := gb243) (o := .cells #[.slice A0_0 l0_0.length c0_0, .int .i64 a0_1, .slice A0_2 l0_2.length c0_2] 24 (0, 0)) (pK BK243) hb)
                    have n7_ := Aside0.mk (blk_below (g := gb256) (o := .cells #[.slice Ao39 t246.length co39, .int .i64 t249, .slice Ao42 t250.length co42] 24 (0, 0)) (pK BK256) hb)
                    have n8_ := Aside0.mk (blk_below (g := gb267) (o := .cells #[.slice Ao45 t257.length co45, .int .i64 t260, .slice Ao49 t261.length co49] 24 (0, 0)) (pK BK267) hb)
                    have n9_ := Aside0.mk (below_step pS hb)
                    have n10_ := Aside0.mk (hbox)
                    have n11_ := Aside0.mk ((by rw [hg]; exact (below_size pS) : w.heap.size ≤ gb287))
                    have n12_ := Aside0.mk ((by rw [hg]; exact (below_size pS) : w.heap.size ≤ gb287))
                    have n13_ := Aside0.mk ((by rw [hg]; exact Nat.ne_of_lt (blk_lt (g := gb243) (o := .cells #[.slice A0_0 l0_0.length c0_0, .int .i64 a0_1, .slice A0_2 l0_2.length c0_2] 24 (0, 0)) (pK BK243)) : gb243 ≠ gb287))
                    have n14_ := Aside0.mk ((by rw [hg]; exact Nat.ne_of_gt (blk_lt (g := gb243) (o := .cells #[.slice A0_0 l0_0.length c0_0, .int .i64 a0_1, .slice A0_2 l0_2.length c0_2] 24 (0, 0)) (pK BK243)) : gb287 ≠ gb243))
                    have n15_ := Aside0.mk ((by rw [hg]; exact Nat.ne_of_lt (blk_lt (g := gb256) (o := .cells #[.slice Ao39 t246.length co39, .int .i64 t249, .slice Ao42 t250.length co42] 24 (0, 0)) (pK BK256)) : gb256 ≠ gb287))
                    have n16_ := Aside0.mk ((by rw [hg]; exact Nat.ne_of_gt (blk_lt (g := gb256) (o := .cells #[.slice Ao39 t246.length co39, .int .i64 t249, .slice Ao42 t250.length co42] 24 (0, 0)) (pK BK256)) : gb287 ≠ gb256))
                    have n17_ := Aside0.mk ((by rw [hg]; exact Nat.ne_of_lt (blk_lt (g := gb267) (o := .cells #[.slice Ao45 t257.length co45, .int .i64 t260, .slice Ao49 t261.length co49] 24 (0, 0)) (pK BK267)) : gb267 ≠ gb287))
                    have n18_ := Aside0.mk ((by rw [hg]; exact Nat.ne_of_gt (blk_lt (g := gb267) (o := .cells #[.slice Ao45 t257.length co45, .int .i64 t260, .slice Ao49 t261.length co49] 24 (0, 0)) (pK BK267)) : gb287 ≠ gb267))
                    clear HO248 HO252 HO255 HO259 HO263 HO266 BK243 BK256 BK267 HB
                    have HO248 := n0_; have HO252 := n1_; have HO255 := n2_; have HO259 := n3_; have HO263 := n4_; have HO266 := n5_; have BK243 := n6_; have BK256 := n7_; have BK267 := n8_; have HB := n9_; have BK287 := n10_; have GW287 := n11_; have GE287 := n12_; have NB243_287 := n13_; have NB287_243 := n14_; have NB256_287 := n15_; have NB287_256 := n16_; have NB267_287 := n17_; have NB287_267 := n18_
                    clear n0_ n1_ n2_ n3_ n4_ n5_ n6_ n7_ n8_ n9_ n10_ n11_ n12_ n13_ n14_ n15_ n16_ n17_ n18_ hb hbox hg
                    refine hK.out _ _ ⟨(blk_cell BK243.out 0).trans rfl, (blk_cell BK243.out 1).trans rfl, (blk_cell BK243.out 2).trans rfl⟩ (fun hHeld => ?_)
                    clear hK K
                    refine norm_ (a' := ?_) ?_ ?_
                    rotate_left
                    ·show Act.put _ (some 11) _ = _
                     simp only [Act.put, List.setIfInBounds_toArray, List.set_cons_zero, List.set_cons_succ, i64_w, i32_w]
                     rfl
                    exact norm_ pN (hJ10 (gb287) _ ⟨hHeld, (pR HO248), (pR HO252), (pR HO255), (pR HO259), (pR HO263), (pR HO266), (pK BK243), (pK BK256), (pK BK267), (pK BK287), GW287.out, GE287.out, NB243_287.out, NB287_243.out, NB256_287.out, NB287_256.out, NB267_287.out, NB287_267.out, pS⟩)
                  ·skip
                   rintro gb287 w53 ⟨hS_, h0_, h1_, h2_, h3_, h4_, h5_, h6_, h7_, h8_, h9_, h10_, h11_, h12_, h13_, h14_, h15_, h16_, h17_, h18_⟩
                   try dsimp only at h0_ h1_ h2_ h3_ h4_ h5_ h6_ h7_ h8_ h9_ h10_ h11_ h12_ h13_ h14_ h15_ h16_ h17_ h18_
                   have n0_ := Aside0.mk h0_; have n1_ := Aside0.mk h1_; have n2_ := Aside0.mk h2_; have n3_ := Aside0.mk h3_; have n4_ := Aside0.mk h4_; have n5_ := Aside0.mk h5_; have n6_ := Aside0.mk h6_; have n7_ := Aside0.mk h7_; have n8_ := Aside0.mk h8_; have n9_ := Aside0.mk h9_; have n10_ := Aside0.mk h10_; have n11_ := Aside0.mk h11_; have n12_ := Aside0.mk h12_; have n13_ := Aside0.mk h13_; have n14_ := Aside0.mk h14_; have n15_ := Aside0.mk h15_; have n16_ := Aside0.mk h16_; have n17_ := Aside0.mk h17_; have n18_ := Aside0.mk h18_
                   clear HO248 HO252 HO255 HO259 HO263 HO266 BK243 BK256 BK267 HB h0_ h1_ h2_ h3_ h4_ h5_ h6_ h7_ h8_ h9_ h10_ h11_ h12_ h13_ h14_ h15_ h16_ h17_ h18_
                   have HO248 := n0_; have HO252 := n1_; have HO255 := n2_; have HO259 := n3_; have HO263 := n4_; have HO266 := n5_; have BK243 := n6_; have BK256 := n7_; have BK267 := n8_; have BK287 := n9_; have GW287 := n10_; have GE287 := n11_; have NB243_287 := n12_; have NB287_243 := n13_; have NB256_287 := n14_; have NB287_256 := n15_; have NB267_287 := n16_; have NB287_267 := n17_; have HB := n18_
                   clear n0_ n1_ n2_ n3_ n4_ n5_ n6_ n7_ n8_ n9_ n10_ n11_ n12_ n13_ n14_ n15_ n16_ n17_ n18_
                   have hHeld : w53.cell? ⟨gb243, 0, none⟩ = some (.slice A0_0 l0_0.length c0_0) ∧ w53.cell? ⟨gb243, 1, none⟩ = some (.int .i64 a0_1) ∧ w53.cell? ⟨gb243, 2, none⟩ = some (.slice A0_2 l0_2.length c0_2) := hS_
                   refine norm_ (a' := ?_) ?_ ?_
                   rotate_left
                   ·simp only [putAll, Act.put, List.setIfInBounds_toArray, List.set_cons_zero, List.set_cons_succ]
                    rfl
                   refine one_ (i := 1) (N := some 52) #[true, true, true, false, true, false, false, false, false, false, true, false, false] rfl rfl (one_of HT_.out (by kernel_rfl)) (by decide) (fun K hK => ?_)
                   refine Kd.R_lit_step (Kd.int .u8) _ 5 ?hg (N := 52) ?hd (xs := ([] : List Int)) (inner := []) (ok := fun _ => True) (okp := fun _ => True) ?hr ?hp (fun _ hk => hk) trivial (Below.refl _ _) (Nat.le_refl _) (by simp) ?_; (case hd => rfl); (case hg => rfl); (case hr => first | (go_simp; done) | (go_simp; rfl)); (case hp => exact (Reps.none _ _))
                   intro v269 w54 ho55 hb hg_ hnew_
                   clear hg_ hnew_
                   (first | rw [← Ny268.out] at ho55 | (simp only [Int.reduceToNat] at ho55; rw [← Ny268.out] at ho55))
                   have n0_ := Aside0.mk (Kd.R_elder' (pR HO248) (Kd.R_base ho55) hb)
                   have n1_ := Aside0.mk (Kd.R_elder' (pR HO252) (Kd.R_base ho55) hb)
                   have n2_ := Aside0.mk (Kd.R_elder' (pR HO255) (Kd.R_base ho55) hb)
                   have n3_ := Aside0.mk (Kd.R_elder' (pR HO259) (Kd.R_base ho55) hb)
                   have n4_ := Aside0.mk (Kd.R_elder' (pR HO263) (Kd.R_base ho55) hb)
                   have n5_ := Aside0.mk (Kd.R_elder' (pR HO266) (Kd.R_base ho55) hb)
                   have n6_ := Aside0.mk (Kd.R_lower (Kd.R_new' (Kd.R_new' (Kd.R_new' (Kd.R_new' (Kd.R_new' (Kd.R_new' ho55 (Kd.R_lt (pR HO248))) (Kd.R_lt (pR HO252))) (Kd.R_lt (pR HO255))) (Kd.R_lt (pR HO259))) (Kd.R_lt (pR HO263))) (Kd.R_lt (pR HO266))) (below_size pS))
                   have n7_ := Aside0.mk (blk_below (g := gb243) (o := .cells #[.slice A0_0 l0_0.length c0_0, .int .i64 a0_1, .slice A0_2 l0_2.length c0_2] 24 (0, 0)) (pK BK243) hb)
                   have n8_ := Aside0.mk (blk_below (g := gb256) (o := .cells #[.slice Ao39 t246.length co39, .int .i64 t249, .slice Ao42 t250.length co42] 24 (0, 0)) (pK BK256) hb)
                   have n9_ := Aside0.mk (blk_below (g := gb267) (o := .cells #[.slice Ao45 t257.length co45, .int .i64 t260, .slice Ao49 t261.length co49] 24 (0, 0)) (pK BK267) hb)
                   have n10_ := Aside0.mk (blk_below (g := gb287) (o := .cells #[.slice none 0 0, .int .i64 0, .slice none 0 0] 24 (0, 0)) (pK BK287) hb)
                   have n11_ := Aside0.mk (below_step pS hb)
                   clear HO248 HO252 HO255 HO259 HO263 HO266 BK243 BK256 BK267 BK287 HB
                   have HO248 := n0_; have HO252 := n1_; have HO255 := n2_; have HO259 := n3_; have HO263 := n4_; have HO266 := n5_; have HO270 := n6_; have BK243 := n7_; have BK256 := n8_; have BK267 := n9_; have BK287 := n10_; have HB := n11_
                   clear n0_ n1_ n2_ n3_ n4_ n5_ n6_ n7_ n8_ n9_ n10_ n11_ hb ho55
                   refine hK.out _ _ ⟨(blk_cell BK243.out 0).trans rfl, (blk_cell BK243.out 1).trans rfl, (blk_cell BK243.out 2).trans rfl⟩ (fun hHeld => ?_)
                   clear hK K
                   refine norm_ (a' := ?_) ?_ ?_
                   rotate_left
                   ·show Act.put _ (some 52) _ = _
                    simp only [Act.put, List.setIfInBounds_toArray, List.set_cons_zero, List.set_cons_succ, i64_w, i32_w]
                    rfl
                   exact norm_ pN (hJ1_10 (v269, gb287) _ ⟨hHeld, (pQ HO248), (pQ HO252), (pQ HO255), (pQ HO259), (pQ HO263), (pQ HO266), (pQ HO270), (pK BK243), (pK BK256), (pK BK267), (pK BK287), GW287.out, GE287.out, NB243_287.out, NB287_243.out, NB256_287.out, NB287_256.out, NB267_287.out, NB287_267.out, pS⟩)
                 ·skip
                  rintro v269 w54 ⟨hS_, h0_, h1_, h2_, h3_, h4_, h5_, h6_, h7_, h8_, h9_, h10_⟩
                  try dsimp only at h0_ h1_ h2_ h3_ h4_ h5_ h6_ h7_ h8_ h9_ h10_
                  have n0_ := Aside0.mk h0_; have n1_ := Aside0.mk h1_; have n2_ := Aside0.mk h2_; have n3_ := Aside0.mk h3_; have n4_ := Aside0.mk h4_; have n5_ := Aside0.mk h5_; have n6_ := Aside0.mk h6_; have n7_ := Aside0.mk h7_; have n8_ := Aside0.mk h8_; have n9_ := Aside0.mk h9_; have n10_ := Aside0.mk h10_
                  clear HO248 HO252 HO255 HO259 HO263 HO266 BK243 BK256 BK267 HB h0_ h1_ h2_ h3_ h4_ h5_ h6_ h7_ h8_ h9_ h10_
                  have HO248 := n0_; have HO252 := n1_; have HO255 := n2_; have HO259 := n3_; have HO263 := n4_; have HO266 := n5_; have HO270 := n6_; have BK243 := n7_; have BK256 := n8_; have BK267 := n9_; have HB := n10_
                  clear n0_ n1_ n2_ n3_ n4_ n5_ n6_ n7_ n8_ n9_ n10_
                  have hHeld : w54.cell? ⟨gb243, 0, none⟩ = some (.slice A0_0 l0_0.length c0_0) ∧ w54.cell? ⟨gb243, 1, none⟩ = some (.int .i64 a0_1) ∧ w54.cell? ⟨gb243, 2, none⟩ = some (.slice A0_2 l0_2.length c0_2) := hS_
                  refine norm_ (a' := ?_) ?_ ?_
                  rotate_left
                  ·simp only [putAll, Act.put, List.setIfInBounds_toArray, List.set_cons_zero, List.set_cons_succ]
                   rfl
                  refine two_ (i := 3) (j := 10) (Ni := some 54) (Nj := some 11) #[true, true, true, true, true, false, false, false, false, false, false, false, false] #[true, true, true, false, true, false, false, false, false, false, true, false, false] rfl rfl rfl rfl (two_of HT_.out (by kernel_rfl)) (by decide) (by decide) (fun K hK => ?_) (fun K hK => ?_)
                  ·skip
                   refine Kd.R_append_rows_step (Kd.int .u8) (w0 := w) w.heap.size (by rfl) (.tmp 52) (.tmp 53) 22 5 (.int .u8 0) 1 rfl Try.underlying22 info5 rfl (by decide) (by omega) v269 y268 l1 _ _ _ (fun k_ => some k_ ≠ (.slice Ao39 t246.length co39 : Value).ownBlock ∧ some k_ ≠ (.slice Ao42 t250.length co42 : Value).ownBlock ∧ some k_ ≠ (v254 : Value).ownBlock ∧ some k_ ≠ (.slice Ao45 t257.length co45 : Value).ownBlock ∧ some k_ ≠ (.slice Ao49 t261.length co49 : Value).ownBlock ∧ some k_ ≠ (v265 : Value).ownBlock) (fun _ => False) rfl rfl ?aO ?aR (fun _ _ h => h) (fun _ h => h.elim) ?aF ?aB ?aS ?aL ?_
                   (case aR => repeat (first | exact (Kd.C_below HR1.out HB.out) | (with_reducible refine Kd.C_alloc ?_ _) | (with_reducible refine Kd.C_drewN ?_ _) | (with_reducible refine Kd.C_drew ?_)))
                   (case aB => exact pS)
                   (case aF => exact (fun k_ hk => ⟨Kd.fresh' (Kd.R_lt (pR HO248)) k_ hk, Kd.fresh' (Kd.R_lt (pR HO252)) k_ hk, Kd.fresh' (Kd.R_lt (pR HO255)) k_ hk, Kd.fresh' (Kd.R_lt (pR HO259)) k_ hk, Kd.fresh' (Kd.R_lt (pR HO263)) k_ hk, Kd.fresh' (Kd.R_lt (pR HO266)) k_ hk⟩))
                   (case aO => exact (pR HO270))
                   (case aS => exact (below_size pS))
                   (case aL => have := LMc25.out; omega)
                   intro v272 w55 ho hb hg hat
                   rw [← Ny271.out] at ho
                   have n0_ := Aside0.mk (blk_grown (g := gb243) (o := .cells #[.slice A0_0 l0_0.length c0_0, .int .i64 a0_1, .slice A0_2 l0_2.length c0_2] 24 (0, 0)) (pK BK243) hg (Kd.R_ne HO270.out BK243.out (by decide)))
                   have n1_ := Aside0.mk (Kd.R_after (ok := (fun k_ => some k_ ≠ (.slice Ao42 t250.length co42 : Value).ownBlock ∧ some k_ ≠ (v254 : Value).ownBlock ∧ some k_ ≠ (.slice Ao45 t257.length co45 : Value).ownBlock ∧ some k_ ≠ (.slice Ao49 t261.length co49 : Value).ownBlock ∧ some k_ ≠ (v265 : Value).ownBlock)) (pQ HO248) hg hat)
                   have n2_ := Aside0.mk (Kd.R_after (ok := (fun k_ => some k_ ≠ (.slice Ao39 t246.length co39 : Value).ownBlock ∧ some k_ ≠ (v254 : Value).ownBlock ∧ some k_ ≠ (.slice Ao45 t257.length co45 : Value).ownBlock ∧ some k_ ≠ (.slice Ao49 t261.length co49 : Value).ownBlock ∧ some k_ ≠ (v265 : Value).ownBlock)) (pQ HO252) hg hat)
                   have n3_ := Aside0.mk (Kd.R_after (ok := (fun k_ => some k_ ≠ (.slice Ao39 t246.length co39 : Value).ownBlock ∧ some k_ ≠ (.slice Ao42 t250.length co42 : Value).ownBlock ∧ some k_ ≠ (.slice Ao45 t257.length co45 : Value).ownBlock ∧ some k_ ≠ (.slice Ao49 t261.length co49 : Value).ownBlock ∧ some k_ ≠ (v265 : Value).ownBlock)) (pQ HO255) hg hat)
                   have n4_ := Aside0.mk (blk_grown (g := gb256) (o := .cells #[.slice Ao39 t246.length co39, .int .i64 t249, .slice Ao42 t250.length co42] 24 (0, 0)) (pK BK256) hg (Kd.R_ne HO270.out BK256.out (by decide)))
                   have n5_ := Aside0.mk (Kd.R_after (ok := (fun k_ => some k_ ≠ (.slice Ao39 t246.length co39 : Value).ownBlock ∧ some k_ ≠ (.slice Ao42 t250.length co42 : Value).ownBlock ∧ some k_ ≠ (v254 : Value).ownBlock ∧ some k_ ≠ (.slice Ao49 t261.length co49 : Value).ownBlock ∧ some k_ ≠ (v265 : Value).ownBlock)) (pQ HO259) hg hat)
                   have n6_ := Aside0.mk (Kd.R_after (ok := (fun k_ => some k_ ≠ (.slice Ao39 t246.length co39 : Value).ownBlock ∧ some k_ ≠ (.slice Ao42 t250.length co42 : Value).ownBlock ∧ some k_ ≠ (v254 : Value).ownBlock ∧ some k_ ≠ (.slice Ao45 t257.length co45 : Value).ownBlock ∧ some k_ ≠ (v265 : Value).ownBlock)) (pQ HO263) hg hat)
                   have n7_ := Aside0.mk (Kd.R_after (ok := (fun k_ => some k_ ≠ (.slice Ao39 t246.length co39 : Value).ownBlock ∧ some k_ ≠ (.slice Ao42 t250.length co42 : Value).ownBlock ∧ some k_ ≠ (v254 : Value).ownBlock ∧ some k_ ≠ (.slice Ao45 t257.length co45 : Value).ownBlock ∧ some k_ ≠ (.slice Ao49 t261.length co49 : Value).ownBlock)) (pQ HO266) hg hat)
                   have n8_ := Aside0.mk (blk_grown (g := gb267) (o := .cells #[.slice Ao45 t257.length co45, .int .i64 t260, .slice Ao49 t261.length co49] 24 (0, 0)) (pK BK267) hg (Kd.R_ne HO270.out BK267.out (by decide)))
                   have n9_ := Aside0.mk (hb)
                   have n10_ := Aside0.mk (ho)
                   clear BK243 HO248 HO252 HO255 BK256 HO259 HO263 HO266 BK267 HB HO270
                   have BK243 := n0_; have HO248 := n1_; have HO252 := n2_; have HO255 := n3_; have BK256 := n4_; have HO259 := n5_; have HO263 := n6_; have HO266 := n7_; have BK267 := n8_; have HB := n9_; have HO273 := n10_
                   clear n0_ n1_ n2_ n3_ n4_ n5_ n6_ n7_ n8_ n9_ n10_ ho hb hg hat
                   refine hK.out _ _ ⟨(blk_cell BK243.out 0).trans rfl, (blk_cell BK243.out 1).trans rfl, (blk_cell BK243.out 2).trans rfl⟩ (fun hHeld => ?_)
                   clear hK K
                   refine norm_ (a' := ?_) ?_ ?_
                   rotate_left
                   ·show Act.put _ (some 54) _ = _
                    simp only [Act.put, List.setIfInBounds_toArray, List.set_cons_zero, List.set_cons_succ, i64_w, i32_w]
                    rfl
                   exact norm_ pN (hJ1_3 (v269, v272) _ ⟨hHeld, (pQ HO248), (pQ HO252), (pQ HO255), (pQ HO259), (pQ HO263), (pQ HO266), (pR HO273), (pK BK243), (pK BK256), (pK BK267), pS⟩)
                  ·skip
                   refine box_step ?hg (N := 11) ?hd (cs := #[.slice none 0 0, .int .i64 0, .slice none 0 0]) (t := 24) ?hr ?_; (case hd => rfl); (case hg => rfl); (case hr => first | (go_simp; done) | (go_simp; rfl))
                   intro gb287 hg w55 hbox hb
                   have n0_ := Aside0.mk (Kd.R_below (pR HO248) hb)
                   have n1_ := Aside0.mk (Kd.R_below (pR HO252) hb)
                   have n2_ := Aside0.mk (Kd.R_below (pR HO255) hb)
                   have n3_ := Aside0.mk (Kd.R_below (pR HO259) hb)
                   have n4_ := Aside0.mk (Kd.R_below (pR HO263) hb)
                   have n5_ := Aside0.mk (Kd.R_below (pR HO266) hb)
                   have n6_ := Aside0.mk (Kd.R_below (pR HO270) hb)
                   have n7_ := Aside0.mk (blk_below (g := gb243) (o := .cells #[.slice A0_0 l0_0.length c0_0, .int .i64 a0_1, .slice A0_2 l0_2.length c0_2] 24 (0, 0)) (pK BK243) hb)
                   have n8_ := Aside0.mk (blk_below (g := gb256) (o := .cells #[.slice Ao39 t246.length co39, .int .i64 t249, .slice Ao42 t250.length co42] 24 (0, 0)) (pK BK256) hb)
                   have n9_ := Aside0.mk (blk_below (g := gb267) (o := .cells #[.slice Ao45 t257.length co45, .int .i64 t260, .slice Ao49 t261.length co49] 24 (0, 0)) (pK BK267) hb)
                   have n10_ := Aside0.mk (below_step pS hb)
                   have n11_ := Aside0.mk (hbox)
                   have n12_ := Aside0.mk ((by rw [hg]; exact (below_size pS) : w.heap.size ≤ gb287))
                   have n13_ := Aside0.mk ((by rw [hg]; exact (below_size pS) : w.heap.size ≤ gb287))
                   have n14_ := Aside0.mk ((by rw [hg]; exact Nat.ne_of_lt (blk_lt (g := gb243) (o := .cells #[.slice A0_0 l0_0.length c0_0, .int .i64 a0_1, .slice A0_2 l0_2.length c0_2] 24 (0, 0)) (pK BK243)) : gb243 ≠ gb287))
                   have n15_ := Aside0.mk ((by rw [hg]; exact Nat.ne_of_gt (blk_lt (g := gb243) (o := .cells #[.slice A0_0 l0_0.length c0_0, .int .i64 a0_1, .slice A0_2 l0_2.length c0_2] 24 (0, 0)) (pK BK243)) : gb287 ≠ gb243))
                   have n16_ := Aside0.mk ((by rw [hg]; exact Nat.ne_of_lt (blk_lt (g := gb256) (o := .cells #[.slice Ao39 t246.length co39, .int .i64 t249, .slice Ao42 t250.length co42] 24 (0, 0)) (pK BK256)) : gb256 ≠ gb287))
                   have n17_ := Aside0.mk ((by rw [hg]; exact Nat.ne_of_gt (blk_lt (g := gb256) (o := .cells #[.slice Ao39 t246.length co39, .int .i64 t249, .slice Ao42 t250.length co42] 24 (0, 0)) (pK BK256)) : gb287 ≠ gb256))
                   have n18_ := Aside0.mk ((by rw [hg]; exact Nat.ne_of_lt (blk_lt (g := gb267) (o := .cells #[.slice Ao45 t257.length co45, .int .i64 t260, .slice Ao49 t261.length co49] 24 (0, 0)) (pK BK267)) : gb267 ≠ gb287))
                   have n19_ := Aside0.mk ((by rw [hg]; exact Nat.ne_of_gt (blk_lt (g := gb267) (o := .cells #[.slice Ao45 t257.length co45, .int .i64 t260, .slice Ao49 t261.length co49] 24 (0, 0)) (pK BK267)) : gb287 ≠ gb267))
                   clear HO248 HO252 HO255 HO259 HO263 HO266 HO270 BK243 BK256 BK267 HB
                   have HO248 := n0_; have HO252 := n1_; have HO255 := n2_; have HO259 := n3_; have HO263 := n4_; have HO266 := n5_; have HO270 := n6_; have BK243 := n7_; have BK256 := n8_; have BK267 := n9_; have HB := n10_; have BK287 := n11_; have GW287 := n12_; have GE287 := n13_; have NB243_287 := n14_; have NB287_243 := n15_; have NB256_287 := n16_; have NB287_256 := n17_; have NB267_287 := n18_; have NB287_267 := n19_
                   clear n0_ n1_ n2_ n3_ n4_ n5_ n6_ n7_ n8_ n9_ n10_ n11_ n12_ n13_ n14_ n15_ n16_ n17_ n18_ n19_ hb hbox hg
                   refine hK.out _ _ ⟨(blk_cell BK243.out 0).trans rfl, (blk_cell BK243.out 1).trans rfl, (blk_cell BK243.out 2).trans rfl⟩ (fun hHeld => ?_)
                   clear hK K
                   refine norm_ (a' := ?_) ?_ ?_
                   rotate_left
                   ·show Act.put _ (some 11) _ = _
                    simp only [Act.put, List.setIfInBounds_toArray, List.set_cons_zero, List.set_cons_succ, i64_w, i32_w]
                    rfl
                   exact norm_ pN (hJ1_10 (v269, gb287) _ ⟨hHeld, (pR HO248), (pR HO252), (pR HO255), (pR HO259), (pR HO263), (pR HO266), (pR HO270), (pK BK243), (pK BK256), (pK BK267), (pK BK287), GW287.out, GE287.out, NB243_287.out, NB287_243.out, NB256_287.out, NB287_256.out, NB267_287.out, NB287_267.out, pS⟩)
                ·skip
                 rintro ⟨v269, gb287⟩ w55 ⟨hS_, h0_, h1_, h2_, h3_, h4_, h5_, h6_, h7_, h8_, h9_, h10_, h11_, h12_, h13_, h14_, h15_, h16_, h17_, h18_, h19_⟩
                 try dsimp only at h0_ h1_ h2_ h3_ h4_ h5_ h6_ h7_ h8_ h9_ h10_ h11_ h12_ h13_ h14_ h15_ h16_ h17_ h18_ h19_
                 have n0_ := Aside0.mk h0_; have n1_ := Aside0.mk h1_; have n2_ := Aside0.mk h2_; have n3_ := Aside0.mk h3_; have n4_ := Aside0.mk h4_; have n5_ := Aside0.mk h5_; have n6_ := Aside0.mk h6_; have n7_ := Aside0.mk h7_; have n8_ := Aside0.mk h8_; have n9_ := Aside0.mk h9_; have n10_ := Aside0.mk h10_; have n11_ := Aside0.mk h11_; have n12_ := Aside0.mk h12_; have n13_ := Aside0.mk h13_; have n14_ := Aside0.mk h14_; have n15_ := Aside0.mk h15_; have n16_ := Aside0.mk h16_; have n17_ := Aside0.mk h17_; have n18_ := Aside0.mk h18_; have n19_ := Aside0.mk h19_
                 clear HO248 HO252 HO255 HO259 HO263 HO266 BK243 BK256 BK267 HB h0_ h1_ h2_ h3_ h4_ h5_ h6_ h7_ h8_ h9_ h10_ h11_ h12_ h13_ h14_ h15_ h16_ h17_ h18_ h19_
                 have HO248 := n0_; have HO252 := n1_; have HO255 := n2_; have HO259 := n3_; have HO263 := n4_; have HO266 := n5_; have HO270 := n6_; have BK243 := n7_; have BK256 := n8_; have BK267 := n9_; have BK287 := n10_; have GW287 := n11_; have GE287 := n12_; have NB243_287 := n13_; have NB287_243 := n14_; have NB256_287 := n15_; have NB287_256 := n16_; have NB267_287 := n17_; have NB287_267 := n18_; have HB := n19_
                 clear n0_ n1_ n2_ n3_ n4_ n5_ n6_ n7_ n8_ n9_ n10_ n11_ n12_ n13_ n14_ n15_ n16_ n17_ n18_ n19_
                 have hHeld : w55.cell? ⟨gb243, 0, none⟩ = some (.slice A0_0 l0_0.length c0_0) ∧ w55.cell? ⟨gb243, 1, none⟩ = some (.int .i64 a0_1) ∧ w55.cell? ⟨gb243, 2, none⟩ = some (.slice A0_2 l0_2.length c0_2) := hS_
                 refine norm_ (a' := ?_) ?_ ?_
                 rotate_left
                 ·simp only [putAll, Act.put, List.setIfInBounds_toArray, List.set_cons_zero, List.set_cons_succ]
                  rfl
                 refine one_ (i := 3) (N := some 54) #[true, true, true, true, true, false, false, false, false, false, true, false, false] rfl rfl (one_of HT_.out (by kernel_rfl)) (by decide) (fun K hK => ?_)
                 refine Kd.R_append_rows_step (Kd.int .u8) (w0 := w) w.heap.size (by rfl) (.tmp 52) (.tmp 53) 22 5 (.int .u8 0) 1 rfl Try.underlying22 info5 rfl (by decide) (by omega) v269 y268 l1 _ _ _ (fun k_ => some k_ ≠ (.slice Ao39 t246.length co39 : Value).ownBlock ∧ some k_ ≠ (.slice Ao42 t250.length co42 : Value).ownBlock ∧ some k_ ≠ (v254 : Value).ownBlock ∧ some k_ ≠ (.slice Ao45 t257.length co45 : Value).ownBlock ∧ some k_ ≠ (.slice Ao49 t261.length co49 : Value).ownBlock ∧ some k_ ≠ (v265 : Value).ownBlock) (fun _ => False) rfl rfl ?aO ?aR (fun _ _ h => h) (fun _ h => h.elim) ?aF ?aB ?aS ?aL ?_
                 (case aR => repeat (first | exact (Kd.C_below HR1.out HB.out) | (with_reducible refine Kd.C_alloc ?_ _) | (with_reducible refine Kd.C_drewN ?_ _) | (with_reducible refine Kd.C_drew ?_)))
                 (case aB => exact pS)
                 (case aF => exact (fun k_ hk => ⟨Kd.fresh' (Kd.R_lt (pR HO248)) k_ hk, Kd.fresh' (Kd.R_lt (pR HO252)) k_ hk, Kd.fresh' (Kd.R_lt (pR HO255)) k_ hk, Kd.fresh' (Kd.R_lt (pR HO259)) k_ hk, Kd.fresh' (Kd.R_lt (pR HO263)) k_ hk, Kd.fresh' (Kd.R_lt (pR HO266)) k_ hk⟩))
                 (case aO => exact (pR HO270))
                 (case aS => exact (below_size pS))
                 (case aL => have := LMc25.out; omega)
                 intro v272 w56 ho hb hg hat
                 rw [← Ny271.out] at ho
                 have n0_ := Aside0.mk (blk_grown (g := gb243) (o := .cells #[.slice A0_0 l0_0.length c0_0, .int .i64 a0_1, .slice A0_2 l0_2.length c0_2] 24 (0, 0)) (pK BK243) hg (Kd.R_ne HO270.out BK243.out (by decide)))
                 have n1_ := Aside0.mk (Kd.R_after (ok := (fun k_ => some k_ ≠ (.slice Ao42 t250.length co42 : Value).ownBlock ∧ some k_ ≠ (v254 : Value).ownBlock ∧ some k_ ≠ (.slice Ao45 t257.length co45 : Value).ownBlock ∧ some k_ ≠ (.slice Ao49 t261.length co49 : Value).ownBlock ∧ some k_ ≠ (v265 : Value).ownBlock)) (pQ HO248) hg hat)
                 have n2_ := Aside0.mk (Kd.R_after (ok := (fun k_ => some k_ ≠ (.slice Ao39 t246.length co39 : Value).ownBlock ∧ some k_ ≠ (v254 : Value).ownBlock ∧ some k_ ≠ (.slice Ao45 t257.length co45 : Value).ownBlock ∧ some k_ ≠ (.slice Ao49 t261.length co49 : Value).ownBlock ∧ some k_ ≠ (v265 : Value).ownBlock)) (pQ HO252) hg hat)
                 have n3_ := Aside0.mk (Kd.R_after (ok := (fun k_ => some k_ ≠ (.slice Ao39 t246.length co39 : Value).ownBlock ∧ some k_ ≠ (.slice Ao42 t250.length co42 : Value).ownBlock ∧ some k_ ≠ (.slice Ao45 t257.length co45 : Value).ownBlock ∧ some k_ ≠ (.slice Ao49 t261.length co49 : Value).ownBlock ∧ some k_ ≠ (v265 : Value).ownBlock)) (pQ HO255) hg hat)
                 have n4_ := Aside0.mk (blk_grown (g := gb256) (o := .cells #[.slice Ao39 t246.length co39, .int .i64 t249, .slice Ao42 t250.length co42] 24 (0, 0)) (pK BK256) hg (Kd.R_ne HO270.out BK256.out (by decide)))
                 have n5_ := Aside0.mk (Kd.R_after (ok := (fun k_ => some k_ ≠ (.slice Ao39 t246.length co39 : Value).ownBlock ∧ some k_ ≠ (.slice Ao42 t250.length co42 : Value).ownBlock ∧ some k_ ≠ (v254 : Value).ownBlock ∧ some k_ ≠ (.slice Ao49 t261.length co49 : Value).ownBlock ∧ some k_ ≠ (v265 : Value).ownBlock)) (pQ HO259) hg hat)
                 have n6_ := Aside0.mk (Kd.R_after (ok := (fun k_ => some k_ ≠ (.slice Ao39 t246.length co39 : Value).ownBlock ∧ some k_ ≠ (.slice Ao42 t250.length co42 : Value).ownBlock ∧ some k_ ≠ (v254 : Value).ownBlock ∧ some k_ ≠ (.slice Ao45 t257.length co45 : Value).ownBlock ∧ some k_ ≠ (v265 : Value).ownBlock)) (pQ HO263) hg hat)
                 have n7_ := Aside0.mk (Kd.R_after (ok := (fun k_ => some k_ ≠ (.slice Ao39 t246.length co39 : Value).ownBlock ∧ some k_ ≠ (.slice Ao42 t250.length co42 : Value).ownBlock ∧ some k_ ≠ (v254 : Value).ownBlock ∧ some k_ ≠ (.slice Ao45 t257.length co45 : Value).ownBlock ∧ some k_ ≠ (.slice Ao49 t261.length co49 : Value).ownBlock)) (pQ HO266) hg hat)
                 have n8_ := Aside0.mk (blk_grown (g := gb267) (o := .cells #[.slice Ao45 t257.length co45, .int .i64 t260, .slice Ao49 t261.length co49] 24 (0, 0)) (pK BK267) hg (Kd.R_ne HO270.out BK267.out (by decide)))
                 have n9_ := Aside0.mk (blk_grown (g := gb287) (o := .cells #[.slice none 0 0, .int .i64 0, .slice none 0 0] 24 (0, 0)) (pK BK287) hg (Kd.R_ne HO270.out BK287.out (by decide)))
                 have n10_ := Aside0.mk (hb)
                 have n11_ := Aside0.mk (ho)
                 clear BK243 HO248 HO252 HO255 BK256 HO259 HO263 HO266 BK267 BK287 HB HO270
                 have BK243 := n0_; have HO248 := n1_; have HO252 := n2_; have HO255 := n3_; have BK256 := n4_; have HO259 := n5_; have HO263 := n6_; have HO266 := n7_; have BK267 := n8_; have BK287 := n9_; have HB := n10_; have HO273 := n11_
                 clear n0_ n1_ n2_ n3_ n4_ n5_ n6_ n7_ n8_ n9_ n10_ n11_ ho hb hg hat
                 refine hK.out _ _ ⟨(blk_cell BK243.out 0).trans rfl, (blk_cell BK243.out 1).trans rfl, (blk_cell BK243.out 2).trans rfl⟩ (fun hHeld => ?_)
                 clear hK K
                 refine norm_ (a' := ?_) ?_ ?_
                 rotate_left
                 ·show Act.put _ (some 54) _ = _
                  simp only [Act.put, List.setIfInBounds_toArray, List.set_cons_zero, List.set_cons_succ, i64_w, i32_w]
                  rfl
                 exact norm_ pN (hJ1_3_10 (v269, v272, gb287) _ ⟨hHeld, (pQ HO248), (pQ HO252), (pQ HO255), (pQ HO259), (pQ HO263), (pQ HO266), (pR HO273), (pK BK243), (pK BK256), (pK BK267), (pK BK287), GW287.out, GE287.out, NB243_287.out, NB287_243.out, NB256_287.out, NB287_256.out, NB267_287.out, NB287_267.out, pS⟩)
               ·skip
                rintro ⟨v269, v272⟩ w55 ⟨hS_, h0_, h1_, h2_, h3_, h4_, h5_, h6_, h7_, h8_, h9_, h10_⟩
                try dsimp only at h0_ h1_ h2_ h3_ h4_ h5_ h6_ h7_ h8_ h9_ h10_
                have n0_ := Aside0.mk h0_; have n1_ := Aside0.mk h1_; have n2_ := Aside0.mk h2_; have n3_ := Aside0.mk h3_; have n4_ := Aside0.mk h4_; have n5_ := Aside0.mk h5_; have n6_ := Aside0.mk h6_; have n7_ := Aside0.mk h7_; have n8_ := Aside0.mk h8_; have n9_ := Aside0.mk h9_; have n10_ := Aside0.mk h10_
                clear HO248 HO252 HO255 HO259 HO263 HO266 BK243 BK256 BK267 HB h0_ h1_ h2_ h3_ h4_ h5_ h6_ h7_ h8_ h9_ h10_
                have HO248 := n0_; have HO252 := n1_; have HO255 := n2_; have HO259 := n3_; have HO263 := n4_; have HO266 := n5_; have HO273 := n6_; have BK243 := n7_; have BK256 := n8_; have BK267 := n9_; have HB := n10_
                clear n0_ n1_ n2_ n3_ n4_ n5_ n6_ n7_ n8_ n9_ n10_
                have hHeld : w55.cell? ⟨gb243, 0, none⟩ = some (.slice A0_0 l0_0.length c0_0) ∧ w55.cell? ⟨gb243, 1, none⟩ = some (.int .i64 a0_1) ∧ w55.cell? ⟨gb243, 2, none⟩ = some (.slice A0_2 l0_2.length c0_2) := hS_
                refine norm_ (a' := ?_) ?_ ?_
                rotate_left
                ·simp only [putAll, Act.put, List.setIfInBounds_toArray, List.set_cons_zero, List.set_cons_succ]
                 rfl
                refine two_ (i := 5) (j := 10) (Ni := some 56) (Nj := some 11) #[true, true, true, true, true, true, false, false, false, false, false, false, false] #[true, true, true, true, true, false, false, false, false, false, true, false, false] rfl rfl rfl rfl (two_of HT_.out (by kernel_rfl)) (by decide) (by decide) (fun K hK => ?_) (fun K hK => ?_)
                ·skip
                 refine Kd.R_append_rows_step (Kd.int .u8) (w0 := w) w.heap.size (by rfl) (.tmp 54) (.tmp 55) 22 5 (.int .u8 0) 1 rfl Try.underlying22 info5 rfl (by decide) (by omega) v272 y271 l2 _ _ _ (fun k_ => some k_ ≠ (.slice Ao39 t246.length co39 : Value).ownBlock ∧ some k_ ≠ (.slice Ao42 t250.length co42 : Value).ownBlock ∧ some k_ ≠ (v254 : Value).ownBlock ∧ some k_ ≠ (.slice Ao45 t257.length co45 : Value).ownBlock ∧ some k_ ≠ (.slice Ao49 t261.length co49 : Value).ownBlock ∧ some k_ ≠ (v265 : Value).ownBlock) (fun _ => False) rfl rfl ?aO ?aR (fun _ _ h => h) (fun _ h => h.elim) ?aF ?aB ?aS ?aL ?_
                 (case aR => repeat (first | exact (Kd.C_below HR2.out HB.out) | (with_reducible refine Kd.C_alloc ?_ _) | (with_reducible refine Kd.C_drewN ?_ _) | (with_reducible refine Kd.C_drew ?_)))
                 (case aB => exact pS)
                 (case aF => exact (fun k_ hk => ⟨Kd.fresh' (Kd.R_lt (pR HO248)) k_ hk, Kd.fresh' (Kd.R_lt (pR HO252)) k_ hk, Kd.fresh' (Kd.R_lt (pR HO255)) k_ hk, Kd.fresh' (Kd.R_lt (pR HO259)) k_ hk, Kd.fresh' (Kd.R_lt (pR HO263)) k_ hk, Kd.fresh' (Kd.R_lt (pR HO266)) k_ hk⟩))
                 (case aO => exact (pR HO273))
                 (case aS => exact (below_size pS))
                 (case aL => have := LMc26.out; omega)
                 intro v275 w56 ho hb hg hat
                 rw [← Ny274.out] at ho
                 have n0_ := Aside0.mk (blk_grown (g := gb243) (o := .cells #[.slice A0_0 l0_0.length c0_0, .int .i64 a0_1, .slice A0_2 l0_2.length c0_2] 24 (0, 0)) (pK BK243) hg (Kd.R_ne HO273.out BK243.out (by decide)))
                 have n1_ := Aside0.mk (Kd.R_after (ok := (fun k_ => some k_ ≠ (.slice Ao42 t250.length co42 : Value).ownBlock ∧ some k_ ≠ (v254 : Value).ownBlock ∧ some k_ ≠ (.slice Ao45 t257.length co45 : Value).ownBlock ∧ some k_ ≠ (.slice Ao49 t261.length co49 : Value).ownBlock ∧ some k_ ≠ (v265 : Value).ownBlock)) (pQ HO248) hg hat)
                 have n2_ := Aside0.mk (Kd.R_after (ok := (fun k_ => some k_ ≠ (.slice Ao39 t246.length co39 : Value).ownBlock ∧ some k_ ≠ (v254 : Value).ownBlock ∧ some k_ ≠ (.slice Ao45 t257.length co45 : Value).ownBlock ∧ some k_ ≠ (.slice Ao49 t261.length co49 : Value).ownBlock ∧ some k_ ≠ (v265 : Value).ownBlock)) (pQ HO252) hg hat)
                 have n3_ := Aside0.mk (Kd.R_after (ok := (fun k_ => some k_ ≠ (.slice Ao39 t246.length co39 : Value).ownBlock ∧ some k_ ≠ (.slice Ao42 t250.length co42 : Value).ownBlock ∧ some k_ ≠ (.slice Ao45 t257.length co45 : Value).ownBlock ∧ some k_ ≠ (.slice Ao49 t261.length co49 : Value).ownBlock ∧ some k_ ≠ (v265 : Value).ownBlock)) (pQ HO255) hg hat)
                 have n4_ := Aside0.mk (blk_grown (g := gb256) (o := .cells #[.slice Ao39 t246.length co39, .int .i64 t249, .slice Ao42 t250.length co42] 24 (0, 0)) (pK BK256) hg (Kd.R_ne HO273.out BK256.out (by decide)))
                 have n5_ := Aside0.mk (Kd.R_after (ok := (fun k_ => some k_ ≠ (.slice Ao39 t246.length co39 : Value).ownBlock ∧ some k_ ≠ (.slice Ao42 t250.length co42 : Value).ownBlock ∧ some k_ ≠ (v254 : Value).ownBlock ∧ some k_ ≠ (.slice Ao49 t261.length co49 : Value).ownBlock ∧ some k_ ≠ (v265 : Value).ownBlock)) (pQ HO259) hg hat)
                 have n6_ := Aside0.mk (Kd.R_after (ok := (fun k_ => some k_ ≠ (.slice Ao39 t246.length co39 : Value).ownBlock ∧ some k_ ≠ (.slice Ao42 t250.length co42 : Value).ownBlock ∧ some k_ ≠ (v254 : Value).ownBlock ∧ some k_ ≠ (.slice Ao45 t257.length co45 : Value).ownBlock ∧ some k_ ≠ (v265 : Value).ownBlock)) (pQ HO263) hg hat)
                 have n7_ := Aside0.mk (Kd.R_after (ok := (fun k_ => some k_ ≠ (.slice Ao39 t246.length co39 : Value).ownBlock ∧ some k_ ≠ (.slice Ao42 t250.length co42 : Value).ownBlock ∧ some k_ ≠ (v254 : Value).ownBlock ∧ some k_ ≠ (.slice Ao45 t257.length co45 : Value).ownBlock ∧ some k_ ≠ (.slice Ao49 t261.length co49 : Value).ownBlock)) (pQ HO266) hg hat)
                 have n8_ := Aside0.mk (blk_grown (g := gb267) (o := .cells #[.slice Ao45 t257.length co45, .int .i64 t260, .slice Ao49 t261.length co49] 24 (0, 0)) (pK BK267) hg (Kd.R_ne HO273.out BK267.out (by decide)))
                 have n9_ := Aside0.mk (hb)
                 have n10_ := Aside0.mk (ho)
                 clear BK243 HO248 HO252 HO255 BK256 HO259 HO263 HO266 BK267 HB HO273
                 have BK243 := n0_; have HO248 := n1_; have HO252 := n2_; have HO255 := n3_; have BK256 := n4_; have HO259 := n5_; have HO263 := n6_; have HO266 := n7_; have BK267 := n8_; have HB := n9_; have HO276 := n10_
                 clear n0_ n1_ n2_ n3_ n4_ n5_ n6_ n7_ n8_ n9_ n10_ ho hb hg hat
                 refine hK.out _ _ ⟨(blk_cell BK243.out 0).trans rfl, (blk_cell BK243.out 1).trans rfl, (blk_cell BK243.out 2).trans rfl⟩ (fun hHeld => ?_)
                 clear hK K
                 refine norm_ (a' := ?_) ?_ ?_
                 rotate_left
                 ·show Act.put _ (some 56) _ = _
                  simp only [Act.put, List.setIfInBounds_toArray, List.set_cons_zero, List.set_cons_succ, i64_w, i32_w]
                  rfl
                 exact norm_ pN (hJ1_3_5 (v269, v272, v275) _ ⟨hHeld, (pQ HO248), (pQ HO252), (pQ HO255), (pQ HO259), (pQ HO263), (pQ HO266), (pR HO276), (pK BK243), (pK BK256), (pK BK267), pS⟩)
                ·skip
                 refine box_step ?hg (N := 11) ?hd (cs := #[.slice none 0 0, .int .i64 0, .slice none 0 0]) (t := 24) ?hr ?_; (case hd => rfl); (case hg => rfl); (case hr => first | (go_simp; done) | (go_simp; rfl))
                 intro gb287 hg w56 hbox hb
                 have n0_ := Aside0.mk (Kd.R_below (pR HO248) hb)
                 have n1_ := Aside0.mk (Kd.R_below (pR HO252) hb)
                 have n2_ := Aside0.mk (Kd.R_below (pR HO255) hb)
                 have n3_ := Aside0.mk (Kd.R_below (pR HO259) hb)
                 have n4_ := Aside0.mk (Kd.R_below (pR HO263) hb)
                 have n5_ := Aside0.mk (Kd.R_below (pR HO266) hb)
                 have n6_ := Aside0.mk (Kd.R_below (pR HO273) hb)
                 have n7_ := Aside0.mk (blk_below (g := gb243) (o := .cells #[.slice A0_0 l0_0.length c0_0, .int .i64 a0_1, .slice A0_2 l0_2.length c0_2] 24 (0, 0)) (pK BK243) hb)
                 have n8_ := Aside0.mk (blk_below (g := gb256) (o := .cells #[.slice Ao39 t246.length co39, .int .i64 t249, .slice Ao42 t250.length co42] 24 (0, 0)) (pK BK256) hb)
                 have n9_ := Aside0.mk (blk_below (g := gb267) (o := .cells #[.slice Ao45 t257.length co45, .int .i64 t260, .slice Ao49 t261.length co49] 24 (0, 0)) (pK BK267) hb)
                 have n10_ := Aside0.mk (below_step pS hb)
                 have n11_ := Aside0.mk (hbox)
                 have n12_ := Aside0.mk ((by rw [hg]; exact (below_size pS) : w.heap.size ≤ gb287))
                 have n13_ := Aside0.mk ((by rw [hg]; exact (below_size pS) : w.heap.size ≤ gb287))
                 have n14_ := Aside0.mk ((by rw [hg]; exact Nat.ne_of_lt (blk_lt (g := gb243) (o := .cells #[.slice A0_0 l0_0.length c0_0, .int .i64 a0_1, .slice A0_2 l0_2.length c0_2] 24 (0, 0)) (pK BK243)) : gb243 ≠ gb287))
                 have n15_ := Aside0.mk ((by rw [hg]; exact Nat.ne_of_gt (blk_lt (g := gb243) (o := .cells #[.slice A0_0 l0_0.length c0_0, .int .i64 a0_1, .slice A0_2 l0_2.length c0_2] 24 (0, 0)) (pK BK243)) : gb287 ≠ gb243))
                 have n16_ := Aside0.mk ((by rw [hg]; exact Nat.ne_of_lt (blk_lt (g := gb256) (o := .cells #[.slice Ao39 t246.length co39, .int .i64 t249, .slice Ao42 t250.length co42] 24 (0, 0)) (pK BK256)) : gb256 ≠ gb287))
                 have n17_ := Aside0.mk ((by rw [hg]; exact Nat.ne_of_gt (blk_lt (g := gb256) (o := .cells #[.slice Ao39 t246.length co39, .int .i64 t249, .slice Ao42 t250.length co42] 24 (0, 0)) (pK BK256)) : gb287 ≠ gb256))
                 have n18_ := Aside0.mk ((by rw [hg]; exact Nat.ne_of_lt (blk_lt (g := gb267) (o := .cells #[.slice Ao45 t257.length co45, .int .i64 t260, .slice Ao49 t261.length co49] 24 (0, 0)) (pK BK267)) : gb267 ≠ gb287))
                 have n19_ := Aside0.mk ((by rw [hg]; exact Nat.ne_of_gt (blk_lt (g := gb267) (o := .cells #[.slice Ao45 t257.length co45, .int .i64 t260, .slice Ao49 t261.length co49] 24 (0, 0)) (pK BK267)) : gb287 ≠ gb267))
                 clear HO248 HO252 HO255 HO259 HO263 HO266 HO273 BK243 BK256 BK267 HB
                 have HO248 := n0_; have HO252 := n1_; have HO255 := n2_; have HO259 := n3_; have HO263 := n4_; have HO266 := n5_; have HO273 := n6_; have BK243 := n7_; have BK256 := n8_; have BK267 := n9_; have HB := n10_; have BK287 := n11_; have GW287 := n12_; have GE287 := n13_; have NB243_287 := n14_; have NB287_243 := n15_; have NB256_287 := n16_; have NB287_256 := n17_; have NB267_287 := n18_; have NB287_267 := n19_
                 clear n0_ n1_ n2_ n3_ n4_ n5_ n6_ n7_ n8_ n9_ n10_ n11_ n12_ n13_ n14_ n15_ n16_ n17_ n18_ n19_ hb hbox hg
                 refine hK.out _ _ ⟨(blk_cell BK243.out 0).trans rfl, (blk_cell BK243.out 1).trans rfl, (blk_cell BK243.out 2).trans rfl⟩ (fun hHeld => ?_)
                 clear hK K
                 refine norm_ (a' := ?_) ?_ ?_
                 rotate_left
                 ·show Act.put _ (some 11) _ = _
                  simp only [Act.put, List.setIfInBounds_toArray, List.set_cons_zero, List.set_cons_succ, i64_w, i32_w]
                  rfl
                 exact norm_ pN (hJ1_3_10 (v269, v272, gb287) _ ⟨hHeld, (pR HO248), (pR HO252), (pR HO255), (pR HO259), (pR HO263), (pR HO266), (pR HO273), (pK BK243), (pK BK256), (pK BK267), (pK BK287), GW287.out, GE287.out, NB243_287.out, NB287_243.out, NB256_287.out, NB287_256.out, NB267_287.out, NB287_267.out, pS⟩)
              ·skip
               rintro ⟨v269, v272, gb287⟩ w56 ⟨hS_, h0_, h1_, h2_, h3_, h4_, h5_, h6_, h7_, h8_, h9_, h10_, h11_, h12_, h13_, h14_, h15_, h16_, h17_, h18_, h19_⟩
               try dsimp only at h0_ h1_ h2_ h3_ h4_ h5_ h6_ h7_ h8_ h9_ h10_ h11_ h12_ h13_ h14_ h15_ h16_ h17_ h18_ h19_
               have n0_ := Aside0.mk h0_; have n1_ := Aside0.mk h1_; have n2_ := Aside0.mk h2_; have n3_ := Aside0.mk h3_; have n4_ := Aside0.mk h4_; have n5_ := Aside0.mk h5_; have n6_ := Aside0.mk h6_; have n7_ := Aside0.mk h7_; have n8_ := Aside0.mk h8_; have n9_ := Aside0.mk h9_; have n10_ := Aside0.mk h10_; have n11_ := Aside0.mk h11_; have n12_ := Aside0.mk h12_; have n13_ := Aside0.mk h13_; have n14_ := Aside0.mk h14_; have n15_ := Aside0.mk h15_; have n16_ := Aside0.mk h16_; have n17_ := Aside0.mk h17_; have n18_ := Aside0.mk h18_; have n19_ := Aside0.mk h19_
               clear HO248 HO252 HO255 HO259 HO263 HO266 BK243 BK256 BK267 HB h0_ h1_ h2_ h3_ h4_ h5_ h6_ h7_ h8_ h9_ h10_ h11_ h12_ h13_ h14_ h15_ h16_ h17_ h18_ h19_
               have HO248 := n0_; have HO252 := n1_; have HO255 := n2_; have HO259 := n3_; have HO263 := n4_; have HO266 := n5_; have HO273 := n6_; have BK243 := n7_; have BK256 := n8_; have BK267 := n9_; have BK287 := n10_; have GW287 := n11_; have GE287 := n12_; have NB243_287 := n13_; have NB287_243 := n14_; have NB256_287 := n15_; have NB287_256 := n16_; have NB267_287 := n17_; have NB287_267 := n18_; have HB := n19_
               clear n0_ n1_ n2_ n3_ n4_ n5_ n6_ n7_ n8_ n9_ n10_ n11_ n12_ n13_ n14_ n15_ n16_ n17_ n18_ n19_
               have hHeld : w56.cell? ⟨gb243, 0, none⟩ = some (.slice A0_0 l0_0.length c0_0) ∧ w56.cell? ⟨gb243, 1, none⟩ = some (.int .i64 a0_1) ∧ w56.cell? ⟨gb243, 2, none⟩ = some (.slice A0_2 l0_2.length c0_2) := hS_
               refine norm_ (a' := ?_) ?_ ?_
               rotate_left
               ·simp only [putAll, Act.put, List.setIfInBounds_toArray, List.set_cons_zero, List.set_cons_succ]
                rfl
               refine one_ (i := 5) (N := some 56) #[true, true, true, true, true, true, false, false, false, false, true, false, false] rfl rfl (one_of HT_.out (by kernel_rfl)) (by decide) (fun K hK => ?_)
               refine Kd.R_append_rows_step (Kd.int .u8) (w0 := w) w.heap.size (by rfl) (.tmp 54) (.tmp 55) 22 5 (.int .u8 0) 1 rfl Try.underlying22 info5 rfl (by decide) (by omega) v272 y271 l2 _ _ _ (fun k_ => some k_ ≠ (.slice Ao39 t246.length co39 : Value).ownBlock ∧ some k_ ≠ (.slice Ao42 t250.length co42 : Value).ownBlock ∧ some k_ ≠ (v254 : Value).ownBlock ∧ some k_ ≠ (.slice Ao45 t257.length co45 : Value).ownBlock ∧ some k_ ≠ (.slice Ao49 t261.length co49 : Value).ownBlock ∧ some k_ ≠ (v265 : Value).ownBlock) (fun _ => False) rfl rfl ?aO ?aR (fun _ _ h => h) (fun _ h => h.elim) ?aF ?aB ?aS ?aL ?_
               (case aR => repeat (first | exact (Kd.C_below HR2.out HB.out) | (with_reducible refine Kd.C_alloc ?_ _) | (with_reducible refine Kd.C_drewN ?_ _) | (with_reducible refine Kd.C_drew ?_)))
               (case aB => exact pS)
               (case aF => exact (fun k_ hk => ⟨Kd.fresh' (Kd.R_lt (pR HO248)) k_ hk, Kd.fresh' (Kd.R_lt (pR HO252)) k_ hk, Kd.fresh' (Kd.R_lt (pR HO255)) k_ hk, Kd.fresh' (Kd.R_lt (pR HO259)) k_ hk, Kd.fresh' (Kd.R_lt (pR HO263)) k_ hk, Kd.fresh' (Kd.R_lt (pR HO266)) k_ hk⟩))
               (case aO => exact (pR HO273))
               (case aS => exact (below_size pS))
               (case aL => have := LMc26.out; omega)
               intro v275 w57 ho hb hg hat
               rw [← Ny274.out] at ho
               have n0_ := Aside0.mk (blk_grown (g := gb243) (o := .cells #[.slice A0_0 l0_0.length c0_0, .int .i64 a0_1, .slice A0_2 l0_2.length c0_2] 24 (0, 0)) (pK BK243) hg (Kd.R_ne HO273.out BK243.out (by decide)))
               have n1_ := Aside0.mk (Kd.R_after (ok := (fun k_ => some k_ ≠ (.slice Ao42 t250.length co42 : Value).ownBlock ∧ some k_ ≠ (v254 : Value).ownBlock ∧ some k_ ≠ (.slice Ao45 t257.length co45 : Value).ownBlock ∧ some k_ ≠ (.slice Ao49 t261.length co49 : Value).ownBlock ∧ some k_ ≠ (v265 : Value).ownBlock)) (pQ HO248) hg hat)
               have n2_ := Aside0.mk (Kd.R_after (ok := (fun k_ => some k_ ≠ (.slice Ao39 t246.length co39 : Value).ownBlock ∧ some k_ ≠ (v254 : Value).ownBlock ∧ some k_ ≠ (.slice Ao45 t257.length co45 : Value).ownBlock ∧ some k_ ≠ (.slice Ao49 t261.length co49 : Value).ownBlock ∧ some k_ ≠ (v265 : Value).ownBlock)) (pQ HO252) hg hat)
               have n3_ := Aside0.mk (Kd.R_after (ok := (fun k_ => some k_ ≠ (.slice Ao39 t246.length co39 : Value).ownBlock ∧ some k_ ≠ (.slice Ao42 t250.length co42 : Value).ownBlock ∧ some k_ ≠ (.slice Ao45 t257.length co45 : Value).ownBlock ∧ some k_ ≠ (.slice Ao49 t261.length co49 : Value).ownBlock ∧ some k_ ≠ (v265 : Value).ownBlock)) (pQ HO255) hg hat)
               have n4_ := Aside0.mk (blk_grown (g := gb256) (o := .cells #[.slice Ao39 t246.length co39, .int .i64 t249, .slice Ao42 t250.length co42] 24 (0, 0)) (pK BK256) hg (Kd.R_ne HO273.out BK256.out (by decide)))
               have n5_ := Aside0.mk (Kd.R_after (ok := (fun k_ => some k_ ≠ (.slice Ao39 t246.length co39 : Value).ownBlock ∧ some k_ ≠ (.slice Ao42 t250.length co42 : Value).ownBlock ∧ some k_ ≠ (v254 : Value).ownBlock ∧ some k_ ≠ (.slice Ao49 t261.length co49 : Value).ownBlock ∧ some k_ ≠ (v265 : Value).ownBlock)) (pQ HO259) hg hat)
               have n6_ := Aside0.mk (Kd.R_after (ok := (fun k_ => some k_ ≠ (.slice Ao39 t246.length co39 : Value).ownBlock ∧ some k_ ≠ (.slice Ao42 t250.length co42 : Value).ownBlock ∧ some k_ ≠ (v254 : Value).ownBlock ∧ some k_ ≠ (.slice Ao45 t257.length co45 : Value).ownBlock ∧ some k_ ≠ (v265 : Value).ownBlock)) (pQ HO263) hg hat)
               have n7_ := Aside0.mk (Kd.R_after (ok := (fun k_ => some k_ ≠ (.slice Ao39 t246.length co39 : Value).ownBlock ∧ some k_ ≠ (.slice Ao42 t250.length co42 : Value).ownBlock ∧ some k_ ≠ (v254 : Value).ownBlock ∧ some k_ ≠ (.slice Ao45 t257.length co45 : Value).ownBlock ∧ some k_ ≠ (.slice Ao49 t261.length co49 : Value).ownBlock)) (pQ HO266) hg hat)
               have n8_ := Aside0.mk (blk_grown (g := gb267) (o := .cells #[.slice Ao45 t257.length co45, .int .i64 t260, .slice Ao49 t261.length co49] 24 (0, 0)) (pK BK267) hg (Kd.R_ne HO273.out BK267.out (by decide)))
               have n9_ := Aside0.mk (blk_grown (g := gb287) (o := .cells #[.slice none 0 0, .int .i64 0, .slice none 0 0] 24 (0, 0)) (pK BK287) hg (Kd.R_ne HO273.out BK287.out (by decide)))
               have n10_ := Aside0.mk (hb)
               have n11_ := Aside0.mk (ho)
               clear BK243 HO248 HO252 HO255 BK256 HO259 HO263 HO266 BK267 BK287 HB HO273
               have BK243 := n0_; have HO248 := n1_; have HO252 := n2_; have HO255 := n3_; have BK256 := n4_; have HO259 := n5_; have HO263 := n6_; have HO266 := n7_; have BK267 := n8_; have BK287 := n9_; have HB := n10_; have HO276 := n11_
               clear n0_ n1_ n2_ n3_ n4_ n5_ n6_ n7_ n8_ n9_ n10_ n11_ ho hb hg hat
               refine hK.out _ _ ⟨(blk_cell BK243.out 0).trans rfl, (blk_cell BK243.out 1).trans rfl, (blk_cell BK243.out 2).trans rfl⟩ (fun hHeld => ?_)
               clear hK K
               refine norm_ (a' := ?_) ?_ ?_
               rotate_left
               ·show Act.put _ (some 56) _ = _
                simp only [Act.put, List.setIfInBounds_toArray, List.set_cons_zero, List.set_cons_succ, i64_w, i32_w]
                rfl
               exact norm_ pN (hJ1_3_5_10 (v269, v272, v275, gb287) _ ⟨hHeld, (pQ HO248), (pQ HO252), (pQ HO255), (pQ HO259), (pQ HO263), (pQ HO266), (pR HO276), (pK BK243), (pK BK256), (pK BK267), (pK BK287), GW287.out, GE287.out, NB243_287.out, NB287_243.out, NB256_287.out, NB287_256.out, NB267_287.out, NB287_267.out, pS⟩)
             ·skip
              rintro ⟨v269, v272, v275⟩ w56 ⟨hS_, h0_, h1_, h2_, h3_, h4_, h5_, h6_, h7_, h8_, h9_, h10_⟩
              try dsimp only at h0_ h1_ h2_ h3_ h4_ h5_ h6_ h7_ h8_ h9_ h10_
              have n0_ := Aside0.mk h0_; have n1_ := Aside0.mk h1_; have n2_ := Aside0.mk h2_; have n3_ := Aside0.mk h3_; have n4_ := Aside0.mk h4_; have n5_ := Aside0.mk h5_; have n6_ := Aside0.mk h6_; have n7_ := Aside0.mk h7_; have n8_ := Aside0.mk h8_; have n9_ := Aside0.mk h9_; have n10_ := Aside0.mk h10_
              clear HO248 HO252 HO255 HO259 HO263 HO266 BK243 BK256 BK267 HB h0_ h1_ h2_ h3_ h4_ h5_ h6_ h7_ h8_ h9_ h10_
              have HO248 := n0_; have HO252 := n1_; have HO255 := n2_; have HO259 := n3_; have HO263 := n4_; have HO266 := n5_; have HO276 := n6_; have BK243 := n7_; have BK256 := n8_; have BK267 := n9_; have HB := n10_
              clear n0_ n1_ n2_ n3_ n4_ n5_ n6_ n7_ n8_ n9_ n10_
              have hHeld : w56.cell? ⟨gb243, 0, none⟩ = some (.slice A0_0 l0_0.length c0_0) ∧ w56.cell? ⟨gb243, 1, none⟩ = some (.int .i64 a0_1) ∧ w56.cell? ⟨gb243, 2, none⟩ = some (.slice A0_2 l0_2.length c0_2) := hS_
              obtain ⟨Ao57, co57, eo57⟩ := Kd.R_slice HO276.out
              (first | subst eo57 | (injection eo57 with f1_ f2_ f3_; have f4_ := f1_.symm; have f5_ := f3_.symm; clear f1_ f2_ f3_; subst f4_; subst f5_))
              refine norm_ (a' := ?_) ?_ ?_
              rotate_left
              ·simp only [putAll, Act.put, List.setIfInBounds_toArray, List.set_cons_zero, List.set_cons_succ]
               rfl
              refine two_ (i := 6) (j := 10) (Ni := some 57) (Nj := some 11) #[true, true, true, true, true, true, true, false, false, false, false, false, false] #[true, true, true, true, true, true, false, false, false, false, true, false, false] rfl rfl rfl rfl (two_of HT_.out (by kernel_rfl)) (by decide) (by decide) (fun K hK => ?_) (fun K hK => ?_)
              ·skip
               refine goes_ Try.func8 (by kernel_rfl) rfl #[.agg #[.slice A0_0 l0_0.length c0_0, .int .i64 a0_1, .slice A0_2 l0_2.length c0_2], .slice Ao57 y274.length co57] (by rfl) rfl rfl pM ?_
               with_reducible refine (packstream_Write.calls _ _ l0_0 a0_1 _ _ l0_2 _ _ y274 t277 t280 t281 t284 _ ?side1 ?side2 ?side3 ?side4 ?side5 ?side6 A27.out).mono ?_
               (case side1 => repeat (first | exact (Kd.C_below HR0_0.out HB.out) | (with_reducible refine Kd.C_alloc ?_ _) | (with_reducible refine Kd.C_drewN ?_ _) | (with_reducible refine Kd.C_drew ?_)))
               (case side2 => exact HC0_0.out)
               (case side3 => repeat (first | exact (Kd.C_below HR0_2.out HB.out) | (with_reducible refine Kd.C_alloc ?_ _) | (with_reducible refine Kd.C_drewN ?_ _) | (with_reducible refine Kd.C_drew ?_)))
               (case side4 => exact HC0_2.out)
               (case side5 => repeat (first | exact (Kd.R_reads' HO276.out).2.2 | (with_reducible refine Kd.C_alloc ?_ _) | (with_reducible refine Kd.C_drewN ?_ _) | (with_reducible refine Kd.C_drew ?_)))
               (case side6 => exact (Kd.R_reads' HO276.out).2.1)
               rintro e w58 ⟨v278, v282, v285, rfl, ho0, ho1, ho2, hb⟩
               refine ⟨_, rfl, ?_⟩
               have n0_ := Aside0.mk (Kd.R_mono (Kd.R_told (Kd.R_told (Kd.R_told (Kd.R_old (pR HO248) hb) (Kd.R_base ho0)) (Kd.R_base ho1)) (Kd.R_base ho2)) (fun _ h_ => h_.1))
               have n1_ := Aside0.mk (Kd.R_mono (Kd.R_told (Kd.R_told (Kd.R_told (Kd.R_old (pR HO252) hb) (Kd.R_base ho0)) (Kd.R_base ho1)) (Kd.R_base ho2)) (fun _ h_ => h_.1))
               have n2_ := Aside0.mk (Kd.R_mono (Kd.R_told (Kd.R_told (Kd.R_told (Kd.R_old (pR HO255) hb) (Kd.R_base ho0)) (Kd.R_base ho1)) (Kd.R_base ho2)) (fun _ h_ => h_.1))
               have n3_ := Aside0.mk (Kd.R_mono (Kd.R_told (Kd.R_told (Kd.R_told (Kd.R_old (pR HO259) hb) (Kd.R_base ho0)) (Kd.R_base ho1)) (Kd.R_base ho2)) (fun _ h_ => h_.1))
               have n4_ := Aside0.mk (Kd.R_mono (Kd.R_told (Kd.R_told (Kd.R_told (Kd.R_old (pR HO263) hb) (Kd.R_base ho0)) (Kd.R_base ho1)) (Kd.R_base ho2)) (fun _ h_ => h_.1))
               have n5_ := Aside0.mk (Kd.R_mono (Kd.R_told (Kd.R_told (Kd.R_told (Kd.R_old (pR HO266) hb) (Kd.R_base ho0)) (Kd.R_base ho1)) (Kd.R_base ho2)) (fun _ h_ => h_.1))
               have n6_ := Aside0.mk (Kd.R_mono (Kd.R_told (Kd.R_told (Kd.R_told (Kd.R_old (pR HO276) hb) (Kd.R_base ho0)) (Kd.R_base ho1)) (Kd.R_base ho2)) (fun _ h_ => h_.1))
               have n7_ := Aside0.mk (Kd.R_lower (Kd.R_new' (Kd.R_new' (Kd.R_new' (Kd.R_new' (Kd.R_new' (Kd.R_new' (Kd.R_new' ho0 (Kd.R_lt (pR HO248))) (Kd.R_lt (pR HO252))) (Kd.R_lt (pR HO255))) (Kd.R_lt (pR HO259))) (Kd.R_lt (pR HO263))) (Kd.R_lt (pR HO266))) (Kd.R_lt (pR HO276))) (below_size pS))
               have n8_ := Aside0.mk (Kd.R_lower (Kd.R_new' (Kd.R_new' (Kd.R_new' (Kd.R_new' (Kd.R_new' (Kd.R_new' (Kd.R_new' ho1 (Kd.R_lt (pR HO248))) (Kd.R_lt (pR HO252))) (Kd.R_lt (pR HO255))) (Kd.R_lt (pR HO259))) (Kd.R_lt (pR HO263))) (Kd.R_lt (pR HO266))) (Kd.R_lt (pR HO276))) (below_size pS))
               have n9_ := Aside0.mk (Kd.R_lower (Kd.R_new' (Kd.R_new' (Kd.R_new' (Kd.R_new' (Kd.R_new' (Kd.R_new' (Kd.R_new' ho2 (Kd.R_lt (pR HO248))) (Kd.R_lt (pR HO252))) (Kd.R_lt (pR HO255))) (Kd.R_lt (pR HO259))) (Kd.R_lt (pR HO263))) (Kd.R_lt (pR HO266))) (Kd.R_lt (pR HO276))) (below_size pS))
               have n10_ := Aside0.mk (blk_below (g := gb243) (o := .cells #[.slice A0_0 l0_0.length c0_0, .int .i64 a0_1, .slice A0_2 l0_2.length c0_2] 24 (0, 0)) (pK BK243) hb)
               have n11_ := Aside0.mk (blk_below (g := gb256) (o := .cells #[.slice Ao39 t246.length co39, .int .i64 t249, .slice Ao42 t250.length co42] 24 (0, 0)) (pK BK256) hb)
               have n12_ := Aside0.mk (blk_below (g := gb267) (o := .cells #[.slice Ao45 t257.length co45, .int .i64 t260, .slice Ao49 t261.length co49] 24 (0, 0)) (pK BK267) hb)
               have n13_ := Aside0.mk (below_step pS hb)
               clear HO248 HO252 HO255 HO259 HO263 HO266 HO276 BK243 BK256 BK267 HB
               have HO248 := n0_; have HO252 := n1_; have HO255 := n2_; have HO259 := n3_; have HO263 := n4_; have HO266 := n5_; have HO276 := n6_; have HO279 := n7_; have HO283 := n8_; have HO286 := n9_; have BK243 := n10_; have BK256 := n11_; have BK267 := n12_; have HB := n13_
               clear n0_ n1_ n2_ n3_ n4_ n5_ n6_ n7_ n8_ n9_ n10_ n11_ n12_ n13_
               (try clear hb)
               (try clear hb2)
               (try clear hk)
               (try clear hi)
               (try clear ho0)
               (try clear ho1)
               (try clear ho2)
               refine hK.out _ _ ⟨(blk_cell BK243.out 0).trans rfl, (blk_cell BK243.out 1).trans rfl, (blk_cell BK243.out 2).trans rfl⟩ (fun hHeld => ?_)
               clear hK K
               refine norm_ (a' := ?_) ?_ ?_
               rotate_left
               ·show Act.put _ (some 57) _ = _
                simp only [Act.put, List.setIfInBounds_toArray, List.set_cons_zero, List.set_cons_succ, i64_w, i32_w]
                rfl
               refine pure_ (i := 7) (N := some 50) (v := ?_) (a' := ?_) #[true, true, true, true, true, true, true, true, false, false, false, false, false] rfl rfl (any_of HT_.out (by kernel_rfl)) (fun _ _ _ h => h) (Or.inl ⟨by rfl, ?_⟩) ?_ ?_
               rotate_left
               ·intro w'
                go_simp
                with_reducible rfl
               rotate_left
               ·simp only [Act.put, List.setIfInBounds_toArray, List.set_cons_zero, List.set_cons_succ, i64_w, i32_w]
                rfl
               refine pure_ (i := 8) (N := some 58) (v := ?_) (a' := ?_) #[true, true, true, true, true, true, true, true, true, false, false, false, false] rfl rfl (any_of HT_.out (by kernel_rfl)) (fun _ _ _ h => h) (Or.inl ⟨by rfl, ?_⟩) ?_ ?_
               rotate_left
               ·intro w'
                go_simp
                with_reducible rfl
               rotate_left
               ·simp only [Act.put, List.setIfInBounds_toArray, List.set_cons_zero, List.set_cons_succ, i64_w, i32_w]
                rfl
               refine pure_ (i := 9) (N := some 59) (v := ?_) (a' := ?_) #[true, true, true, true, true, true, true, true, true, true, false, false, false] rfl rfl (any_of HT_.out (by kernel_rfl)) (fun _ _ _ h => h) (Or.inl ⟨by rfl, ?_⟩) ?_ ?_
               rotate_left
               ·intro w'
                go_simp
                with_reducible rfl
               rotate_left
               ·simp only [Act.put, List.setIfInBounds_toArray, List.set_cons_zero, List.set_cons_succ, i64_w, i32_w]
                rfl
               exact norm_ pN (hJ1_3_5_6 (v269, v272, .slice Ao57 y274.length co57, v278, v282, v285) _ ⟨hHeld, (pQ HO248), (pQ HO252), (pQ HO255), (pQ HO259), (pQ HO263), (pQ HO266), (pQ HO276), (pQ HO279), (pQ HO283), (pQ HO286), (pK BK243), (pK BK256), (pK BK267), pS⟩)
              ·skip
               refine box_step ?hg (N := 11) ?hd (cs := #[.slice none 0 0, .int .i64 0, .slice none 0 0]) (t := 24) ?hr ?_; (case hd => rfl); (case hg => rfl); (case hr => first | (go_simp; done) | (go_simp; rfl))
               intro gb287 hg w57 hbox hb
               have n0_ := Aside0.mk (Kd.R_below (pR HO248) hb)
               have n1_ := Aside0.mk (Kd.R_below (pR HO252) hb)
               have n2_ := Aside0.mk (Kd.R_below (pR HO255) hb)
               have n3_ := Aside0.mk (Kd.R_below (pR HO259) hb)
               have n4_ := Aside0.mk (Kd.R_below (pR HO263) hb)
               have n5_ := Aside0.mk (Kd.R_below (pR HO266) hb)
               have n6_ := Aside0.mk (Kd.R_below (pR HO276) hb)
               have n7_ := Aside0.mk (blk_below (g := gb243) (o := .cells #[.slice A0_0 l0_0.length c0_0, .int .i64 a0_1, .slice A0_2 l0_2.length c0_2] 24 (0, 0)) (pK BK243) hb)
               have n8_ := Aside0.mk (blk_below (g := gb256) (o := .cells #[.slice Ao39 t246.length co39, .int .i64 t249, .slice Ao42 t250.length co42] 24 (0, 0)) (pK BK256) hb)
               have n9_ := Aside0.mk (blk_below (g := gb267) (o := .cells #[.slice Ao45 t257.length co45, .int .i64 t260, .slice Ao49 t261.length co49] 24 (0, 0)) (pK BK267) hb)
               have n10_ := Aside0.mk (below_step pS hb)
               have n11_ := Aside0.mk (hbox)
               have n12_ := Aside0.mk ((by rw [hg]; exact (below_size pS) : w.heap.size ≤ gb287))
               have n13_ := Aside0.mk ((by rw [hg]; exact (below_size pS) : w.heap.size ≤ gb287))
               have n14_ := Aside0.mk ((by rw [hg]; exact Nat.ne_of_lt (blk_lt (g := gb243) (o := .cells #[.slice A0_0 l0_0.length c0_0, .int .i64 a0_1, .slice A0_2 l0_2.length c0_2] 24 (0, 0)) (pK BK243)) : gb243 ≠ gb287))
               have n15_ := Aside0.mk ((by rw [hg]; exact Nat.ne_of_gt (blk_lt (g := gb243) (o := .cells #[.slice A0_0 l0_0.length c0_0, .int .i64 a0_1, .slice A0_2 l0_2.length c0_2] 24 (0, 0)) (pK BK243)) : gb287 ≠ gb243))
               have n16_ := Aside0.mk ((by rw [hg]; exact Nat.ne_of_lt (blk_lt (g := gb256) (o := .cells #[.slice Ao39 t246.length co39, .int .i64 t249, .slice Ao42 t250.length co42] 24 (0, 0)) (pK BK256)) : gb256 ≠ gb287))
               have n17_ := Aside0.mk ((by rw [hg]; exact Nat.ne_of_gt (blk_lt (g := gb256) (o := .cells #[.slice Ao39 t246.length co39, .int .i64 t249, .slice Ao42 t250.length co42] 24 (0, 0)) (pK BK256)) : gb287 ≠ gb256))
               have n18_ := Aside0.mk ((by rw [hg]; exact Nat.ne_of_lt (blk_lt (g := gb267) (o := .cells #[.slice Ao45 t257.length co45, .int .i64 t260, .slice Ao49 t261.length co49] 24 (0, 0)) (pK BK267)) : gb267 ≠ gb287))
               have n19_ := Aside0.mk ((by rw [hg]; exact Nat.ne_of_gt (blk_lt (g := gb267) (o := .cells #[.slice Ao45 t257.length co45, .int .i64 t260, .slice Ao49 t261.length co49] 24 (0, 0)) (pK BK267)) : gb287 ≠ gb267))
               clear HO248 HO252 HO255 HO259 HO263 HO266 HO276 BK243 BK256 BK267 HB
               have HO248 := n0_; have HO252 := n1_; have HO255 := n2_; have HO259 := n3_; have HO263 := n4_; have HO266 := n5_; have HO276 := n6_; have BK243 := n7_; have BK256 := n8_; have BK267 := n9_; have HB := n10_; have BK287 := n11_; have GW287 := n12_; have GE287 := n13_; have NB243_287 := n14_; have NB287_243 := n15_; have NB256_287 := n16_; have NB287_256 := n17_; have NB267_287 := n18_; have NB287_267 := n19_
               clear n0_ n1_ n2_ n3_ n4_ n5_ n6_ n7_ n8_ n9_ n10_ n11_ n12_ n13_ n14_ n15_ n16_ n17_ n18_ n19_ hb hbox hg
               refine hK.out _ _ ⟨(blk_cell BK243.out 0).trans rfl, (blk_cell BK243.out 1).trans rfl, (blk_cell BK243.out 2).trans rfl⟩ (fun hHeld => ?_)
               clear hK K
               refine norm_ (a' := ?_) ?_ ?_
               rotate_left
               ·show Act.put _ (some 11) _ = _
                simp only [Act.put, List.setIfInBounds_toArray, List.set_cons_zero, List.set_cons_succ, i64_w, i32_w]
                rfl
               exact norm_ pN (hJ1_3_5_10 (_, _, _, gb287) _ ⟨hHeld, (pR HO248), (pR HO252), (pR HO255), (pR HO259), (pR HO263), (pR HO266), (pR HO276), (pK BK243), (pK BK256), (pK BK267), (pK BK287), GW287.out, GE287.out, NB243_287.out, NB287_243.out, NB256_287.out, NB287_256.out, NB267_287.out, NB287_267.out, pS⟩)
            ·skip
             rintro ⟨v269, v272, v275, gb287⟩ w57 ⟨hS_, h0_, h1_, h2_, h3_, h4_, h5_, h6_, h7_, h8_, h9_, h10_, h11_, h12_, h13_, h14_, h15_, h16_, h17_, h18_, h19_⟩
             try dsimp only at h0_ h1_ h2_ h3_ h4_ h5_ h6_ h7_ h8_ h9_ h10_ h11_ h12_ h13_ h14_ h15_ h16_ h17_ h18_ h19_
             have n0_ := Aside0.mk h0_; have n1_ := Aside0.mk h1_; have n2_ := Aside0.mk h2_; have n3_ := Aside0.mk h3_; have n4_ := Aside0.mk h4_; have n5_ := Aside0.mk h5_; have n6_ := Aside0.mk h6_; have n7_ := Aside0.mk h7_; have n8_ := Aside0.mk h8_; have n9_ := Aside0.mk h9_; have n10_ := Aside0.mk h10_; have n11_ := Aside0.mk h11_; have n12_ := Aside0.mk h12_; have n13_ := Aside0.mk h13_; have n14_ := Aside0.mk h14_; have n15_ := Aside0.mk h15_; have n16_ := Aside0.mk h16_; have n17_ := Aside0.mk h17_; have n18_ := Aside0.mk h18_; have n19_ := Aside0.mk h19_
             clear HO248 HO252 HO255 HO259 HO263 HO266 BK243 BK256 BK267 HB h0_ h1_ h2_ h3_ h4_ h5_ h6_ h7_ h8_ h9_ h10_ h11_ h12_ h13_ h14_ h15_ h16_ h17_ h18_ h19_
             have HO248 := n0_; have HO252 := n1_; have HO255 := n2_; have HO259 := n3_; have HO263 := n4_; have HO266 := n5_; have HO276 := n6_; have BK243 := n7_; have BK256 := n8_; have BK267 := n9_; have BK287 := n10_; have GW287 := n11_; have GE287 := n12_; have NB243_287 := n13_; have NB287_243 := n14_; have NB256_287 := n15_; have NB287_256 := n16_; have NB267_287 := n17_; have NB287_267 := n18_; have HB := n19_
             clear n0_ n1_ n2_ n3_ n4_ n5_ n6_ n7_ n8_ n9_ n10_ n11_ n12_ n13_ n14_ n15_ n16_ n17_ n18_ n19_
             have hHeld : w57.cell? ⟨gb243, 0, none⟩ = some (.slice A0_0 l0_0.length c0_0) ∧ w57.cell? ⟨gb243, 1, none⟩ = some (.int .i64 a0_1) ∧ w57.cell? ⟨gb243, 2, none⟩ = some (.slice A0_2 l0_2.length c0_2) := hS_
             obtain ⟨Ao58, co58, eo58⟩ := Kd.R_slice HO276.out
             (first | subst eo58 | (injection eo58 with f1_ f2_ f3_; have f4_ := f1_.symm; have f5_ := f3_.symm; clear f1_ f2_ f3_; subst f4_; subst f5_))
             refine norm_ (a' := ?_) ?_ ?_
             rotate_left
             ·simp only [putAll, Act.put, List.setIfInBounds_toArray, List.set_cons_zero, List.set_cons_succ]
              rfl
             refine one_ (i := 6) (N := some 57) #[true, true, true, true, true, true, true, false, false, false, true, false, false] rfl rfl (one_of HT_.out (by kernel_rfl)) (by decide) (fun K hK => ?_)
             refine goes_ Try.func8 (by kernel_rfl) rfl #[.agg #[.slice A0_0 l0_0.length c0_0, .int .i64 a0_1, .slice A0_2 l0_2.length c0_2], .slice Ao58 y274.length co58] (by rfl) rfl rfl pM ?_
             with_reducible refine (packstream_Write.calls _ _ l0_0 a0_1 _ _ l0_2 _ _ y274 t277 t280 t281 t284 _ ?side1 ?side2 ?side3 ?side4 ?side5 ?side6 A27.out).mono ?_
             (case side1 => repeat (first | exact (Kd.C_below HR0_0.out HB.out) | (with_reducible refine Kd.C_alloc ?_ _) | (with_reducible refine Kd.C_drewN ?_ _) | (with_reducible refine Kd.C_drew ?_)))
             (case side2 => exact HC0_0.out)
             (case side3 => repeat (first | exact (Kd.C_below HR0_2.out HB.out) | (with_reducible refine Kd.C_alloc ?_ _) | (with_reducible refine Kd.C_drewN ?_ _) | (with_reducible refine Kd.C_drew ?_)))
             (case side4 => exact HC0_2.out)
             (case side5 => repeat (first | exact (Kd.R_reads' HO276.out).2.2 | (with_reducible refine Kd.C_alloc ?_ _) | (with_reducible refine Kd.C_drewN ?_ _) | (with_reducible refine Kd.C_drew ?_)))
             (case side6 => exact (Kd.R_reads' HO276.out).2.1)
             rintro e w59 ⟨v278, v282, v285, rfl, ho0, ho1, ho2, hb⟩
             refine ⟨_, rfl, ?_⟩
             have n0_ := Aside0.mk (Kd.R_mono (Kd.R_told (Kd.R_told (Kd.R_told (Kd.R_old (pR HO248) hb) (Kd.R_base ho0)) (Kd.R_base ho1)) (Kd.R_base ho2)) (fun _ h_ => h_.1))
             have n1_ := Aside0.mk (Kd.R_mono (Kd.R_told (Kd.R_told (Kd.R_told (Kd.R_old (pR HO252) hb) (Kd.R_base ho0)) (Kd.R_base ho1)) (Kd.R_base ho2)) (fun _ h_ => h_.1))
             have n2_ := Aside0.mk (Kd.R_mono (Kd.R_told (Kd.R_told (Kd.R_told (Kd.R_old (pR HO255) hb) (Kd.R_base ho0)) (Kd.R_base ho1)) (Kd.R_base ho2)) (fun _ h_ => h_.1))
             have n3_ := Aside0.mk (Kd.R_mono (Kd.R_told (Kd.R_told (Kd.R_told (Kd.R_old (pR HO259) hb) (Kd.R_base ho0)) (Kd.R_base ho1)) (Kd.R_base ho2)) (fun _ h_ => h_.1))
             have n4_ := Aside0.mk (Kd.R_mono (Kd.R_told (Kd.R_told (Kd.R_told (Kd.R_old (pR HO263) hb) (Kd.R_base ho0)) (Kd.R_base ho1)) (Kd.R_base ho2)) (fun _ h_ => h_.1))
             have n5_ := Aside0.mk (Kd.R_mono (Kd.R_told (Kd.R_told (Kd.R_told (Kd.R_old (pR HO266) hb) (Kd.R_base ho0)) (Kd.R_base ho1)) (Kd.R_base ho2)) (fun _ h_ => h_.1))
             have n6_ := Aside0.mk (Kd.R_mono (Kd.R_told (Kd.R_told (Kd.R_told (Kd.R_old (pR HO276) hb) (Kd.R_base ho0)) (Kd.R_base ho1)) (Kd.R_base ho2)) (fun _ h_ => h_.1))
             have n7_ := Aside0.mk (Kd.R_lower (Kd.R_new' (Kd.R_new' (Kd.R_new' (Kd.R_new' (Kd.R_new' (Kd.R_new' (Kd.R_new' ho0 (Kd.R_lt (pR HO248))) (Kd.R_lt (pR HO252))) (Kd.R_lt (pR HO255))) (Kd.R_lt (pR HO259))) (Kd.R_lt (pR HO263))) (Kd.R_lt (pR HO266))) (Kd.R_lt (pR HO276))) (below_size pS))
             have n8_ := Aside0.mk (Kd.R_lower (Kd.R_new' (Kd.R_new' (Kd.R_new' (Kd.R_new' (Kd.R_new' (Kd.R_new' (Kd.R_new' ho1 (Kd.R_lt (pR HO248))) (Kd.R_lt (pR HO252))) (Kd.R_lt (pR HO255))) (Kd.R_lt (pR HO259))) (Kd.R_lt (pR HO263))) (Kd.R_lt (pR HO266))) (Kd.R_lt (pR HO276))) (below_size pS))
             have n9_ := Aside0.mk (Kd.R_lower (Kd.R_new' (Kd.R_new' (Kd.R_new' (Kd.R_new' (Kd.R_new' (Kd.R_new' (Kd.R_new' ho2 (Kd.R_lt (pR HO248))) (Kd.R_lt (pR HO252))) (Kd.R_lt (pR HO255))) (Kd.R_lt (pR HO259))) (Kd.R_lt (pR HO263))) (Kd.R_lt (pR HO266))) (Kd.R_lt (pR HO276))) (below_size pS))
             have n10_ := Aside0.mk (blk_below (g := gb243) (o := .cells #[.slice A0_0 l0_0.length c0_0, .int .i64 a0_1, .slice A0_2 l0_2.length c0_2] 24 (0, 0)) (pK BK243) hb)
             have n11_ := Aside0.mk (blk_below (g := gb256) (o := .cells #[.slice Ao39 t246.length co39, .int .i64 t249, .slice Ao42 t250.length co42] 24 (0, 0)) (pK BK256) hb)
             have n12_ := Aside0.mk (blk_below (g := gb267) (o := .cells #[.slice Ao45 t257.length co45, .int .i64 t260, .slice Ao49 t261.length co49] 24 (0, 0)) (pK BK267) hb)
             have n13_ := Aside0.mk (blk_below (g := gb287) (o := .cells #[.slice none 0 0, .int .i64 0, .slice none 0 0] 24 (0, 0)) (pK BK287) hb)
             have n14_ := Aside0.mk (below_step pS hb)
             clear HO248 HO252 HO255 HO259 HO263 HO266 HO276 BK243 BK256 BK267 BK287 HB
             have HO248 := n0_; have HO252 := n1_; have HO255 := n2_; have HO259 := n3_; have HO263 := n4_; have HO266 := n5_; have HO276 := n6_; have HO279 := n7_; have HO283 := n8_; have HO286 := n9_; have BK243 := n10_; have BK256 := n11_; have BK267 := n12_; have BK287 := n13_; have HB := n14_
             clear n0_ n1_ n2_ n3_ n4_ n5_ n6_ n7_ n8_ n9_ n10_ n11_ n12_ n13_ n14_
             (try clear hb)
             (try clear hb2)
             (try clear hk)
             (try clear hi)
             (try clear ho0)
             (try clear ho1)
             (try clear ho2)
             refine hK.out _ _ ⟨(blk_cell BK243.out 0).trans rfl, (blk_cell BK243.out 1).trans rfl, (blk_cell BK243.out 2).trans rfl⟩ (fun hHeld => ?_)
             clear hK K
             refine norm_ (a' := ?_) ?_ ?_
             rotate_left
             ·show Act.put _ (some 57) _ = _
              simp only [Act.put, List.setIfInBounds_toArray, List.set_cons_zero, List.set_cons_succ, i64_w, i32_w]
              rfl
             refine pure_ (i := 7) (N := some 50) (v := ?_) (a' := ?_) #[true, true, true, true, true, true, true, true, false, false, true, false, false] rfl rfl (any_of HT_.out (by kernel_rfl)) (fun _ _ _ h => h) (Or.inl ⟨by rfl, ?_⟩) ?_ ?_
             rotate_left
             ·intro w'
              go_simp
              with_reducible rfl
             rotate_left
             ·simp only [Act.put, List.setIfInBounds_toArray, List.set_cons_zero, List.set_cons_succ, i64_w, i32_w]
              rfl
             refine pure_ (i := 8) (N := some 58) (v := ?_) (a' := ?_) #[true, true, true, true, true, true, true, true, true, false, true, false, false] rfl rfl (any_of HT_.out (by kernel_rfl)) (fun _ _ _ h => h) (Or.inl ⟨by rfl, ?_⟩) ?_ ?_
             rotate_left
             ·intro w'
              go_simp
              with_reducible rfl
             rotate_left
             ·simp only [Act.put, List.setIfInBounds_toArray, List.set_cons_zero, List.set_cons_succ, i64_w, i32_w]
              rfl
             refine pure_ (i := 9) (N := some 59) (v := ?_) (a' := ?_) #[true, true, true, true, true, true, true, true, true, true, true, false, false] rfl rfl (any_of HT_.out (by kernel_rfl)) (fun _ _ _ h => h) (Or.inl ⟨by rfl, ?_⟩) ?_ ?_
             rotate_left
             ·intro w'
              go_simp
              with_reducible rfl
             rotate_left
             ·simp only [Act.put, List.setIfInBounds_toArray, List.set_cons_zero, List.set_cons_succ, i64_w, i32_w]
              rfl
             exact norm_ pN (hJ1_3_5_6_10 (v269, v272, .slice Ao58 y274.length co58, v278, v282, v285, gb287) _ ⟨hHeld, (pQ HO248), (pQ HO252), (pQ HO255), (pQ HO259), (pQ HO263), (pQ HO266), (pQ HO276), (pQ HO279), (pQ HO283), (pQ HO286), (pK BK243), (pK BK256), (pK BK267), (pK BK287), GW287.out, GE287.out, NB243_287.out, NB287_243.out, NB256_287.out, NB287_256.out, NB267_287.out, NB287_267.out, pS⟩)
           ·skip
            rintro ⟨v269, v272, v275, v278, v282, v285⟩ w58 ⟨hS_, h0_, h1_, h2_, h3_, h4_, h5_, h6_, h7_, h8_, h9_, h10_, h11_, h12_, h13_⟩
            try dsimp only at h0_ h1_ h2_ h3_ h4_ h5_ h6_ h7_ h8_ h9_ h10_ h11_ h12_ h13_
            have n0_ := Aside0.mk h0_; have n1_ := Aside0.mk h1_; have n2_ := Aside0.mk h2_; have n3_ := Aside0.mk h3_; have n4_ := Aside0.mk h4_; have n5_ := Aside0.mk h5_; have n6_ := Aside0.mk h6_; have n7_ := Aside0.mk h7_; have n8_ := Aside0.mk h8_; have n9_ := Aside0.mk h9_; have n10_ := Aside0.mk h10_; have n11_ := Aside0.mk h11_; have n12_ := Aside0.mk h12_; have n13_ := Aside0.mk h13_
            clear HO248 HO252 HO255 HO259 HO263 HO266 BK243 BK256 BK267 HB h0_ h1_ h2_ h3_ h4_ h5_ h6_ h7_ h8_ h9_ h10_ h11_ h12_ h13_
            have HO248 := n0_; have HO252 := n1_; have HO255 := n2_; have HO259 := n3_; have HO263 := n4_; have HO266 := n5_; have HO276 := n6_; have HO279 := n7_; have HO283 := n8_; have HO286 := n9_; have BK243 := n10_; have BK256 := n11_; have BK267 := n12_; have HB := n13_
            clear n0_ n1_ n2_ n3_ n4_ n5_ n6_ n7_ n8_ n9_ n10_ n11_ n12_ n13_
            have hHeld : w58.cell? ⟨gb243, 0, none⟩ = some (.slice A0_0 l0_0.length c0_0) ∧ w58.cell? ⟨gb243, 1, none⟩ = some (.int .i64 a0_1) ∧ w58.cell? ⟨gb243, 2, none⟩ = some (.slice A0_2 l0_2.length c0_2) := hS_
            refine norm_ (a' := ?_) ?_ ?_
            rotate_left
            ·simp only [putAll, Act.put, List.setIfInBounds_toArray, List.set_cons_zero, List.set_cons_succ]
             rfl
            refine one_ (i := 10) (N := some 11) #[true, true, true, true, true, true, true, true, true, true, true, false, false] rfl rfl (one_of HT_.out (by kernel_rfl)) (by decide) (fun K hK => ?_)
            refine box_step ?hg (N := 11) ?hd (cs := #[.slice none 0 0, .int .i64 0, .slice none 0 0]) (t := 24) ?hr ?_; (case hd => rfl); (case hg => rfl); (case hr => first | (go_simp; done) | (go_simp; rfl))
            intro gb287 hg w59 hbox hb
            have n0_ := Aside0.mk (Kd.R_below (pR HO248) hb)
            have n1_ := Aside0.mk (Kd.R_below (pR HO252) hb)
            have n2_ := Aside0.mk (Kd.R_below (pR HO255) hb)
            have n3_ := Aside0.mk (Kd.R_below (pR HO259) hb)
            have n4_ := Aside0.mk (Kd.R_below (pR HO263) hb)
            have n5_ := Aside0.mk (Kd.R_below (pR HO266) hb)
            have n6_ := Aside0.mk (Kd.R_below (pR HO276) hb)
            have n7_ := Aside0.mk (Kd.R_below (pR HO279) hb)
            have n8_ := Aside0.mk (Kd.R_below (pR HO283) hb)
            have n9_ := Aside0.mk (Kd.R_below (pR HO286) hb)
            have n10_ := Aside0.mk (blk_below (g := gb243) (o := .cells #[.slice A0_0 l0_0.length c0_0, .int .i64 a0_1, .slice A0_2 l0_2.length c0_2] 24 (0, 0)) (pK BK243) hb)
            have n11_ := Aside0.mk (blk_below (g := gb256) (o := .cells #[.slice Ao39 t246.length co39, .int .i64 t249, .slice Ao42 t250.length co42] 24 (0, 0)) (pK BK256) hb)
            have n12_ := Aside0.mk (blk_below (g := gb267) (o := .cells #[.slice Ao45 t257.length co45, .int .i64 t260, .slice Ao49 t261.length co49] 24 (0, 0)) (pK BK267) hb)
            have n13_ := Aside0.mk (below_step pS hb)
            have n14_ := Aside0.mk (hbox)
            have n15_ := Aside0.mk ((by rw [hg]; exact (below_size pS) : w.heap.size ≤ gb287))
            have n16_ := Aside0.mk ((by rw [hg]; exact (below_size pS) : w.heap.size ≤ gb287))
            have n17_ := Aside0.mk ((by rw [hg]; exact Nat.ne_of_lt (blk_lt (g := gb243) (o := .cells #[.slice A0_0 l0_0.length c0_0, .int .i64 a0_1, .slice A0_2 l0_2.length c0_2] 24 (0, 0)) (pK BK243)) : gb243 ≠ gb287))
            have n18_ := Aside0.mk ((by rw [hg]; exact Nat.ne_of_gt (blk_lt (g := gb243) (o := .cells #[.slice A0_0 l0_0.length c0_0, .int .i64 a0_1, .slice A0_2 l0_2.length c0_2] 24 (0, 0)) (pK BK243)) : gb287 ≠ gb243))
            have n19_ := Aside0.mk ((by rw [hg]; exact Nat.ne_of_lt (blk_lt (g := gb256) (o := .cells #[.slice Ao39 t246.length co39, .int .i64 t249, .slice Ao42 t250.length co42] 24 (0, 0)) (pK BK256)) : gb256 ≠ gb287))
            have n20_ := Aside0.mk ((by rw [hg]; exact Nat.ne_of_gt (blk_lt (g := gb256) (o := .cells #[.slice Ao39 t246.length co39, .int .i64 t249, .slice Ao42 t250.length co42] 24 (0, 0)) (pK BK256)) : gb287 ≠ gb256))
            have n21_ := Aside0.mk ((by rw [hg]; exact Nat.ne_of_lt (blk_lt (g := gb267) (o := .cells #[.slice Ao45 t257.length co45, .int .i64 t260, .slice Ao49 t261.length co49] 24 (0, 0)) (pK BK267)) : gb267 ≠ gb287))
            have n22_ := Aside0.mk ((by rw [hg]; exact Nat.ne_of_gt (blk_lt (g := gb267) (o := .cells #[.slice Ao45 t257.length co45, .int .i64 t260, .slice Ao49 t261.length co49] 24 (0, 0)) (pK BK267)) : gb287 ≠ gb267))
            clear HO248 HO252 HO255 HO259 HO263 HO266 HO276 HO279 HO283 HO286 BK243 BK256 BK267 HB
            have HO248 := n0_; have HO252 := n1_; have HO255 := n2_; have HO259 := n3_; have HO263 := n4_; have HO266 := n5_; have HO276 := n6_; have HO279 := n7_; have HO283 := n8_; have HO286 := n9_; have BK243 := n10_; have BK256 := n11_; have BK267 := n12_; have HB := n13_; have BK287 := n14_; have GW287 := n15_; have GE287 := n16_; have NB243_287 := n17_; have NB287_243 := n18_; have NB256_287 := n19_; have NB287_256 := n20_; have NB267_287 := n21_; have NB287_267 := n22_
            clear n0_ n1_ n2_ n3_ n4_ n5_ n6_ n7_ n8_ n9_ n10_ n11_ n12_ n13_ n14_ n15_ n16_ n17_ n18_ n19_ n20_ n21_ n22_ hb hbox hg
            refine hK.out _ _ ⟨(blk_cell BK243.out 0).trans rfl, (blk_cell BK243.out 1).trans rfl, (blk_cell BK243.out 2).trans rfl⟩ (fun hHeld => ?_)
            clear hK K
            refine norm_ (a' := ?_) ?_ ?_
            rotate_left
            ·show Act.put _ (some 11) _ = _
             simp only [Act.put, List.setIfInBounds_toArray, List.set_cons_zero, List.set_cons_succ, i64_w, i32_w]
             rfl
            exact norm_ pN (hJ1_3_5_6_10 (v269, v272, v275, v278, v282, v285, gb287) _ ⟨hHeld, (pR HO248), (pR HO252), (pR HO255), (pR HO259), (pR HO263), (pR HO266), (pR HO276), (pR HO279), (pR HO283), (pR HO286), (pK BK243), (pK BK256), (pK BK267), (pK BK287), GW287.out, GE287.out, NB243_287.out, NB287_243.out, NB256_287.out, NB287_256.out, NB267_287.out, NB287_267.out, pS⟩)
          rintro ⟨v269, v272, v275, v278, v282, v285, gb287⟩ w59 ⟨hS_, h0_, h1_, h2_, h3_, h4_, h5_, h6_, h7_, h8_, h9_, h10_, h11_, h12_, h13_, h14_, h15_, h16_, h17_, h18_, h19_, h20_, h21_, h22_⟩
          try dsimp only at h0_ h1_ h2_ h3_ h4_ h5_ h6_ h7_ h8_ h9_ h10_ h11_ h12_ h13_ h14_ h15_ h16_ h17_ h18_ h19_ h20_ h21_ h22_
          have n0_ := Aside0.mk h0_; have n1_ := Aside0.mk h1_; have n2_ := Aside0.mk h2_; have n3_ := Aside0.mk h3_; have n4_ := Aside0.mk h4_; have n5_ := Aside0.mk h5_; have n6_ := Aside0.mk h6_; have n7_ := Aside0.mk h7_; have n8_ := Aside0.mk h8_; have n9_ := Aside0.mk h9_; have n10_ := Aside0.mk h10_; have n11_ := Aside0.mk h11_; have n12_ := Aside0.mk h12_; have n13_ := Aside0.mk h13_; have n14_ := Aside0.mk h14_; have n15_ := Aside0.mk h15_; have n16_ := Aside0.mk h16_; have n17_ := Aside0.mk h17_; have n18_ := Aside0.mk h18_; have n19_ := Aside0.mk h19_; have n20_ := Aside0.mk h20_; have n21_ := Aside0.mk h21_; have n22_ := Aside0.mk h22_
          clear HO248 HO252 HO255 HO259 HO263 HO266 BK243 BK256 BK267 HB h0_ h1_ h2_ h3_ h4_ h5_ h6_ h7_ h8_ h9_ h10_ h11_ h12_ h13_ h14_ h15_ h16_ h17_ h18_ h19_ h20_ h21_ h22_
          have HO248 := n0_; have HO252 := n1_; have HO255 := n2_; have HO259 := n3_; have HO263 := n4_; have HO266 := n5_; have HO276 := n6_; have HO279 := n7_; have HO283 := n8_; have HO286 := n9_; have BK243 := n10_; have BK256 := n11_; have BK267 := n12_; have BK287 := n13_; have GW287 := n14_; have GE287 := n15_; have NB243_287 := n16_; have NB287_243 := n17_; have NB256_287 := n18_; have NB287_256 := n19_; have NB267_287 := n20_; have NB287_267 := n21_; have HB := n22_
          clear n0_ n1_ n2_ n3_ n4_ n5_ n6_ n7_ n8_ n9_ n10_ n11_ n12_ n13_ n14_ n15_ n16_ n17_ n18_ n19_ n20_ n21_ n22_
          have hHeld : w59.cell? ⟨gb243, 0, none⟩ = some (.slice A0_0 l0_0.length c0_0) ∧ w59.cell? ⟨gb243, 1, none⟩ = some (.int .i64 a0_1) ∧ w59.cell? ⟨gb243, 2, none⟩ = some (.slice A0_2 l0_2.length c0_2) := hS_
          obtain ⟨Ao60, co60, eo60⟩ := Kd.R_slice HO279.out
          (first | subst eo60 | (injection eo60 with f1_ f2_ f3_; have f4_ := f1_.symm; have f5_ := f3_.symm; clear f1_ f2_ f3_; subst f4_; subst f5_))
          obtain ⟨Ao63, co63, eo63⟩ := Kd.R_slice HO283.out
          (first | subst eo63 | (injection eo63 with f1_ f2_ f3_; have f4_ := f1_.symm; have f5_ := f3_.symm; clear f1_ f2_ f3_; subst f4_; subst f5_))
          refine norm_ (a' := ?_) ?_ ?_
          rotate_left
          ·simp only [putAll, Act.put, List.setIfInBounds_toArray, List.set_cons_zero, List.set_cons_succ]
           rfl
          refine one_ (i := 11) (N := none) #[true, true, true, true, true, true, true, true, true, true, true, true, false] rfl rfl (one_of HT_.out (by kernel_rfl)) (by decide) (fun K hK => ?_)
          have hs61 : w59.cell? ⟨gb287, 0, none⟩ = some (.slice none 0 0) := (blk_cell BK287.out 0).trans rfl
          have hfs61 := blk_frozen BK287.out 0
          have hns61_0 := NB243_287.out
          have hns61_1 := NB256_287.out
          have hns61_2 := NB267_287.out
          have hms61_0 := NB287_243.out
          have hms61_1 := NB287_256.out
          have hms61_2 := NB287_267.out
          have hs62 : w59.cell? ⟨gb287, 1, none⟩ = some (.int .i64 0) := (blk_cell BK287.out 1).trans rfl
          have hfs62 := blk_frozen BK287.out 1
          have hns62_0 := NB243_287.out
          have hns62_1 := NB256_287.out
          have hns62_2 := NB267_287.out
          have hms62_0 := NB287_243.out
          have hms62_1 := NB287_256.out
          have hms62_2 := NB287_267.out
          have hs64 : w59.cell? ⟨gb287, 2, none⟩ = some (.slice none 0 0) := (blk_cell BK287.out 2).trans rfl
          have hfs64 := blk_frozen BK287.out 2
          have hns64_0 := NB243_287.out
          have hns64_1 := NB256_287.out
          have hns64_2 := NB267_287.out
          have hms64_0 := NB287_243.out
          have hms64_1 := NB287_256.out
          have hms64_2 := NB287_267.out
          refine skip_ (w1 := ?_) (by rfl) rfl ?_ ?_
          rotate_left
          ·go_simp
           rfl
          refine hK.out _ _ ⟨((cell_far (p := ⟨gb287, _, none⟩) NB243_287.out _).trans (((cell_far (p := ⟨gb287, _, none⟩) NB243_287.out _).trans (((cell_far (p := ⟨gb287, _, none⟩) NB243_287.out _).trans (hHeld.1)))))), ((cell_far (p := ⟨gb287, _, none⟩) NB243_287.out _).trans (((cell_far (p := ⟨gb287, _, none⟩) NB243_287.out _).trans (((cell_far (p := ⟨gb287, _, none⟩) NB243_287.out _).trans (hHeld.2.1)))))), ((cell_far (p := ⟨gb287, _, none⟩) NB243_287.out _).trans (((cell_far (p := ⟨gb287, _, none⟩) NB243_287.out _).trans (((cell_far (p := ⟨gb287, _, none⟩) NB243_287.out _).trans (hHeld.2.2))))))⟩ (fun hHeld => ?_)
          clear hK K
          refine pure_ (i := 12) (N := some 12) (v := ?_) (a' := ?_) #[true, true, true, true, true, true, true, true, true, true, true, true, true] rfl rfl (any_of HT_.out (by kernel_rfl)) (fun _ _ _ h => h) (Or.inl ⟨by rfl, ?_⟩) ?_ ?_
          rotate_left
          ·intro w'
           go_simp
           with_reducible rfl
          rotate_left
          ·simp only [Act.put, List.setIfInBounds_toArray, List.set_cons_zero, List.set_cons_succ, i64_w, i32_w]
           rfl
          refine done_ (done_of HT_.out (by kernel_rfl)) ?_
          try go_wp2
          have n0_ : Aside0 (Kd.R (Kd.int .u8) 5 (((w59.setCell ⟨gb287, 0, none⟩ (.slice Ao60 t277.length co60)).setCell ⟨gb287, 1, none⟩ (.int .i64 t280)).setCell ⟨gb287, 2, none⟩ (.slice Ao63 t281.length co63)) w.heap.size (fun k_ => some k_ ≠ (.slice Ao42 t250.length co42 : Value).ownBlock ∧ some k_ ≠ (v254 : Value).ownBlock ∧ some k_ ≠ (.slice Ao45 t257.length co45 : Value).ownBlock ∧ some k_ ≠ (.slice Ao49 t261.length co49 : Value).ownBlock ∧ some k_ ≠ (v265 : Value).ownBlock ∧ some k_ ≠ (v275 : Value).ownBlock ∧ some k_ ≠ (.slice Ao60 t277.length co60 : Value).ownBlock ∧ some k_ ≠ (.slice Ao63 t281.length co63 : Value).ownBlock ∧ some k_ ≠ (v285 : Value).ownBlock) (.slice Ao39 t246.length co39) t246) := ⟨by (with_reducible repeat (first | apply Kd.R_alloc | apply Kd.R_drewN | apply Kd.R_drew)); exact Kd.R_mono (Kd.R_far (p := ⟨gb287, 2, none⟩) (Kd.R_far (p := ⟨gb287, 1, none⟩) (Kd.R_far (p := ⟨gb287, 0, none⟩) (Kd.R_types HO248.out BK287.out (by decide)) (fun _ hk => hk.2) (.slice Ao60 t277.length co60)) (fun _ hk => hk.2) (.int .i64 t280)) (fun _ hk => hk.2) (.slice Ao63 t281.length co63)) (fun _ hk => ⟨hk.1.1, ⟨hk.1.2.1, ⟨hk.1.2.2.1, ⟨hk.1.2.2.2.1, ⟨hk.1.2.2.2.2.1, ⟨hk.1.2.2.2.2.2.1, ⟨hk.1.2.2.2.2.2.2.1, ⟨hk.1.2.2.2.2.2.2.2.1, hk.1.2.2.2.2.2.2.2.2⟩⟩⟩⟩⟩⟩⟩⟩)⟩
          have n1_ : Aside0 (Kd.R (Kd.int .u8) 5 (((w59.setCell ⟨gb287, 0, none⟩ (.slice Ao60 t277.length co60)).setCell ⟨gb287, 1, none⟩ (.int .i64 t280)).setCell ⟨gb287, 2, none⟩ (.slice Ao63 t281.length co63)) w.heap.size (fun k_ => some k_ ≠ (.slice Ao39 t246.length co39 : Value).ownBlock ∧ some k_ ≠ (v254 : Value).ownBlock ∧ some k_ ≠ (.slice Ao45 t257.length co45 : Value).ownBlock ∧ some k_ ≠ (.slice Ao49 t261.length co49 : Value).ownBlock ∧ some k_ ≠ (v265 : Value).ownBlock ∧ some k_ ≠ (v275 : Value).ownBlock ∧ some k_ ≠ (.slice Ao60 t277.length co60 : Value).ownBlock ∧ some k_ ≠ (.slice Ao63 t281.length co63 : Value).ownBlock ∧ some k_ ≠ (v285 : Value).ownBlock) (.slice Ao42 t250.length co42) t250) := ⟨by (with_reducible repeat (first | apply Kd.R_alloc | apply Kd.R_drewN | apply Kd.R_drew)); exact Kd.R_mono (Kd.R_far (p := ⟨gb287, 2, none⟩) (Kd.R_far (p := ⟨gb287, 1, none⟩) (Kd.R_far (p := ⟨gb287, 0, none⟩) (Kd.R_types HO252.out BK287.out (by decide)) (fun _ hk => hk.2) (.slice Ao60 t277.length co60)) (fun _ hk => hk.2) (.int .i64 t280)) (fun _ hk => hk.2) (.slice Ao63 t281.length co63)) (fun _ hk => ⟨hk.1.1, ⟨hk.1.2.1, ⟨hk.1.2.2.1, ⟨hk.1.2.2.2.1, ⟨hk.1.2.2.2.2.1, ⟨hk.1.2.2.2.2.2.1, ⟨hk.1.2.2.2.2.2.2.1, ⟨hk.1.2.2.2.2.2.2.2.1, hk.1.2.2.2.2.2.2.2.2⟩⟩⟩⟩⟩⟩⟩⟩)⟩
          have n2_ : Aside0 (Kd.R (Kd.int .u8) 5 (((w59.setCell ⟨gb287, 0, none⟩ (.slice Ao60 t277.length co60)).setCell ⟨gb287, 1, none⟩ (.int .i64 t280)).setCell ⟨gb287, 2, none⟩ (.slice Ao63 t281.length co63)) w.heap.size (fun k_ => some k_ ≠ (.slice Ao39 t246.length co39 : Value).ownBlock ∧ some k_ ≠ (.slice Ao42 t250.length co42 : Value).ownBlock ∧ some k_ ≠ (.slice Ao45 t257.length co45 : Value).ownBlock ∧ some k_ ≠ (.slice Ao49 t261.length co49 : Value).ownBlock ∧ some k_ ≠ (v265 : Value).ownBlock ∧ some k_ ≠ (v275 : Value).ownBlock ∧ some k_ ≠ (.slice Ao60 t277.length co60 : Value).ownBlock ∧ some k_ ≠ (.slice Ao63 t281.length co63 : Value).ownBlock ∧ some k_ ≠ (v285 : Value).ownBlock) v254 t253) := ⟨by (with_reducible repeat (first | apply Kd.R_alloc | apply Kd.R_drewN | apply Kd.R_drew)); exact Kd.R_mono (Kd.R_far (p := ⟨gb287, 2, none⟩) (Kd.R_far (p := ⟨gb287, 1, none⟩) (Kd.R_far (p := ⟨gb287, 0, none⟩) (Kd.R_types HO255.out BK287.out (by decide)) (fun _ hk => hk.2) (.slice Ao60 t277.length co60)) (fun _ hk => hk.2) (.int .i64 t280)) (fun _ hk => hk.2) (.slice Ao63 t281.length co63)) (fun _ hk => ⟨hk.1.1, ⟨hk.1.2.1, ⟨hk.1.2.2.1, ⟨hk.1.2.2.2.1, ⟨hk.1.2.2.2.2.1, ⟨hk.1.2.2.2.2.2.1, ⟨hk.1.2.2.2.2.2.2.1, ⟨hk.1.2.2.2.2.2.2.2.1, hk.1.2.2.2.2.2.2.2.2⟩⟩⟩⟩⟩⟩⟩⟩)⟩
          have n3_ : Aside0 (Kd.R (Kd.int .u8) 5 (((w59.setCell ⟨gb287, 0, none⟩ (.slice Ao60 t277.length co60)).setCell ⟨gb287, 1, none⟩ (.int .i64 t280)).setCell ⟨gb287, 2, none⟩ (.slice Ao63 t281.length co63)) w.heap.size (fun k_ => some k_ ≠ (.slice Ao39 t246.length co39 : Value).ownBlock ∧ some k_ ≠ (.slice Ao42 t250.length co42 : Value).ownBlock ∧ some k_ ≠ (v254 : Value).ownBlock ∧ some k_ ≠ (.slice Ao49 t261.length co49 : Value).ownBlock ∧ some k_ ≠ (v265 : Value).ownBlock ∧ some k_ ≠ (v275 : Value).ownBlock ∧ some k_ ≠ (.slice Ao60 t277.length co60 : Value).ownBlock ∧ some k_ ≠ (.slice Ao63 t281.length co63 : Value).ownBlock ∧ some k_ ≠ (v285 : Value).ownBlock) (.slice Ao45 t257.length co45) t257) := ⟨by (with_reducible repeat (first | apply Kd.R_alloc | apply Kd.R_drewN | apply Kd.R_drew)); exact Kd.R_mono (Kd.R_far (p := ⟨gb287, 2, none⟩) (Kd.R_far (p := ⟨gb287, 1, none⟩) (Kd.R_far (p := ⟨gb287, 0, none⟩) (Kd.R_types HO259.out BK287.out (by decide)) (fun _ hk => hk.2) (.slice Ao60 t277.length co60)) (fun _ hk => hk.2) (.int .i64 t280)) (fun _ hk => hk.2) (.slice Ao63 t281.length co63)) (fun _ hk => ⟨hk.1.1, ⟨hk.1.2.1, ⟨hk.1.2.2.1, ⟨hk.1.2.2.2.1, ⟨hk.1.2.2.2.2.1, ⟨hk.1.2.2.2.2.2.1, ⟨hk.1.2.2.2.2.2.2.1, ⟨hk.1.2.2.2.2.2.2.2.1, hk.1.2.2.2.2.2.2.2.2⟩⟩⟩⟩⟩⟩⟩⟩)⟩
          have n4_ : Aside0 (Kd.R (Kd.int .u8) 5 (((w59.setCell ⟨gb287, 0, none⟩ (.slice Ao60 t277.length co60)).setCell ⟨gb287, 1, none⟩ (.int .i64 t280)).setCell ⟨gb287, 2, none⟩ (.slice Ao63 t281.length co63)) w.heap.size (fun k_ => some k_ ≠ (.slice Ao39 t246.length co39 : Value).ownBlock ∧ some k_ ≠ (.slice Ao42 t250.length co42 : Value).ownBlock ∧ some k_ ≠ (v254 : Value).ownBlock ∧ some k_ ≠ (.slice Ao45 t257.length co45 : Value).ownBlock ∧ some k_ ≠ (v265 : Value).ownBlock ∧ some k_ ≠ (v275 : Value).ownBlock ∧ some k_ ≠ (.slice Ao60 t277.length co60 : Value).ownBlock ∧ some k_ ≠ (.slice Ao63 t281.length co63 : Value).ownBlock ∧ some k_ ≠ (v285 : Value).ownBlock) (.slice Ao49 t261.length co49) t261) := ⟨by (with_reducible repeat (first | apply Kd.R_alloc | apply Kd.R_drewN | apply Kd.R_drew)); exact Kd.R_mono (Kd.R_far (p := ⟨gb287, 2, none⟩) (Kd.R_far (p := ⟨gb287, 1, none⟩) (Kd.R_far (p := ⟨gb287, 0, none⟩) (Kd.R_types HO263.out BK287.out (by decide)) (fun _ hk => hk.2) (.slice Ao60 t277.length co60)) (fun _ hk => hk.2) (.int .i64 t280)) (fun _ hk => hk.2) (.slice Ao63 t281.length co63)) (fun _ hk => ⟨hk.1.1, ⟨hk.1.2.1, ⟨hk.1.2.2.1, ⟨hk.1.2.2.2.1, ⟨hk.1.2.2.2.2.1, ⟨hk.1.2.2.2.2.2.1, ⟨hk.1.2.2.2.2.2.2.1, ⟨hk.1.2.2.2.2.2.2.2.1, hk.1.2.2.2.2.2.2.2.2⟩⟩⟩⟩⟩⟩⟩⟩)⟩
          have n5_ : Aside0 (Kd.R (Kd.int .u8) 5 (((w59.setCell ⟨gb287, 0, none⟩ (.slice Ao60 t277.length co60)).setCell ⟨gb287, 1, none⟩ (.int .i64 t280)).setCell ⟨gb287, 2, none⟩ (.slice Ao63 t281.length co63)) w.heap.size (fun k_ => some k_ ≠ (.slice Ao39 t246.length co39 : Value).ownBlock ∧ some k_ ≠ (.slice Ao42 t250.length co42 : Value).ownBlock ∧ some k_ ≠ (v254 : Value).ownBlock ∧ some k_ ≠ (.slice Ao45 t257.length co45 : Value).ownBlock ∧ some k_ ≠ (.slice Ao49 t261.length co49 : Value).ownBlock ∧ some k_ ≠ (v275 : Value).ownBlock ∧ some k_ ≠ (.slice Ao60 t277.length co60 : Value).ownBlock ∧ some k_ ≠ (.slice Ao63 t281.length co63 : Value).ownBlock ∧ some k_ ≠ (v285 : Value).ownBlock) v265 t264) := ⟨by (with_reducible repeat (first | apply Kd.R_alloc | apply Kd.R_drewN | apply Kd.R_drew)); exact Kd.R_mono (Kd.R_far (p := ⟨gb287, 2, none⟩) (Kd.R_far (p := ⟨gb287, 1, none⟩) (Kd.R_far (p := ⟨gb287, 0, none⟩) (Kd.R_types HO266.out BK287.out (by decide)) (fun _ hk => hk.2) (.slice Ao60 t277.length co60)) (fun _ hk => hk.2) (.int .i64 t280)) (fun _ hk => hk.2) (.slice Ao63 t281.length co63)) (fun _ hk => ⟨hk.1.1, ⟨hk.1.2.1, ⟨hk.1.2.2.1, ⟨hk.1.2.2.2.1, ⟨hk.1.2.2.2.2.1, ⟨hk.1.2.2.2.2.2.1, ⟨hk.1.2.2.2.2.2.2.1, ⟨hk.1.2.2.2.2.2.2.2.1, hk.1.2.2.2.2.2.2.2.2⟩⟩⟩⟩⟩⟩⟩⟩)⟩
          have n6_ : Aside0 (Kd.R (Kd.int .u8) 5 (((w59.setCell ⟨gb287, 0, none⟩ (.slice Ao60 t277.length co60)).setCell ⟨gb287, 1, none⟩ (.int .i64 t280)).setCell ⟨gb287, 2, none⟩ (.slice Ao63 t281.length co63)) w.heap.size (fun k_ => some k_ ≠ (.slice Ao39 t246.length co39 : Value).ownBlock ∧ some k_ ≠ (.slice Ao42 t250.length co42 : Value).ownBlock ∧ some k_ ≠ (v254 : Value).ownBlock ∧ some k_ ≠ (.slice Ao45 t257.length co45 : Value).ownBlock ∧ some k_ ≠ (.slice Ao49 t261.length co49 : Value).ownBlock ∧ some k_ ≠ (v265 : Value).ownBlock ∧ some k_ ≠ (.slice Ao60 t277.length co60 : Value).ownBlock ∧ some k_ ≠ (.slice Ao63 t281.length co63 : Value).ownBlock ∧ some k_ ≠ (v285 : Value).ownBlock) v275 y274) := ⟨by (with_reducible repeat (first | apply Kd.R_alloc | apply Kd.R_drewN | apply Kd.R_drew)); exact Kd.R_mono (Kd.R_far (p := ⟨gb287, 2, none⟩) (Kd.R_far (p := ⟨gb287, 1, none⟩) (Kd.R_far (p := ⟨gb287, 0, none⟩) (Kd.R_types HO276.out BK287.out (by decide)) (fun _ hk => hk.2) (.slice Ao60 t277.length co60)) (fun _ hk => hk.2) (.int .i64 t280)) (fun _ hk => hk.2) (.slice Ao63 t281.length co63)) (fun _ hk => ⟨hk.1.1, ⟨hk.1.2.1, ⟨hk.1.2.2.1, ⟨hk.1.2.2.2.1, ⟨hk.1.2.2.2.2.1, ⟨hk.1.2.2.2.2.2.1, ⟨hk.1.2.2.2.2.2.2.1, ⟨hk.1.2.2.2.2.2.2.2.1, hk.1.2.2.2.2.2.2.2.2⟩⟩⟩⟩⟩⟩⟩⟩)⟩
          have n7_ : Aside0 (Kd.R (Kd.int .u8) 5 (((w59.setCell ⟨gb287, 0, none⟩ (.slice Ao60 t277.length co60)).setCell ⟨gb287, 1, none⟩ (.int .i64 t280)).setCell ⟨gb287, 2, none⟩ (.slice Ao63 t281.length co63)) w.heap.size (fun k_ => some k_ ≠ (.slice Ao39 t246.length co39 : Value).ownBlock ∧ some k_ ≠ (.slice Ao42 t250.length co42 : Value).ownBlock ∧ some k_ ≠ (v254 : Value).ownBlock ∧ some k_ ≠ (.slice Ao45 t257.length co45 : Value).ownBlock ∧ some k_ ≠ (.slice Ao49 t261.length co49 : Value).ownBlock ∧ some k_ ≠ (v265 : Value).ownBlock ∧ some k_ ≠ (v275 : Value).ownBlock ∧ some k_ ≠ (.slice Ao63 t281.length co63 : Value).ownBlock ∧ some k_ ≠ (v285 : Value).ownBlock) (.slice Ao60 t277.length co60) t277) := ⟨by (with_reducible repeat (first | apply Kd.R_alloc | apply Kd.R_drewN | apply Kd.R_drew)); exact Kd.R_mono (Kd.R_far (p := ⟨gb287, 2, none⟩) (Kd.R_far (p := ⟨gb287, 1, none⟩) (Kd.R_far (p := ⟨gb287, 0, none⟩) (Kd.R_types HO279.out BK287.out (by decide)) (fun _ hk => hk.2) (.slice Ao60 t277.length co60)) (fun _ hk => hk.2) (.int .i64 t280)) (fun _ hk => hk.2) (.slice Ao63 t281.length co63)) (fun _ hk => ⟨hk.1.1, ⟨hk.1.2.1, ⟨hk.1.2.2.1, ⟨hk.1.2.2.2.1, ⟨hk.1.2.2.2.2.1, ⟨hk.1.2.2.2.2.2.1, ⟨hk.1.2.2.2.2.2.2.1, ⟨hk.1.2.2.2.2.2.2.2.1, hk.1.2.2.2.2.2.2.2.2⟩⟩⟩⟩⟩⟩⟩⟩)⟩
          have n8_ : Aside0 (Kd.R (Kd.int .u8) 5 (((w59.setCell ⟨gb287, 0, none⟩ (.slice Ao60 t277.length co60)).setCell ⟨gb287, 1, none⟩ (.int .i64 t280)).setCell ⟨gb287, 2, none⟩ (.slice Ao63 t281.length co63)) w.heap.size (fun k_ => some k_ ≠ (.slice Ao39 t246.length co39 : Value).ownBlock ∧ some k_ ≠ (.slice Ao42 t250.length co42 : Value).ownBlock ∧ some k_ ≠ (v254 : Value).ownBlock ∧ some k_ ≠ (.slice Ao45 t257.length co45 : Value).ownBlock ∧ some k_ ≠ (.slice Ao49 t261.length co49 : Value).ownBlock ∧ some k_ ≠ (v265 : Value).ownBlock ∧ some k_ ≠ (v275 : Value).ownBlock ∧ some k_ ≠ (.slice Ao60 t277.length co60 : Value).ownBlock ∧ some k_ ≠ (v285 : Value).ownBlock) (.slice Ao63 t281.length co63) t281) := ⟨by (with_reducible repeat (first | apply Kd.R_alloc | apply Kd.R_drewN | apply Kd.R_drew)); exact Kd.R_mono (Kd.R_far (p := ⟨gb287, 2, none⟩) (Kd.R_far (p := ⟨gb287, 1, none⟩) (Kd.R_far (p := ⟨gb287, 0, none⟩) (Kd.R_types HO283.out BK287.out (by decide)) (fun _ hk => hk.2) (.slice Ao60 t277.length co60)) (fun _ hk => hk.2) (.int .i64 t280)) (fun _ hk => hk.2) (.slice Ao63 t281.length co63)) (fun _ hk => ⟨hk.1.1, ⟨hk.1.2.1, ⟨hk.1.2.2.1, ⟨hk.1.2.2.2.1, ⟨hk.1.2.2.2.2.1, ⟨hk.1.2.2.2.2.2.1, ⟨hk.1.2.2.2.2.2.2.1, ⟨hk.1.2.2.2.2.2.2.2.1, hk.1.2.2.2.2.2.2.2.2⟩⟩⟩⟩⟩⟩⟩⟩)⟩
          have n9_ : Aside0 (Kd.R (Kd.int .u8) 5 (((w59.setCell ⟨gb287, 0, none⟩ (.slice Ao60 t277.length co60)).setCell ⟨gb287, 1, none⟩ (.int .i64 t280)).setCell ⟨gb287, 2, none⟩ (.slice Ao63 t281.length co63)) w.heap.size (fun k_ => some k_ ≠ (.slice Ao39 t246.length co39 : Value).ownBlock ∧ some k_ ≠ (.slice Ao42 t250.length co42 : Value).ownBlock ∧ some k_ ≠ (v254 : Value).ownBlock ∧ some k_ ≠ (.slice Ao45 t257.length co45 : Value).ownBlock ∧ some k_ ≠ (.slice Ao49 t261.length co49 : Value).ownBlock ∧ some k_ ≠ (v265 : Value).ownBlock ∧ some k_ ≠ (v275 : Value).ownBlock ∧ some k_ ≠ (.slice Ao60 t277.length co60 : Value).ownBlock ∧ some k_ ≠ (.slice Ao63 t281.length co63 : Value).ownBlock) v285 t284) := ⟨by (with_reducible repeat (first | apply Kd.R_alloc | apply Kd.R_drewN | apply Kd.R_drew)); exact Kd.R_mono (Kd.R_far (p := ⟨gb287, 2, none⟩) (Kd.R_far (p := ⟨gb287, 1, none⟩) (Kd.R_far (p := ⟨gb287, 0, none⟩) (Kd.R_types HO286.out BK287.out (by decide)) (fun _ hk => hk.2) (.slice Ao60 t277.length co60)) (fun _ hk => hk.2) (.int .i64 t280)) (fun _ hk => hk.2) (.slice Ao63 t281.length co63)) (fun _ hk => ⟨hk.1.1, ⟨hk.1.2.1, ⟨hk.1.2.2.1, ⟨hk.1.2.2.2.1, ⟨hk.1.2.2.2.2.1, ⟨hk.1.2.2.2.2.2.1, ⟨hk.1.2.2.2.2.2.2.1, ⟨hk.1.2.2.2.2.2.2.2.1, hk.1.2.2.2.2.2.2.2.2⟩⟩⟩⟩⟩⟩⟩⟩)⟩
          have n10_ : Aside0 ((((w59.setCell ⟨gb287, 0, none⟩ (.slice Ao60 t277.length co60)).setCell ⟨gb287, 1, none⟩ (.int .i64 t280)).setCell ⟨gb287, 2, none⟩ (.slice Ao63 t281.length co63)).heap[gb243]? = some (.cells #[.slice A0_0 l0_0.length c0_0, .int .i64 a0_1, .slice A0_2 l0_2.length c0_2] 24 (0, 0))) := ⟨by (with_reducible repeat (first | refine blk_drewN ?_ _ | refine blk_drew ?_ | refine blk_alloc ?_ _)); refine blk_far ?_ NB243_287.out _; (with_reducible repeat (first | refine blk_drewN ?_ _ | refine blk_drew ?_ | refine blk_alloc ?_ _)); refine blk_far ?_ NB243_287.out _; (with_reducible repeat (first | refine blk_drewN ?_ _ | refine blk_drew ?_ | refine blk_alloc ?_ _)); refine blk_far ?_ NB243_287.out _; (with_reducible repeat (first | refine blk_drewN ?_ _ | refine blk_drew ?_ | refine blk_alloc ?_ _)); exact BK243.out⟩
          have n11_ : Aside0 ((((w59.setCell ⟨gb287, 0, none⟩ (.slice Ao60 t277.length co60)).setCell ⟨gb287, 1, none⟩ (.int .i64 t280)).setCell ⟨gb287, 2, none⟩ (.slice Ao63 t281.length co63)).heap[gb256]? = some (.cells #[.slice Ao39 t246.length co39, .int .i64 t249, .slice Ao42 t250.length co42] 24 (0, 0))) := ⟨by (with_reducible repeat (first | refine blk_drewN ?_ _ | refine blk_drew ?_ | refine blk_alloc ?_ _)); refine blk_far ?_ NB256_287.out _; (with_reducible repeat (first | refine blk_drewN ?_ _ | refine blk_drew ?_ | refine blk_alloc ?_ _)); refine blk_far ?_ NB256_287.out _; (with_reducible repeat (first | refine blk_drewN ?_ _ | refine blk_drew ?_ | refine blk_alloc ?_ _)); refine blk_far ?_ NB256_287.out _; (with_reducible repeat (first | refine blk_drewN ?_ _ | refine blk_drew ?_ | refine blk_alloc ?_ _)); exact BK256.out⟩
          have n12_ : Aside0 ((((w59.setCell ⟨gb287, 0, none⟩ (.slice Ao60 t277.length co60)).setCell ⟨gb287, 1, none⟩ (.int .i64 t280)).setCell ⟨gb287, 2, none⟩ (.slice Ao63 t281.length co63)).heap[gb267]? = some (.cells #[.slice Ao45 t257.length co45, .int .i64 t260, .slice Ao49 t261.length co49] 24 (0, 0))) := ⟨by (with_reducible repeat (first | refine blk_drewN ?_ _ | refine blk_drew ?_ | refine blk_alloc ?_ _)); refine blk_far ?_ NB267_287.out _; (with_reducible repeat (first | refine blk_drewN ?_ _ | refine blk_drew ?_ | refine blk_alloc ?_ _)); refine blk_far ?_ NB267_287.out _; (with_reducible repeat (first | refine blk_drewN ?_ _ | refine blk_drew ?_ | refine blk_alloc ?_ _)); refine blk_far ?_ NB267_287.out _; (with_reducible repeat (first | refine blk_drewN ?_ _ | refine blk_drew ?_ | refine blk_alloc ?_ _)); exact BK267.out⟩
          have n13_ : Aside0 ((((w59.setCell ⟨gb287, 0, none⟩ (.slice Ao60 t277.length co60)).setCell ⟨gb287, 1, none⟩ (.int .i64 t280)).setCell ⟨gb287, 2, none⟩ (.slice Ao63 t281.length co63)).heap[gb287]? = some (.cells #[.slice Ao60 t277.length co60, .int .i64 t280, .slice Ao63 t281.length co63] 24 (0, 0))) := ⟨by (with_reducible repeat (first | refine blk_drewN ?_ _ | refine blk_drew ?_ | refine blk_alloc ?_ _)); refine blk_put (cs := #[.slice Ao60 t277.length co60, .int .i64 t280, .slice none 0 0]) ?_ 2 _ rfl; (with_reducible repeat (first | refine blk_drewN ?_ _ | refine blk_drew ?_ | refine blk_alloc ?_ _)); refine blk_put (cs := #[.slice Ao60 t277.length co60, .int .i64 0, .slice none 0 0]) ?_ 1 _ rfl; (with_reducible repeat (first | refine blk_drewN ?_ _ | refine blk_drew ?_ | refine blk_alloc ?_ _)); refine blk_put (cs := #[.slice none 0 0, .int .i64 0, .slice none 0 0]) ?_ 0 _ rfl; (with_reducible repeat (first | refine blk_drewN ?_ _ | refine blk_drew ?_ | refine blk_alloc ?_ _)); exact BK287.out⟩
          have n14_ : Aside0 (Below w.heap.size w (((w59.setCell ⟨gb287, 0, none⟩ (.slice Ao60 t277.length co60)).setCell ⟨gb287, 1, none⟩ (.int .i64 t280)).setCell ⟨gb287, 2, none⟩ (.slice Ao63 t281.length co63))) := ⟨by repeat (first | (with_reducible first | exact HB.out | apply below_alloc | apply pw_below_drewN | apply below_drew1 | refine below_set ?_ GE243.out | refine below_set ?_ GE256.out | refine below_set ?_ GE267.out | refine below_set ?_ GE287.out) | exact HB.out)⟩
          (try clear HO248)
          (try clear HO252)
          (try clear HO255)
          (try clear HO259)
          (try clear HO263)
          (try clear HO266)
          (try clear HO276)
          (try clear HO279)
          (try clear HO283)
          (try clear HO286)
          (try clear BK243)
          (try clear BK256)
          (try clear BK267)
          (try clear BK287)
          (try clear HB)
          generalize (((w59.setCell ⟨gb287, 0, none⟩ (.slice Ao60 t277.length co60)).setCell ⟨gb287, 1, none⟩ (.int .i64 t280)).setCell ⟨gb287, 2, none⟩ (.slice Ao63 t281.length co63)) = w65 at n0_ n1_ n2_ n3_ n4_ n5_ n6_ n7_ n8_ n9_ n10_ n11_ n12_ n13_ n14_ ⊢
          have HO248 := n0_; have HO252 := n1_; have HO255 := n2_; have HO259 := n3_; have HO263 := n4_; have HO266 := n5_; have HO276 := n6_; have HO279 := n7_; have HO283 := n8_; have HO286 := n9_; have BK243 := n10_; have BK256 := n11_; have BK267 := n12_; have BK287 := n13_; have HB := n14_
          clear n0_ n1_ n2_ n3_ n4_ n5_ n6_ n7_ n8_ n9_ n10_ n11_ n12_ n13_ n14_
          have n0_ := Aside0.mk (Kd.R_drew HO248.out)
          have n1_ := Aside0.mk (Kd.R_drew HO252.out)
          have n2_ := Aside0.mk (Kd.R_drew HO255.out)
          have n3_ := Aside0.mk (Kd.R_drew HO259.out)
          have n4_ := Aside0.mk (Kd.R_drew HO263.out)
          have n5_ := Aside0.mk (Kd.R_drew HO266.out)
          have n6_ := Aside0.mk (Kd.R_drew HO276.out)
          have n7_ := Aside0.mk (Kd.R_drew HO279.out)
          have n8_ := Aside0.mk (Kd.R_drew HO283.out)
          have n9_ := Aside0.mk (Kd.R_drew HO286.out)
          have n10_ := Aside0.mk (blk_drew BK243.out)
          have n11_ := Aside0.mk (blk_drew BK256.out)
          have n12_ := Aside0.mk (blk_drew BK267.out)
          have n13_ := Aside0.mk (blk_drew BK287.out)
          have n14_ := Aside0.mk (below_drew1 HB.out)
          clear HO248 HO252 HO255 HO259 HO263 HO266 HO276 HO279 HO283 HO286 BK243 BK256 BK267 BK287 HB
          have HO248 := n0_; have HO252 := n1_; have HO255 := n2_; have HO259 := n3_; have HO263 := n4_; have HO266 := n5_; have HO276 := n6_; have HO279 := n7_; have HO283 := n8_; have HO286 := n9_; have BK243 := n10_; have BK256 := n11_; have BK267 := n12_; have BK287 := n13_; have HB := n14_
          clear n0_ n1_ n2_ n3_ n4_ n5_ n6_ n7_ n8_ n9_ n10_ n11_ n12_ n13_ n14_
          refine start_ (n := 20) (S := fun w' => w'.cell? ⟨gb267, 0, none⟩ = some (.slice Ao45 t257.length co45) ∧ w'.cell? ⟨gb267, 1, none⟩ = some (.int .i64 t260) ∧ w'.cell? ⟨gb267, 2, none⟩ = some (.slice Ao49 t261.length co49) ∧ w'.cell? ⟨gb287, 0, none⟩ = some (.slice Ao60 t277.length co60) ∧ w'.cell? ⟨gb287, 1, none⟩ = some (.int .i64 t280) ∧ w'.cell? ⟨gb287, 2, none⟩ = some (.slice Ao63 t281.length co63) ∧ w'.cell? ⟨gb243, 0, none⟩ = some (.slice A0_0 l0_0.length c0_0) ∧ w'.cell? ⟨gb243, 1, none⟩ = some (.int .i64 a0_1) ∧ w'.cell? ⟨gb243, 2, none⟩ = some (.slice A0_2 l0_2.length c0_2) ∧ w'.cell? ⟨gb256, 0, none⟩ = some (.slice Ao39 t246.length co39) ∧ w'.cell? ⟨gb256, 1, none⟩ = some (.int .i64 t249) ∧ w'.cell? ⟨gb256, 2, none⟩ = some (.slice Ao42 t250.length co42)) (ds := []) #[false, false, false, false, false, false, false, false, false, false, false, false, false, false, false, false, false, false, false, false] (by kernel_rfl) rfl rfl ⟨(blk_cell BK267.out 0).trans rfl, (blk_cell BK267.out 1).trans rfl, (blk_cell BK267.out 2).trans rfl, (blk_cell BK287.out 0).trans rfl, (blk_cell BK287.out 1).trans rfl, (blk_cell BK287.out 2).trans rfl, (blk_cell BK243.out 0).trans rfl, (blk_cell BK243.out 1).trans rfl, (blk_cell BK243.out 2).trans rfl, (blk_cell BK256.out 0).trans rfl, (blk_cell BK256.out 1).trans rfl, (blk_cell BK256.out 2).trans rfl⟩ (fun hHeld => ?_); refine with_tabW capnplaw24_PackstreamSplit.tab6 capnplaw24_PackstreamSplit.bits6 (fun HT_ HW_ => ?_)
          generalize w65.drew = w66 at HO248 HO252 HO255 HO259 HO263 HO266 HO276 HO279 HO283 HO286 BK243 BK256 BK267 BK287 HB hHeld ⊢
          refine take_ (i := 0) (N := some 60) (v := ?_) (a' := ?_) #[true, false, false, false, false, false, false, false, false, false, false, false, false, false, false, false, false, false, false, false] rfl rfl (take_ofW HT_.out HW_.out (by kernel_rfl)) (fun _ _ _ h => h) (Or.inl ⟨by rfl, ?_⟩) hHeld ?_ ?_
          rotate_left
          ·rintro w' ⟨s0, s1, s2, s3, s4, s5, s6, s7, s8, s9, s10, s11⟩
           go_simp
           with_reducible rfl
          rotate_left
          ·simp only [Act.put, List.setIfInBounds_toArray, List.set_cons_zero, List.set_cons_succ, i64_w, i32_w]
           rfl
          refine take_ (i := 1) (N := some 61) (v := ?_) (a' := ?_) #[true, true, false, false, false, false, false, false, false, false, false, false, false, false, false, false, false, false, false, false] rfl rfl (take_ofW HT_.out HW_.out (by kernel_rfl)) (fun _ _ _ h => h) (Or.inl ⟨by rfl, ?_⟩) hHeld ?_ ?_
          rotate_left
          ·rintro w' ⟨s0, s1, s2, s3, s4, s5, s6, s7, s8, s9, s10, s11⟩
           go_simp
           with_reducible rfl
          rotate_left
          ·simp only [Act.put, List.setIfInBounds_toArray, List.set_cons_zero, List.set_cons_succ, i64_w, i32_w]
           rfl
          refine one_ (i := 2) (N := some 62) #[true, true, true, false, false, false, false, false, false, false, false, false, false, false, false, false, false, false, false, false] rfl rfl (one_of HT_.out (by kernel_rfl)) (by decide) (fun K hK => ?_)
          refine goes_ Try.func12 (by kernel_rfl) rfl #[.agg #[.slice Ao45 t257.length co45, .int .i64 t260, .slice Ao49 t261.length co49], .agg #[.slice Ao60 t277.length co60, .int .i64 t280, .slice Ao63 t281.length co63]] (by rfl) rfl rfl pM ?_
          with_reducible refine (capnpref24_Same.calls kj3 _ _ t257 t260 _ _ t261 _ _ t277 t280 _ _ t281 true _ ?side1 ?side2 ?side3 ?side4 ?side5 ?side6 ?side7 ?side8 A28.out).mono ?_
          (case side1 => repeat (first | exact (Kd.R_reads' HO259.out).2.2 | (with_reducible refine Kd.C_alloc ?_ _) | (with_reducible refine Kd.C_drewN ?_ _) | (with_reducible refine Kd.C_drew ?_)))
          (case side2 => exact (Kd.R_reads' HO259.out).2.1)
          (case side3 => repeat (first | exact (Kd.R_reads' HO263.out).2.2 | (with_reducible refine Kd.C_alloc ?_ _) | (with_reducible refine Kd.C_drewN ?_ _) | (with_reducible refine Kd.C_drew ?_)))
          (case side4 => exact (Kd.R_reads' HO263.out).2.1)
          (case side5 => repeat (first | exact (Kd.R_reads' HO279.out).2.2 | (with_reducible refine Kd.C_alloc ?_ _) | (with_reducible refine Kd.C_drewN ?_ _) | (with_reducible refine Kd.C_drew ?_)))
          (case side6 => exact (Kd.R_reads' HO279.out).2.1)
          (case side7 => repeat (first | exact (Kd.R_reads' HO283.out).2.2 | (with_reducible refine Kd.C_alloc ?_ _) | (with_reducible refine Kd.C_drewN ?_ _) | (with_reducible refine Kd.C_drew ?_)))
          (case side8 => exact (Kd.R_reads' HO283.out).2.1)
          rintro e w67 ⟨rfl, hb⟩
          refine ⟨_, rfl, ?_⟩
          have n0_ := Aside0.mk (Kd.R_below (pR HO248) hb)
          have n1_ := Aside0.mk (Kd.R_below (pR HO252) hb)
          have n2_ := Aside0.mk (Kd.R_below (pR HO255) hb)
          have n3_ := Aside0.mk (Kd.R_below (pR HO259) hb)
          have n4_ := Aside0.mk (Kd.R_below (pR HO263) hb)
          have n5_ := Aside0.mk (Kd.R_below (pR HO266) hb)
          have n6_ := Aside0.mk (Kd.R_below (pR HO276) hb)
          have n7_ := Aside0.mk (Kd.R_below (pR HO279) hb)
          have n8_ := Aside0.mk (Kd.R_below (pR HO283) hb)
          have n9_ := Aside0.mk (Kd.R_below (pR HO286) hb)
          have n10_ := Aside0.mk (blk_below (g := gb243) (o := .cells #[.slice A0_0 l0_0.length c0_0, .int .i64 a0_1, .slice A0_2 l0_2.length c0_2] 24 (0, 0)) (pK BK243) hb)
          have n11_ := Aside0.mk (blk_below (g := gb256) (o := .cells #[.slice Ao39 t246.length co39, .int .i64 t249, .slice Ao42 t250.length co42] 24 (0, 0)) (pK BK256) hb)
          have n12_ := Aside0.mk (blk_below (g := gb267) (o := .cells #[.slice Ao45 t257.length co45, .int .i64 t260, .slice Ao49 t261.length co49] 24 (0, 0)) (pK BK267) hb)
          have n13_ := Aside0.mk (blk_below (g := gb287) (o := .cells #[.slice Ao60 t277.length co60, .int .i64 t280, .slice Ao63 t281.length co63] 24 (0, 0)) (pK BK287) hb)
          have n14_ := Aside0.mk (below_step pS hb)
          clear HO248 HO252 HO255 HO259 HO263 HO266 HO276 HO279 HO283 HO286 BK243 BK256 BK267 BK287 HB
          have HO248 := n0_; have HO252 := n1_; have HO255 := n2_; have HO259 := n3_; have HO263 := n4_; have HO266 := n5_; have HO276 := n6_; have HO279 := n7_; have HO283 := n8_; have HO286 := n9_; have BK243 := n10_; have BK256 := n11_; have BK267 := n12_; have BK287 := n13_; have HB := n14_
          clear n0_ n1_ n2_ n3_ n4_ n5_ n6_ n7_ n8_ n9_ n10_ n11_ n12_ n13_ n14_
          (try clear hb)
          (try clear hb2)
          (try clear hk)
          (try clear hi)
          refine hK.out _ _ ⟨(blk_cell BK267.out 0).trans rfl, (blk_cell BK267.out 1).trans rfl, (blk_cell BK267.out 2).trans rfl, (blk_cell BK287.out 0).trans rfl, (blk_cell BK287.out 1).trans rfl, (blk_cell BK287.out 2).trans rfl, (blk_cell BK243.out 0).trans rfl, (blk_cell BK243.out 1).trans rfl, (blk_cell BK243.out 2).trans rfl, (blk_cell BK256.out 0).trans rfl, (blk_cell BK256.out 1).trans rfl, (blk_cell BK256.out 2).trans rfl⟩ (fun hHeld => ?_)
          clear hK K
          refine norm_ (a' := ?_) ?_ ?_
          rotate_left
          ·show Act.put _ (some 62) _ = _
           simp only [Act.put, List.setIfInBounds_toArray, List.set_cons_zero, List.set_cons_succ, i64_w, i32_w]
           rfl
          refine pure_ (i := 3) (N := some 63) (v := ?_) (a' := ?_) #[true, true, true, true, false, false, false, false, false, false, false, false, false, false, false, false, false, false, false, false] rfl rfl (any_of HT_.out (by kernel_rfl)) (fun _ _ _ h => h) (Or.inl ⟨by rfl, ?_⟩) ?_ ?_
          rotate_left
          ·intro w'
           go_simp
           with_reducible rfl
          rotate_left
          ·simp only [Act.put, List.setIfInBounds_toArray, List.set_cons_zero, List.set_cons_succ, i64_w, i32_w]
           rfl
          refine pure_ (i := 5) (N := some 65) (v := ?_) (a' := ?_) #[true, true, true, true, false, true, false, false, false, false, false, false, false, false, false, false, false, false, false, false] rfl rfl (any_of HT_.out (by kernel_rfl)) (fun _ _ _ h => h) (Or.inl ⟨by rfl, ?_⟩) ?_ ?_
          rotate_left
          ·intro w'
           go_simp
           with_reducible rfl
          rotate_left
          ·simp only [Act.put, List.setIfInBounds_toArray, List.set_cons_zero, List.set_cons_succ, i64_w, i32_w]
           rfl
          refine pure_ (i := 7) (N := some 67) (v := ?_) (a' := ?_) #[true, true, true, true, false, true, false, true, false, false, false, false, false, false, false, false, false, false, false, false] rfl rfl (any_of HT_.out (by kernel_rfl)) (fun _ _ _ h => h) (Or.inl ⟨by rfl, ?_⟩) ?_ ?_
          rotate_left
          ·intro w'
           go_simp
           with_reducible rfl
          rotate_left
          ·simp only [Act.put, List.setIfInBounds_toArray, List.set_cons_zero, List.set_cons_succ, i64_w, i32_w]
           rfl
          refine pure_ (i := 9) (N := some 69) (v := ?_) (a' := ?_) #[true, true, true, true, false, true, false, true, false, true, false, false, false, false, false, false, false, false, false, false] rfl rfl (any_of HT_.out (by kernel_rfl)) (fun _ _ _ h => h) (Or.inl ⟨by rfl, ?_⟩) ?_ ?_
          rotate_left
          ·intro w'
           go_simp
           with_reducible rfl
          rotate_left
          ·simp only [Act.put, List.setIfInBounds_toArray, List.set_cons_zero, List.set_cons_succ, i64_w, i32_w]
           rfl
          refine one_ (i := 4) (N := some 64) #[true, true, true, true, true, true, false, true, false, true, false, false, false, false, false, false, false, false, false, false] rfl rfl (one_of HT_.out (by kernel_rfl)) (by decide) (fun K hK => ?_)
          refine Kd.R_lit_step (Kd.int .u8) _ 5 ?hg (N := 64) ?hd (xs := ([] : List Int)) (inner := []) (ok := fun _ => True) (okp := fun _ => True) ?hr ?hp (fun _ hk => hk) trivial (Below.refl _ _) (Nat.le_refl _) (by simp) ?_; (case hd => rfl); (case hg => rfl); (case hr => first | (go_simp; done) | (go_simp; rfl)); (case hp => exact (Reps.none _ _))
          intro v290 w68 ho69 hb hg_ hnew_
          clear hg_ hnew_
          (first | rw [← Ny289.out] at ho69 | (simp only [Int.reduceToNat] at ho69; rw [← Ny289.out] at ho69))
          have n0_ := Aside0.mk (Kd.R_elder' (pR HO248) (Kd.R_base ho69) hb)
          have n1_ := Aside0.mk (Kd.R_elder' (pR HO252) (Kd.R_base ho69) hb)
          have n2_ := Aside0.mk (Kd.R_elder' (pR HO255) (Kd.R_base ho69) hb)
          have n3_ := Aside0.mk (Kd.R_elder' (pR HO259) (Kd.R_base ho69) hb)
          have n4_ := Aside0.mk (Kd.R_elder' (pR HO263) (Kd.R_base ho69) hb)
          have n5_ := Aside0.mk (Kd.R_elder' (pR HO266) (Kd.R_base ho69) hb)
          have n6_ := Aside0.mk (Kd.R_elder' (pR HO276) (Kd.R_base ho69) hb)
          have n7_ := Aside0.mk (Kd.R_elder' (pR HO279) (Kd.R_base ho69) hb)
          have n8_ := Aside0.mk (Kd.R_elder' (pR HO283) (Kd.R_base ho69) hb)
          have n9_ := Aside0.mk (Kd.R_elder' (pR HO286) (Kd.R_base ho69) hb)
          have n10_ := Aside0.mk (Kd.R_lower (Kd.R_new' (Kd.R_new' (Kd.R_new' (Kd.R_new' (Kd.R_new' (Kd.R_new' (Kd.R_new' (Kd.R_new' (Kd.R_new' (Kd.R_new' ho69 (Kd.R_lt (pR HO248))) (Kd.R_lt (pR HO252))) (Kd.R_lt (pR HO255))) (Kd.R_lt (pR HO259))) (Kd.R_lt (pR HO263))) (Kd.R_lt (pR HO266))) (Kd.R_lt (pR HO276))) (Kd.R_lt (pR HO279))) (Kd.R_lt (pR HO283))) (Kd.R_lt (pR HO286))) (below_size pS))
          have n11_ := Aside0.mk (blk_below (g := gb243) (o := .cells #[.slice A0_0 l0_0.length c0_0, .int .i64 a0_1, .slice A0_2 l0_2.length c0_2] 24 (0, 0)) (pK BK243) hb)
          have n12_ := Aside0.mk (blk_below (g := gb256) (o := .cells #[.slice Ao39 t246.length co39, .int .i64 t249, .slice Ao42 t250.length co42] 24 (0, 0)) (pK BK256) hb)
          have n13_ := Aside0.mk (blk_below (g := gb267) (o := .cells #[.slice Ao45 t257.length co45, .int .i64 t260, .slice Ao49 t261.length co49] 24 (0, 0)) (pK BK267) hb)
          have n14_ := Aside0.mk (blk_below (g := gb287) (o := .cells #[.slice Ao60 t277.length co60, .int .i64 t280, .slice Ao63 t281.length co63] 24 (0, 0)) (pK BK287) hb)
          have n15_ := Aside0.mk (below_step pS hb)
          clear HO248 HO252 HO255 HO259 HO263 HO266 HO276 HO279 HO283 HO286 BK243 BK256 BK267 BK287 HB
          have HO248 := n0_; have HO252 := n1_; have HO255 := n2_; have HO259 := n3_; have HO263 := n4_; have HO266 := n5_; have HO276 := n6_; have HO279 := n7_; have HO283 := n8_; have HO286 := n9_; have HO291 := n10_; have BK243 := n11_; have BK256 := n12_; have BK267 := n13_; have BK287 := n14_; have HB := n15_
          clear n0_ n1_ n2_ n3_ n4_ n5_ n6_ n7_ n8_ n9_ n10_ n11_ n12_ n13_ n14_ n15_ hb ho69
          obtain ⟨Ao71, co71, eo71⟩ := Kd.R_slice HO255.out
          (first | subst eo71 | (injection eo71 with f1_ f2_ f3_; have f4_ := f1_.symm; have f5_ := f3_.symm; clear f1_ f2_ f3_; subst f4_; subst f5_))
          refine hK.out _ _ ⟨(blk_cell BK267.out 0).trans rfl, (blk_cell BK267.out 1).trans rfl, (blk_cell BK267.out 2).trans rfl, (blk_cell BK287.out 0).trans rfl, (blk_cell BK287.out 1).trans rfl, (blk_cell BK287.out 2).trans rfl, (blk_cell BK243.out 0).trans rfl, (blk_cell BK243.out 1).trans rfl, (blk_cell BK243.out 2).trans rfl, (blk_cell BK256.out 0).trans rfl, (blk_cell BK256.out 1).trans rfl, (blk_cell BK256.out 2).trans rfl⟩ (fun hHeld => ?_)
          clear hK K
          refine norm_ (a' := ?_) ?_ ?_
          rotate_left
          ·show Act.put _ (some 64) _ = _
           simp only [Act.put, List.setIfInBounds_toArray, List.set_cons_zero, List.set_cons_succ, i64_w, i32_w]
           rfl
          refine one_ (i := 6) (N := some 66) #[true, true, true, true, true, true, true, true, false, true, false, false, false, false, false, false, false, false, false, false] rfl rfl (one_of HT_.out (by kernel_rfl)) (by decide) (fun K hK => ?_)
          refine Kd.R_append_rows_step (Kd.int .u8) (w0 := w) w.heap.size (by rfl) (.tmp 64) (.tmp 65) 22 5 (.int .u8 0) 1 rfl Try.underlying22 info5 rfl (by decide) (by omega) v290 y289 t253 _ _ _ (fun k_ => some k_ ≠ (.slice Ao39 t246.length co39 : Value).ownBlock ∧ some k_ ≠ (.slice Ao42 t250.length co42 : Value).ownBlock ∧ some k_ ≠ (.slice Ao71 t253.length co71 : Value).ownBlock ∧ some k_ ≠ (.slice Ao45 t257.length co45 : Value).ownBlock ∧ some k_ ≠ (.slice Ao49 t261.length co49 : Value).ownBlock ∧ some k_ ≠ (v265 : Value).ownBlock ∧ some k_ ≠ (v275 : Value).ownBlock ∧ some k_ ≠ (.slice Ao60 t277.length co60 : Value).ownBlock ∧ some k_ ≠ (.slice Ao63 t281.length co63 : Value).ownBlock ∧ some k_ ≠ (v285 : Value).ownBlock) (fun _ => False) rfl rfl ?aO ?aR (fun _ _ h => h) (fun _ h => h.elim) ?aF ?aB ?aS ?aL ?_
          (case aR => repeat (first | exact (Kd.R_reads' HO255.out).2.2 | (with_reducible refine Kd.C_alloc ?_ _) | (with_reducible refine Kd.C_drewN ?_ _) | (with_reducible refine Kd.C_drew ?_)))
          (case aB => exact pS)
          (case aF => exact (fun k_ hk => ⟨Kd.fresh' (Kd.R_lt (pR HO248)) k_ hk, Kd.fresh' (Kd.R_lt (pR HO252)) k_ hk, Kd.fresh' (Kd.R_lt (pR HO255)) k_ hk, Kd.fresh' (Kd.R_lt (pR HO259)) k_ hk, Kd.fresh' (Kd.R_lt (pR HO263)) k_ hk, Kd.fresh' (Kd.R_lt (pR HO266)) k_ hk, Kd.fresh' (Kd.R_lt (pR HO276)) k_ hk, Kd.fresh' (Kd.R_lt (pR HO279)) k_ hk, Kd.fresh' (Kd.R_lt (pR HO283)) k_ hk, Kd.fresh' (Kd.R_lt (pR HO286)) k_ hk⟩))
          (case aO => exact (pQ HO291))
          (case aS => exact (below_size pS))
          (case aL => have := LMc30.out; omega)
          intro v293 w70 ho hb hg hat
          rw [← Ny292.out] at ho
          have n0_ := Aside0.mk (blk_grown (g := gb243) (o := .cells #[.slice A0_0 l0_0.length c0_0, .int .i64 a0_1, .slice A0_2 l0_2.length c0_2] 24 (0, 0)) (pK BK243) hg (Kd.R_ne HO291.out BK243.out (by decide)))
          have n1_ := Aside0.mk (Kd.R_after (ok := (fun k_ => some k_ ≠ (.slice Ao42 t250.length co42 : Value).ownBlock ∧ some k_ ≠ (.slice Ao71 t253.length co71 : Value).ownBlock ∧ some k_ ≠ (.slice Ao45 t257.length co45 : Value).ownBlock ∧ some k_ ≠ (.slice Ao49 t261.length co49 : Value).ownBlock ∧ some k_ ≠ (v265 : Value).ownBlock ∧ some k_ ≠ (v275 : Value).ownBlock ∧ some k_ ≠ (.slice Ao60 t277.length co60 : Value).ownBlock ∧ some k_ ≠ (.slice Ao63 t281.length co63 : Value).ownBlock ∧ some k_ ≠ (v285 : Value).ownBlock)) (pR HO248) hg hat)
          have n2_ := Aside0.mk (Kd.R_after (ok := (fun k_ => some k_ ≠ (.slice Ao39 t246.length co39 : Value).ownBlock ∧ some k_ ≠ (.slice Ao71 t253.length co71 : Value).ownBlock ∧ some k_ ≠ (.slice Ao45 t257.length co45 : Value).ownBlock ∧ some k_ ≠ (.slice Ao49 t261.length co49 : Value).ownBlock ∧ some k_ ≠ (v265 : Value).ownBlock ∧ some k_ ≠ (v275 : Value).ownBlock ∧ some k_ ≠ (.slice Ao60 t277.length co60 : Value).ownBlock ∧ some k_ ≠ (.slice Ao63 t281.length co63 : Value).ownBlock ∧ some k_ ≠ (v285 : Value).ownBlock)) (pR HO252) hg hat)
          have n3_ := Aside0.mk (Kd.R_after (ok := (fun k_ => some k_ ≠ (.slice Ao39 t246.length co39 : Value).ownBlock ∧ some k_ ≠ (.slice Ao42 t250.length co42 : Value).ownBlock ∧ some k_ ≠ (.slice Ao45 t257.length co45 : Value).ownBlock ∧ some k_ ≠ (.slice Ao49 t261.length co49 : Value).ownBlock ∧ some k_ ≠ (v265 : Value).ownBlock ∧ some k_ ≠ (v275 : Value).ownBlock ∧ some k_ ≠ (.slice Ao60 t277.length co60 : Value).ownBlock ∧ some k_ ≠ (.slice Ao63 t281.length co63 : Value).ownBlock ∧ some k_ ≠ (v285 : Value).ownBlock)) (pR HO255) hg hat)
          have n4_ := Aside0.mk (blk_grown (g := gb256) (o := .cells #[.slice Ao39 t246.length co39, .int .i64 t249, .slice Ao42 t250.length co42] 24 (0, 0)) (pK BK256) hg (Kd.R_ne HO291.out BK256.out (by decide)))
          have n5_ := Aside0.mk (Kd.R_after (ok := (fun k_ => some k_ ≠ (.slice Ao39 t246.length co39 : Value).ownBlock ∧ some k_ ≠ (.slice Ao42 t250.length co42 : Value).ownBlock ∧ some k_ ≠ (.slice Ao71 t253.length co71 : Value).ownBlock ∧ some k_ ≠ (.slice Ao49 t261.length co49 : Value).ownBlock ∧ some k_ ≠ (v265 : Value).ownBlock ∧ some k_ ≠ (v275 : Value).ownBlock ∧ some k_ ≠ (.slice Ao60 t277.length co60 : Value).ownBlock ∧ some k_ ≠ (.slice Ao63 t281.length co63 : Value).ownBlock ∧ some k_ ≠ (v285 : Value).ownBlock)) (pR HO259) hg hat)
          have n6_ := Aside0.mk (Kd.R_after (ok := (fun k_ => some k_ ≠ (.slice Ao39 t246.length co39 : Value).ownBlock ∧ some k_ ≠ (.slice Ao42 t250.length co42 : Value).ownBlock ∧ some k_ ≠ (.slice Ao71 t253.length co71 : Value).ownBlock ∧ some k_ ≠ (.slice Ao45 t257.length co45 : Value).ownBlock ∧ some k_ ≠ (v265 : Value).ownBlock ∧ some k_ ≠ (v275 : Value).ownBlock ∧ some k_ ≠ (.slice Ao60 t277.length co60 : Value).ownBlock ∧ some k_ ≠ (.slice Ao63 t281.length co63 : Value).ownBlock ∧ some k_ ≠ (v285 : Value).ownBlock)) (pR HO263) hg hat)
          have n7_ := Aside0.mk (Kd.R_after (ok := (fun k_ => some k_ ≠ (.slice Ao39 t246.length co39 : Value).ownBlock ∧ some k_ ≠ (.slice Ao42 t250.length co42 : Value).ownBlock ∧ some k_ ≠ (.slice Ao71 t253.length co71 : Value).ownBlock ∧ some k_ ≠ (.slice Ao45 t257.length co45 : Value).ownBlock ∧ some k_ ≠ (.slice Ao49 t261.length co49 : Value).ownBlock ∧ some k_ ≠ (v275 : Value).ownBlock ∧ some k_ ≠ (.slice Ao60 t277.length co60 : Value).ownBlock ∧ some k_ ≠ (.slice Ao63 t281.length co63 : Value).ownBlock ∧ some k_ ≠ (v285 : Value).ownBlock)) (pR HO266) hg hat)
          have n8_ := Aside0.mk (blk_grown (g := gb267) (o := .cells #[.slice Ao45 t257.length co45, .int .i64 t260, .slice Ao49 t261.length co49] 24 (0, 0)) (pK BK267) hg (Kd.R_ne HO291.out BK267.out (by decide)))
          have n9_ := Aside0.mk (Kd.R_after (ok := (fun k_ => some k_ ≠ (.slice Ao39 t246.length co39 : Value).ownBlock ∧ some k_ ≠ (.slice Ao42 t250.length co42 : Value).ownBlock ∧ some k_ ≠ (.slice Ao71 t253.length co71 : Value).ownBlock ∧ some k_ ≠ (.slice Ao45 t257.length co45 : Value).ownBlock ∧ some k_ ≠ (.slice Ao49 t261.length co49 : Value).ownBlock ∧ some k_ ≠ (v265 : Value).ownBlock ∧ some k_ ≠ (.slice Ao60 t277.length co60 : Value).ownBlock ∧ some k_ ≠ (.slice Ao63 t281.length co63 : Value).ownBlock ∧ some k_ ≠ (v285 : Value).ownBlock)) (pR HO276) hg hat)
          have n10_ := Aside0.mk (Kd.R_after (ok := (fun k_ => some k_ ≠ (.slice Ao39 t246.length co39 : Value).ownBlock ∧ some k_ ≠ (.slice Ao42 t250.length co42 : Value).ownBlock ∧ some k_ ≠ (.slice Ao71 t253.length co71 : Value).ownBlock ∧ some k_ ≠ (.slice Ao45 t257.length co45 : Value).ownBlock ∧ some k_ ≠ (.slice Ao49 t261.length co49 : Value).ownBlock ∧ some k_ ≠ (v265 : Value).ownBlock ∧ some k_ ≠ (v275 : Value).ownBlock ∧ some k_ ≠ (.slice Ao63 t281.length co63 : Value).ownBlock ∧ some k_ ≠ (v285 : Value).ownBlock)) (pR HO279) hg hat)
          have n11_ := Aside0.mk (Kd.R_after (ok := (fun k_ => some k_ ≠ (.slice Ao39 t246.length co39 : Value).ownBlock ∧ some k_ ≠ (.slice Ao42 t250.length co42 : Value).ownBlock ∧ some k_ ≠ (.slice Ao71 t253.length co71 : Value).ownBlock ∧ some k_ ≠ (.slice Ao45 t257.length co45 : Value).ownBlock ∧ some k_ ≠ (.slice Ao49 t261.length co49 : Value).ownBlock ∧ some k_ ≠ (v265 : Value).ownBlock ∧ some k_ ≠ (v275 : Value).ownBlock ∧ some k_ ≠ (.slice Ao60 t277.length co60 : Value).ownBlock ∧ some k_ ≠ (v285 : Value).ownBlock)) (pR HO283) hg hat)
          have n12_ := Aside0.mk (Kd.R_after (ok := (fun k_ => some k_ ≠ (.slice Ao39 t246.length co39 : Value).ownBlock ∧ some k_ ≠ (.slice Ao42 t250.length co42 : Value).ownBlock ∧ some k_ ≠ (.slice Ao71 t253.length co71 : Value).ownBlock ∧ some k_ ≠ (.slice Ao45 t257.length co45 : Value).ownBlock ∧ some k_ ≠ (.slice Ao49 t261.length co49 : Value).ownBlock ∧ some k_ ≠ (v265 : Value).ownBlock ∧ some k_ ≠ (v275 : Value).ownBlock ∧ some k_ ≠ (.slice Ao60 t277.length co60 : Value).ownBlock ∧ some k_ ≠ (.slice Ao63 t281.length co63 : Value).ownBlock)) (pR HO286) hg hat)
          have n13_ := Aside0.mk (blk_grown (g := gb287) (o := .cells #[.slice Ao60 t277.length co60, .int .i64 t280, .slice Ao63 t281.length co63] 24 (0, 0)) (pK BK287) hg (Kd.R_ne HO291.out BK287.out (by decide)))
          have n14_ := Aside0.mk (hb)
          have n15_ := Aside0.mk (ho)
          clear BK243 HO248 HO252 HO255 BK256 HO259 HO263 HO266 BK267 HO276 HO279 HO283 HO286 BK287 HB HO291
          have BK243 := n0_; have HO248 := n1_; have HO252 := n2_; have HO255 := n3_; have BK256 := n4_; have HO259 := n5_; have HO263 := n6_; have HO266 := n7_; have BK267 := n8_; have HO276 := n9_; have HO279 := n10_; have HO283 := n11_; have HO286 := n12_; have BK287 := n13_; have HB := n14_; have HO294 := n15_
          clear n0_ n1_ n2_ n3_ n4_ n5_ n6_ n7_ n8_ n9_ n10_ n11_ n12_ n13_ n14_ n15_ ho hb hg hat
          obtain ⟨Ao73, co73, eo73⟩ := Kd.R_slice HO266.out
          (first | subst eo73 | (injection eo73 with f1_ f2_ f3_; have f4_ := f1_.symm; have f5_ := f3_.symm; clear f1_ f2_ f3_; subst f4_; subst f5_))
          refine hK.out _ _ ⟨(blk_cell BK267.out 0).trans rfl, (blk_cell BK267.out 1).trans rfl, (blk_cell BK267.out 2).trans rfl, (blk_cell BK287.out 0).trans rfl, (blk_cell BK287.out 1).trans rfl, (blk_cell BK287.out 2).trans rfl, (blk_cell BK243.out 0).trans rfl, (blk_cell BK243.out 1).trans rfl, (blk_cell BK243.out 2).trans rfl, (blk_cell BK256.out 0).trans rfl, (blk_cell BK256.out 1).trans rfl, (blk_cell BK256.out 2).trans rfl⟩ (fun hHeld => ?_)
          clear hK K
          refine norm_ (a' := ?_) ?_ ?_
          rotate_left
          ·show Act.put _ (some 66) _ = _
           simp only [Act.put, List.setIfInBounds_toArray, List.set_cons_zero, List.set_cons_succ, i64_w, i32_w]
           rfl
          refine one_ (i := 8) (N := some 68) #[true, true, true, true, true, true, true, true, true, true, false, false, false, false, false, false, false, false, false, false] rfl rfl (one_of HT_.out (by kernel_rfl)) (by decide) (fun K hK => ?_)
          refine Kd.R_append_rows_step (Kd.int .u8) (w0 := w) w.heap.size (by rfl) (.tmp 66) (.tmp 67) 22 5 (.int .u8 0) 1 rfl Try.underlying22 info5 rfl (by decide) (by omega) v293 y292 t264 _ _ _ (fun k_ => some k_ ≠ (.slice Ao39 t246.length co39 : Value).ownBlock ∧ some k_ ≠ (.slice Ao42 t250.length co42 : Value).ownBlock ∧ some k_ ≠ (.slice Ao71 t253.length co71 : Value).ownBlock ∧ some k_ ≠ (.slice Ao45 t257.length co45 : Value).ownBlock ∧ some k_ ≠ (.slice Ao49 t261.length co49 : Value).ownBlock ∧ some k_ ≠ (.slice Ao73 t264.length co73 : Value).ownBlock ∧ some k_ ≠ (v275 : Value).ownBlock ∧ some k_ ≠ (.slice Ao60 t277.length co60 : Value).ownBlock ∧ some k_ ≠ (.slice Ao63 t281.length co63 : Value).ownBlock ∧ some k_ ≠ (v285 : Value).ownBlock) (fun _ => False) rfl rfl ?aO ?aR (fun _ _ h => h) (fun _ h => h.elim) ?aF ?aB ?aS ?aL ?_
          (case aR => repeat (first | exact (Kd.R_reads' HO266.out).2.2 | (with_reducible refine Kd.C_alloc ?_ _) | (with_reducible refine Kd.C_drewN ?_ _) | (with_reducible refine Kd.C_drew ?_)))
          (case aB => exact pS)
          (case aF => exact (fun k_ hk => ⟨Kd.fresh' (Kd.R_lt (pR HO248)) k_ hk, Kd.fresh' (Kd.R_lt (pR HO252)) k_ hk, Kd.fresh' (Kd.R_lt (pR HO255)) k_ hk, Kd.fresh' (Kd.R_lt (pR HO259)) k_ hk, Kd.fresh' (Kd.R_lt (pR HO263)) k_ hk, Kd.fresh' (Kd.R_lt (pR HO266)) k_ hk, Kd.fresh' (Kd.R_lt (pR HO276)) k_ hk, Kd.fresh' (Kd.R_lt (pR HO279)) k_ hk, Kd.fresh' (Kd.R_lt (pR HO283)) k_ hk, Kd.fresh' (Kd.R_lt (pR HO286)) k_ hk⟩))
          (case aO => exact (pR HO294))
          (case aS => exact (below_size pS))
          (case aL => have := LMc31.out; omega)
          intro v296 w72 ho hb hg hat
          rw [← Ny295.out] at ho
          have n0_ := Aside0.mk (blk_grown (g := gb243) (o := .cells #[.slice A0_0 l0_0.length c0_0, .int .i64 a0_1, .slice A0_2 l0_2.length c0_2] 24 (0, 0)) (pK BK243) hg (Kd.R_ne HO294.out BK243.out (by decide)))
          have n1_ := Aside0.mk (Kd.R_after (ok := (fun k_ => some k_ ≠ (.slice Ao42 t250.length co42 : Value).ownBlock ∧ some k_ ≠ (.slice Ao71 t253.length co71 : Value).ownBlock ∧ some k_ ≠ (.slice Ao45 t257.length co45 : Value).ownBlock ∧ some k_ ≠ (.slice Ao49 t261.length co49 : Value).ownBlock ∧ some k_ ≠ (.slice Ao73 t264.length co73 : Value).ownBlock ∧ some k_ ≠ (v275 : Value).ownBlock ∧ some k_ ≠ (.slice Ao60 t277.length co60 : Value).ownBlock ∧ some k_ ≠ (.slice Ao63 t281.length co63 : Value).ownBlock ∧ some k_ ≠ (v285 : Value).ownBlock)) (pR HO248) hg hat)
          have n2_ := Aside0.mk (Kd.R_after (ok := (fun k_ => some k_ ≠ (.slice Ao39 t246.length co39 : Value).ownBlock ∧ some k_ ≠ (.slice Ao71 t253.length co71 : Value).ownBlock ∧ some k_ ≠ (.slice Ao45 t257.length co45 : Value).ownBlock ∧ some k_ ≠ (.slice Ao49 t261.length co49 : Value).ownBlock ∧ some k_ ≠ (.slice Ao73 t264.length co73 : Value).ownBlock ∧ some k_ ≠ (v275 : Value).ownBlock ∧ some k_ ≠ (.slice Ao60 t277.length co60 : Value).ownBlock ∧ some k_ ≠ (.slice Ao63 t281.length co63 : Value).ownBlock ∧ some k_ ≠ (v285 : Value).ownBlock)) (pR HO252) hg hat)
          have n3_ := Aside0.mk (Kd.R_after (ok := (fun k_ => some k_ ≠ (.slice Ao39 t246.length co39 : Value).ownBlock ∧ some k_ ≠ (.slice Ao42 t250.length co42 : Value).ownBlock ∧ some k_ ≠ (.slice Ao45 t257.length co45 : Value).ownBlock ∧ some k_ ≠ (.slice Ao49 t261.length co49 : Value).ownBlock ∧ some k_ ≠ (.slice Ao73 t264.length co73 : Value).ownBlock ∧ some k_ ≠ (v275 : Value).ownBlock ∧ some k_ ≠ (.slice Ao60 t277.length co60 : Value).ownBlock ∧ some k_ ≠ (.slice Ao63 t281.length co63 : Value).ownBlock ∧ some k_ ≠ (v285 : Value).ownBlock)) (pR HO255) hg hat)
          have n4_ := Aside0.mk (blk_grown (g := gb256) (o := .cells #[.slice Ao39 t246.length co39, .int .i64 t249, .slice Ao42 t250.length co42] 24 (0, 0)) (pK BK256) hg (Kd.R_ne HO294.out BK256.out (by decide)))
          have n5_ := Aside0.mk (Kd.R_after (ok := (fun k_ => some k_ ≠ (.slice Ao39 t246.length co39 : Value).ownBlock ∧ some k_ ≠ (.slice Ao42 t250.length co42 : Value).ownBlock ∧ some k_ ≠ (.slice Ao71 t253.length co71 : Value).ownBlock ∧ some k_ ≠ (.slice Ao49 t261.length co49 : Value).ownBlock ∧ some k_ ≠ (.slice Ao73 t264.length co73 : Value).ownBlock ∧ some k_ ≠ (v275 : Value).ownBlock ∧ some k_ ≠ (.slice Ao60 t277.length co60 : Value).ownBlock ∧ some k_ ≠ (.slice Ao63 t281.length co63 : Value).ownBlock ∧ some k_ ≠ (v285 : Value).ownBlock)) (pR HO259) hg hat)
          have n6_ := Aside0.mk (Kd.R_after (ok := (fun k_ => some k_ ≠ (.slice Ao39 t246.length co39 : Value).ownBlock ∧ some k_ ≠ (.slice Ao42 t250.length co42 : Value).ownBlock ∧ some k_ ≠ (.slice Ao71 t253.length co71 : Value).ownBlock ∧ some k_ ≠ (.slice Ao45 t257.length co45 : Value).ownBlock ∧ some k_ ≠ (.slice Ao73 t264.length co73 : Value).ownBlock ∧ some k_ ≠ (v275 : Value).ownBlock ∧ some k_ ≠ (.slice Ao60 t277.length co60 : Value).ownBlock ∧ some k_ ≠ (.slice Ao63 t281.length co63 : Value).ownBlock ∧ some k_ ≠ (v285 : Value).ownBlock)) (pR HO263) hg hat)
          have n7_ := Aside0.mk (Kd.R_after (ok := (fun k_ => some k_ ≠ (.slice Ao39 t246.length co39 : Value).ownBlock ∧ some k_ ≠ (.slice Ao42 t250.length co42 : Value).ownBlock ∧ some k_ ≠ (.slice Ao71 t253.length co71 : Value).ownBlock ∧ some k_ ≠ (.slice Ao45 t257.length co45 : Value).ownBlock ∧ some k_ ≠ (.slice Ao49 t261.length co49 : Value).ownBlock ∧ some k_ ≠ (v275 : Value).ownBlock ∧ some k_ ≠ (.slice Ao60 t277.length co60 : Value).ownBlock ∧ some k_ ≠ (.slice Ao63 t281.length co63 : Value).ownBlock ∧ some k_ ≠ (v285 : Value).ownBlock)) (pR HO266) hg hat)
          have n8_ := Aside0.mk (blk_grown (g := gb267) (o := .cells #[.slice Ao45 t257.length co45, .int .i64 t260, .slice Ao49 t261.length co49] 24 (0, 0)) (pK BK267) hg (Kd.R_ne HO294.out BK267.out (by decide)))
          have n9_ := Aside0.mk (Kd.R_after (ok := (fun k_ => some k_ ≠ (.slice Ao39 t246.length co39 : Value).ownBlock ∧ some k_ ≠ (.slice Ao42 t250.length co42 : Value).ownBlock ∧ some k_ ≠ (.slice Ao71 t253.length co71 : Value).ownBlock ∧ some k_ ≠ (.slice Ao45 t257.length co45 : Value).ownBlock ∧ some k_ ≠ (.slice Ao49 t261.length co49 : Value).ownBlock ∧ some k_ ≠ (.slice Ao73 t264.length co73 : Value).ownBlock ∧ some k_ ≠ (.slice Ao60 t277.length co60 : Value).ownBlock ∧ some k_ ≠ (.slice Ao63 t281.length co63 : Value).ownBlock ∧ some k_ ≠ (v285 : Value).ownBlock)) (pR HO276) hg hat)
          have n10_ := Aside0.mk (Kd.R_after (ok := (fun k_ => some k_ ≠ (.slice Ao39 t246.length co39 : Value).ownBlock ∧ some k_ ≠ (.slice Ao42 t250.length co42 : Value).ownBlock ∧ some k_ ≠ (.slice Ao71 t253.length co71 : Value).ownBlock ∧ some k_ ≠ (.slice Ao45 t257.length co45 : Value).ownBlock ∧ some k_ ≠ (.slice Ao49 t261.length co49 : Value).ownBlock ∧ some k_ ≠ (.slice Ao73 t264.length co73 : Value).ownBlock ∧ some k_ ≠ (v275 : Value).ownBlock ∧ some k_ ≠ (.slice Ao63 t281.length co63 : Value).ownBlock ∧ some k_ ≠ (v285 : Value).ownBlock)) (pR HO279) hg hat)
          have n11_ := Aside0.mk (Kd.R_after (ok := (fun k_ => some k_ ≠ (.slice Ao39 t246.length co39 : Value).ownBlock ∧ some k_ ≠ (.slice Ao42 t250.length co42 : Value).ownBlock ∧ some k_ ≠ (.slice Ao71 t253.length co71 : Value).ownBlock ∧ some k_ ≠ (.slice Ao45 t257.length co45 : Value).ownBlock ∧ some k_ ≠ (.slice Ao49 t261.length co49 : Value).ownBlock ∧ some k_ ≠ (.slice Ao73 t264.length co73 : Value).ownBlock ∧ some k_ ≠ (v275 : Value).ownBlock ∧ some k_ ≠ (.slice Ao60 t277.length co60 : Value).ownBlock ∧ some k_ ≠ (v285 : Value).ownBlock)) (pR HO283) hg hat)
          have n12_ := Aside0.mk (Kd.R_after (ok := (fun k_ => some k_ ≠ (.slice Ao39 t246.length co39 : Value).ownBlock ∧ some k_ ≠ (.slice Ao42 t250.length co42 : Value).ownBlock ∧ some k_ ≠ (.slice Ao71 t253.length co71 : Value).ownBlock ∧ some k_ ≠ (.slice Ao45 t257.length co45 : Value).ownBlock ∧ some k_ ≠ (.slice Ao49 t261.length co49 : Value).ownBlock ∧ some k_ ≠ (.slice Ao73 t264.length co73 : Value).ownBlock ∧ some k_ ≠ (v275 : Value).ownBlock ∧ some k_ ≠ (.slice Ao60 t277.length co60 : Value).ownBlock ∧ some k_ ≠ (.slice Ao63 t281.length co63 : Value).ownBlock)) (pR HO286) hg hat)
          have n13_ := Aside0.mk (blk_grown (g := gb287) (o := .cells #[.slice Ao60 t277.length co60, .int .i64 t280, .slice Ao63 t281.length co63] 24 (0, 0)) (pK BK287) hg (Kd.R_ne HO294.out BK287.out (by decide)))
          have n14_ := Aside0.mk (hb)
          have n15_ := Aside0.mk (ho)
          clear BK243 HO248 HO252 HO255 BK256 HO259 HO263 HO266 BK267 HO276 HO279 HO283 HO286 BK287 HB HO294
          have BK243 := n0_; have HO248 := n1_; have HO252 := n2_; have HO255 := n3_; have BK256 := n4_; have HO259 := n5_; have HO263 := n6_; have HO266 := n7_; have BK267 := n8_; have HO276 := n9_; have HO279 := n10_; have HO283 := n11_; have HO286 := n12_; have BK287 := n13_; have HB := n14_; have HO297 := n15_
          clear n0_ n1_ n2_ n3_ n4_ n5_ n6_ n7_ n8_ n9_ n10_ n11_ n12_ n13_ n14_ n15_ ho hb hg hat
          obtain ⟨Ao74, co74, eo74⟩ := Kd.R_slice HO297.out
          (first | subst eo74 | (injection eo74 with f1_ f2_ f3_; have f4_ := f1_.symm; have f5_ := f3_.symm; clear f1_ f2_ f3_; subst f4_; subst f5_))
          obtain ⟨Ao75, co75, eo75⟩ := Kd.R_slice HO286.out
          (first | subst eo75 | (injection eo75 with f1_ f2_ f3_; have f4_ := f1_.symm; have f5_ := f3_.symm; clear f1_ f2_ f3_; subst f4_; subst f5_))
          refine hK.out _ _ ⟨(blk_cell BK267.out 0).trans rfl, (blk_cell BK267.out 1).trans rfl, (blk_cell BK267.out 2).trans rfl, (blk_cell BK287.out 0).trans rfl, (blk_cell BK287.out 1).trans rfl, (blk_cell BK287.out 2).trans rfl, (blk_cell BK243.out 0).trans rfl, (blk_cell BK243.out 1).trans rfl, (blk_cell BK243.out 2).trans rfl, (blk_cell BK256.out 0).trans rfl, (blk_cell BK256.out 1).trans rfl, (blk_cell BK256.out 2).trans rfl⟩ (fun hHeld => ?_)
          clear hK K
          refine norm_ (a' := ?_) ?_ ?_
          rotate_left
          ·show Act.put _ (some 68) _ = _
           simp only [Act.put, List.setIfInBounds_toArray, List.set_cons_zero, List.set_cons_succ, i64_w, i32_w]
           rfl
          refine one_ (i := 10) (N := some 70) #[true, true, true, true, true, true, true, true, true, true, true, false, false, false, false, false, false, false, false, false] rfl rfl (one_of HT_.out (by kernel_rfl)) (by decide) (fun K hK => ?_)
          refine goes_ Try.func16 (by kernel_rfl) rfl #[.slice Ao74 y295.length co74, .slice Ao75 t284.length co75] (by rfl) rfl rfl pM ?_
          with_reducible refine (capnpref01_Same.calls kj3 _ _ y295 _ _ t284 true _ ?side1 ?side2 ?side3 ?side4 A32.out).mono ?_
          (case side1 => repeat (first | exact (Kd.R_reads' HO297.out).2.2 | (with_reducible refine Kd.C_alloc ?_ _) | (with_reducible refine Kd.C_drewN ?_ _) | (with_reducible refine Kd.C_drew ?_)))
          (case side2 => exact (Kd.R_reads' HO297.out).2.1)
          (case side3 => repeat (first | exact (Kd.R_reads' HO286.out).2.2 | (with_reducible refine Kd.C_alloc ?_ _) | (with_reducible refine Kd.C_drewN ?_ _) | (with_reducible refine Kd.C_drew ?_)))
          (case side4 => exact (Kd.R_reads' HO286.out).2.1)
          rintro e w' ⟨rfl, ⟨nd, rfl⟩⟩
          refine ⟨_, rfl, ?_⟩
          refine hK.out _ _ ⟨(blk_cell BK267.out 0).trans rfl, (blk_cell BK267.out 1).trans rfl, (blk_cell BK267.out 2).trans rfl, (blk_cell BK287.out 0).trans rfl, (blk_cell BK287.out 1).trans rfl, (blk_cell BK287.out 2).trans rfl, (blk_cell BK243.out 0).trans rfl, (blk_cell BK243.out 1).trans rfl, (blk_cell BK243.out 2).trans rfl, (blk_cell BK256.out 0).trans rfl, (blk_cell BK256.out 1).trans rfl, (blk_cell BK256.out 2).trans rfl⟩ (fun hHeld => ?_)
          clear hK K
          refine norm_ (a' := ?_) ?_ ?_
          rotate_left
          ·show Act.put _ (some 70) _ = _
           simp only [Act.put, List.setIfInBounds_toArray, List.set_cons_zero, List.set_cons_succ, i64_w, i32_w]
           rfl
          refine pure_ (i := 11) (N := some 71) (v := ?_) (a' := ?_) #[true, true, true, true, true, true, true, true, true, true, true, true, false, false, false, false, false, false, false, false] rfl rfl (any_of HT_.out (by kernel_rfl)) (fun _ _ _ h => h) (Or.inl ⟨by rfl, ?_⟩) ?_ ?_
          rotate_left
          ·intro w'
           go_simp
           with_reducible rfl
          rotate_left
          ·simp only [Act.put, List.setIfInBounds_toArray, List.set_cons_zero, List.set_cons_succ, i64_w, i32_w]
           rfl
          refine pure_ (i := 12) (N := some 72) (v := ?_) (a' := ?_) #[true, true, true, true, true, true, true, true, true, true, true, true, true, false, false, false, false, false, false, false] rfl rfl (any_of HT_.out (by kernel_rfl)) (fun _ _ _ h => h) (Or.inl ⟨by rfl, ?_⟩) ?_ ?_
          rotate_left
          ·intro w'
           go_simp
           with_reducible rfl
          rotate_left
          ·simp only [Act.put, List.setIfInBounds_toArray, List.set_cons_zero, List.set_cons_succ, i64_w, i32_w]
           rfl
          refine take_ (i := 13) (N := some 73) (v := ?_) (a' := ?_) #[true, true, true, true, true, true, true, true, true, true, true, true, true, true, false, false, false, false, false, false] rfl rfl (take_ofW HT_.out HW_.out (by kernel_rfl)) (fun _ _ _ h => h) (Or.inl ⟨by rfl, ?_⟩) hHeld ?_ ?_
          rotate_left
          ·rintro w' ⟨s0, s1, s2, s3, s4, s5, s6, s7, s8, s9, s10, s11⟩
           go_simp
           with_reducible rfl
          rotate_left
          ·simp only [Act.put, List.setIfInBounds_toArray, List.set_cons_zero, List.set_cons_succ, i64_w, i32_w]
           rfl
          refine take_ (i := 15) (N := some 75) (v := ?_) (a' := ?_) #[true, true, true, true, true, true, true, true, true, true, true, true, true, true, false, true, false, false, false, false] rfl rfl (take_ofW HT_.out HW_.out (by kernel_rfl)) (fun _ _ _ h => h) (Or.inl ⟨by rfl, ?_⟩) hHeld ?_ ?_
          rotate_left
          ·rintro w' ⟨s0, s1, s2, s3, s4, s5, s6, s7, s8, s9, s10, s11⟩
           go_simp
           with_reducible rfl
          rotate_left
          ·simp only [Act.put, List.setIfInBounds_toArray, List.set_cons_zero, List.set_cons_succ, i64_w, i32_w]
           rfl
          refine one_ (i := 14) (N := some 74) #[true, true, true, true, true, true, true, true, true, true, true, true, true, true, true, true, false, false, false, false] rfl rfl (one_of HT_.out (by kernel_rfl)) (by decide) (fun K hK => ?_)
          refine goes_ Try.func11 (by kernel_rfl) rfl #[.agg #[.slice A0_0 l0_0.length c0_0, .int .i64 a0_1, .slice A0_2 l0_2.length c0_2]] (by rfl) rfl rfl pM ?_
          with_reducible refine (packstream_Valid.calls kj3 _ _ l0_0 a0_1 _ _ l0_2 t299 _ ?side1 ?side2 ?side3 ?side4 A34.out).mono ?_
          (case side1 => repeat (first | exact (Kd.C_below HR0_0.out pS) | (with_reducible refine Kd.C_alloc ?_ _) | (with_reducible refine Kd.C_drewN ?_ _) | (with_reducible refine Kd.C_drew ?_)))
          (case side2 => exact HC0_0.out)
          (case side3 => repeat (first | exact (Kd.C_below HR0_2.out pS) | (with_reducible refine Kd.C_alloc ?_ _) | (with_reducible refine Kd.C_drewN ?_ _) | (with_reducible refine Kd.C_drew ?_)))
          (case side4 => exact HC0_2.out)
          rintro e w76 ⟨rfl, hb⟩
          refine ⟨_, rfl, ?_⟩
          have n0_ := Aside0.mk (Kd.R_below (pR HO248) hb)
          have n1_ := Aside0.mk (Kd.R_below (pR HO252) hb)
          have n2_ := Aside0.mk (Kd.R_below (pR HO255) hb)
          have n3_ := Aside0.mk (Kd.R_below (pR HO259) hb)
          have n4_ := Aside0.mk (Kd.R_below (pR HO263) hb)
          have n5_ := Aside0.mk (Kd.R_below (pR HO266) hb)
          have n6_ := Aside0.mk (Kd.R_below (pR HO276) hb)
          have n7_ := Aside0.mk (Kd.R_below (pR HO279) hb)
          have n8_ := Aside0.mk (Kd.R_below (pR HO283) hb)
          have n9_ := Aside0.mk (Kd.R_below (pR HO286) hb)
          have n10_ := Aside0.mk (Kd.R_below (pR HO297) hb)
          have n11_ := Aside0.mk (blk_below (g := gb243) (o := .cells #[.slice A0_0 l0_0.length c0_0, .int .i64 a0_1, .slice A0_2 l0_2.length c0_2] 24 (0, 0)) (pK BK243) hb)
          have n12_ := Aside0.mk (blk_below (g := gb256) (o := .cells #[.slice Ao39 t246.length co39, .int .i64 t249, .slice Ao42 t250.length co42] 24 (0, 0)) (pK BK256) hb)
          have n13_ := Aside0.mk (blk_below (g := gb267) (o := .cells #[.slice Ao45 t257.length co45, .int .i64 t260, .slice Ao49 t261.length co49] 24 (0, 0)) (pK BK267) hb)
          have n14_ := Aside0.mk (blk_below (g := gb287) (o := .cells #[.slice Ao60 t277.length co60, .int .i64 t280, .slice Ao63 t281.length co63] 24 (0, 0)) (pK BK287) hb)
          have n15_ := Aside0.mk (below_step pS hb)
          clear HO248 HO252 HO255 HO259 HO263 HO266 HO276 HO279 HO283 HO286 HO297 BK243 BK256 BK267 BK287 HB
          have HO248 := n0_; have HO252 := n1_; have HO255 := n2_; have HO259 := n3_; have HO263 := n4_; have HO266 := n5_; have HO276 := n6_; have HO279 := n7_; have HO283 := n8_; have HO286 := n9_; have HO297 := n10_; have BK243 := n11_; have BK256 := n12_; have BK267 := n13_; have BK287 := n14_; have HB := n15_
          clear n0_ n1_ n2_ n3_ n4_ n5_ n6_ n7_ n8_ n9_ n10_ n11_ n12_ n13_ n14_ n15_
          (try clear hb)
          (try clear hb2)
          (try clear hk)
          (try clear hi)
          refine hK.out _ _ ⟨(blk_cell BK267.out 0).trans rfl, (blk_cell BK267.out 1).trans rfl, (blk_cell BK267.out 2).trans rfl, (blk_cell BK287.out 0).trans rfl, (blk_cell BK287.out 1).trans rfl, (blk_cell BK287.out 2).trans rfl, (blk_cell BK243.out 0).trans rfl, (blk_cell BK243.out 1).trans rfl, (blk_cell BK243.out 2).trans rfl, (blk_cell BK256.out 0).trans rfl, (blk_cell BK256.out 1).trans rfl, (blk_cell BK256.out 2).trans rfl⟩ (fun hHeld => ?_)
          clear hK K
          refine norm_ (a' := ?_) ?_ ?_
          rotate_left
          ·show Act.put _ (some 74) _ = _
           simp only [Act.put, List.setIfInBounds_toArray, List.set_cons_zero, List.set_cons_succ, i64_w, i32_w]
           rfl
          refine one_ (i := 16) (N := some 76) #[true, true, true, true, true, true, true, true, true, true, true, true, true, true, true, true, true, false, false, false] rfl rfl (one_of HT_.out (by kernel_rfl)) (by decide) (fun K hK => ?_)
          refine goes_ Try.func11 (by kernel_rfl) rfl #[.agg #[.slice Ao39 t246.length co39, .int .i64 t249, .slice Ao42 t250.length co42]] (by rfl) rfl rfl pM ?_
          with_reducible refine (packstream_Valid.calls kj3 _ _ t246 t249 _ _ t250 t300 _ ?side1 ?side2 ?side3 ?side4 A35.out).mono ?_
          (case side1 => repeat (first | exact (Kd.R_reads' HO248.out).2.2 | (with_reducible refine Kd.C_alloc ?_ _) | (with_reducible refine Kd.C_drewN ?_ _) | (with_reducible refine Kd.C_drew ?_)))
          (case side2 => exact (Kd.R_reads' HO248.out).2.1)
          (case side3 => repeat (first | exact (Kd.R_reads' HO252.out).2.2 | (with_reducible refine Kd.C_alloc ?_ _) | (with_reducible refine Kd.C_drewN ?_ _) | (with_reducible refine Kd.C_drew ?_)))
          (case side4 => exact (Kd.R_reads' HO252.out).2.1)
          rintro e w77 ⟨rfl, hb⟩
          refine ⟨_, rfl, ?_⟩
          have n0_ := Aside0.mk (Kd.R_below (pR HO248) hb)
          have n1_ := Aside0.mk (Kd.R_below (pR HO252) hb)
          have n2_ := Aside0.mk (Kd.R_below (pR HO255) hb)
          have n3_ := Aside0.mk (Kd.R_below (pR HO259) hb)
          have n4_ := Aside0.mk (Kd.R_below (pR HO263) hb)
          have n5_ := Aside0.mk (Kd.R_below (pR HO266) hb)
          have n6_ := Aside0.mk (Kd.R_below (pR HO276) hb)
          have n7_ := Aside0.mk (Kd.R_below (pR HO279) hb)
          have n8_ := Aside0.mk (Kd.R_below (pR HO283) hb)
          have n9_ := Aside0.mk (Kd.R_below (pR HO286) hb)
          have n10_ := Aside0.mk (Kd.R_below (pR HO297) hb)
          have n11_ := Aside0.mk (blk_below (g := gb243) (o := .cells #[.slice A0_0 l0_0.length c0_0, .int .i64 a0_1, .slice A0_2 l0_2.length c0_2] 24 (0, 0)) (pK BK243) hb)
          have n12_ := Aside0.mk (blk_below (g := gb256) (o := .cells #[.slice Ao39 t246.length co39, .int .i64 t249, .slice Ao42 t250.length co42] 24 (0, 0)) (pK BK256) hb)
          have n13_ := Aside0.mk (blk_below (g := gb267) (o := .cells #[.slice Ao45 t257.length co45, .int .i64 t260, .slice Ao49 t261.length co49] 24 (0, 0)) (pK BK267) hb)
          have n14_ := Aside0.mk (blk_below (g := gb287) (o := .cells #[.slice Ao60 t277.length co60, .int .i64 t280, .slice Ao63 t281.length co63] 24 (0, 0)) (pK BK287) hb)
          have n15_ := Aside0.mk (below_step pS hb)
          clear HO248 HO252 HO255 HO259 HO263 HO266 HO276 HO279 HO283 HO286 HO297 BK243 BK256 BK267 BK287 HB
          have HO248 := n0_; have HO252 := n1_; have HO255 := n2_; have HO259 := n3_; have HO263 := n4_; have HO266 := n5_; have HO276 := n6_; have HO279 := n7_; have HO283 := n8_; have HO286 := n9_; have HO297 := n10_; have BK243 := n11_; have BK256 := n12_; have BK267 := n13_; have BK287 := n14_; have HB := n15_
          clear n0_ n1_ n2_ n3_ n4_ n5_ n6_ n7_ n8_ n9_ n10_ n11_ n12_ n13_ n14_ n15_
          (try clear hb)
          (try clear hb2)
          (try clear hk)
          (try clear hi)
          refine hK.out _ _ ⟨(blk_cell BK267.out 0).trans rfl, (blk_cell BK267.out 1).trans rfl, (blk_cell BK267.out 2).trans rfl, (blk_cell BK287.out 0).trans rfl, (blk_cell BK287.out 1).trans rfl, (blk_cell BK287.out 2).trans rfl, (blk_cell BK243.out 0).trans rfl, (blk_cell BK243.out 1).trans rfl, (blk_cell BK243.out 2).trans rfl, (blk_cell BK256.out 0).trans rfl, (blk_cell BK256.out 1).trans rfl, (blk_cell BK256.out 2).trans rfl⟩ (fun hHeld => ?_)
          clear hK K
          refine norm_ (a' := ?_) ?_ ?_
          rotate_left
          ·show Act.put _ (some 76) _ = _
           simp only [Act.put, List.setIfInBounds_toArray, List.set_cons_zero, List.set_cons_succ, i64_w, i32_w]
           rfl
          refine pure_ (i := 17) (N := some 77) (v := ?_) (a' := ?_) #[true, true, true, true, true, true, true, true, true, true, true, true, true, true, true, true, true, true, false, false] rfl rfl (any_of HT_.out (by kernel_rfl)) (fun _ _ _ h => h) (Or.inl ⟨by rfl, ?_⟩) ?_ ?_
          rotate_left
          ·intro w'
           go_simp
           with_reducible rfl
          rotate_left
          ·simp only [Act.put, List.setIfInBounds_toArray, List.set_cons_zero, List.set_cons_succ, i64_w, i32_w]
           rfl
          refine pure_ (i := 18) (N := some 78) (v := ?_) (a' := ?_) #[true, true, true, true, true, true, true, true, true, true, true, true, true, true, true, true, true, true, true, false] rfl rfl (any_of HT_.out (by kernel_rfl)) (fun _ _ _ h => h) (Or.inl ⟨by rfl, ?_⟩) ?_ ?_
          rotate_left
          ·intro w'
           go_simp
           with_reducible rfl
          rotate_left
          ·simp only [Act.put, List.setIfInBounds_toArray, List.set_cons_zero, List.set_cons_succ, i64_w, i32_w]
           rfl
          refine pure_ (i := 19) (N := some 6) (v := ?_) (a' := ?_) #[true, true, true, true, true, true, true, true, true, true, true, true, true, true, true, true, true, true, true, true] rfl rfl (any_of HT_.out (by kernel_rfl)) (fun _ _ _ h => h) (Or.inl ⟨by rfl, ?_⟩) ?_ ?_
          rotate_left
          ·intro w'
           go_simp
           with_reducible rfl
          rotate_left
          ·simp only [Act.put, List.setIfInBounds_toArray, List.set_cons_zero, List.set_cons_succ, i64_w, i32_w]
           rfl
          refine done_ (done_of HT_.out (by kernel_rfl)) ?_
          try go_wp2
          go_ret
          exact ⟨by first | rfl | (simp [errW_none, errW_some] <;> rfl) | (simp [*, errW_none, errW_some] <;> rfl), by repeat (first | (with_reducible first | exact HB.out | apply below_alloc | apply pw_below_drewN | apply below_drew1 | refine below_set ?_ GE243.out | refine below_set ?_ GE256.out | refine below_set ?_ GE267.out | refine below_set ?_ GE287.out) | exact HB.out)⟩
         ·replace c33 := Bool.eq_false_iff.mpr c33
          subst c33
          have H1 : (none) = some r := by rw [if_neg (show ¬ (false = true) by decide)] at H; exact H
          clear H
          have H := H1
          clear H1
          exact absurd H (by simp)
        ·rw [if_neg c31] at H
         exact absurd H (by simp)
       ·rw [if_neg c30] at H
        exact absurd H (by simp)
      ·replace c29 := Bool.eq_false_iff.mpr c29
       subst c29
       have H1 : (none) = some r := by rw [if_neg (show ¬ (false = true) by decide)] at H; exact H
       clear H
       have H := H1
       clear H1
       exact absurd H (by simp)
     ·rw [if_neg c26] at H
      exact absurd H (by simp)
    ·rw [if_neg c25] at H
     exact absurd H (by simp)
end Go.Proofs.Ytibkbgaonjdpiaa.PPackstreamSplit
