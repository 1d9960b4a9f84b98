/- Printed functions of a law, and their walks. -/
import Derived.Test.YtpffoecblcfndaaDoorXShortS
import Derived.Test.YtpffoecblcfndaaDoorPUnpackstreamSplitx0S
import Derived.Test.YtpffoecblcfndaaDoorPUnpackstreamSplitx3S
namespace Go.Proofs.YtpffoecblcfndaaDoor.PUnpackstreamSplit
open Go.RowKit Go.Proofs.YtpffoecblcfndaaDoorW.PrintWords Go.Proofs.YtpffoecblcfndaaDoorW.PrintLast Go.Proofs.YtpffoecblcfndaaDoorW.PrintMore
open Go.Proofs.YtpffoecblcfndaaDoor.PVaBase
attribute [local go_sem] max2_int min2_int max_two min_two max_three min_three max_four min_four   -- for this text's walks alone
set_option linter.unusedVariables false
set_option linter.unusedSimpArgs false
def capnplaw25_UnpackstreamSplit.j0 : Nat → List Int → List Int → Int → Bool → Int → Int → List Int → Int → Int → Int → Option (Bool)
  | 0, _, _, _, _, _, _, _, _, _, _ => none
  | k + 1, x1, x2, x3, x35, x206000, x206001, x206002, x206003, x206004, x206005 => if x35 = true then ((capnplaw25_awake.f k).bind fun t207 => (some t207)) else ((unpackstream_Write.f x206000 x206001 x206002 x206003 x206004 x206005 x1 x3).bind fun bt208 => ((unpackstream_Write.f bt208.1 bt208.2.1 bt208.2.2.1 bt208.2.2.2.1 bt208.2.2.2.2.1 bt208.2.2.2.2.2.1 x2 x3).bind fun bt221 => ((some (([] : List Int) : List Int)).bind fun y234 => (if y234.length + x1.length < 140737488355328 then ((some (y234 ++ x1 : List Int)).bind fun y237 => (if y237.length + x2.length < 140737488355328 then ((unpackstream_Write.f x206000 x206001 x206002 x206003 x206004 x206005 (y237 ++ x2) x3).bind fun bt243 => ((capnpref25_Same.f k bt221.1 bt221.2.1 bt221.2.2.1 bt221.2.2.2.1 bt221.2.2.2.2.1 bt221.2.2.2.2.2.1 bt243.1 bt243.2.1 bt243.2.2.1 bt243.2.2.2.1 bt243.2.2.2.2.1 bt243.2.2.2.2.2.1).bind fun t256 => (if t256 = true then ((some (([] : List Int) : List Int)).bind fun y257 => (if y257.length + bt208.2.2.2.2.2.2.1.length < 140737488355328 then ((some (y257 ++ bt208.2.2.2.2.2.2.1 : List Int)).bind fun y260 => (if y260.length + bt221.2.2.2.2.2.2.1.length < 140737488355328 then ((capnpref01_Same.f k (y260 ++ bt221.2.2.2.2.2.2.1) bt243.2.2.2.2.2.2.1).bind fun t266 => (if t266 = true then (some (bt221.2.2.2.2.2.2.2 == bt243.2.2.2.2.2.2.2)) else (none))) else (none))) else (none))) else (none)))) else (none))) else (none)))))
def capnplaw25_UnpackstreamSplit.f (k : Nat) (a0_0 : Int) (a0_1 : Int) (l0_2 : List Int) (a0_3 : Int) (a0_4 : Int) (a0_5 : Int) (l1 : List Int) (l2 : List Int) (a3 : Int) : Option (Bool) := (capnplaw25_awake.f k).bind fun t206 => (if t206 = true then (if (l0_2.length : Int) > 7 then (capnplaw25_UnpackstreamSplit.j0 k l1 l2 a3 true a0_0 a0_1 l0_2 a0_3 a0_4 a0_5) else (if (l1.length : Int) > 400 then (capnplaw25_UnpackstreamSplit.j0 k l1 l2 a3 true a0_0 a0_1 l0_2 a0_3 a0_4 a0_5) else (capnplaw25_UnpackstreamSplit.j0 k l1 l2 a3 (decide ((l2.length : Int) > 400)) a0_0 a0_1 l0_2 a0_3 a0_4 a0_5))) else (capnplaw25_UnpackstreamSplit.j0 k l1 l2 a3 true a0_0 a0_1 l0_2 a0_3 a0_4 a0_5))
theorem capnplaw25_UnpackstreamSplit.mono_l : ∀ k, (∀ y0 y1 y2 y3 y4 y5 y6 y7 y8 y9, LeO (capnplaw25_UnpackstreamSplit.j0 k y0 y1 y2 y3 y4 y5 y6 y7 y8 y9) (capnplaw25_UnpackstreamSplit.j0 (k + 1) y0 y1 y2 y3 y4 y5 y6 y7 y8 y9))
  | 0 => fun _ _ _ _ _ _ _ _ _ _ r h => by simp [capnplaw25_UnpackstreamSplit.j0] at h
  | k + 1 => by
    have ih0 := capnplaw25_UnpackstreamSplit.mono_l k
    · intro y0 y1 y2 y3 y4 y5 y6 y7 y8 y9
      unfold capnplaw25_UnpackstreamSplit.j0
      repeat' first
      | (with_reducible exact ih0 _ _ _ _ _ _ _ _ _ _)
      | (with_reducible exact capnplaw25_awake.mono _)
      | (with_reducible exact capnpref01_Same.mono _ _ _)
      | (with_reducible exact capnpref25_Same.mono _ _ _ _ _ _ _ _ _ _ _ _ _)
      | (with_reducible exact LeO.refl _)
      | (with_reducible exact LeO.none _)
      | (with_reducible refine LeO.ite ?_ ?_)
      | (with_reducible refine LeO.bind ?_ (fun _ => ?_))
      | exact ih0 _ _ _ _ _ _ _ _ _ _
      | exact capnplaw25_awake.mono _
      | exact capnpref01_Same.mono _ _ _
      | exact capnpref25_Same.mono _ _ _ _ _ _ _ _ _ _ _ _ _
      | exact LeO.none _
      | refine LeO.ite ?_ ?_
      | refine LeO.bind ?_ (fun _ => ?_)
theorem capnplaw25_UnpackstreamSplit.mono : ∀ a0 a1 a2 a3 a4 a5 a6 a7 a8 k, LeO (capnplaw25_UnpackstreamSplit.f k a0 a1 a2 a3 a4 a5 a6 a7 a8) (capnplaw25_UnpackstreamSplit.f (k + 1) a0 a1 a2 a3 a4 a5 a6 a7 a8) := by
  intro a0 a1 a2 a3 a4 a5 a6 a7 a8 k
  have ih0 := capnplaw25_UnpackstreamSplit.mono_l k
  unfold capnplaw25_UnpackstreamSplit.f
  repeat' first
      | (with_reducible exact ih0 _ _ _ _ _ _ _ _ _ _)
      | (with_reducible exact capnplaw25_awake.mono _)
      | (with_reducible exact capnpref01_Same.mono _ _ _)
      | (with_reducible exact capnpref25_Same.mono _ _ _ _ _ _ _ _ _ _ _ _ _)
      | (with_reducible exact LeO.refl _)
      | (with_reducible exact LeO.none _)
      | (with_reducible refine LeO.ite ?_ ?_)
      | (with_reducible refine LeO.bind ?_ (fun _ => ?_))
      | exact ih0 _ _ _ _ _ _ _ _ _ _
      | exact capnplaw25_awake.mono _
      | exact capnpref01_Same.mono _ _ _
      | exact capnpref25_Same.mono _ _ _ _ _ _ _ _ _ _ _ _ _
      | exact LeO.none _
      | refine LeO.ite ?_ ?_
      | refine LeO.bind ?_ (fun _ => ?_)
def capnplaw25_UnpackstreamSplit.T5 : Bool × List (List Nat × List Nat) := (true, [([], []), ([], []), ([], []), ([1, 2], [1, 2]), ([], []), ([3, 4, 3], [3, 4]), ([], []), ([0, 5, 6, 5], [0, 5, 6]), ([7], [7]), ([8], [8]), ([8], [8]), ([8], [8]), ([], []), ([12, 9, 7, 0, 1, 2, 3, 4, 5, 6, 7, 8, 9, 12], [9, 12]), ([10, 13, 0, 1, 2, 3, 4, 5, 6, 7, 8, 9, 10, 12, 13], [10]), ([11, 14, 0, 1, 2, 3, 4, 5, 6, 7, 8, 9, 10, 11, 12, 13, 14], [11])])
def capnplaw25_UnpackstreamSplit.B5 : List Nat := [0, 0, 0, 6, 0, 30, 0, 127, 255, 511, 511, 511, 0, 5119, 14335, 32767]
theorem capnplaw25_UnpackstreamSplit.tab5 : rtab .any (opsOf Tryd.f5 5) = capnplaw25_UnpackstreamSplit.T5 := by kernel_rfl
theorem capnplaw25_UnpackstreamSplit.bits5 : waitsOk capnplaw25_UnpackstreamSplit.T5.2 capnplaw25_UnpackstreamSplit.B5 = true := by kernel_rfl
set_option maxHeartbeats 8000000 in
set_option maxRecDepth 100000 in
theorem capnplaw25_UnpackstreamSplit.calls (k : Nat) (a0_0 : Int) (a0_1 : Int) (A0_2 : Option Addr) (c0_2 : Nat) (l0_2 : List Int) (a0_3 : Int) (a0_4 : Int) (a0_5 : Int) (A1 : Option Addr) (c1 : Nat) (l1 : List Int) (A2 : Option Addr) (c2 : Nat) (l2 : List Int) (a3 : Int) (r : Bool) (w : World) (hr0_2 : Kd.C (Kd.int .u8) w A0_2 l0_2.length l0_2) (hc0_2 : l0_2.length ≤ c0_2) (hr1 : Kd.C (Kd.int .u8) w A1 l1.length l1) (hc1 : l1.length ≤ c1) (hr2 : Kd.C (Kd.int .u8) w A2 l2.length l2) (hc2 : l2.length ≤ c2) (h : capnplaw25_UnpackstreamSplit.f k a0_0 a0_1 l0_2 a0_3 a0_4 a0_5 l1 l2 a3 = some r) (hL : Go.Proofs.YtpffoecblcfndaaDoor.Us.StepsL w) :
    Calls Tryd.prog 5 #[.agg #[.int .i64 a0_0, .int .u8 a0_1, .slice A0_2 l0_2.length c0_2, .int .i64 a0_3, .int .i64 a0_4, .int .i64 a0_5], .slice A1 l1.length c1, .slice A2 l2.length c2, .int .i64 a3] w fun e w' => e = .returned (.bool r) ∧ Below w.heap.size w w' := by
  have HL := Aside0.mk hL
  clear hL
  have hu25 := Tryd.underlying25
  have HR0_2 := Aside0.mk hr0_2
  have HC0_2 := Aside0.mk hc0_2
  clear hr0_2 hc0_2
  have HR1 := Aside0.mk hr1
  have HC1 := Aside0.mk hc1
  clear hr1 hc1
  have HR2 := Aside0.mk hr2
  have HC2 := Aside0.mk hc2
  clear hr2 hc2
  have HB := Aside0.mk (Below.refl w.heap.size w)
  have H : ((capnplaw25_awake.f k).bind fun t206 => (if t206 = true then (if (l0_2.length : Int) > 7 then (capnplaw25_UnpackstreamSplit.j0 k l1 l2 a3 true a0_0 a0_1 l0_2 a0_3 a0_4 a0_5) else (if (l1.length : Int) > 400 then (capnplaw25_UnpackstreamSplit.j0 k l1 l2 a3 true a0_0 a0_1 l0_2 a0_3 a0_4 a0_5) else (capnplaw25_UnpackstreamSplit.j0 k l1 l2 a3 (decide ((l2.length : Int) > 400)) a0_0 a0_1 l0_2 a0_3 a0_4 a0_5))) else (capnplaw25_UnpackstreamSplit.j0 k l1 l2 a3 true a0_0 a0_1 l0_2 a0_3 a0_4 a0_5))) = some r := h
  clear h
  have HC5 := Aside0.mk H
  clear H
  go_enter Tryd.func5, Tryd.ntmps5
  try simp only [List.append_eq, List.cons_append, List.nil_append]
  go_upto_region 1 with (first | ((with_reducible refine gate_dst (N := 4) rfl ?_); (try (refine gate_guard (by rfl) ?_; dsimp only)); refine box_event ?hg (N := 4) ?hd (cs := #[.int .i64 a0_0, .int .u8 a0_1, .slice A0_2 l0_2.length c0_2, .int .i64 a0_3, .int .i64 a0_4, .int .i64 a0_5]) (t := 25) ?hr ?_; (case hd => rfl); (case hg => rfl); (case hr => first | (go_simp; done) | (go_simp; rfl)); intro gb205 hg w6 hbox hb; have n0_ := Aside0.mk (below_step pB hb); have n1_ := Aside0.mk (hbox); have n2_ := Aside0.mk ((by rw [hg]; exact (below_size pB) : w.heap.size ≤ gb205)); have n3_ := Aside0.mk ((by rw [hg]; exact (below_size pB) : w.heap.size ≤ gb205)); clear HB; have HB := n0_; have BK205 := n1_; have GW205 := n2_; have GE205 := n3_; clear n0_ n1_ n2_ n3_; clear hb hbox hg))
  (try simp only [Act.put, List.setIfInBounds_toArray, List.set_cons_zero, List.set_cons_succ])
  go_cut [35] (fun v35 wc => ∃ (kq : Nat) (x35_4 : Bool), v35 = .bool x35_4 ∧ Aside0 (capnplaw25_UnpackstreamSplit.j0 kq l1 l2 a3 x35_4 a0_0 a0_1 l0_2 a0_3 a0_4 a0_5 = some r) ∧ Aside0 (kq ≤ k) ∧ Aside0 (wc.heap[gb205]? = some (.cells #[.int .i64 a0_0, .int .u8 a0_1, (.slice A0_2 l0_2.length c0_2), .int .i64 a0_3, .int .i64 a0_4, .int .i64 a0_5] 25 (0, 0))) ∧ Aside0 (Below w.heap.size w wc))
  case first =>
    have H := HC5.out
    clear HC5
    replace H := Option.bind_eq_some_iff.mp H
    obtain ⟨t206, A70, H⟩ := H
    replace H : (if t206 = true then (if (l0_2.length : Int) > 7 then (capnplaw25_UnpackstreamSplit.j0 k l1 l2 a3 true a0_0 a0_1 l0_2 a0_3 a0_4 a0_5) else (if (l1.length : Int) > 400 then (capnplaw25_UnpackstreamSplit.j0 k l1 l2 a3 true a0_0 a0_1 l0_2 a0_3 a0_4 a0_5) else (capnplaw25_UnpackstreamSplit.j0 k l1 l2 a3 (decide ((l2.length : Int) > 400)) a0_0 a0_1 l0_2 a0_3 a0_4 a0_5))) else (capnplaw25_UnpackstreamSplit.j0 k l1 l2 a3 true a0_0 a0_1 l0_2 a0_3 a0_4 a0_5)) = some r := H
    have A7 := Aside0.mk A70
    clear A70
    by_cases c8 : t206 = true
    · subst c8
      have H1 : (if (l0_2.length : Int) > 7 then (capnplaw25_UnpackstreamSplit.j0 k l1 l2 a3 true a0_0 a0_1 l0_2 a0_3 a0_4 a0_5) else (if (l1.length : Int) > 400 then (capnplaw25_UnpackstreamSplit.j0 k l1 l2 a3 true a0_0 a0_1 l0_2 a0_3 a0_4 a0_5) else (capnplaw25_UnpackstreamSplit.j0 k l1 l2 a3 (decide ((l2.length : Int) > 400)) a0_0 a0_1 l0_2 a0_3 a0_4 a0_5))) = some r := by rw [if_pos rfl] at H; exact H
      clear H
      have H := H1
      clear H1
      by_cases c9 : (l0_2.length : Int) > 7
      · rw [if_pos c9] at H
        have c9b0 : decide (7 < (l0_2.length : Int)) = true := decide_eq_true c9
        have c9b1 : decide (7 < l0_2.length) = true := decide_eq_true (by omega)
        clear c9
        (first | rw [c9b0] | (simp only [i64_w, i32_w]; rw [c9b0]) | skip)
        have H' := Aside0.mk H
        clear H
        go_wp2_with (first | ((with_reducible refine gate_callee (f := 8) rfl ?_); refine goesL_ (some 18) rfl rfl Tryd.func8 (by kernel_rfl) rfl #[] rfl pM ?_; (with_reducible refine (capnplaw25_awake.calls k  true _ A7.out (Go.Proofs.YtpffoecblcfndaaDoor.Us.StepsL.below HL.out (by repeat (with_reducible first | exact HB.out | apply below_alloc | apply pw_below_drewN | apply below_drew1 | refine below_set ?_ (Aside0.out (by with_reducible assumption)))))).mono ?_); rintro e w10 ⟨rfl, hb⟩; refine ⟨_, rfl, ?_⟩; have n0_ := Aside0.mk (blk_below (g := gb205) (o := .cells #[.int .i64 a0_0, .int .u8 a0_1, .slice A0_2 l0_2.length c0_2, .int .i64 a0_3, .int .i64 a0_4, .int .i64 a0_5] 25 (0, 0)) (pK BK205) hb); have n1_ := Aside0.mk (below_step (by repeat (first | (with_reducible first | exact HB.out | apply below_alloc | apply pw_below_drewN | apply below_drew1 | refine below_set ?_ GE205.out) | exact HB.out)) hb); clear BK205; clear HB; have BK205 := n0_; have HB := n1_; clear n0_ n1_; (try clear hb); (try clear hb2); (try clear hk); (try clear hi); have hcz11_0 : w10.cell? ⟨gb205, 0, none⟩ = some (.int .i64 a0_0) := (blk_cell BK205.out 0).trans rfl; have hcz11_1 : w10.cell? ⟨gb205, 1, none⟩ = some (.int .u8 a0_1) := (blk_cell BK205.out 1).trans rfl; have hcz11_2 : w10.cell? ⟨gb205, 2, none⟩ = some (.slice A0_2 l0_2.length c0_2) := (blk_cell BK205.out 2).trans rfl; have hcz11_3 : w10.cell? ⟨gb205, 3, none⟩ = some (.int .i64 a0_3) := (blk_cell BK205.out 3).trans rfl; have hcz11_4 : w10.cell? ⟨gb205, 4, none⟩ = some (.int .i64 a0_4) := (blk_cell BK205.out 4).trans rfl; have hcz11_5 : w10.cell? ⟨gb205, 5, none⟩ = some (.int .i64 a0_5) := (blk_cell BK205.out 5).trans rfl; have hfz11_0 := blk_frozen BK205.out 0; have hfz11_1 := blk_frozen BK205.out 1; have hfz11_2 := blk_frozen BK205.out 2; have hfz11_3 := blk_frozen BK205.out 3; have hfz11_4 := blk_frozen BK205.out 4; have hfz11_5 := blk_frozen BK205.out 5))
        go_meet
        case rel => exact ⟨_, (true), (by first | rfl | (simp; done) | (simp [*]; done)), H', ⟨by first | omega | exact Nat.le_refl _⟩, ⟨pK BK205⟩, ⟨by repeat (first | (with_reducible first | exact HB.out | apply below_alloc | apply pw_below_drewN | apply below_drew1 | refine below_set ?_ GE205.out) | exact HB.out)⟩⟩
      · rw [if_neg c9] at H
        have c9b0 : decide (7 < (l0_2.length : Int)) = false := decide_eq_false c9
        have c9b1 : decide (7 < l0_2.length) = false := decide_eq_false (by omega)
        clear c9
        (first | rw [c9b0] | (simp only [i64_w, i32_w]; rw [c9b0]) | skip)
        by_cases c12 : (l1.length : Int) > 400
        · rw [if_pos c12] at H
          have c12b0 : decide (400 < (l1.length : Int)) = true := decide_eq_true c12
          have c12b1 : decide (400 < l1.length) = true := decide_eq_true (by omega)
          clear c12
          have H' := Aside0.mk H
          clear H
          go_wp2_with (first | ((with_reducible refine gate_callee (f := 8) rfl ?_); refine goesL_ (some 18) rfl rfl Tryd.func8 (by kernel_rfl) rfl #[] rfl pM ?_; (with_reducible refine (capnplaw25_awake.calls k  true _ A7.out (Go.Proofs.YtpffoecblcfndaaDoor.Us.StepsL.below HL.out (by repeat (with_reducible first | exact HB.out | apply below_alloc | apply pw_below_drewN | apply below_drew1 | refine below_set ?_ (Aside0.out (by with_reducible assumption)))))).mono ?_); rintro e w13 ⟨rfl, hb⟩; refine ⟨_, rfl, ?_⟩; have n0_ := Aside0.mk (blk_below (g := gb205) (o := .cells #[.int .i64 a0_0, .int .u8 a0_1, .slice A0_2 l0_2.length c0_2, .int .i64 a0_3, .int .i64 a0_4, .int .i64 a0_5] 25 (0, 0)) (pK BK205) hb); have n1_ := Aside0.mk (below_step (by repeat (first | (with_reducible first | exact HB.out | apply below_alloc | apply pw_below_drewN | apply below_drew1 | refine below_set ?_ GE205.out) | exact HB.out)) hb); clear BK205; clear HB; have BK205 := n0_; have HB := n1_; clear n0_ n1_; (try clear hb); (try clear hb2); (try clear hk); (try clear hi); have hcz14_0 : w13.cell? ⟨gb205, 0, none⟩ = some (.int .i64 a0_0) := (blk_cell BK205.out 0).trans rfl; have hcz14_1 : w13.cell? ⟨gb205, 1, none⟩ = some (.int .u8 a0_1) := (blk_cell BK205.out 1).trans rfl; have hcz14_2 : w13.cell? ⟨gb205, 2, none⟩ = some (.slice A0_2 l0_2.length c0_2) := (blk_cell BK205.out 2).trans rfl; have hcz14_3 : w13.cell? ⟨gb205, 3, none⟩ = some (.int .i64 a0_3) := (blk_cell BK205.out 3).trans rfl; have hcz14_4 : w13.cell? ⟨gb205, 4, none⟩ = some (.int .i64 a0_4) := (blk_cell BK205.out 4).trans rfl; have hcz14_5 : w13.cell? ⟨gb205, 5, none⟩ = some (.int .i64 a0_5) := (blk_cell BK205.out 5).trans rfl; have hfz14_0 := blk_frozen BK205.out 0; have hfz14_1 := blk_frozen BK205.out 1; have hfz14_2 := blk_frozen BK205.out 2; have hfz14_3 := blk_frozen BK205.out 3; have hfz14_4 := blk_frozen BK205.out 4; have hfz14_5 := blk_frozen BK205.out 5))
          go_meet
          case rel => exact ⟨_, (true), (by first | rfl | (simp; done) | (simp [*]; done)), H', ⟨by first | omega | exact Nat.le_refl _⟩, ⟨pK BK205⟩, ⟨by repeat (first | (with_reducible first | exact HB.out | apply below_alloc | apply pw_below_drewN | apply below_drew1 | refine below_set ?_ GE205.out) | exact HB.out)⟩⟩
        · rw [if_neg c12] at H
          have c12b0 : decide (400 < (l1.length : Int)) = false := decide_eq_false c12
          have c12b1 : decide (400 < l1.length) = false := decide_eq_false (by omega)
          clear c12
          have H' := Aside0.mk H
          clear H
          go_wp2_with (first | ((with_reducible refine gate_callee (f := 8) rfl ?_); refine goesL_ (some 18) rfl rfl Tryd.func8 (by kernel_rfl) rfl #[] rfl pM ?_; (with_reducible refine (capnplaw25_awake.calls k  true _ A7.out (Go.Proofs.YtpffoecblcfndaaDoor.Us.StepsL.below HL.out (by repeat (with_reducible first | exact HB.out | apply below_alloc | apply pw_below_drewN | apply below_drew1 | refine below_set ?_ (Aside0.out (by with_reducible assumption)))))).mono ?_); rintro e w15 ⟨rfl, hb⟩; refine ⟨_, rfl, ?_⟩; have n0_ := Aside0.mk (blk_below (g := gb205) (o := .cells #[.int .i64 a0_0, .int .u8 a0_1, .slice A0_2 l0_2.length c0_2, .int .i64 a0_3, .int .i64 a0_4, .int .i64 a0_5] 25 (0, 0)) (pK BK205) hb); have n1_ := Aside0.mk (below_step (by repeat (first | (with_reducible first | exact HB.out | apply below_alloc | apply pw_below_drewN | apply below_drew1 | refine below_set ?_ GE205.out) | exact HB.out)) hb); clear BK205; clear HB; have BK205 := n0_; have HB := n1_; clear n0_ n1_; (try clear hb); (try clear hb2); (try clear hk); (try clear hi); have hcz16_0 : w15.cell? ⟨gb205, 0, none⟩ = some (.int .i64 a0_0) := (blk_cell BK205.out 0).trans rfl; have hcz16_1 : w15.cell? ⟨gb205, 1, none⟩ = some (.int .u8 a0_1) := (blk_cell BK205.out 1).trans rfl; have hcz16_2 : w15.cell? ⟨gb205, 2, none⟩ = some (.slice A0_2 l0_2.length c0_2) := (blk_cell BK205.out 2).trans rfl; have hcz16_3 : w15.cell? ⟨gb205, 3, none⟩ = some (.int .i64 a0_3) := (blk_cell BK205.out 3).trans rfl; have hcz16_4 : w15.cell? ⟨gb205, 4, none⟩ = some (.int .i64 a0_4) := (blk_cell BK205.out 4).trans rfl; have hcz16_5 : w15.cell? ⟨gb205, 5, none⟩ = some (.int .i64 a0_5) := (blk_cell BK205.out 5).trans rfl; have hfz16_0 := blk_frozen BK205.out 0; have hfz16_1 := blk_frozen BK205.out 1; have hfz16_2 := blk_frozen BK205.out 2; have hfz16_3 := blk_frozen BK205.out 3; have hfz16_4 := blk_frozen BK205.out 4; have hfz16_5 := blk_frozen BK205.out 5))
          go_meet
          case rel => exact ⟨_, (decide ((l2.length : Int) > 400)), (by first | rfl | (simp; done) | (simp [*]; done)), H', ⟨by first | omega | exact Nat.le_refl _⟩, ⟨pK BK205⟩, ⟨by repeat (first | (with_reducible first | exact HB.out | apply below_alloc | apply pw_below_drewN | apply below_drew1 | refine below_set ?_ GE205.out) | exact HB.out)⟩⟩
    · replace c8 := Bool.eq_false_iff.mpr c8
      subst c8
      have H1 : (capnplaw25_UnpackstreamSplit.j0 k l1 l2 a3 true a0_0 a0_1 l0_2 a0_3 a0_4 a0_5) = some r := by rw [if_neg (show ¬ (false = true) by decide)] at H; exact H
      clear H
      have H := H1
      clear H1
      have H' := Aside0.mk H
      clear H
      go_wp2_with (first | ((with_reducible refine gate_callee (f := 8) rfl ?_); refine goesL_ (some 18) rfl rfl Tryd.func8 (by kernel_rfl) rfl #[] rfl pM ?_; (with_reducible refine (capnplaw25_awake.calls k  false _ A7.out (Go.Proofs.YtpffoecblcfndaaDoor.Us.StepsL.below HL.out (by repeat (with_reducible first | exact HB.out | apply below_alloc | apply pw_below_drewN | apply below_drew1 | refine below_set ?_ (Aside0.out (by with_reducible assumption)))))).mono ?_); rintro e w17 ⟨rfl, hb⟩; refine ⟨_, rfl, ?_⟩; have n0_ := Aside0.mk (blk_below (g := gb205) (o := .cells #[.int .i64 a0_0, .int .u8 a0_1, .slice A0_2 l0_2.length c0_2, .int .i64 a0_3, .int .i64 a0_4, .int .i64 a0_5] 25 (0, 0)) (pK BK205) hb); have n1_ := Aside0.mk (below_step (by repeat (first | (with_reducible first | exact HB.out | apply below_alloc | apply pw_below_drewN | apply below_drew1 | refine below_set ?_ GE205.out) | exact HB.out)) hb); clear BK205; clear HB; have BK205 := n0_; have HB := n1_; clear n0_ n1_; (try clear hb); (try clear hb2); (try clear hk); (try clear hi)))
      go_meet
      case rel => exact ⟨_, (true), (by first | rfl | (simp; done) | (simp [*]; done)), H', ⟨by first | omega | exact Nat.le_refl _⟩, ⟨pK BK205⟩, ⟨by repeat (first | (with_reducible first | exact HB.out | apply below_alloc | apply pw_below_drewN | apply below_drew1 | refine below_set ?_ GE205.out) | exact HB.out)⟩⟩
  case rest =>
    clear HC5
    try clear c1
    try clear c2
    try clear p2
    try clear c5
    try clear c8
    try clear c9
    try clear c9b0
    try clear c9b1
    try clear c12
    try clear c12b0
    try clear c12b1
    try clear hcz11_0
    try clear hcz11_1
    try clear hcz11_2
    try clear hcz11_3
    try clear hcz11_4
    try clear hcz11_5
    try clear hcz14_0
    try clear hcz14_1
    try clear hcz14_2
    try clear hcz14_3
    try clear hcz14_4
    try clear hcz14_5
    try clear hcz16_0
    try clear hcz16_1
    try clear hcz16_2
    try clear hcz16_3
    try clear hcz16_4
    try clear hcz16_5
    try clear hfz11_0
    try clear hfz11_1
    try clear hfz11_2
    try clear hfz11_3
    try clear hfz11_4
    try clear hfz11_5
    try clear hfz14_0
    try clear hfz14_1
    try clear hfz14_2
    try clear hfz14_3
    try clear hfz14_4
    try clear hfz14_5
    try clear hfz16_0
    try clear hfz16_1
    try clear hfz16_2
    try clear hfz16_3
    try clear hfz16_4
    try clear hfz16_5
    obtain ⟨kq, x35_4, rfl, HA, HJ4, BK205, HB⟩ := hcut
    cases kq with
    | zero => exact absurd HA.out (by simp [capnplaw25_UnpackstreamSplit.j0])
    | succ kj4 =>
      have H := HA.out
      clear HA
      simp only [capnplaw25_UnpackstreamSplit.j0] at H
      by_cases c18 : x35_4 = true
      · subst c18
        have H1 : ((capnplaw25_awake.f kj4).bind fun t207 => (some t207)) = some r := by rw [if_pos rfl] at H; exact H
        clear H
        have H := H1
        clear H1
        replace H := Option.bind_eq_some_iff.mp H
        obtain ⟨t207, A190, H⟩ := H
        replace H : (some t207) = some r := H
        have A19 := Aside0.mk A190
        clear A190
        obtain rfl := Option.some.inj H
        go_wp2_with (first | ((with_reducible refine gate_callee (f := 8) rfl ?_); refine goesL_ (some 36) rfl rfl Tryd.func8 (by kernel_rfl) rfl #[] rfl pM ?_; (with_reducible refine (capnplaw25_awake.calls kj4  t207 _ A19.out (Go.Proofs.YtpffoecblcfndaaDoor.Us.StepsL.below HL.out (by repeat (with_reducible first | exact HB.out | apply below_alloc | apply pw_below_drewN | apply below_drew1 | refine below_set ?_ (Aside0.out (by with_reducible assumption)))))).mono ?_); rintro e w20 ⟨rfl, hb⟩; refine ⟨_, rfl, ?_⟩; have n0_ := Aside0.mk (blk_below (g := gb205) (o := .cells #[.int .i64 a0_0, .int .u8 a0_1, .slice A0_2 l0_2.length c0_2, .int .i64 a0_3, .int .i64 a0_4, .int .i64 a0_5] 25 (0, 0)) (pK BK205) hb); have n1_ := Aside0.mk (below_step (by repeat (first | (with_reducible first | exact HB.out | apply below_alloc | apply pw_below_drewN | apply below_drew1 | refine below_set ?_ GE205.out) | exact HB.out)) hb); clear BK205; clear HB; have BK205 := n0_; have HB := n1_; clear n0_ n1_; (try clear hb); (try clear hb2); (try clear hk); (try clear hi)))
        go_ret
        exact ⟨by first | rfl | (simp [errW_none, errW_some] <;> rfl) | (simp [*, errW_none, errW_some] <;> rfl), by repeat (first | (with_reducible first | exact HB.out | apply below_alloc | apply pw_below_drewN | apply below_drew1 | refine below_set ?_ GE205.out) | exact HB.out)⟩
      · replace c18 := Bool.eq_false_iff.mpr c18
        subst c18
        have H1 : ((unpackstream_Write.f a0_0 a0_1 l0_2 a0_3 a0_4 a0_5 l1 a3).bind fun bt208 => ((unpackstream_Write.f bt208.1 bt208.2.1 bt208.2.2.1 bt208.2.2.2.1 bt208.2.2.2.2.1 bt208.2.2.2.2.2.1 l2 a3).bind fun bt221 => ((some (([] : List Int) : List Int)).bind fun y234 => (if y234.length + l1.length < 140737488355328 then ((some (y234 ++ l1 : List Int)).bind fun y237 => (if y237.length + l2.length < 140737488355328 then ((unpackstream_Write.f a0_0 a0_1 l0_2 a0_3 a0_4 a0_5 (y237 ++ l2) a3).bind fun bt243 => ((capnpref25_Same.f kj4 bt221.1 bt221.2.1 bt221.2.2.1 bt221.2.2.2.1 bt221.2.2.2.2.1 bt221.2.2.2.2.2.1 bt243.1 bt243.2.1 bt243.2.2.1 bt243.2.2.2.1 bt243.2.2.2.2.1 bt243.2.2.2.2.2.1).bind fun t256 => (if t256 = true then ((some (([] : List Int) : List Int)).bind fun y257 => (if y257.length + bt208.2.2.2.2.2.2.1.length < 140737488355328 then ((some (y257 ++ bt208.2.2.2.2.2.2.1 : List Int)).bind fun y260 => (if y260.length + bt221.2.2.2.2.2.2.1.length < 140737488355328 then ((capnpref01_Same.f kj4 (y260 ++ bt221.2.2.2.2.2.2.1) bt243.2.2.2.2.2.2.1).bind fun t266 => (if t266 = true then (some (bt221.2.2.2.2.2.2.2 == bt243.2.2.2.2.2.2.2)) else (none))) else (none))) else (none))) else (none)))) else (none))) else (none))))) = some r := by rw [if_neg (show ¬ (false = true) by decide)] at H; exact H
        clear H
        have H := H1
        clear H1
        replace H := Option.bind_eq_some_iff.mp H
        obtain ⟨⟨t208, t209, t210, t213, t214, t215, t216, t219⟩, A210, H⟩ := H
        replace H : ((unpackstream_Write.f t208 t209 t210 t213 t214 t215 l2 a3).bind fun bt221 => ((some (([] : List Int) : List Int)).bind fun y234 => (if y234.length + l1.length < 140737488355328 then ((some (y234 ++ l1 : List Int)).bind fun y237 => (if y237.length + l2.length < 140737488355328 then ((unpackstream_Write.f a0_0 a0_1 l0_2 a0_3 a0_4 a0_5 (y237 ++ l2) a3).bind fun bt243 => ((capnpref25_Same.f kj4 bt221.1 bt221.2.1 bt221.2.2.1 bt221.2.2.2.1 bt221.2.2.2.2.1 bt221.2.2.2.2.2.1 bt243.1 bt243.2.1 bt243.2.2.1 bt243.2.2.2.1 bt243.2.2.2.2.1 bt243.2.2.2.2.2.1).bind fun t256 => (if t256 = true then ((some (([] : List Int) : List Int)).bind fun y257 => (if y257.length + t216.length < 140737488355328 then ((some (y257 ++ t216 : List Int)).bind fun y260 => (if y260.length + bt221.2.2.2.2.2.2.1.length < 140737488355328 then ((capnpref01_Same.f kj4 (y260 ++ bt221.2.2.2.2.2.2.1) bt243.2.2.2.2.2.2.1).bind fun t266 => (if t266 = true then (some (bt221.2.2.2.2.2.2.2 == bt243.2.2.2.2.2.2.2)) else (none))) else (none))) else (none))) else (none)))) else (none))) else (none)))) = some r := H
        have A21 := Aside0.mk A210
        clear A210
        replace H := Option.bind_eq_some_iff.mp H
        obtain ⟨⟨t221, t222, t223, t226, t227, t228, t229, t232⟩, A220, H⟩ := H
        replace H : ((some (([] : List Int) : List Int)).bind fun y234 => (if y234.length + l1.length < 140737488355328 then ((some (y234 ++ l1 : List Int)).bind fun y237 => (if y237.length + l2.length < 140737488355328 then ((unpackstream_Write.f a0_0 a0_1 l0_2 a0_3 a0_4 a0_5 (y237 ++ l2) a3).bind fun bt243 => ((capnpref25_Same.f kj4 t221 t222 t223 t226 t227 t228 bt243.1 bt243.2.1 bt243.2.2.1 bt243.2.2.2.1 bt243.2.2.2.2.1 bt243.2.2.2.2.2.1).bind fun t256 => (if t256 = true then ((some (([] : List Int) : List Int)).bind fun y257 => (if y257.length + t216.length < 140737488355328 then ((some (y257 ++ t216 : List Int)).bind fun y260 => (if y260.length + t229.length < 140737488355328 then ((capnpref01_Same.f kj4 (y260 ++ t229) bt243.2.2.2.2.2.2.1).bind fun t266 => (if t266 = true then (some (t232 == bt243.2.2.2.2.2.2.2)) else (none))) else (none))) else (none))) else (none)))) else (none))) else (none))) = some r := H
        have A22 := Aside0.mk A220
        clear A220
        obtain ⟨y234, hy234⟩ : ∃ y_ : List Int, y_ = (([] : List Int)) := ⟨_, rfl⟩
        replace H : (if y234.length + l1.length < 140737488355328 then ((some (y234 ++ l1 : List Int)).bind fun y237 => (if y237.length + l2.length < 140737488355328 then ((unpackstream_Write.f a0_0 a0_1 l0_2 a0_3 a0_4 a0_5 (y237 ++ l2) a3).bind fun bt243 => ((capnpref25_Same.f kj4 t221 t222 t223 t226 t227 t228 bt243.1 bt243.2.1 bt243.2.2.1 bt243.2.2.2.1 bt243.2.2.2.2.1 bt243.2.2.2.2.2.1).bind fun t256 => (if t256 = true then ((some (([] : List Int) : List Int)).bind fun y257 => (if y257.length + t216.length < 140737488355328 then ((some (y257 ++ t216 : List Int)).bind fun y260 => (if y260.length + t229.length < 140737488355328 then ((capnpref01_Same.f kj4 (y260 ++ t229) bt243.2.2.2.2.2.2.1).bind fun t266 => (if t266 = true then (some (t232 == bt243.2.2.2.2.2.2.2)) else (none))) else (none))) else (none))) else (none)))) else (none))) else (none)) = some r := by first | (rw [hy234]; with_reducible exact H) | (have H2_ := (Option.bind_some _ _).symm.trans H; rw [hy234]; with_reducible exact H2_) | (have H2_ := (Option.bind_some _ _).symm.trans H; with_reducible exact H2_) | with_reducible exact H | (rw [hy234]; exact H) | exact H
        have Ny234 := Aside0.mk hy234
        clear hy234
        by_cases c23 : y234.length + l1.length < 140737488355328
        · rw [if_pos c23] at H
          have LMc23 := Aside0.mk c23
          clear c23
          obtain ⟨y237, hy237⟩ : ∃ y_ : List Int, y_ = (y234 ++ l1) := ⟨_, rfl⟩
          replace H : (if y237.length + l2.length < 140737488355328 then ((unpackstream_Write.f a0_0 a0_1 l0_2 a0_3 a0_4 a0_5 (y237 ++ l2) a3).bind fun bt243 => ((capnpref25_Same.f kj4 t221 t222 t223 t226 t227 t228 bt243.1 bt243.2.1 bt243.2.2.1 bt243.2.2.2.1 bt243.2.2.2.2.1 bt243.2.2.2.2.2.1).bind fun t256 => (if t256 = true then ((some (([] : List Int) : List Int)).bind fun y257 => (if y257.length + t216.length < 140737488355328 then ((some (y257 ++ t216 : List Int)).bind fun y260 => (if y260.length + t229.length < 140737488355328 then ((capnpref01_Same.f kj4 (y260 ++ t229) bt243.2.2.2.2.2.2.1).bind fun t266 => (if t266 = true then (some (t232 == bt243.2.2.2.2.2.2.2)) else (none))) else (none))) else (none))) else (none)))) else (none)) = some r := by first | (rw [hy237]; with_reducible exact H) | (have H2_ := (Option.bind_some _ _).symm.trans H; rw [hy237]; with_reducible exact H2_) | (have H2_ := (Option.bind_some _ _).symm.trans H; with_reducible exact H2_) | with_reducible exact H | (rw [hy237]; exact H) | exact H
          have Ny237 := Aside0.mk hy237
          clear hy237
          by_cases c24 : y237.length + l2.length < 140737488355328
          · rw [if_pos c24] at H
            have LMc24 := Aside0.mk c24
            clear c24
            obtain ⟨y240, hy240⟩ : ∃ y_ : List Int, y_ = (y237 ++ l2) := ⟨_, rfl⟩
            replace H : ((unpackstream_Write.f a0_0 a0_1 l0_2 a0_3 a0_4 a0_5 y240 a3).bind fun bt243 => ((capnpref25_Same.f kj4 t221 t222 t223 t226 t227 t228 bt243.1 bt243.2.1 bt243.2.2.1 bt243.2.2.2.1 bt243.2.2.2.2.1 bt243.2.2.2.2.2.1).bind fun t256 => (if t256 = true then ((some (([] : List Int) : List Int)).bind fun y257 => (if y257.length + t216.length < 140737488355328 then ((some (y257 ++ t216 : List Int)).bind fun y260 => (if y260.length + t229.length < 140737488355328 then ((capnpref01_Same.f kj4 (y260 ++ t229) bt243.2.2.2.2.2.2.1).bind fun t266 => (if t266 = true then (some (t232 == bt243.2.2.2.2.2.2.2)) else (none))) else (none))) else (none))) else (none)))) = some r := by first | (rw [hy240]; with_reducible exact H) | (have H2_ := (Option.bind_some _ _).symm.trans H; rw [hy240]; with_reducible exact H2_) | (have H2_ := (Option.bind_some _ _).symm.trans H; with_reducible exact H2_) | with_reducible exact H | (rw [hy240]; exact H) | exact H
            have Ny240 := Aside0.mk hy240
            clear hy240
            replace H := Option.bind_eq_some_iff.mp H
            obtain ⟨⟨t243, t244, t245, t248, t249, t250, t251, t254⟩, A250, H⟩ := H
            replace H : ((capnpref25_Same.f kj4 t221 t222 t223 t226 t227 t228 t243 t244 t245 t248 t249 t250).bind fun t256 => (if t256 = true then ((some (([] : List Int) : List Int)).bind fun y257 => (if y257.length + t216.length < 140737488355328 then ((some (y257 ++ t216 : List Int)).bind fun y260 => (if y260.length + t229.length < 140737488355328 then ((capnpref01_Same.f kj4 (y260 ++ t229) t251).bind fun t266 => (if t266 = true then (some (t232 == t254)) else (none))) else (none))) else (none))) else (none))) = some r := H
            have A25 := Aside0.mk A250
            clear A250
            replace H := Option.bind_eq_some_iff.mp H
            obtain ⟨t256, A260, H⟩ := H
            replace H : (if t256 = true then ((some (([] : List Int) : List Int)).bind fun y257 => (if y257.length + t216.length < 140737488355328 then ((some (y257 ++ t216 : List Int)).bind fun y260 => (if y260.length + t229.length < 140737488355328 then ((capnpref01_Same.f kj4 (y260 ++ t229) t251).bind fun t266 => (if t266 = true then (some (t232 == t254)) else (none))) else (none))) else (none))) else (none)) = some r := H
            have A26 := Aside0.mk A260
            clear A260
            by_cases c27 : t256 = true
            · subst c27
              have H1 : ((some (([] : List Int) : List Int)).bind fun y257 => (if y257.length + t216.length < 140737488355328 then ((some (y257 ++ t216 : List Int)).bind fun y260 => (if y260.length + t229.length < 140737488355328 then ((capnpref01_Same.f kj4 (y260 ++ t229) t251).bind fun t266 => (if t266 = true then (some (t232 == t254)) else (none))) else (none))) else (none))) = some r := by rw [if_pos rfl] at H; exact H
              clear H
              have H := H1
              clear H1
              obtain ⟨y257, hy257⟩ : ∃ y_ : List Int, y_ = (([] : List Int)) := ⟨_, rfl⟩
              replace H : (if y257.length + t216.length < 140737488355328 then ((some (y257 ++ t216 : List Int)).bind fun y260 => (if y260.length + t229.length < 140737488355328 then ((capnpref01_Same.f kj4 (y260 ++ t229) t251).bind fun t266 => (if t266 = true then (some (t232 == t254)) else (none))) else (none))) else (none)) = some r := by first | (rw [hy257]; with_reducible exact H) | (have H2_ := (Option.bind_some _ _).symm.trans H; rw [hy257]; with_reducible exact H2_) | (have H2_ := (Option.bind_some _ _).symm.trans H; with_reducible exact H2_) | with_reducible exact H | (rw [hy257]; exact H) | exact H
              have Ny257 := Aside0.mk hy257
              clear hy257
              by_cases c28 : y257.length + t216.length < 140737488355328
              · rw [if_pos c28] at H
                have LMc28 := Aside0.mk c28
                clear c28
                obtain ⟨y260, hy260⟩ : ∃ y_ : List Int, y_ = (y257 ++ t216) := ⟨_, rfl⟩
                replace H : (if y260.length + t229.length < 140737488355328 then ((capnpref01_Same.f kj4 (y260 ++ t229) t251).bind fun t266 => (if t266 = true then (some (t232 == t254)) else (none))) else (none)) = some r := by first | (rw [hy260]; with_reducible exact H) | (have H2_ := (Option.bind_some _ _).symm.trans H; rw [hy260]; with_reducible exact H2_) | (have H2_ := (Option.bind_some _ _).symm.trans H; with_reducible exact H2_) | with_reducible exact H | (rw [hy260]; exact H) | exact H
                have Ny260 := Aside0.mk hy260
                clear hy260
                by_cases c29 : y260.length + t229.length < 140737488355328
                · rw [if_pos c29] at H
                  have LMc29 := Aside0.mk c29
                  clear c29
                  obtain ⟨y263, hy263⟩ : ∃ y_ : List Int, y_ = (y260 ++ t229) := ⟨_, rfl⟩
                  replace H : ((capnpref01_Same.f kj4 y263 t251).bind fun t266 => (if t266 = true then (some (t232 == t254)) else (none))) = some r := by first | (rw [hy263]; with_reducible exact H) | (have H2_ := (Option.bind_some _ _).symm.trans H; rw [hy263]; with_reducible exact H2_) | (have H2_ := (Option.bind_some _ _).symm.trans H; with_reducible exact H2_) | with_reducible exact H | (rw [hy263]; exact H) | exact H
                  have Ny263 := Aside0.mk hy263
                  clear hy263
                  replace H := Option.bind_eq_some_iff.mp H
                  obtain ⟨t266, A300, H⟩ := H
                  replace H : (if t266 = true then (some (t232 == t254)) else (none)) = some r := H
                  have A30 := Aside0.mk A300
                  clear A300
                  by_cases c31 : t266 = true
                  · subst c31
                    have H1 : (some (t232 == t254)) = some r := by rw [if_pos rfl] at H; exact H
                    clear H
                    have H := H1
                    clear H1
                    obtain rfl := Option.some.inj H
                    have hcz32_0 : wc.cell? ⟨gb205, 0, none⟩ = some (.int .i64 a0_0) := (blk_cell BK205.out 0).trans rfl
                    have hcz32_1 : wc.cell? ⟨gb205, 1, none⟩ = some (.int .u8 a0_1) := (blk_cell BK205.out 1).trans rfl
                    have hcz32_2 : wc.cell? ⟨gb205, 2, none⟩ = some (.slice A0_2 l0_2.length c0_2) := (blk_cell BK205.out 2).trans rfl
                    have hcz32_3 : wc.cell? ⟨gb205, 3, none⟩ = some (.int .i64 a0_3) := (blk_cell BK205.out 3).trans rfl
                    have hcz32_4 : wc.cell? ⟨gb205, 4, none⟩ = some (.int .i64 a0_4) := (blk_cell BK205.out 4).trans rfl
                    have hcz32_5 : wc.cell? ⟨gb205, 5, none⟩ = some (.int .i64 a0_5) := (blk_cell BK205.out 5).trans rfl
                    have hfz32_0 := blk_frozen BK205.out 0
                    have hfz32_1 := blk_frozen BK205.out 1
                    have hfz32_2 := blk_frozen BK205.out 2
                    have hfz32_3 := blk_frozen BK205.out 3
                    have hfz32_4 := blk_frozen BK205.out 4
                    have hfz32_5 := blk_frozen BK205.out 5
                    try go_wp2_with (first | ((with_reducible refine gate_callee (f := 9) rfl ?_); refine goesL_ (some 41) rfl rfl Tryd.func9 (by kernel_rfl) rfl #[.agg #[.int .i64 a0_0, .int .u8 a0_1, .slice A0_2 l0_2.length c0_2, .int .i64 a0_3, .int .i64 a0_4, .int .i64 a0_5], .slice A1 l1.length c1, .int .i64 a3] rfl pM ?_; (with_reducible refine (unpackstream_Write.calls a0_0 a0_1 _ _ l0_2 a0_3 a0_4 a0_5 _ _ l1 a3 t208 t209 t210 t213 t214 t215 t216 t219 _ ?side1 ?side2 ?side3 ?side4 A21.out (Go.Proofs.YtpffoecblcfndaaDoor.Us.StepsL.below HL.out (by repeat (with_reducible first | exact HB.out | apply below_alloc | apply pw_below_drewN | apply below_drew1 | refine below_set ?_ (Aside0.out (by with_reducible assumption)))))).mono ?_); (case side1 => repeat (first | exact (Kd.C_below HR0_2.out HB.out) | (with_reducible refine Kd.C_alloc ?_ _) | (with_reducible refine Kd.C_drewN ?_ _) | (with_reducible refine Kd.C_drew ?_))); (case side2 => exact HC0_2.out); (case side3 => repeat (first | exact (Kd.C_below HR1.out HB.out) | (with_reducible refine Kd.C_alloc ?_ _) | (with_reducible refine Kd.C_drewN ?_ _) | (with_reducible refine Kd.C_drew ?_))); (case side4 => exact HC1.out); rintro e w33 ⟨v211, v217, rfl, ho0, ho1, hb⟩; refine ⟨_, rfl, ?_⟩; have n0_ := Aside0.mk (Kd.R_lower ho0 (below_size (by repeat (first | (with_reducible first | exact HB.out | apply below_alloc | apply pw_below_drewN | apply below_drew1 | refine below_set ?_ GE205.out) | exact HB.out)))); have n1_ := Aside0.mk (Kd.R_lower ho1 (below_size (by repeat (first | (with_reducible first | exact HB.out | apply below_alloc | apply pw_below_drewN | apply below_drew1 | refine below_set ?_ GE205.out) | exact HB.out)))); have n2_ := Aside0.mk (blk_below (g := gb205) (o := .cells #[.int .i64 a0_0, .int .u8 a0_1, .slice A0_2 l0_2.length c0_2, .int .i64 a0_3, .int .i64 a0_4, .int .i64 a0_5] 25 (0, 0)) (pK BK205) hb); have n3_ := Aside0.mk (below_step (by repeat (first | (with_reducible first | exact HB.out | apply below_alloc | apply pw_below_drewN | apply below_drew1 | refine below_set ?_ GE205.out) | exact HB.out)) hb); clear BK205; clear HB; have HO212 := n0_; have HO218 := n1_; have BK205 := n2_; have HB := n3_; clear n0_ n1_ n2_ n3_; (try clear hb); (try clear hb2); (try clear hk); (try clear hi); (try clear ho0); (try clear ho1)) | ((with_reducible refine gate_dst (N := 9) rfl ?_); (try (refine gate_guard (by rfl) ?_; dsimp only)); refine box_event ?hg (N := 9) ?hd (cs := #[.int .i64 0, .int .u8 0, .slice none 0 0, .int .i64 0, .int .i64 0, .int .i64 0]) (t := 25) ?hr ?_; (case hd => rfl); (case hg => rfl); (case hr => first | (go_simp; done) | (go_simp; rfl)); intro gb220 hg w34 hbox hb; have n0_ := Aside0.mk (Kd.R_below (pR HO212) hb); have n1_ := Aside0.mk (Kd.R_below (pR HO218) hb); have n2_ := Aside0.mk (blk_below (g := gb205) (o := .cells #[.int .i64 a0_0, .int .u8 a0_1, .slice A0_2 l0_2.length c0_2, .int .i64 a0_3, .int .i64 a0_4, .int .i64 a0_5] 25 (0, 0)) (pK BK205) hb); have n3_ := Aside0.mk (below_step (by repeat (first | (with_reducible first | exact HB.out | apply below_alloc | apply pw_below_drewN | apply below_drew1 | refine below_set ?_ GE205.out) | exact HB.out)) hb); have n4_ := Aside0.mk (hbox); have n5_ := Aside0.mk ((by rw [hg]; exact (below_size (by repeat (first | (with_reducible first | exact HB.out | apply below_alloc | apply pw_below_drewN | apply below_drew1 | refine below_set ?_ GE205.out) | exact HB.out))) : w.heap.size ≤ gb220)); have n6_ := Aside0.mk ((by rw [hg]; exact (below_size (by repeat (first | (with_reducible first | exact HB.out | apply below_alloc | apply pw_below_drewN | apply below_drew1 | refine below_set ?_ GE205.out) | exact HB.out))) : w.heap.size ≤ gb220)); have n7_ := Aside0.mk ((by rw [hg]; exact Nat.ne_of_lt (blk_lt (g := gb205) (o := .cells #[.int .i64 a0_0, .int .u8 a0_1, .slice A0_2 l0_2.length c0_2, .int .i64 a0_3, .int .i64 a0_4, .int .i64 a0_5] 25 (0, 0)) (pK BK205)) : gb205 ≠ gb220)); have n8_ := Aside0.mk ((by rw [hg]; exact Nat.ne_of_gt (blk_lt (g := gb205) (o := .cells #[.int .i64 a0_0, .int .u8 a0_1, .slice A0_2 l0_2.length c0_2, .int .i64 a0_3, .int .i64 a0_4, .int .i64 a0_5] 25 (0, 0)) (pK BK205)) : gb220 ≠ gb205)); clear HO212; clear HO218; clear BK205; clear HB; have HO212 := n0_; have HO218 := n1_; have BK205 := n2_; have HB := n3_; have BK220 := n4_; have GW220 := n5_; have GE220 := n6_; have NB205_220 := n7_; have NB220_205 := n8_; clear n0_ n1_ n2_ n3_ n4_ n5_ n6_ n7_ n8_; clear hb hbox hg; have hnb35 := NB220_205.out; have hnc35 := NB205_220.out; have hcz36_0 : w34.cell? ⟨gb220, 0, none⟩ = some (.int .i64 0) := (blk_cell BK220.out 0).trans rfl; have hcz36_1 : w34.cell? ⟨gb220, 1, none⟩ = some (.int .u8 0) := (blk_cell BK220.out 1).trans rfl; have hcz36_2 : w34.cell? ⟨gb220, 2, none⟩ = some (.slice none 0 0) := (blk_cell BK220.out 2).trans rfl; have hcz36_3 : w34.cell? ⟨gb220, 3, none⟩ = some (.int .i64 0) := (blk_cell BK220.out 3).trans rfl; have hcz36_4 : w34.cell? ⟨gb220, 4, none⟩ = some (.int .i64 0) := (blk_cell BK220.out 4).trans rfl; have hcz36_5 : w34.cell? ⟨gb220, 5, none⟩ = some (.int .i64 0) := (blk_cell BK220.out 5).trans rfl; have hfz36_0 := blk_frozen BK220.out 0; have hfz36_1 := blk_frozen BK220.out 1; have hfz36_2 := blk_frozen BK220.out 2; have hfz36_3 := blk_frozen BK220.out 3; have hfz36_4 := blk_frozen BK220.out 4; have hfz36_5 := blk_frozen BK220.out 5; obtain ⟨Ao37, co37, eo37⟩ := Kd.R_slice HO212.out; subst eo37) | ((with_reducible refine gate_callee (f := 9) rfl ?_); refine goesL_ (some 49) rfl rfl Tryd.func9 (by kernel_rfl) rfl #[.agg #[.int .i64 t208, .int .u8 t209, .slice Ao37 t210.length co37, .int .i64 t213, .int .i64 t214, .int .i64 t215], .slice A2 l2.length c2, .int .i64 a3] rfl pM ?_; (with_reducible refine (unpackstream_Write.calls t208 t209 _ _ t210 t213 t214 t215 _ _ l2 a3 t221 t222 t223 t226 t227 t228 t229 t232 _ ?side1 ?side2 ?side3 ?side4 A22.out (Go.Proofs.YtpffoecblcfndaaDoor.Us.StepsL.below HL.out (by repeat (with_reducible first | exact HB.out | apply below_alloc | apply pw_below_drewN | apply below_drew1 | refine below_set ?_ (Aside0.out (by with_reducible assumption)))))).mono ?_); (case side1 => refine (Kd.R_reads' (e := 5) (base := w.heap.size) (ok := fun k_ => some k_ ≠ (v217 : Value).ownBlock) (n := t210.length) (c := co37) ?_).2.2; exact (by (with_reducible repeat (first | apply Kd.R_alloc | apply Kd.R_drewN | apply Kd.R_drew)); exact (Kd.R_mono (Kd.R_far (p := ⟨gb220, 5, none⟩) (Kd.R_far (p := ⟨gb220, 4, none⟩) (Kd.R_far (p := ⟨gb220, 3, none⟩) (Kd.R_far (p := ⟨gb220, 2, none⟩) (Kd.R_far (p := ⟨gb220, 1, none⟩) (Kd.R_far (p := ⟨gb220, 0, none⟩) (Kd.R_types HO212.out BK220.out (by decide)) (fun _ hk => hk.2) (.int .i64 t208)) (fun _ hk => hk.2) (.int .u8 t209)) (fun _ hk => hk.2) (.slice Ao37 t210.length co37)) (fun _ hk => hk.2) (.int .i64 t213)) (fun _ hk => hk.2) (.int .i64 t214)) (fun _ hk => hk.2) (.int .i64 t215)) (fun _ h_ => h_.1)))); (case side2 => exact (Kd.R_reads' HO212.out).2.1); (case side3 => exact Kd.C_below HR2.out (by repeat (first | (with_reducible first | exact HB.out | apply below_alloc | apply pw_below_drewN | apply below_drew1 | refine below_set ?_ GE205.out | refine below_set ?_ GE220.out) | exact HB.out))); (case side4 => exact HC2.out); rintro e w38 ⟨v224, v230, rfl, ho0, ho1, hb⟩; refine ⟨_, rfl, ?_⟩; have n0_ := Aside0.mk (Kd.R_mono (Kd.R_told (Kd.R_told (Kd.R_old (by (with_reducible repeat (first | apply Kd.R_alloc | apply Kd.R_drewN | apply Kd.R_drew)); exact (Kd.R_mono (Kd.R_far (p := ⟨gb220, 5, none⟩) (Kd.R_far (p := ⟨gb220, 4, none⟩) (Kd.R_far (p := ⟨gb220, 3, none⟩) (Kd.R_far (p := ⟨gb220, 2, none⟩) (Kd.R_far (p := ⟨gb220, 1, none⟩) (Kd.R_far (p := ⟨gb220, 0, none⟩) (Kd.R_types HO212.out BK220.out (by decide)) (fun _ hk => hk.2) (.int .i64 t208)) (fun _ hk => hk.2) (.int .u8 t209)) (fun _ hk => hk.2) (.slice Ao37 t210.length co37)) (fun _ hk => hk.2) (.int .i64 t213)) (fun _ hk => hk.2) (.int .i64 t214)) (fun _ hk => hk.2) (.int .i64 t215)) (fun _ h_ => h_.1))) hb) (Kd.R_base ho0)) (Kd.R_base ho1)) (fun _ h_ => h_.1)); have n1_ := Aside0.mk (Kd.R_mono (Kd.R_told (Kd.R_told (Kd.R_old (by (with_reducible repeat (first | apply Kd.R_alloc | apply Kd.R_drewN | apply Kd.R_drew)); exact (Kd.R_mono (Kd.R_far (p := ⟨gb220, 5, none⟩) (Kd.R_far (p := ⟨gb220, 4, none⟩) (Kd.R_far (p := ⟨gb220, 3, none⟩) (Kd.R_far (p := ⟨gb220, 2, none⟩) (Kd.R_far (p := ⟨gb220, 1, none⟩) (Kd.R_far (p := ⟨gb220, 0, none⟩) (Kd.R_types HO218.out BK220.out (by decide)) (fun _ hk => hk.2) (.int .i64 t208)) (fun _ hk => hk.2) (.int .u8 t209)) (fun _ hk => hk.2) (.slice Ao37 t210.length co37)) (fun _ hk => hk.2) (.int .i64 t213)) (fun _ hk => hk.2) (.int .i64 t214)) (fun _ hk => hk.2) (.int .i64 t215)) (fun _ h_ => h_.1))) hb) (Kd.R_base ho0)) (Kd.R_base ho1)) (fun _ h_ => h_.1)); have n2_ := Aside0.mk (Kd.R_lower (Kd.R_new' (Kd.R_new' ho0 (Kd.R_lt (by (with_reducible repeat (first | apply Kd.R_alloc | apply Kd.R_drewN | apply Kd.R_drew)); exact (Kd.R_mono (Kd.R_far (p := ⟨gb220, 5, none⟩) (Kd.R_far (p := ⟨gb220, 4, none⟩) (Kd.R_far (p := ⟨gb220, 3, none⟩) (Kd.R_far (p := ⟨gb220, 2, none⟩) (Kd.R_far (p := ⟨gb220, 1, none⟩) (Kd.R_far (p := ⟨gb220, 0, none⟩) (Kd.R_types HO212.out BK220.out (by decide)) (fun _ hk => hk.2) (.int .i64 t208)) (fun _ hk => hk.2) (.int .u8 t209)) (fun _ hk => hk.2) (.slice Ao37 t210.length co37)) (fun _ hk => hk.2) (.int .i64 t213)) (fun _ hk => hk.2) (.int .i64 t214)) (fun _ hk => hk.2) (.int .i64 t215)) (fun _ h_ => h_.1))))) (Kd.R_lt (by (with_reducible repeat (first | apply Kd.R_alloc | apply Kd.R_drewN | apply Kd.R_drew)); exact (Kd.R_mono (Kd.R_far (p := ⟨gb220, 5, none⟩) (Kd.R_far (p := ⟨gb220, 4, none⟩) (Kd.R_far (p := ⟨gb220, 3, none⟩) (Kd.R_far (p := ⟨gb220, 2, none⟩) (Kd.R_far (p := ⟨gb220, 1, none⟩) (Kd.R_far (p := ⟨gb220, 0, none⟩) (Kd.R_types HO218.out BK220.out (by decide)) (fun _ hk => hk.2) (.int .i64 t208)) (fun _ hk => hk.2) (.int .u8 t209)) (fun _ hk => hk.2) (.slice Ao37 t210.length co37)) (fun _ hk => hk.2) (.int .i64 t213)) (fun _ hk => hk.2) (.int .i64 t214)) (fun _ hk => hk.2) (.int .i64 t215)) (fun _ h_ => h_.1))))) (below_size (by repeat (first | (with_reducible first | exact HB.out | apply below_alloc | apply pw_below_drewN | apply below_drew1 | refine below_set ?_ GE205.out | refine below_set ?_ GE220.out) | exact HB.out)))); have n3_ := Aside0.mk (Kd.R_lower (Kd.R_new' (Kd.R_new' ho1 (Kd.R_lt (by (with_reducible repeat (first | apply Kd.R_alloc | apply Kd.R_drewN | apply Kd.R_drew)); exact (Kd.R_mono (Kd.R_far (p := ⟨gb220, 5, none⟩) (Kd.R_far (p := ⟨gb220, 4, none⟩) (Kd.R_far (p := ⟨gb220, 3, none⟩) (Kd.R_far (p := ⟨gb220, 2, none⟩) (Kd.R_far (p := ⟨gb220, 1, none⟩) (Kd.R_far (p := ⟨gb220, 0, none⟩) (Kd.R_types HO212.out BK220.out (by decide)) (fun _ hk => hk.2) (.int .i64 t208)) (fun _ hk => hk.2) (.int .u8 t209)) (fun _ hk => hk.2) (.slice Ao37 t210.length co37)) (fun _ hk => hk.2) (.int .i64 t213)) (fun _ hk => hk.2) (.int .i64 t214)) (fun _ hk => hk.2) (.int .i64 t215)) (fun _ h_ => h_.1))))) (Kd.R_lt (by (with_reducible repeat (first | apply Kd.R_alloc | apply Kd.R_drewN | apply Kd.R_drew)); exact (Kd.R_mono (Kd.R_far (p := ⟨gb220, 5, none⟩) (Kd.R_far (p := ⟨gb220, 4, none⟩) (Kd.R_far (p := ⟨gb220, 3, none⟩) (Kd.R_far (p := ⟨gb220, 2, none⟩) (Kd.R_far (p := ⟨gb220, 1, none⟩) (Kd.R_far (p := ⟨gb220, 0, none⟩) (Kd.R_types HO218.out BK220.out (by decide)) (fun _ hk => hk.2) (.int .i64 t208)) (fun _ hk => hk.2) (.int .u8 t209)) (fun _ hk => hk.2) (.slice Ao37 t210.length co37)) (fun _ hk => hk.2) (.int .i64 t213)) (fun _ hk => hk.2) (.int .i64 t214)) (fun _ hk => hk.2) (.int .i64 t215)) (fun _ h_ => h_.1))))) (below_size (by repeat (first | (with_reducible first | exact HB.out | apply below_alloc | apply pw_below_drewN | apply below_drew1 | refine below_set ?_ GE205.out | refine below_set ?_ GE220.out) | exact HB.out)))); have n4_ := Aside0.mk (blk_below (g := gb205) (o := .cells #[.int .i64 a0_0, .int .u8 a0_1, .slice A0_2 l0_2.length c0_2, .int .i64 a0_3, .int .i64 a0_4, .int .i64 a0_5] 25 (0, 0)) (by (with_reducible repeat (first | refine blk_drewN ?_ _ | refine blk_drew ?_ | refine blk_alloc ?_ _)); refine blk_far ?_ NB205_220.out _; (with_reducible repeat (first | refine blk_drewN ?_ _ | refine blk_drew ?_ | refine blk_alloc ?_ _)); refine blk_far ?_ NB205_220.out _; (with_reducible repeat (first | refine blk_drewN ?_ _ | refine blk_drew ?_ | refine blk_alloc ?_ _)); refine blk_far ?_ NB205_220.out _; (with_reducible repeat (first | refine blk_drewN ?_ _ | refine blk_drew ?_ | refine blk_alloc ?_ _)); refine blk_far ?_ NB205_220.out _; (with_reducible repeat (first | refine blk_drewN ?_ _ | refine blk_drew ?_ | refine blk_alloc ?_ _)); refine blk_far ?_ NB205_220.out _; (with_reducible repeat (first | refine blk_drewN ?_ _ | refine blk_drew ?_ | refine blk_alloc ?_ _)); refine blk_far ?_ NB205_220.out _; (with_reducible repeat (first | refine blk_drewN ?_ _ | refine blk_drew ?_ | refine blk_alloc ?_ _)); exact BK205.out) hb); have n5_ := Aside0.mk (blk_below (g := gb220) (o := .cells #[.int .i64 t208, .int .u8 t209, .slice Ao37 t210.length co37, .int .i64 t213, .int .i64 t214, .int .i64 t215] 25 (0, 0)) (by (with_reducible repeat (first | refine blk_drewN ?_ _ | refine blk_drew ?_ | refine blk_alloc ?_ _)); refine blk_put (cs := #[.int .i64 t208, .int .u8 t209, .slice Ao37 t210.length co37, .int .i64 t213, .int .i64 t214, .int .i64 0]) ?_ 5 _ rfl; (with_reducible repeat (first | refine blk_drewN ?_ _ | refine blk_drew ?_ | refine blk_alloc ?_ _)); refine blk_put (cs := #[.int .i64 t208, .int .u8 t209, .slice Ao37 t210.length co37, .int .i64 t213, .int .i64 0, .int .i64 0]) ?_ 4 _ rfl; (with_reducible repeat (first | refine blk_drewN ?_ _ | refine blk_drew ?_ | refine blk_alloc ?_ _)); refine blk_put (cs := #[.int .i64 t208, .int .u8 t209, .slice Ao37 t210.length co37, .int .i64 0, .int .i64 0, .int .i64 0]) ?_ 3 _ rfl; (with_reducible repeat (first | refine blk_drewN ?_ _ | refine blk_drew ?_ | refine blk_alloc ?_ _)); refine blk_put (cs := #[.int .i64 t208, .int .u8 t209, .slice none 0 0, .int .i64 0, .int .i64 0, .int .i64 0]) ?_ 2 _ rfl; (with_reducible repeat (first | refine blk_drewN ?_ _ | refine blk_drew ?_ | refine blk_alloc ?_ _)); refine blk_put (cs := #[.int .i64 t208, .int .u8 0, .slice none 0 0, .int .i64 0, .int .i64 0, .int .i64 0]) ?_ 1 _ rfl; (with_reducible repeat (first | refine blk_drewN ?_ _ | refine blk_drew ?_ | refine blk_alloc ?_ _)); refine blk_put (cs := #[.int .i64 0, .int .u8 0, .slice none 0 0, .int .i64 0, .int .i64 0, .int .i64 0]) ?_ 0 _ rfl; (with_reducible repeat (first | refine blk_drewN ?_ _ | refine blk_drew ?_ | refine blk_alloc ?_ _)); exact BK220.out) hb); have n6_ := Aside0.mk (below_step (by repeat (first | (with_reducible first | exact HB.out | apply below_alloc | apply pw_below_drewN | apply below_drew1 | refine below_set ?_ GE205.out | refine below_set ?_ GE220.out) | exact HB.out)) hb); clear HO212; clear HO218; clear BK205; clear BK220; clear HB; have HO212 := n0_; have HO218 := n1_; have HO225 := n2_; have HO231 := n3_; have BK205 := n4_; have BK220 := n5_; have HB := n6_; clear n0_ n1_ n2_ n3_ n4_ n5_ n6_; (try clear hb); (try clear hb2); (try clear hk); (try clear hi); (try clear ho0); (try clear ho1)) | ((with_reducible refine gate_dst (N := 12) rfl ?_); (try (refine gate_guard (by rfl) ?_; dsimp only)); refine box_event ?hg (N := 12) ?hd (cs := #[.int .i64 0, .int .u8 0, .slice none 0 0, .int .i64 0, .int .i64 0, .int .i64 0]) (t := 25) ?hr ?_; (case hd => rfl); (case hg => rfl); (case hr => first | (go_simp; done) | (go_simp; rfl)); intro gb233 hg w39 hbox hb; have n0_ := Aside0.mk (Kd.R_below (pR HO212) hb); have n1_ := Aside0.mk (Kd.R_below (pR HO218) hb); have n2_ := Aside0.mk (Kd.R_below (pR HO225) hb); have n3_ := Aside0.mk (Kd.R_below (pR HO231) hb); have n4_ := Aside0.mk (blk_below (g := gb205) (o := .cells #[.int .i64 a0_0, .int .u8 a0_1, .slice A0_2 l0_2.length c0_2, .int .i64 a0_3, .int .i64 a0_4, .int .i64 a0_5] 25 (0, 0)) (pK BK205) hb); have n5_ := Aside0.mk (blk_below (g := gb220) (o := .cells #[.int .i64 t208, .int .u8 t209, .slice Ao37 t210.length co37, .int .i64 t213, .int .i64 t214, .int .i64 t215] 25 (0, 0)) (pK BK220) hb); have n6_ := Aside0.mk (below_step (by repeat (first | (with_reducible first | exact HB.out | apply below_alloc | apply pw_below_drewN | apply below_drew1 | refine below_set ?_ GE205.out | refine below_set ?_ GE220.out) | exact HB.out)) hb); have n7_ := Aside0.mk (hbox); have n8_ := Aside0.mk ((by rw [hg]; exact (below_size (by repeat (first | (with_reducible first | exact HB.out | apply below_alloc | apply pw_below_drewN | apply below_drew1 | refine below_set ?_ GE205.out | refine below_set ?_ GE220.out) | exact HB.out))) : w.heap.size ≤ gb233)); have n9_ := Aside0.mk ((by rw [hg]; exact (below_size (by repeat (first | (with_reducible first | exact HB.out | apply below_alloc | apply pw_below_drewN | apply below_drew1 | refine below_set ?_ GE205.out | refine below_set ?_ GE220.out) | exact HB.out))) : w.heap.size ≤ gb233)); have n10_ := Aside0.mk ((by rw [hg]; exact Nat.ne_of_lt (blk_lt (g := gb205) (o := .cells #[.int .i64 a0_0, .int .u8 a0_1, .slice A0_2 l0_2.length c0_2, .int .i64 a0_3, .int .i64 a0_4, .int .i64 a0_5] 25 (0, 0)) (pK BK205)) : gb205 ≠ gb233)); have n11_ := Aside0.mk ((by rw [hg]; exact Nat.ne_of_gt (blk_lt (g := gb205) (o := .cells #[.int .i64 a0_0, .int .u8 a0_1, .slice A0_2 l0_2.length c0_2, .int .i64 a0_3, .int .i64 a0_4, .int .i64 a0_5] 25 (0, 0)) (pK BK205)) : gb233 ≠ gb205)); have n12_ := Aside0.mk ((by rw [hg]; exact Nat.ne_of_lt (blk_lt (g := gb220) (o := .cells #[.int .i64 t208, .int .u8 t209, .slice Ao37 t210.length co37, .int .i64 t213, .int .i64 t214, .int .i64 t215] 25 (0, 0)) (pK BK220)) : gb220 ≠ gb233)); have n13_ := Aside0.mk ((by rw [hg]; exact Nat.ne_of_gt (blk_lt (g := gb220) (o := .cells #[.int .i64 t208, .int .u8 t209, .slice Ao37 t210.length co37, .int .i64 t213, .int .i64 t214, .int .i64 t215] 25 (0, 0)) (pK BK220)) : gb233 ≠ gb220)); clear HO212; clear HO218; clear HO225; clear HO231; clear BK205; clear BK220; clear HB; have HO212 := n0_; have HO218 := n1_; have HO225 := n2_; have HO231 := n3_; have BK205 := n4_; have BK220 := n5_; have HB := n6_; have BK233 := n7_; have GW233 := n8_; have GE233 := n9_; have NB205_233 := n10_; have NB233_205 := n11_; have NB220_233 := n12_; have NB233_220 := n13_; clear n0_ n1_ n2_ n3_ n4_ n5_ n6_ n7_ n8_ n9_ n10_ n11_ n12_ n13_; clear hb hbox hg; have hnb40 := NB233_205.out; have hnc40 := NB205_233.out; have hnb41 := NB233_220.out; have hnc41 := NB220_233.out; have hcz42_0 : w39.cell? ⟨gb233, 0, none⟩ = some (.int .i64 0) := (blk_cell BK233.out 0).trans rfl; have hcz42_1 : w39.cell? ⟨gb233, 1, none⟩ = some (.int .u8 0) := (blk_cell BK233.out 1).trans rfl; have hcz42_2 : w39.cell? ⟨gb233, 2, none⟩ = some (.slice none 0 0) := (blk_cell BK233.out 2).trans rfl; have hcz42_3 : w39.cell? ⟨gb233, 3, none⟩ = some (.int .i64 0) := (blk_cell BK233.out 3).trans rfl; have hcz42_4 : w39.cell? ⟨gb233, 4, none⟩ = some (.int .i64 0) := (blk_cell BK233.out 4).trans rfl; have hcz42_5 : w39.cell? ⟨gb233, 5, none⟩ = some (.int .i64 0) := (blk_cell BK233.out 5).trans rfl; have hfz42_0 := blk_frozen BK233.out 0; have hfz42_1 := blk_frozen BK233.out 1; have hfz42_2 := blk_frozen BK233.out 2; have hfz42_3 := blk_frozen BK233.out 3; have hfz42_4 := blk_frozen BK233.out 4; have hfz42_5 := blk_frozen BK233.out 5; obtain ⟨Ao43, co43, eo43⟩ := Kd.R_slice HO225.out; subst eo43))
                    have n0_ : Aside0 (Kd.R (Kd.int .u8) 5 ((((((w39.setCell ⟨gb233, 0, none⟩ (.int .i64 t221)).setCell ⟨gb233, 1, none⟩ (.int .u8 t222)).setCell ⟨gb233, 2, none⟩ (.slice Ao43 t223.length co43)).setCell ⟨gb233, 3, none⟩ (.int .i64 t226)).setCell ⟨gb233, 4, none⟩ (.int .i64 t227)).setCell ⟨gb233, 5, none⟩ (.int .i64 t228)) w.heap.size (fun k_ => some k_ ≠ (v217 : Value).ownBlock ∧ some k_ ≠ (.slice Ao43 t223.length co43 : Value).ownBlock ∧ some k_ ≠ (v230 : Value).ownBlock) (.slice Ao37 t210.length co37) t210) := ⟨by (with_reducible repeat (first | apply Kd.R_alloc | apply Kd.R_drewN | apply Kd.R_drew)); exact Kd.R_mono (Kd.R_far (p := ⟨gb233, 5, none⟩) (Kd.R_far (p := ⟨gb233, 4, none⟩) (Kd.R_far (p := ⟨gb233, 3, none⟩) (Kd.R_far (p := ⟨gb233, 2, none⟩) (Kd.R_far (p := ⟨gb233, 1, none⟩) (Kd.R_far (p := ⟨gb233, 0, none⟩) (Kd.R_types HO212.out BK233.out (by decide)) (fun _ hk => hk.2) (.int .i64 t221)) (fun _ hk => hk.2) (.int .u8 t222)) (fun _ hk => hk.2) (.slice Ao43 t223.length co43)) (fun _ hk => hk.2) (.int .i64 t226)) (fun _ hk => hk.2) (.int .i64 t227)) (fun _ hk => hk.2) (.int .i64 t228)) (fun _ hk => ⟨hk.1.1.1, ⟨hk.1.1.2, hk.1.2⟩⟩)⟩
                    have n1_ : Aside0 (Kd.R (Kd.int .u8) 5 ((((((w39.setCell ⟨gb233, 0, none⟩ (.int .i64 t221)).setCell ⟨gb233, 1, none⟩ (.int .u8 t222)).setCell ⟨gb233, 2, none⟩ (.slice Ao43 t223.length co43)).setCell ⟨gb233, 3, none⟩ (.int .i64 t226)).setCell ⟨gb233, 4, none⟩ (.int .i64 t227)).setCell ⟨gb233, 5, none⟩ (.int .i64 t228)) w.heap.size (fun k_ => some k_ ≠ (.slice Ao37 t210.length co37 : Value).ownBlock ∧ some k_ ≠ (.slice Ao43 t223.length co43 : Value).ownBlock ∧ some k_ ≠ (v230 : Value).ownBlock) v217 t216) := ⟨by (with_reducible repeat (first | apply Kd.R_alloc | apply Kd.R_drewN | apply Kd.R_drew)); exact Kd.R_mono (Kd.R_far (p := ⟨gb233, 5, none⟩) (Kd.R_far (p := ⟨gb233, 4, none⟩) (Kd.R_far (p := ⟨gb233, 3, none⟩) (Kd.R_far (p := ⟨gb233, 2, none⟩) (Kd.R_far (p := ⟨gb233, 1, none⟩) (Kd.R_far (p := ⟨gb233, 0, none⟩) (Kd.R_types HO218.out BK233.out (by decide)) (fun _ hk => hk.2) (.int .i64 t221)) (fun _ hk => hk.2) (.int .u8 t222)) (fun _ hk => hk.2) (.slice Ao43 t223.length co43)) (fun _ hk => hk.2) (.int .i64 t226)) (fun _ hk => hk.2) (.int .i64 t227)) (fun _ hk => hk.2) (.int .i64 t228)) (fun _ hk => ⟨hk.1.1.1, ⟨hk.1.1.2, hk.1.2⟩⟩)⟩
                    have n2_ : Aside0 (Kd.R (Kd.int .u8) 5 ((((((w39.setCell ⟨gb233, 0, none⟩ (.int .i64 t221)).setCell ⟨gb233, 1, none⟩ (.int .u8 t222)).setCell ⟨gb233, 2, none⟩ (.slice Ao43 t223.length co43)).setCell ⟨gb233, 3, none⟩ (.int .i64 t226)).setCell ⟨gb233, 4, none⟩ (.int .i64 t227)).setCell ⟨gb233, 5, none⟩ (.int .i64 t228)) w.heap.size (fun k_ => some k_ ≠ (.slice Ao37 t210.length co37 : Value).ownBlock ∧ some k_ ≠ (v217 : Value).ownBlock ∧ some k_ ≠ (v230 : Value).ownBlock) (.slice Ao43 t223.length co43) t223) := ⟨by (with_reducible repeat (first | apply Kd.R_alloc | apply Kd.R_drewN | apply Kd.R_drew)); exact Kd.R_mono (Kd.R_far (p := ⟨gb233, 5, none⟩) (Kd.R_far (p := ⟨gb233, 4, none⟩) (Kd.R_far (p := ⟨gb233, 3, none⟩) (Kd.R_far (p := ⟨gb233, 2, none⟩) (Kd.R_far (p := ⟨gb233, 1, none⟩) (Kd.R_far (p := ⟨gb233, 0, none⟩) (Kd.R_types HO225.out BK233.out (by decide)) (fun _ hk => hk.2) (.int .i64 t221)) (fun _ hk => hk.2) (.int .u8 t222)) (fun _ hk => hk.2) (.slice Ao43 t223.length co43)) (fun _ hk => hk.2) (.int .i64 t226)) (fun _ hk => hk.2) (.int .i64 t227)) (fun _ hk => hk.2) (.int .i64 t228)) (fun _ hk => ⟨hk.1.1.2, ⟨hk.1.2, hk.1.1.1⟩⟩)⟩
                    have n3_ : Aside0 (Kd.R (Kd.int .u8) 5 ((((((w39.setCell ⟨gb233, 0, none⟩ (.int .i64 t221)).setCell ⟨gb233, 1, none⟩ (.int .u8 t222)).setCell ⟨gb233, 2, none⟩ (.slice Ao43 t223.length co43)).setCell ⟨gb233, 3, none⟩ (.int .i64 t226)).setCell ⟨gb233, 4, none⟩ (.int .i64 t227)).setCell ⟨gb233, 5, none⟩ (.int .i64 t228)) w.heap.size (fun k_ => some k_ ≠ (.slice Ao37 t210.length co37 : Value).ownBlock ∧ some k_ ≠ (v217 : Value).ownBlock ∧ some k_ ≠ (.slice Ao43 t223.length co43 : Value).ownBlock) v230 t229) := ⟨by (with_reducible repeat (first | apply Kd.R_alloc | apply Kd.R_drewN | apply Kd.R_drew)); exact Kd.R_mono (Kd.R_far (p := ⟨gb233, 5, none⟩) (Kd.R_far (p := ⟨gb233, 4, none⟩) (Kd.R_far (p := ⟨gb233, 3, none⟩) (Kd.R_far (p := ⟨gb233, 2, none⟩) (Kd.R_far (p := ⟨gb233, 1, none⟩) (Kd.R_far (p := ⟨gb233, 0, none⟩) (Kd.R_types HO231.out BK233.out (by decide)) (fun _ hk => hk.2) (.int .i64 t221)) (fun _ hk => hk.2) (.int .u8 t222)) (fun _ hk => hk.2) (.slice Ao43 t223.length co43)) (fun _ hk => hk.2) (.int .i64 t226)) (fun _ hk => hk.2) (.int .i64 t227)) (fun _ hk => hk.2) (.int .i64 t228)) (fun _ hk => ⟨hk.1.1.2, ⟨hk.1.2, hk.1.1.1⟩⟩)⟩
                    have n4_ : Aside0 (((((((w39.setCell ⟨gb233, 0, none⟩ (.int .i64 t221)).setCell ⟨gb233, 1, none⟩ (.int .u8 t222)).setCell ⟨gb233, 2, none⟩ (.slice Ao43 t223.length co43)).setCell ⟨gb233, 3, none⟩ (.int .i64 t226)).setCell ⟨gb233, 4, none⟩ (.int .i64 t227)).setCell ⟨gb233, 5, none⟩ (.int .i64 t228)).heap[gb205]? = some (.cells #[.int .i64 a0_0, .int .u8 a0_1, .slice A0_2 l0_2.length c0_2, .int .i64 a0_3, .int .i64 a0_4, .int .i64 a0_5] 25 (0, 0))) := ⟨by (with_reducible repeat (first | refine blk_drewN ?_ _ | refine blk_drew ?_ | refine blk_alloc ?_ _)); refine blk_far ?_ NB205_233.out _; (with_reducible repeat (first | refine blk_drewN ?_ _ | refine blk_drew ?_ | refine blk_alloc ?_ _)); refine blk_far ?_ NB205_233.out _; (with_reducible repeat (first | refine blk_drewN ?_ _ | refine blk_drew ?_ | refine blk_alloc ?_ _)); refine blk_far ?_ NB205_233.out _; (with_reducible repeat (first | refine blk_drewN ?_ _ | refine blk_drew ?_ | refine blk_alloc ?_ _)); refine blk_far ?_ NB205_233.out _; (with_reducible repeat (first | refine blk_drewN ?_ _ | refine blk_drew ?_ | refine blk_alloc ?_ _)); refine blk_far ?_ NB205_233.out _; (with_reducible repeat (first | refine blk_drewN ?_ _ | refine blk_drew ?_ | refine blk_alloc ?_ _)); refine blk_far ?_ NB205_233.out _; (with_reducible repeat (first | refine blk_drewN ?_ _ | refine blk_drew ?_ | refine blk_alloc ?_ _)); exact BK205.out⟩
                    have n5_ : Aside0 (((((((w39.setCell ⟨gb233, 0, none⟩ (.int .i64 t221)).setCell ⟨gb233, 1, none⟩ (.int .u8 t222)).setCell ⟨gb233, 2, none⟩ (.slice Ao43 t223.length co43)).setCell ⟨gb233, 3, none⟩ (.int .i64 t226)).setCell ⟨gb233, 4, none⟩ (.int .i64 t227)).setCell ⟨gb233, 5, none⟩ (.int .i64 t228)).heap[gb220]? = some (.cells #[.int .i64 t208, .int .u8 t209, .slice Ao37 t210.length co37, .int .i64 t213, .int .i64 t214, .int .i64 t215] 25 (0, 0))) := ⟨by (with_reducible repeat (first | refine blk_drewN ?_ _ | refine blk_drew ?_ | refine blk_alloc ?_ _)); refine blk_far ?_ NB220_233.out _; (with_reducible repeat (first | refine blk_drewN ?_ _ | refine blk_drew ?_ | refine blk_alloc ?_ _)); refine blk_far ?_ NB220_233.out _; (with_reducible repeat (first | refine blk_drewN ?_ _ | refine blk_drew ?_ | refine blk_alloc ?_ _)); refine blk_far ?_ NB220_233.out _; (with_reducible repeat (first | refine blk_drewN ?_ _ | refine blk_drew ?_ | refine blk_alloc ?_ _)); refine blk_far ?_ NB220_233.out _; (with_reducible repeat (first | refine blk_drewN ?_ _ | refine blk_drew ?_ | refine blk_alloc ?_ _)); refine blk_far ?_ NB220_233.out _; (with_reducible repeat (first | refine blk_drewN ?_ _ | refine blk_drew ?_ | refine blk_alloc ?_ _)); refine blk_far ?_ NB220_233.out _; (with_reducible repeat (first | refine blk_drewN ?_ _ | refine blk_drew ?_ | refine blk_alloc ?_ _)); exact BK220.out⟩
                    have n6_ : Aside0 (((((((w39.setCell ⟨gb233, 0, none⟩ (.int .i64 t221)).setCell ⟨gb233, 1, none⟩ (.int .u8 t222)).setCell ⟨gb233, 2, none⟩ (.slice Ao43 t223.length co43)).setCell ⟨gb233, 3, none⟩ (.int .i64 t226)).setCell ⟨gb233, 4, none⟩ (.int .i64 t227)).setCell ⟨gb233, 5, none⟩ (.int .i64 t228)).heap[gb233]? = some (.cells #[.int .i64 t221, .int .u8 t222, .slice Ao43 t223.length co43, .int .i64 t226, .int .i64 t227, .int .i64 t228] 25 (0, 0))) := ⟨by (with_reducible repeat (first | refine blk_drewN ?_ _ | refine blk_drew ?_ | refine blk_alloc ?_ _)); refine blk_put (cs := #[.int .i64 t221, .int .u8 t222, .slice Ao43 t223.length co43, .int .i64 t226, .int .i64 t227, .int .i64 0]) ?_ 5 _ rfl; (with_reducible repeat (first | refine blk_drewN ?_ _ | refine blk_drew ?_ | refine blk_alloc ?_ _)); refine blk_put (cs := #[.int .i64 t221, .int .u8 t222, .slice Ao43 t223.length co43, .int .i64 t226, .int .i64 0, .int .i64 0]) ?_ 4 _ rfl; (with_reducible repeat (first | refine blk_drewN ?_ _ | refine blk_drew ?_ | refine blk_alloc ?_ _)); refine blk_put (cs := #[.int .i64 t221, .int .u8 t222, .slice Ao43 t223.length co43, .int .i64 0, .int .i64 0, .int .i64 0]) ?_ 3 _ rfl; (with_reducible repeat (first | refine blk_drewN ?_ _ | refine blk_drew ?_ | refine blk_alloc ?_ _)); refine blk_put (cs := #[.int .i64 t221, .int .u8 t222, .slice none 0 0, .int .i64 0, .int .i64 0, .int .i64 0]) ?_ 2 _ rfl; (with_reducible repeat (first | refine blk_drewN ?_ _ | refine blk_drew ?_ | refine blk_alloc ?_ _)); refine blk_put (cs := #[.int .i64 t221, .int .u8 0, .slice none 0 0, .int .i64 0, .int .i64 0, .int .i64 0]) ?_ 1 _ rfl; (with_reducible repeat (first | refine blk_drewN ?_ _ | refine blk_drew ?_ | refine blk_alloc ?_ _)); refine blk_put (cs := #[.int .i64 0, .int .u8 0, .slice none 0 0, .int .i64 0, .int .i64 0, .int .i64 0]) ?_ 0 _ rfl; (with_reducible repeat (first | refine blk_drewN ?_ _ | refine blk_drew ?_ | refine blk_alloc ?_ _)); exact BK233.out⟩
                    have n7_ : Aside0 (Below w.heap.size w ((((((w39.setCell ⟨gb233, 0, none⟩ (.int .i64 t221)).setCell ⟨gb233, 1, none⟩ (.int .u8 t222)).setCell ⟨gb233, 2, none⟩ (.slice Ao43 t223.length co43)).setCell ⟨gb233, 3, none⟩ (.int .i64 t226)).setCell ⟨gb233, 4, none⟩ (.int .i64 t227)).setCell ⟨gb233, 5, none⟩ (.int .i64 t228))) := ⟨by repeat (first | (with_reducible first | exact HB.out | apply below_alloc | apply pw_below_drewN | apply below_drew1 | refine below_set ?_ GE205.out | refine below_set ?_ GE220.out | refine below_set ?_ GE233.out) | exact HB.out)⟩
                    (try clear HO212)
                    (try clear HO218)
                    (try clear HO225)
                    (try clear HO231)
                    (try clear BK205)
                    (try clear BK220)
                    (try clear BK233)
                    (try clear HB)
                    generalize ((((((w39.setCell ⟨gb233, 0, none⟩ (.int .i64 t221)).setCell ⟨gb233, 1, none⟩ (.int .u8 t222)).setCell ⟨gb233, 2, none⟩ (.slice Ao43 t223.length co43)).setCell ⟨gb233, 3, none⟩ (.int .i64 t226)).setCell ⟨gb233, 4, none⟩ (.int .i64 t227)).setCell ⟨gb233, 5, none⟩ (.int .i64 t228)) = w44 at n0_ n1_ n2_ n3_ n4_ n5_ n6_ n7_ ⊢
                    have HO212 := n0_
                    have HO218 := n1_
                    have HO225 := n2_
                    have HO231 := n3_
                    have BK205 := n4_
                    have BK220 := n5_
                    have BK233 := n6_
                    have HB := n7_
                    clear n0_ n1_ n2_ n3_ n4_ n5_ n6_ n7_
                    have n0_ := Aside0.mk (Kd.R_drew HO212.out)
                    have n1_ := Aside0.mk (Kd.R_drew HO218.out)
                    have n2_ := Aside0.mk (Kd.R_drew HO225.out)
                    have n3_ := Aside0.mk (Kd.R_drew HO231.out)
                    have n4_ := Aside0.mk (blk_drew BK205.out)
                    have n5_ := Aside0.mk (blk_drew BK220.out)
                    have n6_ := Aside0.mk (blk_drew BK233.out)
                    have n7_ := Aside0.mk (below_drew1 HB.out)
                    clear HO212
                    clear HO218
                    clear HO225
                    clear HO231
                    clear BK205
                    clear BK220
                    clear BK233
                    clear HB
                    have HO212 := n0_
                    have HO218 := n1_
                    have HO225 := n2_
                    have HO231 := n3_
                    have BK205 := n4_
                    have BK220 := n5_
                    have BK233 := n6_
                    have HB := n7_
                    clear n0_ n1_ n2_ n3_ n4_ n5_ n6_ n7_
                    refine start_ (n := 16) (S := fun w' => w'.cell? ⟨gb205, 0, none⟩ = some (.int .i64 a0_0) ∧ w'.cell? ⟨gb205, 1, none⟩ = some (.int .u8 a0_1) ∧ w'.cell? ⟨gb205, 2, none⟩ = some (.slice A0_2 l0_2.length c0_2) ∧ w'.cell? ⟨gb205, 3, none⟩ = some (.int .i64 a0_3) ∧ w'.cell? ⟨gb205, 4, none⟩ = some (.int .i64 a0_4) ∧ w'.cell? ⟨gb205, 5, none⟩ = some (.int .i64 a0_5)) (ds := []) #[false, false, false, false, false, false, false, false, false, false, false, false, false, false, false, false] (by kernel_rfl) rfl rfl ⟨(blk_cell BK205.out 0).trans rfl, (blk_cell BK205.out 1).trans rfl, (blk_cell BK205.out 2).trans rfl, (blk_cell BK205.out 3).trans rfl, (blk_cell BK205.out 4).trans rfl, (blk_cell BK205.out 5).trans rfl⟩ (fun hHeld => ?_); refine with_tabW capnplaw25_UnpackstreamSplit.tab5 capnplaw25_UnpackstreamSplit.bits5 (fun HT_ HW_ => ?_)
                    generalize w44.drew = w45 at HO212 HO218 HO225 HO231 BK205 BK220 BK233 HB hHeld ⊢
                    refine pure_ (i := 2) (N := some 56) (v := ?_) (a' := ?_) #[false, false, true, false, false, false, false, false, false, false, false, false, false, false, false, false] rfl rfl (any_of HT_.out (by kernel_rfl)) (fun _ _ _ h => h) (Or.inl ⟨by rfl, ?_⟩) ?_ ?_
                    rotate_left
                    · intro w'
                      go_simp
                      with_reducible rfl
                    rotate_left
                    · simp only [Act.put, List.setIfInBounds_toArray, List.set_cons_zero, List.set_cons_succ, i64_w, i32_w]
                      rfl
                    refine pure_ (i := 4) (N := some 58) (v := ?_) (a' := ?_) #[false, false, true, false, true, false, false, false, false, false, false, false, false, false, false, false] rfl rfl (any_of HT_.out (by kernel_rfl)) (fun _ _ _ h => h) (Or.inl ⟨by rfl, ?_⟩) ?_ ?_
                    rotate_left
                    · intro w'
                      go_simp
                      with_reducible rfl
                    rotate_left
                    · simp only [Act.put, List.setIfInBounds_toArray, List.set_cons_zero, List.set_cons_succ, i64_w, i32_w]
                      rfl
                    refine pure_ (i := 6) (N := some 60) (v := ?_) (a' := ?_) #[false, false, true, false, true, false, true, false, false, false, false, false, false, false, false, false] rfl rfl (any_of HT_.out (by kernel_rfl)) (fun _ _ _ h => h) (Or.inl ⟨by rfl, ?_⟩) ?_ ?_
                    rotate_left
                    · intro w'
                      go_simp
                      with_reducible rfl
                    rotate_left
                    · simp only [Act.put, List.setIfInBounds_toArray, List.set_cons_zero, List.set_cons_succ, i64_w, i32_w]
                      rfl
                    refine take_ (i := 0) (N := some 54) (v := ?_) (a' := ?_) #[true, false, true, false, true, false, true, false, false, false, false, false, false, false, false, false] rfl rfl (take_ofW HT_.out HW_.out (by kernel_rfl)) (fun _ _ _ h => h) (Or.inl ⟨by rfl, ?_⟩) hHeld ?_ ?_
                    rotate_left
                    · rintro w' ⟨s0, s1, s2, s3, s4, s5⟩
                      go_simp
                      with_reducible rfl
                    rotate_left
                    · simp only [Act.put, List.setIfInBounds_toArray, List.set_cons_zero, List.set_cons_succ, i64_w, i32_w]
                      rfl
                    refine join_ (σ := Value × Value × Value × Value × Value × Nat) 3 #[true, true, true, true, true, true, true, true, true, true, true, true, true, false, false, false] (fun s_ => [(55, s_.1), (57, s_.2.1), (59, s_.2.2.1), (61, .tuple #[.agg #[.int .i64 t243, .int .u8 t244, s_.2.2.2.1, .int .i64 t248, .int .i64 t249, .int .i64 t250], s_.2.2.2.2.1, .int .i64 t254]), (15, .pointer (some ⟨s_.2.2.2.2.2, 0, none⟩)), (53, .tuple #[.agg #[.int .i64 t243, .int .u8 t244, s_.2.2.2.1, .int .i64 t248, .int .i64 t249, .int .i64 t250], s_.2.2.2.2.1, .int .i64 t254]), (62, .agg #[.int .i64 t243, .int .u8 t244, s_.2.2.2.1, .int .i64 t248, .int .i64 t249, .int .i64 t250]), (63, s_.2.2.2.2.1), (64, .int .i64 t254)]) (fun s_ w' => (w'.cell? ⟨gb205, 0, none⟩ = some (.int .i64 a0_0) ∧ w'.cell? ⟨gb205, 1, none⟩ = some (.int .u8 a0_1) ∧ w'.cell? ⟨gb205, 2, none⟩ = some (.slice A0_2 l0_2.length c0_2) ∧ w'.cell? ⟨gb205, 3, none⟩ = some (.int .i64 a0_3) ∧ w'.cell? ⟨gb205, 4, none⟩ = some (.int .i64 a0_4) ∧ w'.cell? ⟨gb205, 5, none⟩ = some (.int .i64 a0_5)) ∧ (Kd.R (Kd.int .u8) 5 w' w.heap.size (fun k_ => some k_ ≠ (v217 : Value).ownBlock ∧ some k_ ≠ (.slice Ao43 t223.length co43 : Value).ownBlock ∧ some k_ ≠ (v230 : Value).ownBlock ∧ some k_ ≠ (s_.2.2.1 : Value).ownBlock ∧ some k_ ≠ (s_.2.2.2.1 : Value).ownBlock ∧ some k_ ≠ (s_.2.2.2.2.1 : Value).ownBlock) (.slice Ao37 t210.length co37) t210) ∧ (Kd.R (Kd.int .u8) 5 w' w.heap.size (fun k_ => some k_ ≠ (.slice Ao37 t210.length co37 : Value).ownBlock ∧ some k_ ≠ (.slice Ao43 t223.length co43 : Value).ownBlock ∧ some k_ ≠ (v230 : Value).ownBlock ∧ some k_ ≠ (s_.2.2.1 : Value).ownBlock ∧ some k_ ≠ (s_.2.2.2.1 : Value).ownBlock ∧ some k_ ≠ (s_.2.2.2.2.1 : Value).ownBlock) v217 t216) ∧ (Kd.R (Kd.int .u8) 5 w' w.heap.size (fun k_ => some k_ ≠ (.slice Ao37 t210.length co37 : Value).ownBlock ∧ some k_ ≠ (v217 : Value).ownBlock ∧ some k_ ≠ (v230 : Value).ownBlock ∧ some k_ ≠ (s_.2.2.1 : Value).ownBlock ∧ some k_ ≠ (s_.2.2.2.1 : Value).ownBlock ∧ some k_ ≠ (s_.2.2.2.2.1 : Value).ownBlock) (.slice Ao43 t223.length co43) t223) ∧ (Kd.R (Kd.int .u8) 5 w' w.heap.size (fun k_ => some k_ ≠ (.slice Ao37 t210.length co37 : Value).ownBlock ∧ some k_ ≠ (v217 : Value).ownBlock ∧ some k_ ≠ (.slice Ao43 t223.length co43 : Value).ownBlock ∧ some k_ ≠ (s_.2.2.1 : Value).ownBlock ∧ some k_ ≠ (s_.2.2.2.1 : Value).ownBlock ∧ some k_ ≠ (s_.2.2.2.2.1 : Value).ownBlock) v230 t229) ∧ (Kd.R (Kd.int .u8) 5 w' w.heap.size (fun k_ => some k_ ≠ (.slice Ao37 t210.length co37 : Value).ownBlock ∧ some k_ ≠ (v217 : Value).ownBlock ∧ some k_ ≠ (.slice Ao43 t223.length co43 : Value).ownBlock ∧ some k_ ≠ (v230 : Value).ownBlock ∧ some k_ ≠ (s_.2.2.2.1 : Value).ownBlock ∧ some k_ ≠ (s_.2.2.2.2.1 : Value).ownBlock) s_.2.2.1 y240) ∧ (Kd.R (Kd.int .u8) 5 w' w.heap.size (fun k_ => some k_ ≠ (.slice Ao37 t210.length co37 : Value).ownBlock ∧ some k_ ≠ (v217 : Value).ownBlock ∧ some k_ ≠ (.slice Ao43 t223.length co43 : Value).ownBlock ∧ some k_ ≠ (v230 : Value).ownBlock ∧ some k_ ≠ (s_.2.2.1 : Value).ownBlock ∧ some k_ ≠ (s_.2.2.2.2.1 : Value).ownBlock) s_.2.2.2.1 t245) ∧ (Kd.R (Kd.int .u8) 5 w' w.heap.size (fun k_ => some k_ ≠ (.slice Ao37 t210.length co37 : Value).ownBlock ∧ some k_ ≠ (v217 : Value).ownBlock ∧ some k_ ≠ (.slice Ao43 t223.length co43 : Value).ownBlock ∧ some k_ ≠ (v230 : Value).ownBlock ∧ some k_ ≠ (s_.2.2.1 : Value).ownBlock ∧ some k_ ≠ (s_.2.2.2.1 : Value).ownBlock) s_.2.2.2.2.1 t251) ∧ (w'.heap[gb205]? = some (.cells #[.int .i64 a0_0, .int .u8 a0_1, .slice A0_2 l0_2.length c0_2, .int .i64 a0_3, .int .i64 a0_4, .int .i64 a0_5] 25 (0, 0))) ∧ (w'.heap[gb220]? = some (.cells #[.int .i64 t208, .int .u8 t209, .slice Ao37 t210.length co37, .int .i64 t213, .int .i64 t214, .int .i64 t215] 25 (0, 0))) ∧ (w'.heap[gb233]? = some (.cells #[.int .i64 t221, .int .u8 t222, .slice Ao43 t223.length co43, .int .i64 t226, .int .i64 t227, .int .i64 t228] 25 (0, 0))) ∧ (w'.heap[s_.2.2.2.2.2]? = some (.cells #[.int .i64 0, .int .u8 0, .slice none 0 0, .int .i64 0, .int .i64 0, .int .i64 0] 25 (0, 0))) ∧ (w.heap.size ≤ s_.2.2.2.2.2) ∧ (w.heap.size ≤ s_.2.2.2.2.2) ∧ (gb205 ≠ s_.2.2.2.2.2) ∧ (s_.2.2.2.2.2 ≠ gb205) ∧ (gb220 ≠ s_.2.2.2.2.2) ∧ (s_.2.2.2.2.2 ≠ gb220) ∧ (gb233 ≠ s_.2.2.2.2.2) ∧ (s_.2.2.2.2.2 ≠ gb233) ∧ (Below w.heap.size w w')) ?_ ?_
                    rotate_left
                    · intro hJ1_3_5_7_12
                      refine join_ (σ := Value × Value × Value × Value × Value) 4 #[true, true, true, true, true, true, true, true, true, true, true, true, false, false, false, false] (fun s_ => [(55, s_.1), (57, s_.2.1), (59, s_.2.2.1), (61, .tuple #[.agg #[.int .i64 t243, .int .u8 t244, s_.2.2.2.1, .int .i64 t248, .int .i64 t249, .int .i64 t250], s_.2.2.2.2, .int .i64 t254]), (53, .tuple #[.agg #[.int .i64 t243, .int .u8 t244, s_.2.2.2.1, .int .i64 t248, .int .i64 t249, .int .i64 t250], s_.2.2.2.2, .int .i64 t254]), (62, .agg #[.int .i64 t243, .int .u8 t244, s_.2.2.2.1, .int .i64 t248, .int .i64 t249, .int .i64 t250]), (63, s_.2.2.2.2), (64, .int .i64 t254)]) (fun s_ w' => (w'.cell? ⟨gb205, 0, none⟩ = some (.int .i64 a0_0) ∧ w'.cell? ⟨gb205, 1, none⟩ = some (.int .u8 a0_1) ∧ w'.cell? ⟨gb205, 2, none⟩ = some (.slice A0_2 l0_2.length c0_2) ∧ w'.cell? ⟨gb205, 3, none⟩ = some (.int .i64 a0_3) ∧ w'.cell? ⟨gb205, 4, none⟩ = some (.int .i64 a0_4) ∧ w'.cell? ⟨gb205, 5, none⟩ = some (.int .i64 a0_5)) ∧ (Kd.R (Kd.int .u8) 5 w' w.heap.size (fun k_ => some k_ ≠ (v217 : Value).ownBlock ∧ some k_ ≠ (.slice Ao43 t223.length co43 : Value).ownBlock ∧ some k_ ≠ (v230 : Value).ownBlock ∧ some k_ ≠ (s_.2.2.1 : Value).ownBlock ∧ some k_ ≠ (s_.2.2.2.1 : Value).ownBlock ∧ some k_ ≠ (s_.2.2.2.2 : Value).ownBlock) (.slice Ao37 t210.length co37) t210) ∧ (Kd.R (Kd.int .u8) 5 w' w.heap.size (fun k_ => some k_ ≠ (.slice Ao37 t210.length co37 : Value).ownBlock ∧ some k_ ≠ (.slice Ao43 t223.length co43 : Value).ownBlock ∧ some k_ ≠ (v230 : Value).ownBlock ∧ some k_ ≠ (s_.2.2.1 : Value).ownBlock ∧ some k_ ≠ (s_.2.2.2.1 : Value).ownBlock ∧ some k_ ≠ (s_.2.2.2.2 : Value).ownBlock) v217 t216) ∧ (Kd.R (Kd.int .u8) 5 w' w.heap.size (fun k_ => some k_ ≠ (.slice Ao37 t210.length co37 : Value).ownBlock ∧ some k_ ≠ (v217 : Value).ownBlock ∧ some k_ ≠ (v230 : Value).ownBlock ∧ some k_ ≠ (s_.2.2.1 : Value).ownBlock ∧ some k_ ≠ (s_.2.2.2.1 : Value).ownBlock ∧ some k_ ≠ (s_.2.2.2.2 : Value).ownBlock) (.slice Ao43 t223.length co43) t223) ∧ (Kd.R (Kd.int .u8) 5 w' w.heap.size (fun k_ => some k_ ≠ (.slice Ao37 t210.length co37 : Value).ownBlock ∧ some k_ ≠ (v217 : Value).ownBlock ∧ some k_ ≠ (.slice Ao43 t223.length co43 : Value).ownBlock ∧ some k_ ≠ (s_.2.2.1 : Value).ownBlock ∧ some k_ ≠ (s_.2.2.2.1 : Value).ownBlock ∧ some k_ ≠ (s_.2.2.2.2 : Value).ownBlock) v230 t229) ∧ (Kd.R (Kd.int .u8) 5 w' w.heap.size (fun k_ => some k_ ≠ (.slice Ao37 t210.length co37 : Value).ownBlock ∧ some k_ ≠ (v217 : Value).ownBlock ∧ some k_ ≠ (.slice Ao43 t223.length co43 : Value).ownBlock ∧ some k_ ≠ (v230 : Value).ownBlock ∧ some k_ ≠ (s_.2.2.2.1 : Value).ownBlock ∧ some k_ ≠ (s_.2.2.2.2 : Value).ownBlock) s_.2.2.1 y240) ∧ (Kd.R (Kd.int .u8) 5 w' w.heap.size (fun k_ => some k_ ≠ (.slice Ao37 t210.length co37 : Value).ownBlock ∧ some k_ ≠ (v217 : Value).ownBlock ∧ some k_ ≠ (.slice Ao43 t223.length co43 : Value).ownBlock ∧ some k_ ≠ (v230 : Value).ownBlock ∧ some k_ ≠ (s_.2.2.1 : Value).ownBlock ∧ some k_ ≠ (s_.2.2.2.2 : Value).ownBlock) s_.2.2.2.1 t245) ∧ (Kd.R (Kd.int .u8) 5 w' w.heap.size (fun k_ => some k_ ≠ (.slice Ao37 t210.length co37 : Value).ownBlock ∧ some k_ ≠ (v217 : Value).ownBlock ∧ some k_ ≠ (.slice Ao43 t223.length co43 : Value).ownBlock ∧ some k_ ≠ (v230 : Value).ownBlock ∧ some k_ ≠ (s_.2.2.1 : Value).ownBlock ∧ some k_ ≠ (s_.2.2.2.1 : Value).ownBlock) s_.2.2.2.2 t251) ∧ (w'.heap[gb205]? = some (.cells #[.int .i64 a0_0, .int .u8 a0_1, .slice A0_2 l0_2.length c0_2, .int .i64 a0_3, .int .i64 a0_4, .int .i64 a0_5] 25 (0, 0))) ∧ (w'.heap[gb220]? = some (.cells #[.int .i64 t208, .int .u8 t209, .slice Ao37 t210.length co37, .int .i64 t213, .int .i64 t214, .int .i64 t215] 25 (0, 0))) ∧ (w'.heap[gb233]? = some (.cells #[.int .i64 t221, .int .u8 t222, .slice Ao43 t223.length co43, .int .i64 t226, .int .i64 t227, .int .i64 t228] 25 (0, 0))) ∧ (Below w.heap.size w w')) ?_ ?_
                      rotate_left
                      · intro hJ1_3_5_7
                        refine join_ (σ := Value × Value × Value × Nat) 8 #[true, true, true, true, true, true, true, false, false, false, false, false, true, false, false, false] (fun s_ => [(55, s_.1), (57, s_.2.1), (59, s_.2.2.1), (15, .pointer (some ⟨s_.2.2.2, 0, none⟩))]) (fun s_ w' => (w'.cell? ⟨gb205, 0, none⟩ = some (.int .i64 a0_0) ∧ w'.cell? ⟨gb205, 1, none⟩ = some (.int .u8 a0_1) ∧ w'.cell? ⟨gb205, 2, none⟩ = some (.slice A0_2 l0_2.length c0_2) ∧ w'.cell? ⟨gb205, 3, none⟩ = some (.int .i64 a0_3) ∧ w'.cell? ⟨gb205, 4, none⟩ = some (.int .i64 a0_4) ∧ w'.cell? ⟨gb205, 5, none⟩ = some (.int .i64 a0_5)) ∧ (Kd.R (Kd.int .u8) 5 w' w.heap.size (fun k_ => some k_ ≠ (v217 : Value).ownBlock ∧ some k_ ≠ (.slice Ao43 t223.length co43 : Value).ownBlock ∧ some k_ ≠ (v230 : Value).ownBlock ∧ some k_ ≠ (s_.2.2.1 : Value).ownBlock) (.slice Ao37 t210.length co37) t210) ∧ (Kd.R (Kd.int .u8) 5 w' w.heap.size (fun k_ => some k_ ≠ (.slice Ao37 t210.length co37 : Value).ownBlock ∧ some k_ ≠ (.slice Ao43 t223.length co43 : Value).ownBlock ∧ some k_ ≠ (v230 : Value).ownBlock ∧ some k_ ≠ (s_.2.2.1 : Value).ownBlock) v217 t216) ∧ (Kd.R (Kd.int .u8) 5 w' w.heap.size (fun k_ => some k_ ≠ (.slice Ao37 t210.length co37 : Value).ownBlock ∧ some k_ ≠ (v217 : Value).ownBlock ∧ some k_ ≠ (v230 : Value).ownBlock ∧ some k_ ≠ (s_.2.2.1 : Value).ownBlock) (.slice Ao43 t223.length co43) t223) ∧ (Kd.R (Kd.int .u8) 5 w' w.heap.size (fun k_ => some k_ ≠ (.slice Ao37 t210.length co37 : Value).ownBlock ∧ some k_ ≠ (v217 : Value).ownBlock ∧ some k_ ≠ (.slice Ao43 t223.length co43 : Value).ownBlock ∧ some k_ ≠ (s_.2.2.1 : Value).ownBlock) v230 t229) ∧ (Kd.R (Kd.int .u8) 5 w' w.heap.size (fun k_ => some k_ ≠ (.slice Ao37 t210.length co37 : Value).ownBlock ∧ some k_ ≠ (v217 : Value).ownBlock ∧ some k_ ≠ (.slice Ao43 t223.length co43 : Value).ownBlock ∧ some k_ ≠ (v230 : Value).ownBlock) s_.2.2.1 y240) ∧ (w'.heap[gb205]? = some (.cells #[.int .i64 a0_0, .int .u8 a0_1, .slice A0_2 l0_2.length c0_2, .int .i64 a0_3, .int .i64 a0_4, .int .i64 a0_5] 25 (0, 0))) ∧ (w'.heap[gb220]? = some (.cells #[.int .i64 t208, .int .u8 t209, .slice Ao37 t210.length co37, .int .i64 t213, .int .i64 t214, .int .i64 t215] 25 (0, 0))) ∧ (w'.heap[gb233]? = some (.cells #[.int .i64 t221, .int .u8 t222, .slice Ao43 t223.length co43, .int .i64 t226, .int .i64 t227, .int .i64 t228] 25 (0, 0))) ∧ (w'.heap[s_.2.2.2]? = some (.cells #[.int .i64 0, .int .u8 0, .slice none 0 0, .int .i64 0, .int .i64 0, .int .i64 0] 25 (0, 0))) ∧ (w.heap.size ≤ s_.2.2.2) ∧ (w.heap.size ≤ s_.2.2.2) ∧ (gb205 ≠ s_.2.2.2) ∧ (s_.2.2.2 ≠ gb205) ∧ (gb220 ≠ s_.2.2.2) ∧ (s_.2.2.2 ≠ gb220) ∧ (gb233 ≠ s_.2.2.2) ∧ (s_.2.2.2 ≠ gb233) ∧ (Below w.heap.size w w')) ?_ ?_
                        rotate_left
                        · intro hJ1_3_5_12
                          refine join_ (σ := Value × Value × Value) 9 #[true, true, true, true, true, true, true, false, false, false, false, false, false, false, false, false] (fun s_ => [(55, s_.1), (57, s_.2.1), (59, s_.2.2)]) (fun s_ w' => (w'.cell? ⟨gb205, 0, none⟩ = some (.int .i64 a0_0) ∧ w'.cell? ⟨gb205, 1, none⟩ = some (.int .u8 a0_1) ∧ w'.cell? ⟨gb205, 2, none⟩ = some (.slice A0_2 l0_2.length c0_2) ∧ w'.cell? ⟨gb205, 3, none⟩ = some (.int .i64 a0_3) ∧ w'.cell? ⟨gb205, 4, none⟩ = some (.int .i64 a0_4) ∧ w'.cell? ⟨gb205, 5, none⟩ = some (.int .i64 a0_5)) ∧ (Kd.R (Kd.int .u8) 5 w' w.heap.size (fun k_ => some k_ ≠ (v217 : Value).ownBlock ∧ some k_ ≠ (.slice Ao43 t223.length co43 : Value).ownBlock ∧ some k_ ≠ (v230 : Value).ownBlock ∧ some k_ ≠ (s_.2.2 : Value).ownBlock) (.slice Ao37 t210.length co37) t210) ∧ (Kd.R (Kd.int .u8) 5 w' w.heap.size (fun k_ => some k_ ≠ (.slice Ao37 t210.length co37 : Value).ownBlock ∧ some k_ ≠ (.slice Ao43 t223.length co43 : Value).ownBlock ∧ some k_ ≠ (v230 : Value).ownBlock ∧ some k_ ≠ (s_.2.2 : Value).ownBlock) v217 t216) ∧ (Kd.R (Kd.int .u8) 5 w' w.heap.size (fun k_ => some k_ ≠ (.slice Ao37 t210.length co37 : Value).ownBlock ∧ some k_ ≠ (v217 : Value).ownBlock ∧ some k_ ≠ (v230 : Value).ownBlock ∧ some k_ ≠ (s_.2.2 : Value).ownBlock) (.slice Ao43 t223.length co43) t223) ∧ (Kd.R (Kd.int .u8) 5 w' w.heap.size (fun k_ => some k_ ≠ (.slice Ao37 t210.length co37 : Value).ownBlock ∧ some k_ ≠ (v217 : Value).ownBlock ∧ some k_ ≠ (.slice Ao43 t223.length co43 : Value).ownBlock ∧ some k_ ≠ (s_.2.2 : Value).ownBlock) v230 t229) ∧ (Kd.R (Kd.int .u8) 5 w' w.heap.size (fun k_ => some k_ ≠ (.slice Ao37 t210.length co37 : Value).ownBlock ∧ some k_ ≠ (v217 : Value).ownBlock ∧ some k_ ≠ (.slice Ao43 t223.length co43 : Value).ownBlock ∧ some k_ ≠ (v230 : Value).ownBlock) s_.2.2 y240) ∧ (w'.heap[gb205]? = some (.cells #[.int .i64 a0_0, .int .u8 a0_1, .slice A0_2 l0_2.length c0_2, .int .i64 a0_3, .int .i64 a0_4, .int .i64 a0_5] 25 (0, 0))) ∧ (w'.heap[gb220]? = some (.cells #[.int .i64 t208, .int .u8 t209, .slice Ao37 t210.length co37, .int .i64 t213, .int .i64 t214, .int .i64 t215] 25 (0, 0))) ∧ (w'.heap[gb233]? = some (.cells #[.int .i64 t221, .int .u8 t222, .slice Ao43 t223.length co43, .int .i64 t226, .int .i64 t227, .int .i64 t228] 25 (0, 0))) ∧ (Below w.heap.size w w')) ?_ ?_
                          rotate_left
                          · intro hJ1_3_5
                            refine join_ (σ := Value × Value × Nat) 9 #[true, true, true, true, true, false, true, false, false, false, false, false, true, false, false, false] (fun s_ => [(55, s_.1), (57, s_.2.1), (15, .pointer (some ⟨s_.2.2, 0, none⟩))]) (fun s_ w' => (w'.cell? ⟨gb205, 0, none⟩ = some (.int .i64 a0_0) ∧ w'.cell? ⟨gb205, 1, none⟩ = some (.int .u8 a0_1) ∧ w'.cell? ⟨gb205, 2, none⟩ = some (.slice A0_2 l0_2.length c0_2) ∧ w'.cell? ⟨gb205, 3, none⟩ = some (.int .i64 a0_3) ∧ w'.cell? ⟨gb205, 4, none⟩ = some (.int .i64 a0_4) ∧ w'.cell? ⟨gb205, 5, none⟩ = some (.int .i64 a0_5)) ∧ (Kd.R (Kd.int .u8) 5 w' w.heap.size (fun k_ => some k_ ≠ (v217 : Value).ownBlock ∧ some k_ ≠ (.slice Ao43 t223.length co43 : Value).ownBlock ∧ some k_ ≠ (v230 : Value).ownBlock ∧ some k_ ≠ (s_.2.1 : Value).ownBlock) (.slice Ao37 t210.length co37) t210) ∧ (Kd.R (Kd.int .u8) 5 w' w.heap.size (fun k_ => some k_ ≠ (.slice Ao37 t210.length co37 : Value).ownBlock ∧ some k_ ≠ (.slice Ao43 t223.length co43 : Value).ownBlock ∧ some k_ ≠ (v230 : Value).ownBlock ∧ some k_ ≠ (s_.2.1 : Value).ownBlock) v217 t216) ∧ (Kd.R (Kd.int .u8) 5 w' w.heap.size (fun k_ => some k_ ≠ (.slice Ao37 t210.length co37 : Value).ownBlock ∧ some k_ ≠ (v217 : Value).ownBlock ∧ some k_ ≠ (v230 : Value).ownBlock ∧ some k_ ≠ (s_.2.1 : Value).ownBlock) (.slice Ao43 t223.length co43) t223) ∧ (Kd.R (Kd.int .u8) 5 w' w.heap.size (fun k_ => some k_ ≠ (.slice Ao37 t210.length co37 : Value).ownBlock ∧ some k_ ≠ (v217 : Value).ownBlock ∧ some k_ ≠ (.slice Ao43 t223.length co43 : Value).ownBlock ∧ some k_ ≠ (s_.2.1 : Value).ownBlock) v230 t229) ∧ (Kd.R (Kd.int .u8) 5 w' w.heap.size (fun k_ => some k_ ≠ (.slice Ao37 t210.length co37 : Value).ownBlock ∧ some k_ ≠ (v217 : Value).ownBlock ∧ some k_ ≠ (.slice Ao43 t223.length co43 : Value).ownBlock ∧ some k_ ≠ (v230 : Value).ownBlock) s_.2.1 y237) ∧ (w'.heap[gb205]? = some (.cells #[.int .i64 a0_0, .int .u8 a0_1, .slice A0_2 l0_2.length c0_2, .int .i64 a0_3, .int .i64 a0_4, .int .i64 a0_5] 25 (0, 0))) ∧ (w'.heap[gb220]? = some (.cells #[.int .i64 t208, .int .u8 t209, .slice Ao37 t210.length co37, .int .i64 t213, .int .i64 t214, .int .i64 t215] 25 (0, 0))) ∧ (w'.heap[gb233]? = some (.cells #[.int .i64 t221, .int .u8 t222, .slice Ao43 t223.length co43, .int .i64 t226, .int .i64 t227, .int .i64 t228] 25 (0, 0))) ∧ (w'.heap[s_.2.2]? = some (.cells #[.int .i64 0, .int .u8 0, .slice none 0 0, .int .i64 0, .int .i64 0, .int .i64 0] 25 (0, 0))) ∧ (w.heap.size ≤ s_.2.2) ∧ (w.heap.size ≤ s_.2.2) ∧ (gb205 ≠ s_.2.2) ∧ (s_.2.2 ≠ gb205) ∧ (gb220 ≠ s_.2.2) ∧ (s_.2.2 ≠ gb220) ∧ (gb233 ≠ s_.2.2) ∧ (s_.2.2 ≠ gb233) ∧ (Below w.heap.size w w')) ?_ ?_
                            rotate_left
                            · intro hJ1_3_12
                              refine join_ (σ := Value × Value) 10 #[true, true, true, true, true, false, true, false, false, false, false, false, false, false, false, false] (fun s_ => [(55, s_.1), (57, s_.2)]) (fun s_ w' => (w'.cell? ⟨gb205, 0, none⟩ = some (.int .i64 a0_0) ∧ w'.cell? ⟨gb205, 1, none⟩ = some (.int .u8 a0_1) ∧ w'.cell? ⟨gb205, 2, none⟩ = some (.slice A0_2 l0_2.length c0_2) ∧ w'.cell? ⟨gb205, 3, none⟩ = some (.int .i64 a0_3) ∧ w'.cell? ⟨gb205, 4, none⟩ = some (.int .i64 a0_4) ∧ w'.cell? ⟨gb205, 5, none⟩ = some (.int .i64 a0_5)) ∧ (Kd.R (Kd.int .u8) 5 w' w.heap.size (fun k_ => some k_ ≠ (v217 : Value).ownBlock ∧ some k_ ≠ (.slice Ao43 t223.length co43 : Value).ownBlock ∧ some k_ ≠ (v230 : Value).ownBlock ∧ some k_ ≠ (s_.2 : Value).ownBlock) (.slice Ao37 t210.length co37) t210) ∧ (Kd.R (Kd.int .u8) 5 w' w.heap.size (fun k_ => some k_ ≠ (.slice Ao37 t210.length co37 : Value).ownBlock ∧ some k_ ≠ (.slice Ao43 t223.length co43 : Value).ownBlock ∧ some k_ ≠ (v230 : Value).ownBlock ∧ some k_ ≠ (s_.2 : Value).ownBlock) v217 t216) ∧ (Kd.R (Kd.int .u8) 5 w' w.heap.size (fun k_ => some k_ ≠ (.slice Ao37 t210.length co37 : Value).ownBlock ∧ some k_ ≠ (v217 : Value).ownBlock ∧ some k_ ≠ (v230 : Value).ownBlock ∧ some k_ ≠ (s_.2 : Value).ownBlock) (.slice Ao43 t223.length co43) t223) ∧ (Kd.R (Kd.int .u8) 5 w' w.heap.size (fun k_ => some k_ ≠ (.slice Ao37 t210.length co37 : Value).ownBlock ∧ some k_ ≠ (v217 : Value).ownBlock ∧ some k_ ≠ (.slice Ao43 t223.length co43 : Value).ownBlock ∧ some k_ ≠ (s_.2 : Value).ownBlock) v230 t229) ∧ (Kd.R (Kd.int .u8) 5 w' w.heap.size (fun k_ => some k_ ≠ (.slice Ao37 t210.length co37 : Value).ownBlock ∧ some k_ ≠ (v217 : Value).ownBlock ∧ some k_ ≠ (.slice Ao43 t223.length co43 : Value).ownBlock ∧ some k_ ≠ (v230 : Value).ownBlock) s_.2 y237) ∧ (w'.heap[gb205]? = some (.cells #[.int .i64 a0_0, .int .u8 a0_1, .slice A0_2 l0_2.length c0_2, .int .i64 a0_3, .int .i64 a0_4, .int .i64 a0_5] 25 (0, 0))) ∧ (w'.heap[gb220]? = some (.cells #[.int .i64 t208, .int .u8 t209, .slice Ao37 t210.length co37, .int .i64 t213, .int .i64 t214, .int .i64 t215] 25 (0, 0))) ∧ (w'.heap[gb233]? = some (.cells #[.int .i64 t221, .int .u8 t222, .slice Ao43 t223.length co43, .int .i64 t226, .int .i64 t227, .int .i64 t228] 25 (0, 0))) ∧ (Below w.heap.size w w')) ?_ ?_
                              rotate_left
                              · intro hJ1_3
                                refine join_ (σ := Value × Nat) 10 #[true, true, true, false, true, false, true, false, false, false, false, false, true, false, false, false] (fun s_ => [(55, s_.1), (15, .pointer (some ⟨s_.2, 0, none⟩))]) (fun s_ w' => (w'.cell? ⟨gb205, 0, none⟩ = some (.int .i64 a0_0) ∧ w'.cell? ⟨gb205, 1, none⟩ = some (.int .u8 a0_1) ∧ w'.cell? ⟨gb205, 2, none⟩ = some (.slice A0_2 l0_2.length c0_2) ∧ w'.cell? ⟨gb205, 3, none⟩ = some (.int .i64 a0_3) ∧ w'.cell? ⟨gb205, 4, none⟩ = some (.int .i64 a0_4) ∧ w'.cell? ⟨gb205, 5, none⟩ = some (.int .i64 a0_5)) ∧ (Kd.R (Kd.int .u8) 5 w' w.heap.size (fun k_ => some k_ ≠ (v217 : Value).ownBlock ∧ some k_ ≠ (.slice Ao43 t223.length co43 : Value).ownBlock ∧ some k_ ≠ (v230 : Value).ownBlock ∧ some k_ ≠ (s_.1 : Value).ownBlock) (.slice Ao37 t210.length co37) t210) ∧ (Kd.R (Kd.int .u8) 5 w' w.heap.size (fun k_ => some k_ ≠ (.slice Ao37 t210.length co37 : Value).ownBlock ∧ some k_ ≠ (.slice Ao43 t223.length co43 : Value).ownBlock ∧ some k_ ≠ (v230 : Value).ownBlock ∧ some k_ ≠ (s_.1 : Value).ownBlock) v217 t216) ∧ (Kd.R (Kd.int .u8) 5 w' w.heap.size (fun k_ => some k_ ≠ (.slice Ao37 t210.length co37 : Value).ownBlock ∧ some k_ ≠ (v217 : Value).ownBlock ∧ some k_ ≠ (v230 : Value).ownBlock ∧ some k_ ≠ (s_.1 : Value).ownBlock) (.slice Ao43 t223.length co43) t223) ∧ (Kd.R (Kd.int .u8) 5 w' w.heap.size (fun k_ => some k_ ≠ (.slice Ao37 t210.length co37 : Value).ownBlock ∧ some k_ ≠ (v217 : Value).ownBlock ∧ some k_ ≠ (.slice Ao43 t223.length co43 : Value).ownBlock ∧ some k_ ≠ (s_.1 : Value).ownBlock) v230 t229) ∧ (Kd.R (Kd.int .u8) 5 w' w.heap.size (fun k_ => some k_ ≠ (.slice Ao37 t210.length co37 : Value).ownBlock ∧ some k_ ≠ (v217 : Value).ownBlock ∧ some k_ ≠ (.slice Ao43 t223.length co43 : Value).ownBlock ∧ some k_ ≠ (v230 : Value).ownBlock) s_.1 y234) ∧ (w'.heap[gb205]? = some (.cells #[.int .i64 a0_0, .int .u8 a0_1, .slice A0_2 l0_2.length c0_2, .int .i64 a0_3, .int .i64 a0_4, .int .i64 a0_5] 25 (0, 0))) ∧ (w'.heap[gb220]? = some (.cells #[.int .i64 t208, .int .u8 t209, .slice Ao37 t210.length co37, .int .i64 t213, .int .i64 t214, .int .i64 t215] 25 (0, 0))) ∧ (w'.heap[gb233]? = some (.cells #[.int .i64 t221, .int .u8 t222, .slice Ao43 t223.length co43, .int .i64 t226, .int .i64 t227, .int .i64 t228] 25 (0, 0))) ∧ (w'.heap[s_.2]? = some (.cells #[.int .i64 0, .int .u8 0, .slice none 0 0, .int .i64 0, .int .i64 0, .int .i64 0] 25 (0, 0))) ∧ (w.heap.size ≤ s_.2) ∧ (w.heap.size ≤ s_.2) ∧ (gb205 ≠ s_.2) ∧ (s_.2 ≠ gb205) ∧ (gb220 ≠ s_.2) ∧ (s_.2 ≠ gb220) ∧ (gb233 ≠ s_.2) ∧ (s_.2 ≠ gb233) ∧ (Below w.heap.size w w')) ?_ ?_
                                rotate_left
                                · intro hJ1_12
                                  refine join_ (σ := Value) 11 #[true, true, true, false, true, false, true, false, false, false, false, false, false, false, false, false] (fun s_ => [(55, s_)]) (fun s_ w' => (w'.cell? ⟨gb205, 0, none⟩ = some (.int .i64 a0_0) ∧ w'.cell? ⟨gb205, 1, none⟩ = some (.int .u8 a0_1) ∧ w'.cell? ⟨gb205, 2, none⟩ = some (.slice A0_2 l0_2.length c0_2) ∧ w'.cell? ⟨gb205, 3, none⟩ = some (.int .i64 a0_3) ∧ w'.cell? ⟨gb205, 4, none⟩ = some (.int .i64 a0_4) ∧ w'.cell? ⟨gb205, 5, none⟩ = some (.int .i64 a0_5)) ∧ (Kd.R (Kd.int .u8) 5 w' w.heap.size (fun k_ => some k_ ≠ (v217 : Value).ownBlock ∧ some k_ ≠ (.slice Ao43 t223.length co43 : Value).ownBlock ∧ some k_ ≠ (v230 : Value).ownBlock ∧ some k_ ≠ (s_ : Value).ownBlock) (.slice Ao37 t210.length co37) t210) ∧ (Kd.R (Kd.int .u8) 5 w' w.heap.size (fun k_ => some k_ ≠ (.slice Ao37 t210.length co37 : Value).ownBlock ∧ some k_ ≠ (.slice Ao43 t223.length co43 : Value).ownBlock ∧ some k_ ≠ (v230 : Value).ownBlock ∧ some k_ ≠ (s_ : Value).ownBlock) v217 t216) ∧ (Kd.R (Kd.int .u8) 5 w' w.heap.size (fun k_ => some k_ ≠ (.slice Ao37 t210.length co37 : Value).ownBlock ∧ some k_ ≠ (v217 : Value).ownBlock ∧ some k_ ≠ (v230 : Value).ownBlock ∧ some k_ ≠ (s_ : Value).ownBlock) (.slice Ao43 t223.length co43) t223) ∧ (Kd.R (Kd.int .u8) 5 w' w.heap.size (fun k_ => some k_ ≠ (.slice Ao37 t210.length co37 : Value).ownBlock ∧ some k_ ≠ (v217 : Value).ownBlock ∧ some k_ ≠ (.slice Ao43 t223.length co43 : Value).ownBlock ∧ some k_ ≠ (s_ : Value).ownBlock) v230 t229) ∧ (Kd.R (Kd.int .u8) 5 w' w.heap.size (fun k_ => some k_ ≠ (.slice Ao37 t210.length co37 : Value).ownBlock ∧ some k_ ≠ (v217 : Value).ownBlock ∧ some k_ ≠ (.slice Ao43 t223.length co43 : Value).ownBlock ∧ some k_ ≠ (v230 : Value).ownBlock) s_ y234) ∧ (w'.heap[gb205]? = some (.cells #[.int .i64 a0_0, .int .u8 a0_1, .slice A0_2 l0_2.length c0_2, .int .i64 a0_3, .int .i64 a0_4, .int .i64 a0_5] 25 (0, 0))) ∧ (w'.heap[gb220]? = some (.cells #[.int .i64 t208, .int .u8 t209, .slice Ao37 t210.length co37, .int .i64 t213, .int .i64 t214, .int .i64 t215] 25 (0, 0))) ∧ (w'.heap[gb233]? = some (.cells #[.int .i64 t221, .int .u8 t222, .slice Ao43 t223.length co43, .int .i64 t226, .int .i64 t227, .int .i64 t228] 25 (0, 0))) ∧ (Below w.heap.size w w')) ?_ ?_
                                  rotate_left
                                  · intro hJ1
                                    refine join_ (σ := Nat) 11 #[true, false, true, false, true, false, true, false, false, false, false, false, true, false, false, false] (fun s_ => [(15, .pointer (some ⟨s_, 0, none⟩))]) (fun s_ w' => (w'.cell? ⟨gb205, 0, none⟩ = some (.int .i64 a0_0) ∧ w'.cell? ⟨gb205, 1, none⟩ = some (.int .u8 a0_1) ∧ w'.cell? ⟨gb205, 2, none⟩ = some (.slice A0_2 l0_2.length c0_2) ∧ w'.cell? ⟨gb205, 3, none⟩ = some (.int .i64 a0_3) ∧ w'.cell? ⟨gb205, 4, none⟩ = some (.int .i64 a0_4) ∧ w'.cell? ⟨gb205, 5, none⟩ = some (.int .i64 a0_5)) ∧ (Kd.R (Kd.int .u8) 5 w' w.heap.size (fun k_ => some k_ ≠ (v217 : Value).ownBlock ∧ some k_ ≠ (.slice Ao43 t223.length co43 : Value).ownBlock ∧ some k_ ≠ (v230 : Value).ownBlock) (.slice Ao37 t210.length co37) t210) ∧ (Kd.R (Kd.int .u8) 5 w' w.heap.size (fun k_ => some k_ ≠ (.slice Ao37 t210.length co37 : Value).ownBlock ∧ some k_ ≠ (.slice Ao43 t223.length co43 : Value).ownBlock ∧ some k_ ≠ (v230 : Value).ownBlock) v217 t216) ∧ (Kd.R (Kd.int .u8) 5 w' w.heap.size (fun k_ => some k_ ≠ (.slice Ao37 t210.length co37 : Value).ownBlock ∧ some k_ ≠ (v217 : Value).ownBlock ∧ some k_ ≠ (v230 : Value).ownBlock) (.slice Ao43 t223.length co43) t223) ∧ (Kd.R (Kd.int .u8) 5 w' w.heap.size (fun k_ => some k_ ≠ (.slice Ao37 t210.length co37 : Value).ownBlock ∧ some k_ ≠ (v217 : Value).ownBlock ∧ some k_ ≠ (.slice Ao43 t223.length co43 : Value).ownBlock) v230 t229) ∧ (w'.heap[gb205]? = some (.cells #[.int .i64 a0_0, .int .u8 a0_1, .slice A0_2 l0_2.length c0_2, .int .i64 a0_3, .int .i64 a0_4, .int .i64 a0_5] 25 (0, 0))) ∧ (w'.heap[gb220]? = some (.cells #[.int .i64 t208, .int .u8 t209, .slice Ao37 t210.length co37, .int .i64 t213, .int .i64 t214, .int .i64 t215] 25 (0, 0))) ∧ (w'.heap[gb233]? = some (.cells #[.int .i64 t221, .int .u8 t222, .slice Ao43 t223.length co43, .int .i64 t226, .int .i64 t227, .int .i64 t228] 25 (0, 0))) ∧ (w'.heap[s_]? = some (.cells #[.int .i64 0, .int .u8 0, .slice none 0 0, .int .i64 0, .int .i64 0, .int .i64 0] 25 (0, 0))) ∧ (w.heap.size ≤ s_) ∧ (w.heap.size ≤ s_) ∧ (gb205 ≠ s_) ∧ (s_ ≠ gb205) ∧ (gb220 ≠ s_) ∧ (s_ ≠ gb220) ∧ (gb233 ≠ s_) ∧ (s_ ≠ gb233) ∧ (Below w.heap.size w w')) ?_ ?_
                                    rotate_left
                                    · intro hJ12
                                      refine two_ (i := 1) (j := 12) (Ni := some 55) (Nj := some 15) #[true, true, true, false, true, false, true, false, false, false, false, false, false, false, false, false] #[true, false, true, false, true, false, true, false, false, false, false, false, true, false, false, false] rfl rfl rfl rfl (two_of HT_.out (by kernel_rfl)) (by decide) (by decide) (fun K hK => ?_) (fun K hK => ?_)
                                      · skip
                                        refine Kd.R_lit_step (Kd.int .u8) _ 5 ?hg (N := 55) ?hd (xs := ([] : List Int)) (inner := []) (ok := fun _ => True) (okp := fun _ => True) ?hr ?hp (fun _ hk => hk) trivial (Below.refl _ _) (Nat.le_refl _) (by simp) ?_; (case hd => rfl); (case hg => rfl); (case hr => first | (go_simp; done) | (go_simp; rfl)); (case hp => exact (Reps.none _ _))
                                        intro v235 w46 ho47 hb hg_ hnew_
                                        clear hg_ hnew_
                                        (first | rw [← Ny234.out] at ho47 | (simp only [Int.reduceToNat] at ho47; rw [← Ny234.out] at ho47))
                                        have n0_ := Aside0.mk (Kd.R_elder' (pR HO212) (Kd.R_base ho47) hb)
                                        have n1_ := Aside0.mk (Kd.R_elder' (pR HO218) (Kd.R_base ho47) hb)
                                        have n2_ := Aside0.mk (Kd.R_elder' (pR HO225) (Kd.R_base ho47) hb)
                                        have n3_ := Aside0.mk (Kd.R_elder' (pR HO231) (Kd.R_base ho47) hb)
                                        have n4_ := Aside0.mk (Kd.R_lower (Kd.R_new' (Kd.R_new' (Kd.R_new' (Kd.R_new' ho47 (Kd.R_lt (pR HO212))) (Kd.R_lt (pR HO218))) (Kd.R_lt (pR HO225))) (Kd.R_lt (pR HO231))) (below_size (by repeat (first | (with_reducible first | exact HB.out | apply below_alloc | apply pw_below_drewN | apply below_drew1 | refine below_set ?_ GE205.out | refine below_set ?_ GE220.out | refine below_set ?_ GE233.out) | exact HB.out))))
                                        have n5_ := Aside0.mk (blk_below (g := gb205) (o := .cells #[.int .i64 a0_0, .int .u8 a0_1, .slice A0_2 l0_2.length c0_2, .int .i64 a0_3, .int .i64 a0_4, .int .i64 a0_5] 25 (0, 0)) (pK BK205) hb)
                                        have n6_ := Aside0.mk (blk_below (g := gb220) (o := .cells #[.int .i64 t208, .int .u8 t209, .slice Ao37 t210.length co37, .int .i64 t213, .int .i64 t214, .int .i64 t215] 25 (0, 0)) (pK BK220) hb)
                                        have n7_ := Aside0.mk (blk_below (g := gb233) (o := .cells #[.int .i64 t221, .int .u8 t222, .slice Ao43 t223.length co43, .int .i64 t226, .int .i64 t227, .int .i64 t228] 25 (0, 0)) (pK BK233) hb)
                                        have n8_ := Aside0.mk (below_step (by repeat (first | (with_reducible first | exact HB.out | apply below_alloc | apply pw_below_drewN | apply below_drew1 | refine below_set ?_ GE205.out | refine below_set ?_ GE220.out | refine below_set ?_ GE233.out) | exact HB.out)) hb)
                                        clear HO212
                                        clear HO218
                                        clear HO225
                                        clear HO231
                                        clear BK205
                                        clear BK220
                                        clear BK233
                                        clear HB
                                        have HO212 := n0_
                                        have HO218 := n1_
                                        have HO225 := n2_
                                        have HO231 := n3_
                                        have HO236 := n4_
                                        have BK205 := n5_
                                        have BK220 := n6_
                                        have BK233 := n7_
                                        have HB := n8_
                                        clear n0_ n1_ n2_ n3_ n4_ n5_ n6_ n7_ n8_
                                        clear hb ho47
                                        refine hK.out _ _ ⟨(blk_cell BK205.out 0).trans rfl, (blk_cell BK205.out 1).trans rfl, (blk_cell BK205.out 2).trans rfl, (blk_cell BK205.out 3).trans rfl, (blk_cell BK205.out 4).trans rfl, (blk_cell BK205.out 5).trans rfl⟩ (fun hHeld => ?_)
                                        clear hK K
                                        refine norm_ (a' := ?_) ?_ ?_
                                        rotate_left
                                        · show Act.put _ (some 55) _ = _
                                          simp only [Act.put, List.setIfInBounds_toArray, List.set_cons_zero, List.set_cons_succ, i64_w, i32_w]
                                          rfl
                                        exact norm_ (by first | (simp only [putAll, Act.put, List.setIfInBounds_toArray, List.set_cons_zero, List.set_cons_succ]; done) | (simp only [putAll, Act.put, List.setIfInBounds_toArray, List.set_cons_zero, List.set_cons_succ]; rfl)) (hJ1 (v235) _ ⟨hHeld, (by (with_reducible repeat (first | apply Kd.R_alloc | apply Kd.R_drewN | apply Kd.R_drew)); exact Kd.R_mono HO212.out (fun _ hk => ⟨hk.1.1, ⟨hk.1.2.1, ⟨hk.1.2.2, hk.2⟩⟩⟩)), (by (with_reducible repeat (first | apply Kd.R_alloc | apply Kd.R_drewN | apply Kd.R_drew)); exact Kd.R_mono HO218.out (fun _ hk => ⟨hk.1.1, ⟨hk.1.2.1, ⟨hk.1.2.2, hk.2⟩⟩⟩)), (by (with_reducible repeat (first | apply Kd.R_alloc | apply Kd.R_drewN | apply Kd.R_drew)); exact Kd.R_mono HO225.out (fun _ hk => ⟨hk.1.1, ⟨hk.1.2.1, ⟨hk.1.2.2, hk.2⟩⟩⟩)), (by (with_reducible repeat (first | apply Kd.R_alloc | apply Kd.R_drewN | apply Kd.R_drew)); exact Kd.R_mono HO231.out (fun _ hk => ⟨hk.1.1, ⟨hk.1.2.1, ⟨hk.1.2.2, hk.2⟩⟩⟩)), (by (with_reducible repeat (first | apply Kd.R_alloc | apply Kd.R_drewN | apply Kd.R_drew)); exact Kd.R_mono HO236.out (fun _ hk => ⟨hk.1.1.1.2, ⟨hk.1.1.2, ⟨hk.1.2, hk.2⟩⟩⟩)), (pK BK205), (pK BK220), (pK BK233), (by repeat (first | (with_reducible first | exact HB.out | apply below_alloc | apply pw_below_drewN | apply below_drew1 | refine below_set ?_ GE205.out | refine below_set ?_ GE220.out | refine below_set ?_ GE233.out) | exact HB.out))⟩)
                                      · skip
                                        refine box_step ?hg (N := 15) ?hd (cs := #[.int .i64 0, .int .u8 0, .slice none 0 0, .int .i64 0, .int .i64 0, .int .i64 0]) (t := 25) ?hr ?_; (case hd => rfl); (case hg => rfl); (case hr => first | (go_simp; done) | (go_simp; rfl))
                                        intro gb255 hg w46 hbox hb
                                        have n0_ := Aside0.mk (Kd.R_below (pR HO212) hb)
                                        have n1_ := Aside0.mk (Kd.R_below (pR HO218) hb)
                                        have n2_ := Aside0.mk (Kd.R_below (pR HO225) hb)
                                        have n3_ := Aside0.mk (Kd.R_below (pR HO231) hb)
                                        have n4_ := Aside0.mk (blk_below (g := gb205) (o := .cells #[.int .i64 a0_0, .int .u8 a0_1, .slice A0_2 l0_2.length c0_2, .int .i64 a0_3, .int .i64 a0_4, .int .i64 a0_5] 25 (0, 0)) (pK BK205) hb)
                                        have n5_ := Aside0.mk (blk_below (g := gb220) (o := .cells #[.int .i64 t208, .int .u8 t209, .slice Ao37 t210.length co37, .int .i64 t213, .int .i64 t214, .int .i64 t215] 25 (0, 0)) (pK BK220) hb)
                                        have n6_ := Aside0.mk (blk_below (g := gb233) (o := .cells #[.int .i64 t221, .int .u8 t222, .slice Ao43 t223.length co43, .int .i64 t226, .int .i64 t227, .int .i64 t228] 25 (0, 0)) (pK BK233) hb)
                                        have n7_ := Aside0.mk (below_step (by repeat (first | (with_reducible first | exact HB.out | apply below_alloc | apply pw_below_drewN | apply below_drew1 | refine below_set ?_ GE205.out | refine below_set ?_ GE220.out | refine below_set ?_ GE233.out) | exact HB.out)) hb)
                                        have n8_ := Aside0.mk (hbox)
                                        have n9_ := Aside0.mk ((by rw [hg]; exact (below_size (by repeat (first | (with_reducible first | exact HB.out | apply below_alloc | apply pw_below_drewN | apply below_drew1 | refine below_set ?_ GE205.out | refine below_set ?_ GE220.out | refine below_set ?_ GE233.out) | exact HB.out))) : w.heap.size ≤ gb255))
                                        have n10_ := Aside0.mk ((by rw [hg]; exact (below_size (by repeat (first | (with_reducible first | exact HB.out | apply below_alloc | apply pw_below_drewN | apply below_drew1 | refine below_set ?_ GE205.out | refine below_set ?_ GE220.out | refine below_set ?_ GE233.out) | exact HB.out))) : w.heap.size ≤ gb255))
                                        have n11_ := Aside0.mk ((by rw [hg]; exact Nat.ne_of_lt (blk_lt (g := gb205) (o := .cells #[.int .i64 a0_0, .int .u8 a0_1, .slice A0_2 l0_2.length c0_2, .int .i64 a0_3, .int .i64 a0_4, .int .i64 a0_5] 25 (0, 0)) (pK BK205)) : gb205 ≠ gb255))
                                        have n12_ := Aside0.mk ((by rw [hg]; exact Nat.ne_of_gt (blk_lt (g := gb205) (o := .cells #[.int .i64 a0_0, .int .u8 a0_1, .slice A0_2 l0_2.length c0_2, .int .i64 a0_3, .int .i64 a0_4, .int .i64 a0_5] 25 (0, 0)) (pK BK205)) : gb255 ≠ gb205))
                                        have n13_ := Aside0.mk ((by rw [hg]; exact Nat.ne_of_lt (blk_lt (g := gb220) (o := .cells #[.int .i64 t208, .int .u8 t209, .slice Ao37 t210.length co37, .int .i64 t213, .int .i64 t214, .int .i64 t215] 25 (0, 0)) (pK BK220)) : gb220 ≠ gb255))
                                        have n14_ := Aside0.mk ((by rw [hg]; exact Nat.ne_of_gt (blk_lt (g := gb220) (o := .cells #[.int .i64 t208, .int .u8 t209, .slice Ao37 t210.length co37, .int .i64 t213, .int .i64 t214, .int .i64 t215] 25 (0, 0)) (pK BK220)) : gb255 ≠ gb220))
                                        have n15_ := Aside0.mk ((by rw [hg]; exact Nat.ne_of_lt (blk_lt (g := gb233) (o := .cells #[.int .i64 t221, .int .u8 t222, .slice Ao43 t223.length co43, .int .i64 t226, .int .i64 t227, .int .i64 t228] 25 (0, 0)) (pK BK233)) : gb233 ≠ gb255))
                                        have n16_ := Aside0.mk ((by rw [hg]; exact Nat.ne_of_gt (blk_lt (g := gb233) (o := .cells #[.int .i64 t221, .int .u8 t222, .slice Ao43 t223.length co43, .int .i64 t226, .int .i64 t227, .int .i64 t228] 25 (0, 0)) (pK BK233)) : gb255 ≠ gb233))
                                        clear HO212
                                        clear HO218
                                        clear HO225
                                        clear HO231
                                        clear BK205
                                        clear BK220
                                        clear BK233
                                        clear HB
                                        have HO212 := n0_
                                        have HO218 := n1_
                                        have HO225 := n2_
                                        have HO231 := n3_
                                        have BK205 := n4_
                                        have BK220 := n5_
                                        have BK233 := n6_
                                        have HB := n7_
                                        have BK255 := n8_
                                        have GW255 := n9_
                                        have GE255 := n10_
                                        have NB205_255 := n11_
                                        have NB255_205 := n12_
                                        have NB220_255 := n13_
                                        have NB255_220 := n14_
                                        have NB233_255 := n15_
                                        have NB255_233 := n16_
                                        clear n0_ n1_ n2_ n3_ n4_ n5_ n6_ n7_ n8_ n9_ n10_ n11_ n12_ n13_ n14_ n15_ n16_
                                        clear hb hbox hg
                                        refine hK.out _ _ ⟨(blk_cell BK205.out 0).trans rfl, (blk_cell BK205.out 1).trans rfl, (blk_cell BK205.out 2).trans rfl, (blk_cell BK205.out 3).trans rfl, (blk_cell BK205.out 4).trans rfl, (blk_cell BK205.out 5).trans rfl⟩ (fun hHeld => ?_)
                                        clear hK K
                                        refine norm_ (a' := ?_) ?_ ?_
                                        rotate_left
                                        · show Act.put _ (some 15) _ = _
                                          simp only [Act.put, List.setIfInBounds_toArray, List.set_cons_zero, List.set_cons_succ, i64_w, i32_w]
                                          rfl
                                        exact norm_ (by first | (simp only [putAll, Act.put, List.setIfInBounds_toArray, List.set_cons_zero, List.set_cons_succ]; done) | (simp only [putAll, Act.put, List.setIfInBounds_toArray, List.set_cons_zero, List.set_cons_succ]; rfl)) (hJ12 (gb255) _ ⟨hHeld, (pR HO212), (pR HO218), (pR HO225), (pR HO231), (pK BK205), (pK BK220), (pK BK233), (pK BK255), GW255.out, GE255.out, NB205_255.out, NB255_205.out, NB220_255.out, NB255_220.out, NB233_255.out, NB255_233.out, (by repeat (first | (with_reducible first | exact HB.out | apply below_alloc | apply pw_below_drewN | apply below_drew1 | refine below_set ?_ GE205.out | refine below_set ?_ GE220.out | refine below_set ?_ GE233.out | refine below_set ?_ GE255.out) | exact HB.out))⟩)
                                    · skip
                                      rintro gb255 w47 ⟨hS_, h0_, h1_, h2_, h3_, h4_, h5_, h6_, h7_, h8_, h9_, h10_, h11_, h12_, h13_, h14_, h15_, h16_⟩
                                      have n0_ : Aside0 (Kd.R (Kd.int .u8) 5 w47 w.heap.size (fun k_ => some k_ ≠ (v217 : Value).ownBlock ∧ some k_ ≠ (.slice Ao43 t223.length co43 : Value).ownBlock ∧ some k_ ≠ (v230 : Value).ownBlock) (.slice Ao37 t210.length co37) t210) := ⟨h0_⟩
                                      have n1_ : Aside0 (Kd.R (Kd.int .u8) 5 w47 w.heap.size (fun k_ => some k_ ≠ (.slice Ao37 t210.length co37 : Value).ownBlock ∧ some k_ ≠ (.slice Ao43 t223.length co43 : Value).ownBlock ∧ some k_ ≠ (v230 : Value).ownBlock) v217 t216) := ⟨h1_⟩
                                      have n2_ : Aside0 (Kd.R (Kd.int .u8) 5 w47 w.heap.size (fun k_ => some k_ ≠ (.slice Ao37 t210.length co37 : Value).ownBlock ∧ some k_ ≠ (v217 : Value).ownBlock ∧ some k_ ≠ (v230 : Value).ownBlock) (.slice Ao43 t223.length co43) t223) := ⟨h2_⟩
                                      have n3_ : Aside0 (Kd.R (Kd.int .u8) 5 w47 w.heap.size (fun k_ => some k_ ≠ (.slice Ao37 t210.length co37 : Value).ownBlock ∧ some k_ ≠ (v217 : Value).ownBlock ∧ some k_ ≠ (.slice Ao43 t223.length co43 : Value).ownBlock) v230 t229) := ⟨h3_⟩
                                      have n4_ : Aside0 (w47.heap[gb205]? = some (.cells #[.int .i64 a0_0, .int .u8 a0_1, .slice A0_2 l0_2.length c0_2, .int .i64 a0_3, .int .i64 a0_4, .int .i64 a0_5] 25 (0, 0))) := ⟨h4_⟩
                                      have n5_ : Aside0 (w47.heap[gb220]? = some (.cells #[.int .i64 t208, .int .u8 t209, .slice Ao37 t210.length co37, .int .i64 t213, .int .i64 t214, .int .i64 t215] 25 (0, 0))) := ⟨h5_⟩
                                      have n6_ : Aside0 (w47.heap[gb233]? = some (.cells #[.int .i64 t221, .int .u8 t222, .slice Ao43 t223.length co43, .int .i64 t226, .int .i64 t227, .int .i64 t228] 25 (0, 0))) := ⟨h6_⟩
                                      have n7_ : Aside0 (w47.heap[gb255]? = some (.cells #[.int .i64 0, .int .u8 0, .slice none 0 0, .int .i64 0, .int .i64 0, .int .i64 0] 25 (0, 0))) := ⟨h7_⟩
                                      have n8_ : Aside0 (w.heap.size ≤ gb255) := ⟨h8_⟩
                                      have n9_ : Aside0 (w.heap.size ≤ gb255) := ⟨h9_⟩
                                      have n10_ : Aside0 (gb205 ≠ gb255) := ⟨h10_⟩
                                      have n11_ : Aside0 (gb255 ≠ gb205) := ⟨h11_⟩
                                      have n12_ : Aside0 (gb220 ≠ gb255) := ⟨h12_⟩
                                      have n13_ : Aside0 (gb255 ≠ gb220) := ⟨h13_⟩
                                      have n14_ : Aside0 (gb233 ≠ gb255) := ⟨h14_⟩
                                      have n15_ : Aside0 (gb255 ≠ gb233) := ⟨h15_⟩
                                      have n16_ : Aside0 (Below w.heap.size w w47) := ⟨h16_⟩
                                      clear HO212
                                      clear HO218
                                      clear HO225
                                      clear HO231
                                      clear BK205
                                      clear BK220
                                      clear BK233
                                      clear HB
                                      clear h0_ h1_ h2_ h3_ h4_ h5_ h6_ h7_ h8_ h9_ h10_ h11_ h12_ h13_ h14_ h15_ h16_
                                      have HO212 := n0_
                                      have HO218 := n1_
                                      have HO225 := n2_
                                      have HO231 := n3_
                                      have BK205 := n4_
                                      have BK220 := n5_
                                      have BK233 := n6_
                                      have BK255 := n7_
                                      have GW255 := n8_
                                      have GE255 := n9_
                                      have NB205_255 := n10_
                                      have NB255_205 := n11_
                                      have NB220_255 := n12_
                                      have NB255_220 := n13_
                                      have NB233_255 := n14_
                                      have NB255_233 := n15_
                                      have HB := n16_
                                      clear n0_ n1_ n2_ n3_ n4_ n5_ n6_ n7_ n8_ n9_ n10_ n11_ n12_ n13_ n14_ n15_ n16_
                                      have hHeld : w47.cell? ⟨gb205, 0, none⟩ = some (.int .i64 a0_0) ∧ w47.cell? ⟨gb205, 1, none⟩ = some (.int .u8 a0_1) ∧ w47.cell? ⟨gb205, 2, none⟩ = some (.slice A0_2 l0_2.length c0_2) ∧ w47.cell? ⟨gb205, 3, none⟩ = some (.int .i64 a0_3) ∧ w47.cell? ⟨gb205, 4, none⟩ = some (.int .i64 a0_4) ∧ w47.cell? ⟨gb205, 5, none⟩ = some (.int .i64 a0_5) := hS_
                                      refine norm_ (a' := ?_) ?_ ?_
                                      rotate_left
                                      · simp only [putAll, Act.put, List.setIfInBounds_toArray, List.set_cons_zero, List.set_cons_succ]
                                        rfl
                                      refine one_ (i := 1) (N := some 55) #[true, true, true, false, true, false, true, false, false, false, false, false, true, false, false, false] rfl rfl (one_of HT_.out (by kernel_rfl)) (by decide) (fun K hK => ?_)
                                      refine Kd.R_lit_step (Kd.int .u8) _ 5 ?hg (N := 55) ?hd (xs := ([] : List Int)) (inner := []) (ok := fun _ => True) (okp := fun _ => True) ?hr ?hp (fun _ hk => hk) trivial (Below.refl _ _) (Nat.le_refl _) (by simp) ?_; (case hd => rfl); (case hg => rfl); (case hr => first | (go_simp; done) | (go_simp; rfl)); (case hp => exact (Reps.none _ _))
                                      intro v235 w48 ho49 hb hg_ hnew_
                                      clear hg_ hnew_
                                      (first | rw [← Ny234.out] at ho49 | (simp only [Int.reduceToNat] at ho49; rw [← Ny234.out] at ho49))
                                      have n0_ := Aside0.mk (Kd.R_elder' (pR HO212) (Kd.R_base ho49) hb)
                                      have n1_ := Aside0.mk (Kd.R_elder' (pR HO218) (Kd.R_base ho49) hb)
                                      have n2_ := Aside0.mk (Kd.R_elder' (pR HO225) (Kd.R_base ho49) hb)
                                      have n3_ := Aside0.mk (Kd.R_elder' (pR HO231) (Kd.R_base ho49) hb)
                                      have n4_ := Aside0.mk (Kd.R_lower (Kd.R_new' (Kd.R_new' (Kd.R_new' (Kd.R_new' ho49 (Kd.R_lt (pR HO212))) (Kd.R_lt (pR HO218))) (Kd.R_lt (pR HO225))) (Kd.R_lt (pR HO231))) (below_size (by repeat (first | (with_reducible first | exact HB.out | apply below_alloc | apply pw_below_drewN | apply below_drew1 | refine below_set ?_ GE205.out | refine below_set ?_ GE220.out | refine below_set ?_ GE233.out | refine below_set ?_ GE255.out) | exact HB.out))))
                                      have n5_ := Aside0.mk (blk_below (g := gb205) (o := .cells #[.int .i64 a0_0, .int .u8 a0_1, .slice A0_2 l0_2.length c0_2, .int .i64 a0_3, .int .i64 a0_4, .int .i64 a0_5] 25 (0, 0)) (pK BK205) hb)
                                      have n6_ := Aside0.mk (blk_below (g := gb220) (o := .cells #[.int .i64 t208, .int .u8 t209, .slice Ao37 t210.length co37, .int .i64 t213, .int .i64 t214, .int .i64 t215] 25 (0, 0)) (pK BK220) hb)
                                      have n7_ := Aside0.mk (blk_below (g := gb233) (o := .cells #[.int .i64 t221, .int .u8 t222, .slice Ao43 t223.length co43, .int .i64 t226, .int .i64 t227, .int .i64 t228] 25 (0, 0)) (pK BK233) hb)
                                      have n8_ := Aside0.mk (blk_below (g := gb255) (o := .cells #[.int .i64 0, .int .u8 0, .slice none 0 0, .int .i64 0, .int .i64 0, .int .i64 0] 25 (0, 0)) (pK BK255) hb)
                                      have n9_ := Aside0.mk (below_step (by repeat (first | (with_reducible first | exact HB.out | apply below_alloc | apply pw_below_drewN | apply below_drew1 | refine below_set ?_ GE205.out | refine below_set ?_ GE220.out | refine below_set ?_ GE233.out | refine below_set ?_ GE255.out) | exact HB.out)) hb)
                                      clear HO212
                                      clear HO218
                                      clear HO225
                                      clear HO231
                                      clear BK205
                                      clear BK220
                                      clear BK233
                                      clear BK255
                                      clear HB
                                      have HO212 := n0_
                                      have HO218 := n1_
                                      have HO225 := n2_
                                      have HO231 := n3_
                                      have HO236 := n4_
                                      have BK205 := n5_
                                      have BK220 := n6_
                                      have BK233 := n7_
                                      have BK255 := n8_
                                      have HB := n9_
                                      clear n0_ n1_ n2_ n3_ n4_ n5_ n6_ n7_ n8_ n9_
                                      clear hb ho49
                                      refine hK.out _ _ ⟨(blk_cell BK205.out 0).trans rfl, (blk_cell BK205.out 1).trans rfl, (blk_cell BK205.out 2).trans rfl, (blk_cell BK205.out 3).trans rfl, (blk_cell BK205.out 4).trans rfl, (blk_cell BK205.out 5).trans rfl⟩ (fun hHeld => ?_)
                                      clear hK K
                                      refine norm_ (a' := ?_) ?_ ?_
                                      rotate_left
                                      · show Act.put _ (some 55) _ = _
                                        simp only [Act.put, List.setIfInBounds_toArray, List.set_cons_zero, List.set_cons_succ, i64_w, i32_w]
                                        rfl
                                      exact norm_ (by first | (simp only [putAll, Act.put, List.setIfInBounds_toArray, List.set_cons_zero, List.set_cons_succ]; done) | (simp only [putAll, Act.put, List.setIfInBounds_toArray, List.set_cons_zero, List.set_cons_succ]; rfl)) (hJ1_12 (v235, gb255) _ ⟨hHeld, (by (with_reducible repeat (first | apply Kd.R_alloc | apply Kd.R_drewN | apply Kd.R_drew)); exact Kd.R_mono HO212.out (fun _ hk => ⟨hk.1.1, ⟨hk.1.2.1, ⟨hk.1.2.2, hk.2⟩⟩⟩)), (by (with_reducible repeat (first | apply Kd.R_alloc | apply Kd.R_drewN | apply Kd.R_drew)); exact Kd.R_mono HO218.out (fun _ hk => ⟨hk.1.1, ⟨hk.1.2.1, ⟨hk.1.2.2, hk.2⟩⟩⟩)), (by (with_reducible repeat (first | apply Kd.R_alloc | apply Kd.R_drewN | apply Kd.R_drew)); exact Kd.R_mono HO225.out (fun _ hk => ⟨hk.1.1, ⟨hk.1.2.1, ⟨hk.1.2.2, hk.2⟩⟩⟩)), (by (with_reducible repeat (first | apply Kd.R_alloc | apply Kd.R_drewN | apply Kd.R_drew)); exact Kd.R_mono HO231.out (fun _ hk => ⟨hk.1.1, ⟨hk.1.2.1, ⟨hk.1.2.2, hk.2⟩⟩⟩)), (by (with_reducible repeat (first | apply Kd.R_alloc | apply Kd.R_drewN | apply Kd.R_drew)); exact Kd.R_mono HO236.out (fun _ hk => ⟨hk.1.1.1.2, ⟨hk.1.1.2, ⟨hk.1.2, hk.2⟩⟩⟩)), (pK BK205), (pK BK220), (pK BK233), (pK BK255), GW255.out, GE255.out, NB205_255.out, NB255_205.out, NB220_255.out, NB255_220.out, NB233_255.out, NB255_233.out, (by repeat (first | (with_reducible first | exact HB.out | apply below_alloc | apply pw_below_drewN | apply below_drew1 | refine below_set ?_ GE205.out | refine below_set ?_ GE220.out | refine below_set ?_ GE233.out | refine below_set ?_ GE255.out) | exact HB.out))⟩)
                                  · skip
                                    rintro v235 w48 ⟨hS_, h0_, h1_, h2_, h3_, h4_, h5_, h6_, h7_, h8_⟩
                                    have n0_ : Aside0 (Kd.R (Kd.int .u8) 5 w48 w.heap.size (fun k_ => some k_ ≠ (v217 : Value).ownBlock ∧ some k_ ≠ (.slice Ao43 t223.length co43 : Value).ownBlock ∧ some k_ ≠ (v230 : Value).ownBlock ∧ some k_ ≠ (v235 : Value).ownBlock) (.slice Ao37 t210.length co37) t210) := ⟨h0_⟩
                                    have n1_ : Aside0 (Kd.R (Kd.int .u8) 5 w48 w.heap.size (fun k_ => some k_ ≠ (.slice Ao37 t210.length co37 : Value).ownBlock ∧ some k_ ≠ (.slice Ao43 t223.length co43 : Value).ownBlock ∧ some k_ ≠ (v230 : Value).ownBlock ∧ some k_ ≠ (v235 : Value).ownBlock) v217 t216) := ⟨h1_⟩
                                    have n2_ : Aside0 (Kd.R (Kd.int .u8) 5 w48 w.heap.size (fun k_ => some k_ ≠ (.slice Ao37 t210.length co37 : Value).ownBlock ∧ some k_ ≠ (v217 : Value).ownBlock ∧ some k_ ≠ (v230 : Value).ownBlock ∧ some k_ ≠ (v235 : Value).ownBlock) (.slice Ao43 t223.length co43) t223) := ⟨h2_⟩
                                    have n3_ : Aside0 (Kd.R (Kd.int .u8) 5 w48 w.heap.size (fun k_ => some k_ ≠ (.slice Ao37 t210.length co37 : Value).ownBlock ∧ some k_ ≠ (v217 : Value).ownBlock ∧ some k_ ≠ (.slice Ao43 t223.length co43 : Value).ownBlock ∧ some k_ ≠ (v235 : Value).ownBlock) v230 t229) := ⟨h3_⟩
                                    have n4_ : Aside0 (Kd.R (Kd.int .u8) 5 w48 w.heap.size (fun k_ => some k_ ≠ (.slice Ao37 t210.length co37 : Value).ownBlock ∧ some k_ ≠ (v217 : Value).ownBlock ∧ some k_ ≠ (.slice Ao43 t223.length co43 : Value).ownBlock ∧ some k_ ≠ (v230 : Value).ownBlock) v235 y234) := ⟨h4_⟩
                                    have n5_ : Aside0 (w48.heap[gb205]? = some (.cells #[.int .i64 a0_0, .int .u8 a0_1, .slice A0_2 l0_2.length c0_2, .int .i64 a0_3, .int .i64 a0_4, .int .i64 a0_5] 25 (0, 0))) := ⟨h5_⟩
                                    have n6_ : Aside0 (w48.heap[gb220]? = some (.cells #[.int .i64 t208, .int .u8 t209, .slice Ao37 t210.length co37, .int .i64 t213, .int .i64 t214, .int .i64 t215] 25 (0, 0))) := ⟨h6_⟩
                                    have n7_ : Aside0 (w48.heap[gb233]? = some (.cells #[.int .i64 t221, .int .u8 t222, .slice Ao43 t223.length co43, .int .i64 t226, .int .i64 t227, .int .i64 t228] 25 (0, 0))) := ⟨h7_⟩
                                    have n8_ : Aside0 (Below w.heap.size w w48) := ⟨h8_⟩
                                    clear HO212
                                    clear HO218
                                    clear HO225
                                    clear HO231
                                    clear BK205
                                    clear BK220
                                    clear BK233
                                    clear HB
                                    clear h0_ h1_ h2_ h3_ h4_ h5_ h6_ h7_ h8_
                                    have HO212 := n0_
                                    have HO218 := n1_
                                    have HO225 := n2_
                                    have HO231 := n3_
                                    have HO236 := n4_
                                    have BK205 := n5_
                                    have BK220 := n6_
                                    have BK233 := n7_
                                    have HB := n8_
                                    clear n0_ n1_ n2_ n3_ n4_ n5_ n6_ n7_ n8_
                                    have hHeld : w48.cell? ⟨gb205, 0, none⟩ = some (.int .i64 a0_0) ∧ w48.cell? ⟨gb205, 1, none⟩ = some (.int .u8 a0_1) ∧ w48.cell? ⟨gb205, 2, none⟩ = some (.slice A0_2 l0_2.length c0_2) ∧ w48.cell? ⟨gb205, 3, none⟩ = some (.int .i64 a0_3) ∧ w48.cell? ⟨gb205, 4, none⟩ = some (.int .i64 a0_4) ∧ w48.cell? ⟨gb205, 5, none⟩ = some (.int .i64 a0_5) := hS_
                                    refine norm_ (a' := ?_) ?_ ?_
                                    rotate_left
                                    · simp only [putAll, Act.put, List.setIfInBounds_toArray, List.set_cons_zero, List.set_cons_succ]
                                      rfl
                                    refine two_ (i := 3) (j := 12) (Ni := some 57) (Nj := some 15) #[true, true, true, true, true, false, true, false, false, false, false, false, false, false, false, false] #[true, true, true, false, true, false, true, false, false, false, false, false, true, false, false, false] rfl rfl rfl rfl (two_of HT_.out (by kernel_rfl)) (by decide) (by decide) (fun K hK => ?_) (fun K hK => ?_)
                                    · skip
                                      refine Kd.R_append_rows_step (Kd.int .u8) (w0 := w) w.heap.size (by rfl) (.tmp 55) (.tmp 56) 22 5 (.int .u8 0) 1 rfl Tryd.underlying22 info5 rfl (by decide) (by omega) v235 y234 l1 _ _ _ (fun k_ => some k_ ≠ (.slice Ao37 t210.length co37 : Value).ownBlock ∧ some k_ ≠ (v217 : Value).ownBlock ∧ some k_ ≠ (.slice Ao43 t223.length co43 : Value).ownBlock ∧ some k_ ≠ (v230 : Value).ownBlock) (fun _ => False) rfl rfl ?aO ?aR (fun _ _ h => h) (fun _ h => h.elim) ?aF ?aB ?aS ?aL ?_
                                      (case aR => repeat (first | exact (Kd.C_below HR1.out HB.out) | (with_reducible refine Kd.C_alloc ?_ _) | (with_reducible refine Kd.C_drewN ?_ _) | (with_reducible refine Kd.C_drew ?_)))
                                      (case aB => exact (by repeat (first | (with_reducible first | exact HB.out | apply below_alloc | apply pw_below_drewN | apply below_drew1 | refine below_set ?_ GE205.out | refine below_set ?_ GE220.out | refine below_set ?_ GE233.out) | exact HB.out)))
                                      (case aF => exact (fun k_ hk => ⟨Kd.fresh' (Kd.R_lt (pR HO212)) k_ hk, Kd.fresh' (Kd.R_lt (pR HO218)) k_ hk, Kd.fresh' (Kd.R_lt (pR HO225)) k_ hk, Kd.fresh' (Kd.R_lt (pR HO231)) k_ hk⟩))
                                      (case aO => exact (pR HO236))
                                      (case aS => exact (below_size (by repeat (first | (with_reducible first | exact HB.out | apply below_alloc | apply pw_below_drewN | apply below_drew1 | refine below_set ?_ GE205.out | refine below_set ?_ GE220.out | refine below_set ?_ GE233.out) | exact HB.out))))
                                      (case aL => have := LMc23.out; omega)
                                      intro v238 w49 ho hb hg hat
                                      rw [← Ny237.out] at ho
                                      have n0_ := Aside0.mk (blk_grown (g := gb205) (o := .cells #[.int .i64 a0_0, .int .u8 a0_1, .slice A0_2 l0_2.length c0_2, .int .i64 a0_3, .int .i64 a0_4, .int .i64 a0_5] 25 (0, 0)) (pK BK205) hg (Kd.R_ne HO236.out BK205.out (by decide)))
                                      have n1_ := Aside0.mk (Kd.R_after (ok := (fun k_ => some k_ ≠ (v217 : Value).ownBlock ∧ some k_ ≠ (.slice Ao43 t223.length co43 : Value).ownBlock ∧ some k_ ≠ (v230 : Value).ownBlock)) (by (with_reducible repeat (first | apply Kd.R_alloc | apply Kd.R_drewN | apply Kd.R_drew)); exact Kd.R_mono HO212.out (fun _ hk => ⟨⟨hk.1, ⟨hk.2.1, hk.2.2.1⟩⟩, hk.2.2.2⟩)) hg hat)
                                      have n2_ := Aside0.mk (Kd.R_after (ok := (fun k_ => some k_ ≠ (.slice Ao37 t210.length co37 : Value).ownBlock ∧ some k_ ≠ (.slice Ao43 t223.length co43 : Value).ownBlock ∧ some k_ ≠ (v230 : Value).ownBlock)) (by (with_reducible repeat (first | apply Kd.R_alloc | apply Kd.R_drewN | apply Kd.R_drew)); exact Kd.R_mono HO218.out (fun _ hk => ⟨⟨hk.1, ⟨hk.2.1, hk.2.2.1⟩⟩, hk.2.2.2⟩)) hg hat)
                                      have n3_ := Aside0.mk (blk_grown (g := gb220) (o := .cells #[.int .i64 t208, .int .u8 t209, .slice Ao37 t210.length co37, .int .i64 t213, .int .i64 t214, .int .i64 t215] 25 (0, 0)) (pK BK220) hg (Kd.R_ne HO236.out BK220.out (by decide)))
                                      have n4_ := Aside0.mk (Kd.R_after (ok := (fun k_ => some k_ ≠ (.slice Ao37 t210.length co37 : Value).ownBlock ∧ some k_ ≠ (v217 : Value).ownBlock ∧ some k_ ≠ (v230 : Value).ownBlock)) (by (with_reducible repeat (first | apply Kd.R_alloc | apply Kd.R_drewN | apply Kd.R_drew)); exact Kd.R_mono HO225.out (fun _ hk => ⟨⟨hk.1, ⟨hk.2.1, hk.2.2.1⟩⟩, hk.2.2.2⟩)) hg hat)
                                      have n5_ := Aside0.mk (Kd.R_after (ok := (fun k_ => some k_ ≠ (.slice Ao37 t210.length co37 : Value).ownBlock ∧ some k_ ≠ (v217 : Value).ownBlock ∧ some k_ ≠ (.slice Ao43 t223.length co43 : Value).ownBlock)) (by (with_reducible repeat (first | apply Kd.R_alloc | apply Kd.R_drewN | apply Kd.R_drew)); exact Kd.R_mono HO231.out (fun _ hk => ⟨⟨hk.1, ⟨hk.2.1, hk.2.2.1⟩⟩, hk.2.2.2⟩)) hg hat)
                                      have n6_ := Aside0.mk (blk_grown (g := gb233) (o := .cells #[.int .i64 t221, .int .u8 t222, .slice Ao43 t223.length co43, .int .i64 t226, .int .i64 t227, .int .i64 t228] 25 (0, 0)) (pK BK233) hg (Kd.R_ne HO236.out BK233.out (by decide)))
                                      have n7_ := Aside0.mk (hb)
                                      have n8_ := Aside0.mk (ho)
                                      clear BK205
                                      clear HO212
                                      clear HO218
                                      clear BK220
                                      clear HO225
                                      clear HO231
                                      clear BK233
                                      clear HB
                                      clear HO236
                                      have BK205 := n0_
                                      have HO212 := n1_
                                      have HO218 := n2_
                                      have BK220 := n3_
                                      have HO225 := n4_
                                      have HO231 := n5_
                                      have BK233 := n6_
                                      have HB := n7_
                                      have HO239 := n8_
                                      clear n0_ n1_ n2_ n3_ n4_ n5_ n6_ n7_ n8_
                                      clear ho hb hg hat
                                      refine hK.out _ _ ⟨(blk_cell BK205.out 0).trans rfl, (blk_cell BK205.out 1).trans rfl, (blk_cell BK205.out 2).trans rfl, (blk_cell BK205.out 3).trans rfl, (blk_cell BK205.out 4).trans rfl, (blk_cell BK205.out 5).trans rfl⟩ (fun hHeld => ?_)
                                      clear hK K
                                      refine norm_ (a' := ?_) ?_ ?_
                                      rotate_left
                                      · show Act.put _ (some 57) _ = _
                                        simp only [Act.put, List.setIfInBounds_toArray, List.set_cons_zero, List.set_cons_succ, i64_w, i32_w]
                                        rfl
                                      exact norm_ (by first | (simp only [putAll, Act.put, List.setIfInBounds_toArray, List.set_cons_zero, List.set_cons_succ]; done) | (simp only [putAll, Act.put, List.setIfInBounds_toArray, List.set_cons_zero, List.set_cons_succ]; rfl)) (hJ1_3 (v235, v238) _ ⟨hHeld, (by (with_reducible repeat (first | apply Kd.R_alloc | apply Kd.R_drewN | apply Kd.R_drew)); exact Kd.R_mono HO212.out (fun _ hk => ⟨hk.1.1, ⟨hk.1.2.1, ⟨hk.1.2.2, hk.2⟩⟩⟩)), (by (with_reducible repeat (first | apply Kd.R_alloc | apply Kd.R_drewN | apply Kd.R_drew)); exact Kd.R_mono HO218.out (fun _ hk => ⟨hk.1.1, ⟨hk.1.2.1, ⟨hk.1.2.2, hk.2⟩⟩⟩)), (by (with_reducible repeat (first | apply Kd.R_alloc | apply Kd.R_drewN | apply Kd.R_drew)); exact Kd.R_mono HO225.out (fun _ hk => ⟨hk.1.1, ⟨hk.1.2.1, ⟨hk.1.2.2, hk.2⟩⟩⟩)), (by (with_reducible repeat (first | apply Kd.R_alloc | apply Kd.R_drewN | apply Kd.R_drew)); exact Kd.R_mono HO231.out (fun _ hk => ⟨hk.1.1, ⟨hk.1.2.1, ⟨hk.1.2.2, hk.2⟩⟩⟩)), (pR HO239), (pK BK205), (pK BK220), (pK BK233), (by repeat (first | (with_reducible first | exact HB.out | apply below_alloc | apply pw_below_drewN | apply below_drew1 | refine below_set ?_ GE205.out | refine below_set ?_ GE220.out | refine below_set ?_ GE233.out) | exact HB.out))⟩)
                                    · skip
                                      refine box_step ?hg (N := 15) ?hd (cs := #[.int .i64 0, .int .u8 0, .slice none 0 0, .int .i64 0, .int .i64 0, .int .i64 0]) (t := 25) ?hr ?_; (case hd => rfl); (case hg => rfl); (case hr => first | (go_simp; done) | (go_simp; rfl))
                                      intro gb255 hg w49 hbox hb
                                      have n0_ := Aside0.mk (Kd.R_below (pR HO212) hb)
                                      have n1_ := Aside0.mk (Kd.R_below (pR HO218) hb)
                                      have n2_ := Aside0.mk (Kd.R_below (pR HO225) hb)
                                      have n3_ := Aside0.mk (Kd.R_below (pR HO231) hb)
                                      have n4_ := Aside0.mk (Kd.R_below (pR HO236) hb)
                                      have n5_ := Aside0.mk (blk_below (g := gb205) (o := .cells #[.int .i64 a0_0, .int .u8 a0_1, .slice A0_2 l0_2.length c0_2, .int .i64 a0_3, .int .i64 a0_4, .int .i64 a0_5] 25 (0, 0)) (pK BK205) hb)
                                      have n6_ := Aside0.mk (blk_below (g := gb220) (o := .cells #[.int .i64 t208, .int .u8 t209, .slice Ao37 t210.length co37, .int .i64 t213, .int .i64 t214, .int .i64 t215] 25 (0, 0)) (pK BK220) hb)
                                      have n7_ := Aside0.mk (blk_below (g := gb233) (o := .cells #[.int .i64 t221, .int .u8 t222, .slice Ao43 t223.length co43, .int .i64 t226, .int .i64 t227, .int .i64 t228] 25 (0, 0)) (pK BK233) hb)
                                      have n8_ := Aside0.mk (below_step (by repeat (first | (with_reducible first | exact HB.out | apply below_alloc | apply pw_below_drewN | apply below_drew1 | refine below_set ?_ GE205.out | refine below_set ?_ GE220.out | refine below_set ?_ GE233.out) | exact HB.out)) hb)
                                      have n9_ := Aside0.mk (hbox)
                                      have n10_ := Aside0.mk ((by rw [hg]; exact (below_size (by repeat (first | (with_reducible first | exact HB.out | apply below_alloc | apply pw_below_drewN | apply below_drew1 | refine below_set ?_ GE205.out | refine below_set ?_ GE220.out | refine below_set ?_ GE233.out) | exact HB.out))) : w.heap.size ≤ gb255))
                                      have n11_ := Aside0.mk ((by rw [hg]; exact (below_size (by repeat (first | (with_reducible first | exact HB.out | apply below_alloc | apply pw_below_drewN | apply below_drew1 | refine below_set ?_ GE205.out | refine below_set ?_ GE220.out | refine below_set ?_ GE233.out) | exact HB.out))) : w.heap.size ≤ gb255))
                                      have n12_ := Aside0.mk ((by rw [hg]; exact Nat.ne_of_lt (blk_lt (g := gb205) (o := .cells #[.int .i64 a0_0, .int .u8 a0_1, .slice A0_2 l0_2.length c0_2, .int .i64 a0_3, .int .i64 a0_4, .int .i64 a0_5] 25 (0, 0)) (pK BK205)) : gb205 ≠ gb255))
                                      have n13_ := Aside0.mk ((by rw [hg]; exact Nat.ne_of_gt (blk_lt (g := gb205) (o := .cells #[.int .i64 a0_0, .int .u8 a0_1, .slice A0_2 l0_2.length c0_2, .int .i64 a0_3, .int .i64 a0_4, .int .i64 a0_5] 25 (0, 0)) (pK BK205)) : gb255 ≠ gb205))
                                      have n14_ := Aside0.mk ((by rw [hg]; exact Nat.ne_of_lt (blk_lt (g := gb220) (o := .cells #[.int .i64 t208, .int .u8 t209, .slice Ao37 t210.length co37, .int .i64 t213, .int .i64 t214, .int .i64 t215] 25 (0, 0)) (pK BK220)) : gb220 ≠ gb255))
                                      have n15_ := Aside0.mk ((by rw [hg]; exact Nat.ne_of_gt (blk_lt (g := gb220) (o := .cells #[.int .i64 t208, .int .u8 t209, .slice Ao37 t210.length co37, .int .i64 t213, .int .i64 t214, .int .i64 t215] 25 (0, 0)) (pK BK220)) : gb255 ≠ gb220))
                                      have n16_ := Aside0.mk ((by rw [hg]; exact Nat.ne_of_lt (blk_lt (g := gb233) (o := .cells #[.int .i64 t221, .int .u8 t222, .slice Ao43 t223.length co43, .int .i64 t226, .int .i64 t227, .int .i64 t228] 25 (0, 0)) (pK BK233)) : gb233 ≠ gb255))
                                      have n17_ := Aside0.mk ((by rw [hg]; exact Nat.ne_of_gt (blk_lt (g := gb233) (o := .cells #[.int .i64 t221, .int .u8 t222, .slice Ao43 t223.length co43, .int .i64 t226, .int .i64 t227, .int .i64 t228] 25 (0, 0)) (pK BK233)) : gb255 ≠ gb233))
                                      clear HO212
                                      clear HO218
                                      clear HO225
                                      clear HO231
                                      clear HO236
                                      clear BK205
                                      clear BK220
                                      clear BK233
                                      clear HB
                                      have HO212 := n0_
                                      have HO218 := n1_
                                      have HO225 := n2_
                                      have HO231 := n3_
                                      have HO236 := n4_
                                      have BK205 := n5_
                                      have BK220 := n6_
                                      have BK233 := n7_
                                      have HB := n8_
                                      have BK255 := n9_
                                      have GW255 := n10_
                                      have GE255 := n11_
                                      have NB205_255 := n12_
                                      have NB255_205 := n13_
                                      have NB220_255 := n14_
                                      have NB255_220 := n15_
                                      have NB233_255 := n16_
                                      have NB255_233 := n17_
                                      clear n0_ n1_ n2_ n3_ n4_ n5_ n6_ n7_ n8_ n9_ n10_ n11_ n12_ n13_ n14_ n15_ n16_ n17_
                                      clear hb hbox hg
                                      refine hK.out _ _ ⟨(blk_cell BK205.out 0).trans rfl, (blk_cell BK205.out 1).trans rfl, (blk_cell BK205.out 2).trans rfl, (blk_cell BK205.out 3).trans rfl, (blk_cell BK205.out 4).trans rfl, (blk_cell BK205.out 5).trans rfl⟩ (fun hHeld => ?_)
                                      clear hK K
                                      refine norm_ (a' := ?_) ?_ ?_
                                      rotate_left
                                      · show Act.put _ (some 15) _ = _
                                        simp only [Act.put, List.setIfInBounds_toArray, List.set_cons_zero, List.set_cons_succ, i64_w, i32_w]
                                        rfl
                                      exact norm_ (by first | (simp only [putAll, Act.put, List.setIfInBounds_toArray, List.set_cons_zero, List.set_cons_succ]; done) | (simp only [putAll, Act.put, List.setIfInBounds_toArray, List.set_cons_zero, List.set_cons_succ]; rfl)) (hJ1_12 (v235, gb255) _ ⟨hHeld, (pR HO212), (pR HO218), (pR HO225), (pR HO231), (pR HO236), (pK BK205), (pK BK220), (pK BK233), (pK BK255), GW255.out, GE255.out, NB205_255.out, NB255_205.out, NB220_255.out, NB255_220.out, NB233_255.out, NB255_233.out, (by repeat (first | (with_reducible first | exact HB.out | apply below_alloc | apply pw_below_drewN | apply below_drew1 | refine below_set ?_ GE205.out | refine below_set ?_ GE220.out | refine below_set ?_ GE233.out | refine below_set ?_ GE255.out) | exact HB.out))⟩)
                                · skip
                                  rintro ⟨v235, gb255⟩ w49 ⟨hS_, h0_, h1_, h2_, h3_, h4_, h5_, h6_, h7_, h8_, h9_, h10_, h11_, h12_, h13_, h14_, h15_, h16_, h17_⟩
                                  have n0_ : Aside0 (Kd.R (Kd.int .u8) 5 w49 w.heap.size (fun k_ => some k_ ≠ (v217 : Value).ownBlock ∧ some k_ ≠ (.slice Ao43 t223.length co43 : Value).ownBlock ∧ some k_ ≠ (v230 : Value).ownBlock ∧ some k_ ≠ (v235 : Value).ownBlock) (.slice Ao37 t210.length co37) t210) := ⟨h0_⟩
                                  have n1_ : Aside0 (Kd.R (Kd.int .u8) 5 w49 w.heap.size (fun k_ => some k_ ≠ (.slice Ao37 t210.length co37 : Value).ownBlock ∧ some k_ ≠ (.slice Ao43 t223.length co43 : Value).ownBlock ∧ some k_ ≠ (v230 : Value).ownBlock ∧ some k_ ≠ (v235 : Value).ownBlock) v217 t216) := ⟨h1_⟩
                                  have n2_ : Aside0 (Kd.R (Kd.int .u8) 5 w49 w.heap.size (fun k_ => some k_ ≠ (.slice Ao37 t210.length co37 : Value).ownBlock ∧ some k_ ≠ (v217 : Value).ownBlock ∧ some k_ ≠ (v230 : Value).ownBlock ∧ some k_ ≠ (v235 : Value).ownBlock) (.slice Ao43 t223.length co43) t223) := ⟨h2_⟩
                                  have n3_ : Aside0 (Kd.R (Kd.int .u8) 5 w49 w.heap.size (fun k_ => some k_ ≠ (.slice Ao37 t210.length co37 : Value).ownBlock ∧ some k_ ≠ (v217 : Value).ownBlock ∧ some k_ ≠ (.slice Ao43 t223.length co43 : Value).ownBlock ∧ some k_ ≠ (v235 : Value).ownBlock) v230 t229) := ⟨h3_⟩
                                  have n4_ : Aside0 (Kd.R (Kd.int .u8) 5 w49 w.heap.size (fun k_ => some k_ ≠ (.slice Ao37 t210.length co37 : Value).ownBlock ∧ some k_ ≠ (v217 : Value).ownBlock ∧ some k_ ≠ (.slice Ao43 t223.length co43 : Value).ownBlock ∧ some k_ ≠ (v230 : Value).ownBlock) v235 y234) := ⟨h4_⟩
                                  have n5_ : Aside0 (w49.heap[gb205]? = some (.cells #[.int .i64 a0_0, .int .u8 a0_1, .slice A0_2 l0_2.length c0_2, .int .i64 a0_3, .int .i64 a0_4, .int .i64 a0_5] 25 (0, 0))) := ⟨h5_⟩
                                  have n6_ : Aside0 (w49.heap[gb220]? = some (.cells #[.int .i64 t208, .int .u8 t209, .slice Ao37 t210.length co37, .int .i64 t213, .int .i64 t214, .int .i64 t215] 25 (0, 0))) := ⟨h6_⟩
                                  have n7_ : Aside0 (w49.heap[gb233]? = some (.cells #[.int .i64 t221, .int .u8 t222, .slice Ao43 t223.length co43, .int .i64 t226, .int .i64 t227, .int .i64 t228] 25 (0, 0))) := ⟨h7_⟩
                                  have n8_ : Aside0 (w49.heap[gb255]? = some (.cells #[.int .i64 0, .int .u8 0, .slice none 0 0, .int .i64 0, .int .i64 0, .int .i64 0] 25 (0, 0))) := ⟨h8_⟩
                                  have n9_ : Aside0 (w.heap.size ≤ gb255) := ⟨h9_⟩
                                  have n10_ : Aside0 (w.heap.size ≤ gb255) := ⟨h10_⟩
                                  have n11_ : Aside0 (gb205 ≠ gb255) := ⟨h11_⟩
                                  have n12_ : Aside0 (gb255 ≠ gb205) := ⟨h12_⟩
                                  have n13_ : Aside0 (gb220 ≠ gb255) := ⟨h13_⟩
                                  have n14_ : Aside0 (gb255 ≠ gb220) := ⟨h14_⟩
                                  have n15_ : Aside0 (gb233 ≠ gb255) := ⟨h15_⟩
                                  have n16_ : Aside0 (gb255 ≠ gb233) := ⟨h16_⟩
                                  have n17_ : Aside0 (Below w.heap.size w w49) := ⟨h17_⟩
                                  clear HO212
                                  clear HO218
                                  clear HO225
                                  clear HO231
                                  clear BK205
                                  clear BK220
                                  clear BK233
                                  clear HB
                                  clear h0_ h1_ h2_ h3_ h4_ h5_ h6_ h7_ h8_ h9_ h10_ h11_ h12_ h13_ h14_ h15_ h16_ h17_
                                  have HO212 := n0_
                                  have HO218 := n1_
                                  have HO225 := n2_
                                  have HO231 := n3_
                                  have HO236 := n4_
                                  have BK205 := n5_
                                  have BK220 := n6_
                                  have BK233 := n7_
                                  have BK255 := n8_
                                  have GW255 := n9_
                                  have GE255 := n10_
                                  have NB205_255 := n11_
                                  have NB255_205 := n12_
                                  have NB220_255 := n13_
                                  have NB255_220 := n14_
                                  have NB233_255 := n15_
                                  have NB255_233 := n16_
                                  have HB := n17_
                                  clear n0_ n1_ n2_ n3_ n4_ n5_ n6_ n7_ n8_ n9_ n10_ n11_ n12_ n13_ n14_ n15_ n16_ n17_
                                  have hHeld : w49.cell? ⟨gb205, 0, none⟩ = some (.int .i64 a0_0) ∧ w49.cell? ⟨gb205, 1, none⟩ = some (.int .u8 a0_1) ∧ w49.cell? ⟨gb205, 2, none⟩ = some (.slice A0_2 l0_2.length c0_2) ∧ w49.cell? ⟨gb205, 3, none⟩ = some (.int .i64 a0_3) ∧ w49.cell? ⟨gb205, 4, none⟩ = some (.int .i64 a0_4) ∧ w49.cell? ⟨gb205, 5, none⟩ = some (.int .i64 a0_5) := hS_
                                  refine norm_ (a' := ?_) ?_ ?_
                                  rotate_left
                                  · simp only [putAll, Act.put, List.setIfInBounds_toArray, List.set_cons_zero, List.set_cons_succ]
                                    rfl
                                  refine one_ (i := 3) (N := some 57) #[true, true, true, true, true, false, true, false, false, false, false, false, true, false, false, false] rfl rfl (one_of HT_.out (by kernel_rfl)) (by decide) (fun K hK => ?_)
                                  refine Kd.R_append_rows_step (Kd.int .u8) (w0 := w) w.heap.size (by rfl) (.tmp 55) (.tmp 56) 22 5 (.int .u8 0) 1 rfl Tryd.underlying22 info5 rfl (by decide) (by omega) v235 y234 l1 _ _ _ (fun k_ => some k_ ≠ (.slice Ao37 t210.length co37 : Value).ownBlock ∧ some k_ ≠ (v217 : Value).ownBlock ∧ some k_ ≠ (.slice Ao43 t223.length co43 : Value).ownBlock ∧ some k_ ≠ (v230 : Value).ownBlock) (fun _ => False) rfl rfl ?aO ?aR (fun _ _ h => h) (fun _ h => h.elim) ?aF ?aB ?aS ?aL ?_
                                  (case aR => repeat (first | exact (Kd.C_below HR1.out HB.out) | (with_reducible refine Kd.C_alloc ?_ _) | (with_reducible refine Kd.C_drewN ?_ _) | (with_reducible refine Kd.C_drew ?_)))
                                  (case aB => exact (by repeat (first | (with_reducible first | exact HB.out | apply below_alloc | apply pw_below_drewN | apply below_drew1 | refine below_set ?_ GE205.out | refine below_set ?_ GE220.out | refine below_set ?_ GE233.out | refine below_set ?_ GE255.out) | exact HB.out)))
                                  (case aF => exact (fun k_ hk => ⟨Kd.fresh' (Kd.R_lt (pR HO212)) k_ hk, Kd.fresh' (Kd.R_lt (pR HO218)) k_ hk, Kd.fresh' (Kd.R_lt (pR HO225)) k_ hk, Kd.fresh' (Kd.R_lt (pR HO231)) k_ hk⟩))
                                  (case aO => exact (pR HO236))
                                  (case aS => exact (below_size (by repeat (first | (with_reducible first | exact HB.out | apply below_alloc | apply pw_below_drewN | apply below_drew1 | refine below_set ?_ GE205.out | refine below_set ?_ GE220.out | refine below_set ?_ GE233.out | refine below_set ?_ GE255.out) | exact HB.out))))
                                  (case aL => have := LMc23.out; omega)
                                  intro v238 w50 ho hb hg hat
                                  rw [← Ny237.out] at ho
                                  have n0_ := Aside0.mk (blk_grown (g := gb205) (o := .cells #[.int .i64 a0_0, .int .u8 a0_1, .slice A0_2 l0_2.length c0_2, .int .i64 a0_3, .int .i64 a0_4, .int .i64 a0_5] 25 (0, 0)) (pK BK205) hg (Kd.R_ne HO236.out BK205.out (by decide)))
                                  have n1_ := Aside0.mk (Kd.R_after (ok := (fun k_ => some k_ ≠ (v217 : Value).ownBlock ∧ some k_ ≠ (.slice Ao43 t223.length co43 : Value).ownBlock ∧ some k_ ≠ (v230 : Value).ownBlock)) (by (with_reducible repeat (first | apply Kd.R_alloc | apply Kd.R_drewN | apply Kd.R_drew)); exact Kd.R_mono HO212.out (fun _ hk => ⟨⟨hk.1, ⟨hk.2.1, hk.2.2.1⟩⟩, hk.2.2.2⟩)) hg hat)
                                  have n2_ := Aside0.mk (Kd.R_after (ok := (fun k_ => some k_ ≠ (.slice Ao37 t210.length co37 : Value).ownBlock ∧ some k_ ≠ (.slice Ao43 t223.length co43 : Value).ownBlock ∧ some k_ ≠ (v230 : Value).ownBlock)) (by (with_reducible repeat (first | apply Kd.R_alloc | apply Kd.R_drewN | apply Kd.R_drew)); exact Kd.R_mono HO218.out (fun _ hk => ⟨⟨hk.1, ⟨hk.2.1, hk.2.2.1⟩⟩, hk.2.2.2⟩)) hg hat)
                                  have n3_ := Aside0.mk (blk_grown (g := gb220) (o := .cells #[.int .i64 t208, .int .u8 t209, .slice Ao37 t210.length co37, .int .i64 t213, .int .i64 t214, .int .i64 t215] 25 (0, 0)) (pK BK220) hg (Kd.R_ne HO236.out BK220.out (by decide)))
                                  have n4_ := Aside0.mk (Kd.R_after (ok := (fun k_ => some k_ ≠ (.slice Ao37 t210.length co37 : Value).ownBlock ∧ some k_ ≠ (v217 : Value).ownBlock ∧ some k_ ≠ (v230 : Value).ownBlock)) (by (with_reducible repeat (first | apply Kd.R_alloc | apply Kd.R_drewN | apply Kd.R_drew)); exact Kd.R_mono HO225.out (fun _ hk => ⟨⟨hk.1, ⟨hk.2.1, hk.2.2.1⟩⟩, hk.2.2.2⟩)) hg hat)
                                  have n5_ := Aside0.mk (Kd.R_after (ok := (fun k_ => some k_ ≠ (.slice Ao37 t210.length co37 : Value).ownBlock ∧ some k_ ≠ (v217 : Value).ownBlock ∧ some k_ ≠ (.slice Ao43 t223.length co43 : Value).ownBlock)) (by (with_reducible repeat (first | apply Kd.R_alloc | apply Kd.R_drewN | apply Kd.R_drew)); exact Kd.R_mono HO231.out (fun _ hk => ⟨⟨hk.1, ⟨hk.2.1, hk.2.2.1⟩⟩, hk.2.2.2⟩)) hg hat)
                                  have n6_ := Aside0.mk (blk_grown (g := gb233) (o := .cells #[.int .i64 t221, .int .u8 t222, .slice Ao43 t223.length co43, .int .i64 t226, .int .i64 t227, .int .i64 t228] 25 (0, 0)) (pK BK233) hg (Kd.R_ne HO236.out BK233.out (by decide)))
                                  have n7_ := Aside0.mk (blk_grown (g := gb255) (o := .cells #[.int .i64 0, .int .u8 0, .slice none 0 0, .int .i64 0, .int .i64 0, .int .i64 0] 25 (0, 0)) (pK BK255) hg (Kd.R_ne HO236.out BK255.out (by decide)))
                                  have n8_ := Aside0.mk (hb)
                                  have n9_ := Aside0.mk (ho)
                                  clear BK205
                                  clear HO212
                                  clear HO218
                                  clear BK220
                                  clear HO225
                                  clear HO231
                                  clear BK233
                                  clear BK255
                                  clear HB
                                  clear HO236
                                  have BK205 := n0_
                                  have HO212 := n1_
                                  have HO218 := n2_
                                  have BK220 := n3_
                                  have HO225 := n4_
                                  have HO231 := n5_
                                  have BK233 := n6_
                                  have BK255 := n7_
                                  have HB := n8_
                                  have HO239 := n9_
                                  clear n0_ n1_ n2_ n3_ n4_ n5_ n6_ n7_ n8_ n9_
                                  clear ho hb hg hat
                                  refine hK.out _ _ ⟨(blk_cell BK205.out 0).trans rfl, (blk_cell BK205.out 1).trans rfl, (blk_cell BK205.out 2).trans rfl, (blk_cell BK205.out 3).trans rfl, (blk_cell BK205.out 4).trans rfl, (blk_cell BK205.out 5).trans rfl⟩ (fun hHeld => ?_)
                                  clear hK K
                                  refine norm_ (a' := ?_) ?_ ?_
                                  rotate_left
                                  · show Act.put _ (some 57) _ = _
                                    simp only [Act.put, List.setIfInBounds_toArray, List.set_cons_zero, List.set_cons_succ, i64_w, i32_w]
                                    rfl
                                  exact norm_ (by first | (simp only [putAll, Act.put, List.setIfInBounds_toArray, List.set_cons_zero, List.set_cons_succ]; done) | (simp only [putAll, Act.put, List.setIfInBounds_toArray, List.set_cons_zero, List.set_cons_succ]; rfl)) (hJ1_3_12 (v235, v238, gb255) _ ⟨hHeld, (by (with_reducible repeat (first | apply Kd.R_alloc | apply Kd.R_drewN | apply Kd.R_drew)); exact Kd.R_mono HO212.out (fun _ hk => ⟨hk.1.1, ⟨hk.1.2.1, ⟨hk.1.2.2, hk.2⟩⟩⟩)), (by (with_reducible repeat (first | apply Kd.R_alloc | apply Kd.R_drewN | apply Kd.R_drew)); exact Kd.R_mono HO218.out (fun _ hk => ⟨hk.1.1, ⟨hk.1.2.1, ⟨hk.1.2.2, hk.2⟩⟩⟩)), (by (with_reducible repeat (first | apply Kd.R_alloc | apply Kd.R_drewN | apply Kd.R_drew)); exact Kd.R_mono HO225.out (fun _ hk => ⟨hk.1.1, ⟨hk.1.2.1, ⟨hk.1.2.2, hk.2⟩⟩⟩)), (by (with_reducible repeat (first | apply Kd.R_alloc | apply Kd.R_drewN | apply Kd.R_drew)); exact Kd.R_mono HO231.out (fun _ hk => ⟨hk.1.1, ⟨hk.1.2.1, ⟨hk.1.2.2, hk.2⟩⟩⟩)), (pR HO239), (pK BK205), (pK BK220), (pK BK233), (pK BK255), GW255.out, GE255.out, NB205_255.out, NB255_205.out, NB220_255.out, NB255_220.out, NB233_255.out, NB255_233.out, (by repeat (first | (with_reducible first | exact HB.out | apply below_alloc | apply pw_below_drewN | apply below_drew1 | refine below_set ?_ GE205.out | refine below_set ?_ GE220.out | refine below_set ?_ GE233.out | refine below_set ?_ GE255.out) | exact HB.out))⟩)
                              · skip
                                rintro ⟨v235, v238⟩ w49 ⟨hS_, h0_, h1_, h2_, h3_, h4_, h5_, h6_, h7_, h8_⟩
                                have n0_ : Aside0 (Kd.R (Kd.int .u8) 5 w49 w.heap.size (fun k_ => some k_ ≠ (v217 : Value).ownBlock ∧ some k_ ≠ (.slice Ao43 t223.length co43 : Value).ownBlock ∧ some k_ ≠ (v230 : Value).ownBlock ∧ some k_ ≠ (v238 : Value).ownBlock) (.slice Ao37 t210.length co37) t210) := ⟨h0_⟩
                                have n1_ : Aside0 (Kd.R (Kd.int .u8) 5 w49 w.heap.size (fun k_ => some k_ ≠ (.slice Ao37 t210.length co37 : Value).ownBlock ∧ some k_ ≠ (.slice Ao43 t223.length co43 : Value).ownBlock ∧ some k_ ≠ (v230 : Value).ownBlock ∧ some k_ ≠ (v238 : Value).ownBlock) v217 t216) := ⟨h1_⟩
                                have n2_ : Aside0 (Kd.R (Kd.int .u8) 5 w49 w.heap.size (fun k_ => some k_ ≠ (.slice Ao37 t210.length co37 : Value).ownBlock ∧ some k_ ≠ (v217 : Value).ownBlock ∧ some k_ ≠ (v230 : Value).ownBlock ∧ some k_ ≠ (v238 : Value).ownBlock) (.slice Ao43 t223.length co43) t223) := ⟨h2_⟩
                                have n3_ : Aside0 (Kd.R (Kd.int .u8) 5 w49 w.heap.size (fun k_ => some k_ ≠ (.slice Ao37 t210.length co37 : Value).ownBlock ∧ some k_ ≠ (v217 : Value).ownBlock ∧ some k_ ≠ (.slice Ao43 t223.length co43 : Value).ownBlock ∧ some k_ ≠ (v238 : Value).ownBlock) v230 t229) := ⟨h3_⟩
                                have n4_ : Aside0 (Kd.R (Kd.int .u8) 5 w49 w.heap.size (fun k_ => some k_ ≠ (.slice Ao37 t210.length co37 : Value).ownBlock ∧ some k_ ≠ (v217 : Value).ownBlock ∧ some k_ ≠ (.slice Ao43 t223.length co43 : Value).ownBlock ∧ some k_ ≠ (v230 : Value).ownBlock) v238 y237) := ⟨h4_⟩
                                have n5_ : Aside0 (w49.heap[gb205]? = some (.cells #[.int .i64 a0_0, .int .u8 a0_1, .slice A0_2 l0_2.length c0_2, .int .i64 a0_3, .int .i64 a0_4, .int .i64 a0_5] 25 (0, 0))) := ⟨h5_⟩
                                have n6_ : Aside0 (w49.heap[gb220]? = some (.cells #[.int .i64 t208, .int .u8 t209, .slice Ao37 t210.length co37, .int .i64 t213, .int .i64 t214, .int .i64 t215] 25 (0, 0))) := ⟨h6_⟩
                                have n7_ : Aside0 (w49.heap[gb233]? = some (.cells #[.int .i64 t221, .int .u8 t222, .slice Ao43 t223.length co43, .int .i64 t226, .int .i64 t227, .int .i64 t228] 25 (0, 0))) := ⟨h7_⟩
                                have n8_ : Aside0 (Below w.heap.size w w49) := ⟨h8_⟩
                                clear HO212
                                clear HO218
                                clear HO225
                                clear HO231
                                clear BK205
                                clear BK220
                                clear BK233
                                clear HB
                                clear h0_ h1_ h2_ h3_ h4_ h5_ h6_ h7_ h8_
                                have HO212 := n0_
                                have HO218 := n1_
                                have HO225 := n2_
                                have HO231 := n3_
                                have HO239 := n4_
                                have BK205 := n5_
                                have BK220 := n6_
                                have BK233 := n7_
                                have HB := n8_
                                clear n0_ n1_ n2_ n3_ n4_ n5_ n6_ n7_ n8_
                                have hHeld : w49.cell? ⟨gb205, 0, none⟩ = some (.int .i64 a0_0) ∧ w49.cell? ⟨gb205, 1, none⟩ = some (.int .u8 a0_1) ∧ w49.cell? ⟨gb205, 2, none⟩ = some (.slice A0_2 l0_2.length c0_2) ∧ w49.cell? ⟨gb205, 3, none⟩ = some (.int .i64 a0_3) ∧ w49.cell? ⟨gb205, 4, none⟩ = some (.int .i64 a0_4) ∧ w49.cell? ⟨gb205, 5, none⟩ = some (.int .i64 a0_5) := hS_
                                refine norm_ (a' := ?_) ?_ ?_
                                rotate_left
                                · simp only [putAll, Act.put, List.setIfInBounds_toArray, List.set_cons_zero, List.set_cons_succ]
                                  rfl
                                refine two_ (i := 5) (j := 12) (Ni := some 59) (Nj := some 15) #[true, true, true, true, true, true, true, false, false, false, false, false, false, false, false, false] #[true, true, true, true, true, false, true, false, false, false, false, false, true, false, false, false] rfl rfl rfl rfl (two_of HT_.out (by kernel_rfl)) (by decide) (by decide) (fun K hK => ?_) (fun K hK => ?_)
                                · skip
                                  refine Kd.R_append_rows_step (Kd.int .u8) (w0 := w) w.heap.size (by rfl) (.tmp 57) (.tmp 58) 22 5 (.int .u8 0) 1 rfl Tryd.underlying22 info5 rfl (by decide) (by omega) v238 y237 l2 _ _ _ (fun k_ => some k_ ≠ (.slice Ao37 t210.length co37 : Value).ownBlock ∧ some k_ ≠ (v217 : Value).ownBlock ∧ some k_ ≠ (.slice Ao43 t223.length co43 : Value).ownBlock ∧ some k_ ≠ (v230 : Value).ownBlock) (fun _ => False) rfl rfl ?aO ?aR (fun _ _ h => h) (fun _ h => h.elim) ?aF ?aB ?aS ?aL ?_
                                  (case aR => repeat (first | exact (Kd.C_below HR2.out HB.out) | (with_reducible refine Kd.C_alloc ?_ _) | (with_reducible refine Kd.C_drewN ?_ _) | (with_reducible refine Kd.C_drew ?_)))
                                  (case aB => exact (by repeat (first | (with_reducible first | exact HB.out | apply below_alloc | apply pw_below_drewN | apply below_drew1 | refine below_set ?_ GE205.out | refine below_set ?_ GE220.out | refine below_set ?_ GE233.out) | exact HB.out)))
                                  (case aF => exact (fun k_ hk => ⟨Kd.fresh' (Kd.R_lt (pR HO212)) k_ hk, Kd.fresh' (Kd.R_lt (pR HO218)) k_ hk, Kd.fresh' (Kd.R_lt (pR HO225)) k_ hk, Kd.fresh' (Kd.R_lt (pR HO231)) k_ hk⟩))
                                  (case aO => exact (pR HO239))
                                  (case aS => exact (below_size (by repeat (first | (with_reducible first | exact HB.out | apply below_alloc | apply pw_below_drewN | apply below_drew1 | refine below_set ?_ GE205.out | refine below_set ?_ GE220.out | refine below_set ?_ GE233.out) | exact HB.out))))
                                  (case aL => have := LMc24.out; omega)
                                  intro v241 w50 ho hb hg hat
                                  rw [← Ny240.out] at ho
                                  have n0_ := Aside0.mk (blk_grown (g := gb205) (o := .cells #[.int .i64 a0_0, .int .u8 a0_1, .slice A0_2 l0_2.length c0_2, .int .i64 a0_3, .int .i64 a0_4, .int .i64 a0_5] 25 (0, 0)) (pK BK205) hg (Kd.R_ne HO239.out BK205.out (by decide)))
                                  have n1_ := Aside0.mk (Kd.R_after (ok := (fun k_ => some k_ ≠ (v217 : Value).ownBlock ∧ some k_ ≠ (.slice Ao43 t223.length co43 : Value).ownBlock ∧ some k_ ≠ (v230 : Value).ownBlock)) (by (with_reducible repeat (first | apply Kd.R_alloc | apply Kd.R_drewN | apply Kd.R_drew)); exact Kd.R_mono HO212.out (fun _ hk => ⟨⟨hk.1, ⟨hk.2.1, hk.2.2.1⟩⟩, hk.2.2.2⟩)) hg hat)
                                  have n2_ := Aside0.mk (Kd.R_after (ok := (fun k_ => some k_ ≠ (.slice Ao37 t210.length co37 : Value).ownBlock ∧ some k_ ≠ (.slice Ao43 t223.length co43 : Value).ownBlock ∧ some k_ ≠ (v230 : Value).ownBlock)) (by (with_reducible repeat (first | apply Kd.R_alloc | apply Kd.R_drewN | apply Kd.R_drew)); exact Kd.R_mono HO218.out (fun _ hk => ⟨⟨hk.1, ⟨hk.2.1, hk.2.2.1⟩⟩, hk.2.2.2⟩)) hg hat)
                                  have n3_ := Aside0.mk (blk_grown (g := gb220) (o := .cells #[.int .i64 t208, .int .u8 t209, .slice Ao37 t210.length co37, .int .i64 t213, .int .i64 t214, .int .i64 t215] 25 (0, 0)) (pK BK220) hg (Kd.R_ne HO239.out BK220.out (by decide)))
                                  have n4_ := Aside0.mk (Kd.R_after (ok := (fun k_ => some k_ ≠ (.slice Ao37 t210.length co37 : Value).ownBlock ∧ some k_ ≠ (v217 : Value).ownBlock ∧ some k_ ≠ (v230 : Value).ownBlock)) (by (with_reducible repeat (first | apply Kd.R_alloc | apply Kd.R_drewN | apply Kd.R_drew)); exact Kd.R_mono HO225.out (fun _ hk => ⟨⟨hk.1, ⟨hk.2.1, hk.2.2.1⟩⟩, hk.2.2.2⟩)) hg hat)
                                  have n5_ := Aside0.mk (Kd.R_after (ok := (fun k_ => some k_ ≠ (.slice Ao37 t210.length co37 : Value).ownBlock ∧ some k_ ≠ (v217 : Value).ownBlock ∧ some k_ ≠ (.slice Ao43 t223.length co43 : Value).ownBlock)) (by (with_reducible repeat (first | apply Kd.R_alloc | apply Kd.R_drewN | apply Kd.R_drew)); exact Kd.R_mono HO231.out (fun _ hk => ⟨⟨hk.1, ⟨hk.2.1, hk.2.2.1⟩⟩, hk.2.2.2⟩)) hg hat)
                                  have n6_ := Aside0.mk (blk_grown (g := gb233) (o := .cells #[.int .i64 t221, .int .u8 t222, .slice Ao43 t223.length co43, .int .i64 t226, .int .i64 t227, .int .i64 t228] 25 (0, 0)) (pK BK233) hg (Kd.R_ne HO239.out BK233.out (by decide)))
                                  have n7_ := Aside0.mk (hb)
                                  have n8_ := Aside0.mk (ho)
                                  clear BK205
                                  clear HO212
                                  clear HO218
                                  clear BK220
                                  clear HO225
                                  clear HO231
                                  clear BK233
                                  clear HB
                                  clear HO239
                                  have BK205 := n0_
                                  have HO212 := n1_
                                  have HO218 := n2_
                                  have BK220 := n3_
                                  have HO225 := n4_
                                  have HO231 := n5_
                                  have BK233 := n6_
                                  have HB := n7_
                                  have HO242 := n8_
                                  clear n0_ n1_ n2_ n3_ n4_ n5_ n6_ n7_ n8_
                                  clear ho hb hg hat
                                  refine hK.out _ _ ⟨(blk_cell BK205.out 0).trans rfl, (blk_cell BK205.out 1).trans rfl, (blk_cell BK205.out 2).trans rfl, (blk_cell BK205.out 3).trans rfl, (blk_cell BK205.out 4).trans rfl, (blk_cell BK205.out 5).trans rfl⟩ (fun hHeld => ?_)
                                  clear hK K
                                  refine norm_ (a' := ?_) ?_ ?_
                                  rotate_left
                                  · show Act.put _ (some 59) _ = _
                                    simp only [Act.put, List.setIfInBounds_toArray, List.set_cons_zero, List.set_cons_succ, i64_w, i32_w]
                                    rfl
                                  exact norm_ (by first | (simp only [putAll, Act.put, List.setIfInBounds_toArray, List.set_cons_zero, List.set_cons_succ]; done) | (simp only [putAll, Act.put, List.setIfInBounds_toArray, List.set_cons_zero, List.set_cons_succ]; rfl)) (hJ1_3_5 (v235, v238, v241) _ ⟨hHeld, (by (with_reducible repeat (first | apply Kd.R_alloc | apply Kd.R_drewN | apply Kd.R_drew)); exact Kd.R_mono HO212.out (fun _ hk => ⟨hk.1.1, ⟨hk.1.2.1, ⟨hk.1.2.2, hk.2⟩⟩⟩)), (by (with_reducible repeat (first | apply Kd.R_alloc | apply Kd.R_drewN | apply Kd.R_drew)); exact Kd.R_mono HO218.out (fun _ hk => ⟨hk.1.1, ⟨hk.1.2.1, ⟨hk.1.2.2, hk.2⟩⟩⟩)), (by (with_reducible repeat (first | apply Kd.R_alloc | apply Kd.R_drewN | apply Kd.R_drew)); exact Kd.R_mono HO225.out (fun _ hk => ⟨hk.1.1, ⟨hk.1.2.1, ⟨hk.1.2.2, hk.2⟩⟩⟩)), (by (with_reducible repeat (first | apply Kd.R_alloc | apply Kd.R_drewN | apply Kd.R_drew)); exact Kd.R_mono HO231.out (fun _ hk => ⟨hk.1.1, ⟨hk.1.2.1, ⟨hk.1.2.2, hk.2⟩⟩⟩)), (pR HO242), (pK BK205), (pK BK220), (pK BK233), (by repeat (first | (with_reducible first | exact HB.out | apply below_alloc | apply pw_below_drewN | apply below_drew1 | refine below_set ?_ GE205.out | refine below_set ?_ GE220.out | refine below_set ?_ GE233.out) | exact HB.out))⟩)
                                · skip
                                  refine box_step ?hg (N := 15) ?hd (cs := #[.int .i64 0, .int .u8 0, .slice none 0 0, .int .i64 0, .int .i64 0, .int .i64 0]) (t := 25) ?hr ?_; (case hd => rfl); (case hg => rfl); (case hr => first | (go_simp; done) | (go_simp; rfl))
                                  intro gb255 hg w50 hbox hb
                                  have n0_ := Aside0.mk (Kd.R_below (pR HO212) hb)
                                  have n1_ := Aside0.mk (Kd.R_below (pR HO218) hb)
                                  have n2_ := Aside0.mk (Kd.R_below (pR HO225) hb)
                                  have n3_ := Aside0.mk (Kd.R_below (pR HO231) hb)
                                  have n4_ := Aside0.mk (Kd.R_below (pR HO239) hb)
                                  have n5_ := Aside0.mk (blk_below (g := gb205) (o := .cells #[.int .i64 a0_0, .int .u8 a0_1, .slice A0_2 l0_2.length c0_2, .int .i64 a0_3, .int .i64 a0_4, .int .i64 a0_5] 25 (0, 0)) (pK BK205) hb)
                                  have n6_ := Aside0.mk (blk_below (g := gb220) (o := .cells #[.int .i64 t208, .int .u8 t209, .slice Ao37 t210.length co37, .int .i64 t213, .int .i64 t214, .int .i64 t215] 25 (0, 0)) (pK BK220) hb)
                                  have n7_ := Aside0.mk (blk_below (g := gb233) (o := .cells #[.int .i64 t221, .int .u8 t222, .slice Ao43 t223.length co43, .int .i64 t226, .int .i64 t227, .int .i64 t228] 25 (0, 0)) (pK BK233) hb)
                                  have n8_ := Aside0.mk (below_step (by repeat (first | (with_reducible first | exact HB.out | apply below_alloc | apply pw_below_drewN | apply below_drew1 | refine below_set ?_ GE205.out | refine below_set ?_ GE220.out | refine below_set ?_ GE233.out) | exact HB.out)) hb)
                                  have n9_ := Aside0.mk (hbox)
                                  have n10_ := Aside0.mk ((by rw [hg]; exact (below_size (by repeat (first | (with_reducible first | exact HB.out | apply below_alloc | apply pw_below_drewN | apply below_drew1 | refine below_set ?_ GE205.out | refine below_set ?_ GE220.out | refine below_set ?_ GE233.out) | exact HB.out))) : w.heap.size ≤ gb255))
                                  have n11_ := Aside0.mk ((by rw [hg]; exact (below_size (by repeat (first | (with_reducible first | exact HB.out | apply below_alloc | apply pw_below_drewN | apply below_drew1 | refine below_set ?_ GE205.out | refine below_set ?_ GE220.out | refine below_set ?_ GE233.out) | exact HB.out))) : w.heap.size ≤ gb255))
                                  have n12_ := Aside0.mk ((by rw [hg]; exact Nat.ne_of_lt (blk_lt (g := gb205) (o := .cells #[.int .i64 a0_0, .int .u8 a0_1, .slice A0_2 l0_2.length c0_2, .int .i64 a0_3, .int .i64 a0_4, .int .i64 a0_5] 25 (0, 0)) (pK BK205)) : gb205 ≠ gb255))
                                  have n13_ := Aside0.mk ((by rw [hg]; exact Nat.ne_of_gt (blk_lt (g := gb205) (o := .cells #[.int .i64 a0_0, .int .u8 a0_1, .slice A0_2 l0_2.length c0_2, .int .i64 a0_3, .int .i64 a0_4, .int .i64 a0_5] 25 (0, 0)) (pK BK205)) : gb255 ≠ gb205))
                                  have n14_ := Aside0.mk ((by rw [hg]; exact Nat.ne_of_lt (blk_lt (g := gb220) (o := .cells #[.int .i64 t208, .int .u8 t209, .slice Ao37 t210.length co37, .int .i64 t213, .int .i64 t214, .int .i64 t215] 25 (0, 0)) (pK BK220)) : gb220 ≠ gb255))
                                  have n15_ := Aside0.mk ((by rw [hg]; exact Nat.ne_of_gt (blk_lt (g := gb220) (o := .cells #[.int .i64 t208, .int .u8 t209, .slice Ao37 t210.length co37, .int .i64 t213, .int .i64 t214, .int .i64 t215] 25 (0, 0)) (pK BK220)) : gb255 ≠ gb220))
                                  have n16_ := Aside0.mk ((by rw [hg]; exact Nat.ne_of_lt (blk_lt (g := gb233) (o := .cells #[.int .i64 t221, .int .u8 t222, .slice Ao43 t223.length co43, .int .i64 t226, .int .i64 t227, .int .i64 t228] 25 (0, 0)) (pK BK233)) : gb233 ≠ gb255))
                                  have n17_ := Aside0.mk ((by rw [hg]; exact Nat.ne_of_gt (blk_lt (g := gb233) (o := .cells #[.int .i64 t221, .int .u8 t222, .slice Ao43 t223.length co43, .int .i64 t226, .int .i64 t227, .int .i64 t228] 25 (0, 0)) (pK BK233)) : gb255 ≠ gb233))
                                  clear HO212
                                  clear HO218
                                  clear HO225
                                  clear HO231
                                  clear HO239
                                  clear BK205
                                  clear BK220
                                  clear BK233
                                  clear HB
                                  have HO212 := n0_
                                  have HO218 := n1_
                                  have HO225 := n2_
                                  have HO231 := n3_
                                  have HO239 := n4_
                                  have BK205 := n5_
                                  have BK220 := n6_
                                  have BK233 := n7_
                                  have HB := n8_
                                  have BK255 := n9_
                                  have GW255 := n10_
                                  have GE255 := n11_
                                  have NB205_255 := n12_
                                  have NB255_205 := n13_
                                  have NB220_255 := n14_
                                  have NB255_220 := n15_
                                  have NB233_255 := n16_
                                  have NB255_233 := n17_
                                  clear n0_ n1_ n2_ n3_ n4_ n5_ n6_ n7_ n8_ n9_ n10_ n11_ n12_ n13_ n14_ n15_ n16_ n17_
                                  clear hb hbox hg
                                  refine hK.out _ _ ⟨(blk_cell BK205.out 0).trans rfl, (blk_cell BK205.out 1).trans rfl, (blk_cell BK205.out 2).trans rfl, (blk_cell BK205.out 3).trans rfl, (blk_cell BK205.out 4).trans rfl, (blk_cell BK205.out 5).trans rfl⟩ (fun hHeld => ?_)
                                  clear hK K
                                  refine norm_ (a' := ?_) ?_ ?_
                                  rotate_left
                                  · show Act.put _ (some 15) _ = _
                                    simp only [Act.put, List.setIfInBounds_toArray, List.set_cons_zero, List.set_cons_succ, i64_w, i32_w]
                                    rfl
                                  exact norm_ (by first | (simp only [putAll, Act.put, List.setIfInBounds_toArray, List.set_cons_zero, List.set_cons_succ]; done) | (simp only [putAll, Act.put, List.setIfInBounds_toArray, List.set_cons_zero, List.set_cons_succ]; rfl)) (hJ1_3_12 (v235, v238, gb255) _ ⟨hHeld, (pR HO212), (pR HO218), (pR HO225), (pR HO231), (pR HO239), (pK BK205), (pK BK220), (pK BK233), (pK BK255), GW255.out, GE255.out, NB205_255.out, NB255_205.out, NB220_255.out, NB255_220.out, NB233_255.out, NB255_233.out, (by repeat (first | (with_reducible first | exact HB.out | apply below_alloc | apply pw_below_drewN | apply below_drew1 | refine below_set ?_ GE205.out | refine below_set ?_ GE220.out | refine below_set ?_ GE233.out | refine below_set ?_ GE255.out) | exact HB.out))⟩)
                            · skip
                              rintro ⟨v235, v238, gb255⟩ w50 ⟨hS_, h0_, h1_, h2_, h3_, h4_, h5_, h6_, h7_, h8_, h9_, h10_, h11_, h12_, h13_, h14_, h15_, h16_, h17_⟩
                              have n0_ : Aside0 (Kd.R (Kd.int .u8) 5 w50 w.heap.size (fun k_ => some k_ ≠ (v217 : Value).ownBlock ∧ some k_ ≠ (.slice Ao43 t223.length co43 : Value).ownBlock ∧ some k_ ≠ (v230 : Value).ownBlock ∧ some k_ ≠ (v238 : Value).ownBlock) (.slice Ao37 t210.length co37) t210) := ⟨h0_⟩
                              have n1_ : Aside0 (Kd.R (Kd.int .u8) 5 w50 w.heap.size (fun k_ => some k_ ≠ (.slice Ao37 t210.length co37 : Value).ownBlock ∧ some k_ ≠ (.slice Ao43 t223.length co43 : Value).ownBlock ∧ some k_ ≠ (v230 : Value).ownBlock ∧ some k_ ≠ (v238 : Value).ownBlock) v217 t216) := ⟨h1_⟩
                              have n2_ : Aside0 (Kd.R (Kd.int .u8) 5 w50 w.heap.size (fun k_ => some k_ ≠ (.slice Ao37 t210.length co37 : Value).ownBlock ∧ some k_ ≠ (v217 : Value).ownBlock ∧ some k_ ≠ (v230 : Value).ownBlock ∧ some k_ ≠ (v238 : Value).ownBlock) (.slice Ao43 t223.length co43) t223) := ⟨h2_⟩
                              have n3_ : Aside0 (Kd.R (Kd.int .u8) 5 w50 w.heap.size (fun k_ => some k_ ≠ (.slice Ao37 t210.length co37 : Value).ownBlock ∧ some k_ ≠ (v217 : Value).ownBlock ∧ some k_ ≠ (.slice Ao43 t223.length co43 : Value).ownBlock ∧ some k_ ≠ (v238 : Value).ownBlock) v230 t229) := ⟨h3_⟩
                              have n4_ : Aside0 (Kd.R (Kd.int .u8) 5 w50 w.heap.size (fun k_ => some k_ ≠ (.slice Ao37 t210.length co37 : Value).ownBlock ∧ some k_ ≠ (v217 : Value).ownBlock ∧ some k_ ≠ (.slice Ao43 t223.length co43 : Value).ownBlock ∧ some k_ ≠ (v230 : Value).ownBlock) v238 y237) := ⟨h4_⟩
                              have n5_ : Aside0 (w50.heap[gb205]? = some (.cells #[.int .i64 a0_0, .int .u8 a0_1, .slice A0_2 l0_2.length c0_2, .int .i64 a0_3, .int .i64 a0_4, .int .i64 a0_5] 25 (0, 0))) := ⟨h5_⟩
                              have n6_ : Aside0 (w50.heap[gb220]? = some (.cells #[.int .i64 t208, .int .u8 t209, .slice Ao37 t210.length co37, .int .i64 t213, .int .i64 t214, .int .i64 t215] 25 (0, 0))) := ⟨h6_⟩
                              have n7_ : Aside0 (w50.heap[gb233]? = some (.cells #[.int .i64 t221, .int .u8 t222, .slice Ao43 t223.length co43, .int .i64 t226, .int .i64 t227, .int .i64 t228] 25 (0, 0))) := ⟨h7_⟩
                              have n8_ : Aside0 (w50.heap[gb255]? = some (.cells #[.int .i64 0, .int .u8 0, .slice none 0 0, .int .i64 0, .int .i64 0, .int .i64 0] 25 (0, 0))) := ⟨h8_⟩
                              have n9_ : Aside0 (w.heap.size ≤ gb255) := ⟨h9_⟩
                              have n10_ : Aside0 (w.heap.size ≤ gb255) := ⟨h10_⟩
                              have n11_ : Aside0 (gb205 ≠ gb255) := ⟨h11_⟩
                              have n12_ : Aside0 (gb255 ≠ gb205) := ⟨h12_⟩
                              have n13_ : Aside0 (gb220 ≠ gb255) := ⟨h13_⟩
                              have n14_ : Aside0 (gb255 ≠ gb220) := ⟨h14_⟩
                              have n15_ : Aside0 (gb233 ≠ gb255) := ⟨h15_⟩
                              have n16_ : Aside0 (gb255 ≠ gb233) := ⟨h16_⟩
                              have n17_ : Aside0 (Below w.heap.size w w50) := ⟨h17_⟩
                              clear HO212
                              clear HO218
                              clear HO225
                              clear HO231
                              clear BK205
                              clear BK220
                              clear BK233
                              clear HB
                              clear h0_ h1_ h2_ h3_ h4_ h5_ h6_ h7_ h8_ h9_ h10_ h11_ h12_ h13_ h14_ h15_ h16_ h17_
                              have HO212 := n0_
                              have HO218 := n1_
                              have HO225 := n2_
                              have HO231 := n3_
                              have HO239 := n4_
                              have BK205 := n5_
                              have BK220 := n6_
                              have BK233 := n7_
                              have BK255 := n8_
                              have GW255 := n9_
                              have GE255 := n10_
                              have NB205_255 := n11_
                              have NB255_205 := n12_
                              have NB220_255 := n13_
                              have NB255_220 := n14_
                              have NB233_255 := n15_
                              have NB255_233 := n16_
                              have HB := n17_
                              clear n0_ n1_ n2_ n3_ n4_ n5_ n6_ n7_ n8_ n9_ n10_ n11_ n12_ n13_ n14_ n15_ n16_ n17_
                              have hHeld : w50.cell? ⟨gb205, 0, none⟩ = some (.int .i64 a0_0) ∧ w50.cell? ⟨gb205, 1, none⟩ = some (.int .u8 a0_1) ∧ w50.cell? ⟨gb205, 2, none⟩ = some (.slice A0_2 l0_2.length c0_2) ∧ w50.cell? ⟨gb205, 3, none⟩ = some (.int .i64 a0_3) ∧ w50.cell? ⟨gb205, 4, none⟩ = some (.int .i64 a0_4) ∧ w50.cell? ⟨gb205, 5, none⟩ = some (.int .i64 a0_5) := hS_
                              refine norm_ (a' := ?_) ?_ ?_
                              rotate_left
                              · simp only [putAll, Act.put, List.setIfInBounds_toArray, List.set_cons_zero, List.set_cons_succ]
                                rfl
                              refine one_ (i := 5) (N := some 59) #[true, true, true, true, true, true, true, false, false, false, false, false, true, false, false, false] rfl rfl (one_of HT_.out (by kernel_rfl)) (by decide) (fun K hK => ?_)
                              refine Kd.R_append_rows_step (Kd.int .u8) (w0 := w) w.heap.size (by rfl) (.tmp 57) (.tmp 58) 22 5 (.int .u8 0) 1 rfl Tryd.underlying22 info5 rfl (by decide) (by omega) v238 y237 l2 _ _ _ (fun k_ => some k_ ≠ (.slice Ao37 t210.length co37 : Value).ownBlock ∧ some k_ ≠ (v217 : Value).ownBlock ∧ some k_ ≠ (.slice Ao43 t223.length co43 : Value).ownBlock ∧ some k_ ≠ (v230 : Value).ownBlock) (fun _ => False) rfl rfl ?aO ?aR (fun _ _ h => h) (fun _ h => h.elim) ?aF ?aB ?aS ?aL ?_
                              (case aR => repeat (first | exact (Kd.C_below HR2.out HB.out) | (with_reducible refine Kd.C_alloc ?_ _) | (with_reducible refine Kd.C_drewN ?_ _) | (with_reducible refine Kd.C_drew ?_)))
                              (case aB => exact (by repeat (first | (with_reducible first | exact HB.out | apply below_alloc | apply pw_below_drewN | apply below_drew1 | refine below_set ?_ GE205.out | refine below_set ?_ GE220.out | refine below_set ?_ GE233.out | refine below_set ?_ GE255.out) | exact HB.out)))
                              (case aF => exact (fun k_ hk => ⟨Kd.fresh' (Kd.R_lt (pR HO212)) k_ hk, Kd.fresh' (Kd.R_lt (pR HO218)) k_ hk, Kd.fresh' (Kd.R_lt (pR HO225)) k_ hk, Kd.fresh' (Kd.R_lt (pR HO231)) k_ hk⟩))
                              (case aO => exact (pR HO239))
                              (case aS => exact (below_size (by repeat (first | (with_reducible first | exact HB.out | apply below_alloc | apply pw_below_drewN | apply below_drew1 | refine below_set ?_ GE205.out | refine below_set ?_ GE220.out | refine below_set ?_ GE233.out | refine below_set ?_ GE255.out) | exact HB.out))))
                              (case aL => have := LMc24.out; omega)
                              intro v241 w51 ho hb hg hat
                              rw [← Ny240.out] at ho
                              have n0_ := Aside0.mk (blk_grown (g := gb205) (o := .cells #[.int .i64 a0_0, .int .u8 a0_1, .slice A0_2 l0_2.length c0_2, .int .i64 a0_3, .int .i64 a0_4, .int .i64 a0_5] 25 (0, 0)) (pK BK205) hg (Kd.R_ne HO239.out BK205.out (by decide)))
                              have n1_ := Aside0.mk (Kd.R_after (ok := (fun k_ => some k_ ≠ (v217 : Value).ownBlock ∧ some k_ ≠ (.slice Ao43 t223.length co43 : Value).ownBlock ∧ some k_ ≠ (v230 : Value).ownBlock)) (by (with_reducible repeat (first | apply Kd.R_alloc | apply Kd.R_drewN | apply Kd.R_drew)); exact Kd.R_mono HO212.out (fun _ hk => ⟨⟨hk.1, ⟨hk.2.1, hk.2.2.1⟩⟩, hk.2.2.2⟩)) hg hat)
                              have n2_ := Aside0.mk (Kd.R_after (ok := (fun k_ => some k_ ≠ (.slice Ao37 t210.length co37 : Value).ownBlock ∧ some k_ ≠ (.slice Ao43 t223.length co43 : Value).ownBlock ∧ some k_ ≠ (v230 : Value).ownBlock)) (by (with_reducible repeat (first | apply Kd.R_alloc | apply Kd.R_drewN | apply Kd.R_drew)); exact Kd.R_mono HO218.out (fun _ hk => ⟨⟨hk.1, ⟨hk.2.1, hk.2.2.1⟩⟩, hk.2.2.2⟩)) hg hat)
                              have n3_ := Aside0.mk (blk_grown (g := gb220) (o := .cells #[.int .i64 t208, .int .u8 t209, .slice Ao37 t210.length co37, .int .i64 t213, .int .i64 t214, .int .i64 t215] 25 (0, 0)) (pK BK220) hg (Kd.R_ne HO239.out BK220.out (by decide)))
                              have n4_ := Aside0.mk (Kd.R_after (ok := (fun k_ => some k_ ≠ (.slice Ao37 t210.length co37 : Value).ownBlock ∧ some k_ ≠ (v217 : Value).ownBlock ∧ some k_ ≠ (v230 : Value).ownBlock)) (by (with_reducible repeat (first | apply Kd.R_alloc | apply Kd.R_drewN | apply Kd.R_drew)); exact Kd.R_mono HO225.out (fun _ hk => ⟨⟨hk.1, ⟨hk.2.1, hk.2.2.1⟩⟩, hk.2.2.2⟩)) hg hat)
                              have n5_ := Aside0.mk (Kd.R_after (ok := (fun k_ => some k_ ≠ (.slice Ao37 t210.length co37 : Value).ownBlock ∧ some k_ ≠ (v217 : Value).ownBlock ∧ some k_ ≠ (.slice Ao43 t223.length co43 : Value).ownBlock)) (by (with_reducible repeat (first | apply Kd.R_alloc | apply Kd.R_drewN | apply Kd.R_drew)); exact Kd.R_mono HO231.out (fun _ hk => ⟨⟨hk.1, ⟨hk.2.1, hk.2.2.1⟩⟩, hk.2.2.2⟩)) hg hat)
                              have n6_ := Aside0.mk (blk_grown (g := gb233) (o := .cells #[.int .i64 t221, .int .u8 t222, .slice Ao43 t223.length co43, .int .i64 t226, .int .i64 t227, .int .i64 t228] 25 (0, 0)) (pK BK233) hg (Kd.R_ne HO239.out BK233.out (by decide)))
                              have n7_ := Aside0.mk (blk_grown (g := gb255) (o := .cells #[.int .i64 0, .int .u8 0, .slice none 0 0, .int .i64 0, .int .i64 0, .int .i64 0] 25 (0, 0)) (pK BK255) hg (Kd.R_ne HO239.out BK255.out (by decide)))
                              have n8_ := Aside0.mk (hb)
                              have n9_ := Aside0.mk (ho)
                              clear BK205
                              clear HO212
                              clear HO218
                              clear BK220
                              clear HO225
                              clear HO231
                              clear BK233
                              clear BK255
                              clear HB
                              clear HO239
                              have BK205 := n0_
                              have HO212 := n1_
                              have HO218 := n2_
                              have BK220 := n3_
                              have HO225 := n4_
                              have HO231 := n5_
                              have BK233 := n6_
                              have BK255 := n7_
                              have HB := n8_
                              have HO242 := n9_
                              clear n0_ n1_ n2_ n3_ n4_ n5_ n6_ n7_ n8_ n9_
                              clear ho hb hg hat
                              refine hK.out _ _ ⟨(blk_cell BK205.out 0).trans rfl, (blk_cell BK205.out 1).trans rfl, (blk_cell BK205.out 2).trans rfl, (blk_cell BK205.out 3).trans rfl, (blk_cell BK205.out 4).trans rfl, (blk_cell BK205.out 5).trans rfl⟩ (fun hHeld => ?_)
                              clear hK K
                              refine norm_ (a' := ?_) ?_ ?_
                              rotate_left
                              · show Act.put _ (some 59) _ = _
                                simp only [Act.put, List.setIfInBounds_toArray, List.set_cons_zero, List.set_cons_succ, i64_w, i32_w]
                                rfl
                              exact norm_ (by first | (simp only [putAll, Act.put, List.setIfInBounds_toArray, List.set_cons_zero, List.set_cons_succ]; done) | (simp only [putAll, Act.put, List.setIfInBounds_toArray, List.set_cons_zero, List.set_cons_succ]; rfl)) (hJ1_3_5_12 (v235, v238, v241, gb255) _ ⟨hHeld, (by (with_reducible repeat (first | apply Kd.R_alloc | apply Kd.R_drewN | apply Kd.R_drew)); exact Kd.R_mono HO212.out (fun _ hk => ⟨hk.1.1, ⟨hk.1.2.1, ⟨hk.1.2.2, hk.2⟩⟩⟩)), (by (with_reducible repeat (first | apply Kd.R_alloc | apply Kd.R_drewN | apply Kd.R_drew)); exact Kd.R_mono HO218.out (fun _ hk => ⟨hk.1.1, ⟨hk.1.2.1, ⟨hk.1.2.2, hk.2⟩⟩⟩)), (by (with_reducible repeat (first | apply Kd.R_alloc | apply Kd.R_drewN | apply Kd.R_drew)); exact Kd.R_mono HO225.out (fun _ hk => ⟨hk.1.1, ⟨hk.1.2.1, ⟨hk.1.2.2, hk.2⟩⟩⟩)), (by (with_reducible repeat (first | apply Kd.R_alloc | apply Kd.R_drewN | apply Kd.R_drew)); exact Kd.R_mono HO231.out (fun _ hk => ⟨hk.1.1, ⟨hk.1.2.1, ⟨hk.1.2.2, hk.2⟩⟩⟩)), (pR HO242), (pK BK205), (pK BK220), (pK BK233), (pK BK255), GW255.out, GE255.out, NB205_255.out, NB255_205.out, NB220_255.out, NB255_220.out, NB233_255.out, NB255_233.out, (by repeat (first | (with_reducible first | exact HB.out | apply below_alloc | apply pw_below_drewN | apply below_drew1 | refine below_set ?_ GE205.out | refine below_set ?_ GE220.out | refine below_set ?_ GE233.out | refine below_set ?_ GE255.out) | exact HB.out))⟩)
                          · skip
                            rintro ⟨v235, v238, v241⟩ w50 ⟨hS_, h0_, h1_, h2_, h3_, h4_, h5_, h6_, h7_, h8_⟩
                            have n0_ : Aside0 (Kd.R (Kd.int .u8) 5 w50 w.heap.size (fun k_ => some k_ ≠ (v217 : Value).ownBlock ∧ some k_ ≠ (.slice Ao43 t223.length co43 : Value).ownBlock ∧ some k_ ≠ (v230 : Value).ownBlock ∧ some k_ ≠ (v241 : Value).ownBlock) (.slice Ao37 t210.length co37) t210) := ⟨h0_⟩
                            have n1_ : Aside0 (Kd.R (Kd.int .u8) 5 w50 w.heap.size (fun k_ => some k_ ≠ (.slice Ao37 t210.length co37 : Value).ownBlock ∧ some k_ ≠ (.slice Ao43 t223.length co43 : Value).ownBlock ∧ some k_ ≠ (v230 : Value).ownBlock ∧ some k_ ≠ (v241 : Value).ownBlock) v217 t216) := ⟨h1_⟩
                            have n2_ : Aside0 (Kd.R (Kd.int .u8) 5 w50 w.heap.size (fun k_ => some k_ ≠ (.slice Ao37 t210.length co37 : Value).ownBlock ∧ some k_ ≠ (v217 : Value).ownBlock ∧ some k_ ≠ (v230 : Value).ownBlock ∧ some k_ ≠ (v241 : Value).ownBlock) (.slice Ao43 t223.length co43) t223) := ⟨h2_⟩
                            have n3_ : Aside0 (Kd.R (Kd.int .u8) 5 w50 w.heap.size (fun k_ => some k_ ≠ (.slice Ao37 t210.length co37 : Value).ownBlock ∧ some k_ ≠ (v217 : Value).ownBlock ∧ some k_ ≠ (.slice Ao43 t223.length co43 : Value).ownBlock ∧ some k_ ≠ (v241 : Value).ownBlock) v230 t229) := ⟨h3_⟩
                            have n4_ : Aside0 (Kd.R (Kd.int .u8) 5 w50 w.heap.size (fun k_ => some k_ ≠ (.slice Ao37 t210.length co37 : Value).ownBlock ∧ some k_ ≠ (v217 : Value).ownBlock ∧ some k_ ≠ (.slice Ao43 t223.length co43 : Value).ownBlock ∧ some k_ ≠ (v230 : Value).ownBlock) v241 y240) := ⟨h4_⟩
                            have n5_ : Aside0 (w50.heap[gb205]? = some (.cells #[.int .i64 a0_0, .int .u8 a0_1, .slice A0_2 l0_2.length c0_2, .int .i64 a0_3, .int .i64 a0_4, .int .i64 a0_5] 25 (0, 0))) := ⟨h5_⟩
                            have n6_ : Aside0 (w50.heap[gb220]? = some (.cells #[.int .i64 t208, .int .u8 t209, .slice Ao37 t210.length co37, .int .i64 t213, .int .i64 t214, .int .i64 t215] 25 (0, 0))) := ⟨h6_⟩
                            have n7_ : Aside0 (w50.heap[gb233]? = some (.cells #[.int .i64 t221, .int .u8 t222, .slice Ao43 t223.length co43, .int .i64 t226, .int .i64 t227, .int .i64 t228] 25 (0, 0))) := ⟨h7_⟩
                            have n8_ : Aside0 (Below w.heap.size w w50) := ⟨h8_⟩
                            clear HO212
                            clear HO218
                            clear HO225
                            clear HO231
                            clear BK205
                            clear BK220
                            clear BK233
                            clear HB
                            clear h0_ h1_ h2_ h3_ h4_ h5_ h6_ h7_ h8_
                            have HO212 := n0_
                            have HO218 := n1_
                            have HO225 := n2_
                            have HO231 := n3_
                            have HO242 := n4_
                            have BK205 := n5_
                            have BK220 := n6_
                            have BK233 := n7_
                            have HB := n8_
                            clear n0_ n1_ n2_ n3_ n4_ n5_ n6_ n7_ n8_
                            have hHeld : w50.cell? ⟨gb205, 0, none⟩ = some (.int .i64 a0_0) ∧ w50.cell? ⟨gb205, 1, none⟩ = some (.int .u8 a0_1) ∧ w50.cell? ⟨gb205, 2, none⟩ = some (.slice A0_2 l0_2.length c0_2) ∧ w50.cell? ⟨gb205, 3, none⟩ = some (.int .i64 a0_3) ∧ w50.cell? ⟨gb205, 4, none⟩ = some (.int .i64 a0_4) ∧ w50.cell? ⟨gb205, 5, none⟩ = some (.int .i64 a0_5) := hS_
                            obtain ⟨Ao51, co51, eo51⟩ := Kd.R_slice HO242.out
                            (first | subst eo51 | (injection eo51 with f1_ f2_ f3_; have f4_ := f1_.symm; have f5_ := f3_.symm; clear f1_ f2_ f3_; subst f4_; subst f5_))
                            refine norm_ (a' := ?_) ?_ ?_
                            rotate_left
                            · simp only [putAll, Act.put, List.setIfInBounds_toArray, List.set_cons_zero, List.set_cons_succ]
                              rfl
                            refine two_ (i := 7) (j := 12) (Ni := some 61) (Nj := some 15) #[true, true, true, true, true, true, true, true, false, false, false, false, false, false, false, false] #[true, true, true, true, true, true, true, false, false, false, false, false, true, false, false, false] rfl rfl rfl rfl (two_of HT_.out (by kernel_rfl)) (by decide) (by decide) (fun K hK => ?_) (fun K hK => ?_)
                            · skip
                              refine goes_ Tryd.func9 (by kernel_rfl) rfl #[.agg #[.int .i64 a0_0, .int .u8 a0_1, .slice A0_2 l0_2.length c0_2, .int .i64 a0_3, .int .i64 a0_4, .int .i64 a0_5], .slice Ao51 y240.length co51, .int .i64 a3] (by rfl) rfl rfl pM ?_
                              with_reducible refine (unpackstream_Write.calls a0_0 a0_1 _ _ l0_2 a0_3 a0_4 a0_5 _ _ y240 a3 t243 t244 t245 t248 t249 t250 t251 t254 _ ?side1 ?side2 ?side3 ?side4 A25.out (Go.Proofs.YtpffoecblcfndaaDoor.Us.StepsL.below HL.out (by repeat (with_reducible first | exact HB.out | apply below_alloc | apply pw_below_drewN | apply below_drew1 | refine below_set ?_ (Aside0.out (by with_reducible assumption)))))).mono ?_
                              (case side1 => repeat (first | exact (Kd.C_below HR0_2.out HB.out) | (with_reducible refine Kd.C_alloc ?_ _) | (with_reducible refine Kd.C_drewN ?_ _) | (with_reducible refine Kd.C_drew ?_)))
                              (case side2 => exact HC0_2.out)
                              (case side3 => repeat (first | exact (Kd.R_reads' HO242.out).2.2 | (with_reducible refine Kd.C_alloc ?_ _) | (with_reducible refine Kd.C_drewN ?_ _) | (with_reducible refine Kd.C_drew ?_)))
                              (case side4 => exact (Kd.R_reads' HO242.out).2.1)
                              rintro e w52 ⟨v246, v252, rfl, ho0, ho1, hb⟩
                              refine ⟨_, rfl, ?_⟩
                              have n0_ := Aside0.mk (Kd.R_mono (Kd.R_told (Kd.R_told (Kd.R_old (pR HO212) hb) (Kd.R_base ho0)) (Kd.R_base ho1)) (fun _ h_ => h_.1))
                              have n1_ := Aside0.mk (Kd.R_mono (Kd.R_told (Kd.R_told (Kd.R_old (pR HO218) hb) (Kd.R_base ho0)) (Kd.R_base ho1)) (fun _ h_ => h_.1))
                              have n2_ := Aside0.mk (Kd.R_mono (Kd.R_told (Kd.R_told (Kd.R_old (pR HO225) hb) (Kd.R_base ho0)) (Kd.R_base ho1)) (fun _ h_ => h_.1))
                              have n3_ := Aside0.mk (Kd.R_mono (Kd.R_told (Kd.R_told (Kd.R_old (pR HO231) hb) (Kd.R_base ho0)) (Kd.R_base ho1)) (fun _ h_ => h_.1))
                              have n4_ := Aside0.mk (Kd.R_mono (Kd.R_told (Kd.R_told (Kd.R_old (pR HO242) hb) (Kd.R_base ho0)) (Kd.R_base ho1)) (fun _ h_ => h_.1))
                              have n5_ := Aside0.mk (Kd.R_lower (Kd.R_new' (Kd.R_new' (Kd.R_new' (Kd.R_new' (Kd.R_new' ho0 (Kd.R_lt (pR HO212))) (Kd.R_lt (pR HO218))) (Kd.R_lt (pR HO225))) (Kd.R_lt (pR HO231))) (Kd.R_lt (pR HO242))) (below_size (by repeat (first | (with_reducible first | exact HB.out | apply below_alloc | apply pw_below_drewN | apply below_drew1 | refine below_set ?_ GE205.out | refine below_set ?_ GE220.out | refine below_set ?_ GE233.out) | exact HB.out))))
                              have n6_ := Aside0.mk (Kd.R_lower (Kd.R_new' (Kd.R_new' (Kd.R_new' (Kd.R_new' (Kd.R_new' ho1 (Kd.R_lt (pR HO212))) (Kd.R_lt (pR HO218))) (Kd.R_lt (pR HO225))) (Kd.R_lt (pR HO231))) (Kd.R_lt (pR HO242))) (below_size (by repeat (first | (with_reducible first | exact HB.out | apply below_alloc | apply pw_below_drewN | apply below_drew1 | refine below_set ?_ GE205.out | refine below_set ?_ GE220.out | refine below_set ?_ GE233.out) | exact HB.out))))
                              have n7_ := Aside0.mk (blk_below (g := gb205) (o := .cells #[.int .i64 a0_0, .int .u8 a0_1, .slice A0_2 l0_2.length c0_2, .int .i64 a0_3, .int .i64 a0_4, .int .i64 a0_5] 25 (0, 0)) (pK BK205) hb)
                              have n8_ := Aside0.mk (blk_below (g := gb220) (o := .cells #[.int .i64 t208, .int .u8 t209, .slice Ao37 t210.length co37, .int .i64 t213, .int .i64 t214, .int .i64 t215] 25 (0, 0)) (pK BK220) hb)
                              have n9_ := Aside0.mk (blk_below (g := gb233) (o := .cells #[.int .i64 t221, .int .u8 t222, .slice Ao43 t223.length co43, .int .i64 t226, .int .i64 t227, .int .i64 t228] 25 (0, 0)) (pK BK233) hb)
                              have n10_ := Aside0.mk (below_step (by repeat (first | (with_reducible first | exact HB.out | apply below_alloc | apply pw_below_drewN | apply below_drew1 | refine below_set ?_ GE205.out | refine below_set ?_ GE220.out | refine below_set ?_ GE233.out) | exact HB.out)) hb)
                              clear HO212
                              clear HO218
                              clear HO225
                              clear HO231
                              clear HO242
                              clear BK205
                              clear BK220
                              clear BK233
                              clear HB
                              have HO212 := n0_
                              have HO218 := n1_
                              have HO225 := n2_
                              have HO231 := n3_
                              have HO242 := n4_
                              have HO247 := n5_
                              have HO253 := n6_
                              have BK205 := n7_
                              have BK220 := n8_
                              have BK233 := n9_
                              have HB := n10_
                              clear n0_ n1_ n2_ n3_ n4_ n5_ n6_ n7_ n8_ n9_ n10_
                              (try clear hb)
                              (try clear hb2)
                              (try clear hk)
                              (try clear hi)
                              (try clear ho0)
                              (try clear ho1)
                              refine hK.out _ _ ⟨(blk_cell BK205.out 0).trans rfl, (blk_cell BK205.out 1).trans rfl, (blk_cell BK205.out 2).trans rfl, (blk_cell BK205.out 3).trans rfl, (blk_cell BK205.out 4).trans rfl, (blk_cell BK205.out 5).trans rfl⟩ (fun hHeld => ?_)
                              clear hK K
                              refine norm_ (a' := ?_) ?_ ?_
                              rotate_left
                              · show Act.put _ (some 61) _ = _
                                simp only [Act.put, List.setIfInBounds_toArray, List.set_cons_zero, List.set_cons_succ, i64_w, i32_w]
                                rfl
                              refine pure_ (i := 8) (N := some 53) (v := ?_) (a' := ?_) #[true, true, true, true, true, true, true, true, true, false, false, false, false, false, false, false] rfl rfl (any_of HT_.out (by kernel_rfl)) (fun _ _ _ h => h) (Or.inl ⟨by rfl, ?_⟩) ?_ ?_
                              rotate_left
                              · intro w'
                                go_simp
                                with_reducible rfl
                              rotate_left
                              · simp only [Act.put, List.setIfInBounds_toArray, List.set_cons_zero, List.set_cons_succ, i64_w, i32_w]
                                rfl
                              refine pure_ (i := 9) (N := some 62) (v := ?_) (a' := ?_) #[true, true, true, true, true, true, true, true, true, true, false, false, false, false, false, false] rfl rfl (any_of HT_.out (by kernel_rfl)) (fun _ _ _ h => h) (Or.inl ⟨by rfl, ?_⟩) ?_ ?_
                              rotate_left
                              · intro w'
                                go_simp
                                with_reducible rfl
                              rotate_left
                              · simp only [Act.put, List.setIfInBounds_toArray, List.set_cons_zero, List.set_cons_succ, i64_w, i32_w]
                                rfl
                              refine pure_ (i := 10) (N := some 63) (v := ?_) (a' := ?_) #[true, true, true, true, true, true, true, true, true, true, true, false, false, false, false, false] rfl rfl (any_of HT_.out (by kernel_rfl)) (fun _ _ _ h => h) (Or.inl ⟨by rfl, ?_⟩) ?_ ?_
                              rotate_left
                              · intro w'
                                go_simp
                                with_reducible rfl
                              rotate_left
                              · simp only [Act.put, List.setIfInBounds_toArray, List.set_cons_zero, List.set_cons_succ, i64_w, i32_w]
                                rfl
                              refine pure_ (i := 11) (N := some 64) (v := ?_) (a' := ?_) #[true, true, true, true, true, true, true, true, true, true, true, true, false, false, false, false] rfl rfl (any_of HT_.out (by kernel_rfl)) (fun _ _ _ h => h) (Or.inl ⟨by rfl, ?_⟩) ?_ ?_
                              rotate_left
                              · intro w'
                                go_simp
                                with_reducible rfl
                              rotate_left
                              · simp only [Act.put, List.setIfInBounds_toArray, List.set_cons_zero, List.set_cons_succ, i64_w, i32_w]
                                rfl
                              exact norm_ (by first | (simp only [putAll, Act.put, List.setIfInBounds_toArray, List.set_cons_zero, List.set_cons_succ]; done) | (simp only [putAll, Act.put, List.setIfInBounds_toArray, List.set_cons_zero, List.set_cons_succ]; rfl)) (hJ1_3_5_7 (v235, v238, .slice Ao51 y240.length co51, v246, v252) _ ⟨hHeld, (by (with_reducible repeat (first | apply Kd.R_alloc | apply Kd.R_drewN | apply Kd.R_drew)); exact Kd.R_mono HO212.out (fun _ hk => ⟨hk.1.1.1, ⟨hk.1.1.2.1, ⟨hk.1.1.2.2.1, ⟨hk.1.1.2.2.2, ⟨hk.1.2, hk.2⟩⟩⟩⟩⟩)), (by (with_reducible repeat (first | apply Kd.R_alloc | apply Kd.R_drewN | apply Kd.R_drew)); exact Kd.R_mono HO218.out (fun _ hk => ⟨hk.1.1.1, ⟨hk.1.1.2.1, ⟨hk.1.1.2.2.1, ⟨hk.1.1.2.2.2, ⟨hk.1.2, hk.2⟩⟩⟩⟩⟩)), (by (with_reducible repeat (first | apply Kd.R_alloc | apply Kd.R_drewN | apply Kd.R_drew)); exact Kd.R_mono HO225.out (fun _ hk => ⟨hk.1.1.1, ⟨hk.1.1.2.1, ⟨hk.1.1.2.2.1, ⟨hk.1.1.2.2.2, ⟨hk.1.2, hk.2⟩⟩⟩⟩⟩)), (by (with_reducible repeat (first | apply Kd.R_alloc | apply Kd.R_drewN | apply Kd.R_drew)); exact Kd.R_mono HO231.out (fun _ hk => ⟨hk.1.1.1, ⟨hk.1.1.2.1, ⟨hk.1.1.2.2.1, ⟨hk.1.1.2.2.2, ⟨hk.1.2, hk.2⟩⟩⟩⟩⟩)), (by (with_reducible repeat (first | apply Kd.R_alloc | apply Kd.R_drewN | apply Kd.R_drew)); exact Kd.R_mono HO242.out (fun _ hk => ⟨hk.1.1.1, ⟨hk.1.1.2.1, ⟨hk.1.1.2.2.1, ⟨hk.1.1.2.2.2, ⟨hk.1.2, hk.2⟩⟩⟩⟩⟩)), (by (with_reducible repeat (first | apply Kd.R_alloc | apply Kd.R_drewN | apply Kd.R_drew)); exact Kd.R_mono HO247.out (fun _ hk => ⟨hk.1.1.1.1.2, ⟨hk.1.1.1.2, ⟨hk.1.1.2, ⟨hk.1.2, ⟨hk.2, hk.1.1.1.1.1⟩⟩⟩⟩⟩)), (by (with_reducible repeat (first | apply Kd.R_alloc | apply Kd.R_drewN | apply Kd.R_drew)); exact Kd.R_mono HO253.out (fun _ hk => ⟨hk.1.1.1.1.2, ⟨hk.1.1.1.2, ⟨hk.1.1.2, ⟨hk.1.2, ⟨hk.2, hk.1.1.1.1.1⟩⟩⟩⟩⟩)), (pK BK205), (pK BK220), (pK BK233), (by repeat (first | (with_reducible first | exact HB.out | apply below_alloc | apply pw_below_drewN | apply below_drew1 | refine below_set ?_ GE205.out | refine below_set ?_ GE220.out | refine below_set ?_ GE233.out) | exact HB.out))⟩)
                            · skip
                              refine box_step ?hg (N := 15) ?hd (cs := #[.int .i64 0, .int .u8 0, .slice none 0 0, .int .i64 0, .int .i64 0, .int .i64 0]) (t := 25) ?hr ?_; (case hd => rfl); (case hg => rfl); (case hr => first | (go_simp; done) | (go_simp; rfl))
                              intro gb255 hg w51 hbox hb
                              have n0_ := Aside0.mk (Kd.R_below (pR HO212) hb)
                              have n1_ := Aside0.mk (Kd.R_below (pR HO218) hb)
                              have n2_ := Aside0.mk (Kd.R_below (pR HO225) hb)
                              have n3_ := Aside0.mk (Kd.R_below (pR HO231) hb)
                              have n4_ := Aside0.mk (Kd.R_below (pR HO242) hb)
                              have n5_ := Aside0.mk (blk_below (g := gb205) (o := .cells #[.int .i64 a0_0, .int .u8 a0_1, .slice A0_2 l0_2.length c0_2, .int .i64 a0_3, .int .i64 a0_4, .int .i64 a0_5] 25 (0, 0)) (pK BK205) hb)
                              have n6_ := Aside0.mk (blk_below (g := gb220) (o := .cells #[.int .i64 t208, .int .u8 t209, .slice Ao37 t210.length co37, .int .i64 t213, .int .i64 t214, .int .i64 t215] 25 (0, 0)) (pK BK220) hb)
                              have n7_ := Aside0.mk (blk_below (g := gb233) (o := .cells #[.int .i64 t221, .int .u8 t222, .slice Ao43 t223.length co43, .int .i64 t226, .int .i64 t227, .int .i64 t228] 25 (0, 0)) (pK BK233) hb)
                              have n8_ := Aside0.mk (below_step (by repeat (first | (with_reducible first | exact HB.out | apply below_alloc | apply pw_below_drewN | apply below_drew1 | refine below_set ?_ GE205.out | refine below_set ?_ GE220.out | refine below_set ?_ GE233.out) | exact HB.out)) hb)
                              have n9_ := Aside0.mk (hbox)
                              have n10_ := Aside0.mk ((by rw [hg]; exact (below_size (by repeat (first | (with_reducible first | exact HB.out | apply below_alloc | apply pw_below_drewN | apply below_drew1 | refine below_set ?_ GE205.out | refine below_set ?_ GE220.out | refine below_set ?_ GE233.out) | exact HB.out))) : w.heap.size ≤ gb255))
                              have n11_ := Aside0.mk ((by rw [hg]; exact (below_size (by repeat (first | (with_reducible first | exact HB.out | apply below_alloc | apply pw_below_drewN | apply below_drew1 | refine below_set ?_ GE205.out | refine below_set ?_ GE220.out | refine below_set ?_ GE233.out) | exact HB.out))) : w.heap.size ≤ gb255))
                              have n12_ := Aside0.mk ((by rw [hg]; exact Nat.ne_of_lt (blk_lt (g := gb205) (o := .cells #[.int .i64 a0_0, .int .u8 a0_1, .slice A0_2 l0_2.length c0_2, .int .i64 a0_3, .int .i64 a0_4, .int .i64 a0_5] 25 (0, 0)) (pK BK205)) : gb205 ≠ gb255))
                              have n13_ := Aside0.mk ((by rw [hg]; exact Nat.ne_of_gt (blk_lt (g := gb205) (o := .cells #[.int .i64 a0_0, .int .u8 a0_1, .slice A0_2 l0_2.length c0_2, .int .i64 a0_3, .int .i64 a0_4, .int .i64 a0_5] 25 (0, 0)) (pK BK205)) : gb255 ≠ gb205))
                              have n14_ := Aside0.mk ((by rw [hg]; exact Nat.ne_of_lt (blk_lt (g := gb220) (o := .cells #[.int .i64 t208, .int .u8 t209, .slice Ao37 t210.length co37, .int .i64 t213, .int .i64 t214, .int .i64 t215] 25 (0, 0)) (pK BK220)) : gb220 ≠ gb255))
                              have n15_ := Aside0.mk ((by rw [hg]; exact Nat.ne_of_gt (blk_lt (g := gb220) (o := .cells #[.int .i64 t208, .int .u8 t209, .slice Ao37 t210.length co37, .int .i64 t213, .int .i64 t214, .int .i64 t215] 25 (0, 0)) (pK BK220)) : gb255 ≠ gb220))
                              have n16_ := Aside0.mk ((by rw [hg]; exact Nat.ne_of_lt (blk_lt (g := gb233) (o := .cells #[.int .i64 t221, .int .u8 t222, .slice Ao43 t223.length co43, .int .i64 t226, .int .i64 t227, .int .i64 t228] 25 (0, 0)) (pK BK233)) : gb233 ≠ gb255))
                              have n17_ := Aside0.mk ((by rw [hg]; exact Nat.ne_of_gt (blk_lt (g := gb233) (o := .cells #[.int .i64 t221, .int .u8 t222, .slice Ao43 t223.length co43, .int .i64 t226, .int .i64 t227, .int .i64 t228] 25 (0, 0)) (pK BK233)) : gb255 ≠ gb233))
                              clear HO212
                              clear HO218
                              clear HO225
                              clear HO231
                              clear HO242
                              clear BK205
                              clear BK220
                              clear BK233
                              clear HB
                              have HO212 := n0_
                              have HO218 := n1_
                              have HO225 := n2_
                              have HO231 := n3_
                              have HO242 := n4_
                              have BK205 := n5_
                              have BK220 := n6_
                              have BK233 := n7_
                              have HB := n8_
                              have BK255 := n9_
                              have GW255 := n10_
                              have GE255 := n11_
                              have NB205_255 := n12_
                              have NB255_205 := n13_
                              have NB220_255 := n14_
                              have NB255_220 := n15_
                              have NB233_255 := n16_
                              have NB255_233 := n17_
                              clear n0_ n1_ n2_ n3_ n4_ n5_ n6_ n7_ n8_ n9_ n10_ n11_ n12_ n13_ n14_ n15_ n16_ n17_
                              clear hb hbox hg
                              refine hK.out _ _ ⟨(blk_cell BK205.out 0).trans rfl, (blk_cell BK205.out 1).trans rfl, (blk_cell BK205.out 2).trans rfl, (blk_cell BK205.out 3).trans rfl, (blk_cell BK205.out 4).trans rfl, (blk_cell BK205.out 5).trans rfl⟩ (fun hHeld => ?_)
                              clear hK K
                              refine norm_ (a' := ?_) ?_ ?_
                              rotate_left
                              · show Act.put _ (some 15) _ = _
                                simp only [Act.put, List.setIfInBounds_toArray, List.set_cons_zero, List.set_cons_succ, i64_w, i32_w]
                                rfl
                              exact norm_ (by first | (simp only [putAll, Act.put, List.setIfInBounds_toArray, List.set_cons_zero, List.set_cons_succ]; done) | (simp only [putAll, Act.put, List.setIfInBounds_toArray, List.set_cons_zero, List.set_cons_succ]; rfl)) (hJ1_3_5_12 (v235, v238, (.slice Ao51 y240.length co51 : Value), gb255) _ ⟨hHeld, (pR HO212), (pR HO218), (pR HO225), (pR HO231), (pR HO242), (pK BK205), (pK BK220), (pK BK233), (pK BK255), GW255.out, GE255.out, NB205_255.out, NB255_205.out, NB220_255.out, NB255_220.out, NB233_255.out, NB255_233.out, (by repeat (first | (with_reducible first | exact HB.out | apply below_alloc | apply pw_below_drewN | apply below_drew1 | refine below_set ?_ GE205.out | refine below_set ?_ GE220.out | refine below_set ?_ GE233.out | refine below_set ?_ GE255.out) | exact HB.out))⟩)
                        · skip
                          rintro ⟨v235, v238, v241, gb255⟩ w51 ⟨hS_, h0_, h1_, h2_, h3_, h4_, h5_, h6_, h7_, h8_, h9_, h10_, h11_, h12_, h13_, h14_, h15_, h16_, h17_⟩
                          have n0_ : Aside0 (Kd.R (Kd.int .u8) 5 w51 w.heap.size (fun k_ => some k_ ≠ (v217 : Value).ownBlock ∧ some k_ ≠ (.slice Ao43 t223.length co43 : Value).ownBlock ∧ some k_ ≠ (v230 : Value).ownBlock ∧ some k_ ≠ (v241 : Value).ownBlock) (.slice Ao37 t210.length co37) t210) := ⟨h0_⟩
                          have n1_ : Aside0 (Kd.R (Kd.int .u8) 5 w51 w.heap.size (fun k_ => some k_ ≠ (.slice Ao37 t210.length co37 : Value).ownBlock ∧ some k_ ≠ (.slice Ao43 t223.length co43 : Value).ownBlock ∧ some k_ ≠ (v230 : Value).ownBlock ∧ some k_ ≠ (v241 : Value).ownBlock) v217 t216) := ⟨h1_⟩
                          have n2_ : Aside0 (Kd.R (Kd.int .u8) 5 w51 w.heap.size (fun k_ => some k_ ≠ (.slice Ao37 t210.length co37 : Value).ownBlock ∧ some k_ ≠ (v217 : Value).ownBlock ∧ some k_ ≠ (v230 : Value).ownBlock ∧ some k_ ≠ (v241 : Value).ownBlock) (.slice Ao43 t223.length co43) t223) := ⟨h2_⟩
                          have n3_ : Aside0 (Kd.R (Kd.int .u8) 5 w51 w.heap.size (fun k_ => some k_ ≠ (.slice Ao37 t210.length co37 : Value).ownBlock ∧ some k_ ≠ (v217 : Value).ownBlock ∧ some k_ ≠ (.slice Ao43 t223.length co43 : Value).ownBlock ∧ some k_ ≠ (v241 : Value).ownBlock) v230 t229) := ⟨h3_⟩
                          have n4_ : Aside0 (Kd.R (Kd.int .u8) 5 w51 w.heap.size (fun k_ => some k_ ≠ (.slice Ao37 t210.length co37 : Value).ownBlock ∧ some k_ ≠ (v217 : Value).ownBlock ∧ some k_ ≠ (.slice Ao43 t223.length co43 : Value).ownBlock ∧ some k_ ≠ (v230 : Value).ownBlock) v241 y240) := ⟨h4_⟩
                          have n5_ : Aside0 (w51.heap[gb205]? = some (.cells #[.int .i64 a0_0, .int .u8 a0_1, .slice A0_2 l0_2.length c0_2, .int .i64 a0_3, .int .i64 a0_4, .int .i64 a0_5] 25 (0, 0))) := ⟨h5_⟩
                          have n6_ : Aside0 (w51.heap[gb220]? = some (.cells #[.int .i64 t208, .int .u8 t209, .slice Ao37 t210.length co37, .int .i64 t213, .int .i64 t214, .int .i64 t215] 25 (0, 0))) := ⟨h6_⟩
                          have n7_ : Aside0 (w51.heap[gb233]? = some (.cells #[.int .i64 t221, .int .u8 t222, .slice Ao43 t223.length co43, .int .i64 t226, .int .i64 t227, .int .i64 t228] 25 (0, 0))) := ⟨h7_⟩
                          have n8_ : Aside0 (w51.heap[gb255]? = some (.cells #[.int .i64 0, .int .u8 0, .slice none 0 0, .int .i64 0, .int .i64 0, .int .i64 0] 25 (0, 0))) := ⟨h8_⟩
                          have n9_ : Aside0 (w.heap.size ≤ gb255) := ⟨h9_⟩
                          have n10_ : Aside0 (w.heap.size ≤ gb255) := ⟨h10_⟩
                          have n11_ : Aside0 (gb205 ≠ gb255) := ⟨h11_⟩
                          have n12_ : Aside0 (gb255 ≠ gb205) := ⟨h12_⟩
                          have n13_ : Aside0 (gb220 ≠ gb255) := ⟨h13_⟩
                          have n14_ : Aside0 (gb255 ≠ gb220) := ⟨h14_⟩
                          have n15_ : Aside0 (gb233 ≠ gb255) := ⟨h15_⟩
                          have n16_ : Aside0 (gb255 ≠ gb233) := ⟨h16_⟩
                          have n17_ : Aside0 (Below w.heap.size w w51) := ⟨h17_⟩
                          clear HO212
                          clear HO218
                          clear HO225
                          clear HO231
                          clear BK205
                          clear BK220
                          clear BK233
                          clear HB
                          clear h0_ h1_ h2_ h3_ h4_ h5_ h6_ h7_ h8_ h9_ h10_ h11_ h12_ h13_ h14_ h15_ h16_ h17_
                          have HO212 := n0_
                          have HO218 := n1_
                          have HO225 := n2_
                          have HO231 := n3_
                          have HO242 := n4_
                          have BK205 := n5_
                          have BK220 := n6_
                          have BK233 := n7_
                          have BK255 := n8_
                          have GW255 := n9_
                          have GE255 := n10_
                          have NB205_255 := n11_
                          have NB255_205 := n12_
                          have NB220_255 := n13_
                          have NB255_220 := n14_
                          have NB233_255 := n15_
                          have NB255_233 := n16_
                          have HB := n17_
                          clear n0_ n1_ n2_ n3_ n4_ n5_ n6_ n7_ n8_ n9_ n10_ n11_ n12_ n13_ n14_ n15_ n16_ n17_
                          have hHeld : w51.cell? ⟨gb205, 0, none⟩ = some (.int .i64 a0_0) ∧ w51.cell? ⟨gb205, 1, none⟩ = some (.int .u8 a0_1) ∧ w51.cell? ⟨gb205, 2, none⟩ = some (.slice A0_2 l0_2.length c0_2) ∧ w51.cell? ⟨gb205, 3, none⟩ = some (.int .i64 a0_3) ∧ w51.cell? ⟨gb205, 4, none⟩ = some (.int .i64 a0_4) ∧ w51.cell? ⟨gb205, 5, none⟩ = some (.int .i64 a0_5) := hS_
                          obtain ⟨Ao52, co52, eo52⟩ := Kd.R_slice HO242.out
                          (first | subst eo52 | (injection eo52 with f1_ f2_ f3_; have f4_ := f1_.symm; have f5_ := f3_.symm; clear f1_ f2_ f3_; subst f4_; subst f5_))
                          refine norm_ (a' := ?_) ?_ ?_
                          rotate_left
                          · simp only [putAll, Act.put, List.setIfInBounds_toArray, List.set_cons_zero, List.set_cons_succ]
                            rfl
                          refine one_ (i := 7) (N := some 61) #[true, true, true, true, true, true, true, true, false, false, false, false, true, false, false, false] rfl rfl (one_of HT_.out (by kernel_rfl)) (by decide) (fun K hK => ?_)
                          refine goes_ Tryd.func9 (by kernel_rfl) rfl #[.agg #[.int .i64 a0_0, .int .u8 a0_1, .slice A0_2 l0_2.length c0_2, .int .i64 a0_3, .int .i64 a0_4, .int .i64 a0_5], .slice Ao52 y240.length co52, .int .i64 a3] (by rfl) rfl rfl pM ?_
                          with_reducible refine (unpackstream_Write.calls a0_0 a0_1 _ _ l0_2 a0_3 a0_4 a0_5 _ _ y240 a3 t243 t244 t245 t248 t249 t250 t251 t254 _ ?side1 ?side2 ?side3 ?side4 A25.out (Go.Proofs.YtpffoecblcfndaaDoor.Us.StepsL.below HL.out (by repeat (with_reducible first | exact HB.out | apply below_alloc | apply pw_below_drewN | apply below_drew1 | refine below_set ?_ (Aside0.out (by with_reducible assumption)))))).mono ?_
                          (case side1 => repeat (first | exact (Kd.C_below HR0_2.out HB.out) | (with_reducible refine Kd.C_alloc ?_ _) | (with_reducible refine Kd.C_drewN ?_ _) | (with_reducible refine Kd.C_drew ?_)))
                          (case side2 => exact HC0_2.out)
                          (case side3 => repeat (first | exact (Kd.R_reads' HO242.out).2.2 | (with_reducible refine Kd.C_alloc ?_ _) | (with_reducible refine Kd.C_drewN ?_ _) | (with_reducible refine Kd.C_drew ?_)))
                          (case side4 => exact (Kd.R_reads' HO242.out).2.1)
                          rintro e w53 ⟨v246, v252, rfl, ho0, ho1, hb⟩
                          refine ⟨_, rfl, ?_⟩
                          have n0_ := Aside0.mk (Kd.R_mono (Kd.R_told (Kd.R_told (Kd.R_old (pR HO212) hb) (Kd.R_base ho0)) (Kd.R_base ho1)) (fun _ h_ => h_.1))
                          have n1_ := Aside0.mk (Kd.R_mono (Kd.R_told (Kd.R_told (Kd.R_old (pR HO218) hb) (Kd.R_base ho0)) (Kd.R_base ho1)) (fun _ h_ => h_.1))
                          have n2_ := Aside0.mk (Kd.R_mono (Kd.R_told (Kd.R_told (Kd.R_old (pR HO225) hb) (Kd.R_base ho0)) (Kd.R_base ho1)) (fun _ h_ => h_.1))
                          have n3_ := Aside0.mk (Kd.R_mono (Kd.R_told (Kd.R_told (Kd.R_old (pR HO231) hb) (Kd.R_base ho0)) (Kd.R_base ho1)) (fun _ h_ => h_.1))
                          have n4_ := Aside0.mk (Kd.R_mono (Kd.R_told (Kd.R_told (Kd.R_old (pR HO242) hb) (Kd.R_base ho0)) (Kd.R_base ho1)) (fun _ h_ => h_.1))
                          have n5_ := Aside0.mk (Kd.R_lower (Kd.R_new' (Kd.R_new' (Kd.R_new' (Kd.R_new' (Kd.R_new' ho0 (Kd.R_lt (pR HO212))) (Kd.R_lt (pR HO218))) (Kd.R_lt (pR HO225))) (Kd.R_lt (pR HO231))) (Kd.R_lt (pR HO242))) (below_size (by repeat (first | (with_reducible first | exact HB.out | apply below_alloc | apply pw_below_drewN | apply below_drew1 | refine below_set ?_ GE205.out | refine below_set ?_ GE220.out | refine below_set ?_ GE233.out | refine below_set ?_ GE255.out) | exact HB.out))))
                          have n6_ := Aside0.mk (Kd.R_lower (Kd.R_new' (Kd.R_new' (Kd.R_new' (Kd.R_new' (Kd.R_new' ho1 (Kd.R_lt (pR HO212))) (Kd.R_lt (pR HO218))) (Kd.R_lt (pR HO225))) (Kd.R_lt (pR HO231))) (Kd.R_lt (pR HO242))) (below_size (by repeat (first | (with_reducible first | exact HB.out | apply below_alloc | apply pw_below_drewN | apply below_drew1 | refine below_set ?_ GE205.out | refine below_set ?_ GE220.out | refine below_set ?_ GE233.out | refine below_set ?_ GE255.out) | exact HB.out))))
                          have n7_ := Aside0.mk (blk_below (g := gb205) (o := .cells #[.int .i64 a0_0, .int .u8 a0_1, .slice A0_2 l0_2.length c0_2, .int .i64 a0_3, .int .i64 a0_4, .int .i64 a0_5] 25 (0, 0)) (pK BK205) hb)
                          have n8_ := Aside0.mk (blk_below (g := gb220) (o := .cells #[.int .i64 t208, .int .u8 t209, .slice Ao37 t210.length co37, .int .i64 t213, .int .i64 t214, .int .i64 t215] 25 (0, 0)) (pK BK220) hb)
                          have n9_ := Aside0.mk (blk_below (g := gb233) (o := .cells #[.int .i64 t221, .int .u8 t222, .slice Ao43 t223.length co43, .int .i64 t226, .int .i64 t227, .int .i64 t228] 25 (0, 0)) (pK BK233) hb)
                          have n10_ := Aside0.mk (blk_below (g := gb255) (o := .cells #[.int .i64 0, .int .u8 0, .slice none 0 0, .int .i64 0, .int .i64 0, .int .i64 0] 25 (0, 0)) (pK BK255) hb)
                          have n11_ := Aside0.mk (below_step (by repeat (first | (with_reducible first | exact HB.out | apply below_alloc | apply pw_below_drewN | apply below_drew1 | refine below_set ?_ GE205.out | refine below_set ?_ GE220.out | refine below_set ?_ GE233.out | refine below_set ?_ GE255.out) | exact HB.out)) hb)
                          clear HO212
                          clear HO218
                          clear HO225
                          clear HO231
                          clear HO242
                          clear BK205
                          clear BK220
                          clear BK233
                          clear BK255
                          clear HB
                          have HO212 := n0_
                          have HO218 := n1_
                          have HO225 := n2_
                          have HO231 := n3_
                          have HO242 := n4_
                          have HO247 := n5_
                          have HO253 := n6_
                          have BK205 := n7_
                          have BK220 := n8_
                          have BK233 := n9_
                          have BK255 := n10_
                          have HB := n11_
                          clear n0_ n1_ n2_ n3_ n4_ n5_ n6_ n7_ n8_ n9_ n10_ n11_
                          (try clear hb)
                          (try clear hb2)
                          (try clear hk)
                          (try clear hi)
                          (try clear ho0)
                          (try clear ho1)
                          refine hK.out _ _ ⟨(blk_cell BK205.out 0).trans rfl, (blk_cell BK205.out 1).trans rfl, (blk_cell BK205.out 2).trans rfl, (blk_cell BK205.out 3).trans rfl, (blk_cell BK205.out 4).trans rfl, (blk_cell BK205.out 5).trans rfl⟩ (fun hHeld => ?_)
                          clear hK K
                          refine norm_ (a' := ?_) ?_ ?_
                          rotate_left
                          · show Act.put _ (some 61) _ = _
                            simp only [Act.put, List.setIfInBounds_toArray, List.set_cons_zero, List.set_cons_succ, i64_w, i32_w]
                            rfl
                          refine pure_ (i := 8) (N := some 53) (v := ?_) (a' := ?_) #[true, true, true, true, true, true, true, true, true, false, false, false, true, false, false, false] rfl rfl (any_of HT_.out (by kernel_rfl)) (fun _ _ _ h => h) (Or.inl ⟨by rfl, ?_⟩) ?_ ?_
                          rotate_left
                          · intro w'
                            go_simp
                            with_reducible rfl
                          rotate_left
                          · simp only [Act.put, List.setIfInBounds_toArray, List.set_cons_zero, List.set_cons_succ, i64_w, i32_w]
                            rfl
                          refine pure_ (i := 9) (N := some 62) (v := ?_) (a' := ?_) #[true, true, true, true, true, true, true, true, true, true, false, false, true, false, false, false] rfl rfl (any_of HT_.out (by kernel_rfl)) (fun _ _ _ h => h) (Or.inl ⟨by rfl, ?_⟩) ?_ ?_
                          rotate_left
                          · intro w'
                            go_simp
                            with_reducible rfl
                          rotate_left
                          · simp only [Act.put, List.setIfInBounds_toArray, List.set_cons_zero, List.set_cons_succ, i64_w, i32_w]
                            rfl
                          refine pure_ (i := 10) (N := some 63) (v := ?_) (a' := ?_) #[true, true, true, true, true, true, true, true, true, true, true, false, true, false, false, false] rfl rfl (any_of HT_.out (by kernel_rfl)) (fun _ _ _ h => h) (Or.inl ⟨by rfl, ?_⟩) ?_ ?_
                          rotate_left
                          · intro w'
                            go_simp
                            with_reducible rfl
                          rotate_left
                          · simp only [Act.put, List.setIfInBounds_toArray, List.set_cons_zero, List.set_cons_succ, i64_w, i32_w]
                            rfl
                          refine pure_ (i := 11) (N := some 64) (v := ?_) (a' := ?_) #[true, true, true, true, true, true, true, true, true, true, true, true, true, false, false, false] rfl rfl (any_of HT_.out (by kernel_rfl)) (fun _ _ _ h => h) (Or.inl ⟨by rfl, ?_⟩) ?_ ?_
                          rotate_left
                          · intro w'
                            go_simp
                            with_reducible rfl
                          rotate_left
                          · simp only [Act.put, List.setIfInBounds_toArray, List.set_cons_zero, List.set_cons_succ, i64_w, i32_w]
                            rfl
                          exact norm_ (by first | (simp only [putAll, Act.put, List.setIfInBounds_toArray, List.set_cons_zero, List.set_cons_succ]; done) | (simp only [putAll, Act.put, List.setIfInBounds_toArray, List.set_cons_zero, List.set_cons_succ]; rfl)) (hJ1_3_5_7_12 (v235, v238, .slice Ao52 y240.length co52, v246, v252, gb255) _ ⟨hHeld, (by (with_reducible repeat (first | apply Kd.R_alloc | apply Kd.R_drewN | apply Kd.R_drew)); exact Kd.R_mono HO212.out (fun _ hk => ⟨hk.1.1.1, ⟨hk.1.1.2.1, ⟨hk.1.1.2.2.1, ⟨hk.1.1.2.2.2, ⟨hk.1.2, hk.2⟩⟩⟩⟩⟩)), (by (with_reducible repeat (first | apply Kd.R_alloc | apply Kd.R_drewN | apply Kd.R_drew)); exact Kd.R_mono HO218.out (fun _ hk => ⟨hk.1.1.1, ⟨hk.1.1.2.1, ⟨hk.1.1.2.2.1, ⟨hk.1.1.2.2.2, ⟨hk.1.2, hk.2⟩⟩⟩⟩⟩)), (by (with_reducible repeat (first | apply Kd.R_alloc | apply Kd.R_drewN | apply Kd.R_drew)); exact Kd.R_mono HO225.out (fun _ hk => ⟨hk.1.1.1, ⟨hk.1.1.2.1, ⟨hk.1.1.2.2.1, ⟨hk.1.1.2.2.2, ⟨hk.1.2, hk.2⟩⟩⟩⟩⟩)), (by (with_reducible repeat (first | apply Kd.R_alloc | apply Kd.R_drewN | apply Kd.R_drew)); exact Kd.R_mono HO231.out (fun _ hk => ⟨hk.1.1.1, ⟨hk.1.1.2.1, ⟨hk.1.1.2.2.1, ⟨hk.1.1.2.2.2, ⟨hk.1.2, hk.2⟩⟩⟩⟩⟩)), (by (with_reducible repeat (first | apply Kd.R_alloc | apply Kd.R_drewN | apply Kd.R_drew)); exact Kd.R_mono HO242.out (fun _ hk => ⟨hk.1.1.1, ⟨hk.1.1.2.1, ⟨hk.1.1.2.2.1, ⟨hk.1.1.2.2.2, ⟨hk.1.2, hk.2⟩⟩⟩⟩⟩)), (by (with_reducible repeat (first | apply Kd.R_alloc | apply Kd.R_drewN | apply Kd.R_drew)); exact Kd.R_mono HO247.out (fun _ hk => ⟨hk.1.1.1.1.2, ⟨hk.1.1.1.2, ⟨hk.1.1.2, ⟨hk.1.2, ⟨hk.2, hk.1.1.1.1.1⟩⟩⟩⟩⟩)), (by (with_reducible repeat (first | apply Kd.R_alloc | apply Kd.R_drewN | apply Kd.R_drew)); exact Kd.R_mono HO253.out (fun _ hk => ⟨hk.1.1.1.1.2, ⟨hk.1.1.1.2, ⟨hk.1.1.2, ⟨hk.1.2, ⟨hk.2, hk.1.1.1.1.1⟩⟩⟩⟩⟩)), (pK BK205), (pK BK220), (pK BK233), (pK BK255), GW255.out, GE255.out, NB205_255.out, NB255_205.out, NB220_255.out, NB255_220.out, NB233_255.out, NB255_233.out, (by repeat (first | (with_reducible first | exact HB.out | apply below_alloc | apply pw_below_drewN | apply below_drew1 | refine below_set ?_ GE205.out | refine below_set ?_ GE220.out | refine below_set ?_ GE233.out | refine below_set ?_ GE255.out) | exact HB.out))⟩)
                      · skip
                        rintro ⟨v235, v238, v241, v246, v252⟩ w52 ⟨hS_, h0_, h1_, h2_, h3_, h4_, h5_, h6_, h7_, h8_, h9_, h10_⟩
                        have n0_ : Aside0 (Kd.R (Kd.int .u8) 5 w52 w.heap.size (fun k_ => some k_ ≠ (v217 : Value).ownBlock ∧ some k_ ≠ (.slice Ao43 t223.length co43 : Value).ownBlock ∧ some k_ ≠ (v230 : Value).ownBlock ∧ some k_ ≠ (v241 : Value).ownBlock ∧ some k_ ≠ (v246 : Value).ownBlock ∧ some k_ ≠ (v252 : Value).ownBlock) (.slice Ao37 t210.length co37) t210) := ⟨h0_⟩
                        have n1_ : Aside0 (Kd.R (Kd.int .u8) 5 w52 w.heap.size (fun k_ => some k_ ≠ (.slice Ao37 t210.length co37 : Value).ownBlock ∧ some k_ ≠ (.slice Ao43 t223.length co43 : Value).ownBlock ∧ some k_ ≠ (v230 : Value).ownBlock ∧ some k_ ≠ (v241 : Value).ownBlock ∧ some k_ ≠ (v246 : Value).ownBlock ∧ some k_ ≠ (v252 : Value).ownBlock) v217 t216) := ⟨h1_⟩
                        have n2_ : Aside0 (Kd.R (Kd.int .u8) 5 w52 w.heap.size (fun k_ => some k_ ≠ (.slice Ao37 t210.length co37 : Value).ownBlock ∧ some k_ ≠ (v217 : Value).ownBlock ∧ some k_ ≠ (v230 : Value).ownBlock ∧ some k_ ≠ (v241 : Value).ownBlock ∧ some k_ ≠ (v246 : Value).ownBlock ∧ some k_ ≠ (v252 : Value).ownBlock) (.slice Ao43 t223.length co43) t223) := ⟨h2_⟩
                        have n3_ : Aside0 (Kd.R (Kd.int .u8) 5 w52 w.heap.size (fun k_ => some k_ ≠ (.slice Ao37 t210.length co37 : Value).ownBlock ∧ some k_ ≠ (v217 : Value).ownBlock ∧ some k_ ≠ (.slice Ao43 t223.length co43 : Value).ownBlock ∧ some k_ ≠ (v241 : Value).ownBlock ∧ some k_ ≠ (v246 : Value).ownBlock ∧ some k_ ≠ (v252 : Value).ownBlock) v230 t229) := ⟨h3_⟩
                        have n4_ : Aside0 (Kd.R (Kd.int .u8) 5 w52 w.heap.size (fun k_ => some k_ ≠ (.slice Ao37 t210.length co37 : Value).ownBlock ∧ some k_ ≠ (v217 : Value).ownBlock ∧ some k_ ≠ (.slice Ao43 t223.length co43 : Value).ownBlock ∧ some k_ ≠ (v230 : Value).ownBlock ∧ some k_ ≠ (v246 : Value).ownBlock ∧ some k_ ≠ (v252 : Value).ownBlock) v241 y240) := ⟨h4_⟩
                        have n5_ : Aside0 (Kd.R (Kd.int .u8) 5 w52 w.heap.size (fun k_ => some k_ ≠ (.slice Ao37 t210.length co37 : Value).ownBlock ∧ some k_ ≠ (v217 : Value).ownBlock ∧ some k_ ≠ (.slice Ao43 t223.length co43 : Value).ownBlock ∧ some k_ ≠ (v230 : Value).ownBlock ∧ some k_ ≠ (v241 : Value).ownBlock ∧ some k_ ≠ (v252 : Value).ownBlock) v246 t245) := ⟨h5_⟩
                        have n6_ : Aside0 (Kd.R (Kd.int .u8) 5 w52 w.heap.size (fun k_ => some k_ ≠ (.slice Ao37 t210.length co37 : Value).ownBlock ∧ some k_ ≠ (v217 : Value).ownBlock ∧ some k_ ≠ (.slice Ao43 t223.length co43 : Value).ownBlock ∧ some k_ ≠ (v230 : Value).ownBlock ∧ some k_ ≠ (v241 : Value).ownBlock ∧ some k_ ≠ (v246 : Value).ownBlock) v252 t251) := ⟨h6_⟩
                        have n7_ : Aside0 (w52.heap[gb205]? = some (.cells #[.int .i64 a0_0, .int .u8 a0_1, .slice A0_2 l0_2.length c0_2, .int .i64 a0_3, .int .i64 a0_4, .int .i64 a0_5] 25 (0, 0))) := ⟨h7_⟩
                        have n8_ : Aside0 (w52.heap[gb220]? = some (.cells #[.int .i64 t208, .int .u8 t209, .slice Ao37 t210.length co37, .int .i64 t213, .int .i64 t214, .int .i64 t215] 25 (0, 0))) := ⟨h8_⟩
                        have n9_ : Aside0 (w52.heap[gb233]? = some (.cells #[.int .i64 t221, .int .u8 t222, .slice Ao43 t223.length co43, .int .i64 t226, .int .i64 t227, .int .i64 t228] 25 (0, 0))) := ⟨h9_⟩
                        have n10_ : Aside0 (Below w.heap.size w w52) := ⟨h10_⟩
                        clear HO212
                        clear HO218
                        clear HO225
                        clear HO231
                        clear BK205
                        clear BK220
                        clear BK233
                        clear HB
                        clear h0_ h1_ h2_ h3_ h4_ h5_ h6_ h7_ h8_ h9_ h10_
                        have HO212 := n0_
                        have HO218 := n1_
                        have HO225 := n2_
                        have HO231 := n3_
                        have HO242 := n4_
                        have HO247 := n5_
                        have HO253 := n6_
                        have BK205 := n7_
                        have BK220 := n8_
                        have BK233 := n9_
                        have HB := n10_
                        clear n0_ n1_ n2_ n3_ n4_ n5_ n6_ n7_ n8_ n9_ n10_
                        have hHeld : w52.cell? ⟨gb205, 0, none⟩ = some (.int .i64 a0_0) ∧ w52.cell? ⟨gb205, 1, none⟩ = some (.int .u8 a0_1) ∧ w52.cell? ⟨gb205, 2, none⟩ = some (.slice A0_2 l0_2.length c0_2) ∧ w52.cell? ⟨gb205, 3, none⟩ = some (.int .i64 a0_3) ∧ w52.cell? ⟨gb205, 4, none⟩ = some (.int .i64 a0_4) ∧ w52.cell? ⟨gb205, 5, none⟩ = some (.int .i64 a0_5) := hS_
                        refine norm_ (a' := ?_) ?_ ?_
                        rotate_left
                        · simp only [putAll, Act.put, List.setIfInBounds_toArray, List.set_cons_zero, List.set_cons_succ]
                          rfl
                        refine one_ (i := 12) (N := some 15) #[true, true, true, true, true, true, true, true, true, true, true, true, true, false, false, false] rfl rfl (one_of HT_.out (by kernel_rfl)) (by decide) (fun K hK => ?_)
                        refine box_step ?hg (N := 15) ?hd (cs := #[.int .i64 0, .int .u8 0, .slice none 0 0, .int .i64 0, .int .i64 0, .int .i64 0]) (t := 25) ?hr ?_; (case hd => rfl); (case hg => rfl); (case hr => first | (go_simp; done) | (go_simp; rfl))
                        intro gb255 hg w53 hbox hb
                        have n0_ := Aside0.mk (Kd.R_below (pR HO212) hb)
                        have n1_ := Aside0.mk (Kd.R_below (pR HO218) hb)
                        have n2_ := Aside0.mk (Kd.R_below (pR HO225) hb)
                        have n3_ := Aside0.mk (Kd.R_below (pR HO231) hb)
                        have n4_ := Aside0.mk (Kd.R_below (pR HO242) hb)
                        have n5_ := Aside0.mk (Kd.R_below (pR HO247) hb)
                        have n6_ := Aside0.mk (Kd.R_below (pR HO253) hb)
                        have n7_ := Aside0.mk (blk_below (g := gb205) (o := .cells #[.int .i64 a0_0, .int .u8 a0_1, .slice A0_2 l0_2.length c0_2, .int .i64 a0_3, .int .i64 a0_4, .int .i64 a0_5] 25 (0, 0)) (pK BK205) hb)
                        have n8_ := Aside0.mk (blk_below (g := gb220) (o := .cells #[.int .i64 t208, .int .u8 t209, .slice Ao37 t210.length co37, .int .i64 t213, .int .i64 t214, .int .i64 t215] 25 (0, 0)) (pK BK220) hb)
                        have n9_ := Aside0.mk (blk_below (g := gb233) (o := .cells #[.int .i64 t221, .int .u8 t222, .slice Ao43 t223.length co43, .int .i64 t226, .int .i64 t227, .int .i64 t228] 25 (0, 0)) (pK BK233) hb)
                        have n10_ := Aside0.mk (below_step (by repeat (first | (with_reducible first | exact HB.out | apply below_alloc | apply pw_below_drewN | apply below_drew1 | refine below_set ?_ GE205.out | refine below_set ?_ GE220.out | refine below_set ?_ GE233.out) | exact HB.out)) hb)
                        have n11_ := Aside0.mk (hbox)
                        have n12_ := Aside0.mk ((by rw [hg]; exact (below_size (by repeat (first | (with_reducible first | exact HB.out | apply below_alloc | apply pw_below_drewN | apply below_drew1 | refine below_set ?_ GE205.out | refine below_set ?_ GE220.out | refine below_set ?_ GE233.out) | exact HB.out))) : w.heap.size ≤ gb255))
                        have n13_ := Aside0.mk ((by rw [hg]; exact (below_size (by repeat (first | (with_reducible first | exact HB.out | apply below_alloc | apply pw_below_drewN | apply below_drew1 | refine below_set ?_ GE205.out | refine below_set ?_ GE220.out | refine below_set ?_ GE233.out) | exact HB.out))) : w.heap.size ≤ gb255))
                        have n14_ := Aside0.mk ((by rw [hg]; exact Nat.ne_of_lt (blk_lt (g := gb205) (o := .cells #[.int .i64 a0_0, .int .u8 a0_1, .slice A0_2 l0_2.length c0_2, .int .i64 a0_3, .int .i64 a0_4, .int .i64 a0_5] 25 (0, 0)) (pK BK205)) : gb205 ≠ gb255))
                        have n15_ := Aside0.mk ((by rw [hg]; exact Nat.ne_of_gt (blk_lt (g := gb205) (o := .cells #[.int .i64 a0_0, .int .u8 a0_1, .slice A0_2 l0_2.length c0_2, .int .i64 a0_3, .int .i64 a0_4, .int .i64 a0_5] 25 (0, 0)) (pK BK205)) : gb255 ≠ gb205))
                        have n16_ := Aside0.mk ((by rw [hg]; exact Nat.ne_of_lt (blk_lt (g := gb220) (o := .cells #[.int .i64 t208, .int .u8 t209, .slice Ao37 t210.length co37, .int .i64 t213, .int .i64 t214, .int .i64 t215] 25 (0, 0)) (pK BK220)) : gb220 ≠ gb255))
                        have n17_ := Aside0.mk ((by rw [hg]; exact Nat.ne_of_gt (blk_lt (g := gb220) (o := .cells #[.int .i64 t208, .int .u8 t209, .slice Ao37 t210.length co37, .int .i64 t213, .int .i64 t214, .int .i64 t215] 25 (0, 0)) (pK BK220)) : gb255 ≠ gb220))
                        have n18_ := Aside0.mk ((by rw [hg]; exact Nat.ne_of_lt (blk_lt (g := gb233) (o := .cells #[.int .i64 t221, .int .u8 t222, .slice Ao43 t223.length co43, .int .i64 t226, .int .i64 t227, .int .i64 t228] 25 (0, 0)) (pK BK233)) : gb233 ≠ gb255))
                        have n19_ := Aside0.mk ((by rw [hg]; exact Nat.ne_of_gt (blk_lt (g := gb233) (o := .cells #[.int .i64 t221, .int .u8 t222, .slice Ao43 t223.length co43, .int .i64 t226, .int .i64 t227, .int .i64 t228] 25 (0, 0)) (pK BK233)) : gb255 ≠ gb233))
                        clear HO212
                        clear HO218
                        clear HO225
                        clear HO231
                        clear HO242
                        clear HO247
                        clear HO253
                        clear BK205
                        clear BK220
                        clear BK233
                        clear HB
                        have HO212 := n0_
                        have HO218 := n1_
                        have HO225 := n2_
                        have HO231 := n3_
                        have HO242 := n4_
                        have HO247 := n5_
                        have HO253 := n6_
                        have BK205 := n7_
                        have BK220 := n8_
                        have BK233 := n9_
                        have HB := n10_
                        have BK255 := n11_
                        have GW255 := n12_
                        have GE255 := n13_
                        have NB205_255 := n14_
                        have NB255_205 := n15_
                        have NB220_255 := n16_
                        have NB255_220 := n17_
                        have NB233_255 := n18_
                        have NB255_233 := n19_
                        clear n0_ n1_ n2_ n3_ n4_ n5_ n6_ n7_ n8_ n9_ n10_ n11_ n12_ n13_ n14_ n15_ n16_ n17_ n18_ n19_
                        clear hb hbox hg
                        refine hK.out _ _ ⟨(blk_cell BK205.out 0).trans rfl, (blk_cell BK205.out 1).trans rfl, (blk_cell BK205.out 2).trans rfl, (blk_cell BK205.out 3).trans rfl, (blk_cell BK205.out 4).trans rfl, (blk_cell BK205.out 5).trans rfl⟩ (fun hHeld => ?_)
                        clear hK K
                        refine norm_ (a' := ?_) ?_ ?_
                        rotate_left
                        · show Act.put _ (some 15) _ = _
                          simp only [Act.put, List.setIfInBounds_toArray, List.set_cons_zero, List.set_cons_succ, i64_w, i32_w]
                          rfl
                        exact norm_ (by first | (simp only [putAll, Act.put, List.setIfInBounds_toArray, List.set_cons_zero, List.set_cons_succ]; done) | (simp only [putAll, Act.put, List.setIfInBounds_toArray, List.set_cons_zero, List.set_cons_succ]; rfl)) (hJ1_3_5_7_12 (v235, v238, v241, v246, v252, gb255) _ ⟨hHeld, (pR HO212), (pR HO218), (pR HO225), (pR HO231), (pR HO242), (pR HO247), (pR HO253), (pK BK205), (pK BK220), (pK BK233), (pK BK255), GW255.out, GE255.out, NB205_255.out, NB255_205.out, NB220_255.out, NB255_220.out, NB233_255.out, NB255_233.out, (by repeat (first | (with_reducible first | exact HB.out | apply below_alloc | apply pw_below_drewN | apply below_drew1 | refine below_set ?_ GE205.out | refine below_set ?_ GE220.out | refine below_set ?_ GE233.out | refine below_set ?_ GE255.out) | exact HB.out))⟩)
                    rintro ⟨v235, v238, v241, v246, v252, gb255⟩ w53 ⟨hS_, h0_, h1_, h2_, h3_, h4_, h5_, h6_, h7_, h8_, h9_, h10_, h11_, h12_, h13_, h14_, h15_, h16_, h17_, h18_, h19_⟩
                    have n0_ : Aside0 (Kd.R (Kd.int .u8) 5 w53 w.heap.size (fun k_ => some k_ ≠ (v217 : Value).ownBlock ∧ some k_ ≠ (.slice Ao43 t223.length co43 : Value).ownBlock ∧ some k_ ≠ (v230 : Value).ownBlock ∧ some k_ ≠ (v241 : Value).ownBlock ∧ some k_ ≠ (v246 : Value).ownBlock ∧ some k_ ≠ (v252 : Value).ownBlock) (.slice Ao37 t210.length co37) t210) := ⟨h0_⟩
                    have n1_ : Aside0 (Kd.R (Kd.int .u8) 5 w53 w.heap.size (fun k_ => some k_ ≠ (.slice Ao37 t210.length co37 : Value).ownBlock ∧ some k_ ≠ (.slice Ao43 t223.length co43 : Value).ownBlock ∧ some k_ ≠ (v230 : Value).ownBlock ∧ some k_ ≠ (v241 : Value).ownBlock ∧ some k_ ≠ (v246 : Value).ownBlock ∧ some k_ ≠ (v252 : Value).ownBlock) v217 t216) := ⟨h1_⟩
                    have n2_ : Aside0 (Kd.R (Kd.int .u8) 5 w53 w.heap.size (fun k_ => some k_ ≠ (.slice Ao37 t210.length co37 : Value).ownBlock ∧ some k_ ≠ (v217 : Value).ownBlock ∧ some k_ ≠ (v230 : Value).ownBlock ∧ some k_ ≠ (v241 : Value).ownBlock ∧ some k_ ≠ (v246 : Value).ownBlock ∧ some k_ ≠ (v252 : Value).ownBlock) (.slice Ao43 t223.length co43) t223) := ⟨h2_⟩
                    have n3_ : Aside0 (Kd.R (Kd.int .u8) 5 w53 w.heap.size (fun k_ => some k_ ≠ (.slice Ao37 t210.length co37 : Value).ownBlock ∧ some k_ ≠ (v217 : Value).ownBlock ∧ some k_ ≠ (.slice Ao43 t223.length co43 : Value).ownBlock ∧ some k_ ≠ (v241 : Value).ownBlock ∧ some k_ ≠ (v246 : Value).ownBlock ∧ some k_ ≠ (v252 : Value).ownBlock) v230 t229) := ⟨h3_⟩
                    have n4_ : Aside0 (Kd.R (Kd.int .u8) 5 w53 w.heap.size (fun k_ => some k_ ≠ (.slice Ao37 t210.length co37 : Value).ownBlock ∧ some k_ ≠ (v217 : Value).ownBlock ∧ some k_ ≠ (.slice Ao43 t223.length co43 : Value).ownBlock ∧ some k_ ≠ (v230 : Value).ownBlock ∧ some k_ ≠ (v246 : Value).ownBlock ∧ some k_ ≠ (v252 : Value).ownBlock) v241 y240) := ⟨h4_⟩
                    have n5_ : Aside0 (Kd.R (Kd.int .u8) 5 w53 w.heap.size (fun k_ => some k_ ≠ (.slice Ao37 t210.length co37 : Value).ownBlock ∧ some k_ ≠ (v217 : Value).ownBlock ∧ some k_ ≠ (.slice Ao43 t223.length co43 : Value).ownBlock ∧ some k_ ≠ (v230 : Value).ownBlock ∧ some k_ ≠ (v241 : Value).ownBlock ∧ some k_ ≠ (v252 : Value).ownBlock) v246 t245) := ⟨h5_⟩
                    have n6_ : Aside0 (Kd.R (Kd.int .u8) 5 w53 w.heap.size (fun k_ => some k_ ≠ (.slice Ao37 t210.length co37 : Value).ownBlock ∧ some k_ ≠ (v217 : Value).ownBlock ∧ some k_ ≠ (.slice Ao43 t223.length co43 : Value).ownBlock ∧ some k_ ≠ (v230 : Value).ownBlock ∧ some k_ ≠ (v241 : Value).ownBlock ∧ some k_ ≠ (v246 : Value).ownBlock) v252 t251) := ⟨h6_⟩
                    have n7_ : Aside0 (w53.heap[gb205]? = some (.cells #[.int .i64 a0_0, .int .u8 a0_1, .slice A0_2 l0_2.length c0_2, .int .i64 a0_3, .int .i64 a0_4, .int .i64 a0_5] 25 (0, 0))) := ⟨h7_⟩
                    have n8_ : Aside0 (w53.heap[gb220]? = some (.cells #[.int .i64 t208, .int .u8 t209, .slice Ao37 t210.length co37, .int .i64 t213, .int .i64 t214, .int .i64 t215] 25 (0, 0))) := ⟨h8_⟩
                    have n9_ : Aside0 (w53.heap[gb233]? = some (.cells #[.int .i64 t221, .int .u8 t222, .slice Ao43 t223.length co43, .int .i64 t226, .int .i64 t227, .int .i64 t228] 25 (0, 0))) := ⟨h9_⟩
                    have n10_ : Aside0 (w53.heap[gb255]? = some (.cells #[.int .i64 0, .int .u8 0, .slice none 0 0, .int .i64 0, .int .i64 0, .int .i64 0] 25 (0, 0))) := ⟨h10_⟩
                    have n11_ : Aside0 (w.heap.size ≤ gb255) := ⟨h11_⟩
                    have n12_ : Aside0 (w.heap.size ≤ gb255) := ⟨h12_⟩
                    have n13_ : Aside0 (gb205 ≠ gb255) := ⟨h13_⟩
                    have n14_ : Aside0 (gb255 ≠ gb205) := ⟨h14_⟩
                    have n15_ : Aside0 (gb220 ≠ gb255) := ⟨h15_⟩
                    have n16_ : Aside0 (gb255 ≠ gb220) := ⟨h16_⟩
                    have n17_ : Aside0 (gb233 ≠ gb255) := ⟨h17_⟩
                    have n18_ : Aside0 (gb255 ≠ gb233) := ⟨h18_⟩
                    have n19_ : Aside0 (Below w.heap.size w w53) := ⟨h19_⟩
                    clear HO212
                    clear HO218
                    clear HO225
                    clear HO231
                    clear BK205
                    clear BK220
                    clear BK233
                    clear HB
                    clear h0_ h1_ h2_ h3_ h4_ h5_ h6_ h7_ h8_ h9_ h10_ h11_ h12_ h13_ h14_ h15_ h16_ h17_ h18_ h19_
                    have HO212 := n0_
                    have HO218 := n1_
                    have HO225 := n2_
                    have HO231 := n3_
                    have HO242 := n4_
                    have HO247 := n5_
                    have HO253 := n6_
                    have BK205 := n7_
                    have BK220 := n8_
                    have BK233 := n9_
                    have BK255 := n10_
                    have GW255 := n11_
                    have GE255 := n12_
                    have NB205_255 := n13_
                    have NB255_205 := n14_
                    have NB220_255 := n15_
                    have NB255_220 := n16_
                    have NB233_255 := n17_
                    have NB255_233 := n18_
                    have HB := n19_
                    clear n0_ n1_ n2_ n3_ n4_ n5_ n6_ n7_ n8_ n9_ n10_ n11_ n12_ n13_ n14_ n15_ n16_ n17_ n18_ n19_
                    have hHeld : w53.cell? ⟨gb205, 0, none⟩ = some (.int .i64 a0_0) ∧ w53.cell? ⟨gb205, 1, none⟩ = some (.int .u8 a0_1) ∧ w53.cell? ⟨gb205, 2, none⟩ = some (.slice A0_2 l0_2.length c0_2) ∧ w53.cell? ⟨gb205, 3, none⟩ = some (.int .i64 a0_3) ∧ w53.cell? ⟨gb205, 4, none⟩ = some (.int .i64 a0_4) ∧ w53.cell? ⟨gb205, 5, none⟩ = some (.int .i64 a0_5) := hS_
                    obtain ⟨Ao56, co56, eo56⟩ := Kd.R_slice HO247.out
                    (first | subst eo56 | (injection eo56 with f1_ f2_ f3_; have f4_ := f1_.symm; have f5_ := f3_.symm; clear f1_ f2_ f3_; subst f4_; subst f5_))
                    refine norm_ (a' := ?_) ?_ ?_
                    rotate_left
                    · simp only [putAll, Act.put, List.setIfInBounds_toArray, List.set_cons_zero, List.set_cons_succ]
                      rfl
                    refine one_ (i := 13) (N := none) #[true, true, true, true, true, true, true, true, true, true, true, true, true, true, false, false] rfl rfl (one_of HT_.out (by kernel_rfl)) (by decide) (fun K hK => ?_)
                    have hs54 : w53.cell? ⟨gb255, 0, none⟩ = some (.int .i64 0) := (blk_cell BK255.out 0).trans rfl
                    have hfs54 := blk_frozen BK255.out 0
                    have hns54_0 := NB205_255.out
                    have hns54_1 := NB220_255.out
                    have hns54_2 := NB233_255.out
                    have hms54_0 := NB255_205.out
                    have hms54_1 := NB255_220.out
                    have hms54_2 := NB255_233.out
                    have hs55 : w53.cell? ⟨gb255, 1, none⟩ = some (.int .u8 0) := (blk_cell BK255.out 1).trans rfl
                    have hfs55 := blk_frozen BK255.out 1
                    have hns55_0 := NB205_255.out
                    have hns55_1 := NB220_255.out
                    have hns55_2 := NB233_255.out
                    have hms55_0 := NB255_205.out
                    have hms55_1 := NB255_220.out
                    have hms55_2 := NB255_233.out
                    have hs57 : w53.cell? ⟨gb255, 2, none⟩ = some (.slice none 0 0) := (blk_cell BK255.out 2).trans rfl
                    have hfs57 := blk_frozen BK255.out 2
                    have hns57_0 := NB205_255.out
                    have hns57_1 := NB220_255.out
                    have hns57_2 := NB233_255.out
                    have hms57_0 := NB255_205.out
                    have hms57_1 := NB255_220.out
                    have hms57_2 := NB255_233.out
                    have hs58 : w53.cell? ⟨gb255, 3, none⟩ = some (.int .i64 0) := (blk_cell BK255.out 3).trans rfl
                    have hfs58 := blk_frozen BK255.out 3
                    have hns58_0 := NB205_255.out
                    have hns58_1 := NB220_255.out
                    have hns58_2 := NB233_255.out
                    have hms58_0 := NB255_205.out
                    have hms58_1 := NB255_220.out
                    have hms58_2 := NB255_233.out
                    have hs59 : w53.cell? ⟨gb255, 4, none⟩ = some (.int .i64 0) := (blk_cell BK255.out 4).trans rfl
                    have hfs59 := blk_frozen BK255.out 4
                    have hns59_0 := NB205_255.out
                    have hns59_1 := NB220_255.out
                    have hns59_2 := NB233_255.out
                    have hms59_0 := NB255_205.out
                    have hms59_1 := NB255_220.out
                    have hms59_2 := NB255_233.out
                    have hs60 : w53.cell? ⟨gb255, 5, none⟩ = some (.int .i64 0) := (blk_cell BK255.out 5).trans rfl
                    have hfs60 := blk_frozen BK255.out 5
                    have hns60_0 := NB205_255.out
                    have hns60_1 := NB220_255.out
                    have hns60_2 := NB233_255.out
                    have hms60_0 := NB255_205.out
                    have hms60_1 := NB255_220.out
                    have hms60_2 := NB255_233.out
                    refine skip_ (w1 := ?_) (by rfl) rfl ?_ ?_
                    rotate_left
                    · go_simp
                      rfl
                    refine hK.out _ _ ⟨((cell_far (p := ⟨gb255, _, none⟩) NB205_255.out _).trans (((cell_far (p := ⟨gb255, _, none⟩) NB205_255.out _).trans (((cell_far (p := ⟨gb255, _, none⟩) NB205_255.out _).trans (((cell_far (p := ⟨gb255, _, none⟩) NB205_255.out _).trans (((cell_far (p := ⟨gb255, _, none⟩) NB205_255.out _).trans (((cell_far (p := ⟨gb255, _, none⟩) NB205_255.out _).trans (hHeld.1)))))))))))), ((cell_far (p := ⟨gb255, _, none⟩) NB205_255.out _).trans (((cell_far (p := ⟨gb255, _, none⟩) NB205_255.out _).trans (((cell_far (p := ⟨gb255, _, none⟩) NB205_255.out _).trans (((cell_far (p := ⟨gb255, _, none⟩) NB205_255.out _).trans (((cell_far (p := ⟨gb255, _, none⟩) NB205_255.out _).trans (((cell_far (p := ⟨gb255, _, none⟩) NB205_255.out _).trans (hHeld.2.1)))))))))))), ((cell_far (p := ⟨gb255, _, none⟩) NB205_255.out _).trans (((cell_far (p := ⟨gb255, _, none⟩) NB205_255.out _).trans (((cell_far (p := ⟨gb255, _, none⟩) NB205_255.out _).trans (((cell_far (p := ⟨gb255, _, none⟩) NB205_255.out _).trans (((cell_far (p := ⟨gb255, _, none⟩) NB205_255.out _).trans (((cell_far (p := ⟨gb255, _, none⟩) NB205_255.out _).trans (hHeld.2.2.1)))))))))))), ((cell_far (p := ⟨gb255, _, none⟩) NB205_255.out _).trans (((cell_far (p := ⟨gb255, _, none⟩) NB205_255.out _).trans (((cell_far (p := ⟨gb255, _, none⟩) NB205_255.out _).trans (((cell_far (p := ⟨gb255, _, none⟩) NB205_255.out _).trans (((cell_far (p := ⟨gb255, _, none⟩) NB205_255.out _).trans (((cell_far (p := ⟨gb255, _, none⟩) NB205_255.out _).trans (hHeld.2.2.2.1)))))))))))), ((cell_far (p := ⟨gb255, _, none⟩) NB205_255.out _).trans (((cell_far (p := ⟨gb255, _, none⟩) NB205_255.out _).trans (((cell_far (p := ⟨gb255, _, none⟩) NB205_255.out _).trans (((cell_far (p := ⟨gb255, _, none⟩) NB205_255.out _).trans (((cell_far (p := ⟨gb255, _, none⟩) NB205_255.out _).trans (((cell_far (p := ⟨gb255, _, none⟩) NB205_255.out _).trans (hHeld.2.2.2.2.1)))))))))))), ((cell_far (p := ⟨gb255, _, none⟩) NB205_255.out _).trans (((cell_far (p := ⟨gb255, _, none⟩) NB205_255.out _).trans (((cell_far (p := ⟨gb255, _, none⟩) NB205_255.out _).trans (((cell_far (p := ⟨gb255, _, none⟩) NB205_255.out _).trans (((cell_far (p := ⟨gb255, _, none⟩) NB205_255.out _).trans (((cell_far (p := ⟨gb255, _, none⟩) NB205_255.out _).trans (hHeld.2.2.2.2.2))))))))))))⟩ (fun hHeld => ?_)
                    clear hK K
                    refine pure_ (i := 14) (N := some 16) (v := ?_) (a' := ?_) #[true, true, true, true, true, true, true, true, true, true, true, true, true, true, true, false] rfl rfl (any_of HT_.out (by kernel_rfl)) (fun _ _ _ h => h) (Or.inl ⟨by rfl, ?_⟩) ?_ ?_
                    rotate_left
                    · intro w'
                      go_simp
                      with_reducible rfl
                    rotate_left
                    · simp only [Act.put, List.setIfInBounds_toArray, List.set_cons_zero, List.set_cons_succ, i64_w, i32_w]
                      rfl
                    refine pure_ (i := 15) (N := some 17) (v := ?_) (a' := ?_) #[true, true, true, true, true, true, true, true, true, true, true, true, true, true, true, true] rfl rfl (any_of HT_.out (by kernel_rfl)) (fun _ _ _ h => h) (Or.inl ⟨by rfl, ?_⟩) ?_ ?_
                    rotate_left
                    · intro w'
                      go_simp
                      with_reducible rfl
                    rotate_left
                    · simp only [Act.put, List.setIfInBounds_toArray, List.set_cons_zero, List.set_cons_succ, i64_w, i32_w]
                      rfl
                    refine done_ (done_of HT_.out (by kernel_rfl)) ?_
                    have hnb61 := NB233_255.out
                    have hnc61 := NB255_233.out
                    have hcz62_0 : w53.cell? ⟨gb233, 0, none⟩ = some (.int .i64 t221) := (blk_cell BK233.out 0).trans rfl
                    have hcz62_1 : w53.cell? ⟨gb233, 1, none⟩ = some (.int .u8 t222) := (blk_cell BK233.out 1).trans rfl
                    have hcz62_2 : w53.cell? ⟨gb233, 2, none⟩ = some (.slice Ao43 t223.length co43) := (blk_cell BK233.out 2).trans rfl
                    have hcz62_3 : w53.cell? ⟨gb233, 3, none⟩ = some (.int .i64 t226) := (blk_cell BK233.out 3).trans rfl
                    have hcz62_4 : w53.cell? ⟨gb233, 4, none⟩ = some (.int .i64 t227) := (blk_cell BK233.out 4).trans rfl
                    have hcz62_5 : w53.cell? ⟨gb233, 5, none⟩ = some (.int .i64 t228) := (blk_cell BK233.out 5).trans rfl
                    have hfz62_0 := blk_frozen BK233.out 0
                    have hfz62_1 := blk_frozen BK233.out 1
                    have hfz62_2 := blk_frozen BK233.out 2
                    have hfz62_3 := blk_frozen BK233.out 3
                    have hfz62_4 := blk_frozen BK233.out 4
                    have hfz62_5 := blk_frozen BK233.out 5
                    have hnb63 := NB255_205.out
                    have hnc63 := NB205_255.out
                    have hnb64 := NB255_220.out
                    have hnc64 := NB220_255.out
                    have hcz65_0 : w53.cell? ⟨gb255, 0, none⟩ = some (.int .i64 0) := (blk_cell BK255.out 0).trans rfl
                    have hcz65_1 : w53.cell? ⟨gb255, 1, none⟩ = some (.int .u8 0) := (blk_cell BK255.out 1).trans rfl
                    have hcz65_2 : w53.cell? ⟨gb255, 2, none⟩ = some (.slice none 0 0) := (blk_cell BK255.out 2).trans rfl
                    have hcz65_3 : w53.cell? ⟨gb255, 3, none⟩ = some (.int .i64 0) := (blk_cell BK255.out 3).trans rfl
                    have hcz65_4 : w53.cell? ⟨gb255, 4, none⟩ = some (.int .i64 0) := (blk_cell BK255.out 4).trans rfl
                    have hcz65_5 : w53.cell? ⟨gb255, 5, none⟩ = some (.int .i64 0) := (blk_cell BK255.out 5).trans rfl
                    have hfz65_0 := blk_frozen BK255.out 0
                    have hfz65_1 := blk_frozen BK255.out 1
                    have hfz65_2 := blk_frozen BK255.out 2
                    have hfz65_3 := blk_frozen BK255.out 3
                    have hfz65_4 := blk_frozen BK255.out 4
                    have hfz65_5 := blk_frozen BK255.out 5
                    try go_wp2_with (first | ((with_reducible refine gate_callee (f := 13) rfl ?_); refine goesL_ (some 67) rfl rfl Tryd.func13 (by kernel_rfl) rfl #[.agg #[.int .i64 t221, .int .u8 t222, .slice Ao43 t223.length co43, .int .i64 t226, .int .i64 t227, .int .i64 t228], .agg #[.int .i64 t243, .int .u8 t244, .slice Ao56 t245.length co56, .int .i64 t248, .int .i64 t249, .int .i64 t250]] rfl pM ?_; (with_reducible refine (capnpref25_Same.calls kj4 t221 t222 _ _ t223 t226 t227 t228 t243 t244 _ _ t245 t248 t249 t250 true _ ?side1 ?side2 ?side3 ?side4 A26.out).mono ?_); (case side1 => refine (Kd.R_reads' (e := 5) (base := w.heap.size) (ok := fun k_ => (some k_ ≠ (.slice Ao37 t210.length co37 : Value).ownBlock ∧ (some k_ ≠ (v217 : Value).ownBlock ∧ (some k_ ≠ (v230 : Value).ownBlock ∧ (some k_ ≠ (v241 : Value).ownBlock ∧ (some k_ ≠ (.slice Ao56 t245.length co56 : Value).ownBlock ∧ some k_ ≠ (v252 : Value).ownBlock)))))) (n := t223.length) (c := co43) ?_).2.2; exact (by (with_reducible repeat (first | apply Kd.R_alloc | apply Kd.R_drewN | apply Kd.R_drew)); exact (Kd.R_mono (Kd.R_far (p := ⟨gb255, 5, none⟩) (Kd.R_far (p := ⟨gb255, 4, none⟩) (Kd.R_far (p := ⟨gb255, 3, none⟩) (Kd.R_far (p := ⟨gb255, 2, none⟩) (Kd.R_far (p := ⟨gb255, 1, none⟩) (Kd.R_far (p := ⟨gb255, 0, none⟩) (Kd.R_types HO225.out BK255.out (by decide)) (fun _ hk => hk.2) (.int .i64 t243)) (fun _ hk => hk.2) (.int .u8 t244)) (fun _ hk => hk.2) (.slice Ao56 t245.length co56)) (fun _ hk => hk.2) (.int .i64 t248)) (fun _ hk => hk.2) (.int .i64 t249)) (fun _ hk => hk.2) (.int .i64 t250)) (fun _ h_ => h_.1)))); (case side2 => exact (Kd.R_reads' HO225.out).2.1); (case side3 => refine (Kd.R_reads' (e := 5) (base := w.heap.size) (ok := fun k_ => (some k_ ≠ (.slice Ao37 t210.length co37 : Value).ownBlock ∧ (some k_ ≠ (v217 : Value).ownBlock ∧ (some k_ ≠ (.slice Ao43 t223.length co43 : Value).ownBlock ∧ (some k_ ≠ (v230 : Value).ownBlock ∧ (some k_ ≠ (v241 : Value).ownBlock ∧ some k_ ≠ (v252 : Value).ownBlock)))))) (n := t245.length) (c := co56) ?_).2.2; exact (by (with_reducible repeat (first | apply Kd.R_alloc | apply Kd.R_drewN | apply Kd.R_drew)); exact (Kd.R_mono (Kd.R_far (p := ⟨gb255, 5, none⟩) (Kd.R_far (p := ⟨gb255, 4, none⟩) (Kd.R_far (p := ⟨gb255, 3, none⟩) (Kd.R_far (p := ⟨gb255, 2, none⟩) (Kd.R_far (p := ⟨gb255, 1, none⟩) (Kd.R_far (p := ⟨gb255, 0, none⟩) (Kd.R_types HO247.out BK255.out (by decide)) (fun _ hk => hk.2) (.int .i64 t243)) (fun _ hk => hk.2) (.int .u8 t244)) (fun _ hk => hk.2) (.slice Ao56 t245.length co56)) (fun _ hk => hk.2) (.int .i64 t248)) (fun _ hk => hk.2) (.int .i64 t249)) (fun _ hk => hk.2) (.int .i64 t250)) (fun _ h_ => h_.1)))); (case side4 => exact (Kd.R_reads' HO247.out).2.1); rintro e w66 ⟨rfl, hb⟩; refine ⟨_, rfl, ?_⟩; have n0_ := Aside0.mk (Kd.R_below (by (with_reducible repeat (first | apply Kd.R_alloc | apply Kd.R_drewN | apply Kd.R_drew)); exact (Kd.R_mono (Kd.R_far (p := ⟨gb255, 5, none⟩) (Kd.R_far (p := ⟨gb255, 4, none⟩) (Kd.R_far (p := ⟨gb255, 3, none⟩) (Kd.R_far (p := ⟨gb255, 2, none⟩) (Kd.R_far (p := ⟨gb255, 1, none⟩) (Kd.R_far (p := ⟨gb255, 0, none⟩) (Kd.R_types HO212.out BK255.out (by decide)) (fun _ hk => hk.2) (.int .i64 t243)) (fun _ hk => hk.2) (.int .u8 t244)) (fun _ hk => hk.2) (.slice Ao56 t245.length co56)) (fun _ hk => hk.2) (.int .i64 t248)) (fun _ hk => hk.2) (.int .i64 t249)) (fun _ hk => hk.2) (.int .i64 t250)) (fun _ h_ => h_.1))) hb); have n1_ := Aside0.mk (Kd.R_below (by (with_reducible repeat (first | apply Kd.R_alloc | apply Kd.R_drewN | apply Kd.R_drew)); exact (Kd.R_mono (Kd.R_far (p := ⟨gb255, 5, none⟩) (Kd.R_far (p := ⟨gb255, 4, none⟩) (Kd.R_far (p := ⟨gb255, 3, none⟩) (Kd.R_far (p := ⟨gb255, 2, none⟩) (Kd.R_far (p := ⟨gb255, 1, none⟩) (Kd.R_far (p := ⟨gb255, 0, none⟩) (Kd.R_types HO218.out BK255.out (by decide)) (fun _ hk => hk.2) (.int .i64 t243)) (fun _ hk => hk.2) (.int .u8 t244)) (fun _ hk => hk.2) (.slice Ao56 t245.length co56)) (fun _ hk => hk.2) (.int .i64 t248)) (fun _ hk => hk.2) (.int .i64 t249)) (fun _ hk => hk.2) (.int .i64 t250)) (fun _ h_ => h_.1))) hb); have n2_ := Aside0.mk (Kd.R_below (by (with_reducible repeat (first | apply Kd.R_alloc | apply Kd.R_drewN | apply Kd.R_drew)); exact (Kd.R_mono (Kd.R_far (p := ⟨gb255, 5, none⟩) (Kd.R_far (p := ⟨gb255, 4, none⟩) (Kd.R_far (p := ⟨gb255, 3, none⟩) (Kd.R_far (p := ⟨gb255, 2, none⟩) (Kd.R_far (p := ⟨gb255, 1, none⟩) (Kd.R_far (p := ⟨gb255, 0, none⟩) (Kd.R_types HO225.out BK255.out (by decide)) (fun _ hk => hk.2) (.int .i64 t243)) (fun _ hk => hk.2) (.int .u8 t244)) (fun _ hk => hk.2) (.slice Ao56 t245.length co56)) (fun _ hk => hk.2) (.int .i64 t248)) (fun _ hk => hk.2) (.int .i64 t249)) (fun _ hk => hk.2) (.int .i64 t250)) (fun _ h_ => h_.1))) hb); have n3_ := Aside0.mk (Kd.R_below (by (with_reducible repeat (first | apply Kd.R_alloc | apply Kd.R_drewN | apply Kd.R_drew)); exact (Kd.R_mono (Kd.R_far (p := ⟨gb255, 5, none⟩) (Kd.R_far (p := ⟨gb255, 4, none⟩) (Kd.R_far (p := ⟨gb255, 3, none⟩) (Kd.R_far (p := ⟨gb255, 2, none⟩) (Kd.R_far (p := ⟨gb255, 1, none⟩) (Kd.R_far (p := ⟨gb255, 0, none⟩) (Kd.R_types HO231.out BK255.out (by decide)) (fun _ hk => hk.2) (.int .i64 t243)) (fun _ hk => hk.2) (.int .u8 t244)) (fun _ hk => hk.2) (.slice Ao56 t245.length co56)) (fun _ hk => hk.2) (.int .i64 t248)) (fun _ hk => hk.2) (.int .i64 t249)) (fun _ hk => hk.2) (.int .i64 t250)) (fun _ h_ => h_.1))) hb); have n4_ := Aside0.mk (Kd.R_below (by (with_reducible repeat (first | apply Kd.R_alloc | apply Kd.R_drewN | apply Kd.R_drew)); exact (Kd.R_mono (Kd.R_far (p := ⟨gb255, 5, none⟩) (Kd.R_far (p := ⟨gb255, 4, none⟩) (Kd.R_far (p := ⟨gb255, 3, none⟩) (Kd.R_far (p := ⟨gb255, 2, none⟩) (Kd.R_far (p := ⟨gb255, 1, none⟩) (Kd.R_far (p := ⟨gb255, 0, none⟩) (Kd.R_types HO242.out BK255.out (by decide)) (fun _ hk => hk.2) (.int .i64 t243)) (fun _ hk => hk.2) (.int .u8 t244)) (fun _ hk => hk.2) (.slice Ao56 t245.length co56)) (fun _ hk => hk.2) (.int .i64 t248)) (fun _ hk => hk.2) (.int .i64 t249)) (fun _ hk => hk.2) (.int .i64 t250)) (fun _ h_ => h_.1))) hb); have n5_ := Aside0.mk (Kd.R_below (by (with_reducible repeat (first | apply Kd.R_alloc | apply Kd.R_drewN | apply Kd.R_drew)); exact (Kd.R_mono (Kd.R_far (p := ⟨gb255, 5, none⟩) (Kd.R_far (p := ⟨gb255, 4, none⟩) (Kd.R_far (p := ⟨gb255, 3, none⟩) (Kd.R_far (p := ⟨gb255, 2, none⟩) (Kd.R_far (p := ⟨gb255, 1, none⟩) (Kd.R_far (p := ⟨gb255, 0, none⟩) (Kd.R_types HO247.out BK255.out (by decide)) (fun _ hk => hk.2) (.int .i64 t243)) (fun _ hk => hk.2) (.int .u8 t244)) (fun _ hk => hk.2) (.slice Ao56 t245.length co56)) (fun _ hk => hk.2) (.int .i64 t248)) (fun _ hk => hk.2) (.int .i64 t249)) (fun _ hk => hk.2) (.int .i64 t250)) (fun _ h_ => h_.1))) hb); have n6_ := Aside0.mk (Kd.R_below (by (with_reducible repeat (first | apply Kd.R_alloc | apply Kd.R_drewN | apply Kd.R_drew)); exact (Kd.R_mono (Kd.R_far (p := ⟨gb255, 5, none⟩) (Kd.R_far (p := ⟨gb255, 4, none⟩) (Kd.R_far (p := ⟨gb255, 3, none⟩) (Kd.R_far (p := ⟨gb255, 2, none⟩) (Kd.R_far (p := ⟨gb255, 1, none⟩) (Kd.R_far (p := ⟨gb255, 0, none⟩) (Kd.R_types HO253.out BK255.out (by decide)) (fun _ hk => hk.2) (.int .i64 t243)) (fun _ hk => hk.2) (.int .u8 t244)) (fun _ hk => hk.2) (.slice Ao56 t245.length co56)) (fun _ hk => hk.2) (.int .i64 t248)) (fun _ hk => hk.2) (.int .i64 t249)) (fun _ hk => hk.2) (.int .i64 t250)) (fun _ h_ => h_.1))) hb); have n7_ := Aside0.mk (blk_below (g := gb205) (o := .cells #[.int .i64 a0_0, .int .u8 a0_1, .slice A0_2 l0_2.length c0_2, .int .i64 a0_3, .int .i64 a0_4, .int .i64 a0_5] 25 (0, 0)) (by (with_reducible repeat (first | refine blk_drewN ?_ _ | refine blk_drew ?_ | refine blk_alloc ?_ _)); refine blk_far ?_ NB205_255.out _; (with_reducible repeat (first | refine blk_drewN ?_ _ | refine blk_drew ?_ | refine blk_alloc ?_ _)); refine blk_far ?_ NB205_255.out _; (with_reducible repeat (first | refine blk_drewN ?_ _ | refine blk_drew ?_ | refine blk_alloc ?_ _)); refine blk_far ?_ NB205_255.out _; (with_reducible repeat (first | refine blk_drewN ?_ _ | refine blk_drew ?_ | refine blk_alloc ?_ _)); refine blk_far ?_ NB205_255.out _; (with_reducible repeat (first | refine blk_drewN ?_ _ | refine blk_drew ?_ | refine blk_alloc ?_ _)); refine blk_far ?_ NB205_255.out _; (with_reducible repeat (first | refine blk_drewN ?_ _ | refine blk_drew ?_ | refine blk_alloc ?_ _)); refine blk_far ?_ NB205_255.out _; (with_reducible repeat (first | refine blk_drewN ?_ _ | refine blk_drew ?_ | refine blk_alloc ?_ _)); exact BK205.out) hb); have n8_ := Aside0.mk (blk_below (g := gb220) (o := .cells #[.int .i64 t208, .int .u8 t209, .slice Ao37 t210.length co37, .int .i64 t213, .int .i64 t214, .int .i64 t215] 25 (0, 0)) (by (with_reducible repeat (first | refine blk_drewN ?_ _ | refine blk_drew ?_ | refine blk_alloc ?_ _)); refine blk_far ?_ NB220_255.out _; (with_reducible repeat (first | refine blk_drewN ?_ _ | refine blk_drew ?_ | refine blk_alloc ?_ _)); refine blk_far ?_ NB220_255.out _; (with_reducible repeat (first | refine blk_drewN ?_ _ | refine blk_drew ?_ | refine blk_alloc ?_ _)); refine blk_far ?_ NB220_255.out _; (with_reducible repeat (first | refine blk_drewN ?_ _ | refine blk_drew ?_ | refine blk_alloc ?_ _)); refine blk_far ?_ NB220_255.out _; (with_reducible repeat (first | refine blk_drewN ?_ _ | refine blk_drew ?_ | refine blk_alloc ?_ _)); refine blk_far ?_ NB220_255.out _; (with_reducible repeat (first | refine blk_drewN ?_ _ | refine blk_drew ?_ | refine blk_alloc ?_ _)); refine blk_far ?_ NB220_255.out _; (with_reducible repeat (first | refine blk_drewN ?_ _ | refine blk_drew ?_ | refine blk_alloc ?_ _)); exact BK220.out) hb); have n9_ := Aside0.mk (blk_below (g := gb233) (o := .cells #[.int .i64 t221, .int .u8 t222, .slice Ao43 t223.length co43, .int .i64 t226, .int .i64 t227, .int .i64 t228] 25 (0, 0)) (by (with_reducible repeat (first | refine blk_drewN ?_ _ | refine blk_drew ?_ | refine blk_alloc ?_ _)); refine blk_far ?_ NB233_255.out _; (with_reducible repeat (first | refine blk_drewN ?_ _ | refine blk_drew ?_ | refine blk_alloc ?_ _)); refine blk_far ?_ NB233_255.out _; (with_reducible repeat (first | refine blk_drewN ?_ _ | refine blk_drew ?_ | refine blk_alloc ?_ _)); refine blk_far ?_ NB233_255.out _; (with_reducible repeat (first | refine blk_drewN ?_ _ | refine blk_drew ?_ | refine blk_alloc ?_ _)); refine blk_far ?_ NB233_255.out _; (with_reducible repeat (first | refine blk_drewN ?_ _ | refine blk_drew ?_ | refine blk_alloc ?_ _)); refine blk_far ?_ NB233_255.out _; (with_reducible repeat (first | refine blk_drewN ?_ _ | refine blk_drew ?_ | refine blk_alloc ?_ _)); refine blk_far ?_ NB233_255.out _; (with_reducible repeat (first | refine blk_drewN ?_ _ | refine blk_drew ?_ | refine blk_alloc ?_ _)); exact BK233.out) hb); have n10_ := Aside0.mk (blk_below (g := gb255) (o := .cells #[.int .i64 t243, .int .u8 t244, .slice Ao56 t245.length co56, .int .i64 t248, .int .i64 t249, .int .i64 t250] 25 (0, 0)) (by (with_reducible repeat (first | refine blk_drewN ?_ _ | refine blk_drew ?_ | refine blk_alloc ?_ _)); refine blk_put (cs := #[.int .i64 t243, .int .u8 t244, .slice Ao56 t245.length co56, .int .i64 t248, .int .i64 t249, .int .i64 0]) ?_ 5 _ rfl; (with_reducible repeat (first | refine blk_drewN ?_ _ | refine blk_drew ?_ | refine blk_alloc ?_ _)); refine blk_put (cs := #[.int .i64 t243, .int .u8 t244, .slice Ao56 t245.length co56, .int .i64 t248, .int .i64 0, .int .i64 0]) ?_ 4 _ rfl; (with_reducible repeat (first | refine blk_drewN ?_ _ | refine blk_drew ?_ | refine blk_alloc ?_ _)); refine blk_put (cs := #[.int .i64 t243, .int .u8 t244, .slice Ao56 t245.length co56, .int .i64 0, .int .i64 0, .int .i64 0]) ?_ 3 _ rfl; (with_reducible repeat (first | refine blk_drewN ?_ _ | refine blk_drew ?_ | refine blk_alloc ?_ _)); refine blk_put (cs := #[.int .i64 t243, .int .u8 t244, .slice none 0 0, .int .i64 0, .int .i64 0, .int .i64 0]) ?_ 2 _ rfl; (with_reducible repeat (first | refine blk_drewN ?_ _ | refine blk_drew ?_ | refine blk_alloc ?_ _)); refine blk_put (cs := #[.int .i64 t243, .int .u8 0, .slice none 0 0, .int .i64 0, .int .i64 0, .int .i64 0]) ?_ 1 _ rfl; (with_reducible repeat (first | refine blk_drewN ?_ _ | refine blk_drew ?_ | refine blk_alloc ?_ _)); refine blk_put (cs := #[.int .i64 0, .int .u8 0, .slice none 0 0, .int .i64 0, .int .i64 0, .int .i64 0]) ?_ 0 _ rfl; (with_reducible repeat (first | refine blk_drewN ?_ _ | refine blk_drew ?_ | refine blk_alloc ?_ _)); exact BK255.out) hb); have n11_ := Aside0.mk (below_step (by repeat (first | (with_reducible first | exact HB.out | apply below_alloc | apply pw_below_drewN | apply below_drew1 | refine below_set ?_ GE205.out | refine below_set ?_ GE220.out | refine below_set ?_ GE233.out | refine below_set ?_ GE255.out) | exact HB.out)) hb); clear HO212; clear HO218; clear HO225; clear HO231; clear HO242; clear HO247; clear HO253; clear BK205; clear BK220; clear BK233; clear BK255; clear HB; have HO212 := n0_; have HO218 := n1_; have HO225 := n2_; have HO231 := n3_; have HO242 := n4_; have HO247 := n5_; have HO253 := n6_; have BK205 := n7_; have BK220 := n8_; have BK233 := n9_; have BK255 := n10_; have HB := n11_; clear n0_ n1_ n2_ n3_ n4_ n5_ n6_ n7_ n8_ n9_ n10_ n11_; (try clear hb); (try clear hb2); (try clear hk); (try clear hi)) | ((with_reducible refine gate_dst (N := 69) rfl ?_); (try (refine gate_guard (by rfl) ?_; dsimp only)); refine Kd.R_lit (Kd.int .u8) _ 5 ?hg (N := 69) ?hd (xs := ([] : List Int)) (inner := []) (ok := fun _ => True) (okp := fun _ => True) ?hr ?hp (fun _ hk => hk) trivial (Below.refl _ _) (Nat.le_refl _) (by simp) ?_; (case hd => rfl); (case hg => rfl); (case hr => first | (go_simp; done) | (go_simp; rfl)); (case hp => exact (Reps.none _ _)); intro v258 w67 ho68 hb hg_ hnew_; clear hg_ hnew_; (first | rw [← Ny257.out] at ho68 | (simp only [Int.reduceToNat] at ho68; rw [← Ny257.out] at ho68)); have n0_ := Aside0.mk (Kd.R_elder' (pR HO212) (Kd.R_base ho68) hb); have n1_ := Aside0.mk (Kd.R_elder' (pR HO218) (Kd.R_base ho68) hb); have n2_ := Aside0.mk (Kd.R_elder' (pR HO225) (Kd.R_base ho68) hb); have n3_ := Aside0.mk (Kd.R_elder' (pR HO231) (Kd.R_base ho68) hb); have n4_ := Aside0.mk (Kd.R_elder' (pR HO242) (Kd.R_base ho68) hb); have n5_ := Aside0.mk (Kd.R_elder' (pR HO247) (Kd.R_base ho68) hb); have n6_ := Aside0.mk (Kd.R_elder' (pR HO253) (Kd.R_base ho68) hb); have n7_ := Aside0.mk (Kd.R_lower (Kd.R_new' (Kd.R_new' (Kd.R_new' (Kd.R_new' (Kd.R_new' (Kd.R_new' (Kd.R_new' ho68 (Kd.R_lt (pR HO212))) (Kd.R_lt (pR HO218))) (Kd.R_lt (pR HO225))) (Kd.R_lt (pR HO231))) (Kd.R_lt (pR HO242))) (Kd.R_lt (pR HO247))) (Kd.R_lt (pR HO253))) (below_size (by repeat (first | (with_reducible first | exact HB.out | apply below_alloc | apply pw_below_drewN | apply below_drew1 | refine below_set ?_ GE205.out | refine below_set ?_ GE220.out | refine below_set ?_ GE233.out | refine below_set ?_ GE255.out) | exact HB.out)))); have n8_ := Aside0.mk (blk_below (g := gb205) (o := .cells #[.int .i64 a0_0, .int .u8 a0_1, .slice A0_2 l0_2.length c0_2, .int .i64 a0_3, .int .i64 a0_4, .int .i64 a0_5] 25 (0, 0)) (pK BK205) hb); have n9_ := Aside0.mk (blk_below (g := gb220) (o := .cells #[.int .i64 t208, .int .u8 t209, .slice Ao37 t210.length co37, .int .i64 t213, .int .i64 t214, .int .i64 t215] 25 (0, 0)) (pK BK220) hb); have n10_ := Aside0.mk (blk_below (g := gb233) (o := .cells #[.int .i64 t221, .int .u8 t222, .slice Ao43 t223.length co43, .int .i64 t226, .int .i64 t227, .int .i64 t228] 25 (0, 0)) (pK BK233) hb); have n11_ := Aside0.mk (blk_below (g := gb255) (o := .cells #[.int .i64 t243, .int .u8 t244, .slice Ao56 t245.length co56, .int .i64 t248, .int .i64 t249, .int .i64 t250] 25 (0, 0)) (pK BK255) hb); have n12_ := Aside0.mk (below_step (by repeat (first | (with_reducible first | exact HB.out | apply below_alloc | apply pw_below_drewN | apply below_drew1 | refine below_set ?_ GE205.out | refine below_set ?_ GE220.out | refine below_set ?_ GE233.out | refine below_set ?_ GE255.out) | exact HB.out)) hb); clear HO212; clear HO218; clear HO225; clear HO231; clear HO242; clear HO247; clear HO253; clear BK205; clear BK220; clear BK233; clear BK255; clear HB; have HO212 := n0_; have HO218 := n1_; have HO225 := n2_; have HO231 := n3_; have HO242 := n4_; have HO247 := n5_; have HO253 := n6_; have HO259 := n7_; have BK205 := n8_; have BK220 := n9_; have BK233 := n10_; have BK255 := n11_; have HB := n12_; clear n0_ n1_ n2_ n3_ n4_ n5_ n6_ n7_ n8_ n9_ n10_ n11_ n12_; clear hb ho68; obtain ⟨Ao70, co70, eo70⟩ := Kd.R_slice HO218.out; subst eo70) | ((with_reducible refine gate_builtin (b := .append) (xs := #[.tmp 69, .tmp 70]) rfl ?_); (try (refine gate_guard (by rfl) ?_; dsimp only)); at_builtin; refine Kd.R_append_rows (Kd.int .u8) (w0 := w) w.heap.size rfl (.tmp 69) (.tmp 70) 22 5 (.int .u8 0) 1 rfl Tryd.underlying22 info5 rfl (by decide) (by omega) v258 y257 t216 _ _ _ (fun k_ => some k_ ≠ (.slice Ao37 t210.length co37 : Value).ownBlock ∧ some k_ ≠ (.slice Ao70 t216.length co70 : Value).ownBlock ∧ some k_ ≠ (.slice Ao43 t223.length co43 : Value).ownBlock ∧ some k_ ≠ (v230 : Value).ownBlock ∧ some k_ ≠ (v241 : Value).ownBlock ∧ some k_ ≠ (.slice Ao56 t245.length co56 : Value).ownBlock ∧ some k_ ≠ (v252 : Value).ownBlock) (fun _ => False) rfl rfl ?aO ?aR (fun _ _ h => h) (fun _ h => h.elim) ?aF ?aB ?aS ?aL ?_; (case aR => repeat (first | exact (Kd.R_reads' HO218.out).2.2 | (with_reducible refine Kd.C_alloc ?_ _) | (with_reducible refine Kd.C_drewN ?_ _) | (with_reducible refine Kd.C_drew ?_))); (case aB => exact (by repeat (first | (with_reducible first | exact HB.out | apply below_alloc | apply pw_below_drewN | apply below_drew1 | refine below_set ?_ GE205.out | refine below_set ?_ GE220.out | refine below_set ?_ GE233.out | refine below_set ?_ GE255.out) | exact HB.out))); (case aF => exact (fun k_ hk => ⟨Kd.fresh' (Kd.R_lt (pR HO212)) k_ hk, Kd.fresh' (Kd.R_lt (pR HO218)) k_ hk, Kd.fresh' (Kd.R_lt (pR HO225)) k_ hk, Kd.fresh' (Kd.R_lt (pR HO231)) k_ hk, Kd.fresh' (Kd.R_lt (pR HO242)) k_ hk, Kd.fresh' (Kd.R_lt (pR HO247)) k_ hk, Kd.fresh' (Kd.R_lt (pR HO253)) k_ hk⟩)); (case aO => exact (by (with_reducible repeat (first | apply Kd.R_alloc | apply Kd.R_drewN | apply Kd.R_drew)); exact Kd.R_mono HO259.out (fun _ hk => ⟨hk.1.1.1.1.1.1.2, ⟨hk.1.1.1.1.1.2, ⟨hk.1.1.1.1.2, ⟨hk.1.1.1.2, ⟨hk.1.1.2, ⟨hk.1.2, hk.2⟩⟩⟩⟩⟩⟩))); (case aS => exact (below_size (by repeat (first | (with_reducible first | exact HB.out | apply below_alloc | apply pw_below_drewN | apply below_drew1 | refine below_set ?_ GE205.out | refine below_set ?_ GE220.out | refine below_set ?_ GE233.out | refine below_set ?_ GE255.out) | exact HB.out)))); (case aL => have := LMc28.out; omega); intro v261 w69 ho hb hg hat; rw [← Ny260.out] at ho; have n0_ := Aside0.mk (blk_grown (g := gb205) (o := .cells #[.int .i64 a0_0, .int .u8 a0_1, .slice A0_2 l0_2.length c0_2, .int .i64 a0_3, .int .i64 a0_4, .int .i64 a0_5] 25 (0, 0)) (pK BK205) hg (Kd.R_ne HO259.out BK205.out (by decide))); have n1_ := Aside0.mk (Kd.R_after (ok := (fun k_ => some k_ ≠ (.slice Ao70 t216.length co70 : Value).ownBlock ∧ some k_ ≠ (.slice Ao43 t223.length co43 : Value).ownBlock ∧ some k_ ≠ (v230 : Value).ownBlock ∧ some k_ ≠ (v241 : Value).ownBlock ∧ some k_ ≠ (.slice Ao56 t245.length co56 : Value).ownBlock ∧ some k_ ≠ (v252 : Value).ownBlock)) (pR HO212) hg hat); have n2_ := Aside0.mk (Kd.R_after (ok := (fun k_ => some k_ ≠ (.slice Ao37 t210.length co37 : Value).ownBlock ∧ some k_ ≠ (.slice Ao43 t223.length co43 : Value).ownBlock ∧ some k_ ≠ (v230 : Value).ownBlock ∧ some k_ ≠ (v241 : Value).ownBlock ∧ some k_ ≠ (.slice Ao56 t245.length co56 : Value).ownBlock ∧ some k_ ≠ (v252 : Value).ownBlock)) (pR HO218) hg hat); have n3_ := Aside0.mk (blk_grown (g := gb220) (o := .cells #[.int .i64 t208, .int .u8 t209, .slice Ao37 t210.length co37, .int .i64 t213, .int .i64 t214, .int .i64 t215] 25 (0, 0)) (pK BK220) hg (Kd.R_ne HO259.out BK220.out (by decide))); have n4_ := Aside0.mk (Kd.R_after (ok := (fun k_ => some k_ ≠ (.slice Ao37 t210.length co37 : Value).ownBlock ∧ some k_ ≠ (.slice Ao70 t216.length co70 : Value).ownBlock ∧ some k_ ≠ (v230 : Value).ownBlock ∧ some k_ ≠ (v241 : Value).ownBlock ∧ some k_ ≠ (.slice Ao56 t245.length co56 : Value).ownBlock ∧ some k_ ≠ (v252 : Value).ownBlock)) (pR HO225) hg hat); have n5_ := Aside0.mk (Kd.R_after (ok := (fun k_ => some k_ ≠ (.slice Ao37 t210.length co37 : Value).ownBlock ∧ some k_ ≠ (.slice Ao70 t216.length co70 : Value).ownBlock ∧ some k_ ≠ (.slice Ao43 t223.length co43 : Value).ownBlock ∧ some k_ ≠ (v241 : Value).ownBlock ∧ some k_ ≠ (.slice Ao56 t245.length co56 : Value).ownBlock ∧ some k_ ≠ (v252 : Value).ownBlock)) (pR HO231) hg hat); have n6_ := Aside0.mk (blk_grown (g := gb233) (o := .cells #[.int .i64 t221, .int .u8 t222, .slice Ao43 t223.length co43, .int .i64 t226, .int .i64 t227, .int .i64 t228] 25 (0, 0)) (pK BK233) hg (Kd.R_ne HO259.out BK233.out (by decide))); have n7_ := Aside0.mk (Kd.R_after (ok := (fun k_ => some k_ ≠ (.slice Ao37 t210.length co37 : Value).ownBlock ∧ some k_ ≠ (.slice Ao70 t216.length co70 : Value).ownBlock ∧ some k_ ≠ (.slice Ao43 t223.length co43 : Value).ownBlock ∧ some k_ ≠ (v230 : Value).ownBlock ∧ some k_ ≠ (.slice Ao56 t245.length co56 : Value).ownBlock ∧ some k_ ≠ (v252 : Value).ownBlock)) (pR HO242) hg hat); have n8_ := Aside0.mk (Kd.R_after (ok := (fun k_ => some k_ ≠ (.slice Ao37 t210.length co37 : Value).ownBlock ∧ some k_ ≠ (.slice Ao70 t216.length co70 : Value).ownBlock ∧ some k_ ≠ (.slice Ao43 t223.length co43 : Value).ownBlock ∧ some k_ ≠ (v230 : Value).ownBlock ∧ some k_ ≠ (v241 : Value).ownBlock ∧ some k_ ≠ (v252 : Value).ownBlock)) (pR HO247) hg hat); have n9_ := Aside0.mk (Kd.R_after (ok := (fun k_ => some k_ ≠ (.slice Ao37 t210.length co37 : Value).ownBlock ∧ some k_ ≠ (.slice Ao70 t216.length co70 : Value).ownBlock ∧ some k_ ≠ (.slice Ao43 t223.length co43 : Value).ownBlock ∧ some k_ ≠ (v230 : Value).ownBlock ∧ some k_ ≠ (v241 : Value).ownBlock ∧ some k_ ≠ (.slice Ao56 t245.length co56 : Value).ownBlock)) (pR HO253) hg hat); have n10_ := Aside0.mk (blk_grown (g := gb255) (o := .cells #[.int .i64 t243, .int .u8 t244, .slice Ao56 t245.length co56, .int .i64 t248, .int .i64 t249, .int .i64 t250] 25 (0, 0)) (pK BK255) hg (Kd.R_ne HO259.out BK255.out (by decide))); have n11_ := Aside0.mk (hb); have n12_ := Aside0.mk (ho); clear BK205; clear HO212; clear HO218; clear BK220; clear HO225; clear HO231; clear BK233; clear HO242; clear HO247; clear HO253; clear BK255; clear HB; clear HO259; have BK205 := n0_; have HO212 := n1_; have HO218 := n2_; have BK220 := n3_; have HO225 := n4_; have HO231 := n5_; have BK233 := n6_; have HO242 := n7_; have HO247 := n8_; have HO253 := n9_; have BK255 := n10_; have HB := n11_; have HO262 := n12_; clear n0_ n1_ n2_ n3_ n4_ n5_ n6_ n7_ n8_ n9_ n10_ n11_ n12_; clear ho hb hg hat; obtain ⟨Ao72, co72, eo72⟩ := Kd.R_slice HO231.out; subst eo72) | ((with_reducible refine gate_builtin (b := .append) (xs := #[.tmp 71, .tmp 72]) rfl ?_); (try (refine gate_guard (by rfl) ?_; dsimp only)); at_builtin; refine Kd.R_append_rows (Kd.int .u8) (w0 := w) w.heap.size rfl (.tmp 71) (.tmp 72) 22 5 (.int .u8 0) 1 rfl Tryd.underlying22 info5 rfl (by decide) (by omega) v261 y260 t229 _ _ _ (fun k_ => some k_ ≠ (.slice Ao37 t210.length co37 : Value).ownBlock ∧ some k_ ≠ (.slice Ao70 t216.length co70 : Value).ownBlock ∧ some k_ ≠ (.slice Ao43 t223.length co43 : Value).ownBlock ∧ some k_ ≠ (.slice Ao72 t229.length co72 : Value).ownBlock ∧ some k_ ≠ (v241 : Value).ownBlock ∧ some k_ ≠ (.slice Ao56 t245.length co56 : Value).ownBlock ∧ some k_ ≠ (v252 : Value).ownBlock) (fun _ => False) rfl rfl ?aO ?aR (fun _ _ h => h) (fun _ h => h.elim) ?aF ?aB ?aS ?aL ?_; (case aR => repeat (first | exact (Kd.R_reads' HO231.out).2.2 | (with_reducible refine Kd.C_alloc ?_ _) | (with_reducible refine Kd.C_drewN ?_ _) | (with_reducible refine Kd.C_drew ?_))); (case aB => exact (by repeat (first | (with_reducible first | exact HB.out | apply below_alloc | apply pw_below_drewN | apply below_drew1 | refine below_set ?_ GE205.out | refine below_set ?_ GE220.out | refine below_set ?_ GE233.out | refine below_set ?_ GE255.out) | exact HB.out))); (case aF => exact (fun k_ hk => ⟨Kd.fresh' (Kd.R_lt (pR HO212)) k_ hk, Kd.fresh' (Kd.R_lt (pR HO218)) k_ hk, Kd.fresh' (Kd.R_lt (pR HO225)) k_ hk, Kd.fresh' (Kd.R_lt (pR HO231)) k_ hk, Kd.fresh' (Kd.R_lt (pR HO242)) k_ hk, Kd.fresh' (Kd.R_lt (pR HO247)) k_ hk, Kd.fresh' (Kd.R_lt (pR HO253)) k_ hk⟩)); (case aO => exact (pR HO262)); (case aS => exact (below_size (by repeat (first | (with_reducible first | exact HB.out | apply below_alloc | apply pw_below_drewN | apply below_drew1 | refine below_set ?_ GE205.out | refine below_set ?_ GE220.out | refine below_set ?_ GE233.out | refine below_set ?_ GE255.out) | exact HB.out)))); (case aL => have := LMc29.out; omega); intro v264 w71 ho hb hg hat; rw [← Ny263.out] at ho; have n0_ := Aside0.mk (blk_grown (g := gb205) (o := .cells #[.int .i64 a0_0, .int .u8 a0_1, .slice A0_2 l0_2.length c0_2, .int .i64 a0_3, .int .i64 a0_4, .int .i64 a0_5] 25 (0, 0)) (pK BK205) hg (Kd.R_ne HO262.out BK205.out (by decide))); have n1_ := Aside0.mk (Kd.R_after (ok := (fun k_ => some k_ ≠ (.slice Ao70 t216.length co70 : Value).ownBlock ∧ some k_ ≠ (.slice Ao43 t223.length co43 : Value).ownBlock ∧ some k_ ≠ (.slice Ao72 t229.length co72 : Value).ownBlock ∧ some k_ ≠ (v241 : Value).ownBlock ∧ some k_ ≠ (.slice Ao56 t245.length co56 : Value).ownBlock ∧ some k_ ≠ (v252 : Value).ownBlock)) (pR HO212) hg hat); have n2_ := Aside0.mk (Kd.R_after (ok := (fun k_ => some k_ ≠ (.slice Ao37 t210.length co37 : Value).ownBlock ∧ some k_ ≠ (.slice Ao43 t223.length co43 : Value).ownBlock ∧ some k_ ≠ (.slice Ao72 t229.length co72 : Value).ownBlock ∧ some k_ ≠ (v241 : Value).ownBlock ∧ some k_ ≠ (.slice Ao56 t245.length co56 : Value).ownBlock ∧ some k_ ≠ (v252 : Value).ownBlock)) (pR HO218) hg hat); have n3_ := Aside0.mk (blk_grown (g := gb220) (o := .cells #[.int .i64 t208, .int .u8 t209, .slice Ao37 t210.length co37, .int .i64 t213, .int .i64 t214, .int .i64 t215] 25 (0, 0)) (pK BK220) hg (Kd.R_ne HO262.out BK220.out (by decide))); have n4_ := Aside0.mk (Kd.R_after (ok := (fun k_ => some k_ ≠ (.slice Ao37 t210.length co37 : Value).ownBlock ∧ some k_ ≠ (.slice Ao70 t216.length co70 : Value).ownBlock ∧ some k_ ≠ (.slice Ao72 t229.length co72 : Value).ownBlock ∧ some k_ ≠ (v241 : Value).ownBlock ∧ some k_ ≠ (.slice Ao56 t245.length co56 : Value).ownBlock ∧ some k_ ≠ (v252 : Value).ownBlock)) (pR HO225) hg hat); have n5_ := Aside0.mk (Kd.R_after (ok := (fun k_ => some k_ ≠ (.slice Ao37 t210.length co37 : Value).ownBlock ∧ some k_ ≠ (.slice Ao70 t216.length co70 : Value).ownBlock ∧ some k_ ≠ (.slice Ao43 t223.length co43 : Value).ownBlock ∧ some k_ ≠ (v241 : Value).ownBlock ∧ some k_ ≠ (.slice Ao56 t245.length co56 : Value).ownBlock ∧ some k_ ≠ (v252 : Value).ownBlock)) (pR HO231) hg hat); have n6_ := Aside0.mk (blk_grown (g := gb233) (o := .cells #[.int .i64 t221, .int .u8 t222, .slice Ao43 t223.length co43, .int .i64 t226, .int .i64 t227, .int .i64 t228] 25 (0, 0)) (pK BK233) hg (Kd.R_ne HO262.out BK233.out (by decide))); have n7_ := Aside0.mk (Kd.R_after (ok := (fun k_ => some k_ ≠ (.slice Ao37 t210.length co37 : Value).ownBlock ∧ some k_ ≠ (.slice Ao70 t216.length co70 : Value).ownBlock ∧ some k_ ≠ (.slice Ao43 t223.length co43 : Value).ownBlock ∧ some k_ ≠ (.slice Ao72 t229.length co72 : Value).ownBlock ∧ some k_ ≠ (.slice Ao56 t245.length co56 : Value).ownBlock ∧ some k_ ≠ (v252 : Value).ownBlock)) (pR HO242) hg hat); have n8_ := Aside0.mk (Kd.R_after (ok := (fun k_ => some k_ ≠ (.slice Ao37 t210.length co37 : Value).ownBlock ∧ some k_ ≠ (.slice Ao70 t216.length co70 : Value).ownBlock ∧ some k_ ≠ (.slice Ao43 t223.length co43 : Value).ownBlock ∧ some k_ ≠ (.slice Ao72 t229.length co72 : Value).ownBlock ∧ some k_ ≠ (v241 : Value).ownBlock ∧ some k_ ≠ (v252 : Value).ownBlock)) (pR HO247) hg hat); have n9_ := Aside0.mk (Kd.R_after (ok := (fun k_ => some k_ ≠ (.slice Ao37 t210.length co37 : Value).ownBlock ∧ some k_ ≠ (.slice Ao70 t216.length co70 : Value).ownBlock ∧ some k_ ≠ (.slice Ao43 t223.length co43 : Value).ownBlock ∧ some k_ ≠ (.slice Ao72 t229.length co72 : Value).ownBlock ∧ some k_ ≠ (v241 : Value).ownBlock ∧ some k_ ≠ (.slice Ao56 t245.length co56 : Value).ownBlock)) (pR HO253) hg hat); have n10_ := Aside0.mk (blk_grown (g := gb255) (o := .cells #[.int .i64 t243, .int .u8 t244, .slice Ao56 t245.length co56, .int .i64 t248, .int .i64 t249, .int .i64 t250] 25 (0, 0)) (pK BK255) hg (Kd.R_ne HO262.out BK255.out (by decide))); have n11_ := Aside0.mk (hb); have n12_ := Aside0.mk (ho); clear BK205; clear HO212; clear HO218; clear BK220; clear HO225; clear HO231; clear BK233; clear HO242; clear HO247; clear HO253; clear BK255; clear HB; clear HO262; have BK205 := n0_; have HO212 := n1_; have HO218 := n2_; have BK220 := n3_; have HO225 := n4_; have HO231 := n5_; have BK233 := n6_; have HO242 := n7_; have HO247 := n8_; have HO253 := n9_; have BK255 := n10_; have HB := n11_; have HO265 := n12_; clear n0_ n1_ n2_ n3_ n4_ n5_ n6_ n7_ n8_ n9_ n10_ n11_ n12_; clear ho hb hg hat; obtain ⟨Ao73, co73, eo73⟩ := Kd.R_slice HO265.out; subst eo73; obtain ⟨Ao74, co74, eo74⟩ := Kd.R_slice HO253.out; subst eo74) | (go_at_call 14; (with_reducible refine (capnpref01_Same.calls kj4 _ _ y263 _ _ t251 true _ ?side1 ?side2 ?side3 ?side4 A30.out).mono ?_); (case side1 => repeat (first | exact (Kd.R_reads' HO265.out).2.2 | (with_reducible refine Kd.C_alloc ?_ _) | (with_reducible refine Kd.C_drewN ?_ _) | (with_reducible refine Kd.C_drew ?_))); (case side2 => exact (Kd.R_reads' HO265.out).2.1); (case side3 => repeat (first | exact (Kd.R_reads' HO253.out).2.2 | (with_reducible refine Kd.C_alloc ?_ _) | (with_reducible refine Kd.C_drewN ?_ _) | (with_reducible refine Kd.C_drew ?_))); (case side4 => exact (Kd.R_reads' HO253.out).2.1); rintro e w' ⟨rfl, ⟨nd, rfl⟩⟩))
                    go_ret
                    exact ⟨by first | rfl | (simp [errW_none, errW_some] <;> rfl) | (simp [*, errW_none, errW_some] <;> rfl), by repeat (first | (with_reducible first | exact HB.out | apply below_alloc | apply pw_below_drewN | apply below_drew1 | refine below_set ?_ GE205.out | refine below_set ?_ GE220.out | refine below_set ?_ GE233.out | refine below_set ?_ GE255.out) | exact HB.out)⟩
                  · replace c31 := Bool.eq_false_iff.mpr c31
                    subst c31
                    have H1 : (none) = some r := by rw [if_neg (show ¬ (false = true) by decide)] at H; exact H
                    clear H
                    have H := H1
                    clear H1
                    exact absurd H (by simp)
                · rw [if_neg c29] at H
                  exact absurd H (by simp)
              · rw [if_neg c28] at H
                exact absurd H (by simp)
            · replace c27 := Bool.eq_false_iff.mpr c27
              subst c27
              have H1 : (none) = some r := by rw [if_neg (show ¬ (false = true) by decide)] at H; exact H
              clear H
              have H := H1
              clear H1
              exact absurd H (by simp)
          · rw [if_neg c24] at H
            exact absurd H (by simp)
        · rw [if_neg c23] at H
          exact absurd H (by simp)
end Go.Proofs.YtpffoecblcfndaaDoor.PUnpackstreamSplit
