/- Printed functions of a law, and their walks. -/
import Derived.Test.YtpffoecblcfndaaDoorXShortR
import Derived.Test.YtpffoecblcfndaaDoorPUnpackstreamMatchesReferencex0R
import Derived.Test.YtpffoecblcfndaaDoorPUnpackstreamMatchesReferencex2R
import Derived.Test.YtpffoecblcfndaaDoorPUnpackstreamMatchesReferencex3R
import Derived.Test.YtpffoecblcfndaaDoorPUnpackstreamMatchesReferencex4R
import Derived.Test.YtpffoecblcfndaaDoorPUnpackstreamMatchesReferencex7R
namespace Go.Proofs.YtpffoecblcfndaaDoor.PUnpackstreamMatchesReference
open Go.RowKit Go.Proofs.YtpffoecblcfndaaDoorW.PrintWords Go.Proofs.YtpffoecblcfndaaDoorW.PrintLast Go.Proofs.YtpffoecblcfndaaDoorW.PrintMore
open Go.Proofs.YtpffoecblcfndaaDoor.PVaBase
attribute [local go_sem] max2_int min2_int max_two min_two max_three min_three max_four min_four   -- for this text's walks alone
set_option linter.unusedVariables false
set_option linter.unusedSimpArgs false
def capnplaw25_UnpackstreamMatchesReference.j0 : Nat → List Int → Int → Bool → Int → Int → List Int → Int → Int → Int → Option (Bool)
  | 0, _, _, _, _, _, _, _, _, _ => none
  | k + 1, x1, x2, x25, x331000, x331001, x331002, x331003, x331004, x331005 => if x25 = true then ((capnplaw25_awake.f k).bind fun t332 => (some t332)) else ((unpackstream_Write.f x331000 x331001 x331002 x331003 x331004 x331005 x1 x2).bind fun bt333 => ((capnpref25_Write.f k x331000 x331001 x331002 x331003 x331004 x331005 x1 x2).bind fun bt346 => ((unpackstream_Valid.f k x331000 x331001 x331002 x331003 x331004 x331005).bind fun t359 => ((capnpref25_Valid.f k x331000 x331001 x331002 x331003 x331004 x331005).bind fun t360 => (if (t359 == t360) = true then ((capnpref25_Same.f k bt333.1 bt333.2.1 bt333.2.2.1 bt333.2.2.2.1 bt333.2.2.2.2.1 bt333.2.2.2.2.2.1 bt346.1 bt346.2.1 bt346.2.2.1 bt346.2.2.2.1 bt346.2.2.2.2.1 bt346.2.2.2.2.2.1).bind fun t361 => (if t361 = true then ((capnpref01_Same.f k bt333.2.2.2.2.2.2.1 bt346.2.2.2.2.2.2.1).bind fun t362 => (if t362 = true then (if bt333.2.2.2.2.2.2.2 = bt346.2.2.2.2.2.2.2 then ((unpackstream_Close.f k x331000 x331001 x331002 x331003 x331004 x331005).bind fun t363 => ((capnpref25_Close.f k x331000 x331001 x331002 x331003 x331004 x331005).bind fun t364 => (some (t363 == t364)))) else (none)) else (none))) else (none))) else (none))))))
def capnplaw25_UnpackstreamMatchesReference.f (k : Nat) (a0_0 : Int) (a0_1 : Int) (l0_2 : List Int) (a0_3 : Int) (a0_4 : Int) (a0_5 : Int) (l1 : List Int) (a2 : Int) : Option (Bool) := (capnplaw25_awake.f k).bind fun t331 => (if t331 = true then (if (l0_2.length : Int) > 3000 then (capnplaw25_UnpackstreamMatchesReference.j0 k l1 a2 true a0_0 a0_1 l0_2 a0_3 a0_4 a0_5) else (capnplaw25_UnpackstreamMatchesReference.j0 k l1 a2 (decide ((l1.length : Int) > 400)) a0_0 a0_1 l0_2 a0_3 a0_4 a0_5)) else (capnplaw25_UnpackstreamMatchesReference.j0 k l1 a2 true a0_0 a0_1 l0_2 a0_3 a0_4 a0_5))
theorem capnplaw25_UnpackstreamMatchesReference.mono_l : ∀ k, (∀ y0 y1 y2 y3 y4 y5 y6 y7 y8, LeO (capnplaw25_UnpackstreamMatchesReference.j0 k y0 y1 y2 y3 y4 y5 y6 y7 y8) (capnplaw25_UnpackstreamMatchesReference.j0 (k + 1) y0 y1 y2 y3 y4 y5 y6 y7 y8))
  | 0 => fun _ _ _ _ _ _ _ _ _ r h => by simp [capnplaw25_UnpackstreamMatchesReference.j0] at h
  | k + 1 => by
    have ih0 := capnplaw25_UnpackstreamMatchesReference.mono_l k
    · intro y0 y1 y2 y3 y4 y5 y6 y7 y8
      unfold capnplaw25_UnpackstreamMatchesReference.j0
      repeat' first
      | (with_reducible exact ih0 _ _ _ _ _ _ _ _ _)
      | (with_reducible exact capnplaw25_awake.mono _)
      | (with_reducible exact capnpref01_Same.mono _ _ _)
      | (with_reducible exact capnpref25_Close.mono _ _ _ _ _ _ _)
      | (with_reducible exact capnpref25_Same.mono _ _ _ _ _ _ _ _ _ _ _ _ _)
      | (with_reducible exact capnpref25_Valid.mono _ _ _ _ _ _ _)
      | (with_reducible exact capnpref25_Write.mono _ _ _ _ _ _ _ _ _)
      | (with_reducible exact unpackstream_Close.mono _ _ _ _ _ _ _)
      | (with_reducible exact unpackstream_Valid.mono _ _ _ _ _ _ _)
      | (with_reducible exact LeO.refl _)
      | (with_reducible exact LeO.none _)
      | (with_reducible refine LeO.ite ?_ ?_)
      | (with_reducible refine LeO.bind ?_ (fun _ => ?_))
      | exact ih0 _ _ _ _ _ _ _ _ _
      | exact capnplaw25_awake.mono _
      | exact capnpref01_Same.mono _ _ _
      | exact capnpref25_Close.mono _ _ _ _ _ _ _
      | exact capnpref25_Same.mono _ _ _ _ _ _ _ _ _ _ _ _ _
      | exact capnpref25_Valid.mono _ _ _ _ _ _ _
      | exact capnpref25_Write.mono _ _ _ _ _ _ _ _ _
      | exact unpackstream_Close.mono _ _ _ _ _ _ _
      | exact unpackstream_Valid.mono _ _ _ _ _ _ _
      | exact LeO.none _
      | refine LeO.ite ?_ ?_
      | refine LeO.bind ?_ (fun _ => ?_)
theorem capnplaw25_UnpackstreamMatchesReference.mono : ∀ a0 a1 a2 a3 a4 a5 a6 a7 k, LeO (capnplaw25_UnpackstreamMatchesReference.f k a0 a1 a2 a3 a4 a5 a6 a7) (capnplaw25_UnpackstreamMatchesReference.f (k + 1) a0 a1 a2 a3 a4 a5 a6 a7) := by
  intro a0 a1 a2 a3 a4 a5 a6 a7 k
  have ih0 := capnplaw25_UnpackstreamMatchesReference.mono_l k
  unfold capnplaw25_UnpackstreamMatchesReference.f
  repeat' first
      | (with_reducible exact ih0 _ _ _ _ _ _ _ _ _)
      | (with_reducible exact capnplaw25_awake.mono _)
      | (with_reducible exact capnpref01_Same.mono _ _ _)
      | (with_reducible exact capnpref25_Close.mono _ _ _ _ _ _ _)
      | (with_reducible exact capnpref25_Same.mono _ _ _ _ _ _ _ _ _ _ _ _ _)
      | (with_reducible exact capnpref25_Valid.mono _ _ _ _ _ _ _)
      | (with_reducible exact capnpref25_Write.mono _ _ _ _ _ _ _ _ _)
      | (with_reducible exact unpackstream_Close.mono _ _ _ _ _ _ _)
      | (with_reducible exact unpackstream_Valid.mono _ _ _ _ _ _ _)
      | (with_reducible exact LeO.refl _)
      | (with_reducible exact LeO.none _)
      | (with_reducible refine LeO.ite ?_ ?_)
      | (with_reducible refine LeO.bind ?_ (fun _ => ?_))
      | exact ih0 _ _ _ _ _ _ _ _ _
      | exact capnplaw25_awake.mono _
      | exact capnpref01_Same.mono _ _ _
      | exact capnpref25_Close.mono _ _ _ _ _ _ _
      | exact capnpref25_Same.mono _ _ _ _ _ _ _ _ _ _ _ _ _
      | exact capnpref25_Valid.mono _ _ _ _ _ _ _
      | exact capnpref25_Write.mono _ _ _ _ _ _ _ _ _
      | exact unpackstream_Close.mono _ _ _ _ _ _ _
      | exact unpackstream_Valid.mono _ _ _ _ _ _ _
      | exact LeO.none _
      | refine LeO.ite ?_ ?_
      | refine LeO.bind ?_ (fun _ => ?_)
def capnplaw25_UnpackstreamMatchesReference.T5 : Bool × List (List Nat × List Nat) := (true, [([], []), ([0], [0]), ([], []), ([2, 1], [2]), ([1, 3], [1, 3]), ([4, 3], [4]), ([5], [5]), ([5], [5]), ([6, 7, 5, 5], [5, 6, 7]), ([5, 8], [5, 8]), ([9, 8], [9]), ([10], [10]), ([10], [10]), ([11, 12, 10, 10], [10, 11, 12]), ([10, 13], [10, 13]), ([14, 13], [14]), ([15], [15]), ([15], [15]), ([16, 17, 15], [15, 16, 17]), ([15, 18], [15, 18]), ([19, 15], [19]), ([20], [20]), ([21, 20, 20], [20, 21]), ([20], [20]), ([23, 22, 20], [20, 23]), ([22, 24, 20], [20, 22, 24]), ([20, 25], [20, 25]), ([26, 24, 0, 1, 2, 3, 4, 5, 6, 7, 8, 9, 10, 11, 12, 13, 14, 15, 16, 17, 18, 19, 20, 21, 22, 23, 24, 25, 26], [26])])
def capnplaw25_UnpackstreamMatchesReference.B5 : List Nat := [0, 1, 0, 7, 15, 31, 63, 63, 255, 511, 1023, 2047, 2047, 8191, 16383, 32767, 65535, 65535, 262143, 524287, 1048575, 2097151, 4194303, 2097151, 16777215, 33554431, 67108863, 134217727]
theorem capnplaw25_UnpackstreamMatchesReference.tab5 : rtab .any (opsOf Tryd.f3 5) = capnplaw25_UnpackstreamMatchesReference.T5 := by kernel_rfl
theorem capnplaw25_UnpackstreamMatchesReference.bits5 : waitsOk capnplaw25_UnpackstreamMatchesReference.T5.2 capnplaw25_UnpackstreamMatchesReference.B5 = true := by kernel_rfl
set_option maxHeartbeats 8000000 in
set_option maxRecDepth 100000 in
theorem capnplaw25_UnpackstreamMatchesReference.calls (k : Nat) (a0_0 : Int) (a0_1 : Int) (A0_2 : Option Addr) (c0_2 : Nat) (l0_2 : List Int) (a0_3 : Int) (a0_4 : Int) (a0_5 : Int) (A1 : Option Addr) (c1 : Nat) (l1 : List Int) (a2 : Int) (r : Bool) (w : World) (hr0_2 : Kd.C (Kd.int .u8) w A0_2 l0_2.length l0_2) (hc0_2 : l0_2.length ≤ c0_2) (hr1 : Kd.C (Kd.int .u8) w A1 l1.length l1) (hc1 : l1.length ≤ c1) (h : capnplaw25_UnpackstreamMatchesReference.f k a0_0 a0_1 l0_2 a0_3 a0_4 a0_5 l1 a2 = some r) (hL : Go.Proofs.YtpffoecblcfndaaDoor.Us.StepsL w) :
    Calls Tryd.prog 3 #[.agg #[.int .i64 a0_0, .int .u8 a0_1, .slice A0_2 l0_2.length c0_2, .int .i64 a0_3, .int .i64 a0_4, .int .i64 a0_5], .slice A1 l1.length c1, .int .i64 a2] w fun e w' => e = .returned (.bool r) ∧ Below w.heap.size w w' := by
  have HL := Aside0.mk hL
  clear hL
  have hu25 := Tryd.underlying25
  have HR0_2 := Aside0.mk hr0_2
  have HC0_2 := Aside0.mk hc0_2
  clear hr0_2 hc0_2
  have HR1 := Aside0.mk hr1
  have HC1 := Aside0.mk hc1
  clear hr1 hc1
  have HB := Aside0.mk (Below.refl w.heap.size w)
  have H : ((capnplaw25_awake.f k).bind fun t331 => (if t331 = true then (if (l0_2.length : Int) > 3000 then (capnplaw25_UnpackstreamMatchesReference.j0 k l1 a2 true a0_0 a0_1 l0_2 a0_3 a0_4 a0_5) else (capnplaw25_UnpackstreamMatchesReference.j0 k l1 a2 (decide ((l1.length : Int) > 400)) a0_0 a0_1 l0_2 a0_3 a0_4 a0_5)) else (capnplaw25_UnpackstreamMatchesReference.j0 k l1 a2 true a0_0 a0_1 l0_2 a0_3 a0_4 a0_5))) = some r := h
  clear h
  have HC4 := Aside0.mk H
  clear H
  go_enter Tryd.func3, Tryd.ntmps3
  try simp only [List.append_eq, List.cons_append, List.nil_append]
  go_upto_region 1 with (first | ((with_reducible refine gate_dst (N := 3) rfl ?_); (try (refine gate_guard (by rfl) ?_; dsimp only)); refine box_event ?hg (N := 3) ?hd (cs := #[.int .i64 a0_0, .int .u8 a0_1, .slice A0_2 l0_2.length c0_2, .int .i64 a0_3, .int .i64 a0_4, .int .i64 a0_5]) (t := 25) ?hr ?_; (case hd => rfl); (case hg => rfl); (case hr => first | (go_simp; done) | (go_simp; rfl)); intro gb330 hg w5 hbox hb; have n0_ := Aside0.mk (below_step pB hb); have n1_ := Aside0.mk (hbox); have n2_ := Aside0.mk ((by rw [hg]; exact (below_size pB) : w.heap.size ≤ gb330)); have n3_ := Aside0.mk ((by rw [hg]; exact (below_size pB) : w.heap.size ≤ gb330)); clear HB; have HB := n0_; have BK330 := n1_; have GW330 := n2_; have GE330 := n3_; clear n0_ n1_ n2_ n3_; clear hb hbox hg))
  (try simp only [Act.put, List.setIfInBounds_toArray, List.set_cons_zero, List.set_cons_succ])
  go_cut [25] (fun v25 wc => ∃ (kq : Nat) (x25_3 : Bool), v25 = .bool x25_3 ∧ Aside0 (capnplaw25_UnpackstreamMatchesReference.j0 kq l1 a2 x25_3 a0_0 a0_1 l0_2 a0_3 a0_4 a0_5 = some r) ∧ Aside0 (kq ≤ k) ∧ Aside0 (wc.heap[gb330]? = some (.cells #[.int .i64 a0_0, .int .u8 a0_1, (.slice A0_2 l0_2.length c0_2), .int .i64 a0_3, .int .i64 a0_4, .int .i64 a0_5] 25 (0, 0))) ∧ Aside0 (Below w.heap.size w wc))
  case first =>
    have H := HC4.out
    clear HC4
    replace H := Option.bind_eq_some_iff.mp H
    obtain ⟨t331, A60, H⟩ := H
    replace H : (if t331 = true then (if (l0_2.length : Int) > 3000 then (capnplaw25_UnpackstreamMatchesReference.j0 k l1 a2 true a0_0 a0_1 l0_2 a0_3 a0_4 a0_5) else (capnplaw25_UnpackstreamMatchesReference.j0 k l1 a2 (decide ((l1.length : Int) > 400)) a0_0 a0_1 l0_2 a0_3 a0_4 a0_5)) else (capnplaw25_UnpackstreamMatchesReference.j0 k l1 a2 true a0_0 a0_1 l0_2 a0_3 a0_4 a0_5)) = some r := H
    have A6 := Aside0.mk A60
    clear A60
    by_cases c7 : t331 = true
    · subst c7
      have H1 : (if (l0_2.length : Int) > 3000 then (capnplaw25_UnpackstreamMatchesReference.j0 k l1 a2 true a0_0 a0_1 l0_2 a0_3 a0_4 a0_5) else (capnplaw25_UnpackstreamMatchesReference.j0 k l1 a2 (decide ((l1.length : Int) > 400)) a0_0 a0_1 l0_2 a0_3 a0_4 a0_5)) = some r := by rw [if_pos rfl] at H; exact H
      clear H
      have H := H1
      clear H1
      by_cases c8 : (l0_2.length : Int) > 3000
      · rw [if_pos c8] at H
        have c8b0 : decide (3000 < (l0_2.length : Int)) = true := decide_eq_true c8
        have c8b1 : decide (3000 < l0_2.length) = true := decide_eq_true (by omega)
        clear c8
        (first | rw [c8b0] | (simp only [i64_w, i32_w]; rw [c8b0]) | skip)
        have H' := Aside0.mk H
        clear H
        go_wp2_with (first | ((with_reducible refine gate_callee (f := 8) rfl ?_); refine goesL_ (some 13) rfl rfl Tryd.func8 (by kernel_rfl) rfl #[] rfl pM ?_; (with_reducible refine (capnplaw25_awake.calls k  true _ A6.out (Go.Proofs.YtpffoecblcfndaaDoor.Us.StepsL.below HL.out pB)).mono ?_); rintro e w9 ⟨rfl, hb⟩; refine ⟨_, rfl, ?_⟩; have n0_ := Aside0.mk (blk_below (g := gb330) (o := .cells #[.int .i64 a0_0, .int .u8 a0_1, .slice A0_2 l0_2.length c0_2, .int .i64 a0_3, .int .i64 a0_4, .int .i64 a0_5] 25 (0, 0)) (pK BK330) hb); have n1_ := Aside0.mk (below_step (by repeat (first | (with_reducible first | exact HB.out | apply below_alloc | apply pw_below_drewN | apply below_drew1 | refine below_set ?_ GE330.out) | exact HB.out)) hb); clear BK330; clear HB; have BK330 := n0_; have HB := n1_; clear n0_ n1_; (try clear hb); (try clear hb2); (try clear hk); (try clear hi); have hcz10_0 : w9.cell? ⟨gb330, 0, none⟩ = some (.int .i64 a0_0) := (blk_cell BK330.out 0).trans rfl; have hcz10_1 : w9.cell? ⟨gb330, 1, none⟩ = some (.int .u8 a0_1) := (blk_cell BK330.out 1).trans rfl; have hcz10_2 : w9.cell? ⟨gb330, 2, none⟩ = some (.slice A0_2 l0_2.length c0_2) := (blk_cell BK330.out 2).trans rfl; have hcz10_3 : w9.cell? ⟨gb330, 3, none⟩ = some (.int .i64 a0_3) := (blk_cell BK330.out 3).trans rfl; have hcz10_4 : w9.cell? ⟨gb330, 4, none⟩ = some (.int .i64 a0_4) := (blk_cell BK330.out 4).trans rfl; have hcz10_5 : w9.cell? ⟨gb330, 5, none⟩ = some (.int .i64 a0_5) := (blk_cell BK330.out 5).trans rfl; have hfz10_0 := blk_frozen BK330.out 0; have hfz10_1 := blk_frozen BK330.out 1; have hfz10_2 := blk_frozen BK330.out 2; have hfz10_3 := blk_frozen BK330.out 3; have hfz10_4 := blk_frozen BK330.out 4; have hfz10_5 := blk_frozen BK330.out 5))
        go_meet
        case rel => exact ⟨_, (true), (by first | rfl | (simp; done) | (simp [*]; done)), H', ⟨by first | omega | exact Nat.le_refl _⟩, ⟨pK BK330⟩, ⟨by repeat (first | (with_reducible first | exact HB.out | apply below_alloc | apply pw_below_drewN | apply below_drew1 | refine below_set ?_ GE330.out) | exact HB.out)⟩⟩
      · rw [if_neg c8] at H
        have c8b0 : decide (3000 < (l0_2.length : Int)) = false := decide_eq_false c8
        have c8b1 : decide (3000 < l0_2.length) = false := decide_eq_false (by omega)
        clear c8
        (first | rw [c8b0] | (simp only [i64_w, i32_w]; rw [c8b0]) | skip)
        have H' := Aside0.mk H
        clear H
        go_wp2_with (first | ((with_reducible refine gate_callee (f := 8) rfl ?_); refine goesL_ (some 13) rfl rfl Tryd.func8 (by kernel_rfl) rfl #[] rfl pM ?_; (with_reducible refine (capnplaw25_awake.calls k  true _ A6.out (Go.Proofs.YtpffoecblcfndaaDoor.Us.StepsL.below HL.out pB)).mono ?_); rintro e w11 ⟨rfl, hb⟩; refine ⟨_, rfl, ?_⟩; have n0_ := Aside0.mk (blk_below (g := gb330) (o := .cells #[.int .i64 a0_0, .int .u8 a0_1, .slice A0_2 l0_2.length c0_2, .int .i64 a0_3, .int .i64 a0_4, .int .i64 a0_5] 25 (0, 0)) (pK BK330) hb); have n1_ := Aside0.mk (below_step (by repeat (first | (with_reducible first | exact HB.out | apply below_alloc | apply pw_below_drewN | apply below_drew1 | refine below_set ?_ GE330.out) | exact HB.out)) hb); clear BK330; clear HB; have BK330 := n0_; have HB := n1_; clear n0_ n1_; (try clear hb); (try clear hb2); (try clear hk); (try clear hi); have hcz12_0 : w11.cell? ⟨gb330, 0, none⟩ = some (.int .i64 a0_0) := (blk_cell BK330.out 0).trans rfl; have hcz12_1 : w11.cell? ⟨gb330, 1, none⟩ = some (.int .u8 a0_1) := (blk_cell BK330.out 1).trans rfl; have hcz12_2 : w11.cell? ⟨gb330, 2, none⟩ = some (.slice A0_2 l0_2.length c0_2) := (blk_cell BK330.out 2).trans rfl; have hcz12_3 : w11.cell? ⟨gb330, 3, none⟩ = some (.int .i64 a0_3) := (blk_cell BK330.out 3).trans rfl; have hcz12_4 : w11.cell? ⟨gb330, 4, none⟩ = some (.int .i64 a0_4) := (blk_cell BK330.out 4).trans rfl; have hcz12_5 : w11.cell? ⟨gb330, 5, none⟩ = some (.int .i64 a0_5) := (blk_cell BK330.out 5).trans rfl; have hfz12_0 := blk_frozen BK330.out 0; have hfz12_1 := blk_frozen BK330.out 1; have hfz12_2 := blk_frozen BK330.out 2; have hfz12_3 := blk_frozen BK330.out 3; have hfz12_4 := blk_frozen BK330.out 4; have hfz12_5 := blk_frozen BK330.out 5))
        go_meet
        case rel => exact ⟨_, (decide ((l1.length : Int) > 400)), (by first | rfl | (simp; done) | (simp [*]; done)), H', ⟨by first | omega | exact Nat.le_refl _⟩, ⟨pK BK330⟩, ⟨by repeat (first | (with_reducible first | exact HB.out | apply below_alloc | apply pw_below_drewN | apply below_drew1 | refine below_set ?_ GE330.out) | exact HB.out)⟩⟩
    · replace c7 := Bool.eq_false_iff.mpr c7
      subst c7
      have H1 : (capnplaw25_UnpackstreamMatchesReference.j0 k l1 a2 true a0_0 a0_1 l0_2 a0_3 a0_4 a0_5) = some r := by rw [if_neg (show ¬ (false = true) by decide)] at H; exact H
      clear H
      have H := H1
      clear H1
      have H' := Aside0.mk H
      clear H
      go_wp2_with (first | ((with_reducible refine gate_callee (f := 8) rfl ?_); refine goesL_ (some 13) rfl rfl Tryd.func8 (by kernel_rfl) rfl #[] rfl pM ?_; (with_reducible refine (capnplaw25_awake.calls k  false _ A6.out (Go.Proofs.YtpffoecblcfndaaDoor.Us.StepsL.below HL.out pB)).mono ?_); rintro e w13 ⟨rfl, hb⟩; refine ⟨_, rfl, ?_⟩; have n0_ := Aside0.mk (blk_below (g := gb330) (o := .cells #[.int .i64 a0_0, .int .u8 a0_1, .slice A0_2 l0_2.length c0_2, .int .i64 a0_3, .int .i64 a0_4, .int .i64 a0_5] 25 (0, 0)) (pK BK330) hb); have n1_ := Aside0.mk (below_step (by repeat (first | (with_reducible first | exact HB.out | apply below_alloc | apply pw_below_drewN | apply below_drew1 | refine below_set ?_ GE330.out) | exact HB.out)) hb); clear BK330; clear HB; have BK330 := n0_; have HB := n1_; clear n0_ n1_; (try clear hb); (try clear hb2); (try clear hk); (try clear hi)))
      go_meet
      case rel => exact ⟨_, (true), (by first | rfl | (simp; done) | (simp [*]; done)), H', ⟨by first | omega | exact Nat.le_refl _⟩, ⟨pK BK330⟩, ⟨by repeat (first | (with_reducible first | exact HB.out | apply below_alloc | apply pw_below_drewN | apply below_drew1 | refine below_set ?_ GE330.out) | exact HB.out)⟩⟩
  case rest =>
    clear HC4
    try clear c1
    try clear p2
    try clear c3
    try clear c7
    try clear c8
    try clear c8b0
    try clear c8b1
    try clear hcz10_0
    try clear hcz10_1
    try clear hcz10_2
    try clear hcz10_3
    try clear hcz10_4
    try clear hcz10_5
    try clear hcz12_0
    try clear hcz12_1
    try clear hcz12_2
    try clear hcz12_3
    try clear hcz12_4
    try clear hcz12_5
    try clear hfz10_0
    try clear hfz10_1
    try clear hfz10_2
    try clear hfz10_3
    try clear hfz10_4
    try clear hfz10_5
    try clear hfz12_0
    try clear hfz12_1
    try clear hfz12_2
    try clear hfz12_3
    try clear hfz12_4
    try clear hfz12_5
    obtain ⟨kq, x25_3, rfl, HA, HJ3, BK330, HB⟩ := hcut
    cases kq with
    | zero => exact absurd HA.out (by simp [capnplaw25_UnpackstreamMatchesReference.j0])
    | succ kj3 =>
      have H := HA.out
      clear HA
      simp only [capnplaw25_UnpackstreamMatchesReference.j0] at H
      by_cases c14 : x25_3 = true
      · subst c14
        have H1 : ((capnplaw25_awake.f kj3).bind fun t332 => (some t332)) = some r := by rw [if_pos rfl] at H; exact H
        clear H
        have H := H1
        clear H1
        replace H := Option.bind_eq_some_iff.mp H
        obtain ⟨t332, A150, H⟩ := H
        replace H : (some t332) = some r := H
        have A15 := Aside0.mk A150
        clear A150
        obtain rfl := Option.some.inj H
        go_wp2_with (first | ((with_reducible refine gate_callee (f := 8) rfl ?_); refine goesL_ (some 26) rfl rfl Tryd.func8 (by kernel_rfl) rfl #[] rfl pM ?_; (with_reducible refine (capnplaw25_awake.calls kj3  t332 _ A15.out (Go.Proofs.YtpffoecblcfndaaDoor.Us.StepsL.below HL.out pB)).mono ?_); rintro e w16 ⟨rfl, hb⟩; refine ⟨_, rfl, ?_⟩; have n0_ := Aside0.mk (blk_below (g := gb330) (o := .cells #[.int .i64 a0_0, .int .u8 a0_1, .slice A0_2 l0_2.length c0_2, .int .i64 a0_3, .int .i64 a0_4, .int .i64 a0_5] 25 (0, 0)) (pK BK330) hb); have n1_ := Aside0.mk (below_step (by repeat (first | (with_reducible first | exact HB.out | apply below_alloc | apply pw_below_drewN | apply below_drew1 | refine below_set ?_ GE330.out) | exact HB.out)) hb); clear BK330; clear HB; have BK330 := n0_; have HB := n1_; clear n0_ n1_; (try clear hb); (try clear hb2); (try clear hk); (try clear hi)))
        go_ret
        exact ⟨by first | rfl | (simp [errW_none, errW_some] <;> rfl) | (simp [*, errW_none, errW_some] <;> rfl), by repeat (first | (with_reducible first | exact HB.out | apply below_alloc | apply pw_below_drewN | apply below_drew1 | refine below_set ?_ GE330.out) | exact HB.out)⟩
      · replace c14 := Bool.eq_false_iff.mpr c14
        subst c14
        have H1 : ((unpackstream_Write.f a0_0 a0_1 l0_2 a0_3 a0_4 a0_5 l1 a2).bind fun bt333 => ((capnpref25_Write.f kj3 a0_0 a0_1 l0_2 a0_3 a0_4 a0_5 l1 a2).bind fun bt346 => ((unpackstream_Valid.f kj3 a0_0 a0_1 l0_2 a0_3 a0_4 a0_5).bind fun t359 => ((capnpref25_Valid.f kj3 a0_0 a0_1 l0_2 a0_3 a0_4 a0_5).bind fun t360 => (if (t359 == t360) = true then ((capnpref25_Same.f kj3 bt333.1 bt333.2.1 bt333.2.2.1 bt333.2.2.2.1 bt333.2.2.2.2.1 bt333.2.2.2.2.2.1 bt346.1 bt346.2.1 bt346.2.2.1 bt346.2.2.2.1 bt346.2.2.2.2.1 bt346.2.2.2.2.2.1).bind fun t361 => (if t361 = true then ((capnpref01_Same.f kj3 bt333.2.2.2.2.2.2.1 bt346.2.2.2.2.2.2.1).bind fun t362 => (if t362 = true then (if bt333.2.2.2.2.2.2.2 = bt346.2.2.2.2.2.2.2 then ((unpackstream_Close.f kj3 a0_0 a0_1 l0_2 a0_3 a0_4 a0_5).bind fun t363 => ((capnpref25_Close.f kj3 a0_0 a0_1 l0_2 a0_3 a0_4 a0_5).bind fun t364 => (some (t363 == t364)))) else (none)) else (none))) else (none))) else (none)))))) = some r := by rw [if_neg (show ¬ (false = true) by decide)] at H; exact H
        clear H
        have H := H1
        clear H1
        replace H := Option.bind_eq_some_iff.mp H
        obtain ⟨⟨t333, t334, t335, t338, t339, t340, t341, t344⟩, A170, H⟩ := H
        replace H : ((capnpref25_Write.f kj3 a0_0 a0_1 l0_2 a0_3 a0_4 a0_5 l1 a2).bind fun bt346 => ((unpackstream_Valid.f kj3 a0_0 a0_1 l0_2 a0_3 a0_4 a0_5).bind fun t359 => ((capnpref25_Valid.f kj3 a0_0 a0_1 l0_2 a0_3 a0_4 a0_5).bind fun t360 => (if (t359 == t360) = true then ((capnpref25_Same.f kj3 t333 t334 t335 t338 t339 t340 bt346.1 bt346.2.1 bt346.2.2.1 bt346.2.2.2.1 bt346.2.2.2.2.1 bt346.2.2.2.2.2.1).bind fun t361 => (if t361 = true then ((capnpref01_Same.f kj3 t341 bt346.2.2.2.2.2.2.1).bind fun t362 => (if t362 = true then (if t344 = bt346.2.2.2.2.2.2.2 then ((unpackstream_Close.f kj3 a0_0 a0_1 l0_2 a0_3 a0_4 a0_5).bind fun t363 => ((capnpref25_Close.f kj3 a0_0 a0_1 l0_2 a0_3 a0_4 a0_5).bind fun t364 => (some (t363 == t364)))) else (none)) else (none))) else (none))) else (none))))) = some r := H
        have A17 := Aside0.mk A170
        clear A170
        replace H := Option.bind_eq_some_iff.mp H
        obtain ⟨⟨t346, t347, t348, t351, t352, t353, t354, t357⟩, A180, H⟩ := H
        replace H : ((unpackstream_Valid.f kj3 a0_0 a0_1 l0_2 a0_3 a0_4 a0_5).bind fun t359 => ((capnpref25_Valid.f kj3 a0_0 a0_1 l0_2 a0_3 a0_4 a0_5).bind fun t360 => (if (t359 == t360) = true then ((capnpref25_Same.f kj3 t333 t334 t335 t338 t339 t340 t346 t347 t348 t351 t352 t353).bind fun t361 => (if t361 = true then ((capnpref01_Same.f kj3 t341 t354).bind fun t362 => (if t362 = true then (if t344 = t357 then ((unpackstream_Close.f kj3 a0_0 a0_1 l0_2 a0_3 a0_4 a0_5).bind fun t363 => ((capnpref25_Close.f kj3 a0_0 a0_1 l0_2 a0_3 a0_4 a0_5).bind fun t364 => (some (t363 == t364)))) else (none)) else (none))) else (none))) else (none)))) = some r := H
        have A18 := Aside0.mk A180
        clear A180
        replace H := Option.bind_eq_some_iff.mp H
        obtain ⟨t359, A190, H⟩ := H
        replace H : ((capnpref25_Valid.f kj3 a0_0 a0_1 l0_2 a0_3 a0_4 a0_5).bind fun t360 => (if (t359 == t360) = true then ((capnpref25_Same.f kj3 t333 t334 t335 t338 t339 t340 t346 t347 t348 t351 t352 t353).bind fun t361 => (if t361 = true then ((capnpref01_Same.f kj3 t341 t354).bind fun t362 => (if t362 = true then (if t344 = t357 then ((unpackstream_Close.f kj3 a0_0 a0_1 l0_2 a0_3 a0_4 a0_5).bind fun t363 => ((capnpref25_Close.f kj3 a0_0 a0_1 l0_2 a0_3 a0_4 a0_5).bind fun t364 => (some (t363 == t364)))) else (none)) else (none))) else (none))) else (none))) = some r := H
        have A19 := Aside0.mk A190
        clear A190
        replace H := Option.bind_eq_some_iff.mp H
        obtain ⟨t360, A200, H⟩ := H
        replace H : (if (t359 == t360) = true then ((capnpref25_Same.f kj3 t333 t334 t335 t338 t339 t340 t346 t347 t348 t351 t352 t353).bind fun t361 => (if t361 = true then ((capnpref01_Same.f kj3 t341 t354).bind fun t362 => (if t362 = true then (if t344 = t357 then ((unpackstream_Close.f kj3 a0_0 a0_1 l0_2 a0_3 a0_4 a0_5).bind fun t363 => ((capnpref25_Close.f kj3 a0_0 a0_1 l0_2 a0_3 a0_4 a0_5).bind fun t364 => (some (t363 == t364)))) else (none)) else (none))) else (none))) else (none)) = some r := H
        have A20 := Aside0.mk A200
        clear A200
        by_cases c21 : (t359 == t360) = true
        · rw [if_pos c21] at H
          have c21b0 : (t359 == t360) = true := c21
          (try (have c21b1 : decide (t359 = t360) = true := by simpa using c21))
          (try (have c21b2 : (t359 == t360) = true := by simpa using c21))
          clear c21
          replace H := Option.bind_eq_some_iff.mp H
          obtain ⟨t361, A220, H⟩ := H
          replace H : (if t361 = true then ((capnpref01_Same.f kj3 t341 t354).bind fun t362 => (if t362 = true then (if t344 = t357 then ((unpackstream_Close.f kj3 a0_0 a0_1 l0_2 a0_3 a0_4 a0_5).bind fun t363 => ((capnpref25_Close.f kj3 a0_0 a0_1 l0_2 a0_3 a0_4 a0_5).bind fun t364 => (some (t363 == t364)))) else (none)) else (none))) else (none)) = some r := H
          have A22 := Aside0.mk A220
          clear A220
          by_cases c23 : t361 = true
          · subst c23
            have H1 : ((capnpref01_Same.f kj3 t341 t354).bind fun t362 => (if t362 = true then (if t344 = t357 then ((unpackstream_Close.f kj3 a0_0 a0_1 l0_2 a0_3 a0_4 a0_5).bind fun t363 => ((capnpref25_Close.f kj3 a0_0 a0_1 l0_2 a0_3 a0_4 a0_5).bind fun t364 => (some (t363 == t364)))) else (none)) else (none))) = some r := by rw [if_pos rfl] at H; exact H
            clear H
            have H := H1
            clear H1
            replace H := Option.bind_eq_some_iff.mp H
            obtain ⟨t362, A240, H⟩ := H
            replace H : (if t362 = true then (if t344 = t357 then ((unpackstream_Close.f kj3 a0_0 a0_1 l0_2 a0_3 a0_4 a0_5).bind fun t363 => ((capnpref25_Close.f kj3 a0_0 a0_1 l0_2 a0_3 a0_4 a0_5).bind fun t364 => (some (t363 == t364)))) else (none)) else (none)) = some r := H
            have A24 := Aside0.mk A240
            clear A240
            by_cases c25 : t362 = true
            · subst c25
              have H1 : (if t344 = t357 then ((unpackstream_Close.f kj3 a0_0 a0_1 l0_2 a0_3 a0_4 a0_5).bind fun t363 => ((capnpref25_Close.f kj3 a0_0 a0_1 l0_2 a0_3 a0_4 a0_5).bind fun t364 => (some (t363 == t364)))) else (none)) = some r := by rw [if_pos rfl] at H; exact H
              clear H
              have H := H1
              clear H1
              by_cases c26 : t344 = t357
              · rw [if_pos c26] at H
                have c26b0 : (t344 == t357) = true := beq_iff_eq.mpr c26
                have c26b1 : (t344 != t357) = false := bne_eq_false_iff_eq.mpr c26
                clear c26
                replace H := Option.bind_eq_some_iff.mp H
                obtain ⟨t363, A270, H⟩ := H
                replace H : ((capnpref25_Close.f kj3 a0_0 a0_1 l0_2 a0_3 a0_4 a0_5).bind fun t364 => (some (t363 == t364))) = some r := H
                have A27 := Aside0.mk A270
                clear A270
                replace H := Option.bind_eq_some_iff.mp H
                obtain ⟨t364, A280, H⟩ := H
                replace H : (some (t363 == t364)) = some r := H
                have A28 := Aside0.mk A280
                clear A280
                obtain rfl := Option.some.inj H
                have hcz29_0 : wc.cell? ⟨gb330, 0, none⟩ = some (.int .i64 a0_0) := (blk_cell BK330.out 0).trans rfl
                have hcz29_1 : wc.cell? ⟨gb330, 1, none⟩ = some (.int .u8 a0_1) := (blk_cell BK330.out 1).trans rfl
                have hcz29_2 : wc.cell? ⟨gb330, 2, none⟩ = some (.slice A0_2 l0_2.length c0_2) := (blk_cell BK330.out 2).trans rfl
                have hcz29_3 : wc.cell? ⟨gb330, 3, none⟩ = some (.int .i64 a0_3) := (blk_cell BK330.out 3).trans rfl
                have hcz29_4 : wc.cell? ⟨gb330, 4, none⟩ = some (.int .i64 a0_4) := (blk_cell BK330.out 4).trans rfl
                have hcz29_5 : wc.cell? ⟨gb330, 5, none⟩ = some (.int .i64 a0_5) := (blk_cell BK330.out 5).trans rfl
                have hfz29_0 := blk_frozen BK330.out 0
                have hfz29_1 := blk_frozen BK330.out 1
                have hfz29_2 := blk_frozen BK330.out 2
                have hfz29_3 := blk_frozen BK330.out 3
                have hfz29_4 := blk_frozen BK330.out 4
                have hfz29_5 := blk_frozen BK330.out 5
                try go_wp2_with (first | ((with_reducible refine gate_callee (f := 9) rfl ?_); refine goesL_ (some 31) rfl rfl Tryd.func9 (by kernel_rfl) rfl #[.agg #[.int .i64 a0_0, .int .u8 a0_1, .slice A0_2 l0_2.length c0_2, .int .i64 a0_3, .int .i64 a0_4, .int .i64 a0_5], .slice A1 l1.length c1, .int .i64 a2] rfl pM ?_; (with_reducible refine (unpackstream_Write.calls a0_0 a0_1 _ _ l0_2 a0_3 a0_4 a0_5 _ _ l1 a2 t333 t334 t335 t338 t339 t340 t341 t344 _ ?side1 ?side2 ?side3 ?side4 A17.out (Go.Proofs.YtpffoecblcfndaaDoor.Us.StepsL.below HL.out pB)).mono ?_); (case side1 => repeat (first | exact (Kd.C_below HR0_2.out HB.out) | (with_reducible refine Kd.C_alloc ?_ _) | (with_reducible refine Kd.C_drewN ?_ _) | (with_reducible refine Kd.C_drew ?_))); (case side2 => exact HC0_2.out); (case side3 => repeat (first | exact (Kd.C_below HR1.out HB.out) | (with_reducible refine Kd.C_alloc ?_ _) | (with_reducible refine Kd.C_drewN ?_ _) | (with_reducible refine Kd.C_drew ?_))); (case side4 => exact HC1.out); rintro e w30 ⟨v336, v342, rfl, ho0, ho1, hb⟩; refine ⟨_, rfl, ?_⟩; have n0_ := Aside0.mk (Kd.R_lower ho0 (below_size (by repeat (first | (with_reducible first | exact HB.out | apply below_alloc | apply pw_below_drewN | apply below_drew1 | refine below_set ?_ GE330.out) | exact HB.out)))); have n1_ := Aside0.mk (Kd.R_lower ho1 (below_size (by repeat (first | (with_reducible first | exact HB.out | apply below_alloc | apply pw_below_drewN | apply below_drew1 | refine below_set ?_ GE330.out) | exact HB.out)))); have n2_ := Aside0.mk (blk_below (g := gb330) (o := .cells #[.int .i64 a0_0, .int .u8 a0_1, .slice A0_2 l0_2.length c0_2, .int .i64 a0_3, .int .i64 a0_4, .int .i64 a0_5] 25 (0, 0)) (pK BK330) hb); have n3_ := Aside0.mk (below_step (by repeat (first | (with_reducible first | exact HB.out | apply below_alloc | apply pw_below_drewN | apply below_drew1 | refine below_set ?_ GE330.out) | exact HB.out)) hb); clear BK330; clear HB; have HO337 := n0_; have HO343 := n1_; have BK330 := n2_; have HB := n3_; clear n0_ n1_ n2_ n3_; (try clear hb); (try clear hb2); (try clear hk); (try clear hi); (try clear ho0); (try clear ho1)) | ((with_reducible refine gate_dst (N := 7) rfl ?_); (try (refine gate_guard (by rfl) ?_; dsimp only)); refine box_event ?hg (N := 7) ?hd (cs := #[.int .i64 0, .int .u8 0, .slice none 0 0, .int .i64 0, .int .i64 0, .int .i64 0]) (t := 25) ?hr ?_; (case hd => rfl); (case hg => rfl); (case hr => first | (go_simp; done) | (go_simp; rfl)); intro gb345 hg w31 hbox hb; have n0_ := Aside0.mk (Kd.R_below (pR HO337) hb); have n1_ := Aside0.mk (Kd.R_below (pR HO343) hb); have n2_ := Aside0.mk (blk_below (g := gb330) (o := .cells #[.int .i64 a0_0, .int .u8 a0_1, .slice A0_2 l0_2.length c0_2, .int .i64 a0_3, .int .i64 a0_4, .int .i64 a0_5] 25 (0, 0)) (pK BK330) hb); have n3_ := Aside0.mk (below_step (by repeat (first | (with_reducible first | exact HB.out | apply below_alloc | apply pw_below_drewN | apply below_drew1 | refine below_set ?_ GE330.out) | exact HB.out)) hb); have n4_ := Aside0.mk (hbox); have n5_ := Aside0.mk ((by rw [hg]; exact (below_size (by repeat (first | (with_reducible first | exact HB.out | apply below_alloc | apply pw_below_drewN | apply below_drew1 | refine below_set ?_ GE330.out) | exact HB.out))) : w.heap.size ≤ gb345)); have n6_ := Aside0.mk ((by rw [hg]; exact (below_size (by repeat (first | (with_reducible first | exact HB.out | apply below_alloc | apply pw_below_drewN | apply below_drew1 | refine below_set ?_ GE330.out) | exact HB.out))) : w.heap.size ≤ gb345)); have n7_ := Aside0.mk ((by rw [hg]; exact Nat.ne_of_lt (blk_lt (g := gb330) (o := .cells #[.int .i64 a0_0, .int .u8 a0_1, .slice A0_2 l0_2.length c0_2, .int .i64 a0_3, .int .i64 a0_4, .int .i64 a0_5] 25 (0, 0)) (pK BK330)) : gb330 ≠ gb345)); have n8_ := Aside0.mk ((by rw [hg]; exact Nat.ne_of_gt (blk_lt (g := gb330) (o := .cells #[.int .i64 a0_0, .int .u8 a0_1, .slice A0_2 l0_2.length c0_2, .int .i64 a0_3, .int .i64 a0_4, .int .i64 a0_5] 25 (0, 0)) (pK BK330)) : gb345 ≠ gb330)); clear HO337; clear HO343; clear BK330; clear HB; have HO337 := n0_; have HO343 := n1_; have BK330 := n2_; have HB := n3_; have BK345 := n4_; have GW345 := n5_; have GE345 := n6_; have NB330_345 := n7_; have NB345_330 := n8_; clear n0_ n1_ n2_ n3_ n4_ n5_ n6_ n7_ n8_; clear hb hbox hg; have hnb32 := NB345_330.out; have hnc32 := NB330_345.out; have hcz33_0 : w31.cell? ⟨gb345, 0, none⟩ = some (.int .i64 0) := (blk_cell BK345.out 0).trans rfl; have hcz33_1 : w31.cell? ⟨gb345, 1, none⟩ = some (.int .u8 0) := (blk_cell BK345.out 1).trans rfl; have hcz33_2 : w31.cell? ⟨gb345, 2, none⟩ = some (.slice none 0 0) := (blk_cell BK345.out 2).trans rfl; have hcz33_3 : w31.cell? ⟨gb345, 3, none⟩ = some (.int .i64 0) := (blk_cell BK345.out 3).trans rfl; have hcz33_4 : w31.cell? ⟨gb345, 4, none⟩ = some (.int .i64 0) := (blk_cell BK345.out 4).trans rfl; have hcz33_5 : w31.cell? ⟨gb345, 5, none⟩ = some (.int .i64 0) := (blk_cell BK345.out 5).trans rfl; have hfz33_0 := blk_frozen BK345.out 0; have hfz33_1 := blk_frozen BK345.out 1; have hfz33_2 := blk_frozen BK345.out 2; have hfz33_3 := blk_frozen BK345.out 3; have hfz33_4 := blk_frozen BK345.out 4; have hfz33_5 := blk_frozen BK345.out 5; obtain ⟨Ao34, co34, eo34⟩ := Kd.R_slice HO337.out; subst eo34) | ((with_reducible refine gate_store (t := 25) (p := 7) rfl ?_); refine store_event (t := 25) (p := 7) (v := ?vo_w35) (w1 := ((((((w31.setCell ⟨gb345, 0, none⟩ (.int .i64 t333)).setCell ⟨gb345, 1, none⟩ (.int .u8 t334)).setCell ⟨gb345, 2, none⟩ (.slice Ao34 t335.length co34)).setCell ⟨gb345, 3, none⟩ (.int .i64 t338)).setCell ⟨gb345, 4, none⟩ (.int .i64 t339)).setCell ⟨gb345, 5, none⟩ (.int .i64 t340))) ?hg ?ho ?hn ?hr ?_; (case ho => rfl); (case hg => rfl); (case hn => rfl); (case hr => first | (go_simp; done) | (go_simp; rfl)); intro w35 hw; have n0_ : Aside0 (Kd.R (Kd.int .u8) 5 w35 w.heap.size (fun k_ => some k_ ≠ (v342 : Value).ownBlock) (.slice Ao34 t335.length co34) t335) := ⟨(by rw [hw]; exact (by (with_reducible repeat (first | apply Kd.R_alloc | apply Kd.R_drewN | apply Kd.R_drew)); exact Kd.R_mono (Kd.R_far (p := ⟨gb345, 5, none⟩) (Kd.R_far (p := ⟨gb345, 4, none⟩) (Kd.R_far (p := ⟨gb345, 3, none⟩) (Kd.R_far (p := ⟨gb345, 2, none⟩) (Kd.R_far (p := ⟨gb345, 1, none⟩) (Kd.R_far (p := ⟨gb345, 0, none⟩) (Kd.R_types HO337.out BK345.out (by decide)) (fun _ hk => hk.2) (.int .i64 t333)) (fun _ hk => hk.2) (.int .u8 t334)) (fun _ hk => hk.2) (.slice Ao34 t335.length co34)) (fun _ hk => hk.2) (.int .i64 t338)) (fun _ hk => hk.2) (.int .i64 t339)) (fun _ hk => hk.2) (.int .i64 t340)) (fun _ hk => hk.1)))⟩; have n1_ : Aside0 (Kd.R (Kd.int .u8) 5 w35 w.heap.size (fun k_ => some k_ ≠ (.slice Ao34 t335.length co34 : Value).ownBlock) v342 t341) := ⟨(by rw [hw]; exact (by (with_reducible repeat (first | apply Kd.R_alloc | apply Kd.R_drewN | apply Kd.R_drew)); exact Kd.R_mono (Kd.R_far (p := ⟨gb345, 5, none⟩) (Kd.R_far (p := ⟨gb345, 4, none⟩) (Kd.R_far (p := ⟨gb345, 3, none⟩) (Kd.R_far (p := ⟨gb345, 2, none⟩) (Kd.R_far (p := ⟨gb345, 1, none⟩) (Kd.R_far (p := ⟨gb345, 0, none⟩) (Kd.R_types HO343.out BK345.out (by decide)) (fun _ hk => hk.2) (.int .i64 t333)) (fun _ hk => hk.2) (.int .u8 t334)) (fun _ hk => hk.2) (.slice Ao34 t335.length co34)) (fun _ hk => hk.2) (.int .i64 t338)) (fun _ hk => hk.2) (.int .i64 t339)) (fun _ hk => hk.2) (.int .i64 t340)) (fun _ hk => hk.1)))⟩; have n2_ : Aside0 (w35.heap[gb330]? = some (.cells #[.int .i64 a0_0, .int .u8 a0_1, .slice A0_2 l0_2.length c0_2, .int .i64 a0_3, .int .i64 a0_4, .int .i64 a0_5] 25 (0, 0))) := ⟨(by rw [hw]; exact (by (with_reducible repeat (first | refine blk_drewN ?_ _ | refine blk_drew ?_ | refine blk_alloc ?_ _)); refine blk_far ?_ NB330_345.out _; (with_reducible repeat (first | refine blk_drewN ?_ _ | refine blk_drew ?_ | refine blk_alloc ?_ _)); refine blk_far ?_ NB330_345.out _; (with_reducible repeat (first | refine blk_drewN ?_ _ | refine blk_drew ?_ | refine blk_alloc ?_ _)); refine blk_far ?_ NB330_345.out _; (with_reducible repeat (first | refine blk_drewN ?_ _ | refine blk_drew ?_ | refine blk_alloc ?_ _)); refine blk_far ?_ NB330_345.out _; (with_reducible repeat (first | refine blk_drewN ?_ _ | refine blk_drew ?_ | refine blk_alloc ?_ _)); refine blk_far ?_ NB330_345.out _; (with_reducible repeat (first | refine blk_drewN ?_ _ | refine blk_drew ?_ | refine blk_alloc ?_ _)); refine blk_far ?_ NB330_345.out _; (with_reducible repeat (first | refine blk_drewN ?_ _ | refine blk_drew ?_ | refine blk_alloc ?_ _)); exact BK330.out))⟩; have n3_ : Aside0 (w35.heap[gb345]? = some (.cells #[.int .i64 t333, .int .u8 t334, .slice Ao34 t335.length co34, .int .i64 t338, .int .i64 t339, .int .i64 t340] 25 (0, 0))) := ⟨(by rw [hw]; exact (by (with_reducible repeat (first | refine blk_drewN ?_ _ | refine blk_drew ?_ | refine blk_alloc ?_ _)); refine blk_put (cs := #[.int .i64 t333, .int .u8 t334, .slice Ao34 t335.length co34, .int .i64 t338, .int .i64 t339, .int .i64 0]) ?_ 5 _ rfl; (with_reducible repeat (first | refine blk_drewN ?_ _ | refine blk_drew ?_ | refine blk_alloc ?_ _)); refine blk_put (cs := #[.int .i64 t333, .int .u8 t334, .slice Ao34 t335.length co34, .int .i64 t338, .int .i64 0, .int .i64 0]) ?_ 4 _ rfl; (with_reducible repeat (first | refine blk_drewN ?_ _ | refine blk_drew ?_ | refine blk_alloc ?_ _)); refine blk_put (cs := #[.int .i64 t333, .int .u8 t334, .slice Ao34 t335.length co34, .int .i64 0, .int .i64 0, .int .i64 0]) ?_ 3 _ rfl; (with_reducible repeat (first | refine blk_drewN ?_ _ | refine blk_drew ?_ | refine blk_alloc ?_ _)); refine blk_put (cs := #[.int .i64 t333, .int .u8 t334, .slice none 0 0, .int .i64 0, .int .i64 0, .int .i64 0]) ?_ 2 _ rfl; (with_reducible repeat (first | refine blk_drewN ?_ _ | refine blk_drew ?_ | refine blk_alloc ?_ _)); refine blk_put (cs := #[.int .i64 t333, .int .u8 0, .slice none 0 0, .int .i64 0, .int .i64 0, .int .i64 0]) ?_ 1 _ rfl; (with_reducible repeat (first | refine blk_drewN ?_ _ | refine blk_drew ?_ | refine blk_alloc ?_ _)); refine blk_put (cs := #[.int .i64 0, .int .u8 0, .slice none 0 0, .int .i64 0, .int .i64 0, .int .i64 0]) ?_ 0 _ rfl; (with_reducible repeat (first | refine blk_drewN ?_ _ | refine blk_drew ?_ | refine blk_alloc ?_ _)); exact BK345.out))⟩; have n4_ : Aside0 (Below w.heap.size w w35) := ⟨(by rw [hw]; exact (by repeat (first | (with_reducible first | exact HB.out | apply below_alloc | apply pw_below_drewN | apply below_drew1 | refine below_set ?_ GE330.out | refine below_set ?_ GE345.out) | exact HB.out)))⟩; clear hw; clear HO337; clear HO343; clear BK330; clear BK345; clear HB; have HO337 := n0_; have HO343 := n1_; have BK330 := n2_; have BK345 := n3_; have HB := n4_; clear n0_ n1_ n2_ n3_ n4_; have hcz36_0 : w35.cell? ⟨gb330, 0, none⟩ = some (.int .i64 a0_0) := (blk_cell BK330.out 0).trans rfl; have hcz36_1 : w35.cell? ⟨gb330, 1, none⟩ = some (.int .u8 a0_1) := (blk_cell BK330.out 1).trans rfl; have hcz36_2 : w35.cell? ⟨gb330, 2, none⟩ = some (.slice A0_2 l0_2.length c0_2) := (blk_cell BK330.out 2).trans rfl; have hcz36_3 : w35.cell? ⟨gb330, 3, none⟩ = some (.int .i64 a0_3) := (blk_cell BK330.out 3).trans rfl; have hcz36_4 : w35.cell? ⟨gb330, 4, none⟩ = some (.int .i64 a0_4) := (blk_cell BK330.out 4).trans rfl; have hcz36_5 : w35.cell? ⟨gb330, 5, none⟩ = some (.int .i64 a0_5) := (blk_cell BK330.out 5).trans rfl; have hfz36_0 := blk_frozen BK330.out 0; have hfz36_1 := blk_frozen BK330.out 1; have hfz36_2 := blk_frozen BK330.out 2; have hfz36_3 := blk_frozen BK330.out 3; have hfz36_4 := blk_frozen BK330.out 4; have hfz36_5 := blk_frozen BK330.out 5) | ((with_reducible refine gate_callee (f := 10) rfl ?_); refine goesL_ (some 39) rfl rfl Tryd.func10 (by kernel_rfl) rfl #[.agg #[.int .i64 a0_0, .int .u8 a0_1, .slice A0_2 l0_2.length c0_2, .int .i64 a0_3, .int .i64 a0_4, .int .i64 a0_5], .slice A1 l1.length c1, .int .i64 a2] rfl pM ?_; (with_reducible refine (capnpref25_Write.calls kj3 a0_0 a0_1 (fun k_ => k_ < w.heap.size) _ _ l0_2 a0_3 a0_4 a0_5 _ _ l1 a2 t346 t347 t348 t351 t352 t353 t354 t357 _ ?side1 ?side2 ?side3 A18.out).mono ?_); (case side1 => exact Kd.V_mk HC0_2.out (Kd.F_below (Kd.C_F (Kd.heap_int .u8) HR0_2.out) (by repeat (first | (with_reducible first | exact HB.out | apply below_alloc | apply pw_below_drewN | apply below_drew1 | refine below_set ?_ GE330.out | refine below_set ?_ GE345.out) | exact HB.out)))); (case side2 => repeat (first | exact (Kd.C_below HR1.out HB.out) | (with_reducible refine Kd.C_alloc ?_ _) | (with_reducible refine Kd.C_drewN ?_ _) | (with_reducible refine Kd.C_drew ?_))); (case side3 => exact HC1.out); rintro e w37 ⟨v349, v355, rfl, ho0, ho1, hb⟩; refine ⟨_, rfl, ?_⟩; have n0_ := Aside0.mk (Kd.R_elder' (pR HO337) (Kd.R_base ho1) hb); have n1_ := Aside0.mk (Kd.R_elder' (pR HO343) (Kd.R_base ho1) hb); have n2_ := Aside0.mk (Kd.V_lower (Kd.V_mono (ok' := fun k_ => some k_ ≠ (v355 : Value).ownBlock ∧ some k_ ≠ (.slice Ao34 t335.length co34 : Value).ownBlock ∧ some k_ ≠ (v342 : Value).ownBlock ∧ k_ ≠ gb330 ∧ k_ ≠ gb345) ho0 (fun k_ hk_ => ⟨hk_.2, Or.elim hk_.1 (fun hs_ => fun e_ => Nat.not_le.2 hs_ (Kd.R_base HO337.out k_ e_.symm)) (fun hn_ => (Kd.fresh' (Kd.R_lt (pR HO337)) k_ hn_)), Or.elim hk_.1 (fun hs_ => fun e_ => Nat.not_le.2 hs_ (Kd.R_base HO343.out k_ e_.symm)) (fun hn_ => (Kd.fresh' (Kd.R_lt (pR HO343)) k_ hn_)), Or.elim hk_.1 (fun hs_ => fun e_ => Nat.not_le.2 hs_ (by rw [e_]; exact GW330.out)) (fun hn_ => (Kd.freshB (g := gb330) (o := .cells #[.int .i64 a0_0, .int .u8 a0_1, .slice A0_2 l0_2.length c0_2, .int .i64 a0_3, .int .i64 a0_4, .int .i64 a0_5] 25 (0, 0)) (pK BK330) k_ hn_)), Or.elim hk_.1 (fun hs_ => fun e_ => Nat.not_le.2 hs_ (by rw [e_]; exact GW345.out)) (fun hn_ => (Kd.freshB (g := gb345) (o := .cells #[.int .i64 t333, .int .u8 t334, .slice Ao34 t335.length co34, .int .i64 t338, .int .i64 t339, .int .i64 t340] 25 (0, 0)) (pK BK345) k_ hn_))⟩)) (below_size (by repeat (first | (with_reducible first | exact HB.out | apply below_alloc | apply pw_below_drewN | apply below_drew1 | refine below_set ?_ GE330.out | refine below_set ?_ GE345.out) | exact HB.out)))); have n3_ := Aside0.mk (Kd.R_lower (Kd.R_new' (Kd.R_new' (Kd.R_mono (ok' := fun k_ => True) ho1 (fun _ hk_ => trivial)) (Kd.R_lt (pR HO337))) (Kd.R_lt (pR HO343))) (below_size (by repeat (first | (with_reducible first | exact HB.out | apply below_alloc | apply pw_below_drewN | apply below_drew1 | refine below_set ?_ GE330.out | refine below_set ?_ GE345.out) | exact HB.out)))); have n4_ := Aside0.mk (blk_below (g := gb330) (o := .cells #[.int .i64 a0_0, .int .u8 a0_1, .slice A0_2 l0_2.length c0_2, .int .i64 a0_3, .int .i64 a0_4, .int .i64 a0_5] 25 (0, 0)) (pK BK330) hb); have n5_ := Aside0.mk (blk_below (g := gb345) (o := .cells #[.int .i64 t333, .int .u8 t334, .slice Ao34 t335.length co34, .int .i64 t338, .int .i64 t339, .int .i64 t340] 25 (0, 0)) (pK BK345) hb); have n6_ := Aside0.mk (below_step (by repeat (first | (with_reducible first | exact HB.out | apply below_alloc | apply pw_below_drewN | apply below_drew1 | refine below_set ?_ GE330.out | refine below_set ?_ GE345.out) | exact HB.out)) hb); clear HO337; clear HO343; clear BK330; clear BK345; clear HB; have HO337 := n0_; have HO343 := n1_; have HO350 := n2_; have HO356 := n3_; have BK330 := n4_; have BK345 := n5_; have HB := n6_; clear n0_ n1_ n2_ n3_ n4_ n5_ n6_; (try clear hb); (try clear hb2); (try clear hk); (try clear hi); (try clear ho0); (try clear ho1)) | ((with_reducible refine gate_dst (N := 10) rfl ?_); (try (refine gate_guard (by rfl) ?_; dsimp only)); refine box_event ?hg (N := 10) ?hd (cs := #[.int .i64 0, .int .u8 0, .slice none 0 0, .int .i64 0, .int .i64 0, .int .i64 0]) (t := 25) ?hr ?_; (case hd => rfl); (case hg => rfl); (case hr => first | (go_simp; done) | (go_simp; rfl)); intro gb358 hg w38 hbox hb; have n0_ := Aside0.mk (Kd.R_below (pR HO337) hb); have n1_ := Aside0.mk (Kd.R_below (pR HO343) hb); have n2_ := Aside0.mk (Kd.V_below (Kd.V_elderB (by (with_reducible repeat (first | apply Kd.V_alloc | apply Kd.V_drewN | apply Kd.V_drew)); exact HO350.out) gb358 (Nat.le_of_eq hg.symm)) hb); have n3_ := Aside0.mk (Kd.R_below (pR HO356) hb); have n4_ := Aside0.mk (blk_below (g := gb330) (o := .cells #[.int .i64 a0_0, .int .u8 a0_1, .slice A0_2 l0_2.length c0_2, .int .i64 a0_3, .int .i64 a0_4, .int .i64 a0_5] 25 (0, 0)) (pK BK330) hb); have n5_ := Aside0.mk (blk_below (g := gb345) (o := .cells #[.int .i64 t333, .int .u8 t334, .slice Ao34 t335.length co34, .int .i64 t338, .int .i64 t339, .int .i64 t340] 25 (0, 0)) (pK BK345) hb); have n6_ := Aside0.mk (below_step (by repeat (first | (with_reducible first | exact HB.out | apply below_alloc | apply pw_below_drewN | apply below_drew1 | refine below_set ?_ GE330.out | refine below_set ?_ GE345.out) | exact HB.out)) hb); have n7_ := Aside0.mk (hbox); have n8_ := Aside0.mk ((by rw [hg]; exact (below_size (by repeat (first | (with_reducible first | exact HB.out | apply below_alloc | apply pw_below_drewN | apply below_drew1 | refine below_set ?_ GE330.out | refine below_set ?_ GE345.out) | exact HB.out))) : w.heap.size ≤ gb358)); have n9_ := Aside0.mk ((by rw [hg]; exact (below_size (by repeat (first | (with_reducible first | exact HB.out | apply below_alloc | apply pw_below_drewN | apply below_drew1 | refine below_set ?_ GE330.out | refine below_set ?_ GE345.out) | exact HB.out))) : w.heap.size ≤ gb358)); have n10_ := Aside0.mk ((by rw [hg]; exact Nat.ne_of_lt (blk_lt (g := gb330) (o := .cells #[.int .i64 a0_0, .int .u8 a0_1, .slice A0_2 l0_2.length c0_2, .int .i64 a0_3, .int .i64 a0_4, .int .i64 a0_5] 25 (0, 0)) (pK BK330)) : gb330 ≠ gb358)); have n11_ := Aside0.mk ((by rw [hg]; exact Nat.ne_of_gt (blk_lt (g := gb330) (o := .cells #[.int .i64 a0_0, .int .u8 a0_1, .slice A0_2 l0_2.length c0_2, .int .i64 a0_3, .int .i64 a0_4, .int .i64 a0_5] 25 (0, 0)) (pK BK330)) : gb358 ≠ gb330)); have n12_ := Aside0.mk ((by rw [hg]; exact Nat.ne_of_lt (blk_lt (g := gb345) (o := .cells #[.int .i64 t333, .int .u8 t334, .slice Ao34 t335.length co34, .int .i64 t338, .int .i64 t339, .int .i64 t340] 25 (0, 0)) (pK BK345)) : gb345 ≠ gb358)); have n13_ := Aside0.mk ((by rw [hg]; exact Nat.ne_of_gt (blk_lt (g := gb345) (o := .cells #[.int .i64 t333, .int .u8 t334, .slice Ao34 t335.length co34, .int .i64 t338, .int .i64 t339, .int .i64 t340] 25 (0, 0)) (pK BK345)) : gb358 ≠ gb345)); clear HO337; clear HO343; clear HO350; clear HO356; clear BK330; clear BK345; clear HB; have HO337 := n0_; have HO343 := n1_; have HO350 := n2_; have HO356 := n3_; have BK330 := n4_; have BK345 := n5_; have HB := n6_; have BK358 := n7_; have GW358 := n8_; have GE358 := n9_; have NB330_358 := n10_; have NB358_330 := n11_; have NB345_358 := n12_; have NB358_345 := n13_; clear n0_ n1_ n2_ n3_ n4_ n5_ n6_ n7_ n8_ n9_ n10_ n11_ n12_ n13_; clear hb hbox hg; have hnb39 := NB358_330.out; have hnc39 := NB330_358.out; have hnb40 := NB358_345.out; have hnc40 := NB345_358.out; have hcz41_0 : w38.cell? ⟨gb358, 0, none⟩ = some (.int .i64 0) := (blk_cell BK358.out 0).trans rfl; have hcz41_1 : w38.cell? ⟨gb358, 1, none⟩ = some (.int .u8 0) := (blk_cell BK358.out 1).trans rfl; have hcz41_2 : w38.cell? ⟨gb358, 2, none⟩ = some (.slice none 0 0) := (blk_cell BK358.out 2).trans rfl; have hcz41_3 : w38.cell? ⟨gb358, 3, none⟩ = some (.int .i64 0) := (blk_cell BK358.out 3).trans rfl; have hcz41_4 : w38.cell? ⟨gb358, 4, none⟩ = some (.int .i64 0) := (blk_cell BK358.out 4).trans rfl; have hcz41_5 : w38.cell? ⟨gb358, 5, none⟩ = some (.int .i64 0) := (blk_cell BK358.out 5).trans rfl; have hfz41_0 := blk_frozen BK358.out 0; have hfz41_1 := blk_frozen BK358.out 1; have hfz41_2 := blk_frozen BK358.out 2; have hfz41_3 := blk_frozen BK358.out 3; have hfz41_4 := blk_frozen BK358.out 4; have hfz41_5 := blk_frozen BK358.out 5; obtain ⟨Ao42, co42, eo42⟩ := Kd.V_slice HO350.out; subst eo42))
                have n0_ : Aside0 (Kd.R (Kd.int .u8) 5 ((((((w38.setCell ⟨gb358, 0, none⟩ (.int .i64 t346)).setCell ⟨gb358, 1, none⟩ (.int .u8 t347)).setCell ⟨gb358, 2, none⟩ (.slice Ao42 t348.length co42)).setCell ⟨gb358, 3, none⟩ (.int .i64 t351)).setCell ⟨gb358, 4, none⟩ (.int .i64 t352)).setCell ⟨gb358, 5, none⟩ (.int .i64 t353)) w.heap.size (fun k_ => some k_ ≠ (v342 : Value).ownBlock ∧ some k_ ≠ (v355 : Value).ownBlock) (.slice Ao34 t335.length co34) t335) := ⟨by (with_reducible repeat (first | apply Kd.R_alloc | apply Kd.R_drewN | apply Kd.R_drew)); exact Kd.R_mono (Kd.R_far (p := ⟨gb358, 5, none⟩) (Kd.R_far (p := ⟨gb358, 4, none⟩) (Kd.R_far (p := ⟨gb358, 3, none⟩) (Kd.R_far (p := ⟨gb358, 2, none⟩) (Kd.R_far (p := ⟨gb358, 1, none⟩) (Kd.R_far (p := ⟨gb358, 0, none⟩) (Kd.R_types HO337.out BK358.out (by decide)) (fun _ hk => hk.2) (.int .i64 t346)) (fun _ hk => hk.2) (.int .u8 t347)) (fun _ hk => hk.2) (.slice Ao42 t348.length co42)) (fun _ hk => hk.2) (.int .i64 t351)) (fun _ hk => hk.2) (.int .i64 t352)) (fun _ hk => hk.2) (.int .i64 t353)) (fun _ hk => ⟨hk.1.1, hk.1.2⟩)⟩
                have n1_ : Aside0 (Kd.R (Kd.int .u8) 5 ((((((w38.setCell ⟨gb358, 0, none⟩ (.int .i64 t346)).setCell ⟨gb358, 1, none⟩ (.int .u8 t347)).setCell ⟨gb358, 2, none⟩ (.slice Ao42 t348.length co42)).setCell ⟨gb358, 3, none⟩ (.int .i64 t351)).setCell ⟨gb358, 4, none⟩ (.int .i64 t352)).setCell ⟨gb358, 5, none⟩ (.int .i64 t353)) w.heap.size (fun k_ => some k_ ≠ (.slice Ao34 t335.length co34 : Value).ownBlock ∧ some k_ ≠ (v355 : Value).ownBlock) v342 t341) := ⟨by (with_reducible repeat (first | apply Kd.R_alloc | apply Kd.R_drewN | apply Kd.R_drew)); exact Kd.R_mono (Kd.R_far (p := ⟨gb358, 5, none⟩) (Kd.R_far (p := ⟨gb358, 4, none⟩) (Kd.R_far (p := ⟨gb358, 3, none⟩) (Kd.R_far (p := ⟨gb358, 2, none⟩) (Kd.R_far (p := ⟨gb358, 1, none⟩) (Kd.R_far (p := ⟨gb358, 0, none⟩) (Kd.R_types HO343.out BK358.out (by decide)) (fun _ hk => hk.2) (.int .i64 t346)) (fun _ hk => hk.2) (.int .u8 t347)) (fun _ hk => hk.2) (.slice Ao42 t348.length co42)) (fun _ hk => hk.2) (.int .i64 t351)) (fun _ hk => hk.2) (.int .i64 t352)) (fun _ hk => hk.2) (.int .i64 t353)) (fun _ hk => ⟨hk.1.1, hk.1.2⟩)⟩
                have n2_ : Aside0 (Kd.V (Kd.int .u8) 5 ((((((w38.setCell ⟨gb358, 0, none⟩ (.int .i64 t346)).setCell ⟨gb358, 1, none⟩ (.int .u8 t347)).setCell ⟨gb358, 2, none⟩ (.slice Ao42 t348.length co42)).setCell ⟨gb358, 3, none⟩ (.int .i64 t351)).setCell ⟨gb358, 4, none⟩ (.int .i64 t352)).setCell ⟨gb358, 5, none⟩ (.int .i64 t353)) w.heap.size (fun k_ => some k_ ≠ (.slice Ao34 t335.length co34 : Value).ownBlock ∧ some k_ ≠ (v342 : Value).ownBlock ∧ some k_ ≠ (v355 : Value).ownBlock ∧ k_ ≠ gb330 ∧ k_ ≠ gb345 ∧ k_ ≠ gb358) (.slice Ao42 t348.length co42) t348) := ⟨by (with_reducible repeat (first | apply Kd.V_alloc | apply Kd.V_drewN | apply Kd.V_drew)); exact Kd.V_mono (Kd.V_far (p := ⟨gb358, 5, none⟩) (Kd.V_far (p := ⟨gb358, 4, none⟩) (Kd.V_far (p := ⟨gb358, 3, none⟩) (Kd.V_far (p := ⟨gb358, 2, none⟩) (Kd.V_far (p := ⟨gb358, 1, none⟩) (Kd.V_far (p := ⟨gb358, 0, none⟩) (Kd.V_mono HO350.out (fun k_ hk => (⟨hk, hk.2⟩ : _ ∧ k_ ≠ gb358))) (fun _ hk => hk.2) (.int .i64 t346)) (fun _ hk => hk.2) (.int .u8 t347)) (fun _ hk => hk.2) (.slice Ao42 t348.length co42)) (fun _ hk => hk.2) (.int .i64 t351)) (fun _ hk => hk.2) (.int .i64 t352)) (fun _ hk => hk.2) (.int .i64 t353)) (fun _ hk => ⟨hk.1.1.2.1, ⟨hk.1.1.2.2.1, ⟨hk.1.1.1, ⟨hk.1.1.2.2.2.1, ⟨hk.1.1.2.2.2.2, hk.1.2⟩⟩⟩⟩⟩)⟩
                have n3_ : Aside0 (Kd.R (Kd.int .u8) 5 ((((((w38.setCell ⟨gb358, 0, none⟩ (.int .i64 t346)).setCell ⟨gb358, 1, none⟩ (.int .u8 t347)).setCell ⟨gb358, 2, none⟩ (.slice Ao42 t348.length co42)).setCell ⟨gb358, 3, none⟩ (.int .i64 t351)).setCell ⟨gb358, 4, none⟩ (.int .i64 t352)).setCell ⟨gb358, 5, none⟩ (.int .i64 t353)) w.heap.size (fun k_ => some k_ ≠ (.slice Ao34 t335.length co34 : Value).ownBlock ∧ some k_ ≠ (v342 : Value).ownBlock) v355 t354) := ⟨by (with_reducible repeat (first | apply Kd.R_alloc | apply Kd.R_drewN | apply Kd.R_drew)); exact Kd.R_mono (Kd.R_far (p := ⟨gb358, 5, none⟩) (Kd.R_far (p := ⟨gb358, 4, none⟩) (Kd.R_far (p := ⟨gb358, 3, none⟩) (Kd.R_far (p := ⟨gb358, 2, none⟩) (Kd.R_far (p := ⟨gb358, 1, none⟩) (Kd.R_far (p := ⟨gb358, 0, none⟩) (Kd.R_types HO356.out BK358.out (by decide)) (fun _ hk => hk.2) (.int .i64 t346)) (fun _ hk => hk.2) (.int .u8 t347)) (fun _ hk => hk.2) (.slice Ao42 t348.length co42)) (fun _ hk => hk.2) (.int .i64 t351)) (fun _ hk => hk.2) (.int .i64 t352)) (fun _ hk => hk.2) (.int .i64 t353)) (fun _ hk => ⟨hk.1.1.2, hk.1.2⟩)⟩
                have n4_ : Aside0 (((((((w38.setCell ⟨gb358, 0, none⟩ (.int .i64 t346)).setCell ⟨gb358, 1, none⟩ (.int .u8 t347)).setCell ⟨gb358, 2, none⟩ (.slice Ao42 t348.length co42)).setCell ⟨gb358, 3, none⟩ (.int .i64 t351)).setCell ⟨gb358, 4, none⟩ (.int .i64 t352)).setCell ⟨gb358, 5, none⟩ (.int .i64 t353)).heap[gb330]? = some (.cells #[.int .i64 a0_0, .int .u8 a0_1, .slice A0_2 l0_2.length c0_2, .int .i64 a0_3, .int .i64 a0_4, .int .i64 a0_5] 25 (0, 0))) := ⟨by (with_reducible repeat (first | refine blk_drewN ?_ _ | refine blk_drew ?_ | refine blk_alloc ?_ _)); refine blk_far ?_ NB330_358.out _; (with_reducible repeat (first | refine blk_drewN ?_ _ | refine blk_drew ?_ | refine blk_alloc ?_ _)); refine blk_far ?_ NB330_358.out _; (with_reducible repeat (first | refine blk_drewN ?_ _ | refine blk_drew ?_ | refine blk_alloc ?_ _)); refine blk_far ?_ NB330_358.out _; (with_reducible repeat (first | refine blk_drewN ?_ _ | refine blk_drew ?_ | refine blk_alloc ?_ _)); refine blk_far ?_ NB330_358.out _; (with_reducible repeat (first | refine blk_drewN ?_ _ | refine blk_drew ?_ | refine blk_alloc ?_ _)); refine blk_far ?_ NB330_358.out _; (with_reducible repeat (first | refine blk_drewN ?_ _ | refine blk_drew ?_ | refine blk_alloc ?_ _)); refine blk_far ?_ NB330_358.out _; (with_reducible repeat (first | refine blk_drewN ?_ _ | refine blk_drew ?_ | refine blk_alloc ?_ _)); exact BK330.out⟩
                have n5_ : Aside0 (((((((w38.setCell ⟨gb358, 0, none⟩ (.int .i64 t346)).setCell ⟨gb358, 1, none⟩ (.int .u8 t347)).setCell ⟨gb358, 2, none⟩ (.slice Ao42 t348.length co42)).setCell ⟨gb358, 3, none⟩ (.int .i64 t351)).setCell ⟨gb358, 4, none⟩ (.int .i64 t352)).setCell ⟨gb358, 5, none⟩ (.int .i64 t353)).heap[gb345]? = some (.cells #[.int .i64 t333, .int .u8 t334, .slice Ao34 t335.length co34, .int .i64 t338, .int .i64 t339, .int .i64 t340] 25 (0, 0))) := ⟨by (with_reducible repeat (first | refine blk_drewN ?_ _ | refine blk_drew ?_ | refine blk_alloc ?_ _)); refine blk_far ?_ NB345_358.out _; (with_reducible repeat (first | refine blk_drewN ?_ _ | refine blk_drew ?_ | refine blk_alloc ?_ _)); refine blk_far ?_ NB345_358.out _; (with_reducible repeat (first | refine blk_drewN ?_ _ | refine blk_drew ?_ | refine blk_alloc ?_ _)); refine blk_far ?_ NB345_358.out _; (with_reducible repeat (first | refine blk_drewN ?_ _ | refine blk_drew ?_ | refine blk_alloc ?_ _)); refine blk_far ?_ NB345_358.out _; (with_reducible repeat (first | refine blk_drewN ?_ _ | refine blk_drew ?_ | refine blk_alloc ?_ _)); refine blk_far ?_ NB345_358.out _; (with_reducible repeat (first | refine blk_drewN ?_ _ | refine blk_drew ?_ | refine blk_alloc ?_ _)); refine blk_far ?_ NB345_358.out _; (with_reducible repeat (first | refine blk_drewN ?_ _ | refine blk_drew ?_ | refine blk_alloc ?_ _)); exact BK345.out⟩
                have n6_ : Aside0 (((((((w38.setCell ⟨gb358, 0, none⟩ (.int .i64 t346)).setCell ⟨gb358, 1, none⟩ (.int .u8 t347)).setCell ⟨gb358, 2, none⟩ (.slice Ao42 t348.length co42)).setCell ⟨gb358, 3, none⟩ (.int .i64 t351)).setCell ⟨gb358, 4, none⟩ (.int .i64 t352)).setCell ⟨gb358, 5, none⟩ (.int .i64 t353)).heap[gb358]? = some (.cells #[.int .i64 t346, .int .u8 t347, .slice Ao42 t348.length co42, .int .i64 t351, .int .i64 t352, .int .i64 t353] 25 (0, 0))) := ⟨by (with_reducible repeat (first | refine blk_drewN ?_ _ | refine blk_drew ?_ | refine blk_alloc ?_ _)); refine blk_put (cs := #[.int .i64 t346, .int .u8 t347, .slice Ao42 t348.length co42, .int .i64 t351, .int .i64 t352, .int .i64 0]) ?_ 5 _ rfl; (with_reducible repeat (first | refine blk_drewN ?_ _ | refine blk_drew ?_ | refine blk_alloc ?_ _)); refine blk_put (cs := #[.int .i64 t346, .int .u8 t347, .slice Ao42 t348.length co42, .int .i64 t351, .int .i64 0, .int .i64 0]) ?_ 4 _ rfl; (with_reducible repeat (first | refine blk_drewN ?_ _ | refine blk_drew ?_ | refine blk_alloc ?_ _)); refine blk_put (cs := #[.int .i64 t346, .int .u8 t347, .slice Ao42 t348.length co42, .int .i64 0, .int .i64 0, .int .i64 0]) ?_ 3 _ rfl; (with_reducible repeat (first | refine blk_drewN ?_ _ | refine blk_drew ?_ | refine blk_alloc ?_ _)); refine blk_put (cs := #[.int .i64 t346, .int .u8 t347, .slice none 0 0, .int .i64 0, .int .i64 0, .int .i64 0]) ?_ 2 _ rfl; (with_reducible repeat (first | refine blk_drewN ?_ _ | refine blk_drew ?_ | refine blk_alloc ?_ _)); refine blk_put (cs := #[.int .i64 t346, .int .u8 0, .slice none 0 0, .int .i64 0, .int .i64 0, .int .i64 0]) ?_ 1 _ rfl; (with_reducible repeat (first | refine blk_drewN ?_ _ | refine blk_drew ?_ | refine blk_alloc ?_ _)); refine blk_put (cs := #[.int .i64 0, .int .u8 0, .slice none 0 0, .int .i64 0, .int .i64 0, .int .i64 0]) ?_ 0 _ rfl; (with_reducible repeat (first | refine blk_drewN ?_ _ | refine blk_drew ?_ | refine blk_alloc ?_ _)); exact BK358.out⟩
                have n7_ : Aside0 (Below w.heap.size w ((((((w38.setCell ⟨gb358, 0, none⟩ (.int .i64 t346)).setCell ⟨gb358, 1, none⟩ (.int .u8 t347)).setCell ⟨gb358, 2, none⟩ (.slice Ao42 t348.length co42)).setCell ⟨gb358, 3, none⟩ (.int .i64 t351)).setCell ⟨gb358, 4, none⟩ (.int .i64 t352)).setCell ⟨gb358, 5, none⟩ (.int .i64 t353))) := ⟨by repeat (first | (with_reducible first | exact HB.out | apply below_alloc | apply pw_below_drewN | apply below_drew1 | refine below_set ?_ GE330.out | refine below_set ?_ GE345.out | refine below_set ?_ GE358.out) | exact HB.out)⟩
                (try clear HO337)
                (try clear HO343)
                (try clear HO350)
                (try clear HO356)
                (try clear BK330)
                (try clear BK345)
                (try clear BK358)
                (try clear HB)
                generalize ((((((w38.setCell ⟨gb358, 0, none⟩ (.int .i64 t346)).setCell ⟨gb358, 1, none⟩ (.int .u8 t347)).setCell ⟨gb358, 2, none⟩ (.slice Ao42 t348.length co42)).setCell ⟨gb358, 3, none⟩ (.int .i64 t351)).setCell ⟨gb358, 4, none⟩ (.int .i64 t352)).setCell ⟨gb358, 5, none⟩ (.int .i64 t353)) = w43 at n0_ n1_ n2_ n3_ n4_ n5_ n6_ n7_ ⊢
                have HO337 := n0_
                have HO343 := n1_
                have HO350 := n2_
                have HO356 := n3_
                have BK330 := n4_
                have BK345 := n5_
                have BK358 := n6_
                have HB := n7_
                clear n0_ n1_ n2_ n3_ n4_ n5_ n6_ n7_
                have n0_ := Aside0.mk (Kd.R_drew HO337.out)
                have n1_ := Aside0.mk (Kd.R_drew HO343.out)
                have n2_ := Aside0.mk (Kd.V_drew HO350.out)
                have n3_ := Aside0.mk (Kd.R_drew HO356.out)
                have n4_ := Aside0.mk (blk_drew BK330.out)
                have n5_ := Aside0.mk (blk_drew BK345.out)
                have n6_ := Aside0.mk (blk_drew BK358.out)
                have n7_ := Aside0.mk (below_drew1 HB.out)
                clear HO337
                clear HO343
                clear HO350
                clear HO356
                clear BK330
                clear BK345
                clear BK358
                clear HB
                have HO337 := n0_
                have HO343 := n1_
                have HO350 := n2_
                have HO356 := n3_
                have BK330 := n4_
                have BK345 := n5_
                have BK358 := n6_
                have HB := n7_
                clear n0_ n1_ n2_ n3_ n4_ n5_ n6_ n7_
                refine start_ (n := 28) (S := fun w' => w'.cell? ⟨gb330, 0, none⟩ = some (.int .i64 a0_0) ∧ w'.cell? ⟨gb330, 1, none⟩ = some (.int .u8 a0_1) ∧ w'.cell? ⟨gb330, 2, none⟩ = some (.slice A0_2 l0_2.length c0_2) ∧ w'.cell? ⟨gb330, 3, none⟩ = some (.int .i64 a0_3) ∧ w'.cell? ⟨gb330, 4, none⟩ = some (.int .i64 a0_4) ∧ w'.cell? ⟨gb330, 5, none⟩ = some (.int .i64 a0_5) ∧ w'.cell? ⟨gb345, 0, none⟩ = some (.int .i64 t333) ∧ w'.cell? ⟨gb345, 1, none⟩ = some (.int .u8 t334) ∧ w'.cell? ⟨gb345, 2, none⟩ = some (.slice Ao34 t335.length co34) ∧ w'.cell? ⟨gb345, 3, none⟩ = some (.int .i64 t338) ∧ w'.cell? ⟨gb345, 4, none⟩ = some (.int .i64 t339) ∧ w'.cell? ⟨gb345, 5, none⟩ = some (.int .i64 t340) ∧ w'.cell? ⟨gb358, 0, none⟩ = some (.int .i64 t346) ∧ w'.cell? ⟨gb358, 1, none⟩ = some (.int .u8 t347) ∧ w'.cell? ⟨gb358, 2, none⟩ = some (.slice Ao42 t348.length co42) ∧ w'.cell? ⟨gb358, 3, none⟩ = some (.int .i64 t351) ∧ w'.cell? ⟨gb358, 4, none⟩ = some (.int .i64 t352) ∧ w'.cell? ⟨gb358, 5, none⟩ = some (.int .i64 t353)) (ds := []) #[false, false, false, false, false, false, false, false, false, false, false, false, false, false, false, false, false, false, false, false, false, false, false, false, false, false, false, false] (by kernel_rfl) rfl rfl ⟨(blk_cell BK330.out 0).trans rfl, (blk_cell BK330.out 1).trans rfl, (blk_cell BK330.out 2).trans rfl, (blk_cell BK330.out 3).trans rfl, (blk_cell BK330.out 4).trans rfl, (blk_cell BK330.out 5).trans rfl, (blk_cell BK345.out 0).trans rfl, (blk_cell BK345.out 1).trans rfl, (blk_cell BK345.out 2).trans rfl, (blk_cell BK345.out 3).trans rfl, (blk_cell BK345.out 4).trans rfl, (blk_cell BK345.out 5).trans rfl, (blk_cell BK358.out 0).trans rfl, (blk_cell BK358.out 1).trans rfl, (blk_cell BK358.out 2).trans rfl, (blk_cell BK358.out 3).trans rfl, (blk_cell BK358.out 4).trans rfl, (blk_cell BK358.out 5).trans rfl⟩ (fun hHeld => ?_); refine with_tabW capnplaw25_UnpackstreamMatchesReference.tab5 capnplaw25_UnpackstreamMatchesReference.bits5 (fun HT_ HW_ => ?_)
                generalize w43.drew = w44 at HO337 HO343 HO350 HO356 BK330 BK345 BK358 HB hHeld ⊢
                refine take_ (i := 0) (N := some 43) (v := ?_) (a' := ?_) #[true, false, false, false, false, false, false, false, false, false, false, false, false, false, false, false, false, false, false, false, false, false, false, false, false, false, false, false] rfl rfl (take_ofW HT_.out HW_.out (by kernel_rfl)) (fun _ _ _ h => h) (Or.inl ⟨by rfl, ?_⟩) hHeld ?_ ?_
                rotate_left
                · rintro w' ⟨s0, s1, s2, s3, s4, s5, s6, s7, s8, s9, s10, s11, s12, s13, s14, s15, s16, s17⟩
                  go_simp
                  with_reducible rfl
                rotate_left
                · simp only [Act.put, List.setIfInBounds_toArray, List.set_cons_zero, List.set_cons_succ, i64_w, i32_w]
                  rfl
                refine take_ (i := 2) (N := some 45) (v := ?_) (a' := ?_) #[true, false, true, false, false, false, false, false, false, false, false, false, false, false, false, false, false, false, false, false, false, false, false, false, false, false, false, false] rfl rfl (take_ofW HT_.out HW_.out (by kernel_rfl)) (fun _ _ _ h => h) (Or.inl ⟨by rfl, ?_⟩) hHeld ?_ ?_
                rotate_left
                · rintro w' ⟨s0, s1, s2, s3, s4, s5, s6, s7, s8, s9, s10, s11, s12, s13, s14, s15, s16, s17⟩
                  go_simp
                  with_reducible rfl
                rotate_left
                · simp only [Act.put, List.setIfInBounds_toArray, List.set_cons_zero, List.set_cons_succ, i64_w, i32_w]
                  rfl
                refine one_ (i := 1) (N := some 44) #[true, true, true, false, false, false, false, false, false, false, false, false, false, false, false, false, false, false, false, false, false, false, false, false, false, false, false, false] rfl rfl (one_of HT_.out (by kernel_rfl)) (by decide) (fun K hK => ?_)
                refine goes_ Tryd.func11 (by kernel_rfl) rfl #[.agg #[.int .i64 a0_0, .int .u8 a0_1, .slice A0_2 l0_2.length c0_2, .int .i64 a0_3, .int .i64 a0_4, .int .i64 a0_5]] (by rfl) rfl rfl pM ?_
                with_reducible refine (unpackstream_Valid.calls kj3 a0_0 a0_1 _ _ l0_2 a0_3 a0_4 a0_5 t359 _ ?side1 ?side2 A19.out).mono ?_
                (case side1 => repeat (first | exact (Kd.C_below HR0_2.out HB.out) | (with_reducible refine Kd.C_alloc ?_ _) | (with_reducible refine Kd.C_drewN ?_ _) | (with_reducible refine Kd.C_drew ?_)))
                (case side2 => exact HC0_2.out)
                rintro e w45 ⟨rfl, hb⟩
                refine ⟨_, rfl, ?_⟩
                have n0_ := Aside0.mk (Kd.R_below (pR HO337) hb)
                have n1_ := Aside0.mk (Kd.R_below (pR HO343) hb)
                have n2_ := Aside0.mk (Kd.V_below (by (with_reducible repeat (first | apply Kd.V_alloc | apply Kd.V_drewN | apply Kd.V_drew)); exact HO350.out) hb)
                have n3_ := Aside0.mk (Kd.R_below (pR HO356) hb)
                have n4_ := Aside0.mk (blk_below (g := gb330) (o := .cells #[.int .i64 a0_0, .int .u8 a0_1, .slice A0_2 l0_2.length c0_2, .int .i64 a0_3, .int .i64 a0_4, .int .i64 a0_5] 25 (0, 0)) (pK BK330) hb)
                have n5_ := Aside0.mk (blk_below (g := gb345) (o := .cells #[.int .i64 t333, .int .u8 t334, .slice Ao34 t335.length co34, .int .i64 t338, .int .i64 t339, .int .i64 t340] 25 (0, 0)) (pK BK345) hb)
                have n6_ := Aside0.mk (blk_below (g := gb358) (o := .cells #[.int .i64 t346, .int .u8 t347, .slice Ao42 t348.length co42, .int .i64 t351, .int .i64 t352, .int .i64 t353] 25 (0, 0)) (pK BK358) hb)
                have n7_ := Aside0.mk (below_step (by repeat (first | (with_reducible first | exact HB.out | apply below_alloc | apply pw_below_drewN | apply below_drew1 | refine below_set ?_ GE330.out | refine below_set ?_ GE345.out | refine below_set ?_ GE358.out) | exact HB.out)) hb)
                clear HO337
                clear HO343
                clear HO350
                clear HO356
                clear BK330
                clear BK345
                clear BK358
                clear HB
                have HO337 := n0_
                have HO343 := n1_
                have HO350 := n2_
                have HO356 := n3_
                have BK330 := n4_
                have BK345 := n5_
                have BK358 := n6_
                have HB := n7_
                clear n0_ n1_ n2_ n3_ n4_ n5_ n6_ n7_
                (try clear hb)
                (try clear hb2)
                (try clear hk)
                (try clear hi)
                refine hK.out _ _ ⟨(blk_cell BK330.out 0).trans rfl, (blk_cell BK330.out 1).trans rfl, (blk_cell BK330.out 2).trans rfl, (blk_cell BK330.out 3).trans rfl, (blk_cell BK330.out 4).trans rfl, (blk_cell BK330.out 5).trans rfl, (blk_cell BK345.out 0).trans rfl, (blk_cell BK345.out 1).trans rfl, (blk_cell BK345.out 2).trans rfl, (blk_cell BK345.out 3).trans rfl, (blk_cell BK345.out 4).trans rfl, (blk_cell BK345.out 5).trans rfl, (blk_cell BK358.out 0).trans rfl, (blk_cell BK358.out 1).trans rfl, (blk_cell BK358.out 2).trans rfl, (blk_cell BK358.out 3).trans rfl, (blk_cell BK358.out 4).trans rfl, (blk_cell BK358.out 5).trans rfl⟩ (fun hHeld => ?_)
                clear hK K
                refine norm_ (a' := ?_) ?_ ?_
                rotate_left
                · show Act.put _ (some 44) _ = _
                  simp only [Act.put, List.setIfInBounds_toArray, List.set_cons_zero, List.set_cons_succ, i64_w, i32_w]
                  rfl
                refine one_ (i := 3) (N := some 46) #[true, true, true, true, false, false, false, false, false, false, false, false, false, false, false, false, false, false, false, false, false, false, false, false, false, false, false, false] rfl rfl (one_of HT_.out (by kernel_rfl)) (by decide) (fun K hK => ?_)
                refine goes_ Tryd.func12 (by kernel_rfl) rfl #[.agg #[.int .i64 a0_0, .int .u8 a0_1, .slice A0_2 l0_2.length c0_2, .int .i64 a0_3, .int .i64 a0_4, .int .i64 a0_5]] (by rfl) rfl rfl pM ?_
                with_reducible refine (capnpref25_Valid.calls kj3 a0_0 a0_1 _ _ l0_2 a0_3 a0_4 a0_5 t360 _ ?side1 ?side2 A20.out).mono ?_
                (case side1 => repeat (first | exact (Kd.C_below HR0_2.out HB.out) | (with_reducible refine Kd.C_alloc ?_ _) | (with_reducible refine Kd.C_drewN ?_ _) | (with_reducible refine Kd.C_drew ?_)))
                (case side2 => exact HC0_2.out)
                rintro e w46 ⟨rfl, hb⟩
                refine ⟨_, rfl, ?_⟩
                have n0_ := Aside0.mk (Kd.R_below (pR HO337) hb)
                have n1_ := Aside0.mk (Kd.R_below (pR HO343) hb)
                have n2_ := Aside0.mk (Kd.V_below (by (with_reducible repeat (first | apply Kd.V_alloc | apply Kd.V_drewN | apply Kd.V_drew)); exact HO350.out) hb)
                have n3_ := Aside0.mk (Kd.R_below (pR HO356) hb)
                have n4_ := Aside0.mk (blk_below (g := gb330) (o := .cells #[.int .i64 a0_0, .int .u8 a0_1, .slice A0_2 l0_2.length c0_2, .int .i64 a0_3, .int .i64 a0_4, .int .i64 a0_5] 25 (0, 0)) (pK BK330) hb)
                have n5_ := Aside0.mk (blk_below (g := gb345) (o := .cells #[.int .i64 t333, .int .u8 t334, .slice Ao34 t335.length co34, .int .i64 t338, .int .i64 t339, .int .i64 t340] 25 (0, 0)) (pK BK345) hb)
                have n6_ := Aside0.mk (blk_below (g := gb358) (o := .cells #[.int .i64 t346, .int .u8 t347, .slice Ao42 t348.length co42, .int .i64 t351, .int .i64 t352, .int .i64 t353] 25 (0, 0)) (pK BK358) hb)
                have n7_ := Aside0.mk (below_step (by repeat (first | (with_reducible first | exact HB.out | apply below_alloc | apply pw_below_drewN | apply below_drew1 | refine below_set ?_ GE330.out | refine below_set ?_ GE345.out | refine below_set ?_ GE358.out) | exact HB.out)) hb)
                clear HO337
                clear HO343
                clear HO350
                clear HO356
                clear BK330
                clear BK345
                clear BK358
                clear HB
                have HO337 := n0_
                have HO343 := n1_
                have HO350 := n2_
                have HO356 := n3_
                have BK330 := n4_
                have BK345 := n5_
                have BK358 := n6_
                have HB := n7_
                clear n0_ n1_ n2_ n3_ n4_ n5_ n6_ n7_
                (try clear hb)
                (try clear hb2)
                (try clear hk)
                (try clear hi)
                refine hK.out _ _ ⟨(blk_cell BK330.out 0).trans rfl, (blk_cell BK330.out 1).trans rfl, (blk_cell BK330.out 2).trans rfl, (blk_cell BK330.out 3).trans rfl, (blk_cell BK330.out 4).trans rfl, (blk_cell BK330.out 5).trans rfl, (blk_cell BK345.out 0).trans rfl, (blk_cell BK345.out 1).trans rfl, (blk_cell BK345.out 2).trans rfl, (blk_cell BK345.out 3).trans rfl, (blk_cell BK345.out 4).trans rfl, (blk_cell BK345.out 5).trans rfl, (blk_cell BK358.out 0).trans rfl, (blk_cell BK358.out 1).trans rfl, (blk_cell BK358.out 2).trans rfl, (blk_cell BK358.out 3).trans rfl, (blk_cell BK358.out 4).trans rfl, (blk_cell BK358.out 5).trans rfl⟩ (fun hHeld => ?_)
                clear hK K
                refine norm_ (a' := ?_) ?_ ?_
                rotate_left
                · show Act.put _ (some 46) _ = _
                  simp only [Act.put, List.setIfInBounds_toArray, List.set_cons_zero, List.set_cons_succ, i64_w, i32_w]
                  rfl
                refine pure_ (i := 4) (N := some 47) (v := ?_) (a' := ?_) #[true, true, true, true, true, false, false, false, false, false, false, false, false, false, false, false, false, false, false, false, false, false, false, false, false, false, false, false] rfl rfl (any_of HT_.out (by kernel_rfl)) (fun _ _ _ h => h) (Or.inl ⟨by rfl, ?_⟩) ?_ ?_
                rotate_left
                · intro w'
                  go_simp
                  with_reducible rfl
                rotate_left
                · simp only [Act.put, List.setIfInBounds_toArray, List.set_cons_zero, List.set_cons_succ, i64_w, i32_w]
                  rfl
                refine pure_ (i := 5) (N := some 48) (v := ?_) (a' := ?_) #[true, true, true, true, true, true, false, false, false, false, false, false, false, false, false, false, false, false, false, false, false, false, false, false, false, false, false, false] rfl rfl (any_of HT_.out (by kernel_rfl)) (fun _ _ _ h => h) (Or.inl ⟨by rfl, ?_⟩) ?_ ?_
                rotate_left
                · intro w'
                  go_simp
                  with_reducible rfl
                rotate_left
                · simp only [Act.put, List.setIfInBounds_toArray, List.set_cons_zero, List.set_cons_succ, i64_w, i32_w]
                  rfl
                refine take_ (i := 6) (N := some 49) (v := ?_) (a' := ?_) #[true, true, true, true, true, true, true, false, false, false, false, false, false, false, false, false, false, false, false, false, false, false, false, false, false, false, false, false] rfl rfl (take_ofW HT_.out HW_.out (by kernel_rfl)) (fun _ _ _ h => h) (Or.inl ⟨by rfl, ?_⟩) hHeld ?_ ?_
                rotate_left
                · rintro w' ⟨s0, s1, s2, s3, s4, s5, s6, s7, s8, s9, s10, s11, s12, s13, s14, s15, s16, s17⟩
                  go_simp
                  with_reducible rfl
                rotate_left
                · simp only [Act.put, List.setIfInBounds_toArray, List.set_cons_zero, List.set_cons_succ, i64_w, i32_w]
                  rfl
                refine take_ (i := 7) (N := some 50) (v := ?_) (a' := ?_) #[true, true, true, true, true, true, true, true, false, false, false, false, false, false, false, false, false, false, false, false, false, false, false, false, false, false, false, false] rfl rfl (take_ofW HT_.out HW_.out (by kernel_rfl)) (fun _ _ _ h => h) (Or.inl ⟨by rfl, ?_⟩) hHeld ?_ ?_
                rotate_left
                · rintro w' ⟨s0, s1, s2, s3, s4, s5, s6, s7, s8, s9, s10, s11, s12, s13, s14, s15, s16, s17⟩
                  go_simp
                  with_reducible rfl
                rotate_left
                · simp only [Act.put, List.setIfInBounds_toArray, List.set_cons_zero, List.set_cons_succ, i64_w, i32_w]
                  rfl
                refine one_ (i := 8) (N := some 51) #[true, true, true, true, true, true, true, true, true, false, false, false, false, false, false, false, false, false, false, false, false, false, false, false, false, false, false, false] rfl rfl (one_of HT_.out (by kernel_rfl)) (by decide) (fun K hK => ?_)
                refine goes_ Tryd.func13 (by kernel_rfl) rfl #[.agg #[.int .i64 t333, .int .u8 t334, .slice Ao34 t335.length co34, .int .i64 t338, .int .i64 t339, .int .i64 t340], .agg #[.int .i64 t346, .int .u8 t347, .slice Ao42 t348.length co42, .int .i64 t351, .int .i64 t352, .int .i64 t353]] (by rfl) rfl rfl pM ?_
                with_reducible refine (capnpref25_Same.calls kj3 t333 t334 _ _ t335 t338 t339 t340 t346 t347 _ _ t348 t351 t352 t353 true _ ?side1 ?side2 ?side3 ?side4 A22.out).mono ?_
                (case side1 => repeat (first | exact (Kd.R_reads' HO337.out).2.2 | (with_reducible refine Kd.C_alloc ?_ _) | (with_reducible refine Kd.C_drewN ?_ _) | (with_reducible refine Kd.C_drew ?_)))
                (case side2 => exact (Kd.R_reads' HO337.out).2.1)
                (case side3 => repeat (first | exact (Kd.V_reads' HO350.out).2.2 | (with_reducible refine Kd.C_alloc ?_ _) | (with_reducible refine Kd.C_drewN ?_ _) | (with_reducible refine Kd.C_drew ?_)))
                (case side4 => exact (Kd.V_reads' HO350.out).2.1)
                rintro e w47 ⟨rfl, hb⟩
                refine ⟨_, rfl, ?_⟩
                have n0_ := Aside0.mk (Kd.R_below (pR HO337) hb)
                have n1_ := Aside0.mk (Kd.R_below (pR HO343) hb)
                have n2_ := Aside0.mk (Kd.V_below (by (with_reducible repeat (first | apply Kd.V_alloc | apply Kd.V_drewN | apply Kd.V_drew)); exact HO350.out) hb)
                have n3_ := Aside0.mk (Kd.R_below (pR HO356) hb)
                have n4_ := Aside0.mk (blk_below (g := gb330) (o := .cells #[.int .i64 a0_0, .int .u8 a0_1, .slice A0_2 l0_2.length c0_2, .int .i64 a0_3, .int .i64 a0_4, .int .i64 a0_5] 25 (0, 0)) (pK BK330) hb)
                have n5_ := Aside0.mk (blk_below (g := gb345) (o := .cells #[.int .i64 t333, .int .u8 t334, .slice Ao34 t335.length co34, .int .i64 t338, .int .i64 t339, .int .i64 t340] 25 (0, 0)) (pK BK345) hb)
                have n6_ := Aside0.mk (blk_below (g := gb358) (o := .cells #[.int .i64 t346, .int .u8 t347, .slice Ao42 t348.length co42, .int .i64 t351, .int .i64 t352, .int .i64 t353] 25 (0, 0)) (pK BK358) hb)
                have n7_ := Aside0.mk (below_step (by repeat (first | (with_reducible first | exact HB.out | apply below_alloc | apply pw_below_drewN | apply below_drew1 | refine below_set ?_ GE330.out | refine below_set ?_ GE345.out | refine below_set ?_ GE358.out) | exact HB.out)) hb)
                clear HO337
                clear HO343
                clear HO350
                clear HO356
                clear BK330
                clear BK345
                clear BK358
                clear HB
                have HO337 := n0_
                have HO343 := n1_
                have HO350 := n2_
                have HO356 := n3_
                have BK330 := n4_
                have BK345 := n5_
                have BK358 := n6_
                have HB := n7_
                clear n0_ n1_ n2_ n3_ n4_ n5_ n6_ n7_
                (try clear hb)
                (try clear hb2)
                (try clear hk)
                (try clear hi)
                obtain ⟨Ao48, co48, eo48⟩ := Kd.R_slice HO343.out
                (first | subst eo48 | (injection eo48 with f1_ f2_ f3_; have f4_ := f1_.symm; have f5_ := f3_.symm; clear f1_ f2_ f3_; subst f4_; subst f5_))
                obtain ⟨Ao49, co49, eo49⟩ := Kd.R_slice HO356.out
                (first | subst eo49 | (injection eo49 with f1_ f2_ f3_; have f4_ := f1_.symm; have f5_ := f3_.symm; clear f1_ f2_ f3_; subst f4_; subst f5_))
                refine hK.out _ _ ⟨(blk_cell BK330.out 0).trans rfl, (blk_cell BK330.out 1).trans rfl, (blk_cell BK330.out 2).trans rfl, (blk_cell BK330.out 3).trans rfl, (blk_cell BK330.out 4).trans rfl, (blk_cell BK330.out 5).trans rfl, (blk_cell BK345.out 0).trans rfl, (blk_cell BK345.out 1).trans rfl, (blk_cell BK345.out 2).trans rfl, (blk_cell BK345.out 3).trans rfl, (blk_cell BK345.out 4).trans rfl, (blk_cell BK345.out 5).trans rfl, (blk_cell BK358.out 0).trans rfl, (blk_cell BK358.out 1).trans rfl, (blk_cell BK358.out 2).trans rfl, (blk_cell BK358.out 3).trans rfl, (blk_cell BK358.out 4).trans rfl, (blk_cell BK358.out 5).trans rfl⟩ (fun hHeld => ?_)
                clear hK K
                refine norm_ (a' := ?_) ?_ ?_
                rotate_left
                · show Act.put _ (some 51) _ = _
                  simp only [Act.put, List.setIfInBounds_toArray, List.set_cons_zero, List.set_cons_succ, i64_w, i32_w]
                  rfl
                refine pure_ (i := 9) (N := some 52) (v := ?_) (a' := ?_) #[true, true, true, true, true, true, true, true, true, true, false, false, false, false, false, false, false, false, false, false, false, false, false, false, false, false, false, false] rfl rfl (any_of HT_.out (by kernel_rfl)) (fun _ _ _ h => h) (Or.inl ⟨by rfl, ?_⟩) ?_ ?_
                rotate_left
                · intro w'
                  go_simp
                  with_reducible rfl
                rotate_left
                · simp only [Act.put, List.setIfInBounds_toArray, List.set_cons_zero, List.set_cons_succ, i64_w, i32_w]
                  rfl
                refine pure_ (i := 10) (N := some 53) (v := ?_) (a' := ?_) #[true, true, true, true, true, true, true, true, true, true, true, false, false, false, false, false, false, false, false, false, false, false, false, false, false, false, false, false] rfl rfl (any_of HT_.out (by kernel_rfl)) (fun _ _ _ h => h) (Or.inl ⟨by rfl, ?_⟩) ?_ ?_
                rotate_left
                · intro w'
                  go_simp
                  with_reducible rfl
                rotate_left
                · simp only [Act.put, List.setIfInBounds_toArray, List.set_cons_zero, List.set_cons_succ, i64_w, i32_w]
                  rfl
                refine pure_ (i := 11) (N := some 54) (v := ?_) (a' := ?_) #[true, true, true, true, true, true, true, true, true, true, true, true, false, false, false, false, false, false, false, false, false, false, false, false, false, false, false, false] rfl rfl (any_of HT_.out (by kernel_rfl)) (fun _ _ _ h => h) (Or.inl ⟨by rfl, ?_⟩) ?_ ?_
                rotate_left
                · intro w'
                  go_simp
                  with_reducible rfl
                rotate_left
                · simp only [Act.put, List.setIfInBounds_toArray, List.set_cons_zero, List.set_cons_succ, i64_w, i32_w]
                  rfl
                refine pure_ (i := 12) (N := some 55) (v := ?_) (a' := ?_) #[true, true, true, true, true, true, true, true, true, true, true, true, true, false, false, false, false, false, false, false, false, false, false, false, false, false, false, false] rfl rfl (any_of HT_.out (by kernel_rfl)) (fun _ _ _ h => h) (Or.inl ⟨by rfl, ?_⟩) ?_ ?_
                rotate_left
                · intro w'
                  go_simp
                  with_reducible rfl
                rotate_left
                · simp only [Act.put, List.setIfInBounds_toArray, List.set_cons_zero, List.set_cons_succ, i64_w, i32_w]
                  rfl
                refine one_ (i := 13) (N := some 56) #[true, true, true, true, true, true, true, true, true, true, true, true, true, true, false, false, false, false, false, false, false, false, false, false, false, false, false, false] rfl rfl (one_of HT_.out (by kernel_rfl)) (by decide) (fun K hK => ?_)
                refine goes_ Tryd.func14 (by kernel_rfl) rfl #[.slice Ao48 t341.length co48, .slice Ao49 t354.length co49] (by rfl) rfl rfl pM ?_
                with_reducible refine (capnpref01_Same.calls kj3 _ _ t341 _ _ t354 true _ ?side1 ?side2 ?side3 ?side4 A24.out).mono ?_
                (case side1 => repeat (first | exact (Kd.R_reads' HO343.out).2.2 | (with_reducible refine Kd.C_alloc ?_ _) | (with_reducible refine Kd.C_drewN ?_ _) | (with_reducible refine Kd.C_drew ?_)))
                (case side2 => exact (Kd.R_reads' HO343.out).2.1)
                (case side3 => repeat (first | exact (Kd.R_reads' HO356.out).2.2 | (with_reducible refine Kd.C_alloc ?_ _) | (with_reducible refine Kd.C_drewN ?_ _) | (with_reducible refine Kd.C_drew ?_)))
                (case side4 => exact (Kd.R_reads' HO356.out).2.1)
                rintro e w' ⟨rfl, ⟨nd, rfl⟩⟩
                refine ⟨_, rfl, ?_⟩
                refine hK.out _ _ ⟨(blk_cell BK330.out 0).trans rfl, (blk_cell BK330.out 1).trans rfl, (blk_cell BK330.out 2).trans rfl, (blk_cell BK330.out 3).trans rfl, (blk_cell BK330.out 4).trans rfl, (blk_cell BK330.out 5).trans rfl, (blk_cell BK345.out 0).trans rfl, (blk_cell BK345.out 1).trans rfl, (blk_cell BK345.out 2).trans rfl, (blk_cell BK345.out 3).trans rfl, (blk_cell BK345.out 4).trans rfl, (blk_cell BK345.out 5).trans rfl, (blk_cell BK358.out 0).trans rfl, (blk_cell BK358.out 1).trans rfl, (blk_cell BK358.out 2).trans rfl, (blk_cell BK358.out 3).trans rfl, (blk_cell BK358.out 4).trans rfl, (blk_cell BK358.out 5).trans rfl⟩ (fun hHeld => ?_)
                clear hK K
                refine norm_ (a' := ?_) ?_ ?_
                rotate_left
                · show Act.put _ (some 56) _ = _
                  simp only [Act.put, List.setIfInBounds_toArray, List.set_cons_zero, List.set_cons_succ, i64_w, i32_w]
                  rfl
                refine pure_ (i := 14) (N := some 57) (v := ?_) (a' := ?_) #[true, true, true, true, true, true, true, true, true, true, true, true, true, true, true, false, false, false, false, false, false, false, false, false, false, false, false, false] rfl rfl (any_of HT_.out (by kernel_rfl)) (fun _ _ _ h => h) (Or.inl ⟨by rfl, ?_⟩) ?_ ?_
                rotate_left
                · intro w'
                  go_simp
                  with_reducible rfl
                rotate_left
                · simp only [Act.put, List.setIfInBounds_toArray, List.set_cons_zero, List.set_cons_succ, i64_w, i32_w]
                  rfl
                refine pure_ (i := 15) (N := some 58) (v := ?_) (a' := ?_) #[true, true, true, true, true, true, true, true, true, true, true, true, true, true, true, true, false, false, false, false, false, false, false, false, false, false, false, false] rfl rfl (any_of HT_.out (by kernel_rfl)) (fun _ _ _ h => h) (Or.inl ⟨by rfl, ?_⟩) ?_ ?_
                rotate_left
                · intro w'
                  go_simp
                  with_reducible rfl
                rotate_left
                · simp only [Act.put, List.setIfInBounds_toArray, List.set_cons_zero, List.set_cons_succ, i64_w, i32_w]
                  rfl
                refine pure_ (i := 16) (N := some 59) (v := ?_) (a' := ?_) #[true, true, true, true, true, true, true, true, true, true, true, true, true, true, true, true, true, false, false, false, false, false, false, false, false, false, false, false] rfl rfl (any_of HT_.out (by kernel_rfl)) (fun _ _ _ h => h) (Or.inl ⟨by rfl, ?_⟩) ?_ ?_
                rotate_left
                · intro w'
                  go_simp
                  with_reducible rfl
                rotate_left
                · simp only [Act.put, List.setIfInBounds_toArray, List.set_cons_zero, List.set_cons_succ, i64_w, i32_w]
                  rfl
                refine pure_ (i := 17) (N := some 60) (v := ?_) (a' := ?_) #[true, true, true, true, true, true, true, true, true, true, true, true, true, true, true, true, true, true, false, false, false, false, false, false, false, false, false, false] rfl rfl (any_of HT_.out (by kernel_rfl)) (fun _ _ _ h => h) (Or.inl ⟨by rfl, ?_⟩) ?_ ?_
                rotate_left
                · intro w'
                  go_simp
                  with_reducible rfl
                rotate_left
                · simp only [Act.put, List.setIfInBounds_toArray, List.set_cons_zero, List.set_cons_succ, i64_w, i32_w]
                  rfl
                refine pure_ (i := 18) (N := some 61) (v := ?_) (a' := ?_) #[true, true, true, true, true, true, true, true, true, true, true, true, true, true, true, true, true, true, true, false, false, false, false, false, false, false, false, false] rfl rfl (any_of HT_.out (by kernel_rfl)) (fun _ _ _ h => h) (Or.inl ⟨by rfl, ?_⟩) ?_ ?_
                rotate_left
                · intro w'
                  go_simp
                  with_reducible rfl
                rotate_left
                · simp only [Act.put, List.setIfInBounds_toArray, List.set_cons_zero, List.set_cons_succ, i64_w, i32_w]
                  rfl
                refine pure_ (i := 19) (N := some 62) (v := ?_) (a' := ?_) #[true, true, true, true, true, true, true, true, true, true, true, true, true, true, true, true, true, true, true, true, false, false, false, false, false, false, false, false] rfl rfl (any_of HT_.out (by kernel_rfl)) (fun _ _ _ h => h) (Or.inl ⟨by rfl, ?_⟩) ?_ ?_
                rotate_left
                · intro w'
                  go_simp
                  with_reducible rfl
                rotate_left
                · simp only [Act.put, List.setIfInBounds_toArray, List.set_cons_zero, List.set_cons_succ, i64_w, i32_w]
                  rfl
                refine pure_ (i := 20) (N := some 63) (v := ?_) (a' := ?_) #[true, true, true, true, true, true, true, true, true, true, true, true, true, true, true, true, true, true, true, true, true, false, false, false, false, false, false, false] rfl rfl (any_of HT_.out (by kernel_rfl)) (fun _ _ _ h => h) (Or.inl ⟨by rfl, ?_⟩) ?_ ?_
                rotate_left
                · intro w'
                  go_simp
                  with_reducible rfl
                rotate_left
                · simp only [Act.put, List.setIfInBounds_toArray, List.set_cons_zero, List.set_cons_succ, i64_w, i32_w]
                  rfl
                refine take_ (i := 21) (N := some 64) (v := ?_) (a' := ?_) #[true, true, true, true, true, true, true, true, true, true, true, true, true, true, true, true, true, true, true, true, true, true, false, false, false, false, false, false] rfl rfl (take_ofW HT_.out HW_.out (by kernel_rfl)) (fun _ _ _ h => h) (Or.inl ⟨by rfl, ?_⟩) hHeld ?_ ?_
                rotate_left
                · rintro w' ⟨s0, s1, s2, s3, s4, s5, s6, s7, s8, s9, s10, s11, s12, s13, s14, s15, s16, s17⟩
                  go_simp
                  with_reducible rfl
                rotate_left
                · simp only [Act.put, List.setIfInBounds_toArray, List.set_cons_zero, List.set_cons_succ, i64_w, i32_w]
                  rfl
                refine take_ (i := 23) (N := some 66) (v := ?_) (a' := ?_) #[true, true, true, true, true, true, true, true, true, true, true, true, true, true, true, true, true, true, true, true, true, true, false, true, false, false, false, false] rfl rfl (take_ofW HT_.out HW_.out (by kernel_rfl)) (fun _ _ _ h => h) (Or.inl ⟨by rfl, ?_⟩) hHeld ?_ ?_
                rotate_left
                · rintro w' ⟨s0, s1, s2, s3, s4, s5, s6, s7, s8, s9, s10, s11, s12, s13, s14, s15, s16, s17⟩
                  go_simp
                  with_reducible rfl
                rotate_left
                · simp only [Act.put, List.setIfInBounds_toArray, List.set_cons_zero, List.set_cons_succ, i64_w, i32_w]
                  rfl
                refine one_ (i := 22) (N := some 65) #[true, true, true, true, true, true, true, true, true, true, true, true, true, true, true, true, true, true, true, true, true, true, true, true, false, false, false, false] rfl rfl (one_of HT_.out (by kernel_rfl)) (by decide) (fun K hK => ?_)
                refine goes_ Tryd.func15 (by kernel_rfl) rfl #[.agg #[.int .i64 a0_0, .int .u8 a0_1, .slice A0_2 l0_2.length c0_2, .int .i64 a0_3, .int .i64 a0_4, .int .i64 a0_5]] (by rfl) rfl rfl pM ?_
                with_reducible refine (unpackstream_Close.calls kj3 a0_0 a0_1 _ _ l0_2 a0_3 a0_4 a0_5 t363 _ ?side1 ?side2 A27.out).mono ?_
                (case side1 => repeat (first | exact (Kd.C_below HR0_2.out (by repeat (first | (with_reducible first | exact HB.out | apply below_alloc | apply pw_below_drewN | apply below_drew1 | refine below_set ?_ GE330.out | refine below_set ?_ GE345.out | refine below_set ?_ GE358.out) | exact HB.out))) | (with_reducible refine Kd.C_alloc ?_ _) | (with_reducible refine Kd.C_drewN ?_ _) | (with_reducible refine Kd.C_drew ?_)))
                (case side2 => exact HC0_2.out)
                rintro e w50 ⟨rfl, hb⟩
                refine ⟨_, rfl, ?_⟩
                have n0_ := Aside0.mk (Kd.R_below (pR HO337) hb)
                have n1_ := Aside0.mk (Kd.R_below (pR HO343) hb)
                have n2_ := Aside0.mk (Kd.V_below (by (with_reducible repeat (first | apply Kd.V_alloc | apply Kd.V_drewN | apply Kd.V_drew)); exact HO350.out) hb)
                have n3_ := Aside0.mk (Kd.R_below (pR HO356) hb)
                have n4_ := Aside0.mk (blk_below (g := gb330) (o := .cells #[.int .i64 a0_0, .int .u8 a0_1, .slice A0_2 l0_2.length c0_2, .int .i64 a0_3, .int .i64 a0_4, .int .i64 a0_5] 25 (0, 0)) (pK BK330) hb)
                have n5_ := Aside0.mk (blk_below (g := gb345) (o := .cells #[.int .i64 t333, .int .u8 t334, .slice Ao34 t335.length co34, .int .i64 t338, .int .i64 t339, .int .i64 t340] 25 (0, 0)) (pK BK345) hb)
                have n6_ := Aside0.mk (blk_below (g := gb358) (o := .cells #[.int .i64 t346, .int .u8 t347, .slice Ao42 t348.length co42, .int .i64 t351, .int .i64 t352, .int .i64 t353] 25 (0, 0)) (pK BK358) hb)
                have n7_ := Aside0.mk (below_step (by repeat (first | (with_reducible first | exact HB.out | apply below_alloc | apply pw_below_drewN | apply below_drew1 | refine below_set ?_ GE330.out | refine below_set ?_ GE345.out | refine below_set ?_ GE358.out) | exact HB.out)) hb)
                clear HO337
                clear HO343
                clear HO350
                clear HO356
                clear BK330
                clear BK345
                clear BK358
                clear HB
                have HO337 := n0_
                have HO343 := n1_
                have HO350 := n2_
                have HO356 := n3_
                have BK330 := n4_
                have BK345 := n5_
                have BK358 := n6_
                have HB := n7_
                clear n0_ n1_ n2_ n3_ n4_ n5_ n6_ n7_
                (try clear hb)
                (try clear hb2)
                (try clear hk)
                (try clear hi)
                refine hK.out _ _ ⟨(blk_cell BK330.out 0).trans rfl, (blk_cell BK330.out 1).trans rfl, (blk_cell BK330.out 2).trans rfl, (blk_cell BK330.out 3).trans rfl, (blk_cell BK330.out 4).trans rfl, (blk_cell BK330.out 5).trans rfl, (blk_cell BK345.out 0).trans rfl, (blk_cell BK345.out 1).trans rfl, (blk_cell BK345.out 2).trans rfl, (blk_cell BK345.out 3).trans rfl, (blk_cell BK345.out 4).trans rfl, (blk_cell BK345.out 5).trans rfl, (blk_cell BK358.out 0).trans rfl, (blk_cell BK358.out 1).trans rfl, (blk_cell BK358.out 2).trans rfl, (blk_cell BK358.out 3).trans rfl, (blk_cell BK358.out 4).trans rfl, (blk_cell BK358.out 5).trans rfl⟩ (fun hHeld => ?_)
                clear hK K
                refine norm_ (a' := ?_) ?_ ?_
                rotate_left
                · show Act.put _ (some 65) _ = _
                  simp only [Act.put, List.setIfInBounds_toArray, List.set_cons_zero, List.set_cons_succ, i64_w, i32_w]
                  rfl
                refine one_ (i := 24) (N := some 67) #[true, true, true, true, true, true, true, true, true, true, true, true, true, true, true, true, true, true, true, true, true, true, true, true, true, false, false, false] rfl rfl (one_of HT_.out (by kernel_rfl)) (by decide) (fun K hK => ?_)
                refine goes_ Tryd.func16 (by kernel_rfl) rfl #[.agg #[.int .i64 a0_0, .int .u8 a0_1, .slice A0_2 l0_2.length c0_2, .int .i64 a0_3, .int .i64 a0_4, .int .i64 a0_5]] (by rfl) rfl rfl pM ?_
                with_reducible refine (capnpref25_Close.calls kj3 a0_0 a0_1 _ _ l0_2 a0_3 a0_4 a0_5 t364 _ ?side1 ?side2 A28.out).mono ?_
                (case side1 => repeat (first | exact (Kd.C_below HR0_2.out HB.out) | (with_reducible refine Kd.C_alloc ?_ _) | (with_reducible refine Kd.C_drewN ?_ _) | (with_reducible refine Kd.C_drew ?_)))
                (case side2 => exact HC0_2.out)
                rintro e w51 ⟨rfl, hb⟩
                refine ⟨_, rfl, ?_⟩
                have n0_ := Aside0.mk (Kd.R_below (pR HO337) hb)
                have n1_ := Aside0.mk (Kd.R_below (pR HO343) hb)
                have n2_ := Aside0.mk (Kd.V_below (by (with_reducible repeat (first | apply Kd.V_alloc | apply Kd.V_drewN | apply Kd.V_drew)); exact HO350.out) hb)
                have n3_ := Aside0.mk (Kd.R_below (pR HO356) hb)
                have n4_ := Aside0.mk (blk_below (g := gb330) (o := .cells #[.int .i64 a0_0, .int .u8 a0_1, .slice A0_2 l0_2.length c0_2, .int .i64 a0_3, .int .i64 a0_4, .int .i64 a0_5] 25 (0, 0)) (pK BK330) hb)
                have n5_ := Aside0.mk (blk_below (g := gb345) (o := .cells #[.int .i64 t333, .int .u8 t334, .slice Ao34 t335.length co34, .int .i64 t338, .int .i64 t339, .int .i64 t340] 25 (0, 0)) (pK BK345) hb)
                have n6_ := Aside0.mk (blk_below (g := gb358) (o := .cells #[.int .i64 t346, .int .u8 t347, .slice Ao42 t348.length co42, .int .i64 t351, .int .i64 t352, .int .i64 t353] 25 (0, 0)) (pK BK358) hb)
                have n7_ := Aside0.mk (below_step (by repeat (first | (with_reducible first | exact HB.out | apply below_alloc | apply pw_below_drewN | apply below_drew1 | refine below_set ?_ GE330.out | refine below_set ?_ GE345.out | refine below_set ?_ GE358.out) | exact HB.out)) hb)
                clear HO337
                clear HO343
                clear HO350
                clear HO356
                clear BK330
                clear BK345
                clear BK358
                clear HB
                have HO337 := n0_
                have HO343 := n1_
                have HO350 := n2_
                have HO356 := n3_
                have BK330 := n4_
                have BK345 := n5_
                have BK358 := n6_
                have HB := n7_
                clear n0_ n1_ n2_ n3_ n4_ n5_ n6_ n7_
                (try clear hb)
                (try clear hb2)
                (try clear hk)
                (try clear hi)
                refine hK.out _ _ ⟨(blk_cell BK330.out 0).trans rfl, (blk_cell BK330.out 1).trans rfl, (blk_cell BK330.out 2).trans rfl, (blk_cell BK330.out 3).trans rfl, (blk_cell BK330.out 4).trans rfl, (blk_cell BK330.out 5).trans rfl, (blk_cell BK345.out 0).trans rfl, (blk_cell BK345.out 1).trans rfl, (blk_cell BK345.out 2).trans rfl, (blk_cell BK345.out 3).trans rfl, (blk_cell BK345.out 4).trans rfl, (blk_cell BK345.out 5).trans rfl, (blk_cell BK358.out 0).trans rfl, (blk_cell BK358.out 1).trans rfl, (blk_cell BK358.out 2).trans rfl, (blk_cell BK358.out 3).trans rfl, (blk_cell BK358.out 4).trans rfl, (blk_cell BK358.out 5).trans rfl⟩ (fun hHeld => ?_)
                clear hK K
                refine norm_ (a' := ?_) ?_ ?_
                rotate_left
                · show Act.put _ (some 67) _ = _
                  simp only [Act.put, List.setIfInBounds_toArray, List.set_cons_zero, List.set_cons_succ, i64_w, i32_w]
                  rfl
                refine pure_ (i := 25) (N := some 68) (v := ?_) (a' := ?_) #[true, true, true, true, true, true, true, true, true, true, true, true, true, true, true, true, true, true, true, true, true, true, true, true, true, true, false, false] rfl rfl (any_of HT_.out (by kernel_rfl)) (fun _ _ _ h => h) (Or.inl ⟨by rfl, ?_⟩) ?_ ?_
                rotate_left
                · intro w'
                  go_simp
                  with_reducible rfl
                rotate_left
                · simp only [Act.put, List.setIfInBounds_toArray, List.set_cons_zero, List.set_cons_succ, i64_w, i32_w]
                  rfl
                refine pure_ (i := 26) (N := some 69) (v := ?_) (a' := ?_) #[true, true, true, true, true, true, true, true, true, true, true, true, true, true, true, true, true, true, true, true, true, true, true, true, true, true, true, false] rfl rfl (any_of HT_.out (by kernel_rfl)) (fun _ _ _ h => h) (Or.inl ⟨by rfl, ?_⟩) ?_ ?_
                rotate_left
                · intro w'
                  go_simp
                  with_reducible rfl
                rotate_left
                · simp only [Act.put, List.setIfInBounds_toArray, List.set_cons_zero, List.set_cons_succ, i64_w, i32_w]
                  rfl
                refine pure_ (i := 27) (N := some 6) (v := ?_) (a' := ?_) #[true, true, true, true, true, true, true, true, true, true, true, true, true, true, true, true, true, true, true, true, true, true, true, true, true, true, true, true] rfl rfl (any_of HT_.out (by kernel_rfl)) (fun _ _ _ h => h) (Or.inl ⟨by rfl, ?_⟩) ?_ ?_
                rotate_left
                · intro w'
                  go_simp
                  with_reducible rfl
                rotate_left
                · simp only [Act.put, List.setIfInBounds_toArray, List.set_cons_zero, List.set_cons_succ, i64_w, i32_w]
                  rfl
                refine done_ (done_of HT_.out (by kernel_rfl)) ?_
                try go_wp2
                go_ret
                exact ⟨by first | rfl | (simp [errW_none, errW_some] <;> rfl) | (simp [*, errW_none, errW_some] <;> rfl), by repeat (first | (with_reducible first | exact HB.out | apply below_alloc | apply pw_below_drewN | apply below_drew1 | refine below_set ?_ GE330.out | refine below_set ?_ GE345.out | refine below_set ?_ GE358.out) | exact HB.out)⟩
              · rw [if_neg c26] at H
                exact absurd H (by simp)
            · replace c25 := Bool.eq_false_iff.mpr c25
              subst c25
              have H1 : (none) = some r := by rw [if_neg (show ¬ (false = true) by decide)] at H; exact H
              clear H
              have H := H1
              clear H1
              exact absurd H (by simp)
          · replace c23 := Bool.eq_false_iff.mpr c23
            subst c23
            have H1 : (none) = some r := by rw [if_neg (show ¬ (false = true) by decide)] at H; exact H
            clear H
            have H := H1
            clear H1
            exact absurd H (by simp)
        · rw [if_neg c21] at H
          exact absurd H (by simp)
end Go.Proofs.YtpffoecblcfndaaDoor.PUnpackstreamMatchesReference
