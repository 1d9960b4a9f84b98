/- Printed functions of a law, and their walks. -/
import Derived.Test.YtpffoecblcfndaaDoorXShortR
import Derived.Test.YtpffoecblcfndaaDoorPUnpackstreamMatchesReferencex0R
import Derived.Test.YtpffoecblcfndaaDoorPUnpackstreamMatchesReferencex3R
namespace Go.Proofs.YtpffoecblcfndaaDoor.PUnpackstreamMatchesReference
open Go.RowKit Go.Proofs.YtpffoecblcfndaaDoorW.PrintWords Go.Proofs.YtpffoecblcfndaaDoorW.PrintLast Go.Proofs.YtpffoecblcfndaaDoorW.PrintMore
open Go.Proofs.YtpffoecblcfndaaDoor.PVaBase
attribute [local go_sem] max2_int min2_int max_two min_two max_three min_three max_four min_four   -- for this text's walks alone
set_option linter.unusedVariables false
set_option linter.unusedSimpArgs false
mutual
def capnpref25_Valid.j0 : Nat → Bool → Int → Int → List Int → Int → Int → Int → Option (Bool)
  | 0, _, _, _, _, _, _, _ => none
  | k + 1, x36, x206000, x206001, x206002, x206003, x206004, x206005 => if x36 = true then (some false) else (if x206005 = 11 then (capnpref25_Valid.j1 k (x206000 != 0) x206000 x206001 x206002 x206003 x206004 x206005) else (capnpref25_Valid.j1 k false x206000 x206001 x206002 x206003 x206004 x206005))
def capnpref25_Valid.j1 : Nat → Bool → Int → Int → List Int → Int → Int → Int → Option (Bool)
  | 0, _, _, _, _, _, _, _ => none
  | k + 1, x44, x206000, x206001, x206002, x206003, x206004, x206005 => if x44 = true then (some false) else (if x206000 = 1 then (if x206001 = 0 then (some false) else (if x206003 = 0 then ((capnpref20_Ones.f k x206001).bind fun t206 => (some (decide ((x206002.length : Int) < t206)))) else (some false))) else (if x206000 = 4 then (if x206001 = 0 then (if x206003 ≥ 1 then (if x206003 ≤ 255 then (some (decide ((x206002.length : Int) < 8))) else (some false)) else (some false)) else (some false)) else (if x206001 = 0 then (if x206003 = 0 then (some ((x206002.length : Int) == 0)) else (some false)) else (some false))))
end
def capnpref25_Valid.f (k : Nat) (a0_0 : Int) (a0_1 : Int) (l0_2 : List Int) (a0_3 : Int) (a0_4 : Int) (a0_5 : Int) : Option (Bool) := if a0_4 < 0 then (capnpref25_Valid.j0 k true a0_0 a0_1 l0_2 a0_3 a0_4 a0_5) else (if a0_4 > 1152921504606846976 then (capnpref25_Valid.j0 k true a0_0 a0_1 l0_2 a0_3 a0_4 a0_5) else (if (Int.tmod a0_4 8) = 0 then (if a0_5 = 0 then (if a0_0 < 0 then (capnpref25_Valid.j0 k true a0_0 a0_1 l0_2 a0_3 a0_4 a0_5) else (capnpref25_Valid.j0 k (decide (a0_0 > 4)) a0_0 a0_1 l0_2 a0_3 a0_4 a0_5)) else (if a0_5 = 11 then (if a0_0 < 0 then (capnpref25_Valid.j0 k true a0_0 a0_1 l0_2 a0_3 a0_4 a0_5) else (capnpref25_Valid.j0 k (decide (a0_0 > 4)) a0_0 a0_1 l0_2 a0_3 a0_4 a0_5)) else (capnpref25_Valid.j0 k true a0_0 a0_1 l0_2 a0_3 a0_4 a0_5))) else (capnpref25_Valid.j0 k true a0_0 a0_1 l0_2 a0_3 a0_4 a0_5)))
theorem capnpref25_Valid.mono_l : ∀ k, (∀ y0 y1 y2 y3 y4 y5 y6, LeO (capnpref25_Valid.j0 k y0 y1 y2 y3 y4 y5 y6) (capnpref25_Valid.j0 (k + 1) y0 y1 y2 y3 y4 y5 y6)) ∧ (∀ y0 y1 y2 y3 y4 y5 y6, LeO (capnpref25_Valid.j1 k y0 y1 y2 y3 y4 y5 y6) (capnpref25_Valid.j1 (k + 1) y0 y1 y2 y3 y4 y5 y6))
  | 0 => ⟨fun _ _ _ _ _ _ _ r h => by simp [capnpref25_Valid.j0] at h, fun _ _ _ _ _ _ _ r h => by simp [capnpref25_Valid.j1] at h⟩
  | k + 1 => by
    obtain ⟨ih0, ih1⟩ := capnpref25_Valid.mono_l k
    refine ⟨?_, ?_⟩
    · intro y0 y1 y2 y3 y4 y5 y6
      unfold capnpref25_Valid.j0
      repeat' first
      | (with_reducible exact ih0 _ _ _ _ _ _ _)
      | (with_reducible exact ih1 _ _ _ _ _ _ _)
      | (with_reducible exact capnpref20_Ones.mono _ _)
      | (with_reducible exact LeO.refl _)
      | (with_reducible exact LeO.none _)
      | (with_reducible refine LeO.ite ?_ ?_)
      | (with_reducible refine LeO.bind ?_ (fun _ => ?_))
      | exact ih0 _ _ _ _ _ _ _
      | exact ih1 _ _ _ _ _ _ _
      | exact capnpref20_Ones.mono _ _
      | exact LeO.none _
      | refine LeO.ite ?_ ?_
      | refine LeO.bind ?_ (fun _ => ?_)
    · intro y0 y1 y2 y3 y4 y5 y6
      unfold capnpref25_Valid.j1
      repeat' first
      | (with_reducible exact ih0 _ _ _ _ _ _ _)
      | (with_reducible exact ih1 _ _ _ _ _ _ _)
      | (with_reducible exact capnpref20_Ones.mono _ _)
      | (with_reducible exact LeO.refl _)
      | (with_reducible exact LeO.none _)
      | (with_reducible refine LeO.ite ?_ ?_)
      | (with_reducible refine LeO.bind ?_ (fun _ => ?_))
      | exact ih0 _ _ _ _ _ _ _
      | exact ih1 _ _ _ _ _ _ _
      | exact capnpref20_Ones.mono _ _
      | exact LeO.none _
      | refine LeO.ite ?_ ?_
      | refine LeO.bind ?_ (fun _ => ?_)
theorem capnpref25_Valid.mono : ∀ a0 a1 a2 a3 a4 a5 k, LeO (capnpref25_Valid.f k a0 a1 a2 a3 a4 a5) (capnpref25_Valid.f (k + 1) a0 a1 a2 a3 a4 a5) := by
  intro a0 a1 a2 a3 a4 a5 k
  obtain ⟨ih0, ih1⟩ := capnpref25_Valid.mono_l k
  unfold capnpref25_Valid.f
  repeat' first
      | (with_reducible exact ih0 _ _ _ _ _ _ _)
      | (with_reducible exact ih1 _ _ _ _ _ _ _)
      | (with_reducible exact capnpref20_Ones.mono _ _)
      | (with_reducible exact LeO.refl _)
      | (with_reducible exact LeO.none _)
      | (with_reducible refine LeO.ite ?_ ?_)
      | (with_reducible refine LeO.bind ?_ (fun _ => ?_))
      | exact ih0 _ _ _ _ _ _ _
      | exact ih1 _ _ _ _ _ _ _
      | exact capnpref20_Ones.mono _ _
      | exact LeO.none _
      | refine LeO.ite ?_ ?_
      | refine LeO.bind ?_ (fun _ => ?_)
set_option maxHeartbeats 8000000 in
set_option maxRecDepth 100000 in
theorem capnpref25_Valid.calls (k : Nat) (a0_0 : Int) (a0_1 : Int) (A0_2 : Option Addr) (c0_2 : Nat) (l0_2 : List Int) (a0_3 : Int) (a0_4 : Int) (a0_5 : Int) (r : Bool) (w : World) (hr0_2 : Kd.C (Kd.int .u8) w A0_2 l0_2.length l0_2) (hc0_2 : l0_2.length ≤ c0_2) (h : capnpref25_Valid.f k a0_0 a0_1 l0_2 a0_3 a0_4 a0_5 = some r) :
    Calls Tryd.prog 12 #[.agg #[.int .i64 a0_0, .int .u8 a0_1, .slice A0_2 l0_2.length c0_2, .int .i64 a0_3, .int .i64 a0_4, .int .i64 a0_5]] w fun e w' => e = .returned (.bool r) ∧ Below w.heap.size w w' := by
  have hu25 := Tryd.underlying25
  have HR0_2 := Aside0.mk hr0_2
  have HC0_2 := Aside0.mk hc0_2
  clear hr0_2 hc0_2
  have HB := Aside0.mk (Below.refl w.heap.size w)
  have H : (if a0_4 < 0 then (capnpref25_Valid.j0 k true a0_0 a0_1 l0_2 a0_3 a0_4 a0_5) else (if a0_4 > 1152921504606846976 then (capnpref25_Valid.j0 k true a0_0 a0_1 l0_2 a0_3 a0_4 a0_5) else (if (Int.tmod a0_4 8) = 0 then (if a0_5 = 0 then (if a0_0 < 0 then (capnpref25_Valid.j0 k true a0_0 a0_1 l0_2 a0_3 a0_4 a0_5) else (capnpref25_Valid.j0 k (decide (a0_0 > 4)) a0_0 a0_1 l0_2 a0_3 a0_4 a0_5)) else (if a0_5 = 11 then (if a0_0 < 0 then (capnpref25_Valid.j0 k true a0_0 a0_1 l0_2 a0_3 a0_4 a0_5) else (capnpref25_Valid.j0 k (decide (a0_0 > 4)) a0_0 a0_1 l0_2 a0_3 a0_4 a0_5)) else (capnpref25_Valid.j0 k true a0_0 a0_1 l0_2 a0_3 a0_4 a0_5))) else (capnpref25_Valid.j0 k true a0_0 a0_1 l0_2 a0_3 a0_4 a0_5)))) = some r := h
  clear h
  have HC2 := Aside0.mk H
  clear H
  go_enter Tryd.func12, Tryd.ntmps12
  go_upto_region 1 with (first | ((with_reducible refine gate_dst (N := 1) rfl ?_); (try (refine gate_guard (by rfl) ?_; dsimp only)); refine box_event ?hg (N := 1) ?hd (cs := #[.int .i64 a0_0, .int .u8 a0_1, .slice A0_2 l0_2.length c0_2, .int .i64 a0_3, .int .i64 a0_4, .int .i64 a0_5]) (t := 25) ?hr ?_; (case hd => rfl); (case hg => rfl); (case hr => first | (go_simp; done) | (go_simp; rfl)); intro gb205 hg w3 hbox hb; have n0_ := Aside0.mk (below_step pB hb); have n1_ := Aside0.mk (hbox); have n2_ := Aside0.mk ((by rw [hg]; exact (below_size pB) : w.heap.size ≤ gb205)); have n3_ := Aside0.mk ((by rw [hg]; exact (below_size pB) : w.heap.size ≤ gb205)); clear HB; have HB := n0_; have BK205 := n1_; have GW205 := n2_; have GE205 := n3_; clear n0_ n1_ n2_ n3_; clear hb hbox hg))
  repeat (go_quiet (first | ((with_reducible refine gate_dst (N := 1) rfl ?_); (try (refine gate_guard (by rfl) ?_; dsimp only)); refine box_event ?hg (N := 1) ?hd (cs := #[.int .i64 a0_0, .int .u8 a0_1, .slice A0_2 l0_2.length c0_2, .int .i64 a0_3, .int .i64 a0_4, .int .i64 a0_5]) (t := 25) ?hr ?_; (case hd => rfl); (case hg => rfl); (case hr => first | (go_simp; done) | (go_simp; rfl)); intro gb205 hg w3 hbox hb; have n0_ := Aside0.mk (below_step pB hb); have n1_ := Aside0.mk (hbox); have n2_ := Aside0.mk ((by rw [hg]; exact (below_size pB) : w.heap.size ≤ gb205)); have n3_ := Aside0.mk ((by rw [hg]; exact (below_size pB) : w.heap.size ≤ gb205)); clear HB; have HB := n0_; have BK205 := n1_; have GW205 := n2_; have GE205 := n3_; clear n0_ n1_ n2_ n3_; clear hb hbox hg)); go_upto_region 1 with (first | ((with_reducible refine gate_dst (N := 1) rfl ?_); (try (refine gate_guard (by rfl) ?_; dsimp only)); refine box_event ?hg (N := 1) ?hd (cs := #[.int .i64 a0_0, .int .u8 a0_1, .slice A0_2 l0_2.length c0_2, .int .i64 a0_3, .int .i64 a0_4, .int .i64 a0_5]) (t := 25) ?hr ?_; (case hd => rfl); (case hg => rfl); (case hr => first | (go_simp; done) | (go_simp; rfl)); intro gb205 hg w3 hbox hb; have n0_ := Aside0.mk (below_step pB hb); have n1_ := Aside0.mk (hbox); have n2_ := Aside0.mk ((by rw [hg]; exact (below_size pB) : w.heap.size ≤ gb205)); have n3_ := Aside0.mk ((by rw [hg]; exact (below_size pB) : w.heap.size ≤ gb205)); clear HB; have HB := n0_; have BK205 := n1_; have GW205 := n2_; have GE205 := n3_; clear n0_ n1_ n2_ n3_; clear hb hbox hg)))
  (try simp only [Act.put, List.setIfInBounds_toArray, List.set_cons_zero, List.set_cons_succ])
  go_cut [36] (fun v36 wc => ∃ (kq : Nat) (x36_1 : Bool), v36 = .bool x36_1 ∧ Aside0 (capnpref25_Valid.j0 kq x36_1 a0_0 a0_1 l0_2 a0_3 a0_4 a0_5 = some r) ∧ Aside0 (kq ≤ k) ∧ Aside0 (wc.heap[gb205]? = some (.cells #[.int .i64 a0_0, .int .u8 a0_1, (.slice A0_2 l0_2.length c0_2), .int .i64 a0_3, .int .i64 a0_4, .int .i64 a0_5] 25 (0, 0))) ∧ Aside0 (Below w.heap.size w wc))
  case first =>
    have H := HC2.out
    clear HC2
    by_cases c4 : a0_4 < 0
    · rw [if_pos c4] at H
      have c4b0 : decide (a0_4 < 0) = true := decide_eq_true c4
      clear c4
      (first | rw [c4b0] | (simp only [i64_w, i32_w]; rw [c4b0]) | skip)
      have H' := Aside0.mk H
      clear H
      have hcz5_0 : w3.cell? ⟨gb205, 0, none⟩ = some (.int .i64 a0_0) := (blk_cell BK205.out 0).trans rfl
      have hcz5_1 : w3.cell? ⟨gb205, 1, none⟩ = some (.int .u8 a0_1) := (blk_cell BK205.out 1).trans rfl
      have hcz5_2 : w3.cell? ⟨gb205, 2, none⟩ = some (.slice A0_2 l0_2.length c0_2) := (blk_cell BK205.out 2).trans rfl
      have hcz5_3 : w3.cell? ⟨gb205, 3, none⟩ = some (.int .i64 a0_3) := (blk_cell BK205.out 3).trans rfl
      have hcz5_4 : w3.cell? ⟨gb205, 4, none⟩ = some (.int .i64 a0_4) := (blk_cell BK205.out 4).trans rfl
      have hcz5_5 : w3.cell? ⟨gb205, 5, none⟩ = some (.int .i64 a0_5) := (blk_cell BK205.out 5).trans rfl
      have hfz5_0 := blk_frozen BK205.out 0
      have hfz5_1 := blk_frozen BK205.out 1
      have hfz5_2 := blk_frozen BK205.out 2
      have hfz5_3 := blk_frozen BK205.out 3
      have hfz5_4 := blk_frozen BK205.out 4
      have hfz5_5 := blk_frozen BK205.out 5
      go_wp2
      repeat (go_quiet (fail); try go_wp2)
      go_meet
      case rel => exact ⟨_, (true), (by first | rfl | (simp; done) | (simp [*]; done)), H', ⟨by first | omega | exact Nat.le_refl _⟩, ⟨pK BK205⟩, ⟨by repeat (first | (with_reducible first | exact HB.out | apply below_alloc | apply pw_below_drewN | apply below_drew1 | refine below_set ?_ GE205.out) | exact HB.out)⟩⟩
    · rw [if_neg c4] at H
      have c4b0 : decide (a0_4 < 0) = false := decide_eq_false c4
      clear c4
      (first | rw [c4b0] | (simp only [i64_w, i32_w]; rw [c4b0]) | skip)
      by_cases c6 : a0_4 > 1152921504606846976
      · rw [if_pos c6] at H
        have c6b0 : decide (1152921504606846976 < a0_4) = true := decide_eq_true c6
        clear c6
        have H' := Aside0.mk H
        clear H
        have hcz7_0 : w3.cell? ⟨gb205, 0, none⟩ = some (.int .i64 a0_0) := (blk_cell BK205.out 0).trans rfl
        have hcz7_1 : w3.cell? ⟨gb205, 1, none⟩ = some (.int .u8 a0_1) := (blk_cell BK205.out 1).trans rfl
        have hcz7_2 : w3.cell? ⟨gb205, 2, none⟩ = some (.slice A0_2 l0_2.length c0_2) := (blk_cell BK205.out 2).trans rfl
        have hcz7_3 : w3.cell? ⟨gb205, 3, none⟩ = some (.int .i64 a0_3) := (blk_cell BK205.out 3).trans rfl
        have hcz7_4 : w3.cell? ⟨gb205, 4, none⟩ = some (.int .i64 a0_4) := (blk_cell BK205.out 4).trans rfl
        have hcz7_5 : w3.cell? ⟨gb205, 5, none⟩ = some (.int .i64 a0_5) := (blk_cell BK205.out 5).trans rfl
        have hfz7_0 := blk_frozen BK205.out 0
        have hfz7_1 := blk_frozen BK205.out 1
        have hfz7_2 := blk_frozen BK205.out 2
        have hfz7_3 := blk_frozen BK205.out 3
        have hfz7_4 := blk_frozen BK205.out 4
        have hfz7_5 := blk_frozen BK205.out 5
        go_wp2
        repeat (go_quiet (fail); try go_wp2)
        go_meet
        case rel => exact ⟨_, (true), (by first | rfl | (simp; done) | (simp [*]; done)), H', ⟨by first | omega | exact Nat.le_refl _⟩, ⟨pK BK205⟩, ⟨by repeat (first | (with_reducible first | exact HB.out | apply below_alloc | apply pw_below_drewN | apply below_drew1 | refine below_set ?_ GE205.out) | exact HB.out)⟩⟩
      · rw [if_neg c6] at H
        have c6b0 : decide (1152921504606846976 < a0_4) = false := decide_eq_false c6
        clear c6
        by_cases c8 : (Int.tmod a0_4 8) = 0
        · rw [if_pos c8] at H
          have c8b0 : ((Int.tmod a0_4 8) == 0) = true := beq_iff_eq.mpr c8
          have c8b1 : ((Int.tmod a0_4 8) != 0) = false := bne_eq_false_iff_eq.mpr c8
          clear c8
          by_cases c9 : a0_5 = 0
          · rw [if_pos c9] at H
            have c9b0 : (a0_5 == 0) = true := beq_iff_eq.mpr c9
            have c9b1 : (a0_5 != 0) = false := bne_eq_false_iff_eq.mpr c9
            clear c9
            by_cases c10 : a0_0 < 0
            · rw [if_pos c10] at H
              have c10b0 : decide (a0_0 < 0) = true := decide_eq_true c10
              clear c10
              have H' := Aside0.mk H
              clear H
              have hcz11_0 : w3.cell? ⟨gb205, 0, none⟩ = some (.int .i64 a0_0) := (blk_cell BK205.out 0).trans rfl
              have hcz11_1 : w3.cell? ⟨gb205, 1, none⟩ = some (.int .u8 a0_1) := (blk_cell BK205.out 1).trans rfl
              have hcz11_2 : w3.cell? ⟨gb205, 2, none⟩ = some (.slice A0_2 l0_2.length c0_2) := (blk_cell BK205.out 2).trans rfl
              have hcz11_3 : w3.cell? ⟨gb205, 3, none⟩ = some (.int .i64 a0_3) := (blk_cell BK205.out 3).trans rfl
              have hcz11_4 : w3.cell? ⟨gb205, 4, none⟩ = some (.int .i64 a0_4) := (blk_cell BK205.out 4).trans rfl
              have hcz11_5 : w3.cell? ⟨gb205, 5, none⟩ = some (.int .i64 a0_5) := (blk_cell BK205.out 5).trans rfl
              have hfz11_0 := blk_frozen BK205.out 0
              have hfz11_1 := blk_frozen BK205.out 1
              have hfz11_2 := blk_frozen BK205.out 2
              have hfz11_3 := blk_frozen BK205.out 3
              have hfz11_4 := blk_frozen BK205.out 4
              have hfz11_5 := blk_frozen BK205.out 5
              go_wp2
              repeat (go_quiet (fail); try go_wp2)
              go_meet
              case rel => exact ⟨_, (true), (by first | rfl | (simp; done) | (simp [*]; done)), H', ⟨by first | omega | exact Nat.le_refl _⟩, ⟨pK BK205⟩, ⟨by repeat (first | (with_reducible first | exact HB.out | apply below_alloc | apply pw_below_drewN | apply below_drew1 | refine below_set ?_ GE205.out) | exact HB.out)⟩⟩
            · rw [if_neg c10] at H
              have c10b0 : decide (a0_0 < 0) = false := decide_eq_false c10
              clear c10
              have H' := Aside0.mk H
              clear H
              have hcz12_0 : w3.cell? ⟨gb205, 0, none⟩ = some (.int .i64 a0_0) := (blk_cell BK205.out 0).trans rfl
              have hcz12_1 : w3.cell? ⟨gb205, 1, none⟩ = some (.int .u8 a0_1) := (blk_cell BK205.out 1).trans rfl
              have hcz12_2 : w3.cell? ⟨gb205, 2, none⟩ = some (.slice A0_2 l0_2.length c0_2) := (blk_cell BK205.out 2).trans rfl
              have hcz12_3 : w3.cell? ⟨gb205, 3, none⟩ = some (.int .i64 a0_3) := (blk_cell BK205.out 3).trans rfl
              have hcz12_4 : w3.cell? ⟨gb205, 4, none⟩ = some (.int .i64 a0_4) := (blk_cell BK205.out 4).trans rfl
              have hcz12_5 : w3.cell? ⟨gb205, 5, none⟩ = some (.int .i64 a0_5) := (blk_cell BK205.out 5).trans rfl
              have hfz12_0 := blk_frozen BK205.out 0
              have hfz12_1 := blk_frozen BK205.out 1
              have hfz12_2 := blk_frozen BK205.out 2
              have hfz12_3 := blk_frozen BK205.out 3
              have hfz12_4 := blk_frozen BK205.out 4
              have hfz12_5 := blk_frozen BK205.out 5
              go_wp2
              repeat (go_quiet (fail); try go_wp2)
              go_meet
              case rel => exact ⟨_, (decide (a0_0 > 4)), (by first | rfl | (simp; done) | (simp [*]; done)), H', ⟨by first | omega | exact Nat.le_refl _⟩, ⟨pK BK205⟩, ⟨by repeat (first | (with_reducible first | exact HB.out | apply below_alloc | apply pw_below_drewN | apply below_drew1 | refine below_set ?_ GE205.out) | exact HB.out)⟩⟩
          · rw [if_neg c9] at H
            have c9b0 : (a0_5 == 0) = false := beq_eq_false_iff_ne.mpr c9
            have c9b1 : (a0_5 != 0) = true := bne_iff_ne.mpr c9
            by_cases c13 : a0_5 = 11
            · rw [if_pos c13] at H
              have c13b0 : (a0_5 == 11) = true := beq_iff_eq.mpr c13
              have c13b1 : (a0_5 != 11) = false := bne_eq_false_iff_eq.mpr c13
              clear c13
              by_cases c14 : a0_0 < 0
              · rw [if_pos c14] at H
                have c14b0 : decide (a0_0 < 0) = true := decide_eq_true c14
                clear c14
                have H' := Aside0.mk H
                clear H
                have hcz15_0 : w3.cell? ⟨gb205, 0, none⟩ = some (.int .i64 a0_0) := (blk_cell BK205.out 0).trans rfl
                have hcz15_1 : w3.cell? ⟨gb205, 1, none⟩ = some (.int .u8 a0_1) := (blk_cell BK205.out 1).trans rfl
                have hcz15_2 : w3.cell? ⟨gb205, 2, none⟩ = some (.slice A0_2 l0_2.length c0_2) := (blk_cell BK205.out 2).trans rfl
                have hcz15_3 : w3.cell? ⟨gb205, 3, none⟩ = some (.int .i64 a0_3) := (blk_cell BK205.out 3).trans rfl
                have hcz15_4 : w3.cell? ⟨gb205, 4, none⟩ = some (.int .i64 a0_4) := (blk_cell BK205.out 4).trans rfl
                have hcz15_5 : w3.cell? ⟨gb205, 5, none⟩ = some (.int .i64 a0_5) := (blk_cell BK205.out 5).trans rfl
                have hfz15_0 := blk_frozen BK205.out 0
                have hfz15_1 := blk_frozen BK205.out 1
                have hfz15_2 := blk_frozen BK205.out 2
                have hfz15_3 := blk_frozen BK205.out 3
                have hfz15_4 := blk_frozen BK205.out 4
                have hfz15_5 := blk_frozen BK205.out 5
                go_wp2
                repeat (go_quiet (fail); try go_wp2)
                go_meet
                case rel => exact ⟨_, (true), (by first | rfl | (simp; done) | (simp [*]; done)), H', ⟨by first | omega | exact Nat.le_refl _⟩, ⟨pK BK205⟩, ⟨by repeat (first | (with_reducible first | exact HB.out | apply below_alloc | apply pw_below_drewN | apply below_drew1 | refine below_set ?_ GE205.out) | exact HB.out)⟩⟩
              · rw [if_neg c14] at H
                have c14b0 : decide (a0_0 < 0) = false := decide_eq_false c14
                clear c14
                have H' := Aside0.mk H
                clear H
                have hcz16_0 : w3.cell? ⟨gb205, 0, none⟩ = some (.int .i64 a0_0) := (blk_cell BK205.out 0).trans rfl
                have hcz16_1 : w3.cell? ⟨gb205, 1, none⟩ = some (.int .u8 a0_1) := (blk_cell BK205.out 1).trans rfl
                have hcz16_2 : w3.cell? ⟨gb205, 2, none⟩ = some (.slice A0_2 l0_2.length c0_2) := (blk_cell BK205.out 2).trans rfl
                have hcz16_3 : w3.cell? ⟨gb205, 3, none⟩ = some (.int .i64 a0_3) := (blk_cell BK205.out 3).trans rfl
                have hcz16_4 : w3.cell? ⟨gb205, 4, none⟩ = some (.int .i64 a0_4) := (blk_cell BK205.out 4).trans rfl
                have hcz16_5 : w3.cell? ⟨gb205, 5, none⟩ = some (.int .i64 a0_5) := (blk_cell BK205.out 5).trans rfl
                have hfz16_0 := blk_frozen BK205.out 0
                have hfz16_1 := blk_frozen BK205.out 1
                have hfz16_2 := blk_frozen BK205.out 2
                have hfz16_3 := blk_frozen BK205.out 3
                have hfz16_4 := blk_frozen BK205.out 4
                have hfz16_5 := blk_frozen BK205.out 5
                go_wp2
                repeat (go_quiet (fail); try go_wp2)
                go_meet
                case rel => exact ⟨_, (decide (a0_0 > 4)), (by first | rfl | (simp; done) | (simp [*]; done)), H', ⟨by first | omega | exact Nat.le_refl _⟩, ⟨pK BK205⟩, ⟨by repeat (first | (with_reducible first | exact HB.out | apply below_alloc | apply pw_below_drewN | apply below_drew1 | refine below_set ?_ GE205.out) | exact HB.out)⟩⟩
            · rw [if_neg c13] at H
              have c13b0 : (a0_5 == 11) = false := beq_eq_false_iff_ne.mpr c13
              have c13b1 : (a0_5 != 11) = true := bne_iff_ne.mpr c13
              have H' := Aside0.mk H
              clear H
              have hcz17_0 : w3.cell? ⟨gb205, 0, none⟩ = some (.int .i64 a0_0) := (blk_cell BK205.out 0).trans rfl
              have hcz17_1 : w3.cell? ⟨gb205, 1, none⟩ = some (.int .u8 a0_1) := (blk_cell BK205.out 1).trans rfl
              have hcz17_2 : w3.cell? ⟨gb205, 2, none⟩ = some (.slice A0_2 l0_2.length c0_2) := (blk_cell BK205.out 2).trans rfl
              have hcz17_3 : w3.cell? ⟨gb205, 3, none⟩ = some (.int .i64 a0_3) := (blk_cell BK205.out 3).trans rfl
              have hcz17_4 : w3.cell? ⟨gb205, 4, none⟩ = some (.int .i64 a0_4) := (blk_cell BK205.out 4).trans rfl
              have hcz17_5 : w3.cell? ⟨gb205, 5, none⟩ = some (.int .i64 a0_5) := (blk_cell BK205.out 5).trans rfl
              have hfz17_0 := blk_frozen BK205.out 0
              have hfz17_1 := blk_frozen BK205.out 1
              have hfz17_2 := blk_frozen BK205.out 2
              have hfz17_3 := blk_frozen BK205.out 3
              have hfz17_4 := blk_frozen BK205.out 4
              have hfz17_5 := blk_frozen BK205.out 5
              go_wp2
              repeat (go_quiet (fail); try go_wp2)
              go_meet
              case rel => exact ⟨_, (true), (by first | rfl | (simp; done) | (simp [*]; done)), H', ⟨by first | omega | exact Nat.le_refl _⟩, ⟨pK BK205⟩, ⟨by repeat (first | (with_reducible first | exact HB.out | apply below_alloc | apply pw_below_drewN | apply below_drew1 | refine below_set ?_ GE205.out) | exact HB.out)⟩⟩
        · rw [if_neg c8] at H
          have c8b0 : ((Int.tmod a0_4 8) == 0) = false := beq_eq_false_iff_ne.mpr c8
          have c8b1 : ((Int.tmod a0_4 8) != 0) = true := bne_iff_ne.mpr c8
          have H' := Aside0.mk H
          clear H
          have hcz18_0 : w3.cell? ⟨gb205, 0, none⟩ = some (.int .i64 a0_0) := (blk_cell BK205.out 0).trans rfl
          have hcz18_1 : w3.cell? ⟨gb205, 1, none⟩ = some (.int .u8 a0_1) := (blk_cell BK205.out 1).trans rfl
          have hcz18_2 : w3.cell? ⟨gb205, 2, none⟩ = some (.slice A0_2 l0_2.length c0_2) := (blk_cell BK205.out 2).trans rfl
          have hcz18_3 : w3.cell? ⟨gb205, 3, none⟩ = some (.int .i64 a0_3) := (blk_cell BK205.out 3).trans rfl
          have hcz18_4 : w3.cell? ⟨gb205, 4, none⟩ = some (.int .i64 a0_4) := (blk_cell BK205.out 4).trans rfl
          have hcz18_5 : w3.cell? ⟨gb205, 5, none⟩ = some (.int .i64 a0_5) := (blk_cell BK205.out 5).trans rfl
          have hfz18_0 := blk_frozen BK205.out 0
          have hfz18_1 := blk_frozen BK205.out 1
          have hfz18_2 := blk_frozen BK205.out 2
          have hfz18_3 := blk_frozen BK205.out 3
          have hfz18_4 := blk_frozen BK205.out 4
          have hfz18_5 := blk_frozen BK205.out 5
          go_wp2
          repeat (go_quiet (fail); try go_wp2)
          go_meet
          case rel => exact ⟨_, (true), (by first | rfl | (simp; done) | (simp [*]; done)), H', ⟨by first | omega | exact Nat.le_refl _⟩, ⟨pK BK205⟩, ⟨by repeat (first | (with_reducible first | exact HB.out | apply below_alloc | apply pw_below_drewN | apply below_drew1 | refine below_set ?_ GE205.out) | exact HB.out)⟩⟩
  case rest =>
    clear HC2
    try clear c1
    try clear p2
    try clear c4
    try clear c4b0
    try clear c6
    try clear c6b0
    try clear c8
    try clear c8b0
    try clear c8b1
    try clear c9
    try clear c9b0
    try clear c9b1
    try clear c10
    try clear c10b0
    try clear c12
    try clear c13
    try clear c13b0
    try clear c13b1
    try clear c14
    try clear c14b0
    try clear hcz11_0
    try clear hcz11_1
    try clear hcz11_2
    try clear hcz11_3
    try clear hcz11_4
    try clear hcz11_5
    try clear hcz12_0
    try clear hcz12_1
    try clear hcz12_2
    try clear hcz12_3
    try clear hcz12_4
    try clear hcz12_5
    try clear hcz15_0
    try clear hcz15_1
    try clear hcz15_2
    try clear hcz15_3
    try clear hcz15_4
    try clear hcz15_5
    try clear hcz16_0
    try clear hcz16_1
    try clear hcz16_2
    try clear hcz16_3
    try clear hcz16_4
    try clear hcz16_5
    try clear hcz17_0
    try clear hcz17_1
    try clear hcz17_2
    try clear hcz17_3
    try clear hcz17_4
    try clear hcz17_5
    try clear hcz18_0
    try clear hcz18_1
    try clear hcz18_2
    try clear hcz18_3
    try clear hcz18_4
    try clear hcz18_5
    try clear hcz5_0
    try clear hcz5_1
    try clear hcz5_2
    try clear hcz5_3
    try clear hcz5_4
    try clear hcz5_5
    try clear hcz7_0
    try clear hcz7_1
    try clear hcz7_2
    try clear hcz7_3
    try clear hcz7_4
    try clear hcz7_5
    try clear hfz11_0
    try clear hfz11_1
    try clear hfz11_2
    try clear hfz11_3
    try clear hfz11_4
    try clear hfz11_5
    try clear hfz12_0
    try clear hfz12_1
    try clear hfz12_2
    try clear hfz12_3
    try clear hfz12_4
    try clear hfz12_5
    try clear hfz15_0
    try clear hfz15_1
    try clear hfz15_2
    try clear hfz15_3
    try clear hfz15_4
    try clear hfz15_5
    try clear hfz16_0
    try clear hfz16_1
    try clear hfz16_2
    try clear hfz16_3
    try clear hfz16_4
    try clear hfz16_5
    try clear hfz17_0
    try clear hfz17_1
    try clear hfz17_2
    try clear hfz17_3
    try clear hfz17_4
    try clear hfz17_5
    try clear hfz18_0
    try clear hfz18_1
    try clear hfz18_2
    try clear hfz18_3
    try clear hfz18_4
    try clear hfz18_5
    try clear hfz5_0
    try clear hfz5_1
    try clear hfz5_2
    try clear hfz5_3
    try clear hfz5_4
    try clear hfz5_5
    try clear hfz7_0
    try clear hfz7_1
    try clear hfz7_2
    try clear hfz7_3
    try clear hfz7_4
    try clear hfz7_5
    obtain ⟨kq, x36_1, rfl, HA, HJ1, BK205, HB⟩ := hcut
    cases kq with
    | zero => exact absurd HA.out (by simp [capnpref25_Valid.j0])
    | succ kj1 =>
      have H := HA.out
      clear HA
      simp only [capnpref25_Valid.j0] at H
      by_cases c19 : x36_1 = true
      · subst c19
        have H1 : (some false) = some r := by rw [if_pos rfl] at H; exact H
        clear H
        have H := H1
        clear H1
        obtain rfl := Option.some.inj H
        go_wp2
        repeat (go_quiet (fail); try go_wp2)
        go_ret
        exact ⟨by first | rfl | (simp [errW_none, errW_some] <;> rfl) | (simp [*, errW_none, errW_some] <;> rfl), by repeat (first | (with_reducible first | exact HB.out | apply below_alloc | apply pw_below_drewN | apply below_drew1 | refine below_set ?_ GE205.out) | exact HB.out)⟩
      · replace c19 := Bool.eq_false_iff.mpr c19
        subst c19
        have H1 : (if a0_5 = 11 then (capnpref25_Valid.j1 kj1 (a0_0 != 0) a0_0 a0_1 l0_2 a0_3 a0_4 a0_5) else (capnpref25_Valid.j1 kj1 false a0_0 a0_1 l0_2 a0_3 a0_4 a0_5)) = some r := by rw [if_neg (show ¬ (false = true) by decide)] at H; exact H
        clear H
        have H := H1
        clear H1
        have HC20 := Aside0.mk H
        clear H
        go_upto_region 3 with (fail)
        repeat (go_quiet (fail); go_upto_region 3 with (fail))
        go_cut [44] (fun v44 wc => ∃ (kq : Nat) (x44_19 : Bool), v44 = .bool x44_19 ∧ Aside0 (capnpref25_Valid.j1 kq x44_19 a0_0 a0_1 l0_2 a0_3 a0_4 a0_5 = some r) ∧ Aside0 (kq ≤ kj1) ∧ Aside0 (wc.heap[gb205]? = some (.cells #[.int .i64 a0_0, .int .u8 a0_1, (.slice A0_2 l0_2.length c0_2), .int .i64 a0_3, .int .i64 a0_4, .int .i64 a0_5] 25 (0, 0))) ∧ Aside0 (Below w.heap.size w wc))
        case first =>
          have H := HC20.out
          clear HC20
          by_cases c21 : a0_5 = 11
          · rw [if_pos c21] at H
            have c21b0 : (a0_5 == 11) = true := beq_iff_eq.mpr c21
            have c21b1 : (a0_5 != 11) = false := bne_eq_false_iff_eq.mpr c21
            clear c21
            (first | rw [c21b0] | (simp only [i64_w, i32_w]; rw [c21b0]) | skip)
            have H' := Aside0.mk H
            clear H
            have hcz22_0 : wc.cell? ⟨gb205, 0, none⟩ = some (.int .i64 a0_0) := (blk_cell BK205.out 0).trans rfl
            have hcz22_1 : wc.cell? ⟨gb205, 1, none⟩ = some (.int .u8 a0_1) := (blk_cell BK205.out 1).trans rfl
            have hcz22_2 : wc.cell? ⟨gb205, 2, none⟩ = some (.slice A0_2 l0_2.length c0_2) := (blk_cell BK205.out 2).trans rfl
            have hcz22_3 : wc.cell? ⟨gb205, 3, none⟩ = some (.int .i64 a0_3) := (blk_cell BK205.out 3).trans rfl
            have hcz22_4 : wc.cell? ⟨gb205, 4, none⟩ = some (.int .i64 a0_4) := (blk_cell BK205.out 4).trans rfl
            have hcz22_5 : wc.cell? ⟨gb205, 5, none⟩ = some (.int .i64 a0_5) := (blk_cell BK205.out 5).trans rfl
            have hfz22_0 := blk_frozen BK205.out 0
            have hfz22_1 := blk_frozen BK205.out 1
            have hfz22_2 := blk_frozen BK205.out 2
            have hfz22_3 := blk_frozen BK205.out 3
            have hfz22_4 := blk_frozen BK205.out 4
            have hfz22_5 := blk_frozen BK205.out 5
            go_wp2
            repeat (go_quiet (fail); try go_wp2)
            go_meet
            case rel => exact ⟨_, ((a0_0 != 0)), (by first | rfl | (simp; done) | (simp [*]; done)), H', ⟨by have := HJ1.out; first | omega | exact Nat.le_refl _⟩, ⟨pK BK205⟩, ⟨by repeat (first | (with_reducible first | exact HB.out | apply below_alloc | apply pw_below_drewN | apply below_drew1 | refine below_set ?_ GE205.out) | exact HB.out)⟩⟩
          · rw [if_neg c21] at H
            have c21b0 : (a0_5 == 11) = false := beq_eq_false_iff_ne.mpr c21
            have c21b1 : (a0_5 != 11) = true := bne_iff_ne.mpr c21
            (first | rw [c21b0] | (simp only [i64_w, i32_w]; rw [c21b0]) | skip)
            have H' := Aside0.mk H
            clear H
            have hcz23_0 : wc.cell? ⟨gb205, 0, none⟩ = some (.int .i64 a0_0) := (blk_cell BK205.out 0).trans rfl
            have hcz23_1 : wc.cell? ⟨gb205, 1, none⟩ = some (.int .u8 a0_1) := (blk_cell BK205.out 1).trans rfl
            have hcz23_2 : wc.cell? ⟨gb205, 2, none⟩ = some (.slice A0_2 l0_2.length c0_2) := (blk_cell BK205.out 2).trans rfl
            have hcz23_3 : wc.cell? ⟨gb205, 3, none⟩ = some (.int .i64 a0_3) := (blk_cell BK205.out 3).trans rfl
            have hcz23_4 : wc.cell? ⟨gb205, 4, none⟩ = some (.int .i64 a0_4) := (blk_cell BK205.out 4).trans rfl
            have hcz23_5 : wc.cell? ⟨gb205, 5, none⟩ = some (.int .i64 a0_5) := (blk_cell BK205.out 5).trans rfl
            have hfz23_0 := blk_frozen BK205.out 0
            have hfz23_1 := blk_frozen BK205.out 1
            have hfz23_2 := blk_frozen BK205.out 2
            have hfz23_3 := blk_frozen BK205.out 3
            have hfz23_4 := blk_frozen BK205.out 4
            have hfz23_5 := blk_frozen BK205.out 5
            go_wp2
            repeat (go_quiet (fail); try go_wp2)
            go_meet
            case rel => exact ⟨_, (false), (by first | rfl | (simp; done) | (simp [*]; done)), H', ⟨by have := HJ1.out; first | omega | exact Nat.le_refl _⟩, ⟨pK BK205⟩, ⟨by repeat (first | (with_reducible first | exact HB.out | apply below_alloc | apply pw_below_drewN | apply below_drew1 | refine below_set ?_ GE205.out) | exact HB.out)⟩⟩
        case rest =>
          clear HC20
          try clear c1
          try clear c2
          try clear p2
          try clear c4
          try clear c4b0
          try clear c6
          try clear c6b0
          try clear c8
          try clear c8b0
          try clear c8b1
          try clear c9
          try clear c9b0
          try clear c9b1
          try clear c10
          try clear c10b0
          try clear c12
          try clear c13
          try clear c13b0
          try clear c13b1
          try clear c14
          try clear c14b0
          try clear c19
          try clear c21
          try clear c21b0
          try clear c21b1
          try clear hcz11_0
          try clear hcz11_1
          try clear hcz11_2
          try clear hcz11_3
          try clear hcz11_4
          try clear hcz11_5
          try clear hcz12_0
          try clear hcz12_1
          try clear hcz12_2
          try clear hcz12_3
          try clear hcz12_4
          try clear hcz12_5
          try clear hcz15_0
          try clear hcz15_1
          try clear hcz15_2
          try clear hcz15_3
          try clear hcz15_4
          try clear hcz15_5
          try clear hcz16_0
          try clear hcz16_1
          try clear hcz16_2
          try clear hcz16_3
          try clear hcz16_4
          try clear hcz16_5
          try clear hcz17_0
          try clear hcz17_1
          try clear hcz17_2
          try clear hcz17_3
          try clear hcz17_4
          try clear hcz17_5
          try clear hcz18_0
          try clear hcz18_1
          try clear hcz18_2
          try clear hcz18_3
          try clear hcz18_4
          try clear hcz18_5
          try clear hcz22_0
          try clear hcz22_1
          try clear hcz22_2
          try clear hcz22_3
          try clear hcz22_4
          try clear hcz22_5
          try clear hcz23_0
          try clear hcz23_1
          try clear hcz23_2
          try clear hcz23_3
          try clear hcz23_4
          try clear hcz23_5
          try clear hcz5_0
          try clear hcz5_1
          try clear hcz5_2
          try clear hcz5_3
          try clear hcz5_4
          try clear hcz5_5
          try clear hcz7_0
          try clear hcz7_1
          try clear hcz7_2
          try clear hcz7_3
          try clear hcz7_4
          try clear hcz7_5
          try clear hfz11_0
          try clear hfz11_1
          try clear hfz11_2
          try clear hfz11_3
          try clear hfz11_4
          try clear hfz11_5
          try clear hfz12_0
          try clear hfz12_1
          try clear hfz12_2
          try clear hfz12_3
          try clear hfz12_4
          try clear hfz12_5
          try clear hfz15_0
          try clear hfz15_1
          try clear hfz15_2
          try clear hfz15_3
          try clear hfz15_4
          try clear hfz15_5
          try clear hfz16_0
          try clear hfz16_1
          try clear hfz16_2
          try clear hfz16_3
          try clear hfz16_4
          try clear hfz16_5
          try clear hfz17_0
          try clear hfz17_1
          try clear hfz17_2
          try clear hfz17_3
          try clear hfz17_4
          try clear hfz17_5
          try clear hfz18_0
          try clear hfz18_1
          try clear hfz18_2
          try clear hfz18_3
          try clear hfz18_4
          try clear hfz18_5
          try clear hfz22_0
          try clear hfz22_1
          try clear hfz22_2
          try clear hfz22_3
          try clear hfz22_4
          try clear hfz22_5
          try clear hfz23_0
          try clear hfz23_1
          try clear hfz23_2
          try clear hfz23_3
          try clear hfz23_4
          try clear hfz23_5
          try clear hfz5_0
          try clear hfz5_1
          try clear hfz5_2
          try clear hfz5_3
          try clear hfz5_4
          try clear hfz5_5
          try clear hfz7_0
          try clear hfz7_1
          try clear hfz7_2
          try clear hfz7_3
          try clear hfz7_4
          try clear hfz7_5
          try clear p2
          obtain ⟨kq, x44_19, rfl, HA, HJ19, BK205, HB⟩ := hcut
          cases kq with
          | zero => exact absurd HA.out (by simp [capnpref25_Valid.j1])
          | succ kj19 =>
            have H := HA.out
            clear HA
            simp only [capnpref25_Valid.j1] at H
            by_cases c24 : x44_19 = true
            · subst c24
              have H1 : (some false) = some r := by rw [if_pos rfl] at H; exact H
              clear H
              have H := H1
              clear H1
              obtain rfl := Option.some.inj H
              go_wp2
              repeat (go_quiet (fail); try go_wp2)
              go_ret
              exact ⟨by first | rfl | (simp [errW_none, errW_some] <;> rfl) | (simp [*, errW_none, errW_some] <;> rfl), by repeat (first | (with_reducible first | exact HB.out | apply below_alloc | apply pw_below_drewN | apply below_drew1 | refine below_set ?_ GE205.out) | exact HB.out)⟩
            · replace c24 := Bool.eq_false_iff.mpr c24
              subst c24
              have H1 : (if a0_0 = 1 then (if a0_1 = 0 then (some false) else (if a0_3 = 0 then ((capnpref20_Ones.f kj19 a0_1).bind fun t206 => (some (decide ((l0_2.length : Int) < t206)))) else (some false))) else (if a0_0 = 4 then (if a0_1 = 0 then (if a0_3 ≥ 1 then (if a0_3 ≤ 255 then (some (decide ((l0_2.length : Int) < 8))) else (some false)) else (some false)) else (some false)) else (if a0_1 = 0 then (if a0_3 = 0 then (some ((l0_2.length : Int) == 0)) else (some false)) else (some false)))) = some r := by rw [if_neg (show ¬ (false = true) by decide)] at H; exact H
              clear H
              have H := H1
              clear H1
              by_cases c25 : a0_0 = 1
              · rw [if_pos c25] at H
                have c25b0 : (a0_0 == 1) = true := beq_iff_eq.mpr c25
                have c25b1 : (a0_0 != 1) = false := bne_eq_false_iff_eq.mpr c25
                clear c25
                by_cases c26 : a0_1 = 0
                · rw [if_pos c26] at H
                  have c26b0 : (a0_1 == 0) = true := beq_iff_eq.mpr c26
                  have c26b1 : (a0_1 != 0) = false := bne_eq_false_iff_eq.mpr c26
                  clear c26
                  obtain rfl := Option.some.inj H
                  have hcz27_0 : wc.cell? ⟨gb205, 0, none⟩ = some (.int .i64 a0_0) := (blk_cell BK205.out 0).trans rfl
                  have hcz27_1 : wc.cell? ⟨gb205, 1, none⟩ = some (.int .u8 a0_1) := (blk_cell BK205.out 1).trans rfl
                  have hcz27_2 : wc.cell? ⟨gb205, 2, none⟩ = some (.slice A0_2 l0_2.length c0_2) := (blk_cell BK205.out 2).trans rfl
                  have hcz27_3 : wc.cell? ⟨gb205, 3, none⟩ = some (.int .i64 a0_3) := (blk_cell BK205.out 3).trans rfl
                  have hcz27_4 : wc.cell? ⟨gb205, 4, none⟩ = some (.int .i64 a0_4) := (blk_cell BK205.out 4).trans rfl
                  have hcz27_5 : wc.cell? ⟨gb205, 5, none⟩ = some (.int .i64 a0_5) := (blk_cell BK205.out 5).trans rfl
                  have hfz27_0 := blk_frozen BK205.out 0
                  have hfz27_1 := blk_frozen BK205.out 1
                  have hfz27_2 := blk_frozen BK205.out 2
                  have hfz27_3 := blk_frozen BK205.out 3
                  have hfz27_4 := blk_frozen BK205.out 4
                  have hfz27_5 := blk_frozen BK205.out 5
                  go_wp2
                  repeat (go_quiet (fail); try go_wp2)
                  go_ret
                  exact ⟨by first | rfl | (simp [errW_none, errW_some] <;> rfl) | (simp [*, errW_none, errW_some] <;> rfl), by repeat (first | (with_reducible first | exact HB.out | apply below_alloc | apply pw_below_drewN | apply below_drew1 | refine below_set ?_ GE205.out) | exact HB.out)⟩
                · rw [if_neg c26] at H
                  have c26b0 : (a0_1 == 0) = false := beq_eq_false_iff_ne.mpr c26
                  have c26b1 : (a0_1 != 0) = true := bne_iff_ne.mpr c26
                  by_cases c28 : a0_3 = 0
                  · rw [if_pos c28] at H
                    have c28b0 : (a0_3 == 0) = true := beq_iff_eq.mpr c28
                    have c28b1 : (a0_3 != 0) = false := bne_eq_false_iff_eq.mpr c28
                    clear c28
                    replace H := Option.bind_eq_some_iff.mp H
                    obtain ⟨t206, A290, H⟩ := H
                    replace H : (some (decide ((l0_2.length : Int) < t206))) = some r := H
                    have A29 := Aside0.mk A290
                    clear A290
                    obtain rfl := Option.some.inj H
                    have hcz30_0 : wc.cell? ⟨gb205, 0, none⟩ = some (.int .i64 a0_0) := (blk_cell BK205.out 0).trans rfl
                    have hcz30_1 : wc.cell? ⟨gb205, 1, none⟩ = some (.int .u8 a0_1) := (blk_cell BK205.out 1).trans rfl
                    have hcz30_2 : wc.cell? ⟨gb205, 2, none⟩ = some (.slice A0_2 l0_2.length c0_2) := (blk_cell BK205.out 2).trans rfl
                    have hcz30_3 : wc.cell? ⟨gb205, 3, none⟩ = some (.int .i64 a0_3) := (blk_cell BK205.out 3).trans rfl
                    have hcz30_4 : wc.cell? ⟨gb205, 4, none⟩ = some (.int .i64 a0_4) := (blk_cell BK205.out 4).trans rfl
                    have hcz30_5 : wc.cell? ⟨gb205, 5, none⟩ = some (.int .i64 a0_5) := (blk_cell BK205.out 5).trans rfl
                    have hfz30_0 := blk_frozen BK205.out 0
                    have hfz30_1 := blk_frozen BK205.out 1
                    have hfz30_2 := blk_frozen BK205.out 2
                    have hfz30_3 := blk_frozen BK205.out 3
                    have hfz30_4 := blk_frozen BK205.out 4
                    have hfz30_5 := blk_frozen BK205.out 5
                    go_wp2_with (first | (go_at_call 23; (with_reducible refine (capnpref20_Ones.calls kj19 a0_1 t206 _ A29.out).mono ?_); rintro e w' ⟨rfl, ⟨nd, rfl⟩⟩; (try first | exact ⟨rfl, _, World.drewN_drewN _ _ _⟩ | exact ⟨rfl, _, Eq.trans (World.drewN_drewN _ _ _) (congrArg (World.drewN _) (Nat.add_assoc _ _ _))⟩)))
                    repeat (go_quiet (first | (go_at_call 23; (with_reducible refine (capnpref20_Ones.calls kj19 a0_1 t206 _ A29.out).mono ?_); rintro e w' ⟨rfl, ⟨nd, rfl⟩⟩; (try first | exact ⟨rfl, _, World.drewN_drewN _ _ _⟩ | exact ⟨rfl, _, Eq.trans (World.drewN_drewN _ _ _) (congrArg (World.drewN _) (Nat.add_assoc _ _ _))⟩))); try go_wp2_with (first | (go_at_call 23; (with_reducible refine (capnpref20_Ones.calls kj19 a0_1 t206 _ A29.out).mono ?_); rintro e w' ⟨rfl, ⟨nd, rfl⟩⟩; (try first | exact ⟨rfl, _, World.drewN_drewN _ _ _⟩ | exact ⟨rfl, _, Eq.trans (World.drewN_drewN _ _ _) (congrArg (World.drewN _) (Nat.add_assoc _ _ _))⟩))))
                    go_ret
                    exact ⟨by first | rfl | (simp [errW_none, errW_some] <;> rfl) | (simp [*, errW_none, errW_some] <;> rfl), by repeat (first | (with_reducible first | exact HB.out | apply below_alloc | apply pw_below_drewN | apply below_drew1 | refine below_set ?_ GE205.out) | exact HB.out)⟩
                  · rw [if_neg c28] at H
                    have c28b0 : (a0_3 == 0) = false := beq_eq_false_iff_ne.mpr c28
                    have c28b1 : (a0_3 != 0) = true := bne_iff_ne.mpr c28
                    obtain rfl := Option.some.inj H
                    have hcz31_0 : wc.cell? ⟨gb205, 0, none⟩ = some (.int .i64 a0_0) := (blk_cell BK205.out 0).trans rfl
                    have hcz31_1 : wc.cell? ⟨gb205, 1, none⟩ = some (.int .u8 a0_1) := (blk_cell BK205.out 1).trans rfl
                    have hcz31_2 : wc.cell? ⟨gb205, 2, none⟩ = some (.slice A0_2 l0_2.length c0_2) := (blk_cell BK205.out 2).trans rfl
                    have hcz31_3 : wc.cell? ⟨gb205, 3, none⟩ = some (.int .i64 a0_3) := (blk_cell BK205.out 3).trans rfl
                    have hcz31_4 : wc.cell? ⟨gb205, 4, none⟩ = some (.int .i64 a0_4) := (blk_cell BK205.out 4).trans rfl
                    have hcz31_5 : wc.cell? ⟨gb205, 5, none⟩ = some (.int .i64 a0_5) := (blk_cell BK205.out 5).trans rfl
                    have hfz31_0 := blk_frozen BK205.out 0
                    have hfz31_1 := blk_frozen BK205.out 1
                    have hfz31_2 := blk_frozen BK205.out 2
                    have hfz31_3 := blk_frozen BK205.out 3
                    have hfz31_4 := blk_frozen BK205.out 4
                    have hfz31_5 := blk_frozen BK205.out 5
                    go_wp2
                    repeat (go_quiet (fail); try go_wp2)
                    go_ret
                    exact ⟨by first | rfl | (simp [errW_none, errW_some] <;> rfl) | (simp [*, errW_none, errW_some] <;> rfl), by repeat (first | (with_reducible first | exact HB.out | apply below_alloc | apply pw_below_drewN | apply below_drew1 | refine below_set ?_ GE205.out) | exact HB.out)⟩
              · rw [if_neg c25] at H
                have c25b0 : (a0_0 == 1) = false := beq_eq_false_iff_ne.mpr c25
                have c25b1 : (a0_0 != 1) = true := bne_iff_ne.mpr c25
                by_cases c32 : a0_0 = 4
                · rw [if_pos c32] at H
                  have c32b0 : (a0_0 == 4) = true := beq_iff_eq.mpr c32
                  have c32b1 : (a0_0 != 4) = false := bne_eq_false_iff_eq.mpr c32
                  clear c32
                  by_cases c33 : a0_1 = 0
                  · rw [if_pos c33] at H
                    have c33b0 : (a0_1 == 0) = true := beq_iff_eq.mpr c33
                    have c33b1 : (a0_1 != 0) = false := bne_eq_false_iff_eq.mpr c33
                    clear c33
                    by_cases c34 : a0_3 ≥ 1
                    · rw [if_pos c34] at H
                      have c34b0 : decide (1 ≤ a0_3) = true := decide_eq_true c34
                      clear c34
                      by_cases c35 : a0_3 ≤ 255
                      · rw [if_pos c35] at H
                        have c35b0 : decide (a0_3 ≤ 255) = true := decide_eq_true c35
                        clear c35
                        obtain rfl := Option.some.inj H
                        have hcz36_0 : wc.cell? ⟨gb205, 0, none⟩ = some (.int .i64 a0_0) := (blk_cell BK205.out 0).trans rfl
                        have hcz36_1 : wc.cell? ⟨gb205, 1, none⟩ = some (.int .u8 a0_1) := (blk_cell BK205.out 1).trans rfl
                        have hcz36_2 : wc.cell? ⟨gb205, 2, none⟩ = some (.slice A0_2 l0_2.length c0_2) := (blk_cell BK205.out 2).trans rfl
                        have hcz36_3 : wc.cell? ⟨gb205, 3, none⟩ = some (.int .i64 a0_3) := (blk_cell BK205.out 3).trans rfl
                        have hcz36_4 : wc.cell? ⟨gb205, 4, none⟩ = some (.int .i64 a0_4) := (blk_cell BK205.out 4).trans rfl
                        have hcz36_5 : wc.cell? ⟨gb205, 5, none⟩ = some (.int .i64 a0_5) := (blk_cell BK205.out 5).trans rfl
                        have hfz36_0 := blk_frozen BK205.out 0
                        have hfz36_1 := blk_frozen BK205.out 1
                        have hfz36_2 := blk_frozen BK205.out 2
                        have hfz36_3 := blk_frozen BK205.out 3
                        have hfz36_4 := blk_frozen BK205.out 4
                        have hfz36_5 := blk_frozen BK205.out 5
                        go_wp2
                        repeat (go_quiet (fail); try go_wp2)
                        go_ret
                        exact ⟨by first | rfl | (simp [errW_none, errW_some] <;> rfl) | (simp [*, errW_none, errW_some] <;> rfl), by repeat (first | (with_reducible first | exact HB.out | apply below_alloc | apply pw_below_drewN | apply below_drew1 | refine below_set ?_ GE205.out) | exact HB.out)⟩
                      · rw [if_neg c35] at H
                        have c35b0 : decide (a0_3 ≤ 255) = false := decide_eq_false c35
                        clear c35
                        obtain rfl := Option.some.inj H
                        have hcz37_0 : wc.cell? ⟨gb205, 0, none⟩ = some (.int .i64 a0_0) := (blk_cell BK205.out 0).trans rfl
                        have hcz37_1 : wc.cell? ⟨gb205, 1, none⟩ = some (.int .u8 a0_1) := (blk_cell BK205.out 1).trans rfl
                        have hcz37_2 : wc.cell? ⟨gb205, 2, none⟩ = some (.slice A0_2 l0_2.length c0_2) := (blk_cell BK205.out 2).trans rfl
                        have hcz37_3 : wc.cell? ⟨gb205, 3, none⟩ = some (.int .i64 a0_3) := (blk_cell BK205.out 3).trans rfl
                        have hcz37_4 : wc.cell? ⟨gb205, 4, none⟩ = some (.int .i64 a0_4) := (blk_cell BK205.out 4).trans rfl
                        have hcz37_5 : wc.cell? ⟨gb205, 5, none⟩ = some (.int .i64 a0_5) := (blk_cell BK205.out 5).trans rfl
                        have hfz37_0 := blk_frozen BK205.out 0
                        have hfz37_1 := blk_frozen BK205.out 1
                        have hfz37_2 := blk_frozen BK205.out 2
                        have hfz37_3 := blk_frozen BK205.out 3
                        have hfz37_4 := blk_frozen BK205.out 4
                        have hfz37_5 := blk_frozen BK205.out 5
                        go_wp2
                        repeat (go_quiet (fail); try go_wp2)
                        go_ret
                        exact ⟨by first | rfl | (simp [errW_none, errW_some] <;> rfl) | (simp [*, errW_none, errW_some] <;> rfl), by repeat (first | (with_reducible first | exact HB.out | apply below_alloc | apply pw_below_drewN | apply below_drew1 | refine below_set ?_ GE205.out) | exact HB.out)⟩
                    · rw [if_neg c34] at H
                      have c34b0 : decide (1 ≤ a0_3) = false := decide_eq_false c34
                      clear c34
                      obtain rfl := Option.some.inj H
                      have hcz38_0 : wc.cell? ⟨gb205, 0, none⟩ = some (.int .i64 a0_0) := (blk_cell BK205.out 0).trans rfl
                      have hcz38_1 : wc.cell? ⟨gb205, 1, none⟩ = some (.int .u8 a0_1) := (blk_cell BK205.out 1).trans rfl
                      have hcz38_2 : wc.cell? ⟨gb205, 2, none⟩ = some (.slice A0_2 l0_2.length c0_2) := (blk_cell BK205.out 2).trans rfl
                      have hcz38_3 : wc.cell? ⟨gb205, 3, none⟩ = some (.int .i64 a0_3) := (blk_cell BK205.out 3).trans rfl
                      have hcz38_4 : wc.cell? ⟨gb205, 4, none⟩ = some (.int .i64 a0_4) := (blk_cell BK205.out 4).trans rfl
                      have hcz38_5 : wc.cell? ⟨gb205, 5, none⟩ = some (.int .i64 a0_5) := (blk_cell BK205.out 5).trans rfl
                      have hfz38_0 := blk_frozen BK205.out 0
                      have hfz38_1 := blk_frozen BK205.out 1
                      have hfz38_2 := blk_frozen BK205.out 2
                      have hfz38_3 := blk_frozen BK205.out 3
                      have hfz38_4 := blk_frozen BK205.out 4
                      have hfz38_5 := blk_frozen BK205.out 5
                      go_wp2
                      repeat (go_quiet (fail); try go_wp2)
                      go_ret
                      exact ⟨by first | rfl | (simp [errW_none, errW_some] <;> rfl) | (simp [*, errW_none, errW_some] <;> rfl), by repeat (first | (with_reducible first | exact HB.out | apply below_alloc | apply pw_below_drewN | apply below_drew1 | refine below_set ?_ GE205.out) | exact HB.out)⟩
                  · rw [if_neg c33] at H
                    have c33b0 : (a0_1 == 0) = false := beq_eq_false_iff_ne.mpr c33
                    have c33b1 : (a0_1 != 0) = true := bne_iff_ne.mpr c33
                    obtain rfl := Option.some.inj H
                    have hcz39_0 : wc.cell? ⟨gb205, 0, none⟩ = some (.int .i64 a0_0) := (blk_cell BK205.out 0).trans rfl
                    have hcz39_1 : wc.cell? ⟨gb205, 1, none⟩ = some (.int .u8 a0_1) := (blk_cell BK205.out 1).trans rfl
                    have hcz39_2 : wc.cell? ⟨gb205, 2, none⟩ = some (.slice A0_2 l0_2.length c0_2) := (blk_cell BK205.out 2).trans rfl
                    have hcz39_3 : wc.cell? ⟨gb205, 3, none⟩ = some (.int .i64 a0_3) := (blk_cell BK205.out 3).trans rfl
                    have hcz39_4 : wc.cell? ⟨gb205, 4, none⟩ = some (.int .i64 a0_4) := (blk_cell BK205.out 4).trans rfl
                    have hcz39_5 : wc.cell? ⟨gb205, 5, none⟩ = some (.int .i64 a0_5) := (blk_cell BK205.out 5).trans rfl
                    have hfz39_0 := blk_frozen BK205.out 0
                    have hfz39_1 := blk_frozen BK205.out 1
                    have hfz39_2 := blk_frozen BK205.out 2
                    have hfz39_3 := blk_frozen BK205.out 3
                    have hfz39_4 := blk_frozen BK205.out 4
                    have hfz39_5 := blk_frozen BK205.out 5
                    go_wp2
                    repeat (go_quiet (fail); try go_wp2)
                    go_ret
                    exact ⟨by first | rfl | (simp [errW_none, errW_some] <;> rfl) | (simp [*, errW_none, errW_some] <;> rfl), by repeat (first | (with_reducible first | exact HB.out | apply below_alloc | apply pw_below_drewN | apply below_drew1 | refine below_set ?_ GE205.out) | exact HB.out)⟩
                · rw [if_neg c32] at H
                  have c32b0 : (a0_0 == 4) = false := beq_eq_false_iff_ne.mpr c32
                  have c32b1 : (a0_0 != 4) = true := bne_iff_ne.mpr c32
                  by_cases c40 : a0_1 = 0
                  · rw [if_pos c40] at H
                    have c40b0 : (a0_1 == 0) = true := beq_iff_eq.mpr c40
                    have c40b1 : (a0_1 != 0) = false := bne_eq_false_iff_eq.mpr c40
                    clear c40
                    by_cases c41 : a0_3 = 0
                    · rw [if_pos c41] at H
                      have c41b0 : (a0_3 == 0) = true := beq_iff_eq.mpr c41
                      have c41b1 : (a0_3 != 0) = false := bne_eq_false_iff_eq.mpr c41
                      clear c41
                      obtain rfl := Option.some.inj H
                      have hcz42_0 : wc.cell? ⟨gb205, 0, none⟩ = some (.int .i64 a0_0) := (blk_cell BK205.out 0).trans rfl
                      have hcz42_1 : wc.cell? ⟨gb205, 1, none⟩ = some (.int .u8 a0_1) := (blk_cell BK205.out 1).trans rfl
                      have hcz42_2 : wc.cell? ⟨gb205, 2, none⟩ = some (.slice A0_2 l0_2.length c0_2) := (blk_cell BK205.out 2).trans rfl
                      have hcz42_3 : wc.cell? ⟨gb205, 3, none⟩ = some (.int .i64 a0_3) := (blk_cell BK205.out 3).trans rfl
                      have hcz42_4 : wc.cell? ⟨gb205, 4, none⟩ = some (.int .i64 a0_4) := (blk_cell BK205.out 4).trans rfl
                      have hcz42_5 : wc.cell? ⟨gb205, 5, none⟩ = some (.int .i64 a0_5) := (blk_cell BK205.out 5).trans rfl
                      have hfz42_0 := blk_frozen BK205.out 0
                      have hfz42_1 := blk_frozen BK205.out 1
                      have hfz42_2 := blk_frozen BK205.out 2
                      have hfz42_3 := blk_frozen BK205.out 3
                      have hfz42_4 := blk_frozen BK205.out 4
                      have hfz42_5 := blk_frozen BK205.out 5
                      go_wp2
                      repeat (go_quiet (fail); try go_wp2)
                      go_ret
                      exact ⟨by first | rfl | (simp [errW_none, errW_some] <;> rfl) | (simp [*, errW_none, errW_some] <;> rfl), by repeat (first | (with_reducible first | exact HB.out | apply below_alloc | apply pw_below_drewN | apply below_drew1 | refine below_set ?_ GE205.out) | exact HB.out)⟩
                    · rw [if_neg c41] at H
                      have c41b0 : (a0_3 == 0) = false := beq_eq_false_iff_ne.mpr c41
                      have c41b1 : (a0_3 != 0) = true := bne_iff_ne.mpr c41
                      obtain rfl := Option.some.inj H
                      have hcz43_0 : wc.cell? ⟨gb205, 0, none⟩ = some (.int .i64 a0_0) := (blk_cell BK205.out 0).trans rfl
                      have hcz43_1 : wc.cell? ⟨gb205, 1, none⟩ = some (.int .u8 a0_1) := (blk_cell BK205.out 1).trans rfl
                      have hcz43_2 : wc.cell? ⟨gb205, 2, none⟩ = some (.slice A0_2 l0_2.length c0_2) := (blk_cell BK205.out 2).trans rfl
                      have hcz43_3 : wc.cell? ⟨gb205, 3, none⟩ = some (.int .i64 a0_3) := (blk_cell BK205.out 3).trans rfl
                      have hcz43_4 : wc.cell? ⟨gb205, 4, none⟩ = some (.int .i64 a0_4) := (blk_cell BK205.out 4).trans rfl
                      have hcz43_5 : wc.cell? ⟨gb205, 5, none⟩ = some (.int .i64 a0_5) := (blk_cell BK205.out 5).trans rfl
                      have hfz43_0 := blk_frozen BK205.out 0
                      have hfz43_1 := blk_frozen BK205.out 1
                      have hfz43_2 := blk_frozen BK205.out 2
                      have hfz43_3 := blk_frozen BK205.out 3
                      have hfz43_4 := blk_frozen BK205.out 4
                      have hfz43_5 := blk_frozen BK205.out 5
                      go_wp2
                      repeat (go_quiet (fail); try go_wp2)
                      go_ret
                      exact ⟨by first | rfl | (simp [errW_none, errW_some] <;> rfl) | (simp [*, errW_none, errW_some] <;> rfl), by repeat (first | (with_reducible first | exact HB.out | apply below_alloc | apply pw_below_drewN | apply below_drew1 | refine below_set ?_ GE205.out) | exact HB.out)⟩
                  · rw [if_neg c40] at H
                    have c40b0 : (a0_1 == 0) = false := beq_eq_false_iff_ne.mpr c40
                    have c40b1 : (a0_1 != 0) = true := bne_iff_ne.mpr c40
                    obtain rfl := Option.some.inj H
                    have hcz44_0 : wc.cell? ⟨gb205, 0, none⟩ = some (.int .i64 a0_0) := (blk_cell BK205.out 0).trans rfl
                    have hcz44_1 : wc.cell? ⟨gb205, 1, none⟩ = some (.int .u8 a0_1) := (blk_cell BK205.out 1).trans rfl
                    have hcz44_2 : wc.cell? ⟨gb205, 2, none⟩ = some (.slice A0_2 l0_2.length c0_2) := (blk_cell BK205.out 2).trans rfl
                    have hcz44_3 : wc.cell? ⟨gb205, 3, none⟩ = some (.int .i64 a0_3) := (blk_cell BK205.out 3).trans rfl
                    have hcz44_4 : wc.cell? ⟨gb205, 4, none⟩ = some (.int .i64 a0_4) := (blk_cell BK205.out 4).trans rfl
                    have hcz44_5 : wc.cell? ⟨gb205, 5, none⟩ = some (.int .i64 a0_5) := (blk_cell BK205.out 5).trans rfl
                    have hfz44_0 := blk_frozen BK205.out 0
                    have hfz44_1 := blk_frozen BK205.out 1
                    have hfz44_2 := blk_frozen BK205.out 2
                    have hfz44_3 := blk_frozen BK205.out 3
                    have hfz44_4 := blk_frozen BK205.out 4
                    have hfz44_5 := blk_frozen BK205.out 5
                    go_wp2
                    repeat (go_quiet (fail); try go_wp2)
                    go_ret
                    exact ⟨by first | rfl | (simp [errW_none, errW_some] <;> rfl) | (simp [*, errW_none, errW_some] <;> rfl), by repeat (first | (with_reducible first | exact HB.out | apply below_alloc | apply pw_below_drewN | apply below_drew1 | refine below_set ?_ GE205.out) | exact HB.out)⟩
end Go.Proofs.YtpffoecblcfndaaDoor.PUnpackstreamMatchesReference
