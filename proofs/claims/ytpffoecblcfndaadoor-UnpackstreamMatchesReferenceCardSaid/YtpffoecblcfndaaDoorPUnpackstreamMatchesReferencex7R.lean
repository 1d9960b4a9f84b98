/- Printed functions of a law, and their walks. -/
import Derived.Test.YtpffoecblcfndaaDoorXShortR
import Derived.Test.YtpffoecblcfndaaDoorPUnpackstreamMatchesReferencex0R
import Derived.Test.YtpffoecblcfndaaDoorPUnpackstreamMatchesReferencex4R
import Derived.Test.YtpffoecblcfndaaDoorPUnpackstreamMatchesReferencex6R
namespace Go.Proofs.YtpffoecblcfndaaDoor.PUnpackstreamMatchesReference
open Go.RowKit Go.Proofs.YtpffoecblcfndaaDoorW.PrintWords Go.Proofs.YtpffoecblcfndaaDoorW.PrintLast Go.Proofs.YtpffoecblcfndaaDoorW.PrintMore
open Go.Proofs.YtpffoecblcfndaaDoor.PVaBase
attribute [local go_sem] max2_int min2_int max_two min_two max_three min_three max_four min_four   -- for this text's walks alone
set_option linter.unusedVariables false
set_option linter.unusedSimpArgs false
set_option maxHeartbeats 8000000
set_option maxRecDepth 100000
def capnpref25_Write.l0 : Nat → List Int → Int → List Int → Int → Int → Int → List Int → Int → Int → Int → Option (Int × Int × List Int × Int × Int × Int × List Int × Int)
  | 0, _, _, _, _, _, _, _, _, _, _ => none
  | k + 1, x1, x2, x9, x10, x314000, x314001, x314002, x314003, x314004, x314005 => if x10 < (x1.length : Int) then (if x314005 = 0 then (if 0 ≤ x10 then ((capnpref25_step.f k x314000 x314001 x314002 x314003 x314004 x314005 x9 (rd x1 x10) (mn (mx x2 0) 1152921504606846976)).bind fun bt317 => (capnpref25_Write.l0 k x1 x2 bt317.2.2.2.2.2.2 (wrap64 (x10 + 1)) bt317.1 bt317.2.1 bt317.2.2.1 bt317.2.2.2.1 bt317.2.2.2.2.1 bt317.2.2.2.2.2.1)) else (none)) else (some (x314000, x314001, x314002, x314003, x314004, x314005, x9, x314005))) else (some (x314000, x314001, x314002, x314003, x314004, x314005, x9, x314005))
def capnpref25_Write.f (k : Nat) (a0_0 : Int) (a0_1 : Int) (l0_2 : List Int) (a0_3 : Int) (a0_4 : Int) (a0_5 : Int) (l1 : List Int) (a2 : Int) : Option (Int × Int × List Int × Int × Int × Int × List Int × Int) := (capnpref25_Valid.f k a0_0 a0_1 l0_2 a0_3 a0_4 a0_5).bind fun t315 => (if t315 = true then (capnpref25_Write.l0 k l1 a2 ([] : List Int) 0 a0_0 a0_1 l0_2 a0_3 a0_4 a0_5) else (some (a0_0, a0_1, l0_2, a0_3, a0_4, a0_5, ([] : List Int), 12)))
theorem capnpref25_Write.mono_l : ∀ k, (∀ y0 y1 y2 y3 y4 y5 y6 y7 y8 y9, LeO (capnpref25_Write.l0 k y0 y1 y2 y3 y4 y5 y6 y7 y8 y9) (capnpref25_Write.l0 (k + 1) y0 y1 y2 y3 y4 y5 y6 y7 y8 y9))
  | 0 => fun _ _ _ _ _ _ _ _ _ _ r h => by simp [capnpref25_Write.l0] at h
  | k + 1 => by
    have ih0 := capnpref25_Write.mono_l k
    · intro y0 y1 y2 y3 y4 y5 y6 y7 y8 y9
      unfold capnpref25_Write.l0
      repeat' first
      | (with_reducible exact ih0 _ _ _ _ _ _ _ _ _ _)
      | (with_reducible exact capnpref25_Valid.mono _ _ _ _ _ _ _)
      | (with_reducible exact capnpref25_step.mono _ _ _ _ _ _ _ _ _ _)
      | (with_reducible exact LeO.refl _)
      | (with_reducible exact LeO.none _)
      | (with_reducible refine LeO.ite ?_ ?_)
      | (with_reducible refine LeO.bind ?_ (fun _ => ?_))
      | exact ih0 _ _ _ _ _ _ _ _ _ _
      | exact capnpref25_Valid.mono _ _ _ _ _ _ _
      | exact capnpref25_step.mono _ _ _ _ _ _ _ _ _ _
      | exact LeO.none _
      | refine LeO.ite ?_ ?_
      | refine LeO.bind ?_ (fun _ => ?_)
theorem capnpref25_Write.mono : ∀ a0 a1 a2 a3 a4 a5 a6 a7 k, LeO (capnpref25_Write.f k a0 a1 a2 a3 a4 a5 a6 a7) (capnpref25_Write.f (k + 1) a0 a1 a2 a3 a4 a5 a6 a7) := by
  intro a0 a1 a2 a3 a4 a5 a6 a7 k
  have ih0 := capnpref25_Write.mono_l k
  unfold capnpref25_Write.f
  repeat' first
      | (with_reducible exact ih0 _ _ _ _ _ _ _ _ _ _)
      | (with_reducible exact capnpref25_Valid.mono _ _ _ _ _ _ _)
      | (with_reducible exact capnpref25_step.mono _ _ _ _ _ _ _ _ _ _)
      | (with_reducible exact LeO.refl _)
      | (with_reducible exact LeO.none _)
      | (with_reducible refine LeO.ite ?_ ?_)
      | (with_reducible refine LeO.bind ?_ (fun _ => ?_))
      | exact ih0 _ _ _ _ _ _ _ _ _ _
      | exact capnpref25_Valid.mono _ _ _ _ _ _ _
      | exact capnpref25_step.mono _ _ _ _ _ _ _ _ _ _
      | exact LeO.none _
      | refine LeO.ite ?_ ?_
      | refine LeO.bind ?_ (fun _ => ?_)
def capnpref25_Write.T7 : Bool × List (List Nat × List Nat) := (true, [([], []), ([], []), ([], []), ([], []), ([2, 3], [2, 3]), ([4], [4]), ([], []), ([6], [6]), ([7], [7]), ([0, 1, 5, 8], [0, 1, 5, 8]), ([9], [9]), ([10], [10]), ([10], [10]), ([11, 9, 0, 1, 2, 3, 4, 5, 6, 7, 8, 9, 10, 11], [11]), ([12, 13, 0, 1, 2, 3, 4, 5, 6, 7, 8, 9, 10, 11, 12, 13], [1, 12])])
def capnpref25_Write.B7 : List Nat := [0, 0, 0, 0, 12, 28, 0, 64, 192, 511, 1023, 2047, 2047, 4095, 16383]
theorem capnpref25_Write.tab7 : rtab .any (opsOf Tryd.f10 7) = capnpref25_Write.T7 := by kernel_rfl
theorem capnpref25_Write.bits7 : waitsOk capnpref25_Write.T7.2 capnpref25_Write.B7 = true := by kernel_rfl
theorem capnpref25_Write.calls (k : Nat) (a0_0 : Int) (a0_1 : Int) (P0_2_ : Nat → Prop) (A0_2 : Option Addr) (c0_2 : Nat) (l0_2 : List Int) (a0_3 : Int) (a0_4 : Int) (a0_5 : Int) (A1 : Option Addr) (c1 : Nat) (l1 : List Int) (a2 : Int) (r1 : Int) (r2 : Int) (r3 : List Int) (r4 : Int) (r5 : Int) (r6 : Int) (r7 : List Int) (r8 : Int) (w : World) (hs0_2 : Kd.V (Kd.int .u8) 5 w w.heap.size (fun k_ => P0_2_ k_) (.slice A0_2 l0_2.length c0_2) l0_2) (hr1 : Kd.C (Kd.int .u8) w A1 l1.length l1) (hc1 : l1.length ≤ c1) (h : capnpref25_Write.f k a0_0 a0_1 l0_2 a0_3 a0_4 a0_5 l1 a2 = some (r1, r2, r3, r4, r5, r6, r7, r8)) :
    Calls Tryd.prog 10 #[.agg #[.int .i64 a0_0, .int .u8 a0_1, .slice A0_2 l0_2.length c0_2, .int .i64 a0_3, .int .i64 a0_4, .int .i64 a0_5], .slice A1 l1.length c1, .int .i64 a2] w fun e w' => ∃ v2_ v6_ : Value, e = .returned (.tuple #[.agg #[.int .i64 r1, .int .u8 r2, v2_, .int .i64 r4, .int .i64 r5, .int .i64 r6], v6_, .int .i64 r8]) ∧ Kd.V (Kd.int .u8) 5 w' w.heap.size (fun k_ => (P0_2_ k_ ∨ w.heap.size ≤ k_) ∧ some k_ ≠ (v6_ : Value).ownBlock) v2_ r3 ∧ Kd.R (Kd.int .u8) 5 w' w.heap.size (fun k_ => (w.heap.size ≤ k_)) v6_ r7 ∧ Below w.heap.size w w' := by
  have hu25 := Tryd.underlying25
  have HO0_2 := Aside0.mk (show Kd.V (Kd.int .u8) 5 w w.heap.size (fun k_ => (P0_2_ k_ ∨ w.heap.size ≤ k_)) (.slice A0_2 l0_2.length c0_2) l0_2 from Kd.V_mono hs0_2 (fun k_ hk => .inl hk))
  have HR1 := Aside0.mk hr1
  have HC1 := Aside0.mk hc1
  clear hr1 hc1
  have HB := Aside0.mk (Below.refl w.heap.size w)
  have H : ((capnpref25_Valid.f k a0_0 a0_1 l0_2 a0_3 a0_4 a0_5).bind fun t315 => (if t315 = true then (capnpref25_Write.l0 k l1 a2 ([] : List Int) 0 a0_0 a0_1 l0_2 a0_3 a0_4 a0_5) else (some (a0_0, a0_1, l0_2, a0_3, a0_4, a0_5, ([] : List Int), 12)))) = some (r1, r2, r3, r4, r5, r6, r7, r8) := h
  clear h
  replace H := Option.bind_eq_some_iff.mp H
  obtain ⟨t315, A40, H⟩ := H
  replace H : (if t315 = true then (capnpref25_Write.l0 k l1 a2 ([] : List Int) 0 a0_0 a0_1 l0_2 a0_3 a0_4 a0_5) else (some (a0_0, a0_1, l0_2, a0_3, a0_4, a0_5, ([] : List Int), 12))) = some (r1, r2, r3, r4, r5, r6, r7, r8) := H
  have A4 := Aside0.mk A40
  clear A40
  by_cases c5 : t315 = true
  · subst c5
    have H1 : (capnpref25_Write.l0 k l1 a2 ([] : List Int) 0 a0_0 a0_1 l0_2 a0_3 a0_4 a0_5) = some (r1, r2, r3, r4, r5, r6, r7, r8) := by rw [if_pos rfl] at H; exact H
    clear H
    have H := H1
    clear H1
    have H' := Aside0.mk H
    clear H
    go_enter Tryd.func10, Tryd.ntmps10
    go_wp2_with (first | ((with_reducible refine gate_dst (N := 3) rfl ?_); refine box_event ?hg (N := 3) ?hd (cs := #[.int .i64 a0_0, .int .u8 a0_1, .slice A0_2 l0_2.length c0_2, .int .i64 a0_3, .int .i64 a0_4, .int .i64 a0_5]) (t := 25) ?hr ?_; (case hd => rfl); (case hg => rfl); (case hr => first | (go_simp; done) | (go_simp; rfl)); intro gb313 hg w6 hbox hb; have n0_ := Aside0.mk (Kd.V_below (Kd.V_elderB (by (with_reducible repeat (first | apply Kd.V_alloc | apply Kd.V_drewN | apply Kd.V_drew)); exact HO0_2.out) gb313 (Nat.le_of_eq hg.symm)) hb); have n1_ := Aside0.mk (below_step pB hb); have n2_ := Aside0.mk (hbox); have n3_ := Aside0.mk ((by rw [hg]; exact (below_size pB) : w.heap.size ≤ gb313)); have n4_ := Aside0.mk ((by rw [hg]; exact (below_size pB) : w.heap.size ≤ gb313)); clear HO0_2; clear HB; have HO0_2 := n0_; have HB := n1_; have BK313 := n2_; have GW313 := n3_; have GE313 := n4_; clear n0_ n1_ n2_ n3_ n4_; clear hb hbox hg) | ((with_reducible refine gate_dst (N := 6) rfl ?_); refine box_event ?hg (N := 6) ?hd (cs := #[.int .i64 0, .int .u8 0, .slice none 0 0, .int .i64 0, .int .i64 0, .int .i64 0]) (t := 25) ?hr ?_; (case hd => rfl); (case hg => rfl); (case hr => first | (go_simp; done) | (go_simp; rfl)); intro gb314 hg w7 hbox hb; have n0_ := Aside0.mk (Kd.V_below (Kd.V_elderB (by (with_reducible repeat (first | apply Kd.V_alloc | apply Kd.V_drewN | apply Kd.V_drew)); exact HO0_2.out) gb314 (Nat.le_of_eq hg.symm)) hb); have n1_ := Aside0.mk (blk_below (g := gb313) (o := .cells #[.int .i64 a0_0, .int .u8 a0_1, .slice A0_2 l0_2.length c0_2, .int .i64 a0_3, .int .i64 a0_4, .int .i64 a0_5] 25 (0, 0)) (pK BK313) hb); have n2_ := Aside0.mk (below_step (by repeat (first | (with_reducible first | exact HB.out | apply below_alloc | apply pw_below_drewN | apply below_drew1 | refine below_set ?_ GE313.out) | exact HB.out)) hb); have n3_ := Aside0.mk (hbox); have n4_ := Aside0.mk ((by rw [hg]; exact (below_size (by repeat (first | (with_reducible first | exact HB.out | apply below_alloc | apply pw_below_drewN | apply below_drew1 | refine below_set ?_ GE313.out) | exact HB.out))) : w.heap.size ≤ gb314)); have n5_ := Aside0.mk ((by rw [hg]; exact (below_size (by repeat (first | (with_reducible first | exact HB.out | apply below_alloc | apply pw_below_drewN | apply below_drew1 | refine below_set ?_ GE313.out) | exact HB.out))) : w.heap.size ≤ gb314)); have n6_ := Aside0.mk ((by rw [hg]; exact Nat.ne_of_lt (blk_lt (g := gb313) (o := .cells #[.int .i64 a0_0, .int .u8 a0_1, .slice A0_2 l0_2.length c0_2, .int .i64 a0_3, .int .i64 a0_4, .int .i64 a0_5] 25 (0, 0)) (pK BK313)) : gb313 ≠ gb314)); have n7_ := Aside0.mk ((by rw [hg]; exact Nat.ne_of_gt (blk_lt (g := gb313) (o := .cells #[.int .i64 a0_0, .int .u8 a0_1, .slice A0_2 l0_2.length c0_2, .int .i64 a0_3, .int .i64 a0_4, .int .i64 a0_5] 25 (0, 0)) (pK BK313)) : gb314 ≠ gb313)); clear HO0_2; clear BK313; clear HB; have HO0_2 := n0_; have BK313 := n1_; have HB := n2_; have BK314 := n3_; have GW314 := n4_; have GE314 := n5_; have NB313_314 := n6_; have NB314_313 := n7_; clear n0_ n1_ n2_ n3_ n4_ n5_ n6_ n7_; clear hb hbox hg; have hnb8 := NB313_314.out; have hnc8 := NB314_313.out; have hcz9_0 : w7.cell? ⟨gb313, 0, none⟩ = some (.int .i64 a0_0) := (blk_cell BK313.out 0).trans rfl; have hcz9_1 : w7.cell? ⟨gb313, 1, none⟩ = some (.int .u8 a0_1) := (blk_cell BK313.out 1).trans rfl; have hcz9_2 : w7.cell? ⟨gb313, 2, none⟩ = some (.slice A0_2 l0_2.length c0_2) := (blk_cell BK313.out 2).trans rfl; have hcz9_3 : w7.cell? ⟨gb313, 3, none⟩ = some (.int .i64 a0_3) := (blk_cell BK313.out 3).trans rfl; have hcz9_4 : w7.cell? ⟨gb313, 4, none⟩ = some (.int .i64 a0_4) := (blk_cell BK313.out 4).trans rfl; have hcz9_5 : w7.cell? ⟨gb313, 5, none⟩ = some (.int .i64 a0_5) := (blk_cell BK313.out 5).trans rfl; have hfz9_0 := blk_frozen BK313.out 0; have hfz9_1 := blk_frozen BK313.out 1; have hfz9_2 := blk_frozen BK313.out 2; have hfz9_3 := blk_frozen BK313.out 3; have hfz9_4 := blk_frozen BK313.out 4; have hfz9_5 := blk_frozen BK313.out 5) | ((with_reducible refine gate_callee (f := 12) rfl ?_); refine goesL_ (some 12) rfl rfl Tryd.func12 (by kernel_rfl) rfl #[.agg #[.int .i64 a0_0, .int .u8 a0_1, .slice A0_2 l0_2.length c0_2, .int .i64 a0_3, .int .i64 a0_4, .int .i64 a0_5]] rfl pM ?_; (with_reducible refine (capnpref25_Valid.calls k a0_0 a0_1 _ _ l0_2 a0_3 a0_4 a0_5 true _ ?side1 ?side2 A4.out).mono ?_); (case side1 => repeat (first | exact (Kd.V_reads' HO0_2.out).2.2 | (with_reducible refine Kd.C_alloc ?_ _) | (with_reducible refine Kd.C_drewN ?_ _) | (with_reducible refine Kd.C_drew ?_))); (case side2 => exact (Kd.V_reads' HO0_2.out).2.1); rintro e w10 ⟨rfl, hb⟩; refine ⟨_, rfl, ?_⟩; have n0_ := Aside0.mk (Kd.V_below (by (with_reducible repeat (first | apply Kd.V_alloc | apply Kd.V_drewN | apply Kd.V_drew)); exact HO0_2.out) hb); have n1_ := Aside0.mk (blk_below (g := gb313) (o := .cells #[.int .i64 a0_0, .int .u8 a0_1, .slice A0_2 l0_2.length c0_2, .int .i64 a0_3, .int .i64 a0_4, .int .i64 a0_5] 25 (0, 0)) (pK BK313) hb); have n2_ := Aside0.mk (blk_below (g := gb314) (o := .cells #[.int .i64 0, .int .u8 0, .slice none 0 0, .int .i64 0, .int .i64 0, .int .i64 0] 25 (0, 0)) (pK BK314) hb); have n3_ := Aside0.mk (below_step (by repeat (first | (with_reducible first | exact HB.out | apply below_alloc | apply pw_below_drewN | apply below_drew1 | refine below_set ?_ GE313.out | refine below_set ?_ GE314.out) | exact HB.out)) hb); clear HO0_2; clear BK313; clear BK314; clear HB; have HO0_2 := n0_; have BK313 := n1_; have BK314 := n2_; have HB := n3_; clear n0_ n1_ n2_ n3_; (try clear hb); (try clear hb2); (try clear hk); (try clear hi)))
    go_loopg [9, 10] k (fun kq v9 v10 w' => ∃ (x9_1 : List Int) (x10_1 : Int) (x314000_1 : Int) (x314001_1 : Int) (x314002_1 : List Int) (x314003_1 : Int) (x314004_1 : Int) (x314005_1 : Int) (u314002 : Value), v10 = .int .i64 x10_1 ∧ Aside0 (capnpref25_Write.l0 kq l1 a2 x9_1 x10_1 x314000_1 x314001_1 x314002_1 x314003_1 x314004_1 x314005_1 = some (r1, r2, r3, r4, r5, r6, r7, r8)) ∧ Aside0 (kq ≤ k) ∧ Aside0 (Kd.R (Kd.int .u8) 5 w' w.heap.size (fun k_ => (w.heap.size ≤ k_)) v9 x9_1) ∧ Aside0 (Kd.V (Kd.int .u8) 5 w' w.heap.size (fun k_ => (P0_2_ k_ ∨ w.heap.size ≤ k_) ∧ some k_ ≠ (v9 : Value).ownBlock ∧ k_ ≠ gb313 ∧ k_ ≠ gb314) u314002 x314002_1) ∧ Aside0 (w'.heap[gb313]? = some (.cells #[.int .i64 x314000_1, .int .u8 x314001_1, u314002, .int .i64 x314003_1, .int .i64 x314004_1, .int .i64 x314005_1] 25 (0, 0))) ∧ Aside0 (w'.heap[gb314]? = some (.cells #[.int .i64 0, .int .u8 0, (.slice none 0 0), .int .i64 0, .int .i64 0, .int .i64 0] 25 (0, 0))) ∧ Aside0 (Below w.heap.size w w'))
    case atStart => exact ⟨(([] : List Int)), (0), (a0_0), (a0_1), (l0_2), (a0_3), (a0_4), (a0_5), (.slice A0_2 l0_2.length c0_2), (by first | rfl | (simp; done) | (simp [*]; done)), H', ⟨Nat.le_refl _⟩, ⟨by first | exact Kd.R_nil _ _ _ _ _ | exact Kd.N_nil _ _ _ _ _ | exact Kd.V_nil _ _ _ _ _ | exact Kd.Q_nil _ _ _ _ _ | exact Kd.S_nil _ _ _ _ _⟩, ⟨by (with_reducible repeat (first | apply Kd.V_alloc | apply Kd.V_drewN | apply Kd.V_drew)); exact Kd.V_mono HO0_2.out (fun _ hk => ⟨hk.1.1, ⟨(by simp [Value.ownBlock]), ⟨hk.1.2, hk.2⟩⟩⟩)⟩, ⟨pK BK313⟩, ⟨pK BK314⟩, ⟨by repeat (first | (with_reducible first | exact HB.out | apply below_alloc | apply pw_below_drewN | apply below_drew1 | refine below_set ?_ GE313.out | refine below_set ?_ GE314.out) | exact HB.out)⟩⟩
    case round =>
      clear H'
      try clear c1
      try clear p2
      try clear c5
      try clear c8
      try clear c10
      try clear hcz9_0
      try clear hcz9_1
      try clear hcz9_2
      try clear hcz9_3
      try clear hcz9_4
      try clear hcz9_5
      try clear hfz9_0
      try clear hfz9_1
      try clear hfz9_2
      try clear hfz9_3
      try clear hfz9_4
      try clear hfz9_5
      obtain ⟨x9_1, x10_1, x314000_1, x314001_1, x314002_1, x314003_1, x314004_1, x314005_1, u314002, rfl, HA, HK1, HO_9, HO_314002, BK313, BK314, HB⟩ := hrel
      cases gk with
      | zero => exact absurd HA.out (by simp [capnpref25_Write.l0])
      | succ k1 =>
        have H := HA.out
        clear HA
        simp only [capnpref25_Write.l0] at H
        by_cases c11 : x10_1 < (l1.length : Int)
        · rw [if_pos c11] at H
          have c11b0 : decide (x10_1 < (l1.length : Int)) = true := decide_eq_true c11
          clear c11
          by_cases c12 : x314005_1 = 0
          · rw [if_pos c12] at H
            have c12b0 : (x314005_1 == 0) = true := beq_iff_eq.mpr c12
            have c12b1 : (x314005_1 != 0) = false := bne_eq_false_iff_eq.mpr c12
            clear c12
            by_cases c13 : 0 ≤ x10_1
            · rw [if_pos c13] at H
              have c13b0 : decide (0 ≤ x10_1) = true := decide_eq_true c13
              clear c13
              obtain ⟨ji14, hji14⟩ : ∃ j_ : Int, (mx a2 0) = j_ := ⟨_, rfl⟩
              replace H : ((capnpref25_step.f k1 x314000_1 x314001_1 x314002_1 x314003_1 x314004_1 x314005_1 x9_1 (rd l1 x10_1) (mn (ji14) 1152921504606846976)).bind fun bt317 => (capnpref25_Write.l0 k1 l1 a2 bt317.2.2.2.2.2.2 (wrap64 (x10_1 + 1)) bt317.1 bt317.2.1 bt317.2.2.1 bt317.2.2.2.1 bt317.2.2.2.2.1 bt317.2.2.2.2.2.1)) = some (r1, r2, r3, r4, r5, r6, r7, r8) := by first | (rw [hji14] at H; exact H) | (simp only [hji14] at H ⊢; exact H)
              have hji14_ : (if a2 < 0 then 0 else a2) = ji14 := hji14
              obtain ⟨ji15, hji15⟩ : ∃ j_ : Int, (mn (ji14) 1152921504606846976) = j_ := ⟨_, rfl⟩
              replace H : ((capnpref25_step.f k1 x314000_1 x314001_1 x314002_1 x314003_1 x314004_1 x314005_1 x9_1 (rd l1 x10_1) (ji15)).bind fun bt317 => (capnpref25_Write.l0 k1 l1 a2 bt317.2.2.2.2.2.2 (wrap64 (x10_1 + 1)) bt317.1 bt317.2.1 bt317.2.2.1 bt317.2.2.2.1 bt317.2.2.2.2.1 bt317.2.2.2.2.2.1)) = some (r1, r2, r3, r4, r5, r6, r7, r8) := by first | (rw [hji15] at H; exact H) | (simp only [hji15] at H ⊢; exact H)
              have hji15_ : (if 1152921504606846976 < (ji14) then 1152921504606846976 else (ji14)) = ji15 := hji15
              replace H := Option.bind_eq_some_iff.mp H
              obtain ⟨⟨t317, t318, t319, t322, t323, t324, t325⟩, A160, H⟩ := H
              replace H : (capnpref25_Write.l0 k1 l1 a2 t325 (wrap64 (x10_1 + 1)) t317 t318 t319 t322 t323 t324) = some (r1, r2, r3, r4, r5, r6, r7, r8) := H
              have A16 := Aside0.mk A160
              clear A160
              have H' := Aside0.mk H
              clear H
              have hnb17 := NB313_314.out
              have hnc17 := NB314_313.out
              have hcz18_0 : wr.cell? ⟨gb313, 0, none⟩ = some (.int .i64 x314000_1) := (blk_cell BK313.out 0).trans rfl
              have hcz18_1 : wr.cell? ⟨gb313, 1, none⟩ = some (.int .u8 x314001_1) := (blk_cell BK313.out 1).trans rfl
              have hcz18_2 : wr.cell? ⟨gb313, 2, none⟩ = some (u314002) := (blk_cell BK313.out 2).trans rfl
              have hcz18_3 : wr.cell? ⟨gb313, 3, none⟩ = some (.int .i64 x314003_1) := (blk_cell BK313.out 3).trans rfl
              have hcz18_4 : wr.cell? ⟨gb313, 4, none⟩ = some (.int .i64 x314004_1) := (blk_cell BK313.out 4).trans rfl
              have hcz18_5 : wr.cell? ⟨gb313, 5, none⟩ = some (.int .i64 x314005_1) := (blk_cell BK313.out 5).trans rfl
              have hfz18_0 := blk_frozen BK313.out 0
              have hfz18_1 := blk_frozen BK313.out 1
              have hfz18_2 := blk_frozen BK313.out 2
              have hfz18_3 := blk_frozen BK313.out 3
              have hfz18_4 := blk_frozen BK313.out 4
              have hfz18_5 := blk_frozen BK313.out 5
              try go_wp2
              have n0_ := Aside0.mk (Kd.R_drew HO_9.out)
              have n1_ := Aside0.mk (Kd.V_drew HO_314002.out)
              have n2_ := Aside0.mk (blk_drew BK313.out)
              have n3_ := Aside0.mk (blk_drew BK314.out)
              have n4_ := Aside0.mk (below_drew1 HB.out)
              clear HO_9
              clear HO_314002
              clear BK313
              clear BK314
              clear HB
              have HO_9 := n0_
              have HO_314002 := n1_
              have BK313 := n2_
              have BK314 := n3_
              have HB := n4_
              clear n0_ n1_ n2_ n3_ n4_
              have p316 : 0 ≤ (x10_1 : Int) := of_decide_eq_true pA
              have q316 : x10_1 < (l1.length : Int) := of_decide_eq_true pA
              obtain ⟨ad316, e316, hx316_0⟩ := Kd.at_int HR1.out x10_1 p316 q316
              have hw316_0 := hx316_0
              cases e316
              replace hx316_0 := (HB.out.cell (World.block_lt_of_cell? w _ hx316_0)).trans hx316_0
              replace p316 := eq_true p316
              replace q316 := eq_true q316
              obtain ⟨Ao20, co20, eo20⟩ := Kd.V_slice HO_314002.out
              (first | subst eo20 | (injection eo20 with f1_ f2_ f3_; have f4_ := f1_.symm; have f5_ := f3_.symm; clear f1_ f2_ f3_; subst f4_; subst f5_))
              obtain ⟨Ao21, co21, eo21⟩ := Kd.R_slice HO_9.out
              (first | subst eo21 | (injection eo21 with f1_ f2_ f3_; have f4_ := f1_.symm; have f5_ := f3_.symm; clear f1_ f2_ f3_; subst f4_; subst f5_))
              refine start_ (n := 15) (S := fun w' => w'.cell? ⟨gb313, 0, none⟩ = some (.int .i64 x314000_1) ∧ w'.cell? ⟨gb313, 1, none⟩ = some (.int .u8 x314001_1) ∧ w'.cell? ⟨gb313, 2, none⟩ = some (.slice Ao20 x314002_1.length co20) ∧ w'.cell? ⟨gb313, 3, none⟩ = some (.int .i64 x314003_1) ∧ w'.cell? ⟨gb313, 4, none⟩ = some (.int .i64 x314004_1) ∧ w'.cell? ⟨gb313, 5, none⟩ = some (.int .i64 x314005_1) ∧ w'.cell? (ad316.add (x10_1).toNat) = some (.int .u8 (rd l1 x10_1))) (ds := [13]) #[false, false, false, false, false, false, false, false, false, false, false, false, false, false, false] (by kernel_rfl) rfl rfl ⟨(blk_cell BK313.out 0).trans rfl, (blk_cell BK313.out 1).trans rfl, (blk_cell BK313.out 2).trans rfl, (blk_cell BK313.out 3).trans rfl, (blk_cell BK313.out 4).trans rfl, (blk_cell BK313.out 5).trans rfl, ((HB.out.cell (World.block_lt_of_cell? w _ hw316_0)).trans hw316_0)⟩ (fun hHeld => ?_); refine with_tabW capnpref25_Write.tab7 capnpref25_Write.bits7 (fun HT_ HW_ => ?_)
              generalize wr.drew = w19 at HO_9 HO_314002 BK313 BK314 HB hx316_0 hHeld ⊢
              refine pure_ (i := 1) (N := some 28) (v := ?_) (a' := ?_) #[false, true, false, false, false, false, false, false, false, false, false, false, false, false, false] rfl rfl (any_of HT_.out (by kernel_rfl)) (fun _ _ _ h => h) (Or.inl ⟨by rfl, ?_⟩) ?_ ?_
              rotate_left
              · intro w'
                go_simp
                with_reducible rfl
              rotate_left
              · simp only [Act.put, List.setIfInBounds_toArray, List.set_cons_zero, List.set_cons_succ, i64_w, i32_w]
                rfl
              refine pure_ (i := 2) (N := some 29) (v := ?_) (a' := ?_) #[false, true, true, false, false, false, false, false, false, false, false, false, false, false, false] rfl rfl (any_of HT_.out (by kernel_rfl)) (fun _ _ _ h => h) (Or.inl ⟨by rfl, ?_⟩) ?_ ?_
              rotate_left
              · intro w'
                go_simp
                with_reducible rfl
              rotate_left
              · simp only [Act.put, List.setIfInBounds_toArray, List.set_cons_zero, List.set_cons_succ, i64_w, i32_w]
                rfl
              refine pure_ (i := 3) (N := some 30) (v := ?_) (a' := ?_) #[false, true, true, true, false, false, false, false, false, false, false, false, false, false, false] rfl rfl (any_of HT_.out (by kernel_rfl)) (fun _ _ _ h => h) (Or.inl ⟨by rfl, ?_⟩) ?_ ?_
              rotate_left
              · intro w'
                go_simp
                with_reducible rfl
              rotate_left
              · simp only [Act.put, List.setIfInBounds_toArray, List.set_cons_zero, List.set_cons_succ, i64_w, i32_w]
                rfl
              refine pure_ (i := 4) (N := some 31) (v := ?_) (a' := ?_) #[false, true, true, true, true, false, false, false, false, false, false, false, false, false, false] rfl rfl (any_of HT_.out (by kernel_rfl)) (fun _ _ _ h => h) (Or.inl ⟨by rfl, ?_⟩) ?_ ?_
              rotate_left
              · intro w'
                go_simp
                with_reducible rfl
              rotate_left
              · simp only [Act.put, List.setIfInBounds_toArray, List.set_cons_zero, List.set_cons_succ, i64_w, i32_w]
                rfl
              refine pure_ (i := 6) (N := some 33) (v := ?_) (a' := ?_) #[false, true, true, true, true, false, true, false, false, false, false, false, false, false, false] rfl rfl (any_of HT_.out (by kernel_rfl)) (fun _ _ _ h => h) (Or.inl ⟨by rfl, ?_⟩) ?_ ?_
              rotate_left
              · intro w'
                go_simp
                with_reducible rfl
              rotate_left
              · simp only [Act.put, List.setIfInBounds_toArray, List.set_cons_zero, List.set_cons_succ, i64_w, i32_w]
                rfl
              refine pure_ (i := 7) (N := some 34) (v := ?_) (a' := ?_) #[false, true, true, true, true, false, true, true, false, false, false, false, false, false, false] rfl rfl (any_of HT_.out (by kernel_rfl)) (fun _ _ _ h => h) (Or.inl ⟨by rfl, ?_⟩) ?_ ?_
              rotate_left
              · intro w'
                go_simp
                with_reducible rfl
              rotate_left
              · simp only [Act.put, List.setIfInBounds_toArray, List.set_cons_zero, List.set_cons_succ, i64_w, i32_w]
                rfl
              refine pure_ (i := 8) (N := some 35) (v := ?_) (a' := ?_) #[false, true, true, true, true, false, true, true, true, false, false, false, false, false, false] rfl rfl (any_of HT_.out (by kernel_rfl)) (fun _ _ _ h => h) (Or.inl ⟨by rfl, ?_⟩) ?_ ?_
              rotate_left
              · intro w'
                go_simp
                with_reducible rfl
              rotate_left
              · simp only [Act.put, List.setIfInBounds_toArray, List.set_cons_zero, List.set_cons_succ, i64_w, i32_w]
                rfl
              refine take_ (i := 0) (N := some 27) (v := ?_) (a' := ?_) #[true, true, true, true, true, false, true, true, true, false, false, false, false, false, false] rfl rfl (take_ofW HT_.out HW_.out (by kernel_rfl)) (fun _ _ _ h => h) (Or.inl ⟨by rfl, ?_⟩) hHeld ?_ ?_
              rotate_left
              · rintro w' ⟨s0, s1, s2, s3, s4, s5, s6⟩
                go_simp
                with_reducible rfl
              rotate_left
              · simp only [Act.put, List.setIfInBounds_toArray, List.set_cons_zero, List.set_cons_succ, i64_w, i32_w]
                rfl
              refine take_ (i := 5) (N := some 32) (v := ?_) (a' := ?_) #[true, true, true, true, true, true, true, true, true, false, false, false, false, false, false] rfl rfl (take_ofW HT_.out HW_.out (by kernel_rfl)) (fun _ _ _ h => h) (Or.inl ⟨by rfl, ?_⟩) hHeld ?_ ?_
              rotate_left
              · rintro w' ⟨s0, s1, s2, s3, s4, s5, s6⟩
                go_simp
                with_reducible rfl
              rotate_left
              · simp only [Act.put, List.setIfInBounds_toArray, List.set_cons_zero, List.set_cons_succ, i64_w, i32_w]
                rfl
              refine one_ (i := 9) (N := some 36) #[true, true, true, true, true, true, true, true, true, true, false, false, false, false, false] rfl rfl (one_of HT_.out (by kernel_rfl)) (by decide) (fun K hK => ?_)
              refine goes_ Tryd.func21 (by kernel_rfl) rfl #[.agg #[.int .i64 x314000_1, .int .u8 x314001_1, .slice Ao20 x314002_1.length co20, .int .i64 x314003_1, .int .i64 x314004_1, .int .i64 x314005_1], .slice Ao21 x9_1.length co21, .int .u8 (rd l1 x10_1), .int .i64 ji15] (by rfl) rfl rfl (by (try simp only [List.map_toArray, List.map_cons, List.map_nil]); first | done | (simp only [hji15]; rfl) | rfl | (simp only [List.length_drop, List.length_take]; rfl)) ?_
              with_reducible refine (capnpref25_step.calls k1 x314000_1 x314001_1 (fun k_ => ((P0_2_ k_ ∨ w.heap.size ≤ k_) ∧ (some k_ ≠ (.slice Ao21 x9_1.length co21 : Value).ownBlock ∧ (k_ ≠ gb313 ∧ k_ ≠ gb314)))) _ _ x314002_1 x314003_1 x314004_1 x314005_1 (fun k_ => some k_ = (.slice Ao21 x9_1.length co21 : Value).ownBlock) (.slice Ao21 x9_1.length co21) x9_1 (rd l1 x10_1) ji15 t317 t318 t319 t322 t323 t324 t325 w _ ?side1 ?side2 ?side3 A16.out).mono ?_
              (case side1 => repeat (first | (with_reducible first | exact HB.out | apply below_alloc | apply pw_below_drewN | apply below_drew1 | refine below_set ?_ GE313.out | refine below_set ?_ GE314.out) | exact HB.out))
              (case side2 => exact Kd.V_mono (HO_314002.out) (fun k_ hk_ => ⟨hk_, hk_.2.1⟩))
              (case side3 => exact Kd.R_tight rfl HO_9.out)
              rintro e w22 ⟨v320, v326, rfl, ho0, ho1, hb, hkp⟩
              refine ⟨_, rfl, ?_⟩
              have n0_ := Aside0.mk (Kd.V_mono (ok' := fun k_ => (P0_2_ k_ ∨ w.heap.size ≤ k_) ∧ k_ ≠ gb313 ∧ k_ ≠ gb314 ∧ some k_ ≠ (v326 : Value).ownBlock) (Kd.V_keptB (HO_314002.out) hkp (fun k_ hk_ hs_ => (hk_.2.1) hs_)) (fun k_ hk_ => ⟨hk_.1.1, hk_.1.2.2.1, hk_.1.2.2.2, fun e_ => Or.elim (ho1.1 k_ e_.symm) (fun hs_ => hk_.2.1 hs_) (fun hn_ => Nat.not_le.2 hk_.2.2 hn_)⟩))
              have n1_ := Aside0.mk (blk_kept (pK BK313) hkp (fun hs_ => (fun e_ => (Kd.R_ne HO_9.out BK313.out (by decide)) e_) hs_))
              have n2_ := Aside0.mk (blk_kept (pK BK314) hkp (fun hs_ => (fun e_ => (Kd.R_ne HO_9.out BK314.out (by decide)) e_) hs_))
              have n3_ := Aside0.mk (Kd.V_mono (ok' := fun k_ => (P0_2_ k_ ∨ w.heap.size ≤ k_) ∧ some k_ ≠ (v326 : Value).ownBlock ∧ k_ ≠ gb313 ∧ k_ ≠ gb314) ho0 (fun k_ hk_ => ⟨Or.elim hk_.1 (fun hs_ => Or.elim hs_ (fun hs_ => (.inr ((HO_9.out.1 k_ (hs_).symm)))) (fun hs_ => hs_.1)) (fun hn_ => (.inr (Nat.le_trans (below_size (by repeat (first | (with_reducible first | exact HB.out | apply below_alloc | apply pw_below_drewN | apply below_drew1 | refine below_set ?_ GE313.out | refine below_set ?_ GE314.out) | exact HB.out))) hn_))), hk_.2, Or.elim hk_.1 (fun hs_ => Or.elim hs_ (fun hs_ => fun e_ => (Kd.R_ne HO_9.out BK313.out (by decide)) (by rw [← e_]; exact hs_)) (fun hs_ => hs_.2.2.1)) (fun hn_ => (Kd.freshB (g := gb313) (o := .cells #[.int .i64 x314000_1, .int .u8 x314001_1, .slice Ao20 x314002_1.length co20, .int .i64 x314003_1, .int .i64 x314004_1, .int .i64 x314005_1] 25 (0, 0)) (pK BK313) k_ hn_)), Or.elim hk_.1 (fun hs_ => Or.elim hs_ (fun hs_ => fun e_ => (Kd.R_ne HO_9.out BK314.out (by decide)) (by rw [← e_]; exact hs_)) (fun hs_ => hs_.2.2.2)) (fun hn_ => (Kd.freshB (g := gb314) (o := .cells #[.int .i64 0, .int .u8 0, .slice none 0 0, .int .i64 0, .int .i64 0, .int .i64 0] 25 (0, 0)) (pK BK314) k_ hn_))⟩))
              have n4_ := Aside0.mk (Kd.R_mono (ok' := fun k_ => (w.heap.size ≤ k_)) ho1 (fun k_ hk_ => Or.elim hk_ (fun hs_ => (HO_9.out.1 k_ (hs_).symm)) (fun hn_ => (Nat.le_trans (below_size (by repeat (first | (with_reducible first | exact HB.out | apply below_alloc | apply pw_below_drewN | apply below_drew1 | refine below_set ?_ GE313.out | refine below_set ?_ GE314.out) | exact HB.out))) hn_))))
              have n5_ := Aside0.mk (hb)
              clear HO_314002
              clear BK313
              clear BK314
              clear HB
              clear HO_9
              have HO_314002 := n0_
              have BK313 := n1_
              have BK314 := n2_
              have HO321 := n3_
              have HO327 := n4_
              have HB := n5_
              clear n0_ n1_ n2_ n3_ n4_ n5_
              (try clear hb)
              (try clear hkp)
              (try clear ho0)
              (try clear ho1)
              obtain ⟨Ao25, co25, eo25⟩ := Kd.V_slice HO321.out
              (first | subst eo25 | (injection eo25 with f1_ f2_ f3_; have f4_ := f1_.symm; have f5_ := f3_.symm; clear f1_ f2_ f3_; subst f4_; subst f5_))
              refine hK.out _ _ ⟨(blk_cell BK313.out 0).trans rfl, (blk_cell BK313.out 1).trans rfl, (blk_cell BK313.out 2).trans rfl, (blk_cell BK313.out 3).trans rfl, (blk_cell BK313.out 4).trans rfl, (blk_cell BK313.out 5).trans rfl, ((HB.out.cell (World.block_lt_of_cell? w _ hw316_0)).trans hw316_0)⟩ (fun hHeld => ?_)
              clear hK K
              refine norm_ (a' := ?_) ?_ ?_
              rotate_left
              · show Act.put _ (some 36) _ = _
                simp only [Act.put, List.setIfInBounds_toArray, List.set_cons_zero, List.set_cons_succ, i64_w, i32_w]
                rfl
              refine pure_ (i := 10) (N := some 26) (v := ?_) (a' := ?_) #[true, true, true, true, true, true, true, true, true, true, true, false, false, false, false] rfl rfl (any_of HT_.out (by kernel_rfl)) (fun _ _ _ h => h) (Or.inl ⟨by rfl, ?_⟩) ?_ ?_
              rotate_left
              · intro w'
                go_simp
                with_reducible rfl
              rotate_left
              · simp only [Act.put, List.setIfInBounds_toArray, List.set_cons_zero, List.set_cons_succ, i64_w, i32_w]
                rfl
              refine pure_ (i := 11) (N := some 37) (v := ?_) (a' := ?_) #[true, true, true, true, true, true, true, true, true, true, true, true, false, false, false] rfl rfl (any_of HT_.out (by kernel_rfl)) (fun _ _ _ h => h) (Or.inl ⟨by rfl, ?_⟩) ?_ ?_
              rotate_left
              · intro w'
                go_simp
                with_reducible rfl
              rotate_left
              · simp only [Act.put, List.setIfInBounds_toArray, List.set_cons_zero, List.set_cons_succ, i64_w, i32_w]
                rfl
              refine pure_ (i := 12) (N := some 38) (v := ?_) (a' := ?_) #[true, true, true, true, true, true, true, true, true, true, true, true, true, false, false] rfl rfl (any_of HT_.out (by kernel_rfl)) (fun _ _ _ h => h) (Or.inl ⟨by rfl, ?_⟩) ?_ ?_
              rotate_left
              · intro w'
                go_simp
                with_reducible rfl
              rotate_left
              · simp only [Act.put, List.setIfInBounds_toArray, List.set_cons_zero, List.set_cons_succ, i64_w, i32_w]
                rfl
              refine last_ (i := 13) (N := none) #[true, true, true, true, true, true, true, true, true, true, true, true, true, true, false] rfl rfl (one_of HT_.out (by kernel_rfl)) (by decide) (fun K hK => ?_)
              have hs23 : w22.cell? ⟨gb313, 0, none⟩ = some (.int .i64 x314000_1) := (blk_cell BK313.out 0).trans rfl
              have hfs23 := blk_frozen BK313.out 0
              have hns23_1 := NB314_313.out
              have hms23_1 := NB313_314.out
              have hs24 : w22.cell? ⟨gb313, 1, none⟩ = some (.int .u8 x314001_1) := (blk_cell BK313.out 1).trans rfl
              have hfs24 := blk_frozen BK313.out 1
              have hns24_1 := NB314_313.out
              have hms24_1 := NB313_314.out
              have hs26 : w22.cell? ⟨gb313, 2, none⟩ = some (.slice Ao20 x314002_1.length co20) := (blk_cell BK313.out 2).trans rfl
              have hfs26 := blk_frozen BK313.out 2
              have hns26_1 := NB314_313.out
              have hms26_1 := NB313_314.out
              have hs27 : w22.cell? ⟨gb313, 3, none⟩ = some (.int .i64 x314003_1) := (blk_cell BK313.out 3).trans rfl
              have hfs27 := blk_frozen BK313.out 3
              have hns27_1 := NB314_313.out
              have hms27_1 := NB313_314.out
              have hs28 : w22.cell? ⟨gb313, 4, none⟩ = some (.int .i64 x314004_1) := (blk_cell BK313.out 4).trans rfl
              have hfs28 := blk_frozen BK313.out 4
              have hns28_1 := NB314_313.out
              have hms28_1 := NB313_314.out
              have hs29 : w22.cell? ⟨gb313, 5, none⟩ = some (.int .i64 x314005_1) := (blk_cell BK313.out 5).trans rfl
              have hfs29 := blk_frozen BK313.out 5
              have hns29_1 := NB314_313.out
              have hms29_1 := NB313_314.out
              refine skip_ (w1 := ?_) (by rfl) rfl ?_ ?_
              rotate_left
              · go_simp
                rfl
              refine hK.out _ _ ?_
              clear hK K
              refine pure_ (i := 14) (N := some 9) (v := ?_) (a' := ?_) #[true, true, true, true, true, true, true, true, true, true, true, true, true, true, true] rfl rfl (any_of HT_.out (by kernel_rfl)) (fun _ _ _ h => h) (Or.inl ⟨by rfl, ?_⟩) ?_ ?_
              rotate_left
              · intro w'
                go_simp
                with_reducible rfl
              rotate_left
              · simp only [Act.put, List.setIfInBounds_toArray, List.set_cons_zero, List.set_cons_succ, i64_w, i32_w]
                rfl
              refine done_ (done_of HT_.out (by kernel_rfl)) ?_
              try go_wp2
              (first | go_roundg k1 | ((try subst hji14); (try subst hji15); go_roundg k1))
              case measure => have := HK1.out; omega
              case rel => exact ⟨(t325), (wrap64 (x10_1 + 1)), (t317), (t318), (t319), (t322), (t323), (t324), (.slice Ao25 t319.length co25), (by first | rfl | (simp; done) | (simp [*]; done)), H', ⟨by have := HK1.out; omega⟩, ⟨by (with_reducible repeat (first | apply Kd.R_alloc | apply Kd.R_drewN | apply Kd.R_drew)); exact Kd.R_mono (Kd.R_far (p := ⟨gb313, 5, none⟩) (Kd.R_far (p := ⟨gb313, 4, none⟩) (Kd.R_far (p := ⟨gb313, 3, none⟩) (Kd.R_far (p := ⟨gb313, 2, none⟩) (Kd.R_far (p := ⟨gb313, 1, none⟩) (Kd.R_far (p := ⟨gb313, 0, none⟩) (Kd.R_types HO327.out BK313.out (by decide)) (fun _ hk => hk.2) (.int .i64 t317)) (fun _ hk => hk.2) (.int .u8 t318)) (fun _ hk => hk.2) (.slice Ao25 t319.length co25)) (fun _ hk => hk.2) (.int .i64 t322)) (fun _ hk => hk.2) (.int .i64 t323)) (fun _ hk => hk.2) (.int .i64 t324)) (fun _ hk => hk.1)⟩, ⟨by (with_reducible repeat (first | apply Kd.V_alloc | apply Kd.V_drewN | apply Kd.V_drew)); exact Kd.V_mono (Kd.V_far (p := ⟨gb313, 5, none⟩) (Kd.V_far (p := ⟨gb313, 4, none⟩) (Kd.V_far (p := ⟨gb313, 3, none⟩) (Kd.V_far (p := ⟨gb313, 2, none⟩) (Kd.V_far (p := ⟨gb313, 1, none⟩) (Kd.V_far (p := ⟨gb313, 0, none⟩) (Kd.V_mono HO321.out (fun k_ hk => (⟨hk, hk.2.2.1⟩ : _ ∧ k_ ≠ gb313))) (fun _ hk => hk.2) (.int .i64 t317)) (fun _ hk => hk.2) (.int .u8 t318)) (fun _ hk => hk.2) (.slice Ao25 t319.length co25)) (fun _ hk => hk.2) (.int .i64 t322)) (fun _ hk => hk.2) (.int .i64 t323)) (fun _ hk => hk.2) (.int .i64 t324)) (fun _ hk => ⟨hk.1.1, ⟨hk.1.2.1, ⟨hk.1.2.2.1, hk.1.2.2.2⟩⟩⟩)⟩, ⟨by (with_reducible repeat (first | refine blk_drewN ?_ _ | refine blk_drew ?_ | refine blk_alloc ?_ _)); refine blk_put (cs := #[.int .i64 t317, .int .u8 t318, .slice Ao25 t319.length co25, .int .i64 t322, .int .i64 t323, .int .i64 x314005_1]) ?_ 5 _ rfl; (with_reducible repeat (first | refine blk_drewN ?_ _ | refine blk_drew ?_ | refine blk_alloc ?_ _)); refine blk_put (cs := #[.int .i64 t317, .int .u8 t318, .slice Ao25 t319.length co25, .int .i64 t322, .int .i64 x314004_1, .int .i64 x314005_1]) ?_ 4 _ rfl; (with_reducible repeat (first | refine blk_drewN ?_ _ | refine blk_drew ?_ | refine blk_alloc ?_ _)); refine blk_put (cs := #[.int .i64 t317, .int .u8 t318, .slice Ao25 t319.length co25, .int .i64 x314003_1, .int .i64 x314004_1, .int .i64 x314005_1]) ?_ 3 _ rfl; (with_reducible repeat (first | refine blk_drewN ?_ _ | refine blk_drew ?_ | refine blk_alloc ?_ _)); refine blk_put (cs := #[.int .i64 t317, .int .u8 t318, .slice Ao20 x314002_1.length co20, .int .i64 x314003_1, .int .i64 x314004_1, .int .i64 x314005_1]) ?_ 2 _ rfl; (with_reducible repeat (first | refine blk_drewN ?_ _ | refine blk_drew ?_ | refine blk_alloc ?_ _)); refine blk_put (cs := #[.int .i64 t317, .int .u8 x314001_1, .slice Ao20 x314002_1.length co20, .int .i64 x314003_1, .int .i64 x314004_1, .int .i64 x314005_1]) ?_ 1 _ rfl; (with_reducible repeat (first | refine blk_drewN ?_ _ | refine blk_drew ?_ | refine blk_alloc ?_ _)); refine blk_put (cs := #[.int .i64 x314000_1, .int .u8 x314001_1, .slice Ao20 x314002_1.length co20, .int .i64 x314003_1, .int .i64 x314004_1, .int .i64 x314005_1]) ?_ 0 _ rfl; (with_reducible repeat (first | refine blk_drewN ?_ _ | refine blk_drew ?_ | refine blk_alloc ?_ _)); exact BK313.out⟩, ⟨by (with_reducible repeat (first | refine blk_drewN ?_ _ | refine blk_drew ?_ | refine blk_alloc ?_ _)); refine blk_far ?_ NB314_313.out _; (with_reducible repeat (first | refine blk_drewN ?_ _ | refine blk_drew ?_ | refine blk_alloc ?_ _)); refine blk_far ?_ NB314_313.out _; (with_reducible repeat (first | refine blk_drewN ?_ _ | refine blk_drew ?_ | refine blk_alloc ?_ _)); refine blk_far ?_ NB314_313.out _; (with_reducible repeat (first | refine blk_drewN ?_ _ | refine blk_drew ?_ | refine blk_alloc ?_ _)); refine blk_far ?_ NB314_313.out _; (with_reducible repeat (first | refine blk_drewN ?_ _ | refine blk_drew ?_ | refine blk_alloc ?_ _)); refine blk_far ?_ NB314_313.out _; (with_reducible repeat (first | refine blk_drewN ?_ _ | refine blk_drew ?_ | refine blk_alloc ?_ _)); refine blk_far ?_ NB314_313.out _; (with_reducible repeat (first | refine blk_drewN ?_ _ | refine blk_drew ?_ | refine blk_alloc ?_ _)); exact BK314.out⟩, ⟨by repeat (first | (with_reducible first | exact HB.out | apply below_alloc | apply pw_below_drewN | apply below_drew1 | refine below_set ?_ GE313.out | refine below_set ?_ GE314.out) | exact HB.out)⟩⟩
            · rw [if_neg c13] at H
              exact absurd H (by simp)
          · rw [if_neg c12] at H
            have c12b0 : (x314005_1 == 0) = false := beq_eq_false_iff_ne.mpr c12
            have c12b1 : (x314005_1 != 0) = true := bne_iff_ne.mpr c12
            simp only [Option.some.injEq, Prod.mk.injEq] at H
            obtain ⟨rfl, rfl, rfl, rfl, rfl, rfl, rfl, rfl⟩ := H
            have hnb30 := NB313_314.out
            have hnc30 := NB314_313.out
            have hcz31_0 : wr.cell? ⟨gb313, 0, none⟩ = some (.int .i64 x314000_1) := (blk_cell BK313.out 0).trans rfl
            have hcz31_1 : wr.cell? ⟨gb313, 1, none⟩ = some (.int .u8 x314001_1) := (blk_cell BK313.out 1).trans rfl
            have hcz31_2 : wr.cell? ⟨gb313, 2, none⟩ = some (u314002) := (blk_cell BK313.out 2).trans rfl
            have hcz31_3 : wr.cell? ⟨gb313, 3, none⟩ = some (.int .i64 x314003_1) := (blk_cell BK313.out 3).trans rfl
            have hcz31_4 : wr.cell? ⟨gb313, 4, none⟩ = some (.int .i64 x314004_1) := (blk_cell BK313.out 4).trans rfl
            have hcz31_5 : wr.cell? ⟨gb313, 5, none⟩ = some (.int .i64 x314005_1) := (blk_cell BK313.out 5).trans rfl
            have hfz31_0 := blk_frozen BK313.out 0
            have hfz31_1 := blk_frozen BK313.out 1
            have hfz31_2 := blk_frozen BK313.out 2
            have hfz31_3 := blk_frozen BK313.out 3
            have hfz31_4 := blk_frozen BK313.out 4
            have hfz31_5 := blk_frozen BK313.out 5
            try go_wp2
            have n0_ := Aside0.mk (Kd.R_drew HO_9.out)
            have n1_ := Aside0.mk (Kd.V_drew HO_314002.out)
            have n2_ := Aside0.mk (blk_drew BK313.out)
            have n3_ := Aside0.mk (blk_drew BK314.out)
            have n4_ := Aside0.mk (below_drew1 HB.out)
            clear HO_9
            clear HO_314002
            clear BK313
            clear BK314
            clear HB
            have HO_9 := n0_
            have HO_314002 := n1_
            have BK313 := n2_
            have BK314 := n3_
            have HB := n4_
            clear n0_ n1_ n2_ n3_ n4_
            obtain ⟨Ao35, co35, eo35⟩ := Kd.V_slice HO_314002.out
            (first | subst eo35 | (injection eo35 with f1_ f2_ f3_; have f4_ := f1_.symm; have f5_ := f3_.symm; clear f1_ f2_ f3_; subst f4_; subst f5_))
            refine start_ (n := 7) (S := fun w' => w'.cell? ⟨gb313, 0, none⟩ = some (.int .i64 x314000_1) ∧ w'.cell? ⟨gb313, 1, none⟩ = some (.int .u8 x314001_1) ∧ w'.cell? ⟨gb313, 2, none⟩ = some (.slice Ao35 x314002_1.length co35) ∧ w'.cell? ⟨gb313, 3, none⟩ = some (.int .i64 x314003_1) ∧ w'.cell? ⟨gb313, 4, none⟩ = some (.int .i64 x314004_1) ∧ w'.cell? ⟨gb313, 5, none⟩ = some (.int .i64 x314005_1)) (ds := []) #[false, false, false, false, false, false, false] (by kernel_rfl) rfl rfl ⟨(blk_cell BK313.out 0).trans rfl, (blk_cell BK313.out 1).trans rfl, (blk_cell BK313.out 2).trans rfl, (blk_cell BK313.out 3).trans rfl, (blk_cell BK313.out 4).trans rfl, (blk_cell BK313.out 5).trans rfl⟩ (fun hHeld => ?_)
            generalize wr.drew = w32 at HO_9 HO_314002 BK313 BK314 HB hHeld ⊢
            refine pure_ (i := 1) (N := some 40) (v := ?_) (a' := ?_) #[false, true, false, false, false, false, false] rfl rfl (by kernel_rfl) (fun _ _ _ h => h) (Or.inl ⟨by rfl, ?_⟩) ?_ ?_
            rotate_left
            · intro w'
              go_simp
              with_reducible rfl
            rotate_left
            · simp only [Act.put, List.setIfInBounds_toArray, List.set_cons_zero, List.set_cons_succ, i64_w, i32_w]
              rfl
            refine pure_ (i := 2) (N := some 41) (v := ?_) (a' := ?_) #[false, true, true, false, false, false, false] rfl rfl (by kernel_rfl) (fun _ _ _ h => h) (Or.inl ⟨by rfl, ?_⟩) ?_ ?_
            rotate_left
            · intro w'
              go_simp
              with_reducible rfl
            rotate_left
            · simp only [Act.put, List.setIfInBounds_toArray, List.set_cons_zero, List.set_cons_succ, i64_w, i32_w]
              rfl
            refine take_ (i := 0) (N := some 39) (v := ?_) (a' := ?_) #[true, true, true, false, false, false, false] rfl rfl (by kernel_rfl) (fun _ _ _ h => h) (Or.inl ⟨by rfl, ?_⟩) hHeld ?_ ?_
            rotate_left
            · rintro w' ⟨s0, s1, s2, s3, s4, s5⟩
              go_simp
              with_reducible rfl
            rotate_left
            · simp only [Act.put, List.setIfInBounds_toArray, List.set_cons_zero, List.set_cons_succ, i64_w, i32_w]
              rfl
            refine take_ (i := 3) (N := some 42) (v := ?_) (a' := ?_) #[true, true, true, true, false, false, false] rfl rfl (by kernel_rfl) (fun _ _ _ h => h) (Or.inl ⟨by rfl, ?_⟩) hHeld ?_ ?_
            rotate_left
            · rintro w' ⟨s0, s1, s2, s3, s4, s5⟩
              go_simp
              with_reducible rfl
            rotate_left
            · simp only [Act.put, List.setIfInBounds_toArray, List.set_cons_zero, List.set_cons_succ, i64_w, i32_w]
              rfl
            refine one_ (i := 4) (N := none) #[true, true, true, true, true, false, false] rfl rfl (by kernel_rfl) (by decide) (fun K hK => ?_)
            have hs33 : w32.cell? ⟨gb314, 0, none⟩ = some (.int .i64 0) := (blk_cell BK314.out 0).trans rfl
            have hfs33 := blk_frozen BK314.out 0
            have hns33_0 := NB313_314.out
            have hms33_0 := NB314_313.out
            have hs34 : w32.cell? ⟨gb314, 1, none⟩ = some (.int .u8 0) := (blk_cell BK314.out 1).trans rfl
            have hfs34 := blk_frozen BK314.out 1
            have hns34_0 := NB313_314.out
            have hms34_0 := NB314_313.out
            have hs36 : w32.cell? ⟨gb314, 2, none⟩ = some (.slice none 0 0) := (blk_cell BK314.out 2).trans rfl
            have hfs36 := blk_frozen BK314.out 2
            have hns36_0 := NB313_314.out
            have hms36_0 := NB314_313.out
            have hs37 : w32.cell? ⟨gb314, 3, none⟩ = some (.int .i64 0) := (blk_cell BK314.out 3).trans rfl
            have hfs37 := blk_frozen BK314.out 3
            have hns37_0 := NB313_314.out
            have hms37_0 := NB314_313.out
            have hs38 : w32.cell? ⟨gb314, 4, none⟩ = some (.int .i64 0) := (blk_cell BK314.out 4).trans rfl
            have hfs38 := blk_frozen BK314.out 4
            have hns38_0 := NB313_314.out
            have hms38_0 := NB314_313.out
            have hs39 : w32.cell? ⟨gb314, 5, none⟩ = some (.int .i64 0) := (blk_cell BK314.out 5).trans rfl
            have hfs39 := blk_frozen BK314.out 5
            have hns39_0 := NB313_314.out
            have hms39_0 := NB314_313.out
            refine skip_ (w1 := ?_) (by rfl) rfl ?_ ?_
            rotate_left
            · go_simp
              rfl
            refine hK.out _ _ ⟨((cell_far (p := ⟨gb314, _, none⟩) NB313_314.out _).trans (((cell_far (p := ⟨gb314, _, none⟩) NB313_314.out _).trans (((cell_far (p := ⟨gb314, _, none⟩) NB313_314.out _).trans (((cell_far (p := ⟨gb314, _, none⟩) NB313_314.out _).trans (((cell_far (p := ⟨gb314, _, none⟩) NB313_314.out _).trans (((cell_far (p := ⟨gb314, _, none⟩) NB313_314.out _).trans (hHeld.1)))))))))))), ((cell_far (p := ⟨gb314, _, none⟩) NB313_314.out _).trans (((cell_far (p := ⟨gb314, _, none⟩) NB313_314.out _).trans (((cell_far (p := ⟨gb314, _, none⟩) NB313_314.out _).trans (((cell_far (p := ⟨gb314, _, none⟩) NB313_314.out _).trans (((cell_far (p := ⟨gb314, _, none⟩) NB313_314.out _).trans (((cell_far (p := ⟨gb314, _, none⟩) NB313_314.out _).trans (hHeld.2.1)))))))))))), ((cell_far (p := ⟨gb314, _, none⟩) NB313_314.out _).trans (((cell_far (p := ⟨gb314, _, none⟩) NB313_314.out _).trans (((cell_far (p := ⟨gb314, _, none⟩) NB313_314.out _).trans (((cell_far (p := ⟨gb314, _, none⟩) NB313_314.out _).trans (((cell_far (p := ⟨gb314, _, none⟩) NB313_314.out _).trans (((cell_far (p := ⟨gb314, _, none⟩) NB313_314.out _).trans (hHeld.2.2.1)))))))))))), ((cell_far (p := ⟨gb314, _, none⟩) NB313_314.out _).trans (((cell_far (p := ⟨gb314, _, none⟩) NB313_314.out _).trans (((cell_far (p := ⟨gb314, _, none⟩) NB313_314.out _).trans (((cell_far (p := ⟨gb314, _, none⟩) NB313_314.out _).trans (((cell_far (p := ⟨gb314, _, none⟩) NB313_314.out _).trans (((cell_far (p := ⟨gb314, _, none⟩) NB313_314.out _).trans (hHeld.2.2.2.1)))))))))))), ((cell_far (p := ⟨gb314, _, none⟩) NB313_314.out _).trans (((cell_far (p := ⟨gb314, _, none⟩) NB313_314.out _).trans (((cell_far (p := ⟨gb314, _, none⟩) NB313_314.out _).trans (((cell_far (p := ⟨gb314, _, none⟩) NB313_314.out _).trans (((cell_far (p := ⟨gb314, _, none⟩) NB313_314.out _).trans (((cell_far (p := ⟨gb314, _, none⟩) NB313_314.out _).trans (hHeld.2.2.2.2.1)))))))))))), ((cell_far (p := ⟨gb314, _, none⟩) NB313_314.out _).trans (((cell_far (p := ⟨gb314, _, none⟩) NB313_314.out _).trans (((cell_far (p := ⟨gb314, _, none⟩) NB313_314.out _).trans (((cell_far (p := ⟨gb314, _, none⟩) NB313_314.out _).trans (((cell_far (p := ⟨gb314, _, none⟩) NB313_314.out _).trans (((cell_far (p := ⟨gb314, _, none⟩) NB313_314.out _).trans (hHeld.2.2.2.2.2))))))))))))⟩ (fun hHeld => ?_)
            clear hK K
            refine pure_ (i := 5) (N := some 7) (v := ?_) (a' := ?_) #[true, true, true, true, true, true, false] rfl rfl (by kernel_rfl) (fun _ _ _ h => h) (Or.inl ⟨by rfl, ?_⟩) ?_ ?_
            rotate_left
            · intro w'
              go_simp
              with_reducible rfl
            rotate_left
            · simp only [Act.put, List.setIfInBounds_toArray, List.set_cons_zero, List.set_cons_succ, i64_w, i32_w]
              rfl
            refine pure_ (i := 6) (N := some 8) (v := ?_) (a' := ?_) #[true, true, true, true, true, true, true] rfl rfl (by kernel_rfl) (fun _ _ _ h => h) (Or.inl ⟨by rfl, ?_⟩) ?_ ?_
            rotate_left
            · intro w'
              go_simp
              with_reducible rfl
            rotate_left
            · simp only [Act.put, List.setIfInBounds_toArray, List.set_cons_zero, List.set_cons_succ, i64_w, i32_w]
              rfl
            refine done_ (by kernel_rfl) ?_
            try go_wp2
            refine bodyPost_ret (results_ctt rfl _ _ gb314 25 #[.int .i64 x314000_1, .int .u8 x314001_1, .slice Ao35 x314002_1.length co35, .int .i64 x314003_1, .int .i64 x314004_1, .int .i64 x314005_1] (0, 0) _ rfl (by (with_reducible repeat (first | refine blk_drewN ?_ _ | refine blk_drew ?_ | refine blk_alloc ?_ _)); refine blk_put (cs := #[.int .i64 x314000_1, .int .u8 x314001_1, .slice Ao35 x314002_1.length co35, .int .i64 x314003_1, .int .i64 x314004_1, .int .i64 0]) ?_ 5 _ rfl; (with_reducible repeat (first | refine blk_drewN ?_ _ | refine blk_drew ?_ | refine blk_alloc ?_ _)); refine blk_put (cs := #[.int .i64 x314000_1, .int .u8 x314001_1, .slice Ao35 x314002_1.length co35, .int .i64 x314003_1, .int .i64 0, .int .i64 0]) ?_ 4 _ rfl; (with_reducible repeat (first | refine blk_drewN ?_ _ | refine blk_drew ?_ | refine blk_alloc ?_ _)); refine blk_put (cs := #[.int .i64 x314000_1, .int .u8 x314001_1, .slice Ao35 x314002_1.length co35, .int .i64 0, .int .i64 0, .int .i64 0]) ?_ 3 _ rfl; (with_reducible repeat (first | refine blk_drewN ?_ _ | refine blk_drew ?_ | refine blk_alloc ?_ _)); refine blk_put (cs := #[.int .i64 x314000_1, .int .u8 x314001_1, .slice none 0 0, .int .i64 0, .int .i64 0, .int .i64 0]) ?_ 2 _ rfl; (with_reducible repeat (first | refine blk_drewN ?_ _ | refine blk_drew ?_ | refine blk_alloc ?_ _)); refine blk_put (cs := #[.int .i64 x314000_1, .int .u8 0, .slice none 0 0, .int .i64 0, .int .i64 0, .int .i64 0]) ?_ 1 _ rfl; (with_reducible repeat (first | refine blk_drewN ?_ _ | refine blk_drew ?_ | refine blk_alloc ?_ _)); refine blk_put (cs := #[.int .i64 0, .int .u8 0, .slice none 0 0, .int .i64 0, .int .i64 0, .int .i64 0]) ?_ 0 _ rfl; (with_reducible repeat (first | refine blk_drewN ?_ _ | refine blk_drew ?_ | refine blk_alloc ?_ _)); exact BK314.out) Tryd.underlying25 rfl (by kernel_rfl)) rfl ?_
            exact ⟨_, _, by first | rfl | (simp [errW_none, errW_some] <;> rfl) | (simp [*, errW_none, errW_some] <;> rfl), by (with_reducible repeat (first | apply Kd.V_alloc | apply Kd.V_drewN | apply Kd.V_drew)); exact Kd.V_mono (Kd.V_far (p := ⟨gb314, 5, none⟩) (Kd.V_far (p := ⟨gb314, 4, none⟩) (Kd.V_far (p := ⟨gb314, 3, none⟩) (Kd.V_far (p := ⟨gb314, 2, none⟩) (Kd.V_far (p := ⟨gb314, 1, none⟩) (Kd.V_far (p := ⟨gb314, 0, none⟩) (Kd.V_mono HO_314002.out (fun k_ hk => (⟨hk, hk.2.2.2⟩ : _ ∧ k_ ≠ gb314))) (fun _ hk => hk.2) (.int .i64 x314000_1)) (fun _ hk => hk.2) (.int .u8 x314001_1)) (fun _ hk => hk.2) (.slice Ao35 x314002_1.length co35)) (fun _ hk => hk.2) (.int .i64 x314003_1)) (fun _ hk => hk.2) (.int .i64 x314004_1)) (fun _ hk => hk.2) (.int .i64 x314005_1)) (fun _ hk => ⟨hk.1.1, hk.1.2.1⟩), by (with_reducible repeat (first | apply Kd.R_alloc | apply Kd.R_drewN | apply Kd.R_drew)); exact Kd.R_mono (Kd.R_far (p := ⟨gb314, 5, none⟩) (Kd.R_far (p := ⟨gb314, 4, none⟩) (Kd.R_far (p := ⟨gb314, 3, none⟩) (Kd.R_far (p := ⟨gb314, 2, none⟩) (Kd.R_far (p := ⟨gb314, 1, none⟩) (Kd.R_far (p := ⟨gb314, 0, none⟩) (Kd.R_types HO_9.out BK314.out (by decide)) (fun _ hk => hk.2) (.int .i64 x314000_1)) (fun _ hk => hk.2) (.int .u8 x314001_1)) (fun _ hk => hk.2) (.slice Ao35 x314002_1.length co35)) (fun _ hk => hk.2) (.int .i64 x314003_1)) (fun _ hk => hk.2) (.int .i64 x314004_1)) (fun _ hk => hk.2) (.int .i64 x314005_1)) (fun _ hk => hk.1), by repeat (first | (with_reducible first | exact HB.out | apply below_alloc | apply pw_below_drewN | apply below_drew1 | refine below_set ?_ GE313.out | refine below_set ?_ GE314.out) | exact HB.out)⟩
        · rw [if_neg c11] at H
          have c11b0 : decide (x10_1 < (l1.length : Int)) = false := decide_eq_false c11
          clear c11
          simp only [Option.some.injEq, Prod.mk.injEq] at H
          obtain ⟨rfl, rfl, rfl, rfl, rfl, rfl, rfl, rfl⟩ := H
          try go_wp2
          have n0_ := Aside0.mk (Kd.R_drew HO_9.out)
          have n1_ := Aside0.mk (Kd.V_drew HO_314002.out)
          have n2_ := Aside0.mk (blk_drew BK313.out)
          have n3_ := Aside0.mk (blk_drew BK314.out)
          have n4_ := Aside0.mk (below_drew1 HB.out)
          clear HO_9
          clear HO_314002
          clear BK313
          clear BK314
          clear HB
          have HO_9 := n0_
          have HO_314002 := n1_
          have BK313 := n2_
          have BK314 := n3_
          have HB := n4_
          clear n0_ n1_ n2_ n3_ n4_
          obtain ⟨Ao43, co43, eo43⟩ := Kd.V_slice HO_314002.out
          (first | subst eo43 | (injection eo43 with f1_ f2_ f3_; have f4_ := f1_.symm; have f5_ := f3_.symm; clear f1_ f2_ f3_; subst f4_; subst f5_))
          refine start_ (n := 7) (S := fun w' => w'.cell? ⟨gb313, 0, none⟩ = some (.int .i64 x314000_1) ∧ w'.cell? ⟨gb313, 1, none⟩ = some (.int .u8 x314001_1) ∧ w'.cell? ⟨gb313, 2, none⟩ = some (.slice Ao43 x314002_1.length co43) ∧ w'.cell? ⟨gb313, 3, none⟩ = some (.int .i64 x314003_1) ∧ w'.cell? ⟨gb313, 4, none⟩ = some (.int .i64 x314004_1) ∧ w'.cell? ⟨gb313, 5, none⟩ = some (.int .i64 x314005_1)) (ds := []) #[false, false, false, false, false, false, false] (by kernel_rfl) rfl rfl ⟨(blk_cell BK313.out 0).trans rfl, (blk_cell BK313.out 1).trans rfl, (blk_cell BK313.out 2).trans rfl, (blk_cell BK313.out 3).trans rfl, (blk_cell BK313.out 4).trans rfl, (blk_cell BK313.out 5).trans rfl⟩ (fun hHeld => ?_)
          generalize wr.drew = w40 at HO_9 HO_314002 BK313 BK314 HB hHeld ⊢
          refine pure_ (i := 1) (N := some 40) (v := ?_) (a' := ?_) #[false, true, false, false, false, false, false] rfl rfl (by kernel_rfl) (fun _ _ _ h => h) (Or.inl ⟨by rfl, ?_⟩) ?_ ?_
          rotate_left
          · intro w'
            go_simp
            with_reducible rfl
          rotate_left
          · simp only [Act.put, List.setIfInBounds_toArray, List.set_cons_zero, List.set_cons_succ, i64_w, i32_w]
            rfl
          refine pure_ (i := 2) (N := some 41) (v := ?_) (a' := ?_) #[false, true, true, false, false, false, false] rfl rfl (by kernel_rfl) (fun _ _ _ h => h) (Or.inl ⟨by rfl, ?_⟩) ?_ ?_
          rotate_left
          · intro w'
            go_simp
            with_reducible rfl
          rotate_left
          · simp only [Act.put, List.setIfInBounds_toArray, List.set_cons_zero, List.set_cons_succ, i64_w, i32_w]
            rfl
          refine take_ (i := 0) (N := some 39) (v := ?_) (a' := ?_) #[true, true, true, false, false, false, false] rfl rfl (by kernel_rfl) (fun _ _ _ h => h) (Or.inl ⟨by rfl, ?_⟩) hHeld ?_ ?_
          rotate_left
          · rintro w' ⟨s0, s1, s2, s3, s4, s5⟩
            go_simp
            with_reducible rfl
          rotate_left
          · simp only [Act.put, List.setIfInBounds_toArray, List.set_cons_zero, List.set_cons_succ, i64_w, i32_w]
            rfl
          refine take_ (i := 3) (N := some 42) (v := ?_) (a' := ?_) #[true, true, true, true, false, false, false] rfl rfl (by kernel_rfl) (fun _ _ _ h => h) (Or.inl ⟨by rfl, ?_⟩) hHeld ?_ ?_
          rotate_left
          · rintro w' ⟨s0, s1, s2, s3, s4, s5⟩
            go_simp
            with_reducible rfl
          rotate_left
          · simp only [Act.put, List.setIfInBounds_toArray, List.set_cons_zero, List.set_cons_succ, i64_w, i32_w]
            rfl
          refine one_ (i := 4) (N := none) #[true, true, true, true, true, false, false] rfl rfl (by kernel_rfl) (by decide) (fun K hK => ?_)
          have hs41 : w40.cell? ⟨gb314, 0, none⟩ = some (.int .i64 0) := (blk_cell BK314.out 0).trans rfl
          have hfs41 := blk_frozen BK314.out 0
          have hns41_0 := NB313_314.out
          have hms41_0 := NB314_313.out
          have hs42 : w40.cell? ⟨gb314, 1, none⟩ = some (.int .u8 0) := (blk_cell BK314.out 1).trans rfl
          have hfs42 := blk_frozen BK314.out 1
          have hns42_0 := NB313_314.out
          have hms42_0 := NB314_313.out
          have hs44 : w40.cell? ⟨gb314, 2, none⟩ = some (.slice none 0 0) := (blk_cell BK314.out 2).trans rfl
          have hfs44 := blk_frozen BK314.out 2
          have hns44_0 := NB313_314.out
          have hms44_0 := NB314_313.out
          have hs45 : w40.cell? ⟨gb314, 3, none⟩ = some (.int .i64 0) := (blk_cell BK314.out 3).trans rfl
          have hfs45 := blk_frozen BK314.out 3
          have hns45_0 := NB313_314.out
          have hms45_0 := NB314_313.out
          have hs46 : w40.cell? ⟨gb314, 4, none⟩ = some (.int .i64 0) := (blk_cell BK314.out 4).trans rfl
          have hfs46 := blk_frozen BK314.out 4
          have hns46_0 := NB313_314.out
          have hms46_0 := NB314_313.out
          have hs47 : w40.cell? ⟨gb314, 5, none⟩ = some (.int .i64 0) := (blk_cell BK314.out 5).trans rfl
          have hfs47 := blk_frozen BK314.out 5
          have hns47_0 := NB313_314.out
          have hms47_0 := NB314_313.out
          refine skip_ (w1 := ?_) (by rfl) rfl ?_ ?_
          rotate_left
          · go_simp
            rfl
          refine hK.out _ _ ⟨((cell_far (p := ⟨gb314, _, none⟩) NB313_314.out _).trans (((cell_far (p := ⟨gb314, _, none⟩) NB313_314.out _).trans (((cell_far (p := ⟨gb314, _, none⟩) NB313_314.out _).trans (((cell_far (p := ⟨gb314, _, none⟩) NB313_314.out _).trans (((cell_far (p := ⟨gb314, _, none⟩) NB313_314.out _).trans (((cell_far (p := ⟨gb314, _, none⟩) NB313_314.out _).trans (hHeld.1)))))))))))), ((cell_far (p := ⟨gb314, _, none⟩) NB313_314.out _).trans (((cell_far (p := ⟨gb314, _, none⟩) NB313_314.out _).trans (((cell_far (p := ⟨gb314, _, none⟩) NB313_314.out _).trans (((cell_far (p := ⟨gb314, _, none⟩) NB313_314.out _).trans (((cell_far (p := ⟨gb314, _, none⟩) NB313_314.out _).trans (((cell_far (p := ⟨gb314, _, none⟩) NB313_314.out _).trans (hHeld.2.1)))))))))))), ((cell_far (p := ⟨gb314, _, none⟩) NB313_314.out _).trans (((cell_far (p := ⟨gb314, _, none⟩) NB313_314.out _).trans (((cell_far (p := ⟨gb314, _, none⟩) NB313_314.out _).trans (((cell_far (p := ⟨gb314, _, none⟩) NB313_314.out _).trans (((cell_far (p := ⟨gb314, _, none⟩) NB313_314.out _).trans (((cell_far (p := ⟨gb314, _, none⟩) NB313_314.out _).trans (hHeld.2.2.1)))))))))))), ((cell_far (p := ⟨gb314, _, none⟩) NB313_314.out _).trans (((cell_far (p := ⟨gb314, _, none⟩) NB313_314.out _).trans (((cell_far (p := ⟨gb314, _, none⟩) NB313_314.out _).trans (((cell_far (p := ⟨gb314, _, none⟩) NB313_314.out _).trans (((cell_far (p := ⟨gb314, _, none⟩) NB313_314.out _).trans (((cell_far (p := ⟨gb314, _, none⟩) NB313_314.out _).trans (hHeld.2.2.2.1)))))))))))), ((cell_far (p := ⟨gb314, _, none⟩) NB313_314.out _).trans (((cell_far (p := ⟨gb314, _, none⟩) NB313_314.out _).trans (((cell_far (p := ⟨gb314, _, none⟩) NB313_314.out _).trans (((cell_far (p := ⟨gb314, _, none⟩) NB313_314.out _).trans (((cell_far (p := ⟨gb314, _, none⟩) NB313_314.out _).trans (((cell_far (p := ⟨gb314, _, none⟩) NB313_314.out _).trans (hHeld.2.2.2.2.1)))))))))))), ((cell_far (p := ⟨gb314, _, none⟩) NB313_314.out _).trans (((cell_far (p := ⟨gb314, _, none⟩) NB313_314.out _).trans (((cell_far (p := ⟨gb314, _, none⟩) NB313_314.out _).trans (((cell_far (p := ⟨gb314, _, none⟩) NB313_314.out _).trans (((cell_far (p := ⟨gb314, _, none⟩) NB313_314.out _).trans (((cell_far (p := ⟨gb314, _, none⟩) NB313_314.out _).trans (hHeld.2.2.2.2.2))))))))))))⟩ (fun hHeld => ?_)
          clear hK K
          refine pure_ (i := 5) (N := some 7) (v := ?_) (a' := ?_) #[true, true, true, true, true, true, false] rfl rfl (by kernel_rfl) (fun _ _ _ h => h) (Or.inl ⟨by rfl, ?_⟩) ?_ ?_
          rotate_left
          · intro w'
            go_simp
            with_reducible rfl
          rotate_left
          · simp only [Act.put, List.setIfInBounds_toArray, List.set_cons_zero, List.set_cons_succ, i64_w, i32_w]
            rfl
          refine pure_ (i := 6) (N := some 8) (v := ?_) (a' := ?_) #[true, true, true, true, true, true, true] rfl rfl (by kernel_rfl) (fun _ _ _ h => h) (Or.inl ⟨by rfl, ?_⟩) ?_ ?_
          rotate_left
          · intro w'
            go_simp
            with_reducible rfl
          rotate_left
          · simp only [Act.put, List.setIfInBounds_toArray, List.set_cons_zero, List.set_cons_succ, i64_w, i32_w]
            rfl
          refine done_ (by kernel_rfl) ?_
          try go_wp2
          refine bodyPost_ret (results_ctt rfl _ _ gb314 25 #[.int .i64 x314000_1, .int .u8 x314001_1, .slice Ao43 x314002_1.length co43, .int .i64 x314003_1, .int .i64 x314004_1, .int .i64 x314005_1] (0, 0) _ rfl (by (with_reducible repeat (first | refine blk_drewN ?_ _ | refine blk_drew ?_ | refine blk_alloc ?_ _)); refine blk_put (cs := #[.int .i64 x314000_1, .int .u8 x314001_1, .slice Ao43 x314002_1.length co43, .int .i64 x314003_1, .int .i64 x314004_1, .int .i64 0]) ?_ 5 _ rfl; (with_reducible repeat (first | refine blk_drewN ?_ _ | refine blk_drew ?_ | refine blk_alloc ?_ _)); refine blk_put (cs := #[.int .i64 x314000_1, .int .u8 x314001_1, .slice Ao43 x314002_1.length co43, .int .i64 x314003_1, .int .i64 0, .int .i64 0]) ?_ 4 _ rfl; (with_reducible repeat (first | refine blk_drewN ?_ _ | refine blk_drew ?_ | refine blk_alloc ?_ _)); refine blk_put (cs := #[.int .i64 x314000_1, .int .u8 x314001_1, .slice Ao43 x314002_1.length co43, .int .i64 0, .int .i64 0, .int .i64 0]) ?_ 3 _ rfl; (with_reducible repeat (first | refine blk_drewN ?_ _ | refine blk_drew ?_ | refine blk_alloc ?_ _)); refine blk_put (cs := #[.int .i64 x314000_1, .int .u8 x314001_1, .slice none 0 0, .int .i64 0, .int .i64 0, .int .i64 0]) ?_ 2 _ rfl; (with_reducible repeat (first | refine blk_drewN ?_ _ | refine blk_drew ?_ | refine blk_alloc ?_ _)); refine blk_put (cs := #[.int .i64 x314000_1, .int .u8 0, .slice none 0 0, .int .i64 0, .int .i64 0, .int .i64 0]) ?_ 1 _ rfl; (with_reducible repeat (first | refine blk_drewN ?_ _ | refine blk_drew ?_ | refine blk_alloc ?_ _)); refine blk_put (cs := #[.int .i64 0, .int .u8 0, .slice none 0 0, .int .i64 0, .int .i64 0, .int .i64 0]) ?_ 0 _ rfl; (with_reducible repeat (first | refine blk_drewN ?_ _ | refine blk_drew ?_ | refine blk_alloc ?_ _)); exact BK314.out) Tryd.underlying25 rfl (by kernel_rfl)) rfl ?_
          exact ⟨_, _, by first | rfl | (simp [errW_none, errW_some] <;> rfl) | (simp [*, errW_none, errW_some] <;> rfl), by (with_reducible repeat (first | apply Kd.V_alloc | apply Kd.V_drewN | apply Kd.V_drew)); exact Kd.V_mono (Kd.V_far (p := ⟨gb314, 5, none⟩) (Kd.V_far (p := ⟨gb314, 4, none⟩) (Kd.V_far (p := ⟨gb314, 3, none⟩) (Kd.V_far (p := ⟨gb314, 2, none⟩) (Kd.V_far (p := ⟨gb314, 1, none⟩) (Kd.V_far (p := ⟨gb314, 0, none⟩) (Kd.V_mono HO_314002.out (fun k_ hk => (⟨hk, hk.2.2.2⟩ : _ ∧ k_ ≠ gb314))) (fun _ hk => hk.2) (.int .i64 x314000_1)) (fun _ hk => hk.2) (.int .u8 x314001_1)) (fun _ hk => hk.2) (.slice Ao43 x314002_1.length co43)) (fun _ hk => hk.2) (.int .i64 x314003_1)) (fun _ hk => hk.2) (.int .i64 x314004_1)) (fun _ hk => hk.2) (.int .i64 x314005_1)) (fun _ hk => ⟨hk.1.1, hk.1.2.1⟩), by (with_reducible repeat (first | apply Kd.R_alloc | apply Kd.R_drewN | apply Kd.R_drew)); exact Kd.R_mono (Kd.R_far (p := ⟨gb314, 5, none⟩) (Kd.R_far (p := ⟨gb314, 4, none⟩) (Kd.R_far (p := ⟨gb314, 3, none⟩) (Kd.R_far (p := ⟨gb314, 2, none⟩) (Kd.R_far (p := ⟨gb314, 1, none⟩) (Kd.R_far (p := ⟨gb314, 0, none⟩) (Kd.R_types HO_9.out BK314.out (by decide)) (fun _ hk => hk.2) (.int .i64 x314000_1)) (fun _ hk => hk.2) (.int .u8 x314001_1)) (fun _ hk => hk.2) (.slice Ao43 x314002_1.length co43)) (fun _ hk => hk.2) (.int .i64 x314003_1)) (fun _ hk => hk.2) (.int .i64 x314004_1)) (fun _ hk => hk.2) (.int .i64 x314005_1)) (fun _ hk => hk.1), by repeat (first | (with_reducible first | exact HB.out | apply below_alloc | apply pw_below_drewN | apply below_drew1 | refine below_set ?_ GE313.out | refine below_set ?_ GE314.out) | exact HB.out)⟩
  · replace c5 := Bool.eq_false_iff.mpr c5
    subst c5
    have H1 : (some (a0_0, a0_1, l0_2, a0_3, a0_4, a0_5, ([] : List Int), 12)) = some (r1, r2, r3, r4, r5, r6, r7, r8) := by rw [if_neg (show ¬ (false = true) by decide)] at H; exact H
    clear H
    have H := H1
    clear H1
    simp only [Option.some.injEq, Prod.mk.injEq] at H
    obtain ⟨rfl, rfl, rfl, rfl, rfl, rfl, rfl, rfl⟩ := H
    go_enter Tryd.func10, Tryd.ntmps10
    go_wp2_with (first | ((with_reducible refine gate_dst (N := 3) rfl ?_); refine box_event ?hg (N := 3) ?hd (cs := #[.int .i64 a0_0, .int .u8 a0_1, .slice A0_2 l0_2.length c0_2, .int .i64 a0_3, .int .i64 a0_4, .int .i64 a0_5]) (t := 25) ?hr ?_; (case hd => rfl); (case hg => rfl); (case hr => first | (go_simp; done) | (go_simp; rfl)); intro gb313 hg w48 hbox hb; have n0_ := Aside0.mk (Kd.V_below (Kd.V_elderB (by (with_reducible repeat (first | apply Kd.V_alloc | apply Kd.V_drewN | apply Kd.V_drew)); exact HO0_2.out) gb313 (Nat.le_of_eq hg.symm)) hb); have n1_ := Aside0.mk (below_step pB hb); have n2_ := Aside0.mk (hbox); have n3_ := Aside0.mk ((by rw [hg]; exact (below_size pB) : w.heap.size ≤ gb313)); have n4_ := Aside0.mk ((by rw [hg]; exact (below_size pB) : w.heap.size ≤ gb313)); clear HO0_2; clear HB; have HO0_2 := n0_; have HB := n1_; have BK313 := n2_; have GW313 := n3_; have GE313 := n4_; clear n0_ n1_ n2_ n3_ n4_; clear hb hbox hg) | ((with_reducible refine gate_dst (N := 6) rfl ?_); refine box_event ?hg (N := 6) ?hd (cs := #[.int .i64 0, .int .u8 0, .slice none 0 0, .int .i64 0, .int .i64 0, .int .i64 0]) (t := 25) ?hr ?_; (case hd => rfl); (case hg => rfl); (case hr => first | (go_simp; done) | (go_simp; rfl)); intro gb314 hg w49 hbox hb; have n0_ := Aside0.mk (Kd.V_below (Kd.V_elderB (by (with_reducible repeat (first | apply Kd.V_alloc | apply Kd.V_drewN | apply Kd.V_drew)); exact HO0_2.out) gb314 (Nat.le_of_eq hg.symm)) hb); have n1_ := Aside0.mk (blk_below (g := gb313) (o := .cells #[.int .i64 a0_0, .int .u8 a0_1, .slice A0_2 l0_2.length c0_2, .int .i64 a0_3, .int .i64 a0_4, .int .i64 a0_5] 25 (0, 0)) (pK BK313) hb); have n2_ := Aside0.mk (below_step (by repeat (first | (with_reducible first | exact HB.out | apply below_alloc | apply pw_below_drewN | apply below_drew1 | refine below_set ?_ GE313.out) | exact HB.out)) hb); have n3_ := Aside0.mk (hbox); have n4_ := Aside0.mk ((by rw [hg]; exact (below_size (by repeat (first | (with_reducible first | exact HB.out | apply below_alloc | apply pw_below_drewN | apply below_drew1 | refine below_set ?_ GE313.out) | exact HB.out))) : w.heap.size ≤ gb314)); have n5_ := Aside0.mk ((by rw [hg]; exact (below_size (by repeat (first | (with_reducible first | exact HB.out | apply below_alloc | apply pw_below_drewN | apply below_drew1 | refine below_set ?_ GE313.out) | exact HB.out))) : w.heap.size ≤ gb314)); have n6_ := Aside0.mk ((by rw [hg]; exact Nat.ne_of_lt (blk_lt (g := gb313) (o := .cells #[.int .i64 a0_0, .int .u8 a0_1, .slice A0_2 l0_2.length c0_2, .int .i64 a0_3, .int .i64 a0_4, .int .i64 a0_5] 25 (0, 0)) (pK BK313)) : gb313 ≠ gb314)); have n7_ := Aside0.mk ((by rw [hg]; exact Nat.ne_of_gt (blk_lt (g := gb313) (o := .cells #[.int .i64 a0_0, .int .u8 a0_1, .slice A0_2 l0_2.length c0_2, .int .i64 a0_3, .int .i64 a0_4, .int .i64 a0_5] 25 (0, 0)) (pK BK313)) : gb314 ≠ gb313)); clear HO0_2; clear BK313; clear HB; have HO0_2 := n0_; have BK313 := n1_; have HB := n2_; have BK314 := n3_; have GW314 := n4_; have GE314 := n5_; have NB313_314 := n6_; have NB314_313 := n7_; clear n0_ n1_ n2_ n3_ n4_ n5_ n6_ n7_; clear hb hbox hg; have hnb50 := NB313_314.out; have hnc50 := NB314_313.out; have hcz51_0 : w49.cell? ⟨gb313, 0, none⟩ = some (.int .i64 a0_0) := (blk_cell BK313.out 0).trans rfl; have hcz51_1 : w49.cell? ⟨gb313, 1, none⟩ = some (.int .u8 a0_1) := (blk_cell BK313.out 1).trans rfl; have hcz51_2 : w49.cell? ⟨gb313, 2, none⟩ = some (.slice A0_2 l0_2.length c0_2) := (blk_cell BK313.out 2).trans rfl; have hcz51_3 : w49.cell? ⟨gb313, 3, none⟩ = some (.int .i64 a0_3) := (blk_cell BK313.out 3).trans rfl; have hcz51_4 : w49.cell? ⟨gb313, 4, none⟩ = some (.int .i64 a0_4) := (blk_cell BK313.out 4).trans rfl; have hcz51_5 : w49.cell? ⟨gb313, 5, none⟩ = some (.int .i64 a0_5) := (blk_cell BK313.out 5).trans rfl; have hfz51_0 := blk_frozen BK313.out 0; have hfz51_1 := blk_frozen BK313.out 1; have hfz51_2 := blk_frozen BK313.out 2; have hfz51_3 := blk_frozen BK313.out 3; have hfz51_4 := blk_frozen BK313.out 4; have hfz51_5 := blk_frozen BK313.out 5) | ((with_reducible refine gate_callee (f := 12) rfl ?_); refine goesL_ (some 12) rfl rfl Tryd.func12 (by kernel_rfl) rfl #[.agg #[.int .i64 a0_0, .int .u8 a0_1, .slice A0_2 l0_2.length c0_2, .int .i64 a0_3, .int .i64 a0_4, .int .i64 a0_5]] rfl pM ?_; (with_reducible refine (capnpref25_Valid.calls k a0_0 a0_1 _ _ l0_2 a0_3 a0_4 a0_5 false _ ?side1 ?side2 A4.out).mono ?_); (case side1 => repeat (first | exact (Kd.V_reads' HO0_2.out).2.2 | (with_reducible refine Kd.C_alloc ?_ _) | (with_reducible refine Kd.C_drewN ?_ _) | (with_reducible refine Kd.C_drew ?_))); (case side2 => exact (Kd.V_reads' HO0_2.out).2.1); rintro e w52 ⟨rfl, hb⟩; refine ⟨_, rfl, ?_⟩; have n0_ := Aside0.mk (Kd.V_below (by (with_reducible repeat (first | apply Kd.V_alloc | apply Kd.V_drewN | apply Kd.V_drew)); exact HO0_2.out) hb); have n1_ := Aside0.mk (blk_below (g := gb313) (o := .cells #[.int .i64 a0_0, .int .u8 a0_1, .slice A0_2 l0_2.length c0_2, .int .i64 a0_3, .int .i64 a0_4, .int .i64 a0_5] 25 (0, 0)) (pK BK313) hb); have n2_ := Aside0.mk (blk_below (g := gb314) (o := .cells #[.int .i64 0, .int .u8 0, .slice none 0 0, .int .i64 0, .int .i64 0, .int .i64 0] 25 (0, 0)) (pK BK314) hb); have n3_ := Aside0.mk (below_step (by repeat (first | (with_reducible first | exact HB.out | apply below_alloc | apply pw_below_drewN | apply below_drew1 | refine below_set ?_ GE313.out | refine below_set ?_ GE314.out) | exact HB.out)) hb); clear HO0_2; clear BK313; clear BK314; clear HB; have HO0_2 := n0_; have BK313 := n1_; have BK314 := n2_; have HB := n3_; clear n0_ n1_ n2_ n3_; (try clear hb); (try clear hb2); (try clear hk); (try clear hi); have hcz53_0 : w52.cell? ⟨gb313, 0, none⟩ = some (.int .i64 a0_0) := (blk_cell BK313.out 0).trans rfl; have hcz53_1 : w52.cell? ⟨gb313, 1, none⟩ = some (.int .u8 a0_1) := (blk_cell BK313.out 1).trans rfl; have hcz53_2 : w52.cell? ⟨gb313, 2, none⟩ = some (.slice A0_2 l0_2.length c0_2) := (blk_cell BK313.out 2).trans rfl; have hcz53_3 : w52.cell? ⟨gb313, 3, none⟩ = some (.int .i64 a0_3) := (blk_cell BK313.out 3).trans rfl; have hcz53_4 : w52.cell? ⟨gb313, 4, none⟩ = some (.int .i64 a0_4) := (blk_cell BK313.out 4).trans rfl; have hcz53_5 : w52.cell? ⟨gb313, 5, none⟩ = some (.int .i64 a0_5) := (blk_cell BK313.out 5).trans rfl; have hfz53_0 := blk_frozen BK313.out 0; have hfz53_1 := blk_frozen BK313.out 1; have hfz53_2 := blk_frozen BK313.out 2; have hfz53_3 := blk_frozen BK313.out 3; have hfz53_4 := blk_frozen BK313.out 4; have hfz53_5 := blk_frozen BK313.out 5; have hcz54_0 : w52.cell? ⟨gb314, 0, none⟩ = some (.int .i64 0) := (blk_cell BK314.out 0).trans rfl; have hcz54_1 : w52.cell? ⟨gb314, 1, none⟩ = some (.int .u8 0) := (blk_cell BK314.out 1).trans rfl; have hcz54_2 : w52.cell? ⟨gb314, 2, none⟩ = some (.slice none 0 0) := (blk_cell BK314.out 2).trans rfl; have hcz54_3 : w52.cell? ⟨gb314, 3, none⟩ = some (.int .i64 0) := (blk_cell BK314.out 3).trans rfl; have hcz54_4 : w52.cell? ⟨gb314, 4, none⟩ = some (.int .i64 0) := (blk_cell BK314.out 4).trans rfl; have hcz54_5 : w52.cell? ⟨gb314, 5, none⟩ = some (.int .i64 0) := (blk_cell BK314.out 5).trans rfl; have hfz54_0 := blk_frozen BK314.out 0; have hfz54_1 := blk_frozen BK314.out 1; have hfz54_2 := blk_frozen BK314.out 2; have hfz54_3 := blk_frozen BK314.out 3; have hfz54_4 := blk_frozen BK314.out 4; have hfz54_5 := blk_frozen BK314.out 5))
    refine bodyPost_ret (results_ctt rfl _ _ gb314 25 #[.int .i64 a0_0, .int .u8 a0_1, .slice A0_2 l0_2.length c0_2, .int .i64 a0_3, .int .i64 a0_4, .int .i64 a0_5] (0, 0) _ rfl (by (with_reducible repeat (first | refine blk_drewN ?_ _ | refine blk_drew ?_ | refine blk_alloc ?_ _)); refine blk_put (cs := #[.int .i64 a0_0, .int .u8 a0_1, .slice A0_2 l0_2.length c0_2, .int .i64 a0_3, .int .i64 a0_4, .int .i64 0]) ?_ 5 _ rfl; (with_reducible repeat (first | refine blk_drewN ?_ _ | refine blk_drew ?_ | refine blk_alloc ?_ _)); refine blk_put (cs := #[.int .i64 a0_0, .int .u8 a0_1, .slice A0_2 l0_2.length c0_2, .int .i64 a0_3, .int .i64 0, .int .i64 0]) ?_ 4 _ rfl; (with_reducible repeat (first | refine blk_drewN ?_ _ | refine blk_drew ?_ | refine blk_alloc ?_ _)); refine blk_put (cs := #[.int .i64 a0_0, .int .u8 a0_1, .slice A0_2 l0_2.length c0_2, .int .i64 0, .int .i64 0, .int .i64 0]) ?_ 3 _ rfl; (with_reducible repeat (first | refine blk_drewN ?_ _ | refine blk_drew ?_ | refine blk_alloc ?_ _)); refine blk_put (cs := #[.int .i64 a0_0, .int .u8 a0_1, .slice none 0 0, .int .i64 0, .int .i64 0, .int .i64 0]) ?_ 2 _ rfl; (with_reducible repeat (first | refine blk_drewN ?_ _ | refine blk_drew ?_ | refine blk_alloc ?_ _)); refine blk_put (cs := #[.int .i64 a0_0, .int .u8 0, .slice none 0 0, .int .i64 0, .int .i64 0, .int .i64 0]) ?_ 1 _ rfl; (with_reducible repeat (first | refine blk_drewN ?_ _ | refine blk_drew ?_ | refine blk_alloc ?_ _)); refine blk_put (cs := #[.int .i64 0, .int .u8 0, .slice none 0 0, .int .i64 0, .int .i64 0, .int .i64 0]) ?_ 0 _ rfl; (with_reducible repeat (first | refine blk_drewN ?_ _ | refine blk_drew ?_ | refine blk_alloc ?_ _)); exact BK314.out) Tryd.underlying25 rfl (by kernel_rfl)) rfl ?_
    exact ⟨_, _, by first | rfl | (simp [errW_none, errW_some] <;> rfl) | (simp [*, errW_none, errW_some] <;> rfl), by (with_reducible repeat (first | apply Kd.V_alloc | apply Kd.V_drewN | apply Kd.V_drew)); exact Kd.V_mono (Kd.V_far (p := ⟨gb314, 5, none⟩) (Kd.V_far (p := ⟨gb314, 4, none⟩) (Kd.V_far (p := ⟨gb314, 3, none⟩) (Kd.V_far (p := ⟨gb314, 2, none⟩) (Kd.V_far (p := ⟨gb314, 1, none⟩) (Kd.V_far (p := ⟨gb314, 0, none⟩) (Kd.V_mono HO0_2.out (fun k_ hk => (⟨hk, hk.2⟩ : _ ∧ k_ ≠ gb314))) (fun _ hk => hk.2) (.int .i64 a0_0)) (fun _ hk => hk.2) (.int .u8 a0_1)) (fun _ hk => hk.2) (.slice A0_2 l0_2.length c0_2)) (fun _ hk => hk.2) (.int .i64 a0_3)) (fun _ hk => hk.2) (.int .i64 a0_4)) (fun _ hk => hk.2) (.int .i64 a0_5)) (fun _ hk => ⟨hk.1.1.1, (by simp [Value.ownBlock])⟩), by first | exact Kd.R_nil _ _ _ _ _ | exact Kd.N_nil _ _ _ _ _ | exact Kd.V_nil _ _ _ _ _ | exact Kd.Q_nil _ _ _ _ _ | exact Kd.S_nil _ _ _ _ _, by repeat (first | (with_reducible first | exact HB.out | apply below_alloc | apply pw_below_drewN | apply below_drew1 | refine below_set ?_ GE313.out | refine below_set ?_ GE314.out) | exact HB.out)⟩
def capnpref25_Close.f (k : Nat) (a0_0 : Int) (a0_1 : Int) (l0_2 : List Int) (a0_3 : Int) (a0_4 : Int) (a0_5 : Int) : Option (Int) := (capnpref25_Valid.f k a0_0 a0_1 l0_2 a0_3 a0_4 a0_5).bind fun t329 => (if t329 = true then (if a0_5 = 0 then (if a0_0 = 0 then (some a0_5) else (some 10)) else (some a0_5)) else (some 12))
theorem capnpref25_Close.mono : ∀ a0 a1 a2 a3 a4 a5 k, LeO (capnpref25_Close.f k a0 a1 a2 a3 a4 a5) (capnpref25_Close.f (k + 1) a0 a1 a2 a3 a4 a5) := by
  intro a0 a1 a2 a3 a4 a5 k
  unfold capnpref25_Close.f
  repeat' first
      | (with_reducible exact capnpref25_Valid.mono _ _ _ _ _ _ _)
      | (with_reducible exact LeO.refl _)
      | (with_reducible exact LeO.none _)
      | (with_reducible refine LeO.ite ?_ ?_)
      | (with_reducible refine LeO.bind ?_ (fun _ => ?_))
      | exact capnpref25_Valid.mono _ _ _ _ _ _ _
      | exact LeO.none _
      | refine LeO.ite ?_ ?_
      | refine LeO.bind ?_ (fun _ => ?_)
theorem capnpref25_Close.calls (k : Nat) (a0_0 : Int) (a0_1 : Int) (A0_2 : Option Addr) (c0_2 : Nat) (l0_2 : List Int) (a0_3 : Int) (a0_4 : Int) (a0_5 : Int) (r : Int) (w : World) (hr0_2 : Kd.C (Kd.int .u8) w A0_2 l0_2.length l0_2) (hc0_2 : l0_2.length ≤ c0_2) (h : capnpref25_Close.f k a0_0 a0_1 l0_2 a0_3 a0_4 a0_5 = some r) :
    Calls Tryd.prog 16 #[.agg #[.int .i64 a0_0, .int .u8 a0_1, .slice A0_2 l0_2.length c0_2, .int .i64 a0_3, .int .i64 a0_4, .int .i64 a0_5]] w fun e w' => e = .returned (.int .i64 r) ∧ Below w.heap.size w w' := by
  have hu25 := Tryd.underlying25
  have HR0_2 := Aside0.mk hr0_2
  have HC0_2 := Aside0.mk hc0_2
  clear hr0_2 hc0_2
  have HB := Aside0.mk (Below.refl w.heap.size w)
  have H : ((capnpref25_Valid.f k a0_0 a0_1 l0_2 a0_3 a0_4 a0_5).bind fun t329 => (if t329 = true then (if a0_5 = 0 then (if a0_0 = 0 then (some a0_5) else (some 10)) else (some a0_5)) else (some 12))) = some r := h
  clear h
  replace H := Option.bind_eq_some_iff.mp H
  obtain ⟨t329, A20, H⟩ := H
  replace H : (if t329 = true then (if a0_5 = 0 then (if a0_0 = 0 then (some a0_5) else (some 10)) else (some a0_5)) else (some 12)) = some r := H
  have A2 := Aside0.mk A20
  clear A20
  by_cases c3 : t329 = true
  · subst c3
    have H1 : (if a0_5 = 0 then (if a0_0 = 0 then (some a0_5) else (some 10)) else (some a0_5)) = some r := by rw [if_pos rfl] at H; exact H
    clear H
    have H := H1
    clear H1
    by_cases c4 : a0_5 = 0
    · rw [if_pos c4] at H
      have c4b0 : (a0_5 == 0) = true := beq_iff_eq.mpr c4
      have c4b1 : (a0_5 != 0) = false := bne_eq_false_iff_eq.mpr c4
      clear c4
      by_cases c5 : a0_0 = 0
      · rw [if_pos c5] at H
        have c5b0 : (a0_0 == 0) = true := beq_iff_eq.mpr c5
        have c5b1 : (a0_0 != 0) = false := bne_eq_false_iff_eq.mpr c5
        clear c5
        obtain rfl := Option.some.inj H
        go_enter Tryd.func16, Tryd.ntmps16
        go_wp2_with (first | ((with_reducible refine gate_dst (N := 1) rfl ?_); refine box_event ?hg (N := 1) ?hd (cs := #[.int .i64 a0_0, .int .u8 a0_1, .slice A0_2 l0_2.length c0_2, .int .i64 a0_3, .int .i64 a0_4, .int .i64 a0_5]) (t := 25) ?hr ?_; (case hd => rfl); (case hg => rfl); (case hr => first | (go_simp; done) | (go_simp; rfl)); intro gb328 hg w6 hbox hb; have n0_ := Aside0.mk (below_step pB hb); have n1_ := Aside0.mk (hbox); have n2_ := Aside0.mk ((by rw [hg]; exact (below_size pB) : w.heap.size ≤ gb328)); have n3_ := Aside0.mk ((by rw [hg]; exact (below_size pB) : w.heap.size ≤ gb328)); clear HB; have HB := n0_; have BK328 := n1_; have GW328 := n2_; have GE328 := n3_; clear n0_ n1_ n2_ n3_; clear hb hbox hg; have hcz7_0 : w6.cell? ⟨gb328, 0, none⟩ = some (.int .i64 a0_0) := (blk_cell BK328.out 0).trans rfl; have hcz7_1 : w6.cell? ⟨gb328, 1, none⟩ = some (.int .u8 a0_1) := (blk_cell BK328.out 1).trans rfl; have hcz7_2 : w6.cell? ⟨gb328, 2, none⟩ = some (.slice A0_2 l0_2.length c0_2) := (blk_cell BK328.out 2).trans rfl; have hcz7_3 : w6.cell? ⟨gb328, 3, none⟩ = some (.int .i64 a0_3) := (blk_cell BK328.out 3).trans rfl; have hcz7_4 : w6.cell? ⟨gb328, 4, none⟩ = some (.int .i64 a0_4) := (blk_cell BK328.out 4).trans rfl; have hcz7_5 : w6.cell? ⟨gb328, 5, none⟩ = some (.int .i64 a0_5) := (blk_cell BK328.out 5).trans rfl; have hfz7_0 := blk_frozen BK328.out 0; have hfz7_1 := blk_frozen BK328.out 1; have hfz7_2 := blk_frozen BK328.out 2; have hfz7_3 := blk_frozen BK328.out 3; have hfz7_4 := blk_frozen BK328.out 4; have hfz7_5 := blk_frozen BK328.out 5) | ((with_reducible refine gate_callee (f := 12) rfl ?_); refine goesL_ (some 4) rfl rfl Tryd.func12 (by kernel_rfl) rfl #[.agg #[.int .i64 a0_0, .int .u8 a0_1, .slice A0_2 l0_2.length c0_2, .int .i64 a0_3, .int .i64 a0_4, .int .i64 a0_5]] rfl pM ?_; (with_reducible refine (capnpref25_Valid.calls k a0_0 a0_1 _ _ l0_2 a0_3 a0_4 a0_5 true _ ?side1 ?side2 A2.out).mono ?_); (case side1 => repeat (first | exact (Kd.C_below HR0_2.out HB.out) | (with_reducible refine Kd.C_alloc ?_ _) | (with_reducible refine Kd.C_drewN ?_ _) | (with_reducible refine Kd.C_drew ?_))); (case side2 => exact HC0_2.out); rintro e w8 ⟨rfl, hb⟩; refine ⟨_, rfl, ?_⟩; have n0_ := Aside0.mk (blk_below (g := gb328) (o := .cells #[.int .i64 a0_0, .int .u8 a0_1, .slice A0_2 l0_2.length c0_2, .int .i64 a0_3, .int .i64 a0_4, .int .i64 a0_5] 25 (0, 0)) (pK BK328) hb); have n1_ := Aside0.mk (below_step (by repeat (first | (with_reducible first | exact HB.out | apply below_alloc | apply pw_below_drewN | apply below_drew1 | refine below_set ?_ GE328.out) | exact HB.out)) hb); clear BK328; clear HB; have BK328 := n0_; have HB := n1_; clear n0_ n1_; (try clear hb); (try clear hb2); (try clear hk); (try clear hi); have hcz9_0 : w8.cell? ⟨gb328, 0, none⟩ = some (.int .i64 a0_0) := (blk_cell BK328.out 0).trans rfl; have hcz9_1 : w8.cell? ⟨gb328, 1, none⟩ = some (.int .u8 a0_1) := (blk_cell BK328.out 1).trans rfl; have hcz9_2 : w8.cell? ⟨gb328, 2, none⟩ = some (.slice A0_2 l0_2.length c0_2) := (blk_cell BK328.out 2).trans rfl; have hcz9_3 : w8.cell? ⟨gb328, 3, none⟩ = some (.int .i64 a0_3) := (blk_cell BK328.out 3).trans rfl; have hcz9_4 : w8.cell? ⟨gb328, 4, none⟩ = some (.int .i64 a0_4) := (blk_cell BK328.out 4).trans rfl; have hcz9_5 : w8.cell? ⟨gb328, 5, none⟩ = some (.int .i64 a0_5) := (blk_cell BK328.out 5).trans rfl; have hfz9_0 := blk_frozen BK328.out 0; have hfz9_1 := blk_frozen BK328.out 1; have hfz9_2 := blk_frozen BK328.out 2; have hfz9_3 := blk_frozen BK328.out 3; have hfz9_4 := blk_frozen BK328.out 4; have hfz9_5 := blk_frozen BK328.out 5))
        go_ret
        exact ⟨by first | rfl | (simp [errW_none, errW_some] <;> rfl) | (simp [*, errW_none, errW_some] <;> rfl), by repeat (first | (with_reducible first | exact HB.out | apply below_alloc | apply pw_below_drewN | apply below_drew1 | refine below_set ?_ GE328.out) | exact HB.out)⟩
      · rw [if_neg c5] at H
        have c5b0 : (a0_0 == 0) = false := beq_eq_false_iff_ne.mpr c5
        have c5b1 : (a0_0 != 0) = true := bne_iff_ne.mpr c5
        obtain rfl := Option.some.inj H
        go_enter Tryd.func16, Tryd.ntmps16
        go_wp2_with (first | ((with_reducible refine gate_dst (N := 1) rfl ?_); refine box_event ?hg (N := 1) ?hd (cs := #[.int .i64 a0_0, .int .u8 a0_1, .slice A0_2 l0_2.length c0_2, .int .i64 a0_3, .int .i64 a0_4, .int .i64 a0_5]) (t := 25) ?hr ?_; (case hd => rfl); (case hg => rfl); (case hr => first | (go_simp; done) | (go_simp; rfl)); intro gb328 hg w10 hbox hb; have n0_ := Aside0.mk (below_step pB hb); have n1_ := Aside0.mk (hbox); have n2_ := Aside0.mk ((by rw [hg]; exact (below_size pB) : w.heap.size ≤ gb328)); have n3_ := Aside0.mk ((by rw [hg]; exact (below_size pB) : w.heap.size ≤ gb328)); clear HB; have HB := n0_; have BK328 := n1_; have GW328 := n2_; have GE328 := n3_; clear n0_ n1_ n2_ n3_; clear hb hbox hg; have hcz11_0 : w10.cell? ⟨gb328, 0, none⟩ = some (.int .i64 a0_0) := (blk_cell BK328.out 0).trans rfl; have hcz11_1 : w10.cell? ⟨gb328, 1, none⟩ = some (.int .u8 a0_1) := (blk_cell BK328.out 1).trans rfl; have hcz11_2 : w10.cell? ⟨gb328, 2, none⟩ = some (.slice A0_2 l0_2.length c0_2) := (blk_cell BK328.out 2).trans rfl; have hcz11_3 : w10.cell? ⟨gb328, 3, none⟩ = some (.int .i64 a0_3) := (blk_cell BK328.out 3).trans rfl; have hcz11_4 : w10.cell? ⟨gb328, 4, none⟩ = some (.int .i64 a0_4) := (blk_cell BK328.out 4).trans rfl; have hcz11_5 : w10.cell? ⟨gb328, 5, none⟩ = some (.int .i64 a0_5) := (blk_cell BK328.out 5).trans rfl; have hfz11_0 := blk_frozen BK328.out 0; have hfz11_1 := blk_frozen BK328.out 1; have hfz11_2 := blk_frozen BK328.out 2; have hfz11_3 := blk_frozen BK328.out 3; have hfz11_4 := blk_frozen BK328.out 4; have hfz11_5 := blk_frozen BK328.out 5) | ((with_reducible refine gate_callee (f := 12) rfl ?_); refine goesL_ (some 4) rfl rfl Tryd.func12 (by kernel_rfl) rfl #[.agg #[.int .i64 a0_0, .int .u8 a0_1, .slice A0_2 l0_2.length c0_2, .int .i64 a0_3, .int .i64 a0_4, .int .i64 a0_5]] rfl pM ?_; (with_reducible refine (capnpref25_Valid.calls k a0_0 a0_1 _ _ l0_2 a0_3 a0_4 a0_5 true _ ?side1 ?side2 A2.out).mono ?_); (case side1 => repeat (first | exact (Kd.C_below HR0_2.out HB.out) | (with_reducible refine Kd.C_alloc ?_ _) | (with_reducible refine Kd.C_drewN ?_ _) | (with_reducible refine Kd.C_drew ?_))); (case side2 => exact HC0_2.out); rintro e w12 ⟨rfl, hb⟩; refine ⟨_, rfl, ?_⟩; have n0_ := Aside0.mk (blk_below (g := gb328) (o := .cells #[.int .i64 a0_0, .int .u8 a0_1, .slice A0_2 l0_2.length c0_2, .int .i64 a0_3, .int .i64 a0_4, .int .i64 a0_5] 25 (0, 0)) (pK BK328) hb); have n1_ := Aside0.mk (below_step (by repeat (first | (with_reducible first | exact HB.out | apply below_alloc | apply pw_below_drewN | apply below_drew1 | refine below_set ?_ GE328.out) | exact HB.out)) hb); clear BK328; clear HB; have BK328 := n0_; have HB := n1_; clear n0_ n1_; (try clear hb); (try clear hb2); (try clear hk); (try clear hi); have hcz13_0 : w12.cell? ⟨gb328, 0, none⟩ = some (.int .i64 a0_0) := (blk_cell BK328.out 0).trans rfl; have hcz13_1 : w12.cell? ⟨gb328, 1, none⟩ = some (.int .u8 a0_1) := (blk_cell BK328.out 1).trans rfl; have hcz13_2 : w12.cell? ⟨gb328, 2, none⟩ = some (.slice A0_2 l0_2.length c0_2) := (blk_cell BK328.out 2).trans rfl; have hcz13_3 : w12.cell? ⟨gb328, 3, none⟩ = some (.int .i64 a0_3) := (blk_cell BK328.out 3).trans rfl; have hcz13_4 : w12.cell? ⟨gb328, 4, none⟩ = some (.int .i64 a0_4) := (blk_cell BK328.out 4).trans rfl; have hcz13_5 : w12.cell? ⟨gb328, 5, none⟩ = some (.int .i64 a0_5) := (blk_cell BK328.out 5).trans rfl; have hfz13_0 := blk_frozen BK328.out 0; have hfz13_1 := blk_frozen BK328.out 1; have hfz13_2 := blk_frozen BK328.out 2; have hfz13_3 := blk_frozen BK328.out 3; have hfz13_4 := blk_frozen BK328.out 4; have hfz13_5 := blk_frozen BK328.out 5))
        go_ret
        exact ⟨by first | rfl | (simp [errW_none, errW_some] <;> rfl) | (simp [*, errW_none, errW_some] <;> rfl), by repeat (first | (with_reducible first | exact HB.out | apply below_alloc | apply pw_below_drewN | apply below_drew1 | refine below_set ?_ GE328.out) | exact HB.out)⟩
    · rw [if_neg c4] at H
      have c4b0 : (a0_5 == 0) = false := beq_eq_false_iff_ne.mpr c4
      have c4b1 : (a0_5 != 0) = true := bne_iff_ne.mpr c4
      obtain rfl := Option.some.inj H
      go_enter Tryd.func16, Tryd.ntmps16
      go_wp2_with (first | ((with_reducible refine gate_dst (N := 1) rfl ?_); refine box_event ?hg (N := 1) ?hd (cs := #[.int .i64 a0_0, .int .u8 a0_1, .slice A0_2 l0_2.length c0_2, .int .i64 a0_3, .int .i64 a0_4, .int .i64 a0_5]) (t := 25) ?hr ?_; (case hd => rfl); (case hg => rfl); (case hr => first | (go_simp; done) | (go_simp; rfl)); intro gb328 hg w14 hbox hb; have n0_ := Aside0.mk (below_step pB hb); have n1_ := Aside0.mk (hbox); have n2_ := Aside0.mk ((by rw [hg]; exact (below_size pB) : w.heap.size ≤ gb328)); have n3_ := Aside0.mk ((by rw [hg]; exact (below_size pB) : w.heap.size ≤ gb328)); clear HB; have HB := n0_; have BK328 := n1_; have GW328 := n2_; have GE328 := n3_; clear n0_ n1_ n2_ n3_; clear hb hbox hg; have hcz15_0 : w14.cell? ⟨gb328, 0, none⟩ = some (.int .i64 a0_0) := (blk_cell BK328.out 0).trans rfl; have hcz15_1 : w14.cell? ⟨gb328, 1, none⟩ = some (.int .u8 a0_1) := (blk_cell BK328.out 1).trans rfl; have hcz15_2 : w14.cell? ⟨gb328, 2, none⟩ = some (.slice A0_2 l0_2.length c0_2) := (blk_cell BK328.out 2).trans rfl; have hcz15_3 : w14.cell? ⟨gb328, 3, none⟩ = some (.int .i64 a0_3) := (blk_cell BK328.out 3).trans rfl; have hcz15_4 : w14.cell? ⟨gb328, 4, none⟩ = some (.int .i64 a0_4) := (blk_cell BK328.out 4).trans rfl; have hcz15_5 : w14.cell? ⟨gb328, 5, none⟩ = some (.int .i64 a0_5) := (blk_cell BK328.out 5).trans rfl; have hfz15_0 := blk_frozen BK328.out 0; have hfz15_1 := blk_frozen BK328.out 1; have hfz15_2 := blk_frozen BK328.out 2; have hfz15_3 := blk_frozen BK328.out 3; have hfz15_4 := blk_frozen BK328.out 4; have hfz15_5 := blk_frozen BK328.out 5) | ((with_reducible refine gate_callee (f := 12) rfl ?_); refine goesL_ (some 4) rfl rfl Tryd.func12 (by kernel_rfl) rfl #[.agg #[.int .i64 a0_0, .int .u8 a0_1, .slice A0_2 l0_2.length c0_2, .int .i64 a0_3, .int .i64 a0_4, .int .i64 a0_5]] rfl pM ?_; (with_reducible refine (capnpref25_Valid.calls k a0_0 a0_1 _ _ l0_2 a0_3 a0_4 a0_5 true _ ?side1 ?side2 A2.out).mono ?_); (case side1 => repeat (first | exact (Kd.C_below HR0_2.out HB.out) | (with_reducible refine Kd.C_alloc ?_ _) | (with_reducible refine Kd.C_drewN ?_ _) | (with_reducible refine Kd.C_drew ?_))); (case side2 => exact HC0_2.out); rintro e w16 ⟨rfl, hb⟩; refine ⟨_, rfl, ?_⟩; have n0_ := Aside0.mk (blk_below (g := gb328) (o := .cells #[.int .i64 a0_0, .int .u8 a0_1, .slice A0_2 l0_2.length c0_2, .int .i64 a0_3, .int .i64 a0_4, .int .i64 a0_5] 25 (0, 0)) (pK BK328) hb); have n1_ := Aside0.mk (below_step (by repeat (first | (with_reducible first | exact HB.out | apply below_alloc | apply pw_below_drewN | apply below_drew1 | refine below_set ?_ GE328.out) | exact HB.out)) hb); clear BK328; clear HB; have BK328 := n0_; have HB := n1_; clear n0_ n1_; (try clear hb); (try clear hb2); (try clear hk); (try clear hi); have hcz17_0 : w16.cell? ⟨gb328, 0, none⟩ = some (.int .i64 a0_0) := (blk_cell BK328.out 0).trans rfl; have hcz17_1 : w16.cell? ⟨gb328, 1, none⟩ = some (.int .u8 a0_1) := (blk_cell BK328.out 1).trans rfl; have hcz17_2 : w16.cell? ⟨gb328, 2, none⟩ = some (.slice A0_2 l0_2.length c0_2) := (blk_cell BK328.out 2).trans rfl; have hcz17_3 : w16.cell? ⟨gb328, 3, none⟩ = some (.int .i64 a0_3) := (blk_cell BK328.out 3).trans rfl; have hcz17_4 : w16.cell? ⟨gb328, 4, none⟩ = some (.int .i64 a0_4) := (blk_cell BK328.out 4).trans rfl; have hcz17_5 : w16.cell? ⟨gb328, 5, none⟩ = some (.int .i64 a0_5) := (blk_cell BK328.out 5).trans rfl; have hfz17_0 := blk_frozen BK328.out 0; have hfz17_1 := blk_frozen BK328.out 1; have hfz17_2 := blk_frozen BK328.out 2; have hfz17_3 := blk_frozen BK328.out 3; have hfz17_4 := blk_frozen BK328.out 4; have hfz17_5 := blk_frozen BK328.out 5))
      go_ret
      exact ⟨by first | rfl | (simp [errW_none, errW_some] <;> rfl) | (simp [*, errW_none, errW_some] <;> rfl), by repeat (first | (with_reducible first | exact HB.out | apply below_alloc | apply pw_below_drewN | apply below_drew1 | refine below_set ?_ GE328.out) | exact HB.out)⟩
  · replace c3 := Bool.eq_false_iff.mpr c3
    subst c3
    have H1 : (some 12) = some r := by rw [if_neg (show ¬ (false = true) by decide)] at H; exact H
    clear H
    have H := H1
    clear H1
    obtain rfl := Option.some.inj H
    go_enter Tryd.func16, Tryd.ntmps16
    go_wp2_with (first | ((with_reducible refine gate_dst (N := 1) rfl ?_); refine box_event ?hg (N := 1) ?hd (cs := #[.int .i64 a0_0, .int .u8 a0_1, .slice A0_2 l0_2.length c0_2, .int .i64 a0_3, .int .i64 a0_4, .int .i64 a0_5]) (t := 25) ?hr ?_; (case hd => rfl); (case hg => rfl); (case hr => first | (go_simp; done) | (go_simp; rfl)); intro gb328 hg w18 hbox hb; have n0_ := Aside0.mk (below_step pB hb); have n1_ := Aside0.mk (hbox); have n2_ := Aside0.mk ((by rw [hg]; exact (below_size pB) : w.heap.size ≤ gb328)); have n3_ := Aside0.mk ((by rw [hg]; exact (below_size pB) : w.heap.size ≤ gb328)); clear HB; have HB := n0_; have BK328 := n1_; have GW328 := n2_; have GE328 := n3_; clear n0_ n1_ n2_ n3_; clear hb hbox hg; have hcz19_0 : w18.cell? ⟨gb328, 0, none⟩ = some (.int .i64 a0_0) := (blk_cell BK328.out 0).trans rfl; have hcz19_1 : w18.cell? ⟨gb328, 1, none⟩ = some (.int .u8 a0_1) := (blk_cell BK328.out 1).trans rfl; have hcz19_2 : w18.cell? ⟨gb328, 2, none⟩ = some (.slice A0_2 l0_2.length c0_2) := (blk_cell BK328.out 2).trans rfl; have hcz19_3 : w18.cell? ⟨gb328, 3, none⟩ = some (.int .i64 a0_3) := (blk_cell BK328.out 3).trans rfl; have hcz19_4 : w18.cell? ⟨gb328, 4, none⟩ = some (.int .i64 a0_4) := (blk_cell BK328.out 4).trans rfl; have hcz19_5 : w18.cell? ⟨gb328, 5, none⟩ = some (.int .i64 a0_5) := (blk_cell BK328.out 5).trans rfl; have hfz19_0 := blk_frozen BK328.out 0; have hfz19_1 := blk_frozen BK328.out 1; have hfz19_2 := blk_frozen BK328.out 2; have hfz19_3 := blk_frozen BK328.out 3; have hfz19_4 := blk_frozen BK328.out 4; have hfz19_5 := blk_frozen BK328.out 5) | ((with_reducible refine gate_callee (f := 12) rfl ?_); refine goesL_ (some 4) rfl rfl Tryd.func12 (by kernel_rfl) rfl #[.agg #[.int .i64 a0_0, .int .u8 a0_1, .slice A0_2 l0_2.length c0_2, .int .i64 a0_3, .int .i64 a0_4, .int .i64 a0_5]] rfl pM ?_; (with_reducible refine (capnpref25_Valid.calls k a0_0 a0_1 _ _ l0_2 a0_3 a0_4 a0_5 false _ ?side1 ?side2 A2.out).mono ?_); (case side1 => repeat (first | exact (Kd.C_below HR0_2.out HB.out) | (with_reducible refine Kd.C_alloc ?_ _) | (with_reducible refine Kd.C_drewN ?_ _) | (with_reducible refine Kd.C_drew ?_))); (case side2 => exact HC0_2.out); rintro e w20 ⟨rfl, hb⟩; refine ⟨_, rfl, ?_⟩; have n0_ := Aside0.mk (blk_below (g := gb328) (o := .cells #[.int .i64 a0_0, .int .u8 a0_1, .slice A0_2 l0_2.length c0_2, .int .i64 a0_3, .int .i64 a0_4, .int .i64 a0_5] 25 (0, 0)) (pK BK328) hb); have n1_ := Aside0.mk (below_step (by repeat (first | (with_reducible first | exact HB.out | apply below_alloc | apply pw_below_drewN | apply below_drew1 | refine below_set ?_ GE328.out) | exact HB.out)) hb); clear BK328; clear HB; have BK328 := n0_; have HB := n1_; clear n0_ n1_; (try clear hb); (try clear hb2); (try clear hk); (try clear hi)))
    go_ret
    exact ⟨by first | rfl | (simp [errW_none, errW_some] <;> rfl) | (simp [*, errW_none, errW_some] <;> rfl), by repeat (first | (with_reducible first | exact HB.out | apply below_alloc | apply pw_below_drewN | apply below_drew1 | refine below_set ?_ GE328.out) | exact HB.out)⟩
end Go.Proofs.YtpffoecblcfndaaDoor.PUnpackstreamMatchesReference
