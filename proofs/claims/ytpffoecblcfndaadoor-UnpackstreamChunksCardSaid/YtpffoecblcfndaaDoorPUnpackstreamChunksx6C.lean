/- Printed functions of a law, and their walks. -/
import Derived.Test.YtpffoecblcfndaaDoorXShortC
import Derived.Test.YtpffoecblcfndaaDoorPUnpackstreamChunksx0C
import Derived.Test.YtpffoecblcfndaaDoorPUnpackstreamChunksx3C
import Derived.Test.YtpffoecblcfndaaDoorPUnpackstreamChunksx5C
namespace Go.Proofs.YtpffoecblcfndaaDoor.PUnpackstreamChunks
open Go.RowKit Go.Proofs.YtpffoecblcfndaaDoorW.PrintWords Go.Proofs.YtpffoecblcfndaaDoorW.PrintLast Go.Proofs.YtpffoecblcfndaaDoorW.PrintMore
open Go.Proofs.YtpffoecblcfndaaDoor.PVaBase
attribute [local go_sem] max2_int min2_int max_two min_two max_three min_three max_four min_four   -- for this text's walks alone
set_option linter.unusedVariables false
set_option linter.unusedSimpArgs false
mutual
def capnplaw25_UnpackstreamChunks.j0 : Nat → List (List Int) → Int → Bool → Option (Bool)
  | 0, _, _, _ => none
  | k + 1, x0, x1, x20 => if x20 = true then ((capnplaw25_awake.f k).bind fun t257 => (some t257)) else ((unpackstream_New.f).bind fun bt258 => (capnplaw25_UnpackstreamChunks.l0 k x0 x1 ([] : List Int) ([] : List Int) 0 bt258.1 bt258.2.1 bt258.2.2.1 bt258.2.2.2.1 bt258.2.2.2.2.1 bt258.2.2.2.2.2))
def capnplaw25_UnpackstreamChunks.l0 : Nat → List (List Int) → Int → List Int → List Int → Int → Int → Int → List Int → Int → Int → Int → Option (Bool)
  | 0, _, _, _, _, _, _, _, _, _, _, _ => none
  | k + 1, x0, x1, x6, x7, x8, x267000, x267001, x267002, x267003, x267004, x267005 => if x8 < (x0.length : Int) then (if 0 ≤ x8 then (if (wrap64 ((x6.length : Int) + ((rd_L2 x0 x8).length : Int))) > 600 then (some true) else (if x6.length + (rd_L2 x0 x8).length < 140737488355328 then ((unpackstream_Write.f x267000 x267001 x267002 x267003 x267004 x267005 (rd_L2 x0 x8) x1).bind fun bt279 => (if bt279.2.2.2.2.2.2.2 = bt279.2.2.2.2.2.1 then (if x7.length + bt279.2.2.2.2.2.2.1.length < 140737488355328 then (capnplaw25_UnpackstreamChunks.l0 k x0 x1 (x6 ++ (rd_L2 x0 x8)) (x7 ++ bt279.2.2.2.2.2.2.1) (wrap64 (x8 + 1)) bt279.1 bt279.2.1 bt279.2.2.1 bt279.2.2.2.1 bt279.2.2.2.2.1 bt279.2.2.2.2.2.1) else (none)) else (some false))) else (none))) else (none)) else ((capnpref22_Prefix.f k x6 x1).bind fun bt267 => ((capnpref01_Same.f k x7 bt267.1).bind fun t271 => (if t271 = true then ((unpackstream_Close.f k x267000 x267001 x267002 x267003 x267004 x267005).bind fun t272 => (if t272 = bt267.2 then (some (x267004 == (bt267.1.length : Int))) else (none))) else (none))))
end
def capnplaw25_UnpackstreamChunks.f (k : Nat) (l0 : List (List Int)) (a1 : Int) : Option (Bool) := (capnplaw25_awake.f k).bind fun t256 => (if t256 = true then (capnplaw25_UnpackstreamChunks.j0 k l0 a1 (decide ((l0.length : Int) > 40))) else (capnplaw25_UnpackstreamChunks.j0 k l0 a1 true))
theorem capnplaw25_UnpackstreamChunks.mono_l : ∀ k, (∀ y0 y1 y2, LeO (capnplaw25_UnpackstreamChunks.j0 k y0 y1 y2) (capnplaw25_UnpackstreamChunks.j0 (k + 1) y0 y1 y2)) ∧ (∀ y0 y1 y2 y3 y4 y5 y6 y7 y8 y9 y10, LeO (capnplaw25_UnpackstreamChunks.l0 k y0 y1 y2 y3 y4 y5 y6 y7 y8 y9 y10) (capnplaw25_UnpackstreamChunks.l0 (k + 1) y0 y1 y2 y3 y4 y5 y6 y7 y8 y9 y10))
  | 0 => ⟨fun _ _ _ r h => by simp [capnplaw25_UnpackstreamChunks.j0] at h, fun _ _ _ _ _ _ _ _ _ _ _ r h => by simp [capnplaw25_UnpackstreamChunks.l0] at h⟩
  | k + 1 => by
    obtain ⟨ih0, ih1⟩ := capnplaw25_UnpackstreamChunks.mono_l k
    refine ⟨?_, ?_⟩
    · intro y0 y1 y2
      unfold capnplaw25_UnpackstreamChunks.j0
      repeat' first
      | (with_reducible exact ih0 _ _ _)
      | (with_reducible exact ih1 _ _ _ _ _ _ _ _ _ _ _)
      | (with_reducible exact capnplaw25_awake.mono _)
      | (with_reducible exact capnpref01_Same.mono _ _ _)
      | (with_reducible exact capnpref22_Prefix.mono _ _ _)
      | (with_reducible exact unpackstream_Close.mono _ _ _ _ _ _ _)
      | (with_reducible exact LeO.refl _)
      | (with_reducible exact LeO.none _)
      | (with_reducible refine LeO.ite ?_ ?_)
      | (with_reducible refine LeO.bind ?_ (fun _ => ?_))
      | exact ih0 _ _ _
      | exact ih1 _ _ _ _ _ _ _ _ _ _ _
      | exact capnplaw25_awake.mono _
      | exact capnpref01_Same.mono _ _ _
      | exact capnpref22_Prefix.mono _ _ _
      | exact unpackstream_Close.mono _ _ _ _ _ _ _
      | exact LeO.none _
      | refine LeO.ite ?_ ?_
      | refine LeO.bind ?_ (fun _ => ?_)
    · intro y0 y1 y2 y3 y4 y5 y6 y7 y8 y9 y10
      unfold capnplaw25_UnpackstreamChunks.l0
      repeat' first
      | (with_reducible exact ih0 _ _ _)
      | (with_reducible exact ih1 _ _ _ _ _ _ _ _ _ _ _)
      | (with_reducible exact capnplaw25_awake.mono _)
      | (with_reducible exact capnpref01_Same.mono _ _ _)
      | (with_reducible exact capnpref22_Prefix.mono _ _ _)
      | (with_reducible exact unpackstream_Close.mono _ _ _ _ _ _ _)
      | (with_reducible exact LeO.refl _)
      | (with_reducible exact LeO.none _)
      | (with_reducible refine LeO.ite ?_ ?_)
      | (with_reducible refine LeO.bind ?_ (fun _ => ?_))
      | exact ih0 _ _ _
      | exact ih1 _ _ _ _ _ _ _ _ _ _ _
      | exact capnplaw25_awake.mono _
      | exact capnpref01_Same.mono _ _ _
      | exact capnpref22_Prefix.mono _ _ _
      | exact unpackstream_Close.mono _ _ _ _ _ _ _
      | exact LeO.none _
      | refine LeO.ite ?_ ?_
      | refine LeO.bind ?_ (fun _ => ?_)
theorem capnplaw25_UnpackstreamChunks.mono : ∀ a0 a1 k, LeO (capnplaw25_UnpackstreamChunks.f k a0 a1) (capnplaw25_UnpackstreamChunks.f (k + 1) a0 a1) := by
  intro a0 a1 k
  obtain ⟨ih0, ih1⟩ := capnplaw25_UnpackstreamChunks.mono_l k
  unfold capnplaw25_UnpackstreamChunks.f
  repeat' first
      | (with_reducible exact ih0 _ _ _)
      | (with_reducible exact ih1 _ _ _ _ _ _ _ _ _ _ _)
      | (with_reducible exact capnplaw25_awake.mono _)
      | (with_reducible exact capnpref01_Same.mono _ _ _)
      | (with_reducible exact capnpref22_Prefix.mono _ _ _)
      | (with_reducible exact unpackstream_Close.mono _ _ _ _ _ _ _)
      | (with_reducible exact LeO.refl _)
      | (with_reducible exact LeO.none _)
      | (with_reducible refine LeO.ite ?_ ?_)
      | (with_reducible refine LeO.bind ?_ (fun _ => ?_))
      | exact ih0 _ _ _
      | exact ih1 _ _ _ _ _ _ _ _ _ _ _
      | exact capnplaw25_awake.mono _
      | exact capnpref01_Same.mono _ _ _
      | exact capnpref22_Prefix.mono _ _ _
      | exact unpackstream_Close.mono _ _ _ _ _ _ _
      | exact LeO.none _
      | refine LeO.ite ?_ ?_
      | refine LeO.bind ?_ (fun _ => ?_)
def capnplaw25_UnpackstreamChunks.T11 : Bool × List (List Nat × List Nat) := (true, [([], []), ([], []), ([], []), ([1, 2], [1, 2]), ([3], [3]), ([], []), ([0, 4, 5], [0, 4, 5]), ([6], [6]), ([7], [7]), ([7], [7]), ([7], [7]), ([], []), ([11, 8, 6, 0, 1, 2, 3, 4, 5, 6, 7, 8, 11], [8, 11]), ([9, 12, 0, 1, 2, 3, 4, 5, 6, 7, 8, 9, 11, 12], [9]), ([10, 13, 0, 1, 2, 3, 4, 5, 6, 7, 8, 9, 10, 11, 12, 13], [10])])
def capnplaw25_UnpackstreamChunks.B11 : List Nat := [0, 0, 0, 6, 14, 0, 63, 127, 255, 255, 255, 0, 2559, 7167, 16383]
theorem capnplaw25_UnpackstreamChunks.tab11 : rtab .any (opsOf Tryd.f4 11) = capnplaw25_UnpackstreamChunks.T11 := by kernel_rfl
theorem capnplaw25_UnpackstreamChunks.bits11 : waitsOk capnplaw25_UnpackstreamChunks.T11.2 capnplaw25_UnpackstreamChunks.B11 = true := by kernel_rfl
set_option maxHeartbeats 8000000 in
set_option maxRecDepth 100000 in
theorem capnplaw25_UnpackstreamChunks.calls (k : Nat) (A0 : Option Addr) (c0 : Nat) (l0 : List (List Int)) (a1 : Int) (r : Bool) (w : World) (hr0 : Kd.C (Kd.slice 5 (Kd.int .u8)) w A0 l0.length l0) (hc0 : l0.length ≤ c0) (h : capnplaw25_UnpackstreamChunks.f k l0 a1 = some r) (hL : Go.Proofs.YtpffoecblcfndaaDoor.Us.StepsL w) :
    Calls Tryd.prog 4 #[.slice A0 l0.length c0, .int .i64 a1] w fun e w' => e = .returned (.bool r) ∧ Below w.heap.size w w' := by
  have HL := Aside0.mk hL
  clear hL
  have hu25 := Tryd.underlying25
  have HR0 := Aside0.mk hr0
  have HC0 := Aside0.mk hc0
  clear hr0 hc0
  have HB := Aside0.mk (Below.refl w.heap.size w)
  have H : ((capnplaw25_awake.f k).bind fun t256 => (if t256 = true then (capnplaw25_UnpackstreamChunks.j0 k l0 a1 (decide ((l0.length : Int) > 40))) else (capnplaw25_UnpackstreamChunks.j0 k l0 a1 true))) = some r := h
  clear h
  have HC3 := Aside0.mk H
  clear H
  go_enter Tryd.func4, Tryd.ntmps4
  try simp only [List.append_eq, List.cons_append, List.nil_append]
  go_upto_region 1 with (fail)
  go_cut [20] (fun v20 wc => ∃ (kq : Nat) (x20_2 : Bool), v20 = .bool x20_2 ∧ Aside0 (capnplaw25_UnpackstreamChunks.j0 kq l0 a1 x20_2 = some r) ∧ Aside0 (kq ≤ k) ∧ Aside0 (Below w.heap.size w wc))
  case first =>
    have H := HC3.out
    clear HC3
    replace H := Option.bind_eq_some_iff.mp H
    obtain ⟨t256, A40, H⟩ := H
    replace H : (if t256 = true then (capnplaw25_UnpackstreamChunks.j0 k l0 a1 (decide ((l0.length : Int) > 40))) else (capnplaw25_UnpackstreamChunks.j0 k l0 a1 true)) = some r := H
    have A4 := Aside0.mk A40
    clear A40
    by_cases c5 : t256 = true
    · subst c5
      have H1 : (capnplaw25_UnpackstreamChunks.j0 k l0 a1 (decide ((l0.length : Int) > 40))) = some r := by rw [if_pos rfl] at H; exact H
      clear H
      have H := H1
      clear H1
      have H' := Aside0.mk H
      clear H
      go_wp2_with (first | ((with_reducible refine gate_callee (f := 8) rfl ?_); refine goesL_ (some 14) rfl rfl Tryd.func8 (by kernel_rfl) rfl #[] rfl pM ?_; (with_reducible refine (capnplaw25_awake.calls k  true _ A4.out (Go.Proofs.YtpffoecblcfndaaDoor.Us.StepsL.below HL.out pB)).mono ?_); rintro e w6 ⟨rfl, hb⟩; refine ⟨_, rfl, ?_⟩; have n0_ := Aside0.mk (below_step pB hb); clear HB; have HB := n0_; clear n0_; (try clear hb); (try clear hb2); (try clear hk); (try clear hi)))
      go_meet
      case rel => exact ⟨_, (decide ((l0.length : Int) > 40)), (by first | rfl | (simp; done) | (simp [*]; done)), H', ⟨by first | omega | exact Nat.le_refl _⟩, ⟨pB⟩⟩
    · replace c5 := Bool.eq_false_iff.mpr c5
      subst c5
      have H1 : (capnplaw25_UnpackstreamChunks.j0 k l0 a1 true) = some r := by rw [if_neg (show ¬ (false = true) by decide)] at H; exact H
      clear H
      have H := H1
      clear H1
      have H' := Aside0.mk H
      clear H
      go_wp2_with (first | ((with_reducible refine gate_callee (f := 8) rfl ?_); refine goesL_ (some 14) rfl rfl Tryd.func8 (by kernel_rfl) rfl #[] rfl pM ?_; (with_reducible refine (capnplaw25_awake.calls k  false _ A4.out (Go.Proofs.YtpffoecblcfndaaDoor.Us.StepsL.below HL.out pB)).mono ?_); rintro e w7 ⟨rfl, hb⟩; refine ⟨_, rfl, ?_⟩; have n0_ := Aside0.mk (below_step pB hb); clear HB; have HB := n0_; clear n0_; (try clear hb); (try clear hb2); (try clear hk); (try clear hi)))
      go_meet
      case rel => exact ⟨_, (true), (by first | rfl | (simp; done) | (simp [*]; done)), H', ⟨by first | omega | exact Nat.le_refl _⟩, ⟨pB⟩⟩
  case rest =>
    clear HC3
    try clear p2
    try clear c4
    try clear c5
    obtain ⟨kq, x20_2, rfl, HA, HJ2, HB⟩ := hcut
    cases kq with
    | zero => exact absurd HA.out (by simp [capnplaw25_UnpackstreamChunks.j0])
    | succ kj2 =>
      have H := HA.out
      clear HA
      simp only [capnplaw25_UnpackstreamChunks.j0] at H
      by_cases c8 : x20_2 = true
      · subst c8
        have H1 : ((capnplaw25_awake.f kj2).bind fun t257 => (some t257)) = some r := by rw [if_pos rfl] at H; exact H
        clear H
        have H := H1
        clear H1
        replace H := Option.bind_eq_some_iff.mp H
        obtain ⟨t257, A90, H⟩ := H
        replace H : (some t257) = some r := H
        have A9 := Aside0.mk A90
        clear A90
        obtain rfl := Option.some.inj H
        go_wp2_with (first | ((with_reducible refine gate_callee (f := 8) rfl ?_); refine goesL_ (some 21) rfl rfl Tryd.func8 (by kernel_rfl) rfl #[] rfl pM ?_; (with_reducible refine (capnplaw25_awake.calls kj2  t257 _ A9.out (Go.Proofs.YtpffoecblcfndaaDoor.Us.StepsL.below HL.out pB)).mono ?_); rintro e w10 ⟨rfl, hb⟩; refine ⟨_, rfl, ?_⟩; have n0_ := Aside0.mk (below_step pB hb); clear HB; have HB := n0_; clear n0_; (try clear hb); (try clear hb2); (try clear hk); (try clear hi)))
        go_ret
        exact ⟨by first | rfl | (simp [errW_none, errW_some] <;> rfl) | (simp [*, errW_none, errW_some] <;> rfl), pB⟩
      · replace c8 := Bool.eq_false_iff.mpr c8
        subst c8
        have H1 : ((unpackstream_New.f).bind fun bt258 => (capnplaw25_UnpackstreamChunks.l0 kj2 l0 a1 ([] : List Int) ([] : List Int) 0 bt258.1 bt258.2.1 bt258.2.2.1 bt258.2.2.2.1 bt258.2.2.2.2.1 bt258.2.2.2.2.2)) = some r := by rw [if_neg (show ¬ (false = true) by decide)] at H; exact H
        clear H
        have H := H1
        clear H1
        replace H := Option.bind_eq_some_iff.mp H
        obtain ⟨⟨t258, t259, t260, t263, t264, t265⟩, A110, H⟩ := H
        replace H : (capnplaw25_UnpackstreamChunks.l0 kj2 l0 a1 ([] : List Int) ([] : List Int) 0 t258 t259 t260 t263 t264 t265) = some r := H
        have A11 := Aside0.mk A110
        clear A110
        have H' := Aside0.mk H
        clear H
        go_wp2_with (first | ((with_reducible refine gate_callee (f := 17) rfl ?_); refine goesL_ (some 22) rfl rfl Tryd.func17 (by kernel_rfl) rfl #[] rfl pM ?_; (with_reducible refine (unpackstream_New.calls  t258 t259 t260 t263 t264 t265 _ A11.out).mono ?_); rintro e w12 ⟨v261, rfl, ho0, hb⟩; refine ⟨_, rfl, ?_⟩; have n0_ := Aside0.mk (Kd.R_lower ho0 (below_size pB)); have n1_ := Aside0.mk (below_step pB hb); clear HB; have HO262 := n0_; have HB := n1_; clear n0_ n1_; (try clear hb); (try clear hb2); (try clear hk); (try clear hi); (try clear ho0)) | ((with_reducible refine gate_dst (N := 5) rfl ?_); (try (refine gate_guard (by rfl) ?_; dsimp only)); refine box_event ?hg (N := 5) ?hd (cs := #[.int .i64 0, .int .u8 0, .slice none 0 0, .int .i64 0, .int .i64 0, .int .i64 0]) (t := 25) ?hr ?_; (case hd => rfl); (case hg => rfl); (case hr => first | (go_simp; done) | (go_simp; rfl)); intro gb266 hg w13 hbox hb; have n0_ := Aside0.mk (Kd.R_below (pR HO262) hb); have n1_ := Aside0.mk (below_step pB hb); have n2_ := Aside0.mk (hbox); have n3_ := Aside0.mk ((by rw [hg]; exact (below_size pB) : w.heap.size ≤ gb266)); have n4_ := Aside0.mk ((by rw [hg]; exact (below_size pB) : w.heap.size ≤ gb266)); clear HO262; clear HB; have HO262 := n0_; have HB := n1_; have BK266 := n2_; have GW266 := n3_; have GE266 := n4_; clear n0_ n1_ n2_ n3_ n4_; clear hb hbox hg; have hcz14_0 : w13.cell? ⟨gb266, 0, none⟩ = some (.int .i64 0) := (blk_cell BK266.out 0).trans rfl; have hcz14_1 : w13.cell? ⟨gb266, 1, none⟩ = some (.int .u8 0) := (blk_cell BK266.out 1).trans rfl; have hcz14_2 : w13.cell? ⟨gb266, 2, none⟩ = some (.slice none 0 0) := (blk_cell BK266.out 2).trans rfl; have hcz14_3 : w13.cell? ⟨gb266, 3, none⟩ = some (.int .i64 0) := (blk_cell BK266.out 3).trans rfl; have hcz14_4 : w13.cell? ⟨gb266, 4, none⟩ = some (.int .i64 0) := (blk_cell BK266.out 4).trans rfl; have hcz14_5 : w13.cell? ⟨gb266, 5, none⟩ = some (.int .i64 0) := (blk_cell BK266.out 5).trans rfl; have hfz14_0 := blk_frozen BK266.out 0; have hfz14_1 := blk_frozen BK266.out 1; have hfz14_2 := blk_frozen BK266.out 2; have hfz14_3 := blk_frozen BK266.out 3; have hfz14_4 := blk_frozen BK266.out 4; have hfz14_5 := blk_frozen BK266.out 5; obtain ⟨Ao15, co15, eo15⟩ := Kd.R_slice HO262.out; subst eo15))
        go_loopg [6, 7, 8] kj2 (fun kq v6 v7 v8 w' => ∃ (x6_2 : List Int) (x7_2 : List Int) (x8_2 : Int) (x267000_2 : Int) (x267001_2 : Int) (x267002_2 : List Int) (x267003_2 : Int) (x267004_2 : Int) (x267005_2 : Int) (u267002 : Value), v8 = .int .i64 x8_2 ∧ Aside0 (capnplaw25_UnpackstreamChunks.l0 kq l0 a1 x6_2 x7_2 x8_2 x267000_2 x267001_2 x267002_2 x267003_2 x267004_2 x267005_2 = some r) ∧ Aside0 (kq ≤ kj2) ∧ Aside0 (Kd.R (Kd.int .u8) 5 w' w.heap.size (fun k_ => some k_ ≠ (v7 : Value).ownBlock ∧ some k_ ≠ (u267002 : Value).ownBlock) v6 x6_2) ∧ Aside0 (Kd.R (Kd.int .u8) 5 w' w.heap.size (fun k_ => some k_ ≠ (v6 : Value).ownBlock ∧ some k_ ≠ (u267002 : Value).ownBlock) v7 x7_2) ∧ Aside0 (Kd.R (Kd.int .u8) 5 w' w.heap.size (fun k_ => some k_ ≠ (v6 : Value).ownBlock ∧ some k_ ≠ (v7 : Value).ownBlock) u267002 x267002_2) ∧ Aside0 (w'.heap[gb266]? = some (.cells #[.int .i64 x267000_2, .int .u8 x267001_2, u267002, .int .i64 x267003_2, .int .i64 x267004_2, .int .i64 x267005_2] 25 (0, 0))) ∧ Aside0 (Below w.heap.size w w'))
        case atStart => exact ⟨(([] : List Int)), (([] : List Int)), (0), (t258), (t259), (t260), (t263), (t264), (t265), (.slice Ao15 t260.length co15), (by first | rfl | (simp; done) | (simp [*]; done)), H', ⟨Nat.le_refl _⟩, ⟨by first | exact Kd.R_nil _ _ _ _ _ | exact Kd.N_nil _ _ _ _ _ | exact Kd.V_nil _ _ _ _ _ | exact Kd.Q_nil _ _ _ _ _ | exact Kd.S_nil _ _ _ _ _⟩, ⟨by first | exact Kd.R_nil _ _ _ _ _ | exact Kd.N_nil _ _ _ _ _ | exact Kd.V_nil _ _ _ _ _ | exact Kd.Q_nil _ _ _ _ _ | exact Kd.S_nil _ _ _ _ _⟩, ⟨by (with_reducible repeat (first | apply Kd.R_alloc | apply Kd.R_drewN | apply Kd.R_drew)); exact Kd.R_mono (Kd.R_far (p := ⟨gb266, 5, none⟩) (Kd.R_far (p := ⟨gb266, 4, none⟩) (Kd.R_far (p := ⟨gb266, 3, none⟩) (Kd.R_far (p := ⟨gb266, 2, none⟩) (Kd.R_far (p := ⟨gb266, 1, none⟩) (Kd.R_far (p := ⟨gb266, 0, none⟩) (Kd.R_types HO262.out BK266.out (by decide)) (fun _ hk => hk.2) (.int .i64 t258)) (fun _ hk => hk.2) (.int .u8 t259)) (fun _ hk => hk.2) (.slice Ao15 t260.length co15)) (fun _ hk => hk.2) (.int .i64 t263)) (fun _ hk => hk.2) (.int .i64 t264)) (fun _ hk => hk.2) (.int .i64 t265)) (fun _ hk => ⟨(by simp [Value.ownBlock]), (by simp [Value.ownBlock])⟩)⟩, ⟨by (with_reducible repeat (first | refine blk_drewN ?_ _ | refine blk_drew ?_ | refine blk_alloc ?_ _)); refine blk_put (cs := #[.int .i64 t258, .int .u8 t259, .slice Ao15 t260.length co15, .int .i64 t263, .int .i64 t264, .int .i64 0]) ?_ 5 _ rfl; (with_reducible repeat (first | refine blk_drewN ?_ _ | refine blk_drew ?_ | refine blk_alloc ?_ _)); refine blk_put (cs := #[.int .i64 t258, .int .u8 t259, .slice Ao15 t260.length co15, .int .i64 t263, .int .i64 0, .int .i64 0]) ?_ 4 _ rfl; (with_reducible repeat (first | refine blk_drewN ?_ _ | refine blk_drew ?_ | refine blk_alloc ?_ _)); refine blk_put (cs := #[.int .i64 t258, .int .u8 t259, .slice Ao15 t260.length co15, .int .i64 0, .int .i64 0, .int .i64 0]) ?_ 3 _ rfl; (with_reducible repeat (first | refine blk_drewN ?_ _ | refine blk_drew ?_ | refine blk_alloc ?_ _)); refine blk_put (cs := #[.int .i64 t258, .int .u8 t259, .slice none 0 0, .int .i64 0, .int .i64 0, .int .i64 0]) ?_ 2 _ rfl; (with_reducible repeat (first | refine blk_drewN ?_ _ | refine blk_drew ?_ | refine blk_alloc ?_ _)); refine blk_put (cs := #[.int .i64 t258, .int .u8 0, .slice none 0 0, .int .i64 0, .int .i64 0, .int .i64 0]) ?_ 1 _ rfl; (with_reducible repeat (first | refine blk_drewN ?_ _ | refine blk_drew ?_ | refine blk_alloc ?_ _)); refine blk_put (cs := #[.int .i64 0, .int .u8 0, .slice none 0 0, .int .i64 0, .int .i64 0, .int .i64 0]) ?_ 0 _ rfl; (with_reducible repeat (first | refine blk_drewN ?_ _ | refine blk_drew ?_ | refine blk_alloc ?_ _)); exact BK266.out⟩, ⟨by repeat (first | (with_reducible first | exact HB.out | apply below_alloc | apply pw_below_drewN | apply below_drew1 | refine below_set ?_ GE266.out) | exact HB.out)⟩⟩
        case round =>
          clear H'
          try clear c1
          try clear p2
          try clear c4
          try clear c5
          try clear c8
          try clear hcz14_0
          try clear hcz14_1
          try clear hcz14_2
          try clear hcz14_3
          try clear hcz14_4
          try clear hcz14_5
          try clear hfz14_0
          try clear hfz14_1
          try clear hfz14_2
          try clear hfz14_3
          try clear hfz14_4
          try clear hfz14_5
          try clear p2
          obtain ⟨x6_2, x7_2, x8_2, x267000_2, x267001_2, x267002_2, x267003_2, x267004_2, x267005_2, u267002, rfl, HA, HK2, HO_6, HO_7, HO_267002, BK266, HB⟩ := hrel
          cases gk with
          | zero => exact absurd HA.out (by simp [capnplaw25_UnpackstreamChunks.l0])
          | succ k2 =>
            have H := HA.out
            clear HA
            simp only [capnplaw25_UnpackstreamChunks.l0] at H
            by_cases c16 : x8_2 < (l0.length : Int)
            · rw [if_pos c16] at H
              have c16b0 : decide (x8_2 < (l0.length : Int)) = true := decide_eq_true c16
              clear c16
              by_cases c17 : 0 ≤ x8_2
              · rw [if_pos c17] at H
                have c17b0 : decide (0 ≤ x8_2) = true := decide_eq_true c17
                clear c17
                by_cases c18 : (wrap64 ((x6_2.length : Int) + ((rd_L2 l0 x8_2).length : Int))) > 600
                · rw [if_pos c18] at H
                  have c18b0 : decide (600 < (wrap64 ((x6_2.length : Int) + ((rd_L2 l0 x8_2).length : Int)))) = true := decide_eq_true c18
                  clear c18
                  obtain rfl := Option.some.inj H
                  obtain ⟨Ao19, co19, eo19⟩ := Kd.R_slice HO_6.out
                  subst eo19
                  have p273 : 0 ≤ (x8_2 : Int) := of_decide_eq_true pA
                  have q273 : x8_2 < (l0.length : Int) := of_decide_eq_true pA
                  obtain ⟨ad273, A273_0, c273_0, e273, hx273_0, hl273_0, hi273_0⟩ := at_L2 HR0.out x8_2 p273 q273
                  cases e273
                  replace hx273_0 := (HB.out.cell (World.block_lt_of_cell? w _ hx273_0)).trans hx273_0
                  have HR273_0 := Aside0.mk hi273_0
                  have HC273_0 := Aside0.mk hl273_0
                  clear hi273_0 hl273_0
                  replace p273 := eq_true p273
                  replace q273 := eq_true q273
                  go_wp2
                  go_ret
                  exact ⟨by first | rfl | (simp [errW_none, errW_some] <;> rfl) | (simp [*, errW_none, errW_some] <;> rfl), by repeat (first | (with_reducible first | exact HB.out | apply below_alloc | apply pw_below_drewN | apply below_drew1 | refine below_set ?_ GE266.out) | exact HB.out)⟩
                · rw [if_neg c18] at H
                  have c18b0 : decide (600 < (wrap64 ((x6_2.length : Int) + ((rd_L2 l0 x8_2).length : Int)))) = false := decide_eq_false c18
                  clear c18
                  by_cases c20 : x6_2.length + (rd_L2 l0 x8_2).length < 140737488355328
                  · rw [if_pos c20] at H
                    have LMc20 := Aside0.mk c20
                    clear c20
                    obtain ⟨y275, hy275⟩ : ∃ y_ : List Int, y_ = (x6_2 ++ (rd_L2 l0 x8_2)) := ⟨_, rfl⟩
                    replace H : ((unpackstream_Write.f x267000_2 x267001_2 x267002_2 x267003_2 x267004_2 x267005_2 (rd_L2 l0 x8_2) a1).bind fun bt279 => (if bt279.2.2.2.2.2.2.2 = bt279.2.2.2.2.2.1 then (if x7_2.length + bt279.2.2.2.2.2.2.1.length < 140737488355328 then (capnplaw25_UnpackstreamChunks.l0 k2 l0 a1 y275 (x7_2 ++ bt279.2.2.2.2.2.2.1) (wrap64 (x8_2 + 1)) bt279.1 bt279.2.1 bt279.2.2.1 bt279.2.2.2.1 bt279.2.2.2.2.1 bt279.2.2.2.2.2.1) else (none)) else (some false))) = some r := by first | (rw [hy275]; with_reducible exact H) | (have H2_ := (Option.bind_some _ _).symm.trans H; rw [hy275]; with_reducible exact H2_) | (have H2_ := (Option.bind_some _ _).symm.trans H; with_reducible exact H2_) | with_reducible exact H | (rw [hy275]; exact H) | exact H
                    have Ny275 := Aside0.mk hy275
                    clear hy275
                    replace H := Option.bind_eq_some_iff.mp H
                    obtain ⟨⟨t279, t280, t281, t284, t285, t286, t287, t290⟩, A210, H⟩ := H
                    replace H : (if t290 = t286 then (if x7_2.length + t287.length < 140737488355328 then (capnplaw25_UnpackstreamChunks.l0 k2 l0 a1 y275 (x7_2 ++ t287) (wrap64 (x8_2 + 1)) t279 t280 t281 t284 t285 t286) else (none)) else (some false)) = some r := H
                    have A21 := Aside0.mk A210
                    clear A210
                    by_cases c22 : t290 = t286
                    · rw [if_pos c22] at H
                      have c22b0 : (t290 == t286) = true := beq_iff_eq.mpr c22
                      have c22b1 : (t290 != t286) = false := bne_eq_false_iff_eq.mpr c22
                      clear c22
                      by_cases c23 : x7_2.length + t287.length < 140737488355328
                      · rw [if_pos c23] at H
                        have LMc23 := Aside0.mk c23
                        clear c23
                        obtain ⟨y292, hy292⟩ : ∃ y_ : List Int, y_ = (x7_2 ++ t287) := ⟨_, rfl⟩
                        replace H : (capnplaw25_UnpackstreamChunks.l0 k2 l0 a1 y275 y292 (wrap64 (x8_2 + 1)) t279 t280 t281 t284 t285 t286) = some r := by first | (rw [hy292]; with_reducible exact H) | (have H2_ := (Option.bind_some _ _).symm.trans H; rw [hy292]; with_reducible exact H2_) | (have H2_ := (Option.bind_some _ _).symm.trans H; with_reducible exact H2_) | with_reducible exact H | (rw [hy292]; exact H) | exact H
                        have Ny292 := Aside0.mk hy292
                        clear hy292
                        have H' := Aside0.mk H
                        clear H
                        obtain ⟨Ao24, co24, eo24⟩ := Kd.R_slice HO_6.out
                        subst eo24
                        have p273 : 0 ≤ (x8_2 : Int) := of_decide_eq_true pA
                        have q273 : x8_2 < (l0.length : Int) := of_decide_eq_true pA
                        obtain ⟨ad273, A273_0, c273_0, e273, hx273_0, hl273_0, hi273_0⟩ := at_L2 HR0.out x8_2 p273 q273
                        cases e273
                        replace hx273_0 := (HB.out.cell (World.block_lt_of_cell? w _ hx273_0)).trans hx273_0
                        have HR273_0 := Aside0.mk hi273_0
                        have HC273_0 := Aside0.mk hl273_0
                        clear hi273_0 hl273_0
                        replace p273 := eq_true p273
                        replace q273 := eq_true q273
                        have p274 : 0 ≤ (x8_2 : Int) := of_decide_eq_true pA
                        have q274 : x8_2 < (l0.length : Int) := of_decide_eq_true pA
                        obtain ⟨ad274, A274_0, c274_0, e274, hx274_0, hl274_0, hi274_0⟩ := at_L2 HR0.out x8_2 p274 q274
                        obtain rfl : ad273 = ad274 := (by injection e274)
                        replace hx274_0 := (HB.out.cell (World.block_lt_of_cell? w _ hx274_0)).trans hx274_0
                        have HR274_0 := Aside0.mk hi274_0
                        have HC274_0 := Aside0.mk hl274_0
                        clear hi274_0 hl274_0
                        replace p274 := eq_true p274
                        replace q274 := eq_true q274
                        have ea_ := Option.some.inj (hx273_0.symm.trans hx274_0)
                        injection ea_ with ea_ en_ ec_
                        subst ea_
                        subst ec_
                        clear en_
                        try go_wp2_with (first | ((with_reducible refine gate_builtin (b := .append) (xs := #[.tmp 38, .tmp 42]) rfl ?_); (try (refine gate_guard (by rfl) ?_; dsimp only)); at_builtin; refine Kd.R_append_rows (Kd.int .u8) (w0 := w) w.heap.size rfl (.tmp 38) (.tmp 42) 22 5 (.int .u8 0) 1 rfl Tryd.underlying22 info5 rfl (by decide) (by omega) (.slice Ao24 x6_2.length co24) x6_2 (rd_L2 l0 x8_2) _ _ _ (fun k_ => some k_ ≠ (u7 : Value).ownBlock ∧ some k_ ≠ (u267002 : Value).ownBlock) (fun _ => False) rfl rfl ?aO ?aR (fun _ _ h => h) (fun _ h => h.elim) ?aF ?aB ?aS ?aL ?_; (case aR => repeat (first | exact (Kd.C_below HR274_0.out HB.out) | (with_reducible refine Kd.C_alloc ?_ _) | (with_reducible refine Kd.C_drewN ?_ _) | (with_reducible refine Kd.C_drew ?_))); (case aB => exact (by repeat (first | (with_reducible first | exact HB.out | apply below_alloc | apply pw_below_drewN | apply below_drew1 | refine below_set ?_ GE266.out) | exact HB.out))); (case aF => exact (fun k_ hk => ⟨Kd.fresh' (Kd.R_lt (pR HO_7)) k_ hk, Kd.fresh' (Kd.R_lt (pR HO_267002)) k_ hk⟩)); (case aO => exact (pR HO_6)); (case aS => exact (below_size (by repeat (first | (with_reducible first | exact HB.out | apply below_alloc | apply pw_below_drewN | apply below_drew1 | refine below_set ?_ GE266.out) | exact HB.out)))); (case aL => have := LMc20.out; omega); intro v276 w25 ho hb hg hat; rw [← Ny275.out] at ho; have n0_ := Aside0.mk (Kd.R_after (ok := (fun k_ => some k_ ≠ (u267002 : Value).ownBlock)) (by (with_reducible repeat (first | apply Kd.R_alloc | apply Kd.R_drewN | apply Kd.R_drew)); exact Kd.R_mono HO_7.out (fun _ hk => ⟨hk.2, hk.1⟩)) hg hat); have n1_ := Aside0.mk (Kd.R_after (ok := (fun k_ => some k_ ≠ (u7 : Value).ownBlock)) (by (with_reducible repeat (first | apply Kd.R_alloc | apply Kd.R_drewN | apply Kd.R_drew)); exact Kd.R_mono HO_267002.out (fun _ hk => ⟨hk.2, hk.1⟩)) hg hat); have n2_ := Aside0.mk (blk_grown (g := gb266) (o := .cells #[.int .i64 x267000_2, .int .u8 x267001_2, u267002, .int .i64 x267003_2, .int .i64 x267004_2, .int .i64 x267005_2] 25 (0, 0)) (pK BK266) hg (Kd.R_ne HO_6.out BK266.out (by decide))); have n3_ := Aside0.mk (hb); have n4_ := Aside0.mk (ho); clear HO_7; clear HO_267002; clear BK266; clear HB; clear HO_6; have HO_7 := n0_; have HO_267002 := n1_; have BK266 := n2_; have HB := n3_; have HO277 := n4_; clear n0_ n1_ n2_ n3_ n4_; clear ho hb hg hat; obtain ⟨Ao26, co26, eo26⟩ := Kd.R_slice HO_267002.out; subst eo26))
                        have n0_ := Aside0.mk (Kd.R_drew HO_7.out)
                        have n1_ := Aside0.mk (Kd.R_drew HO_267002.out)
                        have n2_ := Aside0.mk (Kd.R_drew HO277.out)
                        have n3_ := Aside0.mk (blk_drew BK266.out)
                        have n4_ := Aside0.mk (below_drew1 HB.out)
                        clear HO_7
                        clear HO_267002
                        clear HO277
                        clear BK266
                        clear HB
                        have HO_7 := n0_
                        have HO_267002 := n1_
                        have HO277 := n2_
                        have BK266 := n3_
                        have HB := n4_
                        clear n0_ n1_ n2_ n3_ n4_
                        have p278 : 0 ≤ (x8_2 : Int) := of_decide_eq_true pA
                        have q278 : x8_2 < (l0.length : Int) := of_decide_eq_true pA
                        obtain ⟨ad278, A278_0, c278_0, e278, hx278_0, hl278_0, hi278_0⟩ := at_L2 HR0.out x8_2 p278 q278
                        have hw278_0 := hx278_0
                        obtain rfl : ad273 = ad278 := (by injection e278)
                        replace hx278_0 := (HB.out.cell (World.block_lt_of_cell? w _ hx278_0)).trans hx278_0
                        have HR278_0 := Aside0.mk hi278_0
                        have HC278_0 := Aside0.mk hl278_0
                        clear hi278_0 hl278_0
                        replace p278 := eq_true p278
                        replace q278 := eq_true q278
                        refine start_ (n := 15) (S := fun w' => w'.cell? ⟨gb266, 0, none⟩ = some (.int .i64 x267000_2) ∧ w'.cell? ⟨gb266, 1, none⟩ = some (.int .u8 x267001_2) ∧ w'.cell? ⟨gb266, 2, none⟩ = some (.slice Ao26 x267002_2.length co26) ∧ w'.cell? ⟨gb266, 3, none⟩ = some (.int .i64 x267003_2) ∧ w'.cell? ⟨gb266, 4, none⟩ = some (.int .i64 x267004_2) ∧ w'.cell? ⟨gb266, 5, none⟩ = some (.int .i64 x267005_2) ∧ w'.cell? (ad273.add (x8_2).toNat) = some (.slice A278_0 (rd_L2 l0 x8_2).length c278_0)) (ds := []) #[false, false, false, false, false, false, false, false, false, false, false, false, false, false, false] (by kernel_rfl) rfl rfl ⟨(blk_cell BK266.out 0).trans rfl, (blk_cell BK266.out 1).trans rfl, (blk_cell BK266.out 2).trans rfl, (blk_cell BK266.out 3).trans rfl, (blk_cell BK266.out 4).trans rfl, (blk_cell BK266.out 5).trans rfl, ((HB.out.cell (World.block_lt_of_cell? w _ hw278_0)).trans hw278_0)⟩ (fun hHeld => ?_); refine with_tabW capnplaw25_UnpackstreamChunks.tab11 capnplaw25_UnpackstreamChunks.bits11 (fun HT_ HW_ => ?_)
                        generalize w25.drew = w27 at HO_7 HO_267002 HO277 BK266 HB HR278_0 hx278_0 hHeld ⊢
                        refine pure_ (i := 1) (N := some 46) (v := ?_) (a' := ?_) #[false, true, false, false, false, false, false, false, false, false, false, false, false, false, false] rfl rfl (any_of HT_.out (by kernel_rfl)) (fun _ _ _ h => h) (Or.inl ⟨by rfl, ?_⟩) ?_ ?_
                        rotate_left
                        · intro w'
                          go_simp
                          with_reducible rfl
                        rotate_left
                        · simp only [Act.put, List.setIfInBounds_toArray, List.set_cons_zero, List.set_cons_succ, i64_w, i32_w]
                          rfl
                        refine pure_ (i := 2) (N := some 47) (v := ?_) (a' := ?_) #[false, true, true, false, false, false, false, false, false, false, false, false, false, false, false] rfl rfl (any_of HT_.out (by kernel_rfl)) (fun _ _ _ h => h) (Or.inl ⟨by rfl, ?_⟩) ?_ ?_
                        rotate_left
                        · intro w'
                          go_simp
                          with_reducible rfl
                        rotate_left
                        · simp only [Act.put, List.setIfInBounds_toArray, List.set_cons_zero, List.set_cons_succ, i64_w, i32_w]
                          rfl
                        refine pure_ (i := 3) (N := some 48) (v := ?_) (a' := ?_) #[false, true, true, true, false, false, false, false, false, false, false, false, false, false, false] rfl rfl (any_of HT_.out (by kernel_rfl)) (fun _ _ _ h => h) (Or.inl ⟨by rfl, ?_⟩) ?_ ?_
                        rotate_left
                        · intro w'
                          go_simp
                          with_reducible rfl
                        rotate_left
                        · simp only [Act.put, List.setIfInBounds_toArray, List.set_cons_zero, List.set_cons_succ, i64_w, i32_w]
                          rfl
                        refine pure_ (i := 5) (N := some 50) (v := ?_) (a' := ?_) #[false, true, true, true, false, true, false, false, false, false, false, false, false, false, false] rfl rfl (any_of HT_.out (by kernel_rfl)) (fun _ _ _ h => h) (Or.inl ⟨by rfl, ?_⟩) ?_ ?_
                        rotate_left
                        · intro w'
                          go_simp
                          with_reducible rfl
                        rotate_left
                        · simp only [Act.put, List.setIfInBounds_toArray, List.set_cons_zero, List.set_cons_succ, i64_w, i32_w]
                          rfl
                        refine take_ (i := 0) (N := some 45) (v := ?_) (a' := ?_) #[true, true, true, true, false, true, false, false, false, false, false, false, false, false, false] rfl rfl (take_ofW HT_.out HW_.out (by kernel_rfl)) (fun _ _ _ h => h) (Or.inl ⟨by rfl, ?_⟩) hHeld ?_ ?_
                        rotate_left
                        · rintro w' ⟨s0, s1, s2, s3, s4, s5, s6⟩
                          go_simp
                          with_reducible rfl
                        rotate_left
                        · simp only [Act.put, List.setIfInBounds_toArray, List.set_cons_zero, List.set_cons_succ, i64_w, i32_w]
                          rfl
                        refine take_ (i := 4) (N := some 49) (v := ?_) (a' := ?_) #[true, true, true, true, true, true, false, false, false, false, false, false, false, false, false] rfl rfl (take_ofW HT_.out HW_.out (by kernel_rfl)) (fun _ _ _ h => h) (Or.inl ⟨by rfl, ?_⟩) hHeld ?_ ?_
                        rotate_left
                        · rintro w' ⟨s0, s1, s2, s3, s4, s5, s6⟩
                          go_simp
                          with_reducible rfl
                        rotate_left
                        · simp only [Act.put, List.setIfInBounds_toArray, List.set_cons_zero, List.set_cons_succ, i64_w, i32_w]
                          rfl
                        refine join_ (σ := Value × Value × Nat) 3 #[true, true, true, true, true, true, true, true, true, true, true, true, false, false, false] (fun s_ => [(51, .tuple #[.agg #[.int .i64 t279, .int .u8 t280, s_.1, .int .i64 t284, .int .i64 t285, .int .i64 t286], s_.2.1, .int .i64 t290]), (9, .pointer (some ⟨s_.2.2, 0, none⟩)), (44, .tuple #[.agg #[.int .i64 t279, .int .u8 t280, s_.1, .int .i64 t284, .int .i64 t285, .int .i64 t286], s_.2.1, .int .i64 t290]), (52, .agg #[.int .i64 t279, .int .u8 t280, s_.1, .int .i64 t284, .int .i64 t285, .int .i64 t286]), (53, s_.2.1), (54, .int .i64 t290)]) (fun s_ w' => (w'.cell? ⟨gb266, 0, none⟩ = some (.int .i64 x267000_2) ∧ w'.cell? ⟨gb266, 1, none⟩ = some (.int .u8 x267001_2) ∧ w'.cell? ⟨gb266, 2, none⟩ = some (.slice Ao26 x267002_2.length co26) ∧ w'.cell? ⟨gb266, 3, none⟩ = some (.int .i64 x267003_2) ∧ w'.cell? ⟨gb266, 4, none⟩ = some (.int .i64 x267004_2) ∧ w'.cell? ⟨gb266, 5, none⟩ = some (.int .i64 x267005_2) ∧ w'.cell? (ad273.add (x8_2).toNat) = some (.slice A278_0 (rd_L2 l0 x8_2).length c278_0)) ∧ (Kd.R (Kd.int .u8) 5 w' w.heap.size (fun k_ => some k_ ≠ (s_.1 : Value).ownBlock ∧ some k_ ≠ (s_.2.1 : Value).ownBlock ∧ some k_ ≠ (.slice Ao26 x267002_2.length co26 : Value).ownBlock ∧ some k_ ≠ (u7 : Value).ownBlock) v276 y275) ∧ (Kd.R (Kd.int .u8) 5 w' w.heap.size (fun k_ => some k_ ≠ (v276 : Value).ownBlock ∧ some k_ ≠ (s_.2.1 : Value).ownBlock ∧ some k_ ≠ (.slice Ao26 x267002_2.length co26 : Value).ownBlock ∧ some k_ ≠ (u7 : Value).ownBlock) s_.1 t281) ∧ (Kd.R (Kd.int .u8) 5 w' w.heap.size (fun k_ => some k_ ≠ (v276 : Value).ownBlock ∧ some k_ ≠ (s_.1 : Value).ownBlock ∧ some k_ ≠ (.slice Ao26 x267002_2.length co26 : Value).ownBlock ∧ some k_ ≠ (u7 : Value).ownBlock) s_.2.1 t287) ∧ (Kd.R (Kd.int .u8) 5 w' w.heap.size (fun k_ => some k_ ≠ (v276 : Value).ownBlock ∧ some k_ ≠ (s_.1 : Value).ownBlock ∧ some k_ ≠ (s_.2.1 : Value).ownBlock ∧ some k_ ≠ (u7 : Value).ownBlock) (.slice Ao26 x267002_2.length co26) x267002_2) ∧ (Kd.R (Kd.int .u8) 5 w' w.heap.size (fun k_ => some k_ ≠ (v276 : Value).ownBlock ∧ some k_ ≠ (s_.1 : Value).ownBlock ∧ some k_ ≠ (s_.2.1 : Value).ownBlock ∧ some k_ ≠ (.slice Ao26 x267002_2.length co26 : Value).ownBlock) u7 x7_2) ∧ (w'.heap[gb266]? = some (.cells #[.int .i64 x267000_2, .int .u8 x267001_2, .slice Ao26 x267002_2.length co26, .int .i64 x267003_2, .int .i64 x267004_2, .int .i64 x267005_2] 25 (0, 0))) ∧ (w'.heap[s_.2.2]? = some (.cells #[.int .i64 0, .int .u8 0, .slice none 0 0, .int .i64 0, .int .i64 0, .int .i64 0] 25 (0, 0))) ∧ (w.heap.size ≤ s_.2.2) ∧ (w.heap.size ≤ s_.2.2) ∧ (gb266 ≠ s_.2.2) ∧ (s_.2.2 ≠ gb266) ∧ (Below w.heap.size w w')) ?_ ?_
                        rotate_left
                        · intro hCont
                          refine two_ (i := 6) (j := 11) (Ni := some 51) (Nj := some 9) #[true, true, true, true, true, true, true, false, false, false, false, false, false, false, false] #[true, true, true, true, true, true, false, false, false, false, false, true, false, false, false] rfl rfl rfl rfl (two_of HT_.out (by kernel_rfl)) (by decide) (by decide) (fun K hK => ?_) (fun K hK => ?_)
                          · skip
                            refine goes_ Tryd.func9 (by kernel_rfl) rfl #[.agg #[.int .i64 x267000_2, .int .u8 x267001_2, .slice Ao26 x267002_2.length co26, .int .i64 x267003_2, .int .i64 x267004_2, .int .i64 x267005_2], .slice A278_0 (rd_L2 l0 x8_2).length c278_0, .int .i64 a1] (by rfl) rfl rfl pM ?_
                            with_reducible refine (unpackstream_Write.calls x267000_2 x267001_2 _ _ x267002_2 x267003_2 x267004_2 x267005_2 _ _ (rd_L2 l0 x8_2) a1 t279 t280 t281 t284 t285 t286 t287 t290 _ ?side1 ?side2 ?side3 ?side4 A21.out (Go.Proofs.YtpffoecblcfndaaDoor.Us.StepsL.below HL.out pB)).mono ?_
                            (case side1 => repeat (first | exact (Kd.R_reads' HO_267002.out).2.2 | (with_reducible refine Kd.C_alloc ?_ _) | (with_reducible refine Kd.C_drewN ?_ _) | (with_reducible refine Kd.C_drew ?_)))
                            (case side2 => exact (Kd.R_reads' HO_267002.out).2.1)
                            (case side3 => repeat (first | exact (Kd.C_below HR278_0.out HB.out) | (with_reducible refine Kd.C_alloc ?_ _) | (with_reducible refine Kd.C_drewN ?_ _) | (with_reducible refine Kd.C_drew ?_)))
                            (case side4 => exact HC278_0.out)
                            rintro e w28 ⟨v282, v288, rfl, ho0, ho1, hb⟩
                            refine ⟨_, rfl, ?_⟩
                            have n0_ := Aside0.mk (Kd.R_mono (Kd.R_told (Kd.R_told (Kd.R_old (pR HO_7) hb) (Kd.R_base ho0)) (Kd.R_base ho1)) (fun _ h_ => h_.1))
                            have n1_ := Aside0.mk (Kd.R_mono (Kd.R_told (Kd.R_told (Kd.R_old (pR HO_267002) hb) (Kd.R_base ho0)) (Kd.R_base ho1)) (fun _ h_ => h_.1))
                            have n2_ := Aside0.mk (Kd.R_mono (Kd.R_told (Kd.R_told (Kd.R_old (pR HO277) hb) (Kd.R_base ho0)) (Kd.R_base ho1)) (fun _ h_ => h_.1))
                            have n3_ := Aside0.mk (Kd.R_lower (Kd.R_new' (Kd.R_new' (Kd.R_new' ho0 (Kd.R_lt (pR HO_7))) (Kd.R_lt (pR HO_267002))) (Kd.R_lt (pR HO277))) (below_size (by repeat (first | (with_reducible first | exact HB.out | apply below_alloc | apply pw_below_drewN | apply below_drew1 | refine below_set ?_ GE266.out) | exact HB.out))))
                            have n4_ := Aside0.mk (Kd.R_lower (Kd.R_new' (Kd.R_new' (Kd.R_new' ho1 (Kd.R_lt (pR HO_7))) (Kd.R_lt (pR HO_267002))) (Kd.R_lt (pR HO277))) (below_size (by repeat (first | (with_reducible first | exact HB.out | apply below_alloc | apply pw_below_drewN | apply below_drew1 | refine below_set ?_ GE266.out) | exact HB.out))))
                            have n5_ := Aside0.mk (blk_below (g := gb266) (o := .cells #[.int .i64 x267000_2, .int .u8 x267001_2, .slice Ao26 x267002_2.length co26, .int .i64 x267003_2, .int .i64 x267004_2, .int .i64 x267005_2] 25 (0, 0)) (pK BK266) hb)
                            have n6_ := Aside0.mk (below_step (by repeat (first | (with_reducible first | exact HB.out | apply below_alloc | apply pw_below_drewN | apply below_drew1 | refine below_set ?_ GE266.out) | exact HB.out)) hb)
                            clear HO_7
                            clear HO_267002
                            clear HO277
                            clear BK266
                            clear HB
                            have HO_7 := n0_
                            have HO_267002 := n1_
                            have HO277 := n2_
                            have HO283 := n3_
                            have HO289 := n4_
                            have BK266 := n5_
                            have HB := n6_
                            clear n0_ n1_ n2_ n3_ n4_ n5_ n6_
                            (try clear hb)
                            (try clear hb2)
                            (try clear hk)
                            (try clear hi)
                            (try clear ho0)
                            (try clear ho1)
                            refine hK.out _ _ ⟨(blk_cell BK266.out 0).trans rfl, (blk_cell BK266.out 1).trans rfl, (blk_cell BK266.out 2).trans rfl, (blk_cell BK266.out 3).trans rfl, (blk_cell BK266.out 4).trans rfl, (blk_cell BK266.out 5).trans rfl, ((HB.out.cell (World.block_lt_of_cell? w _ hw278_0)).trans hw278_0)⟩ (fun hHeld => ?_)
                            clear hK K
                            refine norm_ (a' := ?_) ?_ ?_
                            rotate_left
                            · show Act.put _ (some 51) _ = _
                              simp only [Act.put, List.setIfInBounds_toArray, List.set_cons_zero, List.set_cons_succ, i64_w, i32_w]
                              rfl
                            refine pure_ (i := 7) (N := some 44) (v := ?_) (a' := ?_) #[true, true, true, true, true, true, true, true, false, false, false, false, false, false, false] rfl rfl (any_of HT_.out (by kernel_rfl)) (fun _ _ _ h => h) (Or.inl ⟨by rfl, ?_⟩) ?_ ?_
                            rotate_left
                            · intro w'
                              go_simp
                              with_reducible rfl
                            rotate_left
                            · simp only [Act.put, List.setIfInBounds_toArray, List.set_cons_zero, List.set_cons_succ, i64_w, i32_w]
                              rfl
                            refine pure_ (i := 8) (N := some 52) (v := ?_) (a' := ?_) #[true, true, true, true, true, true, true, true, true, false, false, false, false, false, false] rfl rfl (any_of HT_.out (by kernel_rfl)) (fun _ _ _ h => h) (Or.inl ⟨by rfl, ?_⟩) ?_ ?_
                            rotate_left
                            · intro w'
                              go_simp
                              with_reducible rfl
                            rotate_left
                            · simp only [Act.put, List.setIfInBounds_toArray, List.set_cons_zero, List.set_cons_succ, i64_w, i32_w]
                              rfl
                            refine pure_ (i := 9) (N := some 53) (v := ?_) (a' := ?_) #[true, true, true, true, true, true, true, true, true, true, false, false, false, false, false] rfl rfl (any_of HT_.out (by kernel_rfl)) (fun _ _ _ h => h) (Or.inl ⟨by rfl, ?_⟩) ?_ ?_
                            rotate_left
                            · intro w'
                              go_simp
                              with_reducible rfl
                            rotate_left
                            · simp only [Act.put, List.setIfInBounds_toArray, List.set_cons_zero, List.set_cons_succ, i64_w, i32_w]
                              rfl
                            refine pure_ (i := 10) (N := some 54) (v := ?_) (a' := ?_) #[true, true, true, true, true, true, true, true, true, true, true, false, false, false, false] rfl rfl (any_of HT_.out (by kernel_rfl)) (fun _ _ _ h => h) (Or.inl ⟨by rfl, ?_⟩) ?_ ?_
                            rotate_left
                            · intro w'
                              go_simp
                              with_reducible rfl
                            rotate_left
                            · simp only [Act.put, List.setIfInBounds_toArray, List.set_cons_zero, List.set_cons_succ, i64_w, i32_w]
                              rfl
                            refine one_ (i := 11) (N := some 9) #[true, true, true, true, true, true, true, true, true, true, true, true, false, false, false] rfl rfl (one_of HT_.out (by kernel_rfl)) (by decide) (fun K hK => ?_)
                            refine box_step ?hg (N := 9) ?hd (cs := #[.int .i64 0, .int .u8 0, .slice none 0 0, .int .i64 0, .int .i64 0, .int .i64 0]) (t := 25) ?hr ?_; (case hd => rfl); (case hg => rfl); (case hr => first | (go_simp; done) | (go_simp; rfl))
                            intro gb291 hg w29 hbox hb
                            have n0_ := Aside0.mk (Kd.R_below (pR HO_7) hb)
                            have n1_ := Aside0.mk (Kd.R_below (pR HO_267002) hb)
                            have n2_ := Aside0.mk (Kd.R_below (pR HO277) hb)
                            have n3_ := Aside0.mk (Kd.R_below (pR HO283) hb)
                            have n4_ := Aside0.mk (Kd.R_below (pR HO289) hb)
                            have n5_ := Aside0.mk (blk_below (g := gb266) (o := .cells #[.int .i64 x267000_2, .int .u8 x267001_2, .slice Ao26 x267002_2.length co26, .int .i64 x267003_2, .int .i64 x267004_2, .int .i64 x267005_2] 25 (0, 0)) (pK BK266) hb)
                            have n6_ := Aside0.mk (below_step (by repeat (first | (with_reducible first | exact HB.out | apply below_alloc | apply pw_below_drewN | apply below_drew1 | refine below_set ?_ GE266.out) | exact HB.out)) hb)
                            have n7_ := Aside0.mk (hbox)
                            have n8_ := Aside0.mk ((by rw [hg]; exact (below_size (by repeat (first | (with_reducible first | exact HB.out | apply below_alloc | apply pw_below_drewN | apply below_drew1 | refine below_set ?_ GE266.out) | exact HB.out))) : w.heap.size ≤ gb291))
                            have n9_ := Aside0.mk ((by rw [hg]; exact (below_size (by repeat (first | (with_reducible first | exact HB.out | apply below_alloc | apply pw_below_drewN | apply below_drew1 | refine below_set ?_ GE266.out) | exact HB.out))) : w.heap.size ≤ gb291))
                            have n10_ := Aside0.mk ((by rw [hg]; exact Nat.ne_of_lt (blk_lt (g := gb266) (o := .cells #[.int .i64 x267000_2, .int .u8 x267001_2, .slice Ao26 x267002_2.length co26, .int .i64 x267003_2, .int .i64 x267004_2, .int .i64 x267005_2] 25 (0, 0)) (pK BK266)) : gb266 ≠ gb291))
                            have n11_ := Aside0.mk ((by rw [hg]; exact Nat.ne_of_gt (blk_lt (g := gb266) (o := .cells #[.int .i64 x267000_2, .int .u8 x267001_2, .slice Ao26 x267002_2.length co26, .int .i64 x267003_2, .int .i64 x267004_2, .int .i64 x267005_2] 25 (0, 0)) (pK BK266)) : gb291 ≠ gb266))
                            clear HO_7
                            clear HO_267002
                            clear HO277
                            clear HO283
                            clear HO289
                            clear BK266
                            clear HB
                            have HO_7 := n0_
                            have HO_267002 := n1_
                            have HO277 := n2_
                            have HO283 := n3_
                            have HO289 := n4_
                            have BK266 := n5_
                            have HB := n6_
                            have BK291 := n7_
                            have GW291 := n8_
                            have GE291 := n9_
                            have NB266_291 := n10_
                            have NB291_266 := n11_
                            clear n0_ n1_ n2_ n3_ n4_ n5_ n6_ n7_ n8_ n9_ n10_ n11_
                            clear hb hbox hg
                            refine hK.out _ _ ⟨(blk_cell BK266.out 0).trans rfl, (blk_cell BK266.out 1).trans rfl, (blk_cell BK266.out 2).trans rfl, (blk_cell BK266.out 3).trans rfl, (blk_cell BK266.out 4).trans rfl, (blk_cell BK266.out 5).trans rfl, ((HB.out.cell (World.block_lt_of_cell? w _ hw278_0)).trans hw278_0)⟩ (fun hHeld => ?_)
                            clear hK K
                            refine norm_ (a' := ?_) ?_ ?_
                            rotate_left
                            · show Act.put _ (some 9) _ = _
                              simp only [Act.put, List.setIfInBounds_toArray, List.set_cons_zero, List.set_cons_succ, i64_w, i32_w]
                              rfl
                            exact norm_ (by simp only [putAll, Act.put, List.setIfInBounds_toArray, List.set_cons_zero, List.set_cons_succ]) (hCont (v282, v288, gb291) _ ⟨hHeld, (by (with_reducible repeat (first | apply Kd.R_alloc | apply Kd.R_drewN | apply Kd.R_drew)); exact Kd.R_mono HO277.out (fun _ hk => ⟨hk.1.2, ⟨hk.2, ⟨hk.1.1.2, hk.1.1.1⟩⟩⟩)), (by (with_reducible repeat (first | apply Kd.R_alloc | apply Kd.R_drewN | apply Kd.R_drew)); exact Kd.R_mono HO283.out (fun _ hk => ⟨hk.2, ⟨hk.1.1.1, ⟨hk.1.2, hk.1.1.2⟩⟩⟩)), (by (with_reducible repeat (first | apply Kd.R_alloc | apply Kd.R_drewN | apply Kd.R_drew)); exact Kd.R_mono HO289.out (fun _ hk => ⟨hk.2, ⟨hk.1.1.1, ⟨hk.1.2, hk.1.1.2⟩⟩⟩)), (by (with_reducible repeat (first | apply Kd.R_alloc | apply Kd.R_drewN | apply Kd.R_drew)); exact Kd.R_mono HO_267002.out (fun _ hk => ⟨hk.1.1.2, ⟨hk.1.2, ⟨hk.2, hk.1.1.1⟩⟩⟩)), (by (with_reducible repeat (first | apply Kd.R_alloc | apply Kd.R_drewN | apply Kd.R_drew)); exact Kd.R_mono HO_7.out (fun _ hk => ⟨hk.1.1.2, ⟨hk.1.2, ⟨hk.2, hk.1.1.1⟩⟩⟩)), (pK BK266), (pK BK291), GW291.out, GE291.out, NB266_291.out, NB291_266.out, (by repeat (first | (with_reducible first | exact HB.out | apply below_alloc | apply pw_below_drewN | apply below_drew1 | refine below_set ?_ GE266.out | refine below_set ?_ GE291.out) | exact HB.out))⟩)
                          · skip
                            refine box_step ?hg (N := 9) ?hd (cs := #[.int .i64 0, .int .u8 0, .slice none 0 0, .int .i64 0, .int .i64 0, .int .i64 0]) (t := 25) ?hr ?_; (case hd => rfl); (case hg => rfl); (case hr => first | (go_simp; done) | (go_simp; rfl))
                            intro gb291 hg w28 hbox hb
                            have n0_ := Aside0.mk (Kd.R_below (pR HO_7) hb)
                            have n1_ := Aside0.mk (Kd.R_below (pR HO_267002) hb)
                            have n2_ := Aside0.mk (Kd.R_below (pR HO277) hb)
                            have n3_ := Aside0.mk (blk_below (g := gb266) (o := .cells #[.int .i64 x267000_2, .int .u8 x267001_2, .slice Ao26 x267002_2.length co26, .int .i64 x267003_2, .int .i64 x267004_2, .int .i64 x267005_2] 25 (0, 0)) (pK BK266) hb)
                            have n4_ := Aside0.mk (below_step (by repeat (first | (with_reducible first | exact HB.out | apply below_alloc | apply pw_below_drewN | apply below_drew1 | refine below_set ?_ GE266.out) | exact HB.out)) hb)
                            have n5_ := Aside0.mk (hbox)
                            have n6_ := Aside0.mk ((by rw [hg]; exact (below_size (by repeat (first | (with_reducible first | exact HB.out | apply below_alloc | apply pw_below_drewN | apply below_drew1 | refine below_set ?_ GE266.out) | exact HB.out))) : w.heap.size ≤ gb291))
                            have n7_ := Aside0.mk ((by rw [hg]; exact (below_size (by repeat (first | (with_reducible first | exact HB.out | apply below_alloc | apply pw_below_drewN | apply below_drew1 | refine below_set ?_ GE266.out) | exact HB.out))) : w.heap.size ≤ gb291))
                            have n8_ := Aside0.mk ((by rw [hg]; exact Nat.ne_of_lt (blk_lt (g := gb266) (o := .cells #[.int .i64 x267000_2, .int .u8 x267001_2, .slice Ao26 x267002_2.length co26, .int .i64 x267003_2, .int .i64 x267004_2, .int .i64 x267005_2] 25 (0, 0)) (pK BK266)) : gb266 ≠ gb291))
                            have n9_ := Aside0.mk ((by rw [hg]; exact Nat.ne_of_gt (blk_lt (g := gb266) (o := .cells #[.int .i64 x267000_2, .int .u8 x267001_2, .slice Ao26 x267002_2.length co26, .int .i64 x267003_2, .int .i64 x267004_2, .int .i64 x267005_2] 25 (0, 0)) (pK BK266)) : gb291 ≠ gb266))
                            clear HO_7
                            clear HO_267002
                            clear HO277
                            clear BK266
                            clear HB
                            have HO_7 := n0_
                            have HO_267002 := n1_
                            have HO277 := n2_
                            have BK266 := n3_
                            have HB := n4_
                            have BK291 := n5_
                            have GW291 := n6_
                            have GE291 := n7_
                            have NB266_291 := n8_
                            have NB291_266 := n9_
                            clear n0_ n1_ n2_ n3_ n4_ n5_ n6_ n7_ n8_ n9_
                            clear hb hbox hg
                            refine hK.out _ _ ⟨(blk_cell BK266.out 0).trans rfl, (blk_cell BK266.out 1).trans rfl, (blk_cell BK266.out 2).trans rfl, (blk_cell BK266.out 3).trans rfl, (blk_cell BK266.out 4).trans rfl, (blk_cell BK266.out 5).trans rfl, ((HB.out.cell (World.block_lt_of_cell? w _ hw278_0)).trans hw278_0)⟩ (fun hHeld => ?_)
                            clear hK K
                            refine norm_ (a' := ?_) ?_ ?_
                            rotate_left
                            · show Act.put _ (some 9) _ = _
                              simp only [Act.put, List.setIfInBounds_toArray, List.set_cons_zero, List.set_cons_succ, i64_w, i32_w]
                              rfl
                            refine one_ (i := 6) (N := some 51) #[true, true, true, true, true, true, true, false, false, false, false, true, false, false, false] rfl rfl (one_of HT_.out (by kernel_rfl)) (by decide) (fun K hK => ?_)
                            refine goes_ Tryd.func9 (by kernel_rfl) rfl #[.agg #[.int .i64 x267000_2, .int .u8 x267001_2, .slice Ao26 x267002_2.length co26, .int .i64 x267003_2, .int .i64 x267004_2, .int .i64 x267005_2], .slice A278_0 (rd_L2 l0 x8_2).length c278_0, .int .i64 a1] (by rfl) rfl rfl pM ?_
                            with_reducible refine (unpackstream_Write.calls x267000_2 x267001_2 _ _ x267002_2 x267003_2 x267004_2 x267005_2 _ _ (rd_L2 l0 x8_2) a1 t279 t280 t281 t284 t285 t286 t287 t290 _ ?side1 ?side2 ?side3 ?side4 A21.out (Go.Proofs.YtpffoecblcfndaaDoor.Us.StepsL.below HL.out pB)).mono ?_
                            (case side1 => repeat (first | exact (Kd.R_reads' HO_267002.out).2.2 | (with_reducible refine Kd.C_alloc ?_ _) | (with_reducible refine Kd.C_drewN ?_ _) | (with_reducible refine Kd.C_drew ?_)))
                            (case side2 => exact (Kd.R_reads' HO_267002.out).2.1)
                            (case side3 => repeat (first | exact (Kd.C_below HR278_0.out HB.out) | (with_reducible refine Kd.C_alloc ?_ _) | (with_reducible refine Kd.C_drewN ?_ _) | (with_reducible refine Kd.C_drew ?_)))
                            (case side4 => exact HC278_0.out)
                            rintro e w29 ⟨v282, v288, rfl, ho0, ho1, hb⟩
                            refine ⟨_, rfl, ?_⟩
                            have n0_ := Aside0.mk (Kd.R_mono (Kd.R_told (Kd.R_told (Kd.R_old (pR HO_7) hb) (Kd.R_base ho0)) (Kd.R_base ho1)) (fun _ h_ => h_.1))
                            have n1_ := Aside0.mk (Kd.R_mono (Kd.R_told (Kd.R_told (Kd.R_old (pR HO_267002) hb) (Kd.R_base ho0)) (Kd.R_base ho1)) (fun _ h_ => h_.1))
                            have n2_ := Aside0.mk (Kd.R_mono (Kd.R_told (Kd.R_told (Kd.R_old (pR HO277) hb) (Kd.R_base ho0)) (Kd.R_base ho1)) (fun _ h_ => h_.1))
                            have n3_ := Aside0.mk (Kd.R_lower (Kd.R_new' (Kd.R_new' (Kd.R_new' ho0 (Kd.R_lt (pR HO_7))) (Kd.R_lt (pR HO_267002))) (Kd.R_lt (pR HO277))) (below_size (by repeat (first | (with_reducible first | exact HB.out | apply below_alloc | apply pw_below_drewN | apply below_drew1 | refine below_set ?_ GE266.out | refine below_set ?_ GE291.out) | exact HB.out))))
                            have n4_ := Aside0.mk (Kd.R_lower (Kd.R_new' (Kd.R_new' (Kd.R_new' ho1 (Kd.R_lt (pR HO_7))) (Kd.R_lt (pR HO_267002))) (Kd.R_lt (pR HO277))) (below_size (by repeat (first | (with_reducible first | exact HB.out | apply below_alloc | apply pw_below_drewN | apply below_drew1 | refine below_set ?_ GE266.out | refine below_set ?_ GE291.out) | exact HB.out))))
                            have n5_ := Aside0.mk (blk_below (g := gb266) (o := .cells #[.int .i64 x267000_2, .int .u8 x267001_2, .slice Ao26 x267002_2.length co26, .int .i64 x267003_2, .int .i64 x267004_2, .int .i64 x267005_2] 25 (0, 0)) (pK BK266) hb)
                            have n6_ := Aside0.mk (blk_below (g := gb291) (o := .cells #[.int .i64 0, .int .u8 0, .slice none 0 0, .int .i64 0, .int .i64 0, .int .i64 0] 25 (0, 0)) (pK BK291) hb)
                            have n7_ := Aside0.mk (below_step (by repeat (first | (with_reducible first | exact HB.out | apply below_alloc | apply pw_below_drewN | apply below_drew1 | refine below_set ?_ GE266.out | refine below_set ?_ GE291.out) | exact HB.out)) hb)
                            clear HO_7
                            clear HO_267002
                            clear HO277
                            clear BK266
                            clear BK291
                            clear HB
                            have HO_7 := n0_
                            have HO_267002 := n1_
                            have HO277 := n2_
                            have HO283 := n3_
                            have HO289 := n4_
                            have BK266 := n5_
                            have BK291 := n6_
                            have HB := n7_
                            clear n0_ n1_ n2_ n3_ n4_ n5_ n6_ n7_
                            (try clear hb)
                            (try clear hb2)
                            (try clear hk)
                            (try clear hi)
                            (try clear ho0)
                            (try clear ho1)
                            refine hK.out _ _ ⟨(blk_cell BK266.out 0).trans rfl, (blk_cell BK266.out 1).trans rfl, (blk_cell BK266.out 2).trans rfl, (blk_cell BK266.out 3).trans rfl, (blk_cell BK266.out 4).trans rfl, (blk_cell BK266.out 5).trans rfl, ((HB.out.cell (World.block_lt_of_cell? w _ hw278_0)).trans hw278_0)⟩ (fun hHeld => ?_)
                            clear hK K
                            refine norm_ (a' := ?_) ?_ ?_
                            rotate_left
                            · show Act.put _ (some 51) _ = _
                              simp only [Act.put, List.setIfInBounds_toArray, List.set_cons_zero, List.set_cons_succ, i64_w, i32_w]
                              rfl
                            refine pure_ (i := 7) (N := some 44) (v := ?_) (a' := ?_) #[true, true, true, true, true, true, true, true, false, false, false, true, false, false, false] rfl rfl (any_of HT_.out (by kernel_rfl)) (fun _ _ _ h => h) (Or.inl ⟨by rfl, ?_⟩) ?_ ?_
                            rotate_left
                            · intro w'
                              go_simp
                              with_reducible rfl
                            rotate_left
                            · simp only [Act.put, List.setIfInBounds_toArray, List.set_cons_zero, List.set_cons_succ, i64_w, i32_w]
                              rfl
                            refine pure_ (i := 8) (N := some 52) (v := ?_) (a' := ?_) #[true, true, true, true, true, true, true, true, true, false, false, true, false, false, false] rfl rfl (any_of HT_.out (by kernel_rfl)) (fun _ _ _ h => h) (Or.inl ⟨by rfl, ?_⟩) ?_ ?_
                            rotate_left
                            · intro w'
                              go_simp
                              with_reducible rfl
                            rotate_left
                            · simp only [Act.put, List.setIfInBounds_toArray, List.set_cons_zero, List.set_cons_succ, i64_w, i32_w]
                              rfl
                            refine pure_ (i := 9) (N := some 53) (v := ?_) (a' := ?_) #[true, true, true, true, true, true, true, true, true, true, false, true, false, false, false] rfl rfl (any_of HT_.out (by kernel_rfl)) (fun _ _ _ h => h) (Or.inl ⟨by rfl, ?_⟩) ?_ ?_
                            rotate_left
                            · intro w'
                              go_simp
                              with_reducible rfl
                            rotate_left
                            · simp only [Act.put, List.setIfInBounds_toArray, List.set_cons_zero, List.set_cons_succ, i64_w, i32_w]
                              rfl
                            refine pure_ (i := 10) (N := some 54) (v := ?_) (a' := ?_) #[true, true, true, true, true, true, true, true, true, true, true, true, false, false, false] rfl rfl (any_of HT_.out (by kernel_rfl)) (fun _ _ _ h => h) (Or.inl ⟨by rfl, ?_⟩) ?_ ?_
                            rotate_left
                            · intro w'
                              go_simp
                              with_reducible rfl
                            rotate_left
                            · simp only [Act.put, List.setIfInBounds_toArray, List.set_cons_zero, List.set_cons_succ, i64_w, i32_w]
                              rfl
                            exact norm_ (by simp only [putAll, Act.put, List.setIfInBounds_toArray, List.set_cons_zero, List.set_cons_succ]) (hCont (v282, v288, gb291) _ ⟨hHeld, (by (with_reducible repeat (first | apply Kd.R_alloc | apply Kd.R_drewN | apply Kd.R_drew)); exact Kd.R_mono HO277.out (fun _ hk => ⟨hk.1.2, ⟨hk.2, ⟨hk.1.1.2, hk.1.1.1⟩⟩⟩)), (by (with_reducible repeat (first | apply Kd.R_alloc | apply Kd.R_drewN | apply Kd.R_drew)); exact Kd.R_mono HO283.out (fun _ hk => ⟨hk.2, ⟨hk.1.1.1, ⟨hk.1.2, hk.1.1.2⟩⟩⟩)), (by (with_reducible repeat (first | apply Kd.R_alloc | apply Kd.R_drewN | apply Kd.R_drew)); exact Kd.R_mono HO289.out (fun _ hk => ⟨hk.2, ⟨hk.1.1.1, ⟨hk.1.2, hk.1.1.2⟩⟩⟩)), (by (with_reducible repeat (first | apply Kd.R_alloc | apply Kd.R_drewN | apply Kd.R_drew)); exact Kd.R_mono HO_267002.out (fun _ hk => ⟨hk.1.1.2, ⟨hk.1.2, ⟨hk.2, hk.1.1.1⟩⟩⟩)), (by (with_reducible repeat (first | apply Kd.R_alloc | apply Kd.R_drewN | apply Kd.R_drew)); exact Kd.R_mono HO_7.out (fun _ hk => ⟨hk.1.1.2, ⟨hk.1.2, ⟨hk.2, hk.1.1.1⟩⟩⟩)), (pK BK266), (pK BK291), GW291.out, GE291.out, NB266_291.out, NB291_266.out, (by repeat (first | (with_reducible first | exact HB.out | apply below_alloc | apply pw_below_drewN | apply below_drew1 | refine below_set ?_ GE266.out | refine below_set ?_ GE291.out) | exact HB.out))⟩)
                        rintro ⟨v282, v288, gb291⟩ w30 ⟨hS_, h0_, h1_, h2_, h3_, h4_, h5_, h6_, h7_, h8_, h9_, h10_, h11_⟩
                        have n0_ : Aside0 (Kd.R (Kd.int .u8) 5 w30 w.heap.size (fun k_ => some k_ ≠ (v282 : Value).ownBlock ∧ some k_ ≠ (v288 : Value).ownBlock ∧ some k_ ≠ (.slice Ao26 x267002_2.length co26 : Value).ownBlock ∧ some k_ ≠ (u7 : Value).ownBlock) v276 y275) := ⟨h0_⟩
                        have n1_ : Aside0 (Kd.R (Kd.int .u8) 5 w30 w.heap.size (fun k_ => some k_ ≠ (v276 : Value).ownBlock ∧ some k_ ≠ (v288 : Value).ownBlock ∧ some k_ ≠ (.slice Ao26 x267002_2.length co26 : Value).ownBlock ∧ some k_ ≠ (u7 : Value).ownBlock) v282 t281) := ⟨h1_⟩
                        have n2_ : Aside0 (Kd.R (Kd.int .u8) 5 w30 w.heap.size (fun k_ => some k_ ≠ (v276 : Value).ownBlock ∧ some k_ ≠ (v282 : Value).ownBlock ∧ some k_ ≠ (.slice Ao26 x267002_2.length co26 : Value).ownBlock ∧ some k_ ≠ (u7 : Value).ownBlock) v288 t287) := ⟨h2_⟩
                        have n3_ : Aside0 (Kd.R (Kd.int .u8) 5 w30 w.heap.size (fun k_ => some k_ ≠ (v276 : Value).ownBlock ∧ some k_ ≠ (v282 : Value).ownBlock ∧ some k_ ≠ (v288 : Value).ownBlock ∧ some k_ ≠ (u7 : Value).ownBlock) (.slice Ao26 x267002_2.length co26) x267002_2) := ⟨h3_⟩
                        have n4_ : Aside0 (Kd.R (Kd.int .u8) 5 w30 w.heap.size (fun k_ => some k_ ≠ (v276 : Value).ownBlock ∧ some k_ ≠ (v282 : Value).ownBlock ∧ some k_ ≠ (v288 : Value).ownBlock ∧ some k_ ≠ (.slice Ao26 x267002_2.length co26 : Value).ownBlock) u7 x7_2) := ⟨h4_⟩
                        have n5_ : Aside0 (w30.heap[gb266]? = some (.cells #[.int .i64 x267000_2, .int .u8 x267001_2, .slice Ao26 x267002_2.length co26, .int .i64 x267003_2, .int .i64 x267004_2, .int .i64 x267005_2] 25 (0, 0))) := ⟨h5_⟩
                        have n6_ : Aside0 (w30.heap[gb291]? = some (.cells #[.int .i64 0, .int .u8 0, .slice none 0 0, .int .i64 0, .int .i64 0, .int .i64 0] 25 (0, 0))) := ⟨h6_⟩
                        have n7_ : Aside0 (w.heap.size ≤ gb291) := ⟨h7_⟩
                        have n8_ : Aside0 (w.heap.size ≤ gb291) := ⟨h8_⟩
                        have n9_ : Aside0 (gb266 ≠ gb291) := ⟨h9_⟩
                        have n10_ : Aside0 (gb291 ≠ gb266) := ⟨h10_⟩
                        have n11_ : Aside0 (Below w.heap.size w w30) := ⟨h11_⟩
                        clear HO_7
                        clear HO_267002
                        clear HO277
                        clear BK266
                        clear HB
                        clear h0_ h1_ h2_ h3_ h4_ h5_ h6_ h7_ h8_ h9_ h10_ h11_
                        have HO277 := n0_
                        have HO283 := n1_
                        have HO289 := n2_
                        have HO_267002 := n3_
                        have HO_7 := n4_
                        have BK266 := n5_
                        have BK291 := n6_
                        have GW291 := n7_
                        have GE291 := n8_
                        have NB266_291 := n9_
                        have NB291_266 := n10_
                        have HB := n11_
                        clear n0_ n1_ n2_ n3_ n4_ n5_ n6_ n7_ n8_ n9_ n10_ n11_
                        have hHeld : w30.cell? ⟨gb266, 0, none⟩ = some (.int .i64 x267000_2) ∧ w30.cell? ⟨gb266, 1, none⟩ = some (.int .u8 x267001_2) ∧ w30.cell? ⟨gb266, 2, none⟩ = some (.slice Ao26 x267002_2.length co26) ∧ w30.cell? ⟨gb266, 3, none⟩ = some (.int .i64 x267003_2) ∧ w30.cell? ⟨gb266, 4, none⟩ = some (.int .i64 x267004_2) ∧ w30.cell? ⟨gb266, 5, none⟩ = some (.int .i64 x267005_2) ∧ w30.cell? (ad273.add (x8_2).toNat) = some (.slice A278_0 (rd_L2 l0 x8_2).length c278_0) := hS_
                        obtain ⟨Ao33, co33, eo33⟩ := Kd.R_slice HO283.out
                        (first | subst eo33 | (injection eo33 with f1_ f2_ f3_; have f4_ := f1_.symm; have f5_ := f3_.symm; clear f1_ f2_ f3_; subst f4_; subst f5_))
                        refine norm_ (a' := ?_) ?_ ?_
                        rotate_left
                        · simp only [putAll, Act.put, List.setIfInBounds_toArray, List.set_cons_zero, List.set_cons_succ]
                          rfl
                        refine one_ (i := 12) (N := none) #[true, true, true, true, true, true, true, true, true, true, true, true, true, false, false] rfl rfl (one_of HT_.out (by kernel_rfl)) (by decide) (fun K hK => ?_)
                        have hs31 : w30.cell? ⟨gb291, 0, none⟩ = some (.int .i64 0) := (blk_cell BK291.out 0).trans rfl
                        have hfs31 := blk_frozen BK291.out 0
                        have hns31_0 := NB266_291.out
                        have hms31_0 := NB291_266.out
                        have hs32 : w30.cell? ⟨gb291, 1, none⟩ = some (.int .u8 0) := (blk_cell BK291.out 1).trans rfl
                        have hfs32 := blk_frozen BK291.out 1
                        have hns32_0 := NB266_291.out
                        have hms32_0 := NB291_266.out
                        have hs34 : w30.cell? ⟨gb291, 2, none⟩ = some (.slice none 0 0) := (blk_cell BK291.out 2).trans rfl
                        have hfs34 := blk_frozen BK291.out 2
                        have hns34_0 := NB266_291.out
                        have hms34_0 := NB291_266.out
                        have hs35 : w30.cell? ⟨gb291, 3, none⟩ = some (.int .i64 0) := (blk_cell BK291.out 3).trans rfl
                        have hfs35 := blk_frozen BK291.out 3
                        have hns35_0 := NB266_291.out
                        have hms35_0 := NB291_266.out
                        have hs36 : w30.cell? ⟨gb291, 4, none⟩ = some (.int .i64 0) := (blk_cell BK291.out 4).trans rfl
                        have hfs36 := blk_frozen BK291.out 4
                        have hns36_0 := NB266_291.out
                        have hms36_0 := NB291_266.out
                        have hs37 : w30.cell? ⟨gb291, 5, none⟩ = some (.int .i64 0) := (blk_cell BK291.out 5).trans rfl
                        have hfs37 := blk_frozen BK291.out 5
                        have hns37_0 := NB266_291.out
                        have hms37_0 := NB291_266.out
                        refine skip_ (w1 := ?_) (by rfl) rfl ?_ ?_
                        rotate_left
                        · go_simp
                          rfl
                        refine hK.out _ _ ⟨((cell_far (p := ⟨gb291, _, none⟩) NB266_291.out _).trans (((cell_far (p := ⟨gb291, _, none⟩) NB266_291.out _).trans (((cell_far (p := ⟨gb291, _, none⟩) NB266_291.out _).trans (((cell_far (p := ⟨gb291, _, none⟩) NB266_291.out _).trans (((cell_far (p := ⟨gb291, _, none⟩) NB266_291.out _).trans (((cell_far (p := ⟨gb291, _, none⟩) NB266_291.out _).trans (hHeld.1)))))))))))), ((cell_far (p := ⟨gb291, _, none⟩) NB266_291.out _).trans (((cell_far (p := ⟨gb291, _, none⟩) NB266_291.out _).trans (((cell_far (p := ⟨gb291, _, none⟩) NB266_291.out _).trans (((cell_far (p := ⟨gb291, _, none⟩) NB266_291.out _).trans (((cell_far (p := ⟨gb291, _, none⟩) NB266_291.out _).trans (((cell_far (p := ⟨gb291, _, none⟩) NB266_291.out _).trans (hHeld.2.1)))))))))))), ((cell_far (p := ⟨gb291, _, none⟩) NB266_291.out _).trans (((cell_far (p := ⟨gb291, _, none⟩) NB266_291.out _).trans (((cell_far (p := ⟨gb291, _, none⟩) NB266_291.out _).trans (((cell_far (p := ⟨gb291, _, none⟩) NB266_291.out _).trans (((cell_far (p := ⟨gb291, _, none⟩) NB266_291.out _).trans (((cell_far (p := ⟨gb291, _, none⟩) NB266_291.out _).trans (hHeld.2.2.1)))))))))))), ((cell_far (p := ⟨gb291, _, none⟩) NB266_291.out _).trans (((cell_far (p := ⟨gb291, _, none⟩) NB266_291.out _).trans (((cell_far (p := ⟨gb291, _, none⟩) NB266_291.out _).trans (((cell_far (p := ⟨gb291, _, none⟩) NB266_291.out _).trans (((cell_far (p := ⟨gb291, _, none⟩) NB266_291.out _).trans (((cell_far (p := ⟨gb291, _, none⟩) NB266_291.out _).trans (hHeld.2.2.2.1)))))))))))), ((cell_far (p := ⟨gb291, _, none⟩) NB266_291.out _).trans (((cell_far (p := ⟨gb291, _, none⟩) NB266_291.out _).trans (((cell_far (p := ⟨gb291, _, none⟩) NB266_291.out _).trans (((cell_far (p := ⟨gb291, _, none⟩) NB266_291.out _).trans (((cell_far (p := ⟨gb291, _, none⟩) NB266_291.out _).trans (((cell_far (p := ⟨gb291, _, none⟩) NB266_291.out _).trans (hHeld.2.2.2.2.1)))))))))))), ((cell_far (p := ⟨gb291, _, none⟩) NB266_291.out _).trans (((cell_far (p := ⟨gb291, _, none⟩) NB266_291.out _).trans (((cell_far (p := ⟨gb291, _, none⟩) NB266_291.out _).trans (((cell_far (p := ⟨gb291, _, none⟩) NB266_291.out _).trans (((cell_far (p := ⟨gb291, _, none⟩) NB266_291.out _).trans (((cell_far (p := ⟨gb291, _, none⟩) NB266_291.out _).trans (hHeld.2.2.2.2.2.1)))))))))))), ((cell_far (p := ⟨gb291, _, none⟩) (by first | exact Nat.ne_of_lt (Nat.lt_of_lt_of_le (by have := World.block_lt_of_cell? _ _ hw278_0; first | rwa [add_block] at this | exact this) GW291.out) | (rw [add_block]; exact Nat.ne_of_lt (Nat.lt_of_lt_of_le (by have := World.block_lt_of_cell? _ _ hw278_0; first | rwa [add_block] at this | exact this) GW291.out)) | (show (Addr.add _ _).block ≠ _; rw [add_block]; exact Nat.ne_of_lt (Nat.lt_of_lt_of_le (by have := World.block_lt_of_cell? _ _ hw278_0; first | rwa [add_block] at this | exact this) GW291.out)) | (dsimp only; exact Nat.ne_of_lt (Nat.lt_of_lt_of_le (by have := World.block_lt_of_cell? _ _ hw278_0; first | rwa [add_block] at this | exact this) GW291.out))) _).trans (((cell_far (p := ⟨gb291, _, none⟩) (by first | exact Nat.ne_of_lt (Nat.lt_of_lt_of_le (by have := World.block_lt_of_cell? _ _ hw278_0; first | rwa [add_block] at this | exact this) GW291.out) | (rw [add_block]; exact Nat.ne_of_lt (Nat.lt_of_lt_of_le (by have := World.block_lt_of_cell? _ _ hw278_0; first | rwa [add_block] at this | exact this) GW291.out)) | (show (Addr.add _ _).block ≠ _; rw [add_block]; exact Nat.ne_of_lt (Nat.lt_of_lt_of_le (by have := World.block_lt_of_cell? _ _ hw278_0; first | rwa [add_block] at this | exact this) GW291.out)) | (dsimp only; exact Nat.ne_of_lt (Nat.lt_of_lt_of_le (by have := World.block_lt_of_cell? _ _ hw278_0; first | rwa [add_block] at this | exact this) GW291.out))) _).trans (((cell_far (p := ⟨gb291, _, none⟩) (by first | exact Nat.ne_of_lt (Nat.lt_of_lt_of_le (by have := World.block_lt_of_cell? _ _ hw278_0; first | rwa [add_block] at this | exact this) GW291.out) | (rw [add_block]; exact Nat.ne_of_lt (Nat.lt_of_lt_of_le (by have := World.block_lt_of_cell? _ _ hw278_0; first | rwa [add_block] at this | exact this) GW291.out)) | (show (Addr.add _ _).block ≠ _; rw [add_block]; exact Nat.ne_of_lt (Nat.lt_of_lt_of_le (by have := World.block_lt_of_cell? _ _ hw278_0; first | rwa [add_block] at this | exact this) GW291.out)) | (dsimp only; exact Nat.ne_of_lt (Nat.lt_of_lt_of_le (by have := World.block_lt_of_cell? _ _ hw278_0; first | rwa [add_block] at this | exact this) GW291.out))) _).trans (((cell_far (p := ⟨gb291, _, none⟩) (by first | exact Nat.ne_of_lt (Nat.lt_of_lt_of_le (by have := World.block_lt_of_cell? _ _ hw278_0; first | rwa [add_block] at this | exact this) GW291.out) | (rw [add_block]; exact Nat.ne_of_lt (Nat.lt_of_lt_of_le (by have := World.block_lt_of_cell? _ _ hw278_0; first | rwa [add_block] at this | exact this) GW291.out)) | (show (Addr.add _ _).block ≠ _; rw [add_block]; exact Nat.ne_of_lt (Nat.lt_of_lt_of_le (by have := World.block_lt_of_cell? _ _ hw278_0; first | rwa [add_block] at this | exact this) GW291.out)) | (dsimp only; exact Nat.ne_of_lt (Nat.lt_of_lt_of_le (by have := World.block_lt_of_cell? _ _ hw278_0; first | rwa [add_block] at this | exact this) GW291.out))) _).trans (((cell_far (p := ⟨gb291, _, none⟩) (by first | exact Nat.ne_of_lt (Nat.lt_of_lt_of_le (by have := World.block_lt_of_cell? _ _ hw278_0; first | rwa [add_block] at this | exact this) GW291.out) | (rw [add_block]; exact Nat.ne_of_lt (Nat.lt_of_lt_of_le (by have := World.block_lt_of_cell? _ _ hw278_0; first | rwa [add_block] at this | exact this) GW291.out)) | (show (Addr.add _ _).block ≠ _; rw [add_block]; exact Nat.ne_of_lt (Nat.lt_of_lt_of_le (by have := World.block_lt_of_cell? _ _ hw278_0; first | rwa [add_block] at this | exact this) GW291.out)) | (dsimp only; exact Nat.ne_of_lt (Nat.lt_of_lt_of_le (by have := World.block_lt_of_cell? _ _ hw278_0; first | rwa [add_block] at this | exact this) GW291.out))) _).trans (((cell_far (p := ⟨gb291, _, none⟩) (by first | exact Nat.ne_of_lt (Nat.lt_of_lt_of_le (by have := World.block_lt_of_cell? _ _ hw278_0; first | rwa [add_block] at this | exact this) GW291.out) | (rw [add_block]; exact Nat.ne_of_lt (Nat.lt_of_lt_of_le (by have := World.block_lt_of_cell? _ _ hw278_0; first | rwa [add_block] at this | exact this) GW291.out)) | (show (Addr.add _ _).block ≠ _; rw [add_block]; exact Nat.ne_of_lt (Nat.lt_of_lt_of_le (by have := World.block_lt_of_cell? _ _ hw278_0; first | rwa [add_block] at this | exact this) GW291.out)) | (dsimp only; exact Nat.ne_of_lt (Nat.lt_of_lt_of_le (by have := World.block_lt_of_cell? _ _ hw278_0; first | rwa [add_block] at this | exact this) GW291.out))) _).trans (hHeld.2.2.2.2.2.2))))))))))))⟩ (fun hHeld => ?_)
                        clear hK K
                        refine pure_ (i := 13) (N := some 10) (v := ?_) (a' := ?_) #[true, true, true, true, true, true, true, true, true, true, true, true, true, true, false] rfl rfl (any_of HT_.out (by kernel_rfl)) (fun _ _ _ h => h) (Or.inl ⟨by rfl, ?_⟩) ?_ ?_
                        rotate_left
                        · intro w'
                          go_simp
                          with_reducible rfl
                        rotate_left
                        · simp only [Act.put, List.setIfInBounds_toArray, List.set_cons_zero, List.set_cons_succ, i64_w, i32_w]
                          rfl
                        refine pure_ (i := 14) (N := some 11) (v := ?_) (a' := ?_) #[true, true, true, true, true, true, true, true, true, true, true, true, true, true, true] rfl rfl (any_of HT_.out (by kernel_rfl)) (fun _ _ _ h => h) (Or.inl ⟨by rfl, ?_⟩) ?_ ?_
                        rotate_left
                        · intro w'
                          go_simp
                          with_reducible rfl
                        rotate_left
                        · simp only [Act.put, List.setIfInBounds_toArray, List.set_cons_zero, List.set_cons_succ, i64_w, i32_w]
                          rfl
                        refine done_ (done_of HT_.out (by kernel_rfl)) ?_
                        have hnb38 := NB291_266.out
                        have hnc38 := NB266_291.out
                        have hcz39_0 : w30.cell? ⟨gb291, 0, none⟩ = some (.int .i64 0) := (blk_cell BK291.out 0).trans rfl
                        have hcz39_1 : w30.cell? ⟨gb291, 1, none⟩ = some (.int .u8 0) := (blk_cell BK291.out 1).trans rfl
                        have hcz39_2 : w30.cell? ⟨gb291, 2, none⟩ = some (.slice none 0 0) := (blk_cell BK291.out 2).trans rfl
                        have hcz39_3 : w30.cell? ⟨gb291, 3, none⟩ = some (.int .i64 0) := (blk_cell BK291.out 3).trans rfl
                        have hcz39_4 : w30.cell? ⟨gb291, 4, none⟩ = some (.int .i64 0) := (blk_cell BK291.out 4).trans rfl
                        have hcz39_5 : w30.cell? ⟨gb291, 5, none⟩ = some (.int .i64 0) := (blk_cell BK291.out 5).trans rfl
                        have hfz39_0 := blk_frozen BK291.out 0
                        have hfz39_1 := blk_frozen BK291.out 1
                        have hfz39_2 := blk_frozen BK291.out 2
                        have hfz39_3 := blk_frozen BK291.out 3
                        have hfz39_4 := blk_frozen BK291.out 4
                        have hfz39_5 := blk_frozen BK291.out 5
                        have hcz40_0 : w30.cell? ⟨gb266, 0, none⟩ = some (.int .i64 x267000_2) := (blk_cell BK266.out 0).trans rfl
                        have hcz40_1 : w30.cell? ⟨gb266, 1, none⟩ = some (.int .u8 x267001_2) := (blk_cell BK266.out 1).trans rfl
                        have hcz40_2 : w30.cell? ⟨gb266, 2, none⟩ = some (.slice Ao26 x267002_2.length co26) := (blk_cell BK266.out 2).trans rfl
                        have hcz40_3 : w30.cell? ⟨gb266, 3, none⟩ = some (.int .i64 x267003_2) := (blk_cell BK266.out 3).trans rfl
                        have hcz40_4 : w30.cell? ⟨gb266, 4, none⟩ = some (.int .i64 x267004_2) := (blk_cell BK266.out 4).trans rfl
                        have hcz40_5 : w30.cell? ⟨gb266, 5, none⟩ = some (.int .i64 x267005_2) := (blk_cell BK266.out 5).trans rfl
                        have hfz40_0 := blk_frozen BK266.out 0
                        have hfz40_1 := blk_frozen BK266.out 1
                        have hfz40_2 := blk_frozen BK266.out 2
                        have hfz40_3 := blk_frozen BK266.out 3
                        have hfz40_4 := blk_frozen BK266.out 4
                        have hfz40_5 := blk_frozen BK266.out 5
                        obtain ⟨Ao42, co42, eo42⟩ := Kd.R_slice HO289.out
                        subst eo42
                        try go_wp2_with (first | ((with_reducible refine gate_builtin (b := .append) (xs := #[.tmp 60, .tmp 61]) rfl ?_); (try (refine gate_guard (by rfl) ?_; dsimp only)); at_builtin; refine Kd.R_append_rows (Kd.int .u8) (w0 := w) w.heap.size rfl (.tmp 60) (.tmp 61) 22 5 (.int .u8 0) 1 rfl Tryd.underlying22 info5 rfl (by decide) (by omega) u7 x7_2 t287 _ _ _ (fun k_ => some k_ ≠ (.slice Ao26 x267002_2.length co26 : Value).ownBlock ∧ some k_ ≠ (v276 : Value).ownBlock ∧ some k_ ≠ (.slice Ao33 t281.length co33 : Value).ownBlock ∧ some k_ ≠ (.slice Ao42 t287.length co42 : Value).ownBlock) (fun _ => False) rfl rfl ?aO ?aR (fun _ _ h => h) (fun _ h => h.elim) ?aF ?aB ?aS ?aL ?_; (case aR => refine (Kd.R_reads' (e := 5) (base := w.heap.size) (ok := fun k_ => (some k_ ≠ (v276 : Value).ownBlock ∧ (some k_ ≠ (.slice Ao33 t281.length co33 : Value).ownBlock ∧ (some k_ ≠ (.slice Ao26 x267002_2.length co26 : Value).ownBlock ∧ some k_ ≠ (u7 : Value).ownBlock)))) (n := t287.length) (c := co42) ?_).2.2; exact (by (with_reducible repeat (first | apply Kd.R_alloc | apply Kd.R_drewN | apply Kd.R_drew)); exact (Kd.R_mono (Kd.R_mono (Kd.R_far (p := ⟨gb266, 5, none⟩) (Kd.R_far (p := ⟨gb266, 4, none⟩) (Kd.R_far (p := ⟨gb266, 3, none⟩) (Kd.R_far (p := ⟨gb266, 2, none⟩) (Kd.R_far (p := ⟨gb266, 1, none⟩) (Kd.R_far (p := ⟨gb266, 0, none⟩) (Kd.R_far (p := ⟨gb291, 5, none⟩) (Kd.R_far (p := ⟨gb291, 4, none⟩) (Kd.R_far (p := ⟨gb291, 3, none⟩) (Kd.R_far (p := ⟨gb291, 2, none⟩) (Kd.R_far (p := ⟨gb291, 1, none⟩) (Kd.R_far (p := ⟨gb291, 0, none⟩) (Kd.R_types (Kd.R_types HO289.out BK291.out (by decide)) BK266.out (by decide)) (fun _ hk => hk.1.2) (.int .i64 t279)) (fun _ hk => hk.1.2) (.int .u8 t280)) (fun _ hk => hk.1.2) (.slice Ao33 t281.length co33)) (fun _ hk => hk.1.2) (.int .i64 t284)) (fun _ hk => hk.1.2) (.int .i64 t285)) (fun _ hk => hk.1.2) (.int .i64 t286)) (fun _ hk => hk.2) (.int .i64 t279)) (fun _ hk => hk.2) (.int .u8 t280)) (fun _ hk => hk.2) (.slice Ao33 t281.length co33)) (fun _ hk => hk.2) (.int .i64 t284)) (fun _ hk => hk.2) (.int .i64 t285)) (fun _ hk => hk.2) (.int .i64 t286)) (fun _ h_ => h_.1)) (fun _ h_ => h_.1)))); (case aB => exact (by repeat (first | (with_reducible first | exact HB.out | apply below_alloc | apply pw_below_drewN | apply below_drew1 | refine below_set ?_ GE266.out | refine below_set ?_ GE291.out) | exact HB.out))); (case aF => exact (fun k_ hk => ⟨Kd.fresh' (Kd.R_lt (by (with_reducible repeat (first | apply Kd.R_alloc | apply Kd.R_drewN | apply Kd.R_drew)); exact (Kd.R_mono (Kd.R_mono (Kd.R_far (p := ⟨gb266, 5, none⟩) (Kd.R_far (p := ⟨gb266, 4, none⟩) (Kd.R_far (p := ⟨gb266, 3, none⟩) (Kd.R_far (p := ⟨gb266, 2, none⟩) (Kd.R_far (p := ⟨gb266, 1, none⟩) (Kd.R_far (p := ⟨gb266, 0, none⟩) (Kd.R_far (p := ⟨gb291, 5, none⟩) (Kd.R_far (p := ⟨gb291, 4, none⟩) (Kd.R_far (p := ⟨gb291, 3, none⟩) (Kd.R_far (p := ⟨gb291, 2, none⟩) (Kd.R_far (p := ⟨gb291, 1, none⟩) (Kd.R_far (p := ⟨gb291, 0, none⟩) (Kd.R_types (Kd.R_types HO_267002.out BK291.out (by decide)) BK266.out (by decide)) (fun _ hk => hk.1.2) (.int .i64 t279)) (fun _ hk => hk.1.2) (.int .u8 t280)) (fun _ hk => hk.1.2) (.slice Ao33 t281.length co33)) (fun _ hk => hk.1.2) (.int .i64 t284)) (fun _ hk => hk.1.2) (.int .i64 t285)) (fun _ hk => hk.1.2) (.int .i64 t286)) (fun _ hk => hk.2) (.int .i64 t279)) (fun _ hk => hk.2) (.int .u8 t280)) (fun _ hk => hk.2) (.slice Ao33 t281.length co33)) (fun _ hk => hk.2) (.int .i64 t284)) (fun _ hk => hk.2) (.int .i64 t285)) (fun _ hk => hk.2) (.int .i64 t286)) (fun _ h_ => h_.1)) (fun _ h_ => h_.1)))) k_ hk, Kd.fresh' (Kd.R_lt (by (with_reducible repeat (first | apply Kd.R_alloc | apply Kd.R_drewN | apply Kd.R_drew)); exact (Kd.R_mono (Kd.R_mono (Kd.R_far (p := ⟨gb266, 5, none⟩) (Kd.R_far (p := ⟨gb266, 4, none⟩) (Kd.R_far (p := ⟨gb266, 3, none⟩) (Kd.R_far (p := ⟨gb266, 2, none⟩) (Kd.R_far (p := ⟨gb266, 1, none⟩) (Kd.R_far (p := ⟨gb266, 0, none⟩) (Kd.R_far (p := ⟨gb291, 5, none⟩) (Kd.R_far (p := ⟨gb291, 4, none⟩) (Kd.R_far (p := ⟨gb291, 3, none⟩) (Kd.R_far (p := ⟨gb291, 2, none⟩) (Kd.R_far (p := ⟨gb291, 1, none⟩) (Kd.R_far (p := ⟨gb291, 0, none⟩) (Kd.R_types (Kd.R_types HO277.out BK291.out (by decide)) BK266.out (by decide)) (fun _ hk => hk.1.2) (.int .i64 t279)) (fun _ hk => hk.1.2) (.int .u8 t280)) (fun _ hk => hk.1.2) (.slice Ao33 t281.length co33)) (fun _ hk => hk.1.2) (.int .i64 t284)) (fun _ hk => hk.1.2) (.int .i64 t285)) (fun _ hk => hk.1.2) (.int .i64 t286)) (fun _ hk => hk.2) (.int .i64 t279)) (fun _ hk => hk.2) (.int .u8 t280)) (fun _ hk => hk.2) (.slice Ao33 t281.length co33)) (fun _ hk => hk.2) (.int .i64 t284)) (fun _ hk => hk.2) (.int .i64 t285)) (fun _ hk => hk.2) (.int .i64 t286)) (fun _ h_ => h_.1)) (fun _ h_ => h_.1)))) k_ hk, Kd.fresh' (Kd.R_lt (by (with_reducible repeat (first | apply Kd.R_alloc | apply Kd.R_drewN | apply Kd.R_drew)); exact (Kd.R_mono (Kd.R_mono (Kd.R_far (p := ⟨gb266, 5, none⟩) (Kd.R_far (p := ⟨gb266, 4, none⟩) (Kd.R_far (p := ⟨gb266, 3, none⟩) (Kd.R_far (p := ⟨gb266, 2, none⟩) (Kd.R_far (p := ⟨gb266, 1, none⟩) (Kd.R_far (p := ⟨gb266, 0, none⟩) (Kd.R_far (p := ⟨gb291, 5, none⟩) (Kd.R_far (p := ⟨gb291, 4, none⟩) (Kd.R_far (p := ⟨gb291, 3, none⟩) (Kd.R_far (p := ⟨gb291, 2, none⟩) (Kd.R_far (p := ⟨gb291, 1, none⟩) (Kd.R_far (p := ⟨gb291, 0, none⟩) (Kd.R_types (Kd.R_types HO283.out BK291.out (by decide)) BK266.out (by decide)) (fun _ hk => hk.1.2) (.int .i64 t279)) (fun _ hk => hk.1.2) (.int .u8 t280)) (fun _ hk => hk.1.2) (.slice Ao33 t281.length co33)) (fun _ hk => hk.1.2) (.int .i64 t284)) (fun _ hk => hk.1.2) (.int .i64 t285)) (fun _ hk => hk.1.2) (.int .i64 t286)) (fun _ hk => hk.2) (.int .i64 t279)) (fun _ hk => hk.2) (.int .u8 t280)) (fun _ hk => hk.2) (.slice Ao33 t281.length co33)) (fun _ hk => hk.2) (.int .i64 t284)) (fun _ hk => hk.2) (.int .i64 t285)) (fun _ hk => hk.2) (.int .i64 t286)) (fun _ h_ => h_.1)) (fun _ h_ => h_.1)))) k_ hk, Kd.fresh' (Kd.R_lt (by (with_reducible repeat (first | apply Kd.R_alloc | apply Kd.R_drewN | apply Kd.R_drew)); exact (Kd.R_mono (Kd.R_mono (Kd.R_far (p := ⟨gb266, 5, none⟩) (Kd.R_far (p := ⟨gb266, 4, none⟩) (Kd.R_far (p := ⟨gb266, 3, none⟩) (Kd.R_far (p := ⟨gb266, 2, none⟩) (Kd.R_far (p := ⟨gb266, 1, none⟩) (Kd.R_far (p := ⟨gb266, 0, none⟩) (Kd.R_far (p := ⟨gb291, 5, none⟩) (Kd.R_far (p := ⟨gb291, 4, none⟩) (Kd.R_far (p := ⟨gb291, 3, none⟩) (Kd.R_far (p := ⟨gb291, 2, none⟩) (Kd.R_far (p := ⟨gb291, 1, none⟩) (Kd.R_far (p := ⟨gb291, 0, none⟩) (Kd.R_types (Kd.R_types HO289.out BK291.out (by decide)) BK266.out (by decide)) (fun _ hk => hk.1.2) (.int .i64 t279)) (fun _ hk => hk.1.2) (.int .u8 t280)) (fun _ hk => hk.1.2) (.slice Ao33 t281.length co33)) (fun _ hk => hk.1.2) (.int .i64 t284)) (fun _ hk => hk.1.2) (.int .i64 t285)) (fun _ hk => hk.1.2) (.int .i64 t286)) (fun _ hk => hk.2) (.int .i64 t279)) (fun _ hk => hk.2) (.int .u8 t280)) (fun _ hk => hk.2) (.slice Ao33 t281.length co33)) (fun _ hk => hk.2) (.int .i64 t284)) (fun _ hk => hk.2) (.int .i64 t285)) (fun _ hk => hk.2) (.int .i64 t286)) (fun _ h_ => h_.1)) (fun _ h_ => h_.1)))) k_ hk⟩)); (case aO => exact (by (with_reducible repeat (first | apply Kd.R_alloc | apply Kd.R_drewN | apply Kd.R_drew)); exact Kd.R_mono (Kd.R_far (p := ⟨gb266, 5, none⟩) (Kd.R_far (p := ⟨gb266, 4, none⟩) (Kd.R_far (p := ⟨gb266, 3, none⟩) (Kd.R_far (p := ⟨gb266, 2, none⟩) (Kd.R_far (p := ⟨gb266, 1, none⟩) (Kd.R_far (p := ⟨gb266, 0, none⟩) (Kd.R_far (p := ⟨gb291, 5, none⟩) (Kd.R_far (p := ⟨gb291, 4, none⟩) (Kd.R_far (p := ⟨gb291, 3, none⟩) (Kd.R_far (p := ⟨gb291, 2, none⟩) (Kd.R_far (p := ⟨gb291, 1, none⟩) (Kd.R_far (p := ⟨gb291, 0, none⟩) (Kd.R_types (Kd.R_types HO_7.out BK291.out (by decide)) BK266.out (by decide)) (fun _ hk => hk.1.2) (.int .i64 t279)) (fun _ hk => hk.1.2) (.int .u8 t280)) (fun _ hk => hk.1.2) (.slice Ao33 t281.length co33)) (fun _ hk => hk.1.2) (.int .i64 t284)) (fun _ hk => hk.1.2) (.int .i64 t285)) (fun _ hk => hk.1.2) (.int .i64 t286)) (fun _ hk => hk.2) (.int .i64 t279)) (fun _ hk => hk.2) (.int .u8 t280)) (fun _ hk => hk.2) (.slice Ao33 t281.length co33)) (fun _ hk => hk.2) (.int .i64 t284)) (fun _ hk => hk.2) (.int .i64 t285)) (fun _ hk => hk.2) (.int .i64 t286)) (fun _ hk => ⟨hk.1.1.2.2.2, ⟨hk.1.1.1, ⟨hk.1.1.2.1, hk.1.1.2.2.1⟩⟩⟩))); (case aS => exact (below_size (by repeat (first | (with_reducible first | exact HB.out | apply below_alloc | apply pw_below_drewN | apply below_drew1 | refine below_set ?_ GE266.out | refine below_set ?_ GE291.out) | exact HB.out)))); (case aL => have := LMc23.out; omega); intro v293 w41 ho hb hg hat; rw [← Ny292.out] at ho; have n0_ := Aside0.mk (Kd.R_after (ok := (fun k_ => some k_ ≠ (v276 : Value).ownBlock ∧ some k_ ≠ (.slice Ao33 t281.length co33 : Value).ownBlock ∧ some k_ ≠ (.slice Ao42 t287.length co42 : Value).ownBlock)) (by (with_reducible repeat (first | apply Kd.R_alloc | apply Kd.R_drewN | apply Kd.R_drew)); exact Kd.R_mono (Kd.R_far (p := ⟨gb266, 5, none⟩) (Kd.R_far (p := ⟨gb266, 4, none⟩) (Kd.R_far (p := ⟨gb266, 3, none⟩) (Kd.R_far (p := ⟨gb266, 2, none⟩) (Kd.R_far (p := ⟨gb266, 1, none⟩) (Kd.R_far (p := ⟨gb266, 0, none⟩) (Kd.R_far (p := ⟨gb291, 5, none⟩) (Kd.R_far (p := ⟨gb291, 4, none⟩) (Kd.R_far (p := ⟨gb291, 3, none⟩) (Kd.R_far (p := ⟨gb291, 2, none⟩) (Kd.R_far (p := ⟨gb291, 1, none⟩) (Kd.R_far (p := ⟨gb291, 0, none⟩) (Kd.R_types (Kd.R_types HO_267002.out BK291.out (by decide)) BK266.out (by decide)) (fun _ hk => hk.1.2) (.int .i64 t279)) (fun _ hk => hk.1.2) (.int .u8 t280)) (fun _ hk => hk.1.2) (.slice Ao33 t281.length co33)) (fun _ hk => hk.1.2) (.int .i64 t284)) (fun _ hk => hk.1.2) (.int .i64 t285)) (fun _ hk => hk.1.2) (.int .i64 t286)) (fun _ hk => hk.2) (.int .i64 t279)) (fun _ hk => hk.2) (.int .u8 t280)) (fun _ hk => hk.2) (.slice Ao33 t281.length co33)) (fun _ hk => hk.2) (.int .i64 t284)) (fun _ hk => hk.2) (.int .i64 t285)) (fun _ hk => hk.2) (.int .i64 t286)) (fun _ hk => ⟨⟨hk.1.1.1, ⟨hk.1.1.2.1, hk.1.1.2.2.1⟩⟩, hk.1.1.2.2.2⟩)) hg hat); have n1_ := Aside0.mk (blk_grown (g := gb266) (o := .cells #[.int .i64 t279, .int .u8 t280, .slice Ao33 t281.length co33, .int .i64 t284, .int .i64 t285, .int .i64 t286] 25 (0, 0)) (by (with_reducible repeat (first | refine blk_drewN ?_ _ | refine blk_drew ?_ | refine blk_alloc ?_ _)); refine blk_put (cs := #[.int .i64 t279, .int .u8 t280, .slice Ao33 t281.length co33, .int .i64 t284, .int .i64 t285, .int .i64 x267005_2]) ?_ 5 _ rfl; (with_reducible repeat (first | refine blk_drewN ?_ _ | refine blk_drew ?_ | refine blk_alloc ?_ _)); refine blk_put (cs := #[.int .i64 t279, .int .u8 t280, .slice Ao33 t281.length co33, .int .i64 t284, .int .i64 x267004_2, .int .i64 x267005_2]) ?_ 4 _ rfl; (with_reducible repeat (first | refine blk_drewN ?_ _ | refine blk_drew ?_ | refine blk_alloc ?_ _)); refine blk_put (cs := #[.int .i64 t279, .int .u8 t280, .slice Ao33 t281.length co33, .int .i64 x267003_2, .int .i64 x267004_2, .int .i64 x267005_2]) ?_ 3 _ rfl; (with_reducible repeat (first | refine blk_drewN ?_ _ | refine blk_drew ?_ | refine blk_alloc ?_ _)); refine blk_put (cs := #[.int .i64 t279, .int .u8 t280, .slice Ao26 x267002_2.length co26, .int .i64 x267003_2, .int .i64 x267004_2, .int .i64 x267005_2]) ?_ 2 _ rfl; (with_reducible repeat (first | refine blk_drewN ?_ _ | refine blk_drew ?_ | refine blk_alloc ?_ _)); refine blk_put (cs := #[.int .i64 t279, .int .u8 x267001_2, .slice Ao26 x267002_2.length co26, .int .i64 x267003_2, .int .i64 x267004_2, .int .i64 x267005_2]) ?_ 1 _ rfl; (with_reducible repeat (first | refine blk_drewN ?_ _ | refine blk_drew ?_ | refine blk_alloc ?_ _)); refine blk_put (cs := #[.int .i64 x267000_2, .int .u8 x267001_2, .slice Ao26 x267002_2.length co26, .int .i64 x267003_2, .int .i64 x267004_2, .int .i64 x267005_2]) ?_ 0 _ rfl; (with_reducible repeat (first | refine blk_drewN ?_ _ | refine blk_drew ?_ | refine blk_alloc ?_ _)); refine blk_far ?_ NB266_291.out _; (with_reducible repeat (first | refine blk_drewN ?_ _ | refine blk_drew ?_ | refine blk_alloc ?_ _)); refine blk_far ?_ NB266_291.out _; (with_reducible repeat (first | refine blk_drewN ?_ _ | refine blk_drew ?_ | refine blk_alloc ?_ _)); refine blk_far ?_ NB266_291.out _; (with_reducible repeat (first | refine blk_drewN ?_ _ | refine blk_drew ?_ | refine blk_alloc ?_ _)); refine blk_far ?_ NB266_291.out _; (with_reducible repeat (first | refine blk_drewN ?_ _ | refine blk_drew ?_ | refine blk_alloc ?_ _)); refine blk_far ?_ NB266_291.out _; (with_reducible repeat (first | refine blk_drewN ?_ _ | refine blk_drew ?_ | refine blk_alloc ?_ _)); refine blk_far ?_ NB266_291.out _; (with_reducible repeat (first | refine blk_drewN ?_ _ | refine blk_drew ?_ | refine blk_alloc ?_ _)); exact BK266.out) hg (Kd.R_ne HO_7.out BK266.out (by decide))); have n2_ := Aside0.mk (Kd.R_after (ok := (fun k_ => some k_ ≠ (.slice Ao26 x267002_2.length co26 : Value).ownBlock ∧ some k_ ≠ (.slice Ao33 t281.length co33 : Value).ownBlock ∧ some k_ ≠ (.slice Ao42 t287.length co42 : Value).ownBlock)) (by (with_reducible repeat (first | apply Kd.R_alloc | apply Kd.R_drewN | apply Kd.R_drew)); exact Kd.R_mono (Kd.R_far (p := ⟨gb266, 5, none⟩) (Kd.R_far (p := ⟨gb266, 4, none⟩) (Kd.R_far (p := ⟨gb266, 3, none⟩) (Kd.R_far (p := ⟨gb266, 2, none⟩) (Kd.R_far (p := ⟨gb266, 1, none⟩) (Kd.R_far (p := ⟨gb266, 0, none⟩) (Kd.R_far (p := ⟨gb291, 5, none⟩) (Kd.R_far (p := ⟨gb291, 4, none⟩) (Kd.R_far (p := ⟨gb291, 3, none⟩) (Kd.R_far (p := ⟨gb291, 2, none⟩) (Kd.R_far (p := ⟨gb291, 1, none⟩) (Kd.R_far (p := ⟨gb291, 0, none⟩) (Kd.R_types (Kd.R_types HO277.out BK291.out (by decide)) BK266.out (by decide)) (fun _ hk => hk.1.2) (.int .i64 t279)) (fun _ hk => hk.1.2) (.int .u8 t280)) (fun _ hk => hk.1.2) (.slice Ao33 t281.length co33)) (fun _ hk => hk.1.2) (.int .i64 t284)) (fun _ hk => hk.1.2) (.int .i64 t285)) (fun _ hk => hk.1.2) (.int .i64 t286)) (fun _ hk => hk.2) (.int .i64 t279)) (fun _ hk => hk.2) (.int .u8 t280)) (fun _ hk => hk.2) (.slice Ao33 t281.length co33)) (fun _ hk => hk.2) (.int .i64 t284)) (fun _ hk => hk.2) (.int .i64 t285)) (fun _ hk => hk.2) (.int .i64 t286)) (fun _ hk => ⟨⟨hk.1.1.2.2.1, ⟨hk.1.1.1, hk.1.1.2.1⟩⟩, hk.1.1.2.2.2⟩)) hg hat); have n3_ := Aside0.mk (Kd.R_after (ok := (fun k_ => some k_ ≠ (.slice Ao26 x267002_2.length co26 : Value).ownBlock ∧ some k_ ≠ (v276 : Value).ownBlock ∧ some k_ ≠ (.slice Ao42 t287.length co42 : Value).ownBlock)) (by (with_reducible repeat (first | apply Kd.R_alloc | apply Kd.R_drewN | apply Kd.R_drew)); exact Kd.R_mono (Kd.R_far (p := ⟨gb266, 5, none⟩) (Kd.R_far (p := ⟨gb266, 4, none⟩) (Kd.R_far (p := ⟨gb266, 3, none⟩) (Kd.R_far (p := ⟨gb266, 2, none⟩) (Kd.R_far (p := ⟨gb266, 1, none⟩) (Kd.R_far (p := ⟨gb266, 0, none⟩) (Kd.R_far (p := ⟨gb291, 5, none⟩) (Kd.R_far (p := ⟨gb291, 4, none⟩) (Kd.R_far (p := ⟨gb291, 3, none⟩) (Kd.R_far (p := ⟨gb291, 2, none⟩) (Kd.R_far (p := ⟨gb291, 1, none⟩) (Kd.R_far (p := ⟨gb291, 0, none⟩) (Kd.R_types (Kd.R_types HO283.out BK291.out (by decide)) BK266.out (by decide)) (fun _ hk => hk.1.2) (.int .i64 t279)) (fun _ hk => hk.1.2) (.int .u8 t280)) (fun _ hk => hk.1.2) (.slice Ao33 t281.length co33)) (fun _ hk => hk.1.2) (.int .i64 t284)) (fun _ hk => hk.1.2) (.int .i64 t285)) (fun _ hk => hk.1.2) (.int .i64 t286)) (fun _ hk => hk.2) (.int .i64 t279)) (fun _ hk => hk.2) (.int .u8 t280)) (fun _ hk => hk.2) (.slice Ao33 t281.length co33)) (fun _ hk => hk.2) (.int .i64 t284)) (fun _ hk => hk.2) (.int .i64 t285)) (fun _ hk => hk.2) (.int .i64 t286)) (fun _ hk => ⟨⟨hk.1.1.2.2.1, ⟨hk.1.1.1, hk.1.1.2.1⟩⟩, hk.1.1.2.2.2⟩)) hg hat); have n4_ := Aside0.mk (Kd.R_after (ok := (fun k_ => some k_ ≠ (.slice Ao26 x267002_2.length co26 : Value).ownBlock ∧ some k_ ≠ (v276 : Value).ownBlock ∧ some k_ ≠ (.slice Ao33 t281.length co33 : Value).ownBlock)) (by (with_reducible repeat (first | apply Kd.R_alloc | apply Kd.R_drewN | apply Kd.R_drew)); exact Kd.R_mono (Kd.R_far (p := ⟨gb266, 5, none⟩) (Kd.R_far (p := ⟨gb266, 4, none⟩) (Kd.R_far (p := ⟨gb266, 3, none⟩) (Kd.R_far (p := ⟨gb266, 2, none⟩) (Kd.R_far (p := ⟨gb266, 1, none⟩) (Kd.R_far (p := ⟨gb266, 0, none⟩) (Kd.R_far (p := ⟨gb291, 5, none⟩) (Kd.R_far (p := ⟨gb291, 4, none⟩) (Kd.R_far (p := ⟨gb291, 3, none⟩) (Kd.R_far (p := ⟨gb291, 2, none⟩) (Kd.R_far (p := ⟨gb291, 1, none⟩) (Kd.R_far (p := ⟨gb291, 0, none⟩) (Kd.R_types (Kd.R_types HO289.out BK291.out (by decide)) BK266.out (by decide)) (fun _ hk => hk.1.2) (.int .i64 t279)) (fun _ hk => hk.1.2) (.int .u8 t280)) (fun _ hk => hk.1.2) (.slice Ao33 t281.length co33)) (fun _ hk => hk.1.2) (.int .i64 t284)) (fun _ hk => hk.1.2) (.int .i64 t285)) (fun _ hk => hk.1.2) (.int .i64 t286)) (fun _ hk => hk.2) (.int .i64 t279)) (fun _ hk => hk.2) (.int .u8 t280)) (fun _ hk => hk.2) (.slice Ao33 t281.length co33)) (fun _ hk => hk.2) (.int .i64 t284)) (fun _ hk => hk.2) (.int .i64 t285)) (fun _ hk => hk.2) (.int .i64 t286)) (fun _ hk => ⟨⟨hk.1.1.2.2.1, ⟨hk.1.1.1, hk.1.1.2.1⟩⟩, hk.1.1.2.2.2⟩)) hg hat); have n5_ := Aside0.mk (blk_grown (g := gb291) (o := .cells #[.int .i64 t279, .int .u8 t280, .slice Ao33 t281.length co33, .int .i64 t284, .int .i64 t285, .int .i64 t286] 25 (0, 0)) (by (with_reducible repeat (first | refine blk_drewN ?_ _ | refine blk_drew ?_ | refine blk_alloc ?_ _)); refine blk_far ?_ NB291_266.out _; (with_reducible repeat (first | refine blk_drewN ?_ _ | refine blk_drew ?_ | refine blk_alloc ?_ _)); refine blk_far ?_ NB291_266.out _; (with_reducible repeat (first | refine blk_drewN ?_ _ | refine blk_drew ?_ | refine blk_alloc ?_ _)); refine blk_far ?_ NB291_266.out _; (with_reducible repeat (first | refine blk_drewN ?_ _ | refine blk_drew ?_ | refine blk_alloc ?_ _)); refine blk_far ?_ NB291_266.out _; (with_reducible repeat (first | refine blk_drewN ?_ _ | refine blk_drew ?_ | refine blk_alloc ?_ _)); refine blk_far ?_ NB291_266.out _; (with_reducible repeat (first | refine blk_drewN ?_ _ | refine blk_drew ?_ | refine blk_alloc ?_ _)); refine blk_far ?_ NB291_266.out _; (with_reducible repeat (first | refine blk_drewN ?_ _ | refine blk_drew ?_ | refine blk_alloc ?_ _)); refine blk_put (cs := #[.int .i64 t279, .int .u8 t280, .slice Ao33 t281.length co33, .int .i64 t284, .int .i64 t285, .int .i64 0]) ?_ 5 _ rfl; (with_reducible repeat (first | refine blk_drewN ?_ _ | refine blk_drew ?_ | refine blk_alloc ?_ _)); refine blk_put (cs := #[.int .i64 t279, .int .u8 t280, .slice Ao33 t281.length co33, .int .i64 t284, .int .i64 0, .int .i64 0]) ?_ 4 _ rfl; (with_reducible repeat (first | refine blk_drewN ?_ _ | refine blk_drew ?_ | refine blk_alloc ?_ _)); refine blk_put (cs := #[.int .i64 t279, .int .u8 t280, .slice Ao33 t281.length co33, .int .i64 0, .int .i64 0, .int .i64 0]) ?_ 3 _ rfl; (with_reducible repeat (first | refine blk_drewN ?_ _ | refine blk_drew ?_ | refine blk_alloc ?_ _)); refine blk_put (cs := #[.int .i64 t279, .int .u8 t280, .slice none 0 0, .int .i64 0, .int .i64 0, .int .i64 0]) ?_ 2 _ rfl; (with_reducible repeat (first | refine blk_drewN ?_ _ | refine blk_drew ?_ | refine blk_alloc ?_ _)); refine blk_put (cs := #[.int .i64 t279, .int .u8 0, .slice none 0 0, .int .i64 0, .int .i64 0, .int .i64 0]) ?_ 1 _ rfl; (with_reducible repeat (first | refine blk_drewN ?_ _ | refine blk_drew ?_ | refine blk_alloc ?_ _)); refine blk_put (cs := #[.int .i64 0, .int .u8 0, .slice none 0 0, .int .i64 0, .int .i64 0, .int .i64 0]) ?_ 0 _ rfl; (with_reducible repeat (first | refine blk_drewN ?_ _ | refine blk_drew ?_ | refine blk_alloc ?_ _)); exact BK291.out) hg (Kd.R_ne HO_7.out BK291.out (by decide))); have n6_ := Aside0.mk (hb); have n7_ := Aside0.mk (ho); clear HO_267002; clear BK266; clear HO277; clear HO283; clear HO289; clear BK291; clear HB; clear HO_7; have HO_267002 := n0_; have BK266 := n1_; have HO277 := n2_; have HO283 := n3_; have HO289 := n4_; have BK291 := n5_; have HB := n6_; have HO294 := n7_; clear n0_ n1_ n2_ n3_ n4_ n5_ n6_ n7_; clear ho hb hg hat))
                        go_roundg k2
                        case measure => have := HJ2.out; have := HK2.out; omega
                        case rel => exact ⟨(y275), (y292), (wrap64 (x8_2 + 1)), (t279), (t280), (t281), (t284), (t285), (t286), (.slice Ao33 t281.length co33), (by first | rfl | (simp; done) | (simp [*]; done)), H', ⟨by have := HJ2.out; have := HK2.out; omega⟩, ⟨by (with_reducible repeat (first | apply Kd.R_alloc | apply Kd.R_drewN | apply Kd.R_drew)); exact Kd.R_mono HO277.out (fun _ hk => ⟨hk.2, hk.1.2.1⟩)⟩, ⟨by (with_reducible repeat (first | apply Kd.R_alloc | apply Kd.R_drewN | apply Kd.R_drew)); exact Kd.R_mono HO294.out (fun _ hk => ⟨hk.2.1, hk.2.2.1⟩)⟩, ⟨by (with_reducible repeat (first | apply Kd.R_alloc | apply Kd.R_drewN | apply Kd.R_drew)); exact Kd.R_mono HO283.out (fun _ hk => ⟨hk.1.2.1, hk.2⟩)⟩, ⟨pK BK266⟩, ⟨by repeat (first | (with_reducible first | exact HB.out | apply below_alloc | apply pw_below_drewN | apply below_drew1 | refine below_set ?_ GE266.out | refine below_set ?_ GE291.out) | exact HB.out)⟩⟩
                      · rw [if_neg c23] at H
                        exact absurd H (by simp)
                    · rw [if_neg c22] at H
                      have c22b0 : (t290 == t286) = false := beq_eq_false_iff_ne.mpr c22
                      have c22b1 : (t290 != t286) = true := bne_iff_ne.mpr c22
                      obtain rfl := Option.some.inj H
                      obtain ⟨Ao43, co43, eo43⟩ := Kd.R_slice HO_6.out
                      subst eo43
                      have p273 : 0 ≤ (x8_2 : Int) := of_decide_eq_true pA
                      have q273 : x8_2 < (l0.length : Int) := of_decide_eq_true pA
                      obtain ⟨ad273, A273_0, c273_0, e273, hx273_0, hl273_0, hi273_0⟩ := at_L2 HR0.out x8_2 p273 q273
                      cases e273
                      replace hx273_0 := (HB.out.cell (World.block_lt_of_cell? w _ hx273_0)).trans hx273_0
                      have HR273_0 := Aside0.mk hi273_0
                      have HC273_0 := Aside0.mk hl273_0
                      clear hi273_0 hl273_0
                      replace p273 := eq_true p273
                      replace q273 := eq_true q273
                      have p274 : 0 ≤ (x8_2 : Int) := of_decide_eq_true pA
                      have q274 : x8_2 < (l0.length : Int) := of_decide_eq_true pA
                      obtain ⟨ad274, A274_0, c274_0, e274, hx274_0, hl274_0, hi274_0⟩ := at_L2 HR0.out x8_2 p274 q274
                      obtain rfl : ad273 = ad274 := (by injection e274)
                      replace hx274_0 := (HB.out.cell (World.block_lt_of_cell? w _ hx274_0)).trans hx274_0
                      have HR274_0 := Aside0.mk hi274_0
                      have HC274_0 := Aside0.mk hl274_0
                      clear hi274_0 hl274_0
                      replace p274 := eq_true p274
                      replace q274 := eq_true q274
                      have ea_ := Option.some.inj (hx273_0.symm.trans hx274_0)
                      injection ea_ with ea_ en_ ec_
                      subst ea_
                      subst ec_
                      clear en_
                      try go_wp2_with (first | ((with_reducible refine gate_builtin (b := .append) (xs := #[.tmp 38, .tmp 42]) rfl ?_); (try (refine gate_guard (by rfl) ?_; dsimp only)); at_builtin; refine Kd.R_append_rows (Kd.int .u8) (w0 := w) w.heap.size rfl (.tmp 38) (.tmp 42) 22 5 (.int .u8 0) 1 rfl Tryd.underlying22 info5 rfl (by decide) (by omega) (.slice Ao43 x6_2.length co43) x6_2 (rd_L2 l0 x8_2) _ _ _ (fun k_ => some k_ ≠ (u7 : Value).ownBlock ∧ some k_ ≠ (u267002 : Value).ownBlock) (fun _ => False) rfl rfl ?aO ?aR (fun _ _ h => h) (fun _ h => h.elim) ?aF ?aB ?aS ?aL ?_; (case aR => repeat (first | exact (Kd.C_below HR274_0.out HB.out) | (with_reducible refine Kd.C_alloc ?_ _) | (with_reducible refine Kd.C_drewN ?_ _) | (with_reducible refine Kd.C_drew ?_))); (case aB => exact (by repeat (first | (with_reducible first | exact HB.out | apply below_alloc | apply pw_below_drewN | apply below_drew1 | refine below_set ?_ GE266.out) | exact HB.out))); (case aF => exact (fun k_ hk => ⟨Kd.fresh' (Kd.R_lt (pR HO_7)) k_ hk, Kd.fresh' (Kd.R_lt (pR HO_267002)) k_ hk⟩)); (case aO => exact (pR HO_6)); (case aS => exact (below_size (by repeat (first | (with_reducible first | exact HB.out | apply below_alloc | apply pw_below_drewN | apply below_drew1 | refine below_set ?_ GE266.out) | exact HB.out)))); (case aL => have := LMc20.out; omega); intro v276 w44 ho hb hg hat; rw [← Ny275.out] at ho; have n0_ := Aside0.mk (Kd.R_after (ok := (fun k_ => some k_ ≠ (u267002 : Value).ownBlock)) (by (with_reducible repeat (first | apply Kd.R_alloc | apply Kd.R_drewN | apply Kd.R_drew)); exact Kd.R_mono HO_7.out (fun _ hk => ⟨hk.2, hk.1⟩)) hg hat); have n1_ := Aside0.mk (Kd.R_after (ok := (fun k_ => some k_ ≠ (u7 : Value).ownBlock)) (by (with_reducible repeat (first | apply Kd.R_alloc | apply Kd.R_drewN | apply Kd.R_drew)); exact Kd.R_mono HO_267002.out (fun _ hk => ⟨hk.2, hk.1⟩)) hg hat); have n2_ := Aside0.mk (blk_grown (g := gb266) (o := .cells #[.int .i64 x267000_2, .int .u8 x267001_2, u267002, .int .i64 x267003_2, .int .i64 x267004_2, .int .i64 x267005_2] 25 (0, 0)) (pK BK266) hg (Kd.R_ne HO_6.out BK266.out (by decide))); have n3_ := Aside0.mk (hb); have n4_ := Aside0.mk (ho); clear HO_7; clear HO_267002; clear BK266; clear HB; clear HO_6; have HO_7 := n0_; have HO_267002 := n1_; have BK266 := n2_; have HB := n3_; have HO277 := n4_; clear n0_ n1_ n2_ n3_ n4_; clear ho hb hg hat; obtain ⟨Ao45, co45, eo45⟩ := Kd.R_slice HO_267002.out; subst eo45))
                      have n0_ := Aside0.mk (Kd.R_drew HO_7.out)
                      have n1_ := Aside0.mk (Kd.R_drew HO_267002.out)
                      have n2_ := Aside0.mk (Kd.R_drew HO277.out)
                      have n3_ := Aside0.mk (blk_drew BK266.out)
                      have n4_ := Aside0.mk (below_drew1 HB.out)
                      clear HO_7
                      clear HO_267002
                      clear HO277
                      clear BK266
                      clear HB
                      have HO_7 := n0_
                      have HO_267002 := n1_
                      have HO277 := n2_
                      have BK266 := n3_
                      have HB := n4_
                      clear n0_ n1_ n2_ n3_ n4_
                      have p278 : 0 ≤ (x8_2 : Int) := of_decide_eq_true pA
                      have q278 : x8_2 < (l0.length : Int) := of_decide_eq_true pA
                      obtain ⟨ad278, A278_0, c278_0, e278, hx278_0, hl278_0, hi278_0⟩ := at_L2 HR0.out x8_2 p278 q278
                      have hw278_0 := hx278_0
                      obtain rfl : ad273 = ad278 := (by injection e278)
                      replace hx278_0 := (HB.out.cell (World.block_lt_of_cell? w _ hx278_0)).trans hx278_0
                      have HR278_0 := Aside0.mk hi278_0
                      have HC278_0 := Aside0.mk hl278_0
                      clear hi278_0 hl278_0
                      replace p278 := eq_true p278
                      replace q278 := eq_true q278
                      refine start_ (n := 15) (S := fun w' => w'.cell? ⟨gb266, 0, none⟩ = some (.int .i64 x267000_2) ∧ w'.cell? ⟨gb266, 1, none⟩ = some (.int .u8 x267001_2) ∧ w'.cell? ⟨gb266, 2, none⟩ = some (.slice Ao45 x267002_2.length co45) ∧ w'.cell? ⟨gb266, 3, none⟩ = some (.int .i64 x267003_2) ∧ w'.cell? ⟨gb266, 4, none⟩ = some (.int .i64 x267004_2) ∧ w'.cell? ⟨gb266, 5, none⟩ = some (.int .i64 x267005_2) ∧ w'.cell? (ad273.add (x8_2).toNat) = some (.slice A278_0 (rd_L2 l0 x8_2).length c278_0)) (ds := []) #[false, false, false, false, false, false, false, false, false, false, false, false, false, false, false] (by kernel_rfl) rfl rfl ⟨(blk_cell BK266.out 0).trans rfl, (blk_cell BK266.out 1).trans rfl, (blk_cell BK266.out 2).trans rfl, (blk_cell BK266.out 3).trans rfl, (blk_cell BK266.out 4).trans rfl, (blk_cell BK266.out 5).trans rfl, ((HB.out.cell (World.block_lt_of_cell? w _ hw278_0)).trans hw278_0)⟩ (fun hHeld => ?_); refine with_tabW capnplaw25_UnpackstreamChunks.tab11 capnplaw25_UnpackstreamChunks.bits11 (fun HT_ HW_ => ?_)
                      generalize w44.drew = w46 at HO_7 HO_267002 HO277 BK266 HB HR278_0 hx278_0 hHeld ⊢
                      refine pure_ (i := 1) (N := some 46) (v := ?_) (a' := ?_) #[false, true, false, false, false, false, false, false, false, false, false, false, false, false, false] rfl rfl (any_of HT_.out (by kernel_rfl)) (fun _ _ _ h => h) (Or.inl ⟨by rfl, ?_⟩) ?_ ?_
                      rotate_left
                      · intro w'
                        go_simp
                        with_reducible rfl
                      rotate_left
                      · simp only [Act.put, List.setIfInBounds_toArray, List.set_cons_zero, List.set_cons_succ, i64_w, i32_w]
                        rfl
                      refine pure_ (i := 2) (N := some 47) (v := ?_) (a' := ?_) #[false, true, true, false, false, false, false, false, false, false, false, false, false, false, false] rfl rfl (any_of HT_.out (by kernel_rfl)) (fun _ _ _ h => h) (Or.inl ⟨by rfl, ?_⟩) ?_ ?_
                      rotate_left
                      · intro w'
                        go_simp
                        with_reducible rfl
                      rotate_left
                      · simp only [Act.put, List.setIfInBounds_toArray, List.set_cons_zero, List.set_cons_succ, i64_w, i32_w]
                        rfl
                      refine pure_ (i := 3) (N := some 48) (v := ?_) (a' := ?_) #[false, true, true, true, false, false, false, false, false, false, false, false, false, false, false] rfl rfl (any_of HT_.out (by kernel_rfl)) (fun _ _ _ h => h) (Or.inl ⟨by rfl, ?_⟩) ?_ ?_
                      rotate_left
                      · intro w'
                        go_simp
                        with_reducible rfl
                      rotate_left
                      · simp only [Act.put, List.setIfInBounds_toArray, List.set_cons_zero, List.set_cons_succ, i64_w, i32_w]
                        rfl
                      refine pure_ (i := 5) (N := some 50) (v := ?_) (a' := ?_) #[false, true, true, true, false, true, false, false, false, false, false, false, false, false, false] rfl rfl (any_of HT_.out (by kernel_rfl)) (fun _ _ _ h => h) (Or.inl ⟨by rfl, ?_⟩) ?_ ?_
                      rotate_left
                      · intro w'
                        go_simp
                        with_reducible rfl
                      rotate_left
                      · simp only [Act.put, List.setIfInBounds_toArray, List.set_cons_zero, List.set_cons_succ, i64_w, i32_w]
                        rfl
                      refine take_ (i := 0) (N := some 45) (v := ?_) (a' := ?_) #[true, true, true, true, false, true, false, false, false, false, false, false, false, false, false] rfl rfl (take_ofW HT_.out HW_.out (by kernel_rfl)) (fun _ _ _ h => h) (Or.inl ⟨by rfl, ?_⟩) hHeld ?_ ?_
                      rotate_left
                      · rintro w' ⟨s0, s1, s2, s3, s4, s5, s6⟩
                        go_simp
                        with_reducible rfl
                      rotate_left
                      · simp only [Act.put, List.setIfInBounds_toArray, List.set_cons_zero, List.set_cons_succ, i64_w, i32_w]
                        rfl
                      refine take_ (i := 4) (N := some 49) (v := ?_) (a' := ?_) #[true, true, true, true, true, true, false, false, false, false, false, false, false, false, false] rfl rfl (take_ofW HT_.out HW_.out (by kernel_rfl)) (fun _ _ _ h => h) (Or.inl ⟨by rfl, ?_⟩) hHeld ?_ ?_
                      rotate_left
                      · rintro w' ⟨s0, s1, s2, s3, s4, s5, s6⟩
                        go_simp
                        with_reducible rfl
                      rotate_left
                      · simp only [Act.put, List.setIfInBounds_toArray, List.set_cons_zero, List.set_cons_succ, i64_w, i32_w]
                        rfl
                      refine join_ (σ := Value × Value × Nat) 3 #[true, true, true, true, true, true, true, true, true, true, true, true, false, false, false] (fun s_ => [(51, .tuple #[.agg #[.int .i64 t279, .int .u8 t280, s_.1, .int .i64 t284, .int .i64 t285, .int .i64 t286], s_.2.1, .int .i64 t290]), (9, .pointer (some ⟨s_.2.2, 0, none⟩)), (44, .tuple #[.agg #[.int .i64 t279, .int .u8 t280, s_.1, .int .i64 t284, .int .i64 t285, .int .i64 t286], s_.2.1, .int .i64 t290]), (52, .agg #[.int .i64 t279, .int .u8 t280, s_.1, .int .i64 t284, .int .i64 t285, .int .i64 t286]), (53, s_.2.1), (54, .int .i64 t290)]) (fun s_ w' => (w'.cell? ⟨gb266, 0, none⟩ = some (.int .i64 x267000_2) ∧ w'.cell? ⟨gb266, 1, none⟩ = some (.int .u8 x267001_2) ∧ w'.cell? ⟨gb266, 2, none⟩ = some (.slice Ao45 x267002_2.length co45) ∧ w'.cell? ⟨gb266, 3, none⟩ = some (.int .i64 x267003_2) ∧ w'.cell? ⟨gb266, 4, none⟩ = some (.int .i64 x267004_2) ∧ w'.cell? ⟨gb266, 5, none⟩ = some (.int .i64 x267005_2) ∧ w'.cell? (ad273.add (x8_2).toNat) = some (.slice A278_0 (rd_L2 l0 x8_2).length c278_0)) ∧ (Kd.R (Kd.int .u8) 5 w' w.heap.size (fun k_ => some k_ ≠ (s_.1 : Value).ownBlock ∧ some k_ ≠ (s_.2.1 : Value).ownBlock ∧ some k_ ≠ (.slice Ao45 x267002_2.length co45 : Value).ownBlock ∧ some k_ ≠ (u7 : Value).ownBlock) v276 y275) ∧ (Kd.R (Kd.int .u8) 5 w' w.heap.size (fun k_ => some k_ ≠ (v276 : Value).ownBlock ∧ some k_ ≠ (s_.2.1 : Value).ownBlock ∧ some k_ ≠ (.slice Ao45 x267002_2.length co45 : Value).ownBlock ∧ some k_ ≠ (u7 : Value).ownBlock) s_.1 t281) ∧ (Kd.R (Kd.int .u8) 5 w' w.heap.size (fun k_ => some k_ ≠ (v276 : Value).ownBlock ∧ some k_ ≠ (s_.1 : Value).ownBlock ∧ some k_ ≠ (.slice Ao45 x267002_2.length co45 : Value).ownBlock ∧ some k_ ≠ (u7 : Value).ownBlock) s_.2.1 t287) ∧ (Kd.R (Kd.int .u8) 5 w' w.heap.size (fun k_ => some k_ ≠ (v276 : Value).ownBlock ∧ some k_ ≠ (s_.1 : Value).ownBlock ∧ some k_ ≠ (s_.2.1 : Value).ownBlock ∧ some k_ ≠ (u7 : Value).ownBlock) (.slice Ao45 x267002_2.length co45) x267002_2) ∧ (Kd.R (Kd.int .u8) 5 w' w.heap.size (fun k_ => some k_ ≠ (v276 : Value).ownBlock ∧ some k_ ≠ (s_.1 : Value).ownBlock ∧ some k_ ≠ (s_.2.1 : Value).ownBlock ∧ some k_ ≠ (.slice Ao45 x267002_2.length co45 : Value).ownBlock) u7 x7_2) ∧ (w'.heap[gb266]? = some (.cells #[.int .i64 x267000_2, .int .u8 x267001_2, .slice Ao45 x267002_2.length co45, .int .i64 x267003_2, .int .i64 x267004_2, .int .i64 x267005_2] 25 (0, 0))) ∧ (w'.heap[s_.2.2]? = some (.cells #[.int .i64 0, .int .u8 0, .slice none 0 0, .int .i64 0, .int .i64 0, .int .i64 0] 25 (0, 0))) ∧ (w.heap.size ≤ s_.2.2) ∧ (w.heap.size ≤ s_.2.2) ∧ (gb266 ≠ s_.2.2) ∧ (s_.2.2 ≠ gb266) ∧ (Below w.heap.size w w')) ?_ ?_
                      rotate_left
                      · intro hCont
                        refine two_ (i := 6) (j := 11) (Ni := some 51) (Nj := some 9) #[true, true, true, true, true, true, true, false, false, false, false, false, false, false, false] #[true, true, true, true, true, true, false, false, false, false, false, true, false, false, false] rfl rfl rfl rfl (two_of HT_.out (by kernel_rfl)) (by decide) (by decide) (fun K hK => ?_) (fun K hK => ?_)
                        · skip
                          refine goes_ Tryd.func9 (by kernel_rfl) rfl #[.agg #[.int .i64 x267000_2, .int .u8 x267001_2, .slice Ao45 x267002_2.length co45, .int .i64 x267003_2, .int .i64 x267004_2, .int .i64 x267005_2], .slice A278_0 (rd_L2 l0 x8_2).length c278_0, .int .i64 a1] (by rfl) rfl rfl pM ?_
                          with_reducible refine (unpackstream_Write.calls x267000_2 x267001_2 _ _ x267002_2 x267003_2 x267004_2 x267005_2 _ _ (rd_L2 l0 x8_2) a1 t279 t280 t281 t284 t285 t286 t287 t290 _ ?side1 ?side2 ?side3 ?side4 A21.out (Go.Proofs.YtpffoecblcfndaaDoor.Us.StepsL.below HL.out pB)).mono ?_
                          (case side1 => repeat (first | exact (Kd.R_reads' HO_267002.out).2.2 | (with_reducible refine Kd.C_alloc ?_ _) | (with_reducible refine Kd.C_drewN ?_ _) | (with_reducible refine Kd.C_drew ?_)))
                          (case side2 => exact (Kd.R_reads' HO_267002.out).2.1)
                          (case side3 => repeat (first | exact (Kd.C_below HR278_0.out HB.out) | (with_reducible refine Kd.C_alloc ?_ _) | (with_reducible refine Kd.C_drewN ?_ _) | (with_reducible refine Kd.C_drew ?_)))
                          (case side4 => exact HC278_0.out)
                          rintro e w47 ⟨v282, v288, rfl, ho0, ho1, hb⟩
                          refine ⟨_, rfl, ?_⟩
                          have n0_ := Aside0.mk (Kd.R_mono (Kd.R_told (Kd.R_told (Kd.R_old (pR HO_7) hb) (Kd.R_base ho0)) (Kd.R_base ho1)) (fun _ h_ => h_.1))
                          have n1_ := Aside0.mk (Kd.R_mono (Kd.R_told (Kd.R_told (Kd.R_old (pR HO_267002) hb) (Kd.R_base ho0)) (Kd.R_base ho1)) (fun _ h_ => h_.1))
                          have n2_ := Aside0.mk (Kd.R_mono (Kd.R_told (Kd.R_told (Kd.R_old (pR HO277) hb) (Kd.R_base ho0)) (Kd.R_base ho1)) (fun _ h_ => h_.1))
                          have n3_ := Aside0.mk (Kd.R_lower (Kd.R_new' (Kd.R_new' (Kd.R_new' ho0 (Kd.R_lt (pR HO_7))) (Kd.R_lt (pR HO_267002))) (Kd.R_lt (pR HO277))) (below_size (by repeat (first | (with_reducible first | exact HB.out | apply below_alloc | apply pw_below_drewN | apply below_drew1 | refine below_set ?_ GE266.out) | exact HB.out))))
                          have n4_ := Aside0.mk (Kd.R_lower (Kd.R_new' (Kd.R_new' (Kd.R_new' ho1 (Kd.R_lt (pR HO_7))) (Kd.R_lt (pR HO_267002))) (Kd.R_lt (pR HO277))) (below_size (by repeat (first | (with_reducible first | exact HB.out | apply below_alloc | apply pw_below_drewN | apply below_drew1 | refine below_set ?_ GE266.out) | exact HB.out))))
                          have n5_ := Aside0.mk (blk_below (g := gb266) (o := .cells #[.int .i64 x267000_2, .int .u8 x267001_2, .slice Ao45 x267002_2.length co45, .int .i64 x267003_2, .int .i64 x267004_2, .int .i64 x267005_2] 25 (0, 0)) (pK BK266) hb)
                          have n6_ := Aside0.mk (below_step (by repeat (first | (with_reducible first | exact HB.out | apply below_alloc | apply pw_below_drewN | apply below_drew1 | refine below_set ?_ GE266.out) | exact HB.out)) hb)
                          clear HO_7
                          clear HO_267002
                          clear HO277
                          clear BK266
                          clear HB
                          have HO_7 := n0_
                          have HO_267002 := n1_
                          have HO277 := n2_
                          have HO283 := n3_
                          have HO289 := n4_
                          have BK266 := n5_
                          have HB := n6_
                          clear n0_ n1_ n2_ n3_ n4_ n5_ n6_
                          (try clear hb)
                          (try clear hb2)
                          (try clear hk)
                          (try clear hi)
                          (try clear ho0)
                          (try clear ho1)
                          refine hK.out _ _ ⟨(blk_cell BK266.out 0).trans rfl, (blk_cell BK266.out 1).trans rfl, (blk_cell BK266.out 2).trans rfl, (blk_cell BK266.out 3).trans rfl, (blk_cell BK266.out 4).trans rfl, (blk_cell BK266.out 5).trans rfl, ((HB.out.cell (World.block_lt_of_cell? w _ hw278_0)).trans hw278_0)⟩ (fun hHeld => ?_)
                          clear hK K
                          refine norm_ (a' := ?_) ?_ ?_
                          rotate_left
                          · show Act.put _ (some 51) _ = _
                            simp only [Act.put, List.setIfInBounds_toArray, List.set_cons_zero, List.set_cons_succ, i64_w, i32_w]
                            rfl
                          refine pure_ (i := 7) (N := some 44) (v := ?_) (a' := ?_) #[true, true, true, true, true, true, true, true, false, false, false, false, false, false, false] rfl rfl (any_of HT_.out (by kernel_rfl)) (fun _ _ _ h => h) (Or.inl ⟨by rfl, ?_⟩) ?_ ?_
                          rotate_left
                          · intro w'
                            go_simp
                            with_reducible rfl
                          rotate_left
                          · simp only [Act.put, List.setIfInBounds_toArray, List.set_cons_zero, List.set_cons_succ, i64_w, i32_w]
                            rfl
                          refine pure_ (i := 8) (N := some 52) (v := ?_) (a' := ?_) #[true, true, true, true, true, true, true, true, true, false, false, false, false, false, false] rfl rfl (any_of HT_.out (by kernel_rfl)) (fun _ _ _ h => h) (Or.inl ⟨by rfl, ?_⟩) ?_ ?_
                          rotate_left
                          · intro w'
                            go_simp
                            with_reducible rfl
                          rotate_left
                          · simp only [Act.put, List.setIfInBounds_toArray, List.set_cons_zero, List.set_cons_succ, i64_w, i32_w]
                            rfl
                          refine pure_ (i := 9) (N := some 53) (v := ?_) (a' := ?_) #[true, true, true, true, true, true, true, true, true, true, false, false, false, false, false] rfl rfl (any_of HT_.out (by kernel_rfl)) (fun _ _ _ h => h) (Or.inl ⟨by rfl, ?_⟩) ?_ ?_
                          rotate_left
                          · intro w'
                            go_simp
                            with_reducible rfl
                          rotate_left
                          · simp only [Act.put, List.setIfInBounds_toArray, List.set_cons_zero, List.set_cons_succ, i64_w, i32_w]
                            rfl
                          refine pure_ (i := 10) (N := some 54) (v := ?_) (a' := ?_) #[true, true, true, true, true, true, true, true, true, true, true, false, false, false, false] rfl rfl (any_of HT_.out (by kernel_rfl)) (fun _ _ _ h => h) (Or.inl ⟨by rfl, ?_⟩) ?_ ?_
                          rotate_left
                          · intro w'
                            go_simp
                            with_reducible rfl
                          rotate_left
                          · simp only [Act.put, List.setIfInBounds_toArray, List.set_cons_zero, List.set_cons_succ, i64_w, i32_w]
                            rfl
                          refine one_ (i := 11) (N := some 9) #[true, true, true, true, true, true, true, true, true, true, true, true, false, false, false] rfl rfl (one_of HT_.out (by kernel_rfl)) (by decide) (fun K hK => ?_)
                          refine box_step ?hg (N := 9) ?hd (cs := #[.int .i64 0, .int .u8 0, .slice none 0 0, .int .i64 0, .int .i64 0, .int .i64 0]) (t := 25) ?hr ?_; (case hd => rfl); (case hg => rfl); (case hr => first | (go_simp; done) | (go_simp; rfl))
                          intro gb291 hg w48 hbox hb
                          have n0_ := Aside0.mk (Kd.R_below (pR HO_7) hb)
                          have n1_ := Aside0.mk (Kd.R_below (pR HO_267002) hb)
                          have n2_ := Aside0.mk (Kd.R_below (pR HO277) hb)
                          have n3_ := Aside0.mk (Kd.R_below (pR HO283) hb)
                          have n4_ := Aside0.mk (Kd.R_below (pR HO289) hb)
                          have n5_ := Aside0.mk (blk_below (g := gb266) (o := .cells #[.int .i64 x267000_2, .int .u8 x267001_2, .slice Ao45 x267002_2.length co45, .int .i64 x267003_2, .int .i64 x267004_2, .int .i64 x267005_2] 25 (0, 0)) (pK BK266) hb)
                          have n6_ := Aside0.mk (below_step (by repeat (first | (with_reducible first | exact HB.out | apply below_alloc | apply pw_below_drewN | apply below_drew1 | refine below_set ?_ GE266.out) | exact HB.out)) hb)
                          have n7_ := Aside0.mk (hbox)
                          have n8_ := Aside0.mk ((by rw [hg]; exact (below_size (by repeat (first | (with_reducible first | exact HB.out | apply below_alloc | apply pw_below_drewN | apply below_drew1 | refine below_set ?_ GE266.out) | exact HB.out))) : w.heap.size ≤ gb291))
                          have n9_ := Aside0.mk ((by rw [hg]; exact (below_size (by repeat (first | (with_reducible first | exact HB.out | apply below_alloc | apply pw_below_drewN | apply below_drew1 | refine below_set ?_ GE266.out) | exact HB.out))) : w.heap.size ≤ gb291))
                          have n10_ := Aside0.mk ((by rw [hg]; exact Nat.ne_of_lt (blk_lt (g := gb266) (o := .cells #[.int .i64 x267000_2, .int .u8 x267001_2, .slice Ao45 x267002_2.length co45, .int .i64 x267003_2, .int .i64 x267004_2, .int .i64 x267005_2] 25 (0, 0)) (pK BK266)) : gb266 ≠ gb291))
                          have n11_ := Aside0.mk ((by rw [hg]; exact Nat.ne_of_gt (blk_lt (g := gb266) (o := .cells #[.int .i64 x267000_2, .int .u8 x267001_2, .slice Ao45 x267002_2.length co45, .int .i64 x267003_2, .int .i64 x267004_2, .int .i64 x267005_2] 25 (0, 0)) (pK BK266)) : gb291 ≠ gb266))
                          clear HO_7
                          clear HO_267002
                          clear HO277
                          clear HO283
                          clear HO289
                          clear BK266
                          clear HB
                          have HO_7 := n0_
                          have HO_267002 := n1_
                          have HO277 := n2_
                          have HO283 := n3_
                          have HO289 := n4_
                          have BK266 := n5_
                          have HB := n6_
                          have BK291 := n7_
                          have GW291 := n8_
                          have GE291 := n9_
                          have NB266_291 := n10_
                          have NB291_266 := n11_
                          clear n0_ n1_ n2_ n3_ n4_ n5_ n6_ n7_ n8_ n9_ n10_ n11_
                          clear hb hbox hg
                          refine hK.out _ _ ⟨(blk_cell BK266.out 0).trans rfl, (blk_cell BK266.out 1).trans rfl, (blk_cell BK266.out 2).trans rfl, (blk_cell BK266.out 3).trans rfl, (blk_cell BK266.out 4).trans rfl, (blk_cell BK266.out 5).trans rfl, ((HB.out.cell (World.block_lt_of_cell? w _ hw278_0)).trans hw278_0)⟩ (fun hHeld => ?_)
                          clear hK K
                          refine norm_ (a' := ?_) ?_ ?_
                          rotate_left
                          · show Act.put _ (some 9) _ = _
                            simp only [Act.put, List.setIfInBounds_toArray, List.set_cons_zero, List.set_cons_succ, i64_w, i32_w]
                            rfl
                          exact norm_ (by simp only [putAll, Act.put, List.setIfInBounds_toArray, List.set_cons_zero, List.set_cons_succ]) (hCont (v282, v288, gb291) _ ⟨hHeld, (by (with_reducible repeat (first | apply Kd.R_alloc | apply Kd.R_drewN | apply Kd.R_drew)); exact Kd.R_mono HO277.out (fun _ hk => ⟨hk.1.2, ⟨hk.2, ⟨hk.1.1.2, hk.1.1.1⟩⟩⟩)), (by (with_reducible repeat (first | apply Kd.R_alloc | apply Kd.R_drewN | apply Kd.R_drew)); exact Kd.R_mono HO283.out (fun _ hk => ⟨hk.2, ⟨hk.1.1.1, ⟨hk.1.2, hk.1.1.2⟩⟩⟩)), (by (with_reducible repeat (first | apply Kd.R_alloc | apply Kd.R_drewN | apply Kd.R_drew)); exact Kd.R_mono HO289.out (fun _ hk => ⟨hk.2, ⟨hk.1.1.1, ⟨hk.1.2, hk.1.1.2⟩⟩⟩)), (by (with_reducible repeat (first | apply Kd.R_alloc | apply Kd.R_drewN | apply Kd.R_drew)); exact Kd.R_mono HO_267002.out (fun _ hk => ⟨hk.1.1.2, ⟨hk.1.2, ⟨hk.2, hk.1.1.1⟩⟩⟩)), (by (with_reducible repeat (first | apply Kd.R_alloc | apply Kd.R_drewN | apply Kd.R_drew)); exact Kd.R_mono HO_7.out (fun _ hk => ⟨hk.1.1.2, ⟨hk.1.2, ⟨hk.2, hk.1.1.1⟩⟩⟩)), (pK BK266), (pK BK291), GW291.out, GE291.out, NB266_291.out, NB291_266.out, (by repeat (first | (with_reducible first | exact HB.out | apply below_alloc | apply pw_below_drewN | apply below_drew1 | refine below_set ?_ GE266.out | refine below_set ?_ GE291.out) | exact HB.out))⟩)
                        · skip
                          refine box_step ?hg (N := 9) ?hd (cs := #[.int .i64 0, .int .u8 0, .slice none 0 0, .int .i64 0, .int .i64 0, .int .i64 0]) (t := 25) ?hr ?_; (case hd => rfl); (case hg => rfl); (case hr => first | (go_simp; done) | (go_simp; rfl))
                          intro gb291 hg w47 hbox hb
                          have n0_ := Aside0.mk (Kd.R_below (pR HO_7) hb)
                          have n1_ := Aside0.mk (Kd.R_below (pR HO_267002) hb)
                          have n2_ := Aside0.mk (Kd.R_below (pR HO277) hb)
                          have n3_ := Aside0.mk (blk_below (g := gb266) (o := .cells #[.int .i64 x267000_2, .int .u8 x267001_2, .slice Ao45 x267002_2.length co45, .int .i64 x267003_2, .int .i64 x267004_2, .int .i64 x267005_2] 25 (0, 0)) (pK BK266) hb)
                          have n4_ := Aside0.mk (below_step (by repeat (first | (with_reducible first | exact HB.out | apply below_alloc | apply pw_below_drewN | apply below_drew1 | refine below_set ?_ GE266.out) | exact HB.out)) hb)
                          have n5_ := Aside0.mk (hbox)
                          have n6_ := Aside0.mk ((by rw [hg]; exact (below_size (by repeat (first | (with_reducible first | exact HB.out | apply below_alloc | apply pw_below_drewN | apply below_drew1 | refine below_set ?_ GE266.out) | exact HB.out))) : w.heap.size ≤ gb291))
                          have n7_ := Aside0.mk ((by rw [hg]; exact (below_size (by repeat (first | (with_reducible first | exact HB.out | apply below_alloc | apply pw_below_drewN | apply below_drew1 | refine below_set ?_ GE266.out) | exact HB.out))) : w.heap.size ≤ gb291))
                          have n8_ := Aside0.mk ((by rw [hg]; exact Nat.ne_of_lt (blk_lt (g := gb266) (o := .cells #[.int .i64 x267000_2, .int .u8 x267001_2, .slice Ao45 x267002_2.length co45, .int .i64 x267003_2, .int .i64 x267004_2, .int .i64 x267005_2] 25 (0, 0)) (pK BK266)) : gb266 ≠ gb291))
                          have n9_ := Aside0.mk ((by rw [hg]; exact Nat.ne_of_gt (blk_lt (g := gb266) (o := .cells #[.int .i64 x267000_2, .int .u8 x267001_2, .slice Ao45 x267002_2.length co45, .int .i64 x267003_2, .int .i64 x267004_2, .int .i64 x267005_2] 25 (0, 0)) (pK BK266)) : gb291 ≠ gb266))
                          clear HO_7
                          clear HO_267002
                          clear HO277
                          clear BK266
                          clear HB
                          have HO_7 := n0_
                          have HO_267002 := n1_
                          have HO277 := n2_
                          have BK266 := n3_
                          have HB := n4_
                          have BK291 := n5_
                          have GW291 := n6_
                          have GE291 := n7_
                          have NB266_291 := n8_
                          have NB291_266 := n9_
                          clear n0_ n1_ n2_ n3_ n4_ n5_ n6_ n7_ n8_ n9_
                          clear hb hbox hg
                          refine hK.out _ _ ⟨(blk_cell BK266.out 0).trans rfl, (blk_cell BK266.out 1).trans rfl, (blk_cell BK266.out 2).trans rfl, (blk_cell BK266.out 3).trans rfl, (blk_cell BK266.out 4).trans rfl, (blk_cell BK266.out 5).trans rfl, ((HB.out.cell (World.block_lt_of_cell? w _ hw278_0)).trans hw278_0)⟩ (fun hHeld => ?_)
                          clear hK K
                          refine norm_ (a' := ?_) ?_ ?_
                          rotate_left
                          · show Act.put _ (some 9) _ = _
                            simp only [Act.put, List.setIfInBounds_toArray, List.set_cons_zero, List.set_cons_succ, i64_w, i32_w]
                            rfl
                          refine one_ (i := 6) (N := some 51) #[true, true, true, true, true, true, true, false, false, false, false, true, false, false, false] rfl rfl (one_of HT_.out (by kernel_rfl)) (by decide) (fun K hK => ?_)
                          refine goes_ Tryd.func9 (by kernel_rfl) rfl #[.agg #[.int .i64 x267000_2, .int .u8 x267001_2, .slice Ao45 x267002_2.length co45, .int .i64 x267003_2, .int .i64 x267004_2, .int .i64 x267005_2], .slice A278_0 (rd_L2 l0 x8_2).length c278_0, .int .i64 a1] (by rfl) rfl rfl pM ?_
                          with_reducible refine (unpackstream_Write.calls x267000_2 x267001_2 _ _ x267002_2 x267003_2 x267004_2 x267005_2 _ _ (rd_L2 l0 x8_2) a1 t279 t280 t281 t284 t285 t286 t287 t290 _ ?side1 ?side2 ?side3 ?side4 A21.out (Go.Proofs.YtpffoecblcfndaaDoor.Us.StepsL.below HL.out pB)).mono ?_
                          (case side1 => repeat (first | exact (Kd.R_reads' HO_267002.out).2.2 | (with_reducible refine Kd.C_alloc ?_ _) | (with_reducible refine Kd.C_drewN ?_ _) | (with_reducible refine Kd.C_drew ?_)))
                          (case side2 => exact (Kd.R_reads' HO_267002.out).2.1)
                          (case side3 => repeat (first | exact (Kd.C_below HR278_0.out HB.out) | (with_reducible refine Kd.C_alloc ?_ _) | (with_reducible refine Kd.C_drewN ?_ _) | (with_reducible refine Kd.C_drew ?_)))
                          (case side4 => exact HC278_0.out)
                          rintro e w48 ⟨v282, v288, rfl, ho0, ho1, hb⟩
                          refine ⟨_, rfl, ?_⟩
                          have n0_ := Aside0.mk (Kd.R_mono (Kd.R_told (Kd.R_told (Kd.R_old (pR HO_7) hb) (Kd.R_base ho0)) (Kd.R_base ho1)) (fun _ h_ => h_.1))
                          have n1_ := Aside0.mk (Kd.R_mono (Kd.R_told (Kd.R_told (Kd.R_old (pR HO_267002) hb) (Kd.R_base ho0)) (Kd.R_base ho1)) (fun _ h_ => h_.1))
                          have n2_ := Aside0.mk (Kd.R_mono (Kd.R_told (Kd.R_told (Kd.R_old (pR HO277) hb) (Kd.R_base ho0)) (Kd.R_base ho1)) (fun _ h_ => h_.1))
                          have n3_ := Aside0.mk (Kd.R_lower (Kd.R_new' (Kd.R_new' (Kd.R_new' ho0 (Kd.R_lt (pR HO_7))) (Kd.R_lt (pR HO_267002))) (Kd.R_lt (pR HO277))) (below_size (by repeat (first | (with_reducible first | exact HB.out | apply below_alloc | apply pw_below_drewN | apply below_drew1 | refine below_set ?_ GE266.out | refine below_set ?_ GE291.out) | exact HB.out))))
                          have n4_ := Aside0.mk (Kd.R_lower (Kd.R_new' (Kd.R_new' (Kd.R_new' ho1 (Kd.R_lt (pR HO_7))) (Kd.R_lt (pR HO_267002))) (Kd.R_lt (pR HO277))) (below_size (by repeat (first | (with_reducible first | exact HB.out | apply below_alloc | apply pw_below_drewN | apply below_drew1 | refine below_set ?_ GE266.out | refine below_set ?_ GE291.out) | exact HB.out))))
                          have n5_ := Aside0.mk (blk_below (g := gb266) (o := .cells #[.int .i64 x267000_2, .int .u8 x267001_2, .slice Ao45 x267002_2.length co45, .int .i64 x267003_2, .int .i64 x267004_2, .int .i64 x267005_2] 25 (0, 0)) (pK BK266) hb)
                          have n6_ := Aside0.mk (blk_below (g := gb291) (o := .cells #[.int .i64 0, .int .u8 0, .slice none 0 0, .int .i64 0, .int .i64 0, .int .i64 0] 25 (0, 0)) (pK BK291) hb)
                          have n7_ := Aside0.mk (below_step (by repeat (first | (with_reducible first | exact HB.out | apply below_alloc | apply pw_below_drewN | apply below_drew1 | refine below_set ?_ GE266.out | refine below_set ?_ GE291.out) | exact HB.out)) hb)
                          clear HO_7
                          clear HO_267002
                          clear HO277
                          clear BK266
                          clear BK291
                          clear HB
                          have HO_7 := n0_
                          have HO_267002 := n1_
                          have HO277 := n2_
                          have HO283 := n3_
                          have HO289 := n4_
                          have BK266 := n5_
                          have BK291 := n6_
                          have HB := n7_
                          clear n0_ n1_ n2_ n3_ n4_ n5_ n6_ n7_
                          (try clear hb)
                          (try clear hb2)
                          (try clear hk)
                          (try clear hi)
                          (try clear ho0)
                          (try clear ho1)
                          refine hK.out _ _ ⟨(blk_cell BK266.out 0).trans rfl, (blk_cell BK266.out 1).trans rfl, (blk_cell BK266.out 2).trans rfl, (blk_cell BK266.out 3).trans rfl, (blk_cell BK266.out 4).trans rfl, (blk_cell BK266.out 5).trans rfl, ((HB.out.cell (World.block_lt_of_cell? w _ hw278_0)).trans hw278_0)⟩ (fun hHeld => ?_)
                          clear hK K
                          refine norm_ (a' := ?_) ?_ ?_
                          rotate_left
                          · show Act.put _ (some 51) _ = _
                            simp only [Act.put, List.setIfInBounds_toArray, List.set_cons_zero, List.set_cons_succ, i64_w, i32_w]
                            rfl
                          refine pure_ (i := 7) (N := some 44) (v := ?_) (a' := ?_) #[true, true, true, true, true, true, true, true, false, false, false, true, false, false, false] rfl rfl (any_of HT_.out (by kernel_rfl)) (fun _ _ _ h => h) (Or.inl ⟨by rfl, ?_⟩) ?_ ?_
                          rotate_left
                          · intro w'
                            go_simp
                            with_reducible rfl
                          rotate_left
                          · simp only [Act.put, List.setIfInBounds_toArray, List.set_cons_zero, List.set_cons_succ, i64_w, i32_w]
                            rfl
                          refine pure_ (i := 8) (N := some 52) (v := ?_) (a' := ?_) #[true, true, true, true, true, true, true, true, true, false, false, true, false, false, false] rfl rfl (any_of HT_.out (by kernel_rfl)) (fun _ _ _ h => h) (Or.inl ⟨by rfl, ?_⟩) ?_ ?_
                          rotate_left
                          · intro w'
                            go_simp
                            with_reducible rfl
                          rotate_left
                          · simp only [Act.put, List.setIfInBounds_toArray, List.set_cons_zero, List.set_cons_succ, i64_w, i32_w]
                            rfl
                          refine pure_ (i := 9) (N := some 53) (v := ?_) (a' := ?_) #[true, true, true, true, true, true, true, true, true, true, false, true, false, false, false] rfl rfl (any_of HT_.out (by kernel_rfl)) (fun _ _ _ h => h) (Or.inl ⟨by rfl, ?_⟩) ?_ ?_
                          rotate_left
                          · intro w'
                            go_simp
                            with_reducible rfl
                          rotate_left
                          · simp only [Act.put, List.setIfInBounds_toArray, List.set_cons_zero, List.set_cons_succ, i64_w, i32_w]
                            rfl
                          refine pure_ (i := 10) (N := some 54) (v := ?_) (a' := ?_) #[true, true, true, true, true, true, true, true, true, true, true, true, false, false, false] rfl rfl (any_of HT_.out (by kernel_rfl)) (fun _ _ _ h => h) (Or.inl ⟨by rfl, ?_⟩) ?_ ?_
                          rotate_left
                          · intro w'
                            go_simp
                            with_reducible rfl
                          rotate_left
                          · simp only [Act.put, List.setIfInBounds_toArray, List.set_cons_zero, List.set_cons_succ, i64_w, i32_w]
                            rfl
                          exact norm_ (by simp only [putAll, Act.put, List.setIfInBounds_toArray, List.set_cons_zero, List.set_cons_succ]) (hCont (v282, v288, gb291) _ ⟨hHeld, (by (with_reducible repeat (first | apply Kd.R_alloc | apply Kd.R_drewN | apply Kd.R_drew)); exact Kd.R_mono HO277.out (fun _ hk => ⟨hk.1.2, ⟨hk.2, ⟨hk.1.1.2, hk.1.1.1⟩⟩⟩)), (by (with_reducible repeat (first | apply Kd.R_alloc | apply Kd.R_drewN | apply Kd.R_drew)); exact Kd.R_mono HO283.out (fun _ hk => ⟨hk.2, ⟨hk.1.1.1, ⟨hk.1.2, hk.1.1.2⟩⟩⟩)), (by (with_reducible repeat (first | apply Kd.R_alloc | apply Kd.R_drewN | apply Kd.R_drew)); exact Kd.R_mono HO289.out (fun _ hk => ⟨hk.2, ⟨hk.1.1.1, ⟨hk.1.2, hk.1.1.2⟩⟩⟩)), (by (with_reducible repeat (first | apply Kd.R_alloc | apply Kd.R_drewN | apply Kd.R_drew)); exact Kd.R_mono HO_267002.out (fun _ hk => ⟨hk.1.1.2, ⟨hk.1.2, ⟨hk.2, hk.1.1.1⟩⟩⟩)), (by (with_reducible repeat (first | apply Kd.R_alloc | apply Kd.R_drewN | apply Kd.R_drew)); exact Kd.R_mono HO_7.out (fun _ hk => ⟨hk.1.1.2, ⟨hk.1.2, ⟨hk.2, hk.1.1.1⟩⟩⟩)), (pK BK266), (pK BK291), GW291.out, GE291.out, NB266_291.out, NB291_266.out, (by repeat (first | (with_reducible first | exact HB.out | apply below_alloc | apply pw_below_drewN | apply below_drew1 | refine below_set ?_ GE266.out | refine below_set ?_ GE291.out) | exact HB.out))⟩)
                      rintro ⟨v282, v288, gb291⟩ w49 ⟨hS_, h0_, h1_, h2_, h3_, h4_, h5_, h6_, h7_, h8_, h9_, h10_, h11_⟩
                      have n0_ : Aside0 (Kd.R (Kd.int .u8) 5 w49 w.heap.size (fun k_ => some k_ ≠ (v282 : Value).ownBlock ∧ some k_ ≠ (v288 : Value).ownBlock ∧ some k_ ≠ (.slice Ao45 x267002_2.length co45 : Value).ownBlock ∧ some k_ ≠ (u7 : Value).ownBlock) v276 y275) := ⟨h0_⟩
                      have n1_ : Aside0 (Kd.R (Kd.int .u8) 5 w49 w.heap.size (fun k_ => some k_ ≠ (v276 : Value).ownBlock ∧ some k_ ≠ (v288 : Value).ownBlock ∧ some k_ ≠ (.slice Ao45 x267002_2.length co45 : Value).ownBlock ∧ some k_ ≠ (u7 : Value).ownBlock) v282 t281) := ⟨h1_⟩
                      have n2_ : Aside0 (Kd.R (Kd.int .u8) 5 w49 w.heap.size (fun k_ => some k_ ≠ (v276 : Value).ownBlock ∧ some k_ ≠ (v282 : Value).ownBlock ∧ some k_ ≠ (.slice Ao45 x267002_2.length co45 : Value).ownBlock ∧ some k_ ≠ (u7 : Value).ownBlock) v288 t287) := ⟨h2_⟩
                      have n3_ : Aside0 (Kd.R (Kd.int .u8) 5 w49 w.heap.size (fun k_ => some k_ ≠ (v276 : Value).ownBlock ∧ some k_ ≠ (v282 : Value).ownBlock ∧ some k_ ≠ (v288 : Value).ownBlock ∧ some k_ ≠ (u7 : Value).ownBlock) (.slice Ao45 x267002_2.length co45) x267002_2) := ⟨h3_⟩
                      have n4_ : Aside0 (Kd.R (Kd.int .u8) 5 w49 w.heap.size (fun k_ => some k_ ≠ (v276 : Value).ownBlock ∧ some k_ ≠ (v282 : Value).ownBlock ∧ some k_ ≠ (v288 : Value).ownBlock ∧ some k_ ≠ (.slice Ao45 x267002_2.length co45 : Value).ownBlock) u7 x7_2) := ⟨h4_⟩
                      have n5_ : Aside0 (w49.heap[gb266]? = some (.cells #[.int .i64 x267000_2, .int .u8 x267001_2, .slice Ao45 x267002_2.length co45, .int .i64 x267003_2, .int .i64 x267004_2, .int .i64 x267005_2] 25 (0, 0))) := ⟨h5_⟩
                      have n6_ : Aside0 (w49.heap[gb291]? = some (.cells #[.int .i64 0, .int .u8 0, .slice none 0 0, .int .i64 0, .int .i64 0, .int .i64 0] 25 (0, 0))) := ⟨h6_⟩
                      have n7_ : Aside0 (w.heap.size ≤ gb291) := ⟨h7_⟩
                      have n8_ : Aside0 (w.heap.size ≤ gb291) := ⟨h8_⟩
                      have n9_ : Aside0 (gb266 ≠ gb291) := ⟨h9_⟩
                      have n10_ : Aside0 (gb291 ≠ gb266) := ⟨h10_⟩
                      have n11_ : Aside0 (Below w.heap.size w w49) := ⟨h11_⟩
                      clear HO_7
                      clear HO_267002
                      clear HO277
                      clear BK266
                      clear HB
                      clear h0_ h1_ h2_ h3_ h4_ h5_ h6_ h7_ h8_ h9_ h10_ h11_
                      have HO277 := n0_
                      have HO283 := n1_
                      have HO289 := n2_
                      have HO_267002 := n3_
                      have HO_7 := n4_
                      have BK266 := n5_
                      have BK291 := n6_
                      have GW291 := n7_
                      have GE291 := n8_
                      have NB266_291 := n9_
                      have NB291_266 := n10_
                      have HB := n11_
                      clear n0_ n1_ n2_ n3_ n4_ n5_ n6_ n7_ n8_ n9_ n10_ n11_
                      have hHeld : w49.cell? ⟨gb266, 0, none⟩ = some (.int .i64 x267000_2) ∧ w49.cell? ⟨gb266, 1, none⟩ = some (.int .u8 x267001_2) ∧ w49.cell? ⟨gb266, 2, none⟩ = some (.slice Ao45 x267002_2.length co45) ∧ w49.cell? ⟨gb266, 3, none⟩ = some (.int .i64 x267003_2) ∧ w49.cell? ⟨gb266, 4, none⟩ = some (.int .i64 x267004_2) ∧ w49.cell? ⟨gb266, 5, none⟩ = some (.int .i64 x267005_2) ∧ w49.cell? (ad273.add (x8_2).toNat) = some (.slice A278_0 (rd_L2 l0 x8_2).length c278_0) := hS_
                      obtain ⟨Ao52, co52, eo52⟩ := Kd.R_slice HO283.out
                      (first | subst eo52 | (injection eo52 with f1_ f2_ f3_; have f4_ := f1_.symm; have f5_ := f3_.symm; clear f1_ f2_ f3_; subst f4_; subst f5_))
                      refine norm_ (a' := ?_) ?_ ?_
                      rotate_left
                      · simp only [putAll, Act.put, List.setIfInBounds_toArray, List.set_cons_zero, List.set_cons_succ]
                        rfl
                      refine one_ (i := 12) (N := none) #[true, true, true, true, true, true, true, true, true, true, true, true, true, false, false] rfl rfl (one_of HT_.out (by kernel_rfl)) (by decide) (fun K hK => ?_)
                      have hs50 : w49.cell? ⟨gb291, 0, none⟩ = some (.int .i64 0) := (blk_cell BK291.out 0).trans rfl
                      have hfs50 := blk_frozen BK291.out 0
                      have hns50_0 := NB266_291.out
                      have hms50_0 := NB291_266.out
                      have hs51 : w49.cell? ⟨gb291, 1, none⟩ = some (.int .u8 0) := (blk_cell BK291.out 1).trans rfl
                      have hfs51 := blk_frozen BK291.out 1
                      have hns51_0 := NB266_291.out
                      have hms51_0 := NB291_266.out
                      have hs53 : w49.cell? ⟨gb291, 2, none⟩ = some (.slice none 0 0) := (blk_cell BK291.out 2).trans rfl
                      have hfs53 := blk_frozen BK291.out 2
                      have hns53_0 := NB266_291.out
                      have hms53_0 := NB291_266.out
                      have hs54 : w49.cell? ⟨gb291, 3, none⟩ = some (.int .i64 0) := (blk_cell BK291.out 3).trans rfl
                      have hfs54 := blk_frozen BK291.out 3
                      have hns54_0 := NB266_291.out
                      have hms54_0 := NB291_266.out
                      have hs55 : w49.cell? ⟨gb291, 4, none⟩ = some (.int .i64 0) := (blk_cell BK291.out 4).trans rfl
                      have hfs55 := blk_frozen BK291.out 4
                      have hns55_0 := NB266_291.out
                      have hms55_0 := NB291_266.out
                      have hs56 : w49.cell? ⟨gb291, 5, none⟩ = some (.int .i64 0) := (blk_cell BK291.out 5).trans rfl
                      have hfs56 := blk_frozen BK291.out 5
                      have hns56_0 := NB266_291.out
                      have hms56_0 := NB291_266.out
                      refine skip_ (w1 := ?_) (by rfl) rfl ?_ ?_
                      rotate_left
                      · go_simp
                        rfl
                      refine hK.out _ _ ⟨((cell_far (p := ⟨gb291, _, none⟩) NB266_291.out _).trans (((cell_far (p := ⟨gb291, _, none⟩) NB266_291.out _).trans (((cell_far (p := ⟨gb291, _, none⟩) NB266_291.out _).trans (((cell_far (p := ⟨gb291, _, none⟩) NB266_291.out _).trans (((cell_far (p := ⟨gb291, _, none⟩) NB266_291.out _).trans (((cell_far (p := ⟨gb291, _, none⟩) NB266_291.out _).trans (hHeld.1)))))))))))), ((cell_far (p := ⟨gb291, _, none⟩) NB266_291.out _).trans (((cell_far (p := ⟨gb291, _, none⟩) NB266_291.out _).trans (((cell_far (p := ⟨gb291, _, none⟩) NB266_291.out _).trans (((cell_far (p := ⟨gb291, _, none⟩) NB266_291.out _).trans (((cell_far (p := ⟨gb291, _, none⟩) NB266_291.out _).trans (((cell_far (p := ⟨gb291, _, none⟩) NB266_291.out _).trans (hHeld.2.1)))))))))))), ((cell_far (p := ⟨gb291, _, none⟩) NB266_291.out _).trans (((cell_far (p := ⟨gb291, _, none⟩) NB266_291.out _).trans (((cell_far (p := ⟨gb291, _, none⟩) NB266_291.out _).trans (((cell_far (p := ⟨gb291, _, none⟩) NB266_291.out _).trans (((cell_far (p := ⟨gb291, _, none⟩) NB266_291.out _).trans (((cell_far (p := ⟨gb291, _, none⟩) NB266_291.out _).trans (hHeld.2.2.1)))))))))))), ((cell_far (p := ⟨gb291, _, none⟩) NB266_291.out _).trans (((cell_far (p := ⟨gb291, _, none⟩) NB266_291.out _).trans (((cell_far (p := ⟨gb291, _, none⟩) NB266_291.out _).trans (((cell_far (p := ⟨gb291, _, none⟩) NB266_291.out _).trans (((cell_far (p := ⟨gb291, _, none⟩) NB266_291.out _).trans (((cell_far (p := ⟨gb291, _, none⟩) NB266_291.out _).trans (hHeld.2.2.2.1)))))))))))), ((cell_far (p := ⟨gb291, _, none⟩) NB266_291.out _).trans (((cell_far (p := ⟨gb291, _, none⟩) NB266_291.out _).trans (((cell_far (p := ⟨gb291, _, none⟩) NB266_291.out _).trans (((cell_far (p := ⟨gb291, _, none⟩) NB266_291.out _).trans (((cell_far (p := ⟨gb291, _, none⟩) NB266_291.out _).trans (((cell_far (p := ⟨gb291, _, none⟩) NB266_291.out _).trans (hHeld.2.2.2.2.1)))))))))))), ((cell_far (p := ⟨gb291, _, none⟩) NB266_291.out _).trans (((cell_far (p := ⟨gb291, _, none⟩) NB266_291.out _).trans (((cell_far (p := ⟨gb291, _, none⟩) NB266_291.out _).trans (((cell_far (p := ⟨gb291, _, none⟩) NB266_291.out _).trans (((cell_far (p := ⟨gb291, _, none⟩) NB266_291.out _).trans (((cell_far (p := ⟨gb291, _, none⟩) NB266_291.out _).trans (hHeld.2.2.2.2.2.1)))))))))))), ((cell_far (p := ⟨gb291, _, none⟩) (by first | exact Nat.ne_of_lt (Nat.lt_of_lt_of_le (by have := World.block_lt_of_cell? _ _ hw278_0; first | rwa [add_block] at this | exact this) GW291.out) | (rw [add_block]; exact Nat.ne_of_lt (Nat.lt_of_lt_of_le (by have := World.block_lt_of_cell? _ _ hw278_0; first | rwa [add_block] at this | exact this) GW291.out)) | (show (Addr.add _ _).block ≠ _; rw [add_block]; exact Nat.ne_of_lt (Nat.lt_of_lt_of_le (by have := World.block_lt_of_cell? _ _ hw278_0; first | rwa [add_block] at this | exact this) GW291.out)) | (dsimp only; exact Nat.ne_of_lt (Nat.lt_of_lt_of_le (by have := World.block_lt_of_cell? _ _ hw278_0; first | rwa [add_block] at this | exact this) GW291.out))) _).trans (((cell_far (p := ⟨gb291, _, none⟩) (by first | exact Nat.ne_of_lt (Nat.lt_of_lt_of_le (by have := World.block_lt_of_cell? _ _ hw278_0; first | rwa [add_block] at this | exact this) GW291.out) | (rw [add_block]; exact Nat.ne_of_lt (Nat.lt_of_lt_of_le (by have := World.block_lt_of_cell? _ _ hw278_0; first | rwa [add_block] at this | exact this) GW291.out)) | (show (Addr.add _ _).block ≠ _; rw [add_block]; exact Nat.ne_of_lt (Nat.lt_of_lt_of_le (by have := World.block_lt_of_cell? _ _ hw278_0; first | rwa [add_block] at this | exact this) GW291.out)) | (dsimp only; exact Nat.ne_of_lt (Nat.lt_of_lt_of_le (by have := World.block_lt_of_cell? _ _ hw278_0; first | rwa [add_block] at this | exact this) GW291.out))) _).trans (((cell_far (p := ⟨gb291, _, none⟩) (by first | exact Nat.ne_of_lt (Nat.lt_of_lt_of_le (by have := World.block_lt_of_cell? _ _ hw278_0; first | rwa [add_block] at this | exact this) GW291.out) | (rw [add_block]; exact Nat.ne_of_lt (Nat.lt_of_lt_of_le (by have := World.block_lt_of_cell? _ _ hw278_0; first | rwa [add_block] at this | exact this) GW291.out)) | (show (Addr.add _ _).block ≠ _; rw [add_block]; exact Nat.ne_of_lt (Nat.lt_of_lt_of_le (by have := World.block_lt_of_cell? _ _ hw278_0; first | rwa [add_block] at this | exact this) GW291.out)) | (dsimp only; exact Nat.ne_of_lt (Nat.lt_of_lt_of_le (by have := World.block_lt_of_cell? _ _ hw278_0; first | rwa [add_block] at this | exact this) GW291.out))) _).trans (((cell_far (p := ⟨gb291, _, none⟩) (by first | exact Nat.ne_of_lt (Nat.lt_of_lt_of_le (by have := World.block_lt_of_cell? _ _ hw278_0; first | rwa [add_block] at this | exact this) GW291.out) | (rw [add_block]; exact Nat.ne_of_lt (Nat.lt_of_lt_of_le (by have := World.block_lt_of_cell? _ _ hw278_0; first | rwa [add_block] at this | exact this) GW291.out)) | (show (Addr.add _ _).block ≠ _; rw [add_block]; exact Nat.ne_of_lt (Nat.lt_of_lt_of_le (by have := World.block_lt_of_cell? _ _ hw278_0; first | rwa [add_block] at this | exact this) GW291.out)) | (dsimp only; exact Nat.ne_of_lt (Nat.lt_of_lt_of_le (by have := World.block_lt_of_cell? _ _ hw278_0; first | rwa [add_block] at this | exact this) GW291.out))) _).trans (((cell_far (p := ⟨gb291, _, none⟩) (by first | exact Nat.ne_of_lt (Nat.lt_of_lt_of_le (by have := World.block_lt_of_cell? _ _ hw278_0; first | rwa [add_block] at this | exact this) GW291.out) | (rw [add_block]; exact Nat.ne_of_lt (Nat.lt_of_lt_of_le (by have := World.block_lt_of_cell? _ _ hw278_0; first | rwa [add_block] at this | exact this) GW291.out)) | (show (Addr.add _ _).block ≠ _; rw [add_block]; exact Nat.ne_of_lt (Nat.lt_of_lt_of_le (by have := World.block_lt_of_cell? _ _ hw278_0; first | rwa [add_block] at this | exact this) GW291.out)) | (dsimp only; exact Nat.ne_of_lt (Nat.lt_of_lt_of_le (by have := World.block_lt_of_cell? _ _ hw278_0; first | rwa [add_block] at this | exact this) GW291.out))) _).trans (((cell_far (p := ⟨gb291, _, none⟩) (by first | exact Nat.ne_of_lt (Nat.lt_of_lt_of_le (by have := World.block_lt_of_cell? _ _ hw278_0; first | rwa [add_block] at this | exact this) GW291.out) | (rw [add_block]; exact Nat.ne_of_lt (Nat.lt_of_lt_of_le (by have := World.block_lt_of_cell? _ _ hw278_0; first | rwa [add_block] at this | exact this) GW291.out)) | (show (Addr.add _ _).block ≠ _; rw [add_block]; exact Nat.ne_of_lt (Nat.lt_of_lt_of_le (by have := World.block_lt_of_cell? _ _ hw278_0; first | rwa [add_block] at this | exact this) GW291.out)) | (dsimp only; exact Nat.ne_of_lt (Nat.lt_of_lt_of_le (by have := World.block_lt_of_cell? _ _ hw278_0; first | rwa [add_block] at this | exact this) GW291.out))) _).trans (hHeld.2.2.2.2.2.2))))))))))))⟩ (fun hHeld => ?_)
                      clear hK K
                      refine pure_ (i := 13) (N := some 10) (v := ?_) (a' := ?_) #[true, true, true, true, true, true, true, true, true, true, true, true, true, true, false] rfl rfl (any_of HT_.out (by kernel_rfl)) (fun _ _ _ h => h) (Or.inl ⟨by rfl, ?_⟩) ?_ ?_
                      rotate_left
                      · intro w'
                        go_simp
                        with_reducible rfl
                      rotate_left
                      · simp only [Act.put, List.setIfInBounds_toArray, List.set_cons_zero, List.set_cons_succ, i64_w, i32_w]
                        rfl
                      refine pure_ (i := 14) (N := some 11) (v := ?_) (a' := ?_) #[true, true, true, true, true, true, true, true, true, true, true, true, true, true, true] rfl rfl (any_of HT_.out (by kernel_rfl)) (fun _ _ _ h => h) (Or.inl ⟨by rfl, ?_⟩) ?_ ?_
                      rotate_left
                      · intro w'
                        go_simp
                        with_reducible rfl
                      rotate_left
                      · simp only [Act.put, List.setIfInBounds_toArray, List.set_cons_zero, List.set_cons_succ, i64_w, i32_w]
                        rfl
                      refine done_ (done_of HT_.out (by kernel_rfl)) ?_
                      have hnb57 := NB291_266.out
                      have hnc57 := NB266_291.out
                      have hcz58_0 : w49.cell? ⟨gb291, 0, none⟩ = some (.int .i64 0) := (blk_cell BK291.out 0).trans rfl
                      have hcz58_1 : w49.cell? ⟨gb291, 1, none⟩ = some (.int .u8 0) := (blk_cell BK291.out 1).trans rfl
                      have hcz58_2 : w49.cell? ⟨gb291, 2, none⟩ = some (.slice none 0 0) := (blk_cell BK291.out 2).trans rfl
                      have hcz58_3 : w49.cell? ⟨gb291, 3, none⟩ = some (.int .i64 0) := (blk_cell BK291.out 3).trans rfl
                      have hcz58_4 : w49.cell? ⟨gb291, 4, none⟩ = some (.int .i64 0) := (blk_cell BK291.out 4).trans rfl
                      have hcz58_5 : w49.cell? ⟨gb291, 5, none⟩ = some (.int .i64 0) := (blk_cell BK291.out 5).trans rfl
                      have hfz58_0 := blk_frozen BK291.out 0
                      have hfz58_1 := blk_frozen BK291.out 1
                      have hfz58_2 := blk_frozen BK291.out 2
                      have hfz58_3 := blk_frozen BK291.out 3
                      have hfz58_4 := blk_frozen BK291.out 4
                      have hfz58_5 := blk_frozen BK291.out 5
                      try go_wp2
                      go_ret
                      exact ⟨by first | rfl | (simp [errW_none, errW_some] <;> rfl) | (simp [*, errW_none, errW_some] <;> rfl), by repeat (first | (with_reducible first | exact HB.out | apply below_alloc | apply pw_below_drewN | apply below_drew1 | refine below_set ?_ GE266.out | refine below_set ?_ GE291.out) | exact HB.out)⟩
                  · rw [if_neg c20] at H
                    exact absurd H (by simp)
              · rw [if_neg c17] at H
                exact absurd H (by simp)
            · rw [if_neg c16] at H
              have c16b0 : decide (x8_2 < (l0.length : Int)) = false := decide_eq_false c16
              clear c16
              replace H := Option.bind_eq_some_iff.mp H
              obtain ⟨⟨t267, t268⟩, A590, H⟩ := H
              replace H : ((capnpref01_Same.f k2 x7_2 t267).bind fun t271 => (if t271 = true then ((unpackstream_Close.f k2 x267000_2 x267001_2 x267002_2 x267003_2 x267004_2 x267005_2).bind fun t272 => (if t272 = t268 then (some (x267004_2 == (t267.length : Int))) else (none))) else (none))) = some r := H
              have A59 := Aside0.mk A590
              clear A590
              replace H := Option.bind_eq_some_iff.mp H
              obtain ⟨t271, A600, H⟩ := H
              replace H : (if t271 = true then ((unpackstream_Close.f k2 x267000_2 x267001_2 x267002_2 x267003_2 x267004_2 x267005_2).bind fun t272 => (if t272 = t268 then (some (x267004_2 == (t267.length : Int))) else (none))) else (none)) = some r := H
              have A60 := Aside0.mk A600
              clear A600
              by_cases c61 : t271 = true
              · subst c61
                have H1 : ((unpackstream_Close.f k2 x267000_2 x267001_2 x267002_2 x267003_2 x267004_2 x267005_2).bind fun t272 => (if t272 = t268 then (some (x267004_2 == (t267.length : Int))) else (none))) = some r := by rw [if_pos rfl] at H; exact H
                clear H
                have H := H1
                clear H1
                replace H := Option.bind_eq_some_iff.mp H
                obtain ⟨t272, A620, H⟩ := H
                replace H : (if t272 = t268 then (some (x267004_2 == (t267.length : Int))) else (none)) = some r := H
                have A62 := Aside0.mk A620
                clear A620
                by_cases c63 : t272 = t268
                · rw [if_pos c63] at H
                  have c63b0 : (t272 == t268) = true := beq_iff_eq.mpr c63
                  have c63b1 : (t272 != t268) = false := bne_eq_false_iff_eq.mpr c63
                  clear c63
                  obtain rfl := Option.some.inj H
                  obtain ⟨Ao64, co64, eo64⟩ := Kd.R_slice HO_6.out
                  subst eo64
                  go_wp2_with (first | ((with_reducible refine gate_callee (f := 18) rfl ?_); refine goesL_ (some 66) rfl rfl Tryd.func18 (by kernel_rfl) rfl #[.slice Ao64 x6_2.length co64, .int .i64 a1] rfl pM ?_; (with_reducible refine (capnpref22_Prefix.calls k2 _ _ x6_2 a1 t267 t268 _ ?side1 ?side2 A59.out).mono ?_); (case side1 => repeat (first | exact (Kd.R_reads' HO_6.out).2.2 | (with_reducible refine Kd.C_alloc ?_ _) | (with_reducible refine Kd.C_drewN ?_ _) | (with_reducible refine Kd.C_drew ?_))); (case side2 => exact (Kd.R_reads' HO_6.out).2.1); rintro e w65 ⟨v269, rfl, ho0, hb⟩; refine ⟨_, rfl, ?_⟩; have n0_ := Aside0.mk (Kd.R_elder' (pR HO_6) (Kd.R_base ho0) hb); have n1_ := Aside0.mk (Kd.R_elder' (pR HO_7) (Kd.R_base ho0) hb); have n2_ := Aside0.mk (Kd.R_elder' (pR HO_267002) (Kd.R_base ho0) hb); have n3_ := Aside0.mk (Kd.R_lower (Kd.R_new' (Kd.R_new' (Kd.R_new' ho0 (Kd.R_lt (pR HO_6))) (Kd.R_lt (pR HO_7))) (Kd.R_lt (pR HO_267002))) (below_size (by repeat (first | (with_reducible first | exact HB.out | apply below_alloc | apply pw_below_drewN | apply below_drew1 | refine below_set ?_ GE266.out) | exact HB.out)))); have n4_ := Aside0.mk (blk_below (g := gb266) (o := .cells #[.int .i64 x267000_2, .int .u8 x267001_2, u267002, .int .i64 x267003_2, .int .i64 x267004_2, .int .i64 x267005_2] 25 (0, 0)) (pK BK266) hb); have n5_ := Aside0.mk (below_step (by repeat (first | (with_reducible first | exact HB.out | apply below_alloc | apply pw_below_drewN | apply below_drew1 | refine below_set ?_ GE266.out) | exact HB.out)) hb); clear HO_6; clear HO_7; clear HO_267002; clear BK266; clear HB; have HO_6 := n0_; have HO_7 := n1_; have HO_267002 := n2_; have HO270 := n3_; have BK266 := n4_; have HB := n5_; clear n0_ n1_ n2_ n3_ n4_ n5_; (try clear hb); (try clear hb2); (try clear hk); (try clear hi); (try clear ho0); obtain ⟨Ao66, co66, eo66⟩ := Kd.R_slice HO_7.out; subst eo66; obtain ⟨Ao67, co67, eo67⟩ := Kd.R_slice HO270.out; subst eo67) | ((with_reducible refine gate_callee (f := 14) rfl ?_); refine goesL_ (some 71) rfl rfl Tryd.func14 (by kernel_rfl) rfl #[.slice Ao66 x7_2.length co66, .slice Ao67 t267.length co67] rfl pM ?_; (with_reducible refine (capnpref01_Same.calls k2 _ _ x7_2 _ _ t267 true _ ?side1 ?side2 ?side3 ?side4 A60.out).mono ?_); (case side1 => repeat (first | exact (Kd.R_reads' HO_7.out).2.2 | (with_reducible refine Kd.C_alloc ?_ _) | (with_reducible refine Kd.C_drewN ?_ _) | (with_reducible refine Kd.C_drew ?_))); (case side2 => exact (Kd.R_reads' HO_7.out).2.1); (case side3 => repeat (first | exact (Kd.R_reads' HO270.out).2.2 | (with_reducible refine Kd.C_alloc ?_ _) | (with_reducible refine Kd.C_drewN ?_ _) | (with_reducible refine Kd.C_drew ?_))); (case side4 => exact (Kd.R_reads' HO270.out).2.1); rintro e w' ⟨rfl, ⟨nd, rfl⟩⟩; refine ⟨_, rfl, ?_⟩; have hcz68_0 : w65.cell? ⟨gb266, 0, none⟩ = some (.int .i64 x267000_2) := (blk_cell BK266.out 0).trans rfl; have hcz68_1 : w65.cell? ⟨gb266, 1, none⟩ = some (.int .u8 x267001_2) := (blk_cell BK266.out 1).trans rfl; have hcz68_2 : w65.cell? ⟨gb266, 2, none⟩ = some (u267002) := (blk_cell BK266.out 2).trans rfl; have hcz68_3 : w65.cell? ⟨gb266, 3, none⟩ = some (.int .i64 x267003_2) := (blk_cell BK266.out 3).trans rfl; have hcz68_4 : w65.cell? ⟨gb266, 4, none⟩ = some (.int .i64 x267004_2) := (blk_cell BK266.out 4).trans rfl; have hcz68_5 : w65.cell? ⟨gb266, 5, none⟩ = some (.int .i64 x267005_2) := (blk_cell BK266.out 5).trans rfl; have hfz68_0 := blk_frozen BK266.out 0; have hfz68_1 := blk_frozen BK266.out 1; have hfz68_2 := blk_frozen BK266.out 2; have hfz68_3 := blk_frozen BK266.out 3; have hfz68_4 := blk_frozen BK266.out 4; have hfz68_5 := blk_frozen BK266.out 5; obtain ⟨Ao69, co69, eo69⟩ := Kd.R_slice HO_267002.out; subst eo69) | (go_at_call 15; (with_reducible refine (unpackstream_Close.calls k2 x267000_2 x267001_2 _ _ x267002_2 x267003_2 x267004_2 x267005_2 t272 _ ?side1 ?side2 A62.out).mono ?_); (case side1 => repeat (first | exact (Kd.R_reads' HO_267002.out).2.2 | (with_reducible refine Kd.C_alloc ?_ _) | (with_reducible refine Kd.C_drewN ?_ _) | (with_reducible refine Kd.C_drew ?_))); (case side2 => exact (Kd.R_reads' HO_267002.out).2.1); rintro e w70 ⟨rfl, hb⟩; have n0_ := Aside0.mk (Kd.R_below (pR HO_6) hb); have n1_ := Aside0.mk (Kd.R_below (pR HO_7) hb); have n2_ := Aside0.mk (Kd.R_below (pR HO_267002) hb); have n3_ := Aside0.mk (Kd.R_below (pR HO270) hb); have n4_ := Aside0.mk (blk_below (g := gb266) (o := .cells #[.int .i64 x267000_2, .int .u8 x267001_2, .slice Ao69 x267002_2.length co69, .int .i64 x267003_2, .int .i64 x267004_2, .int .i64 x267005_2] 25 (0, 0)) (pK BK266) hb); have n5_ := Aside0.mk (below_step (by repeat (first | (with_reducible first | exact HB.out | apply below_alloc | apply pw_below_drewN | apply below_drew1 | refine below_set ?_ GE266.out) | exact HB.out)) hb); clear HO_6; clear HO_7; clear HO_267002; clear HO270; clear BK266; clear HB; have HO_6 := n0_; have HO_7 := n1_; have HO_267002 := n2_; have HO270 := n3_; have BK266 := n4_; have HB := n5_; clear n0_ n1_ n2_ n3_ n4_ n5_; (try clear hb); (try clear hb2); (try clear hk); (try clear hi); have hcz71_0 : w70.cell? ⟨gb266, 0, none⟩ = some (.int .i64 x267000_2) := (blk_cell BK266.out 0).trans rfl; have hcz71_1 : w70.cell? ⟨gb266, 1, none⟩ = some (.int .u8 x267001_2) := (blk_cell BK266.out 1).trans rfl; have hcz71_2 : w70.cell? ⟨gb266, 2, none⟩ = some (.slice Ao69 x267002_2.length co69) := (blk_cell BK266.out 2).trans rfl; have hcz71_3 : w70.cell? ⟨gb266, 3, none⟩ = some (.int .i64 x267003_2) := (blk_cell BK266.out 3).trans rfl; have hcz71_4 : w70.cell? ⟨gb266, 4, none⟩ = some (.int .i64 x267004_2) := (blk_cell BK266.out 4).trans rfl; have hcz71_5 : w70.cell? ⟨gb266, 5, none⟩ = some (.int .i64 x267005_2) := (blk_cell BK266.out 5).trans rfl; have hfz71_0 := blk_frozen BK266.out 0; have hfz71_1 := blk_frozen BK266.out 1; have hfz71_2 := blk_frozen BK266.out 2; have hfz71_3 := blk_frozen BK266.out 3; have hfz71_4 := blk_frozen BK266.out 4; have hfz71_5 := blk_frozen BK266.out 5))
                  go_ret
                  exact ⟨by first | rfl | (simp [errW_none, errW_some] <;> rfl) | (simp [*, errW_none, errW_some] <;> rfl), by repeat (first | (with_reducible first | exact HB.out | apply below_alloc | apply pw_below_drewN | apply below_drew1 | refine below_set ?_ GE266.out) | exact HB.out)⟩
                · rw [if_neg c63] at H
                  exact absurd H (by simp)
              · replace c61 := Bool.eq_false_iff.mpr c61
                subst c61
                have H1 : (none) = some r := by rw [if_neg (show ¬ (false = true) by decide)] at H; exact H
                clear H
                have H := H1
                clear H1
                exact absurd H (by simp)
end Go.Proofs.YtpffoecblcfndaaDoor.PUnpackstreamChunks
