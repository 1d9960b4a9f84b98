/- Printed functions of a law, and their walks. -/
import Derived.Test.YtibkbgaonjdpiaaXShortC
import Derived.Test.YtibkbgaonjdpiaaPPackstreamChunksx0C
import Derived.Test.YtibkbgaonjdpiaaPPackstreamChunksx2C
import Derived.Test.YtibkbgaonjdpiaaPPackstreamChunksx3C
import Derived.Test.YtibkbgaonjdpiaaPPackstreamChunksx4C
import Derived.Test.YtibkbgaonjdpiaaPPackstreamChunksx6C
namespace Go.Proofs.Ytibkbgaonjdpiaa.PPackstreamChunks
open Go.RowKit Go.Proofs.YtibkbgaonjdpiaaW.PrintWords Go.Proofs.YtibkbgaonjdpiaaW.PrintLast Go.Proofs.YtibkbgaonjdpiaaW.PrintMore
open Go.Proofs.Ytibkbgaonjdpiaa.PPaBase
attribute [local go_sem] max2_int min2_int max_two min_two max_three min_three max_four min_four   -- for this text's walks alone
set_option linter.unusedVariables false
set_option linter.unusedSimpArgs false
mutual
def capnplaw24_PackstreamChunks.j0 : Nat → List (List Int) → Bool → Option (Bool)
  | 0, _, _ => none
  | k + 1, x0, x19 => if x19 = true then ((capnplaw24_awake.f k).bind fun t344 => (some t344)) else ((packstream_New.f).bind fun bt345 => (capnplaw24_PackstreamChunks.l0 k x0 ([] : List Int) ([] : List Int) 0 bt345.1 bt345.2.1 bt345.2.2))
def capnplaw24_PackstreamChunks.l0 : Nat → List (List Int) → List Int → List Int → Int → List Int → Int → List Int → Option (Bool)
  | 0, _, _, _, _, _, _, _ => none
  | k + 1, x0, x4, x5, x6, x353000, x353001, x353002 => if x6 < (x0.length : Int) then (if 0 ≤ x6 then (if (wrap64 ((x4.length : Int) + ((rd_L2 x0 x6).length : Int))) > 20000 then (some true) else (if x4.length + (rd_L2 x0 x6).length < 140737488355328 then ((packstream_Write.f x353000 x353001 x353002 (rd_L2 x0 x6)).bind fun bt359 => (if x5.length + bt359.2.2.2.length < 140737488355328 then (capnplaw24_PackstreamChunks.l0 k x0 (x4 ++ (rd_L2 x0 x6)) (x5 ++ bt359.2.2.2) (wrap64 (x6 + 1)) bt359.1 bt359.2.1 bt359.2.2.1) else (none))) else (none))) else (none)) else ((packstream_Close.f k x353000 x353001 x353002).bind fun bt373 => ((capnpref21_Bytes.f k x4).bind fun bt377 => (if bt377.2 = 0 then (if bt373.2 = 0 then (if x5.length + bt373.1.length < 140737488355328 then ((capnpref01_Same.f k (x5 ++ bt373.1) bt377.1).bind fun t384 => (some t384)) else (none)) else (none)) else (if bt373.2 = 9 then (some ((bt373.1.length : Int) == 0)) else (none)))))
end
def capnplaw24_PackstreamChunks.f (k : Nat) (l0 : List (List Int)) : Option (Bool) := (capnplaw24_awake.f k).bind fun t343 => (if t343 = true then (capnplaw24_PackstreamChunks.j0 k l0 (decide ((l0.length : Int) > 40))) else (capnplaw24_PackstreamChunks.j0 k l0 true))
theorem capnplaw24_PackstreamChunks.mono_l : ∀ k, (∀ y0 y1, LeO (capnplaw24_PackstreamChunks.j0 k y0 y1) (capnplaw24_PackstreamChunks.j0 (k + 1) y0 y1)) ∧ (∀ y0 y1 y2 y3 y4 y5 y6, LeO (capnplaw24_PackstreamChunks.l0 k y0 y1 y2 y3 y4 y5 y6) (capnplaw24_PackstreamChunks.l0 (k + 1) y0 y1 y2 y3 y4 y5 y6))
  | 0 => ⟨fun _ _ r h => by simp [capnplaw24_PackstreamChunks.j0] at h, fun _ _ _ _ _ _ _ r h => by simp [capnplaw24_PackstreamChunks.l0] at h⟩
  | k + 1 => by
    obtain ⟨ih0, ih1⟩ := capnplaw24_PackstreamChunks.mono_l k
    refine ⟨?_, ?_⟩
    · intro y0 y1
      unfold capnplaw24_PackstreamChunks.j0
      repeat' first
      | (with_reducible exact ih0 _ _)
      | (with_reducible exact ih1 _ _ _ _ _ _ _)
      | (with_reducible exact capnplaw24_awake.mono _)
      | (with_reducible exact capnpref01_Same.mono _ _ _)
      | (with_reducible exact capnpref21_Bytes.mono _ _)
      | (with_reducible exact packstream_Close.mono _ _ _ _)
      | (with_reducible exact LeO.refl _)
      | (with_reducible exact LeO.none _)
      | (with_reducible refine LeO.ite ?_ ?_)
      | (with_reducible refine LeO.bind ?_ (fun _ => ?_))
      | exact ih0 _ _
      | exact ih1 _ _ _ _ _ _ _
      | exact capnplaw24_awake.mono _
      | exact capnpref01_Same.mono _ _ _
      | exact capnpref21_Bytes.mono _ _
      | exact packstream_Close.mono _ _ _ _
      | exact LeO.none _
      | refine LeO.ite ?_ ?_
      | refine LeO.bind ?_ (fun _ => ?_)
    · intro y0 y1 y2 y3 y4 y5 y6
      unfold capnplaw24_PackstreamChunks.l0
      repeat' first
      | (with_reducible exact ih0 _ _)
      | (with_reducible exact ih1 _ _ _ _ _ _ _)
      | (with_reducible exact capnplaw24_awake.mono _)
      | (with_reducible exact capnpref01_Same.mono _ _ _)
      | (with_reducible exact capnpref21_Bytes.mono _ _)
      | (with_reducible exact packstream_Close.mono _ _ _ _)
      | (with_reducible exact LeO.refl _)
      | (with_reducible exact LeO.none _)
      | (with_reducible refine LeO.ite ?_ ?_)
      | (with_reducible refine LeO.bind ?_ (fun _ => ?_))
      | exact ih0 _ _
      | exact ih1 _ _ _ _ _ _ _
      | exact capnplaw24_awake.mono _
      | exact capnpref01_Same.mono _ _ _
      | exact capnpref21_Bytes.mono _ _
      | exact packstream_Close.mono _ _ _ _
      | exact LeO.none _
      | refine LeO.ite ?_ ?_
      | refine LeO.bind ?_ (fun _ => ?_)
theorem capnplaw24_PackstreamChunks.mono : ∀ a0 k, LeO (capnplaw24_PackstreamChunks.f k a0) (capnplaw24_PackstreamChunks.f (k + 1) a0) := by
  intro a0 k
  obtain ⟨ih0, ih1⟩ := capnplaw24_PackstreamChunks.mono_l k
  unfold capnplaw24_PackstreamChunks.f
  repeat' first
      | (with_reducible exact ih0 _ _)
      | (with_reducible exact ih1 _ _ _ _ _ _ _)
      | (with_reducible exact capnplaw24_awake.mono _)
      | (with_reducible exact capnpref01_Same.mono _ _ _)
      | (with_reducible exact capnpref21_Bytes.mono _ _)
      | (with_reducible exact packstream_Close.mono _ _ _ _)
      | (with_reducible exact LeO.refl _)
      | (with_reducible exact LeO.none _)
      | (with_reducible refine LeO.ite ?_ ?_)
      | (with_reducible refine LeO.bind ?_ (fun _ => ?_))
      | exact ih0 _ _
      | exact ih1 _ _ _ _ _ _ _
      | exact capnplaw24_awake.mono _
      | exact capnpref01_Same.mono _ _ _
      | exact capnpref21_Bytes.mono _ _
      | exact packstream_Close.mono _ _ _ _
      | exact LeO.none _
      | refine LeO.ite ?_ ?_
      | refine LeO.bind ?_ (fun _ => ?_)
def capnplaw24_PackstreamChunks.T11 : Bool × List (List Nat × List Nat) := (true, [([], []), ([], []), ([], []), ([1, 2], [1, 2]), ([3], [3]), ([0, 4], [0, 4]), ([5], [5]), ([6], [6]), ([6], [6]), ([], []), ([9, 7, 5, 0, 1, 2, 3, 4, 5, 6, 7, 9], [7, 9]), ([8, 10, 0, 1, 2, 3, 4, 5, 6, 7, 8, 9, 10], [8])])
def capnplaw24_PackstreamChunks.B11 : List Nat := [0, 0, 0, 6, 14, 31, 63, 127, 127, 0, 767, 2047]
theorem capnplaw24_PackstreamChunks.tab11 : rtab .any (opsOf Try.f4 11) = capnplaw24_PackstreamChunks.T11 := by kernel_rfl
theorem capnplaw24_PackstreamChunks.bits11 : waitsOk capnplaw24_PackstreamChunks.T11.2 capnplaw24_PackstreamChunks.B11 = true := by kernel_rfl
set_option maxHeartbeats 8000000 in
set_option maxRecDepth 100000 in
theorem capnplaw24_PackstreamChunks.calls (k : Nat) (A0 : Option Addr) (c0 : Nat) (l0 : List (List Int)) (r : Bool) (w : World) (hr0 : Kd.C (Kd.slice 5 (Kd.int .u8)) w A0 l0.length l0) (hc0 : l0.length ≤ c0) (h : capnplaw24_PackstreamChunks.f k l0 = some r) :
    Calls Try.prog 4 #[.slice A0 l0.length c0] w fun e w' => e = .returned (.bool r) ∧ Below w.heap.size w w' := by
  have hu24 := Try.underlying24
  have HR0 := Aside0.mk hr0
  have HC0 := Aside0.mk hc0
  clear hr0 hc0
  have HB := Aside0.mk (Below.refl w.heap.size w)
  have H : ((capnplaw24_awake.f k).bind fun t343 => (if t343 = true then (capnplaw24_PackstreamChunks.j0 k l0 (decide ((l0.length : Int) > 40))) else (capnplaw24_PackstreamChunks.j0 k l0 true))) = some r := h
  clear h
  have HC2 := Aside0.mk H
  clear H
  go_enter Try.func4, Try.ntmps4
  try simp only [List.append_eq, List.cons_append, List.nil_append]
  go_upto_region 1 with (fail)
  go_cut [19] (fun v19 wc => ∃ (kq : Nat) (x19_1 : Bool), v19 = .bool x19_1 ∧ Aside0 (capnplaw24_PackstreamChunks.j0 kq l0 x19_1 = some r) ∧ Aside0 (kq ≤ k) ∧ Aside0 (Below w.heap.size w wc))
  case first =>
    have H := HC2.out
    clear HC2
    replace H := Option.bind_eq_some_iff.mp H
    obtain ⟨t343, A30, H⟩ := H
    replace H : (if t343 = true then (capnplaw24_PackstreamChunks.j0 k l0 (decide ((l0.length : Int) > 40))) else (capnplaw24_PackstreamChunks.j0 k l0 true)) = some r := H
    have A3 := Aside0.mk A30
    clear A30
    by_cases c4 : t343 = true
    · subst c4
      have H1 : (capnplaw24_PackstreamChunks.j0 k l0 (decide ((l0.length : Int) > 40))) = some r := by rw [if_pos rfl] at H; exact H
      clear H
      have H := H1
      clear H1
      have H' := Aside0.mk H
      clear H
      go_wp2_with (first | ((with_reducible refine gate_callee (f := 7) rfl ?_); refine goesL_ (some 13) rfl rfl Try.func7 (by kernel_rfl) rfl #[] rfl pM ?_; (with_reducible refine (capnplaw24_awake.calls k  true _ A3.out).mono ?_); rintro e w5 ⟨rfl, hb⟩; refine ⟨_, rfl, ?_⟩; have n0_ := Aside0.mk (below_step pB hb); clear HB; have HB := n0_; clear n0_; (try clear hb); (try clear hb2); (try clear hk); (try clear hi)))
      go_meet
      case rel => exact ⟨_, (decide ((l0.length : Int) > 40)), (by first | rfl | (simp; done) | (simp [*]; done)), H', ⟨by first | omega | exact Nat.le_refl _⟩, ⟨pB⟩⟩
    · replace c4 := Bool.eq_false_iff.mpr c4
      subst c4
      have H1 : (capnplaw24_PackstreamChunks.j0 k l0 true) = some r := by rw [if_neg (show ¬ (false = true) by decide)] at H; exact H
      clear H
      have H := H1
      clear H1
      have H' := Aside0.mk H
      clear H
      go_wp2_with (first | ((with_reducible refine gate_callee (f := 7) rfl ?_); refine goesL_ (some 13) rfl rfl Try.func7 (by kernel_rfl) rfl #[] rfl pM ?_; (with_reducible refine (capnplaw24_awake.calls k  false _ A3.out).mono ?_); rintro e w6 ⟨rfl, hb⟩; refine ⟨_, rfl, ?_⟩; have n0_ := Aside0.mk (below_step pB hb); clear HB; have HB := n0_; clear n0_; (try clear hb); (try clear hb2); (try clear hk); (try clear hi)))
      go_meet
      case rel => exact ⟨_, (true), (by first | rfl | (simp; done) | (simp [*]; done)), H', ⟨by first | omega | exact Nat.le_refl _⟩, ⟨pB⟩⟩
  case rest =>
    clear HC2
    try clear p2
    try clear c4
    obtain ⟨kq, x19_1, rfl, HA, HJ1, HB⟩ := hcut
    cases kq with
    | zero => exact absurd HA.out (by simp [capnplaw24_PackstreamChunks.j0])
    | succ kj1 =>
      have H := HA.out
      clear HA
      simp only [capnplaw24_PackstreamChunks.j0] at H
      by_cases c7 : x19_1 = true
      · subst c7
        have H1 : ((capnplaw24_awake.f kj1).bind fun t344 => (some t344)) = some r := by rw [if_pos rfl] at H; exact H
        clear H
        have H := H1
        clear H1
        replace H := Option.bind_eq_some_iff.mp H
        obtain ⟨t344, A80, H⟩ := H
        replace H : (some t344) = some r := H
        have A8 := Aside0.mk A80
        clear A80
        obtain rfl := Option.some.inj H
        go_wp2_with (first | ((with_reducible refine gate_callee (f := 7) rfl ?_); refine goesL_ (some 20) rfl rfl Try.func7 (by kernel_rfl) rfl #[] rfl pM ?_; (with_reducible refine (capnplaw24_awake.calls kj1  t344 _ A8.out).mono ?_); rintro e w9 ⟨rfl, hb⟩; refine ⟨_, rfl, ?_⟩; have n0_ := Aside0.mk (below_step pB hb); clear HB; have HB := n0_; clear n0_; (try clear hb); (try clear hb2); (try clear hk); (try clear hi)))
        go_ret
        exact ⟨by first | rfl | (simp [errW_none, errW_some] <;> rfl) | (simp [*, errW_none, errW_some] <;> rfl), pB⟩
      · replace c7 := Bool.eq_false_iff.mpr c7
        subst c7
        have H1 : ((packstream_New.f).bind fun bt345 => (capnplaw24_PackstreamChunks.l0 kj1 l0 ([] : List Int) ([] : List Int) 0 bt345.1 bt345.2.1 bt345.2.2)) = some r := by rw [if_neg (show ¬ (false = true) by decide)] at H; exact H
        clear H
        have H := H1
        clear H1
        replace H := Option.bind_eq_some_iff.mp H
        obtain ⟨⟨t345, t348, t349⟩, A100, H⟩ := H
        replace H : (capnplaw24_PackstreamChunks.l0 kj1 l0 ([] : List Int) ([] : List Int) 0 t345 t348 t349) = some r := H
        have A10 := Aside0.mk A100
        clear A100
        have H' := Aside0.mk H
        clear H
        go_wp2_with (first | ((with_reducible refine gate_callee (f := 17) rfl ?_); refine goesL_ (some 21) rfl rfl Try.func17 (by kernel_rfl) rfl #[] rfl pM ?_; (with_reducible refine (packstream_New.calls  t345 t348 t349 _ A10.out).mono ?_); rintro e w11 ⟨v346, v350, rfl, ho0, ho1, hb⟩; refine ⟨_, rfl, ?_⟩; have n0_ := Aside0.mk (Kd.R_lower ho0 (below_size pB)); have n1_ := Aside0.mk (Kd.R_lower ho1 (below_size pB)); have n2_ := Aside0.mk (below_step pB hb); clear HB; have HO347 := n0_; have HO351 := n1_; have HB := n2_; clear n0_ n1_ n2_; (try clear hb); (try clear hb2); (try clear hk); (try clear hi); (try clear ho0); (try clear ho1)) | ((with_reducible refine gate_dst (N := 3) rfl ?_); (try (refine gate_guard (by rfl) ?_; dsimp only)); refine box_event ?hg (N := 3) ?hd (cs := #[.slice none 0 0, .int .i64 0, .slice none 0 0]) (t := 24) ?hr ?_; (case hd => rfl); (case hg => rfl); (case hr => first | (go_simp; done) | (go_simp; rfl)); intro gb352 hg w12 hbox hb; have n0_ := Aside0.mk (Kd.R_below (pR HO347) hb); have n1_ := Aside0.mk (Kd.R_below (pR HO351) hb); have n2_ := Aside0.mk (below_step pB hb); have n3_ := Aside0.mk (hbox); have n4_ := Aside0.mk ((by rw [hg]; exact (below_size pB) : w.heap.size ≤ gb352)); have n5_ := Aside0.mk ((by rw [hg]; exact (below_size pB) : w.heap.size ≤ gb352)); clear HO347; clear HO351; clear HB; have HO347 := n0_; have HO351 := n1_; have HB := n2_; have BK352 := n3_; have GW352 := n4_; have GE352 := n5_; clear n0_ n1_ n2_ n3_ n4_ n5_; clear hb hbox hg; obtain ⟨Ao13, co13, eo13⟩ := Kd.R_slice HO347.out; subst eo13; have hcz14_0 : w12.cell? ⟨gb352, 0, none⟩ = some (.slice none 0 0) := (blk_cell BK352.out 0).trans rfl; have hcz14_1 : w12.cell? ⟨gb352, 1, none⟩ = some (.int .i64 0) := (blk_cell BK352.out 1).trans rfl; have hcz14_2 : w12.cell? ⟨gb352, 2, none⟩ = some (.slice none 0 0) := (blk_cell BK352.out 2).trans rfl; have hfz14_0 := blk_frozen BK352.out 0; have hfz14_1 := blk_frozen BK352.out 1; have hfz14_2 := blk_frozen BK352.out 2; obtain ⟨Ao15, co15, eo15⟩ := Kd.R_slice HO351.out; subst eo15))
        go_loopg [4, 5, 6] kj1 (fun kq v4 v5 v6 w' => ∃ (x4_2 : List Int) (x5_2 : List Int) (x6_2 : Int) (x353000_2 : List Int) (x353001_2 : Int) (x353002_2 : List Int) (u353000 : Value) (u353002 : Value), v6 = .int .i64 x6_2 ∧ Aside0 (capnplaw24_PackstreamChunks.l0 kq l0 x4_2 x5_2 x6_2 x353000_2 x353001_2 x353002_2 = some r) ∧ Aside0 (kq ≤ kj1) ∧ Aside0 (Kd.R (Kd.int .u8) 5 w' w.heap.size (fun k_ => some k_ ≠ (v5 : Value).ownBlock ∧ some k_ ≠ (u353000 : Value).ownBlock ∧ some k_ ≠ (u353002 : Value).ownBlock) v4 x4_2) ∧ Aside0 (Kd.R (Kd.int .u8) 5 w' w.heap.size (fun k_ => some k_ ≠ (v4 : Value).ownBlock ∧ some k_ ≠ (u353000 : Value).ownBlock ∧ some k_ ≠ (u353002 : Value).ownBlock) v5 x5_2) ∧ Aside0 (Kd.R (Kd.int .u8) 5 w' w.heap.size (fun k_ => some k_ ≠ (v4 : Value).ownBlock ∧ some k_ ≠ (v5 : Value).ownBlock ∧ some k_ ≠ (u353002 : Value).ownBlock) u353000 x353000_2) ∧ Aside0 (Kd.R (Kd.int .u8) 5 w' w.heap.size (fun k_ => some k_ ≠ (v4 : Value).ownBlock ∧ some k_ ≠ (v5 : Value).ownBlock ∧ some k_ ≠ (u353000 : Value).ownBlock) u353002 x353002_2) ∧ Aside0 (w'.heap[gb352]? = some (.cells #[u353000, .int .i64 x353001_2, u353002] 24 (0, 0))) ∧ Aside0 (Below w.heap.size w w'))
        case atStart => exact ⟨(([] : List Int)), (([] : List Int)), (0), (t345), (t348), (t349), (.slice Ao13 t345.length co13), (.slice Ao15 t349.length co15), (by first | rfl | (simp; done) | (simp [*]; done)), H', ⟨Nat.le_refl _⟩, ⟨by first | exact Kd.R_nil _ _ _ _ _ | exact Kd.N_nil _ _ _ _ _ | exact Kd.V_nil _ _ _ _ _ | exact Kd.Q_nil _ _ _ _ _ | exact Kd.S_nil _ _ _ _ _⟩, ⟨by first | exact Kd.R_nil _ _ _ _ _ | exact Kd.N_nil _ _ _ _ _ | exact Kd.V_nil _ _ _ _ _ | exact Kd.Q_nil _ _ _ _ _ | exact Kd.S_nil _ _ _ _ _⟩, ⟨by (with_reducible repeat (first | apply Kd.R_alloc | apply Kd.R_drewN | apply Kd.R_drew)); exact Kd.R_mono (Kd.R_far (p := ⟨gb352, 2, none⟩) (Kd.R_far (p := ⟨gb352, 1, none⟩) (Kd.R_far (p := ⟨gb352, 0, none⟩) (Kd.R_types HO347.out BK352.out (by decide)) (fun _ hk => hk.2) (.slice Ao13 t345.length co13)) (fun _ hk => hk.2) (.int .i64 t348)) (fun _ hk => hk.2) (.slice Ao15 t349.length co15)) (fun _ hk => ⟨(by simp [Value.ownBlock]), ⟨(by simp [Value.ownBlock]), hk.1⟩⟩)⟩, ⟨by (with_reducible repeat (first | apply Kd.R_alloc | apply Kd.R_drewN | apply Kd.R_drew)); exact Kd.R_mono (Kd.R_far (p := ⟨gb352, 2, none⟩) (Kd.R_far (p := ⟨gb352, 1, none⟩) (Kd.R_far (p := ⟨gb352, 0, none⟩) (Kd.R_types HO351.out BK352.out (by decide)) (fun _ hk => hk.2) (.slice Ao13 t345.length co13)) (fun _ hk => hk.2) (.int .i64 t348)) (fun _ hk => hk.2) (.slice Ao15 t349.length co15)) (fun _ hk => ⟨(by simp [Value.ownBlock]), ⟨(by simp [Value.ownBlock]), hk.1⟩⟩)⟩, ⟨by (with_reducible repeat (first | refine blk_drewN ?_ _ | refine blk_drew ?_ | refine blk_alloc ?_ _)); refine blk_put (cs := #[.slice Ao13 t345.length co13, .int .i64 t348, .slice none 0 0]) ?_ 2 _ rfl; (with_reducible repeat (first | refine blk_drewN ?_ _ | refine blk_drew ?_ | refine blk_alloc ?_ _)); refine blk_put (cs := #[.slice Ao13 t345.length co13, .int .i64 0, .slice none 0 0]) ?_ 1 _ rfl; (with_reducible repeat (first | refine blk_drewN ?_ _ | refine blk_drew ?_ | refine blk_alloc ?_ _)); refine blk_put (cs := #[.slice none 0 0, .int .i64 0, .slice none 0 0]) ?_ 0 _ rfl; (with_reducible repeat (first | refine blk_drewN ?_ _ | refine blk_drew ?_ | refine blk_alloc ?_ _)); exact BK352.out⟩, ⟨by repeat (first | (with_reducible first | exact HB.out | apply below_alloc | apply pw_below_drewN | apply below_drew1 | refine below_set ?_ GE352.out) | exact HB.out)⟩⟩
        case round =>
          clear H'
          try clear c1
          try clear p2
          try clear c4
          try clear c7
          try clear hcz14_0
          try clear hcz14_1
          try clear hcz14_2
          try clear hfz14_0
          try clear hfz14_1
          try clear hfz14_2
          try clear p2
          obtain ⟨x4_2, x5_2, x6_2, x353000_2, x353001_2, x353002_2, u353000, u353002, rfl, HA, HK2, HO_4, HO_5, HO_353000, HO_353002, BK352, HB⟩ := hrel
          cases gk with
          | zero => exact absurd HA.out (by simp [capnplaw24_PackstreamChunks.l0])
          | succ k2 =>
            have H := HA.out
            clear HA
            simp only [capnplaw24_PackstreamChunks.l0] at H
            by_cases c16 : x6_2 < (l0.length : Int)
            · rw [if_pos c16] at H
              have c16b0 : decide (x6_2 < (l0.length : Int)) = true := decide_eq_true c16
              clear c16
              by_cases c17 : 0 ≤ x6_2
              · rw [if_pos c17] at H
                have c17b0 : decide (0 ≤ x6_2) = true := decide_eq_true c17
                clear c17
                by_cases c18 : (wrap64 ((x4_2.length : Int) + ((rd_L2 l0 x6_2).length : Int))) > 20000
                · rw [if_pos c18] at H
                  have c18b0 : decide (20000 < (wrap64 ((x4_2.length : Int) + ((rd_L2 l0 x6_2).length : Int)))) = true := decide_eq_true c18
                  clear c18
                  obtain rfl := Option.some.inj H
                  obtain ⟨Ao19, co19, eo19⟩ := Kd.R_slice HO_4.out
                  subst eo19
                  have p353 : 0 ≤ (x6_2 : Int) := of_decide_eq_true pA
                  have q353 : x6_2 < (l0.length : Int) := of_decide_eq_true pA
                  obtain ⟨ad353, A353_0, c353_0, e353, hx353_0, hl353_0, hi353_0⟩ := at_L2 HR0.out x6_2 p353 q353
                  cases e353
                  replace hx353_0 := (HB.out.cell (World.block_lt_of_cell? w _ hx353_0)).trans hx353_0
                  have HR353_0 := Aside0.mk hi353_0
                  have HC353_0 := Aside0.mk hl353_0
                  clear hi353_0 hl353_0
                  replace p353 := eq_true p353
                  replace q353 := eq_true q353
                  go_wp2
                  go_ret
                  exact ⟨by first | rfl | (simp [errW_none, errW_some] <;> rfl) | (simp [*, errW_none, errW_some] <;> rfl), by repeat (first | (with_reducible first | exact HB.out | apply below_alloc | apply pw_below_drewN | apply below_drew1 | refine below_set ?_ GE352.out) | exact HB.out)⟩
                · rw [if_neg c18] at H
                  have c18b0 : decide (20000 < (wrap64 ((x4_2.length : Int) + ((rd_L2 l0 x6_2).length : Int)))) = false := decide_eq_false c18
                  clear c18
                  by_cases c20 : x4_2.length + (rd_L2 l0 x6_2).length < 140737488355328
                  · rw [if_pos c20] at H
                    have LMc20 := Aside0.mk c20
                    clear c20
                    obtain ⟨y355, hy355⟩ : ∃ y_ : List Int, y_ = (x4_2 ++ (rd_L2 l0 x6_2)) := ⟨_, rfl⟩
                    replace H : ((packstream_Write.f x353000_2 x353001_2 x353002_2 (rd_L2 l0 x6_2)).bind fun bt359 => (if x5_2.length + bt359.2.2.2.length < 140737488355328 then (capnplaw24_PackstreamChunks.l0 k2 l0 y355 (x5_2 ++ bt359.2.2.2) (wrap64 (x6_2 + 1)) bt359.1 bt359.2.1 bt359.2.2.1) else (none))) = some r := by first | (rw [hy355]; with_reducible exact H) | (have H2_ := (Option.bind_some _ _).symm.trans H; rw [hy355]; with_reducible exact H2_) | (have H2_ := (Option.bind_some _ _).symm.trans H; with_reducible exact H2_) | with_reducible exact H | (rw [hy355]; exact H) | exact H
                    have Ny355 := Aside0.mk hy355
                    clear hy355
                    replace H := Option.bind_eq_some_iff.mp H
                    obtain ⟨⟨t359, t362, t363, t366⟩, A210, H⟩ := H
                    replace H : (if x5_2.length + t366.length < 140737488355328 then (capnplaw24_PackstreamChunks.l0 k2 l0 y355 (x5_2 ++ t366) (wrap64 (x6_2 + 1)) t359 t362 t363) else (none)) = some r := H
                    have A21 := Aside0.mk A210
                    clear A210
                    by_cases c22 : x5_2.length + t366.length < 140737488355328
                    · rw [if_pos c22] at H
                      have LMc22 := Aside0.mk c22
                      clear c22
                      obtain ⟨y370, hy370⟩ : ∃ y_ : List Int, y_ = (x5_2 ++ t366) := ⟨_, rfl⟩
                      replace H : (capnplaw24_PackstreamChunks.l0 k2 l0 y355 y370 (wrap64 (x6_2 + 1)) t359 t362 t363) = some r := by first | (rw [hy370]; with_reducible exact H) | (have H2_ := (Option.bind_some _ _).symm.trans H; rw [hy370]; with_reducible exact H2_) | (have H2_ := (Option.bind_some _ _).symm.trans H; with_reducible exact H2_) | with_reducible exact H | (rw [hy370]; exact H) | exact H
                      have Ny370 := Aside0.mk hy370
                      clear hy370
                      have H' := Aside0.mk H
                      clear H
                      obtain ⟨Ao23, co23, eo23⟩ := Kd.R_slice HO_4.out
                      subst eo23
                      have p353 : 0 ≤ (x6_2 : Int) := of_decide_eq_true pA
                      have q353 : x6_2 < (l0.length : Int) := of_decide_eq_true pA
                      obtain ⟨ad353, A353_0, c353_0, e353, hx353_0, hl353_0, hi353_0⟩ := at_L2 HR0.out x6_2 p353 q353
                      cases e353
                      replace hx353_0 := (HB.out.cell (World.block_lt_of_cell? w _ hx353_0)).trans hx353_0
                      have HR353_0 := Aside0.mk hi353_0
                      have HC353_0 := Aside0.mk hl353_0
                      clear hi353_0 hl353_0
                      replace p353 := eq_true p353
                      replace q353 := eq_true q353
                      have p354 : 0 ≤ (x6_2 : Int) := of_decide_eq_true pA
                      have q354 : x6_2 < (l0.length : Int) := of_decide_eq_true pA
                      obtain ⟨ad354, A354_0, c354_0, e354, hx354_0, hl354_0, hi354_0⟩ := at_L2 HR0.out x6_2 p354 q354
                      obtain rfl : ad353 = ad354 := (by injection e354)
                      replace hx354_0 := (HB.out.cell (World.block_lt_of_cell? w _ hx354_0)).trans hx354_0
                      have HR354_0 := Aside0.mk hi354_0
                      have HC354_0 := Aside0.mk hl354_0
                      clear hi354_0 hl354_0
                      replace p354 := eq_true p354
                      replace q354 := eq_true q354
                      have ea_ := Option.some.inj (hx353_0.symm.trans hx354_0)
                      injection ea_ with ea_ en_ ec_
                      subst ea_
                      subst ec_
                      clear en_
                      try go_wp2_with (first | ((with_reducible refine gate_builtin (b := .append) (xs := #[.tmp 37, .tmp 41]) rfl ?_); (try (refine gate_guard (by rfl) ?_; dsimp only)); at_builtin; refine Kd.R_append_rows (Kd.int .u8) (w0 := w) w.heap.size rfl (.tmp 37) (.tmp 41) 22 5 (.int .u8 0) 1 rfl Try.underlying22 info5 rfl (by decide) (by omega) (.slice Ao23 x4_2.length co23) x4_2 (rd_L2 l0 x6_2) _ _ _ (fun k_ => some k_ ≠ (u5 : Value).ownBlock ∧ some k_ ≠ (u353000 : Value).ownBlock ∧ some k_ ≠ (u353002 : Value).ownBlock) (fun _ => False) rfl rfl ?aO ?aR (fun _ _ h => h) (fun _ h => h.elim) ?aF ?aB ?aS ?aL ?_; (case aR => repeat (first | exact (Kd.C_below HR354_0.out HB.out) | (with_reducible refine Kd.C_alloc ?_ _) | (with_reducible refine Kd.C_drewN ?_ _) | (with_reducible refine Kd.C_drew ?_))); (case aB => exact (by repeat (first | (with_reducible first | exact HB.out | apply below_alloc | apply pw_below_drewN | apply below_drew1 | refine below_set ?_ GE352.out) | exact HB.out))); (case aF => exact (fun k_ hk => ⟨Kd.fresh' (Kd.R_lt (pR HO_5)) k_ hk, Kd.fresh' (Kd.R_lt (pR HO_353000)) k_ hk, Kd.fresh' (Kd.R_lt (pR HO_353002)) k_ hk⟩)); (case aO => exact (pR HO_4)); (case aS => exact (below_size (by repeat (first | (with_reducible first | exact HB.out | apply below_alloc | apply pw_below_drewN | apply below_drew1 | refine below_set ?_ GE352.out) | exact HB.out)))); (case aL => have := LMc20.out; omega); intro v356 w24 ho hb hg hat; rw [← Ny355.out] at ho; have n0_ := Aside0.mk (Kd.R_after (ok := (fun k_ => some k_ ≠ (u353000 : Value).ownBlock ∧ some k_ ≠ (u353002 : Value).ownBlock)) (by (with_reducible repeat (first | apply Kd.R_alloc | apply Kd.R_drewN | apply Kd.R_drew)); exact Kd.R_mono HO_5.out (fun _ hk => ⟨⟨hk.2.1, hk.2.2⟩, hk.1⟩)) hg hat); have n1_ := Aside0.mk (Kd.R_after (ok := (fun k_ => some k_ ≠ (u5 : Value).ownBlock ∧ some k_ ≠ (u353002 : Value).ownBlock)) (by (with_reducible repeat (first | apply Kd.R_alloc | apply Kd.R_drewN | apply Kd.R_drew)); exact Kd.R_mono HO_353000.out (fun _ hk => ⟨⟨hk.2.1, hk.2.2⟩, hk.1⟩)) hg hat); have n2_ := Aside0.mk (Kd.R_after (ok := (fun k_ => some k_ ≠ (u5 : Value).ownBlock ∧ some k_ ≠ (u353000 : Value).ownBlock)) (by (with_reducible repeat (first | apply Kd.R_alloc | apply Kd.R_drewN | apply Kd.R_drew)); exact Kd.R_mono HO_353002.out (fun _ hk => ⟨⟨hk.2.1, hk.2.2⟩, hk.1⟩)) hg hat); have n3_ := Aside0.mk (blk_grown (g := gb352) (o := .cells #[u353000, .int .i64 x353001_2, u353002] 24 (0, 0)) (pK BK352) hg (Kd.R_ne HO_4.out BK352.out (by decide))); have n4_ := Aside0.mk (hb); have n5_ := Aside0.mk (ho); clear HO_5; clear HO_353000; clear HO_353002; clear BK352; clear HB; clear HO_4; have HO_5 := n0_; have HO_353000 := n1_; have HO_353002 := n2_; have BK352 := n3_; have HB := n4_; have HO357 := n5_; clear n0_ n1_ n2_ n3_ n4_ n5_; clear ho hb hg hat; obtain ⟨Ao25, co25, eo25⟩ := Kd.R_slice HO_353000.out; subst eo25; obtain ⟨Ao26, co26, eo26⟩ := Kd.R_slice HO_353002.out; subst eo26))
                      have n0_ := Aside0.mk (Kd.R_drew HO_5.out)
                      have n1_ := Aside0.mk (Kd.R_drew HO_353000.out)
                      have n2_ := Aside0.mk (Kd.R_drew HO_353002.out)
                      have n3_ := Aside0.mk (Kd.R_drew HO357.out)
                      have n4_ := Aside0.mk (blk_drew BK352.out)
                      have n5_ := Aside0.mk (below_drew1 HB.out)
                      clear HO_5
                      clear HO_353000
                      clear HO_353002
                      clear HO357
                      clear BK352
                      clear HB
                      have HO_5 := n0_
                      have HO_353000 := n1_
                      have HO_353002 := n2_
                      have HO357 := n3_
                      have BK352 := n4_
                      have HB := n5_
                      clear n0_ n1_ n2_ n3_ n4_ n5_
                      have p358 : 0 ≤ (x6_2 : Int) := of_decide_eq_true pA
                      have q358 : x6_2 < (l0.length : Int) := of_decide_eq_true pA
                      obtain ⟨ad358, A358_0, c358_0, e358, hx358_0, hl358_0, hi358_0⟩ := at_L2 HR0.out x6_2 p358 q358
                      have hw358_0 := hx358_0
                      obtain rfl : ad353 = ad358 := (by injection e358)
                      replace hx358_0 := (HB.out.cell (World.block_lt_of_cell? w _ hx358_0)).trans hx358_0
                      have HR358_0 := Aside0.mk hi358_0
                      have HC358_0 := Aside0.mk hl358_0
                      clear hi358_0 hl358_0
                      replace p358 := eq_true p358
                      replace q358 := eq_true q358
                      refine start_ (n := 12) (S := fun w' => w'.cell? ⟨gb352, 0, none⟩ = some (.slice Ao25 x353000_2.length co25) ∧ w'.cell? ⟨gb352, 1, none⟩ = some (.int .i64 x353001_2) ∧ w'.cell? ⟨gb352, 2, none⟩ = some (.slice Ao26 x353002_2.length co26) ∧ w'.cell? (ad353.add (x6_2).toNat) = some (.slice A358_0 (rd_L2 l0 x6_2).length c358_0)) (ds := []) #[false, false, false, false, false, false, false, false, false, false, false, false] (by kernel_rfl) rfl rfl ⟨(blk_cell BK352.out 0).trans rfl, (blk_cell BK352.out 1).trans rfl, (blk_cell BK352.out 2).trans rfl, ((HB.out.cell (World.block_lt_of_cell? w _ hw358_0)).trans hw358_0)⟩ (fun hHeld => ?_); refine with_tabW capnplaw24_PackstreamChunks.tab11 capnplaw24_PackstreamChunks.bits11 (fun HT_ HW_ => ?_)
                      generalize w24.drew = w27 at HO_5 HO_353000 HO_353002 HO357 BK352 HB HR358_0 hx358_0 hHeld ⊢
                      refine pure_ (i := 1) (N := some 45) (v := ?_) (a' := ?_) #[false, true, false, false, false, false, false, false, false, false, false, false] rfl rfl (any_of HT_.out (by kernel_rfl)) (fun _ _ _ h => h) (Or.inl ⟨by rfl, ?_⟩) ?_ ?_
                      rotate_left
                      · intro w'
                        go_simp
                        with_reducible rfl
                      rotate_left
                      · simp only [Act.put, List.setIfInBounds_toArray, List.set_cons_zero, List.set_cons_succ, i64_w, i32_w]
                        rfl
                      refine pure_ (i := 2) (N := some 46) (v := ?_) (a' := ?_) #[false, true, true, false, false, false, false, false, false, false, false, false] rfl rfl (any_of HT_.out (by kernel_rfl)) (fun _ _ _ h => h) (Or.inl ⟨by rfl, ?_⟩) ?_ ?_
                      rotate_left
                      · intro w'
                        go_simp
                        with_reducible rfl
                      rotate_left
                      · simp only [Act.put, List.setIfInBounds_toArray, List.set_cons_zero, List.set_cons_succ, i64_w, i32_w]
                        rfl
                      refine pure_ (i := 3) (N := some 47) (v := ?_) (a' := ?_) #[false, true, true, true, false, false, false, false, false, false, false, false] rfl rfl (any_of HT_.out (by kernel_rfl)) (fun _ _ _ h => h) (Or.inl ⟨by rfl, ?_⟩) ?_ ?_
                      rotate_left
                      · intro w'
                        go_simp
                        with_reducible rfl
                      rotate_left
                      · simp only [Act.put, List.setIfInBounds_toArray, List.set_cons_zero, List.set_cons_succ, i64_w, i32_w]
                        rfl
                      refine take_ (i := 0) (N := some 44) (v := ?_) (a' := ?_) #[true, true, true, true, false, false, false, false, false, false, false, false] rfl rfl (take_ofW HT_.out HW_.out (by kernel_rfl)) (fun _ _ _ h => h) (Or.inl ⟨by rfl, ?_⟩) hHeld ?_ ?_
                      rotate_left
                      · rintro w' ⟨s0, s1, s2, s3⟩
                        go_simp
                        with_reducible rfl
                      rotate_left
                      · simp only [Act.put, List.setIfInBounds_toArray, List.set_cons_zero, List.set_cons_succ, i64_w, i32_w]
                        rfl
                      refine take_ (i := 4) (N := some 48) (v := ?_) (a' := ?_) #[true, true, true, true, true, false, false, false, false, false, false, false] rfl rfl (take_ofW HT_.out HW_.out (by kernel_rfl)) (fun _ _ _ h => h) (Or.inl ⟨by rfl, ?_⟩) hHeld ?_ ?_
                      rotate_left
                      · rintro w' ⟨s0, s1, s2, s3⟩
                        go_simp
                        with_reducible rfl
                      rotate_left
                      · simp only [Act.put, List.setIfInBounds_toArray, List.set_cons_zero, List.set_cons_succ, i64_w, i32_w]
                        rfl
                      refine join_ (σ := Value × Value × Value × Nat) 2 #[true, true, true, true, true, true, true, true, true, true, false, false] (fun s_ => [(49, .tuple #[.agg #[s_.1, .int .i64 t362, s_.2.1], s_.2.2.1]), (7, .pointer (some ⟨s_.2.2.2, 0, none⟩)), (43, .tuple #[.agg #[s_.1, .int .i64 t362, s_.2.1], s_.2.2.1]), (50, .agg #[s_.1, .int .i64 t362, s_.2.1]), (51, s_.2.2.1)]) (fun s_ w' => (w'.cell? ⟨gb352, 0, none⟩ = some (.slice Ao25 x353000_2.length co25) ∧ w'.cell? ⟨gb352, 1, none⟩ = some (.int .i64 x353001_2) ∧ w'.cell? ⟨gb352, 2, none⟩ = some (.slice Ao26 x353002_2.length co26) ∧ w'.cell? (ad353.add (x6_2).toNat) = some (.slice A358_0 (rd_L2 l0 x6_2).length c358_0)) ∧ (Kd.R (Kd.int .u8) 5 w' w.heap.size (fun k_ => some k_ ≠ (s_.1 : Value).ownBlock ∧ some k_ ≠ (s_.2.1 : Value).ownBlock ∧ some k_ ≠ (s_.2.2.1 : Value).ownBlock ∧ some k_ ≠ (.slice Ao25 x353000_2.length co25 : Value).ownBlock ∧ some k_ ≠ (.slice Ao26 x353002_2.length co26 : Value).ownBlock ∧ some k_ ≠ (u5 : Value).ownBlock) v356 y355) ∧ (Kd.R (Kd.int .u8) 5 w' w.heap.size (fun k_ => some k_ ≠ (v356 : Value).ownBlock ∧ some k_ ≠ (s_.2.1 : Value).ownBlock ∧ some k_ ≠ (s_.2.2.1 : Value).ownBlock ∧ some k_ ≠ (.slice Ao25 x353000_2.length co25 : Value).ownBlock ∧ some k_ ≠ (.slice Ao26 x353002_2.length co26 : Value).ownBlock ∧ some k_ ≠ (u5 : Value).ownBlock) s_.1 t359) ∧ (Kd.R (Kd.int .u8) 5 w' w.heap.size (fun k_ => some k_ ≠ (v356 : Value).ownBlock ∧ some k_ ≠ (s_.1 : Value).ownBlock ∧ some k_ ≠ (s_.2.2.1 : Value).ownBlock ∧ some k_ ≠ (.slice Ao25 x353000_2.length co25 : Value).ownBlock ∧ some k_ ≠ (.slice Ao26 x353002_2.length co26 : Value).ownBlock ∧ some k_ ≠ (u5 : Value).ownBlock) s_.2.1 t363) ∧ (Kd.R (Kd.int .u8) 5 w' w.heap.size (fun k_ => some k_ ≠ (v356 : Value).ownBlock ∧ some k_ ≠ (s_.1 : Value).ownBlock ∧ some k_ ≠ (s_.2.1 : Value).ownBlock ∧ some k_ ≠ (.slice Ao25 x353000_2.length co25 : Value).ownBlock ∧ some k_ ≠ (.slice Ao26 x353002_2.length co26 : Value).ownBlock ∧ some k_ ≠ (u5 : Value).ownBlock) s_.2.2.1 t366) ∧ (Kd.R (Kd.int .u8) 5 w' w.heap.size (fun k_ => some k_ ≠ (v356 : Value).ownBlock ∧ some k_ ≠ (s_.1 : Value).ownBlock ∧ some k_ ≠ (s_.2.1 : Value).ownBlock ∧ some k_ ≠ (s_.2.2.1 : Value).ownBlock ∧ some k_ ≠ (.slice Ao26 x353002_2.length co26 : Value).ownBlock ∧ some k_ ≠ (u5 : Value).ownBlock) (.slice Ao25 x353000_2.length co25) x353000_2) ∧ (Kd.R (Kd.int .u8) 5 w' w.heap.size (fun k_ => some k_ ≠ (v356 : Value).ownBlock ∧ some k_ ≠ (s_.1 : Value).ownBlock ∧ some k_ ≠ (s_.2.1 : Value).ownBlock ∧ some k_ ≠ (s_.2.2.1 : Value).ownBlock ∧ some k_ ≠ (.slice Ao25 x353000_2.length co25 : Value).ownBlock ∧ some k_ ≠ (u5 : Value).ownBlock) (.slice Ao26 x353002_2.length co26) x353002_2) ∧ (Kd.R (Kd.int .u8) 5 w' w.heap.size (fun k_ => some k_ ≠ (v356 : Value).ownBlock ∧ some k_ ≠ (s_.1 : Value).ownBlock ∧ some k_ ≠ (s_.2.1 : Value).ownBlock ∧ some k_ ≠ (s_.2.2.1 : Value).ownBlock ∧ some k_ ≠ (.slice Ao25 x353000_2.length co25 : Value).ownBlock ∧ some k_ ≠ (.slice Ao26 x353002_2.length co26 : Value).ownBlock) u5 x5_2) ∧ (w'.heap[gb352]? = some (.cells #[.slice Ao25 x353000_2.length co25, .int .i64 x353001_2, .slice Ao26 x353002_2.length co26] 24 (0, 0))) ∧ (w'.heap[s_.2.2.2]? = some (.cells #[.slice none 0 0, .int .i64 0, .slice none 0 0] 24 (0, 0))) ∧ (w.heap.size ≤ s_.2.2.2) ∧ (w.heap.size ≤ s_.2.2.2) ∧ (gb352 ≠ s_.2.2.2) ∧ (s_.2.2.2 ≠ gb352) ∧ (Below w.heap.size w w')) ?_ ?_
                      rotate_left
                      · intro hCont
                        refine two_ (i := 5) (j := 9) (Ni := some 49) (Nj := some 7) #[true, true, true, true, true, true, false, false, false, false, false, false] #[true, true, true, true, true, false, false, false, false, true, false, false] rfl rfl rfl rfl (two_of HT_.out (by kernel_rfl)) (by decide) (by decide) (fun K hK => ?_) (fun K hK => ?_)
                        · skip
                          refine goes_ Try.func8 (by kernel_rfl) rfl #[.agg #[.slice Ao25 x353000_2.length co25, .int .i64 x353001_2, .slice Ao26 x353002_2.length co26], .slice A358_0 (rd_L2 l0 x6_2).length c358_0] (by rfl) rfl rfl pM ?_
                          with_reducible refine (packstream_Write.calls _ _ x353000_2 x353001_2 _ _ x353002_2 _ _ (rd_L2 l0 x6_2) t359 t362 t363 t366 _ ?side1 ?side2 ?side3 ?side4 ?side5 ?side6 A21.out).mono ?_
                          (case side1 => repeat (first | exact (Kd.R_reads' HO_353000.out).2.2 | (with_reducible refine Kd.C_alloc ?_ _) | (with_reducible refine Kd.C_drewN ?_ _) | (with_reducible refine Kd.C_drew ?_)))
                          (case side2 => exact (Kd.R_reads' HO_353000.out).2.1)
                          (case side3 => repeat (first | exact (Kd.R_reads' HO_353002.out).2.2 | (with_reducible refine Kd.C_alloc ?_ _) | (with_reducible refine Kd.C_drewN ?_ _) | (with_reducible refine Kd.C_drew ?_)))
                          (case side4 => exact (Kd.R_reads' HO_353002.out).2.1)
                          (case side5 => repeat (first | exact (Kd.C_below HR358_0.out HB.out) | (with_reducible refine Kd.C_alloc ?_ _) | (with_reducible refine Kd.C_drewN ?_ _) | (with_reducible refine Kd.C_drew ?_)))
                          (case side6 => exact HC358_0.out)
                          rintro e w28 ⟨v360, v364, v367, rfl, ho0, ho1, ho2, hb⟩
                          refine ⟨_, rfl, ?_⟩
                          have n0_ := Aside0.mk (Kd.R_mono (Kd.R_told (Kd.R_told (Kd.R_told (Kd.R_old (pR HO_5) hb) (Kd.R_base ho0)) (Kd.R_base ho1)) (Kd.R_base ho2)) (fun _ h_ => h_.1))
                          have n1_ := Aside0.mk (Kd.R_mono (Kd.R_told (Kd.R_told (Kd.R_told (Kd.R_old (pR HO_353000) hb) (Kd.R_base ho0)) (Kd.R_base ho1)) (Kd.R_base ho2)) (fun _ h_ => h_.1))
                          have n2_ := Aside0.mk (Kd.R_mono (Kd.R_told (Kd.R_told (Kd.R_told (Kd.R_old (pR HO_353002) hb) (Kd.R_base ho0)) (Kd.R_base ho1)) (Kd.R_base ho2)) (fun _ h_ => h_.1))
                          have n3_ := Aside0.mk (Kd.R_mono (Kd.R_told (Kd.R_told (Kd.R_told (Kd.R_old (pR HO357) hb) (Kd.R_base ho0)) (Kd.R_base ho1)) (Kd.R_base ho2)) (fun _ h_ => h_.1))
                          have n4_ := Aside0.mk (Kd.R_lower (Kd.R_new' (Kd.R_new' (Kd.R_new' (Kd.R_new' ho0 (Kd.R_lt (pR HO_5))) (Kd.R_lt (pR HO_353000))) (Kd.R_lt (pR HO_353002))) (Kd.R_lt (pR HO357))) (below_size (by repeat (first | (with_reducible first | exact HB.out | apply below_alloc | apply pw_below_drewN | apply below_drew1 | refine below_set ?_ GE352.out) | exact HB.out))))
                          have n5_ := Aside0.mk (Kd.R_lower (Kd.R_new' (Kd.R_new' (Kd.R_new' (Kd.R_new' ho1 (Kd.R_lt (pR HO_5))) (Kd.R_lt (pR HO_353000))) (Kd.R_lt (pR HO_353002))) (Kd.R_lt (pR HO357))) (below_size (by repeat (first | (with_reducible first | exact HB.out | apply below_alloc | apply pw_below_drewN | apply below_drew1 | refine below_set ?_ GE352.out) | exact HB.out))))
                          have n6_ := Aside0.mk (Kd.R_lower (Kd.R_new' (Kd.R_new' (Kd.R_new' (Kd.R_new' ho2 (Kd.R_lt (pR HO_5))) (Kd.R_lt (pR HO_353000))) (Kd.R_lt (pR HO_353002))) (Kd.R_lt (pR HO357))) (below_size (by repeat (first | (with_reducible first | exact HB.out | apply below_alloc | apply pw_below_drewN | apply below_drew1 | refine below_set ?_ GE352.out) | exact HB.out))))
                          have n7_ := Aside0.mk (blk_below (g := gb352) (o := .cells #[.slice Ao25 x353000_2.length co25, .int .i64 x353001_2, .slice Ao26 x353002_2.length co26] 24 (0, 0)) (pK BK352) hb)
                          have n8_ := Aside0.mk (below_step (by repeat (first | (with_reducible first | exact HB.out | apply below_alloc | apply pw_below_drewN | apply below_drew1 | refine below_set ?_ GE352.out) | exact HB.out)) hb)
                          clear HO_5
                          clear HO_353000
                          clear HO_353002
                          clear HO357
                          clear BK352
                          clear HB
                          have HO_5 := n0_
                          have HO_353000 := n1_
                          have HO_353002 := n2_
                          have HO357 := n3_
                          have HO361 := n4_
                          have HO365 := n5_
                          have HO368 := n6_
                          have BK352 := n7_
                          have HB := n8_
                          clear n0_ n1_ n2_ n3_ n4_ n5_ n6_ n7_ n8_
                          (try clear hb)
                          (try clear hb2)
                          (try clear hk)
                          (try clear hi)
                          (try clear ho0)
                          (try clear ho1)
                          (try clear ho2)
                          refine hK.out _ _ ⟨(blk_cell BK352.out 0).trans rfl, (blk_cell BK352.out 1).trans rfl, (blk_cell BK352.out 2).trans rfl, ((HB.out.cell (World.block_lt_of_cell? w _ hw358_0)).trans hw358_0)⟩ (fun hHeld => ?_)
                          clear hK K
                          refine norm_ (a' := ?_) ?_ ?_
                          rotate_left
                          · show Act.put _ (some 49) _ = _
                            simp only [Act.put, List.setIfInBounds_toArray, List.set_cons_zero, List.set_cons_succ, i64_w, i32_w]
                            rfl
                          refine pure_ (i := 6) (N := some 43) (v := ?_) (a' := ?_) #[true, true, true, true, true, true, true, false, false, false, false, false] rfl rfl (any_of HT_.out (by kernel_rfl)) (fun _ _ _ h => h) (Or.inl ⟨by rfl, ?_⟩) ?_ ?_
                          rotate_left
                          · intro w'
                            go_simp
                            with_reducible rfl
                          rotate_left
                          · simp only [Act.put, List.setIfInBounds_toArray, List.set_cons_zero, List.set_cons_succ, i64_w, i32_w]
                            rfl
                          refine pure_ (i := 7) (N := some 50) (v := ?_) (a' := ?_) #[true, true, true, true, true, true, true, true, false, false, false, false] rfl rfl (any_of HT_.out (by kernel_rfl)) (fun _ _ _ h => h) (Or.inl ⟨by rfl, ?_⟩) ?_ ?_
                          rotate_left
                          · intro w'
                            go_simp
                            with_reducible rfl
                          rotate_left
                          · simp only [Act.put, List.setIfInBounds_toArray, List.set_cons_zero, List.set_cons_succ, i64_w, i32_w]
                            rfl
                          refine pure_ (i := 8) (N := some 51) (v := ?_) (a' := ?_) #[true, true, true, true, true, true, true, true, true, false, false, false] rfl rfl (any_of HT_.out (by kernel_rfl)) (fun _ _ _ h => h) (Or.inl ⟨by rfl, ?_⟩) ?_ ?_
                          rotate_left
                          · intro w'
                            go_simp
                            with_reducible rfl
                          rotate_left
                          · simp only [Act.put, List.setIfInBounds_toArray, List.set_cons_zero, List.set_cons_succ, i64_w, i32_w]
                            rfl
                          refine one_ (i := 9) (N := some 7) #[true, true, true, true, true, true, true, true, true, true, false, false] rfl rfl (one_of HT_.out (by kernel_rfl)) (by decide) (fun K hK => ?_)
                          refine box_step ?hg (N := 7) ?hd (cs := #[.slice none 0 0, .int .i64 0, .slice none 0 0]) (t := 24) ?hr ?_; (case hd => rfl); (case hg => rfl); (case hr => first | (go_simp; done) | (go_simp; rfl))
                          intro gb369 hg w29 hbox hb
                          have n0_ := Aside0.mk (Kd.R_below (pR HO_5) hb)
                          have n1_ := Aside0.mk (Kd.R_below (pR HO_353000) hb)
                          have n2_ := Aside0.mk (Kd.R_below (pR HO_353002) hb)
                          have n3_ := Aside0.mk (Kd.R_below (pR HO357) hb)
                          have n4_ := Aside0.mk (Kd.R_below (pR HO361) hb)
                          have n5_ := Aside0.mk (Kd.R_below (pR HO365) hb)
                          have n6_ := Aside0.mk (Kd.R_below (pR HO368) hb)
                          have n7_ := Aside0.mk (blk_below (g := gb352) (o := .cells #[.slice Ao25 x353000_2.length co25, .int .i64 x353001_2, .slice Ao26 x353002_2.length co26] 24 (0, 0)) (pK BK352) hb)
                          have n8_ := Aside0.mk (below_step (by repeat (first | (with_reducible first | exact HB.out | apply below_alloc | apply pw_below_drewN | apply below_drew1 | refine below_set ?_ GE352.out) | exact HB.out)) hb)
                          have n9_ := Aside0.mk (hbox)
                          have n10_ := Aside0.mk ((by rw [hg]; exact (below_size (by repeat (first | (with_reducible first | exact HB.out | apply below_alloc | apply pw_below_drewN | apply below_drew1 | refine below_set ?_ GE352.out) | exact HB.out))) : w.heap.size ≤ gb369))
                          have n11_ := Aside0.mk ((by rw [hg]; exact (below_size (by repeat (first | (with_reducible first | exact HB.out | apply below_alloc | apply pw_below_drewN | apply below_drew1 | refine below_set ?_ GE352.out) | exact HB.out))) : w.heap.size ≤ gb369))
                          have n12_ := Aside0.mk ((by rw [hg]; exact Nat.ne_of_lt (blk_lt (g := gb352) (o := .cells #[.slice Ao25 x353000_2.length co25, .int .i64 x353001_2, .slice Ao26 x353002_2.length co26] 24 (0, 0)) (pK BK352)) : gb352 ≠ gb369))
                          have n13_ := Aside0.mk ((by rw [hg]; exact Nat.ne_of_gt (blk_lt (g := gb352) (o := .cells #[.slice Ao25 x353000_2.length co25, .int .i64 x353001_2, .slice Ao26 x353002_2.length co26] 24 (0, 0)) (pK BK352)) : gb369 ≠ gb352))
                          clear HO_5
                          clear HO_353000
                          clear HO_353002
                          clear HO357
                          clear HO361
                          clear HO365
                          clear HO368
                          clear BK352
                          clear HB
                          have HO_5 := n0_
                          have HO_353000 := n1_
                          have HO_353002 := n2_
                          have HO357 := n3_
                          have HO361 := n4_
                          have HO365 := n5_
                          have HO368 := n6_
                          have BK352 := n7_
                          have HB := n8_
                          have BK369 := n9_
                          have GW369 := n10_
                          have GE369 := n11_
                          have NB352_369 := n12_
                          have NB369_352 := n13_
                          clear n0_ n1_ n2_ n3_ n4_ n5_ n6_ n7_ n8_ n9_ n10_ n11_ n12_ n13_
                          clear hb hbox hg
                          refine hK.out _ _ ⟨(blk_cell BK352.out 0).trans rfl, (blk_cell BK352.out 1).trans rfl, (blk_cell BK352.out 2).trans rfl, ((HB.out.cell (World.block_lt_of_cell? w _ hw358_0)).trans hw358_0)⟩ (fun hHeld => ?_)
                          clear hK K
                          refine norm_ (a' := ?_) ?_ ?_
                          rotate_left
                          · show Act.put _ (some 7) _ = _
                            simp only [Act.put, List.setIfInBounds_toArray, List.set_cons_zero, List.set_cons_succ, i64_w, i32_w]
                            rfl
                          exact norm_ (by simp only [putAll, Act.put, List.setIfInBounds_toArray, List.set_cons_zero, List.set_cons_succ]) (hCont (v360, v364, v367, gb369) _ ⟨hHeld, (by (with_reducible repeat (first | apply Kd.R_alloc | apply Kd.R_drewN | apply Kd.R_drew)); exact Kd.R_mono HO357.out (fun _ hk => ⟨hk.1.1.2, ⟨hk.1.2, ⟨hk.2, ⟨hk.1.1.1.2.1, ⟨hk.1.1.1.2.2, hk.1.1.1.1⟩⟩⟩⟩⟩)), (by (with_reducible repeat (first | apply Kd.R_alloc | apply Kd.R_drewN | apply Kd.R_drew)); exact Kd.R_mono HO361.out (fun _ hk => ⟨hk.2, ⟨hk.1.1.1.1.1, ⟨hk.1.1.1.1.2, ⟨hk.1.1.2, ⟨hk.1.2, hk.1.1.1.2⟩⟩⟩⟩⟩)), (by (with_reducible repeat (first | apply Kd.R_alloc | apply Kd.R_drewN | apply Kd.R_drew)); exact Kd.R_mono HO365.out (fun _ hk => ⟨hk.2, ⟨hk.1.1.1.1.1, ⟨hk.1.1.1.1.2, ⟨hk.1.1.2, ⟨hk.1.2, hk.1.1.1.2⟩⟩⟩⟩⟩)), (by (with_reducible repeat (first | apply Kd.R_alloc | apply Kd.R_drewN | apply Kd.R_drew)); exact Kd.R_mono HO368.out (fun _ hk => ⟨hk.2, ⟨hk.1.1.1.1.1, ⟨hk.1.1.1.1.2, ⟨hk.1.1.2, ⟨hk.1.2, hk.1.1.1.2⟩⟩⟩⟩⟩)), (by (with_reducible repeat (first | apply Kd.R_alloc | apply Kd.R_drewN | apply Kd.R_drew)); exact Kd.R_mono HO_353000.out (fun _ hk => ⟨hk.1.1.1.2, ⟨hk.1.1.2, ⟨hk.1.2, ⟨hk.2, ⟨hk.1.1.1.1.2, hk.1.1.1.1.1⟩⟩⟩⟩⟩)), (by (with_reducible repeat (first | apply Kd.R_alloc | apply Kd.R_drewN | apply Kd.R_drew)); exact Kd.R_mono HO_353002.out (fun _ hk => ⟨hk.1.1.1.2, ⟨hk.1.1.2, ⟨hk.1.2, ⟨hk.2, ⟨hk.1.1.1.1.2, hk.1.1.1.1.1⟩⟩⟩⟩⟩)), (by (with_reducible repeat (first | apply Kd.R_alloc | apply Kd.R_drewN | apply Kd.R_drew)); exact Kd.R_mono HO_5.out (fun _ hk => ⟨hk.1.1.1.2, ⟨hk.1.1.2, ⟨hk.1.2, ⟨hk.2, ⟨hk.1.1.1.1.1, hk.1.1.1.1.2⟩⟩⟩⟩⟩)), (pK BK352), (pK BK369), GW369.out, GE369.out, NB352_369.out, NB369_352.out, (by repeat (first | (with_reducible first | exact HB.out | apply below_alloc | apply pw_below_drewN | apply below_drew1 | refine below_set ?_ GE352.out | refine below_set ?_ GE369.out) | exact HB.out))⟩)
                        · skip
                          refine box_step ?hg (N := 7) ?hd (cs := #[.slice none 0 0, .int .i64 0, .slice none 0 0]) (t := 24) ?hr ?_; (case hd => rfl); (case hg => rfl); (case hr => first | (go_simp; done) | (go_simp; rfl))
                          intro gb369 hg w28 hbox hb
                          have n0_ := Aside0.mk (Kd.R_below (pR HO_5) hb)
                          have n1_ := Aside0.mk (Kd.R_below (pR HO_353000) hb)
                          have n2_ := Aside0.mk (Kd.R_below (pR HO_353002) hb)
                          have n3_ := Aside0.mk (Kd.R_below (pR HO357) hb)
                          have n4_ := Aside0.mk (blk_below (g := gb352) (o := .cells #[.slice Ao25 x353000_2.length co25, .int .i64 x353001_2, .slice Ao26 x353002_2.length co26] 24 (0, 0)) (pK BK352) hb)
                          have n5_ := Aside0.mk (below_step (by repeat (first | (with_reducible first | exact HB.out | apply below_alloc | apply pw_below_drewN | apply below_drew1 | refine below_set ?_ GE352.out) | exact HB.out)) hb)
                          have n6_ := Aside0.mk (hbox)
                          have n7_ := Aside0.mk ((by rw [hg]; exact (below_size (by repeat (first | (with_reducible first | exact HB.out | apply below_alloc | apply pw_below_drewN | apply below_drew1 | refine below_set ?_ GE352.out) | exact HB.out))) : w.heap.size ≤ gb369))
                          have n8_ := Aside0.mk ((by rw [hg]; exact (below_size (by repeat (first | (with_reducible first | exact HB.out | apply below_alloc | apply pw_below_drewN | apply below_drew1 | refine below_set ?_ GE352.out) | exact HB.out))) : w.heap.size ≤ gb369))
                          have n9_ := Aside0.mk ((by rw [hg]; exact Nat.ne_of_lt (blk_lt (g := gb352) (o := .cells #[.slice Ao25 x353000_2.length co25, .int .i64 x353001_2, .slice Ao26 x353002_2.length co26] 24 (0, 0)) (pK BK352)) : gb352 ≠ gb369))
                          have n10_ := Aside0.mk ((by rw [hg]; exact Nat.ne_of_gt (blk_lt (g := gb352) (o := .cells #[.slice Ao25 x353000_2.length co25, .int .i64 x353001_2, .slice Ao26 x353002_2.length co26] 24 (0, 0)) (pK BK352)) : gb369 ≠ gb352))
                          clear HO_5
                          clear HO_353000
                          clear HO_353002
                          clear HO357
                          clear BK352
                          clear HB
                          have HO_5 := n0_
                          have HO_353000 := n1_
                          have HO_353002 := n2_
                          have HO357 := n3_
                          have BK352 := n4_
                          have HB := n5_
                          have BK369 := n6_
                          have GW369 := n7_
                          have GE369 := n8_
                          have NB352_369 := n9_
                          have NB369_352 := n10_
                          clear n0_ n1_ n2_ n3_ n4_ n5_ n6_ n7_ n8_ n9_ n10_
                          clear hb hbox hg
                          refine hK.out _ _ ⟨(blk_cell BK352.out 0).trans rfl, (blk_cell BK352.out 1).trans rfl, (blk_cell BK352.out 2).trans rfl, ((HB.out.cell (World.block_lt_of_cell? w _ hw358_0)).trans hw358_0)⟩ (fun hHeld => ?_)
                          clear hK K
                          refine norm_ (a' := ?_) ?_ ?_
                          rotate_left
                          · show Act.put _ (some 7) _ = _
                            simp only [Act.put, List.setIfInBounds_toArray, List.set_cons_zero, List.set_cons_succ, i64_w, i32_w]
                            rfl
                          refine one_ (i := 5) (N := some 49) #[true, true, true, true, true, true, false, false, false, true, false, false] rfl rfl (one_of HT_.out (by kernel_rfl)) (by decide) (fun K hK => ?_)
                          refine goes_ Try.func8 (by kernel_rfl) rfl #[.agg #[.slice Ao25 x353000_2.length co25, .int .i64 x353001_2, .slice Ao26 x353002_2.length co26], .slice A358_0 (rd_L2 l0 x6_2).length c358_0] (by rfl) rfl rfl pM ?_
                          with_reducible refine (packstream_Write.calls _ _ x353000_2 x353001_2 _ _ x353002_2 _ _ (rd_L2 l0 x6_2) t359 t362 t363 t366 _ ?side1 ?side2 ?side3 ?side4 ?side5 ?side6 A21.out).mono ?_
                          (case side1 => repeat (first | exact (Kd.R_reads' HO_353000.out).2.2 | (with_reducible refine Kd.C_alloc ?_ _) | (with_reducible refine Kd.C_drewN ?_ _) | (with_reducible refine Kd.C_drew ?_)))
                          (case side2 => exact (Kd.R_reads' HO_353000.out).2.1)
                          (case side3 => repeat (first | exact (Kd.R_reads' HO_353002.out).2.2 | (with_reducible refine Kd.C_alloc ?_ _) | (with_reducible refine Kd.C_drewN ?_ _) | (with_reducible refine Kd.C_drew ?_)))
                          (case side4 => exact (Kd.R_reads' HO_353002.out).2.1)
                          (case side5 => repeat (first | exact (Kd.C_below HR358_0.out HB.out) | (with_reducible refine Kd.C_alloc ?_ _) | (with_reducible refine Kd.C_drewN ?_ _) | (with_reducible refine Kd.C_drew ?_)))
                          (case side6 => exact HC358_0.out)
                          rintro e w29 ⟨v360, v364, v367, rfl, ho0, ho1, ho2, hb⟩
                          refine ⟨_, rfl, ?_⟩
                          have n0_ := Aside0.mk (Kd.R_mono (Kd.R_told (Kd.R_told (Kd.R_told (Kd.R_old (pR HO_5) hb) (Kd.R_base ho0)) (Kd.R_base ho1)) (Kd.R_base ho2)) (fun _ h_ => h_.1))
                          have n1_ := Aside0.mk (Kd.R_mono (Kd.R_told (Kd.R_told (Kd.R_told (Kd.R_old (pR HO_353000) hb) (Kd.R_base ho0)) (Kd.R_base ho1)) (Kd.R_base ho2)) (fun _ h_ => h_.1))
                          have n2_ := Aside0.mk (Kd.R_mono (Kd.R_told (Kd.R_told (Kd.R_told (Kd.R_old (pR HO_353002) hb) (Kd.R_base ho0)) (Kd.R_base ho1)) (Kd.R_base ho2)) (fun _ h_ => h_.1))
                          have n3_ := Aside0.mk (Kd.R_mono (Kd.R_told (Kd.R_told (Kd.R_told (Kd.R_old (pR HO357) hb) (Kd.R_base ho0)) (Kd.R_base ho1)) (Kd.R_base ho2)) (fun _ h_ => h_.1))
                          have n4_ := Aside0.mk (Kd.R_lower (Kd.R_new' (Kd.R_new' (Kd.R_new' (Kd.R_new' ho0 (Kd.R_lt (pR HO_5))) (Kd.R_lt (pR HO_353000))) (Kd.R_lt (pR HO_353002))) (Kd.R_lt (pR HO357))) (below_size (by repeat (first | (with_reducible first | exact HB.out | apply below_alloc | apply pw_below_drewN | apply below_drew1 | refine below_set ?_ GE352.out | refine below_set ?_ GE369.out) | exact HB.out))))
                          have n5_ := Aside0.mk (Kd.R_lower (Kd.R_new' (Kd.R_new' (Kd.R_new' (Kd.R_new' ho1 (Kd.R_lt (pR HO_5))) (Kd.R_lt (pR HO_353000))) (Kd.R_lt (pR HO_353002))) (Kd.R_lt (pR HO357))) (below_size (by repeat (first | (with_reducible first | exact HB.out | apply below_alloc | apply pw_below_drewN | apply below_drew1 | refine below_set ?_ GE352.out | refine below_set ?_ GE369.out) | exact HB.out))))
                          have n6_ := Aside0.mk (Kd.R_lower (Kd.R_new' (Kd.R_new' (Kd.R_new' (Kd.R_new' ho2 (Kd.R_lt (pR HO_5))) (Kd.R_lt (pR HO_353000))) (Kd.R_lt (pR HO_353002))) (Kd.R_lt (pR HO357))) (below_size (by repeat (first | (with_reducible first | exact HB.out | apply below_alloc | apply pw_below_drewN | apply below_drew1 | refine below_set ?_ GE352.out | refine below_set ?_ GE369.out) | exact HB.out))))
                          have n7_ := Aside0.mk (blk_below (g := gb352) (o := .cells #[.slice Ao25 x353000_2.length co25, .int .i64 x353001_2, .slice Ao26 x353002_2.length co26] 24 (0, 0)) (pK BK352) hb)
                          have n8_ := Aside0.mk (blk_below (g := gb369) (o := .cells #[.slice none 0 0, .int .i64 0, .slice none 0 0] 24 (0, 0)) (pK BK369) hb)
                          have n9_ := Aside0.mk (below_step (by repeat (first | (with_reducible first | exact HB.out | apply below_alloc | apply pw_below_drewN | apply below_drew1 | refine below_set ?_ GE352.out | refine below_set ?_ GE369.out) | exact HB.out)) hb)
                          clear HO_5
                          clear HO_353000
                          clear HO_353002
                          clear HO357
                          clear BK352
                          clear BK369
                          clear HB
                          have HO_5 := n0_
                          have HO_353000 := n1_
                          have HO_353002 := n2_
                          have HO357 := n3_
                          have HO361 := n4_
                          have HO365 := n5_
                          have HO368 := n6_
                          have BK352 := n7_
                          have BK369 := n8_
                          have HB := n9_
                          clear n0_ n1_ n2_ n3_ n4_ n5_ n6_ n7_ n8_ n9_
                          (try clear hb)
                          (try clear hb2)
                          (try clear hk)
                          (try clear hi)
                          (try clear ho0)
                          (try clear ho1)
                          (try clear ho2)
                          refine hK.out _ _ ⟨(blk_cell BK352.out 0).trans rfl, (blk_cell BK352.out 1).trans rfl, (blk_cell BK352.out 2).trans rfl, ((HB.out.cell (World.block_lt_of_cell? w _ hw358_0)).trans hw358_0)⟩ (fun hHeld => ?_)
                          clear hK K
                          refine norm_ (a' := ?_) ?_ ?_
                          rotate_left
                          · show Act.put _ (some 49) _ = _
                            simp only [Act.put, List.setIfInBounds_toArray, List.set_cons_zero, List.set_cons_succ, i64_w, i32_w]
                            rfl
                          refine pure_ (i := 6) (N := some 43) (v := ?_) (a' := ?_) #[true, true, true, true, true, true, true, false, false, true, false, false] rfl rfl (any_of HT_.out (by kernel_rfl)) (fun _ _ _ h => h) (Or.inl ⟨by rfl, ?_⟩) ?_ ?_
                          rotate_left
                          · intro w'
                            go_simp
                            with_reducible rfl
                          rotate_left
                          · simp only [Act.put, List.setIfInBounds_toArray, List.set_cons_zero, List.set_cons_succ, i64_w, i32_w]
                            rfl
                          refine pure_ (i := 7) (N := some 50) (v := ?_) (a' := ?_) #[true, true, true, true, true, true, true, true, false, true, false, false] rfl rfl (any_of HT_.out (by kernel_rfl)) (fun _ _ _ h => h) (Or.inl ⟨by rfl, ?_⟩) ?_ ?_
                          rotate_left
                          · intro w'
                            go_simp
                            with_reducible rfl
                          rotate_left
                          · simp only [Act.put, List.setIfInBounds_toArray, List.set_cons_zero, List.set_cons_succ, i64_w, i32_w]
                            rfl
                          refine pure_ (i := 8) (N := some 51) (v := ?_) (a' := ?_) #[true, true, true, true, true, true, true, true, true, true, false, false] rfl rfl (any_of HT_.out (by kernel_rfl)) (fun _ _ _ h => h) (Or.inl ⟨by rfl, ?_⟩) ?_ ?_
                          rotate_left
                          · intro w'
                            go_simp
                            with_reducible rfl
                          rotate_left
                          · simp only [Act.put, List.setIfInBounds_toArray, List.set_cons_zero, List.set_cons_succ, i64_w, i32_w]
                            rfl
                          exact norm_ (by simp only [putAll, Act.put, List.setIfInBounds_toArray, List.set_cons_zero, List.set_cons_succ]) (hCont (v360, v364, v367, gb369) _ ⟨hHeld, (by (with_reducible repeat (first | apply Kd.R_alloc | apply Kd.R_drewN | apply Kd.R_drew)); exact Kd.R_mono HO357.out (fun _ hk => ⟨hk.1.1.2, ⟨hk.1.2, ⟨hk.2, ⟨hk.1.1.1.2.1, ⟨hk.1.1.1.2.2, hk.1.1.1.1⟩⟩⟩⟩⟩)), (by (with_reducible repeat (first | apply Kd.R_alloc | apply Kd.R_drewN | apply Kd.R_drew)); exact Kd.R_mono HO361.out (fun _ hk => ⟨hk.2, ⟨hk.1.1.1.1.1, ⟨hk.1.1.1.1.2, ⟨hk.1.1.2, ⟨hk.1.2, hk.1.1.1.2⟩⟩⟩⟩⟩)), (by (with_reducible repeat (first | apply Kd.R_alloc | apply Kd.R_drewN | apply Kd.R_drew)); exact Kd.R_mono HO365.out (fun _ hk => ⟨hk.2, ⟨hk.1.1.1.1.1, ⟨hk.1.1.1.1.2, ⟨hk.1.1.2, ⟨hk.1.2, hk.1.1.1.2⟩⟩⟩⟩⟩)), (by (with_reducible repeat (first | apply Kd.R_alloc | apply Kd.R_drewN | apply Kd.R_drew)); exact Kd.R_mono HO368.out (fun _ hk => ⟨hk.2, ⟨hk.1.1.1.1.1, ⟨hk.1.1.1.1.2, ⟨hk.1.1.2, ⟨hk.1.2, hk.1.1.1.2⟩⟩⟩⟩⟩)), (by (with_reducible repeat (first | apply Kd.R_alloc | apply Kd.R_drewN | apply Kd.R_drew)); exact Kd.R_mono HO_353000.out (fun _ hk => ⟨hk.1.1.1.2, ⟨hk.1.1.2, ⟨hk.1.2, ⟨hk.2, ⟨hk.1.1.1.1.2, hk.1.1.1.1.1⟩⟩⟩⟩⟩)), (by (with_reducible repeat (first | apply Kd.R_alloc | apply Kd.R_drewN | apply Kd.R_drew)); exact Kd.R_mono HO_353002.out (fun _ hk => ⟨hk.1.1.1.2, ⟨hk.1.1.2, ⟨hk.1.2, ⟨hk.2, ⟨hk.1.1.1.1.2, hk.1.1.1.1.1⟩⟩⟩⟩⟩)), (by (with_reducible repeat (first | apply Kd.R_alloc | apply Kd.R_drewN | apply Kd.R_drew)); exact Kd.R_mono HO_5.out (fun _ hk => ⟨hk.1.1.1.2, ⟨hk.1.1.2, ⟨hk.1.2, ⟨hk.2, ⟨hk.1.1.1.1.1, hk.1.1.1.1.2⟩⟩⟩⟩⟩)), (pK BK352), (pK BK369), GW369.out, GE369.out, NB352_369.out, NB369_352.out, (by repeat (first | (with_reducible first | exact HB.out | apply below_alloc | apply pw_below_drewN | apply below_drew1 | refine below_set ?_ GE352.out | refine below_set ?_ GE369.out) | exact HB.out))⟩)
                      rintro ⟨v360, v364, v367, gb369⟩ w30 ⟨hS_, h0_, h1_, h2_, h3_, h4_, h5_, h6_, h7_, h8_, h9_, h10_, h11_, h12_, h13_⟩
                      have n0_ : Aside0 (Kd.R (Kd.int .u8) 5 w30 w.heap.size (fun k_ => some k_ ≠ (v360 : Value).ownBlock ∧ some k_ ≠ (v364 : Value).ownBlock ∧ some k_ ≠ (v367 : Value).ownBlock ∧ some k_ ≠ (.slice Ao25 x353000_2.length co25 : Value).ownBlock ∧ some k_ ≠ (.slice Ao26 x353002_2.length co26 : Value).ownBlock ∧ some k_ ≠ (u5 : Value).ownBlock) v356 y355) := ⟨h0_⟩
                      have n1_ : Aside0 (Kd.R (Kd.int .u8) 5 w30 w.heap.size (fun k_ => some k_ ≠ (v356 : Value).ownBlock ∧ some k_ ≠ (v364 : Value).ownBlock ∧ some k_ ≠ (v367 : Value).ownBlock ∧ some k_ ≠ (.slice Ao25 x353000_2.length co25 : Value).ownBlock ∧ some k_ ≠ (.slice Ao26 x353002_2.length co26 : Value).ownBlock ∧ some k_ ≠ (u5 : Value).ownBlock) v360 t359) := ⟨h1_⟩
                      have n2_ : Aside0 (Kd.R (Kd.int .u8) 5 w30 w.heap.size (fun k_ => some k_ ≠ (v356 : Value).ownBlock ∧ some k_ ≠ (v360 : Value).ownBlock ∧ some k_ ≠ (v367 : Value).ownBlock ∧ some k_ ≠ (.slice Ao25 x353000_2.length co25 : Value).ownBlock ∧ some k_ ≠ (.slice Ao26 x353002_2.length co26 : Value).ownBlock ∧ some k_ ≠ (u5 : Value).ownBlock) v364 t363) := ⟨h2_⟩
                      have n3_ : Aside0 (Kd.R (Kd.int .u8) 5 w30 w.heap.size (fun k_ => some k_ ≠ (v356 : Value).ownBlock ∧ some k_ ≠ (v360 : Value).ownBlock ∧ some k_ ≠ (v364 : Value).ownBlock ∧ some k_ ≠ (.slice Ao25 x353000_2.length co25 : Value).ownBlock ∧ some k_ ≠ (.slice Ao26 x353002_2.length co26 : Value).ownBlock ∧ some k_ ≠ (u5 : Value).ownBlock) v367 t366) := ⟨h3_⟩
                      have n4_ : Aside0 (Kd.R (Kd.int .u8) 5 w30 w.heap.size (fun k_ => some k_ ≠ (v356 : Value).ownBlock ∧ some k_ ≠ (v360 : Value).ownBlock ∧ some k_ ≠ (v364 : Value).ownBlock ∧ some k_ ≠ (v367 : Value).ownBlock ∧ some k_ ≠ (.slice Ao26 x353002_2.length co26 : Value).ownBlock ∧ some k_ ≠ (u5 : Value).ownBlock) (.slice Ao25 x353000_2.length co25) x353000_2) := ⟨h4_⟩
                      have n5_ : Aside0 (Kd.R (Kd.int .u8) 5 w30 w.heap.size (fun k_ => some k_ ≠ (v356 : Value).ownBlock ∧ some k_ ≠ (v360 : Value).ownBlock ∧ some k_ ≠ (v364 : Value).ownBlock ∧ some k_ ≠ (v367 : Value).ownBlock ∧ some k_ ≠ (.slice Ao25 x353000_2.length co25 : Value).ownBlock ∧ some k_ ≠ (u5 : Value).ownBlock) (.slice Ao26 x353002_2.length co26) x353002_2) := ⟨h5_⟩
                      have n6_ : Aside0 (Kd.R (Kd.int .u8) 5 w30 w.heap.size (fun k_ => some k_ ≠ (v356 : Value).ownBlock ∧ some k_ ≠ (v360 : Value).ownBlock ∧ some k_ ≠ (v364 : Value).ownBlock ∧ some k_ ≠ (v367 : Value).ownBlock ∧ some k_ ≠ (.slice Ao25 x353000_2.length co25 : Value).ownBlock ∧ some k_ ≠ (.slice Ao26 x353002_2.length co26 : Value).ownBlock) u5 x5_2) := ⟨h6_⟩
                      have n7_ : Aside0 (w30.heap[gb352]? = some (.cells #[.slice Ao25 x353000_2.length co25, .int .i64 x353001_2, .slice Ao26 x353002_2.length co26] 24 (0, 0))) := ⟨h7_⟩
                      have n8_ : Aside0 (w30.heap[gb369]? = some (.cells #[.slice none 0 0, .int .i64 0, .slice none 0 0] 24 (0, 0))) := ⟨h8_⟩
                      have n9_ : Aside0 (w.heap.size ≤ gb369) := ⟨h9_⟩
                      have n10_ : Aside0 (w.heap.size ≤ gb369) := ⟨h10_⟩
                      have n11_ : Aside0 (gb352 ≠ gb369) := ⟨h11_⟩
                      have n12_ : Aside0 (gb369 ≠ gb352) := ⟨h12_⟩
                      have n13_ : Aside0 (Below w.heap.size w w30) := ⟨h13_⟩
                      clear HO_5
                      clear HO_353000
                      clear HO_353002
                      clear HO357
                      clear BK352
                      clear HB
                      clear h0_ h1_ h2_ h3_ h4_ h5_ h6_ h7_ h8_ h9_ h10_ h11_ h12_ h13_
                      have HO357 := n0_
                      have HO361 := n1_
                      have HO365 := n2_
                      have HO368 := n3_
                      have HO_353000 := n4_
                      have HO_353002 := n5_
                      have HO_5 := n6_
                      have BK352 := n7_
                      have BK369 := n8_
                      have GW369 := n9_
                      have GE369 := n10_
                      have NB352_369 := n11_
                      have NB369_352 := n12_
                      have HB := n13_
                      clear n0_ n1_ n2_ n3_ n4_ n5_ n6_ n7_ n8_ n9_ n10_ n11_ n12_ n13_
                      have hHeld : w30.cell? ⟨gb352, 0, none⟩ = some (.slice Ao25 x353000_2.length co25) ∧ w30.cell? ⟨gb352, 1, none⟩ = some (.int .i64 x353001_2) ∧ w30.cell? ⟨gb352, 2, none⟩ = some (.slice Ao26 x353002_2.length co26) ∧ w30.cell? (ad353.add (x6_2).toNat) = some (.slice A358_0 (rd_L2 l0 x6_2).length c358_0) := hS_
                      obtain ⟨Ao31, co31, eo31⟩ := Kd.R_slice HO361.out
                      (first | subst eo31 | (injection eo31 with f1_ f2_ f3_; have f4_ := f1_.symm; have f5_ := f3_.symm; clear f1_ f2_ f3_; subst f4_; subst f5_))
                      obtain ⟨Ao34, co34, eo34⟩ := Kd.R_slice HO365.out
                      (first | subst eo34 | (injection eo34 with f1_ f2_ f3_; have f4_ := f1_.symm; have f5_ := f3_.symm; clear f1_ f2_ f3_; subst f4_; subst f5_))
                      refine norm_ (a' := ?_) ?_ ?_
                      rotate_left
                      · simp only [putAll, Act.put, List.setIfInBounds_toArray, List.set_cons_zero, List.set_cons_succ]
                        rfl
                      refine one_ (i := 10) (N := none) #[true, true, true, true, true, true, true, true, true, true, true, false] rfl rfl (one_of HT_.out (by kernel_rfl)) (by decide) (fun K hK => ?_)
                      have hs32 : w30.cell? ⟨gb369, 0, none⟩ = some (.slice none 0 0) := (blk_cell BK369.out 0).trans rfl
                      have hfs32 := blk_frozen BK369.out 0
                      have hns32_0 := NB352_369.out
                      have hms32_0 := NB369_352.out
                      have hs33 : w30.cell? ⟨gb369, 1, none⟩ = some (.int .i64 0) := (blk_cell BK369.out 1).trans rfl
                      have hfs33 := blk_frozen BK369.out 1
                      have hns33_0 := NB352_369.out
                      have hms33_0 := NB369_352.out
                      have hs35 : w30.cell? ⟨gb369, 2, none⟩ = some (.slice none 0 0) := (blk_cell BK369.out 2).trans rfl
                      have hfs35 := blk_frozen BK369.out 2
                      have hns35_0 := NB352_369.out
                      have hms35_0 := NB369_352.out
                      refine skip_ (w1 := ?_) (by rfl) rfl ?_ ?_
                      rotate_left
                      · go_simp
                        rfl
                      refine hK.out _ _ ⟨((cell_far (p := ⟨gb369, _, none⟩) NB352_369.out _).trans (((cell_far (p := ⟨gb369, _, none⟩) NB352_369.out _).trans (((cell_far (p := ⟨gb369, _, none⟩) NB352_369.out _).trans (hHeld.1)))))), ((cell_far (p := ⟨gb369, _, none⟩) NB352_369.out _).trans (((cell_far (p := ⟨gb369, _, none⟩) NB352_369.out _).trans (((cell_far (p := ⟨gb369, _, none⟩) NB352_369.out _).trans (hHeld.2.1)))))), ((cell_far (p := ⟨gb369, _, none⟩) NB352_369.out _).trans (((cell_far (p := ⟨gb369, _, none⟩) NB352_369.out _).trans (((cell_far (p := ⟨gb369, _, none⟩) NB352_369.out _).trans (hHeld.2.2.1)))))), ((cell_far (p := ⟨gb369, _, none⟩) (by first | exact Nat.ne_of_lt (Nat.lt_of_lt_of_le (by have := World.block_lt_of_cell? _ _ hw358_0; first | rwa [add_block] at this | exact this) GW369.out) | (rw [add_block]; exact Nat.ne_of_lt (Nat.lt_of_lt_of_le (by have := World.block_lt_of_cell? _ _ hw358_0; first | rwa [add_block] at this | exact this) GW369.out)) | (show (Addr.add _ _).block ≠ _; rw [add_block]; exact Nat.ne_of_lt (Nat.lt_of_lt_of_le (by have := World.block_lt_of_cell? _ _ hw358_0; first | rwa [add_block] at this | exact this) GW369.out)) | (dsimp only; exact Nat.ne_of_lt (Nat.lt_of_lt_of_le (by have := World.block_lt_of_cell? _ _ hw358_0; first | rwa [add_block] at this | exact this) GW369.out))) _).trans (((cell_far (p := ⟨gb369, _, none⟩) (by first | exact Nat.ne_of_lt (Nat.lt_of_lt_of_le (by have := World.block_lt_of_cell? _ _ hw358_0; first | rwa [add_block] at this | exact this) GW369.out) | (rw [add_block]; exact Nat.ne_of_lt (Nat.lt_of_lt_of_le (by have := World.block_lt_of_cell? _ _ hw358_0; first | rwa [add_block] at this | exact this) GW369.out)) | (show (Addr.add _ _).block ≠ _; rw [add_block]; exact Nat.ne_of_lt (Nat.lt_of_lt_of_le (by have := World.block_lt_of_cell? _ _ hw358_0; first | rwa [add_block] at this | exact this) GW369.out)) | (dsimp only; exact Nat.ne_of_lt (Nat.lt_of_lt_of_le (by have := World.block_lt_of_cell? _ _ hw358_0; first | rwa [add_block] at this | exact this) GW369.out))) _).trans (((cell_far (p := ⟨gb369, _, none⟩) (by first | exact Nat.ne_of_lt (Nat.lt_of_lt_of_le (by have := World.block_lt_of_cell? _ _ hw358_0; first | rwa [add_block] at this | exact this) GW369.out) | (rw [add_block]; exact Nat.ne_of_lt (Nat.lt_of_lt_of_le (by have := World.block_lt_of_cell? _ _ hw358_0; first | rwa [add_block] at this | exact this) GW369.out)) | (show (Addr.add _ _).block ≠ _; rw [add_block]; exact Nat.ne_of_lt (Nat.lt_of_lt_of_le (by have := World.block_lt_of_cell? _ _ hw358_0; first | rwa [add_block] at this | exact this) GW369.out)) | (dsimp only; exact Nat.ne_of_lt (Nat.lt_of_lt_of_le (by have := World.block_lt_of_cell? _ _ hw358_0; first | rwa [add_block] at this | exact this) GW369.out))) _).trans (hHeld.2.2.2))))))⟩ (fun hHeld => ?_)
                      clear hK K
                      refine pure_ (i := 11) (N := some 8) (v := ?_) (a' := ?_) #[true, true, true, true, true, true, true, true, true, true, true, true] rfl rfl (any_of HT_.out (by kernel_rfl)) (fun _ _ _ h => h) (Or.inl ⟨by rfl, ?_⟩) ?_ ?_
                      rotate_left
                      · intro w'
                        go_simp
                        with_reducible rfl
                      rotate_left
                      · simp only [Act.put, List.setIfInBounds_toArray, List.set_cons_zero, List.set_cons_succ, i64_w, i32_w]
                        rfl
                      refine done_ (done_of HT_.out (by kernel_rfl)) ?_
                      have hnb36 := NB369_352.out
                      have hnc36 := NB352_369.out
                      have hcz37_0 : w30.cell? ⟨gb369, 0, none⟩ = some (.slice none 0 0) := (blk_cell BK369.out 0).trans rfl
                      have hcz37_1 : w30.cell? ⟨gb369, 1, none⟩ = some (.int .i64 0) := (blk_cell BK369.out 1).trans rfl
                      have hcz37_2 : w30.cell? ⟨gb369, 2, none⟩ = some (.slice none 0 0) := (blk_cell BK369.out 2).trans rfl
                      have hfz37_0 := blk_frozen BK369.out 0
                      have hfz37_1 := blk_frozen BK369.out 1
                      have hfz37_2 := blk_frozen BK369.out 2
                      have hcz38_0 : w30.cell? ⟨gb352, 0, none⟩ = some (.slice Ao25 x353000_2.length co25) := (blk_cell BK352.out 0).trans rfl
                      have hcz38_1 : w30.cell? ⟨gb352, 1, none⟩ = some (.int .i64 x353001_2) := (blk_cell BK352.out 1).trans rfl
                      have hcz38_2 : w30.cell? ⟨gb352, 2, none⟩ = some (.slice Ao26 x353002_2.length co26) := (blk_cell BK352.out 2).trans rfl
                      have hfz38_0 := blk_frozen BK352.out 0
                      have hfz38_1 := blk_frozen BK352.out 1
                      have hfz38_2 := blk_frozen BK352.out 2
                      obtain ⟨Ao40, co40, eo40⟩ := Kd.R_slice HO368.out
                      subst eo40
                      try go_wp2_with (first | ((with_reducible refine gate_builtin (b := .append) (xs := #[.tmp 53, .tmp 54]) rfl ?_); (try (refine gate_guard (by rfl) ?_; dsimp only)); at_builtin; refine Kd.R_append_rows (Kd.int .u8) (w0 := w) w.heap.size rfl (.tmp 53) (.tmp 54) 22 5 (.int .u8 0) 1 rfl Try.underlying22 info5 rfl (by decide) (by omega) u5 x5_2 t366 _ _ _ (fun k_ => some k_ ≠ (.slice Ao25 x353000_2.length co25 : Value).ownBlock ∧ some k_ ≠ (.slice Ao26 x353002_2.length co26 : Value).ownBlock ∧ some k_ ≠ (v356 : Value).ownBlock ∧ some k_ ≠ (.slice Ao31 t359.length co31 : Value).ownBlock ∧ some k_ ≠ (.slice Ao34 t363.length co34 : Value).ownBlock ∧ some k_ ≠ (.slice Ao40 t366.length co40 : Value).ownBlock) (fun _ => False) rfl rfl ?aO ?aR (fun _ _ h => h) (fun _ h => h.elim) ?aF ?aB ?aS ?aL ?_; (case aR => refine (Kd.R_reads' (e := 5) (base := w.heap.size) (ok := fun k_ => (some k_ ≠ (v356 : Value).ownBlock ∧ (some k_ ≠ (.slice Ao31 t359.length co31 : Value).ownBlock ∧ (some k_ ≠ (.slice Ao34 t363.length co34 : Value).ownBlock ∧ (some k_ ≠ (.slice Ao25 x353000_2.length co25 : Value).ownBlock ∧ (some k_ ≠ (.slice Ao26 x353002_2.length co26 : Value).ownBlock ∧ some k_ ≠ (u5 : Value).ownBlock)))))) (n := t366.length) (c := co40) ?_).2.2; exact (by (with_reducible repeat (first | apply Kd.R_alloc | apply Kd.R_drewN | apply Kd.R_drew)); exact (Kd.R_mono (Kd.R_mono (Kd.R_far (p := ⟨gb352, 2, none⟩) (Kd.R_far (p := ⟨gb352, 1, none⟩) (Kd.R_far (p := ⟨gb352, 0, none⟩) (Kd.R_far (p := ⟨gb369, 2, none⟩) (Kd.R_far (p := ⟨gb369, 1, none⟩) (Kd.R_far (p := ⟨gb369, 0, none⟩) (Kd.R_types (Kd.R_types HO368.out BK369.out (by decide)) BK352.out (by decide)) (fun _ hk => hk.1.2) (.slice Ao31 t359.length co31)) (fun _ hk => hk.1.2) (.int .i64 t362)) (fun _ hk => hk.1.2) (.slice Ao34 t363.length co34)) (fun _ hk => hk.2) (.slice Ao31 t359.length co31)) (fun _ hk => hk.2) (.int .i64 t362)) (fun _ hk => hk.2) (.slice Ao34 t363.length co34)) (fun _ h_ => h_.1)) (fun _ h_ => h_.1)))); (case aB => exact (by repeat (first | (with_reducible first | exact HB.out | apply below_alloc | apply pw_below_drewN | apply below_drew1 | refine below_set ?_ GE352.out | refine below_set ?_ GE369.out) | exact HB.out))); (case aF => exact (fun k_ hk => ⟨Kd.fresh' (Kd.R_lt (by (with_reducible repeat (first | apply Kd.R_alloc | apply Kd.R_drewN | apply Kd.R_drew)); exact (Kd.R_mono (Kd.R_mono (Kd.R_far (p := ⟨gb352, 2, none⟩) (Kd.R_far (p := ⟨gb352, 1, none⟩) (Kd.R_far (p := ⟨gb352, 0, none⟩) (Kd.R_far (p := ⟨gb369, 2, none⟩) (Kd.R_far (p := ⟨gb369, 1, none⟩) (Kd.R_far (p := ⟨gb369, 0, none⟩) (Kd.R_types (Kd.R_types HO_353000.out BK369.out (by decide)) BK352.out (by decide)) (fun _ hk => hk.1.2) (.slice Ao31 t359.length co31)) (fun _ hk => hk.1.2) (.int .i64 t362)) (fun _ hk => hk.1.2) (.slice Ao34 t363.length co34)) (fun _ hk => hk.2) (.slice Ao31 t359.length co31)) (fun _ hk => hk.2) (.int .i64 t362)) (fun _ hk => hk.2) (.slice Ao34 t363.length co34)) (fun _ h_ => h_.1)) (fun _ h_ => h_.1)))) k_ hk, Kd.fresh' (Kd.R_lt (by (with_reducible repeat (first | apply Kd.R_alloc | apply Kd.R_drewN | apply Kd.R_drew)); exact (Kd.R_mono (Kd.R_mono (Kd.R_far (p := ⟨gb352, 2, none⟩) (Kd.R_far (p := ⟨gb352, 1, none⟩) (Kd.R_far (p := ⟨gb352, 0, none⟩) (Kd.R_far (p := ⟨gb369, 2, none⟩) (Kd.R_far (p := ⟨gb369, 1, none⟩) (Kd.R_far (p := ⟨gb369, 0, none⟩) (Kd.R_types (Kd.R_types HO_353002.out BK369.out (by decide)) BK352.out (by decide)) (fun _ hk => hk.1.2) (.slice Ao31 t359.length co31)) (fun _ hk => hk.1.2) (.int .i64 t362)) (fun _ hk => hk.1.2) (.slice Ao34 t363.length co34)) (fun _ hk => hk.2) (.slice Ao31 t359.length co31)) (fun _ hk => hk.2) (.int .i64 t362)) (fun _ hk => hk.2) (.slice Ao34 t363.length co34)) (fun _ h_ => h_.1)) (fun _ h_ => h_.1)))) k_ hk, Kd.fresh' (Kd.R_lt (by (with_reducible repeat (first | apply Kd.R_alloc | apply Kd.R_drewN | apply Kd.R_drew)); exact (Kd.R_mono (Kd.R_mono (Kd.R_far (p := ⟨gb352, 2, none⟩) (Kd.R_far (p := ⟨gb352, 1, none⟩) (Kd.R_far (p := ⟨gb352, 0, none⟩) (Kd.R_far (p := ⟨gb369, 2, none⟩) (Kd.R_far (p := ⟨gb369, 1, none⟩) (Kd.R_far (p := ⟨gb369, 0, none⟩) (Kd.R_types (Kd.R_types HO357.out BK369.out (by decide)) BK352.out (by decide)) (fun _ hk => hk.1.2) (.slice Ao31 t359.length co31)) (fun _ hk => hk.1.2) (.int .i64 t362)) (fun _ hk => hk.1.2) (.slice Ao34 t363.length co34)) (fun _ hk => hk.2) (.slice Ao31 t359.length co31)) (fun _ hk => hk.2) (.int .i64 t362)) (fun _ hk => hk.2) (.slice Ao34 t363.length co34)) (fun _ h_ => h_.1)) (fun _ h_ => h_.1)))) k_ hk, Kd.fresh' (Kd.R_lt (by (with_reducible repeat (first | apply Kd.R_alloc | apply Kd.R_drewN | apply Kd.R_drew)); exact (Kd.R_mono (Kd.R_mono (Kd.R_far (p := ⟨gb352, 2, none⟩) (Kd.R_far (p := ⟨gb352, 1, none⟩) (Kd.R_far (p := ⟨gb352, 0, none⟩) (Kd.R_far (p := ⟨gb369, 2, none⟩) (Kd.R_far (p := ⟨gb369, 1, none⟩) (Kd.R_far (p := ⟨gb369, 0, none⟩) (Kd.R_types (Kd.R_types HO361.out BK369.out (by decide)) BK352.out (by decide)) (fun _ hk => hk.1.2) (.slice Ao31 t359.length co31)) (fun _ hk => hk.1.2) (.int .i64 t362)) (fun _ hk => hk.1.2) (.slice Ao34 t363.length co34)) (fun _ hk => hk.2) (.slice Ao31 t359.length co31)) (fun _ hk => hk.2) (.int .i64 t362)) (fun _ hk => hk.2) (.slice Ao34 t363.length co34)) (fun _ h_ => h_.1)) (fun _ h_ => h_.1)))) k_ hk, Kd.fresh' (Kd.R_lt (by (with_reducible repeat (first | apply Kd.R_alloc | apply Kd.R_drewN | apply Kd.R_drew)); exact (Kd.R_mono (Kd.R_mono (Kd.R_far (p := ⟨gb352, 2, none⟩) (Kd.R_far (p := ⟨gb352, 1, none⟩) (Kd.R_far (p := ⟨gb352, 0, none⟩) (Kd.R_far (p := ⟨gb369, 2, none⟩) (Kd.R_far (p := ⟨gb369, 1, none⟩) (Kd.R_far (p := ⟨gb369, 0, none⟩) (Kd.R_types (Kd.R_types HO365.out BK369.out (by decide)) BK352.out (by decide)) (fun _ hk => hk.1.2) (.slice Ao31 t359.length co31)) (fun _ hk => hk.1.2) (.int .i64 t362)) (fun _ hk => hk.1.2) (.slice Ao34 t363.length co34)) (fun _ hk => hk.2) (.slice Ao31 t359.length co31)) (fun _ hk => hk.2) (.int .i64 t362)) (fun _ hk => hk.2) (.slice Ao34 t363.length co34)) (fun _ h_ => h_.1)) (fun _ h_ => h_.1)))) k_ hk, Kd.fresh' (Kd.R_lt (by (with_reducible repeat (first | apply Kd.R_alloc | apply Kd.R_drewN | apply Kd.R_drew)); exact (Kd.R_mono (Kd.R_mono (Kd.R_far (p := ⟨gb352, 2, none⟩) (Kd.R_far (p := ⟨gb352, 1, none⟩) (Kd.R_far (p := ⟨gb352, 0, none⟩) (Kd.R_far (p := ⟨gb369, 2, none⟩) (Kd.R_far (p := ⟨gb369, 1, none⟩) (Kd.R_far (p := ⟨gb369, 0, none⟩) (Kd.R_types (Kd.R_types HO368.out BK369.out (by decide)) BK352.out (by decide)) (fun _ hk => hk.1.2) (.slice Ao31 t359.length co31)) (fun _ hk => hk.1.2) (.int .i64 t362)) (fun _ hk => hk.1.2) (.slice Ao34 t363.length co34)) (fun _ hk => hk.2) (.slice Ao31 t359.length co31)) (fun _ hk => hk.2) (.int .i64 t362)) (fun _ hk => hk.2) (.slice Ao34 t363.length co34)) (fun _ h_ => h_.1)) (fun _ h_ => h_.1)))) k_ hk⟩)); (case aO => exact (by (with_reducible repeat (first | apply Kd.R_alloc | apply Kd.R_drewN | apply Kd.R_drew)); exact Kd.R_mono (Kd.R_far (p := ⟨gb352, 2, none⟩) (Kd.R_far (p := ⟨gb352, 1, none⟩) (Kd.R_far (p := ⟨gb352, 0, none⟩) (Kd.R_far (p := ⟨gb369, 2, none⟩) (Kd.R_far (p := ⟨gb369, 1, none⟩) (Kd.R_far (p := ⟨gb369, 0, none⟩) (Kd.R_types (Kd.R_types HO_5.out BK369.out (by decide)) BK352.out (by decide)) (fun _ hk => hk.1.2) (.slice Ao31 t359.length co31)) (fun _ hk => hk.1.2) (.int .i64 t362)) (fun _ hk => hk.1.2) (.slice Ao34 t363.length co34)) (fun _ hk => hk.2) (.slice Ao31 t359.length co31)) (fun _ hk => hk.2) (.int .i64 t362)) (fun _ hk => hk.2) (.slice Ao34 t363.length co34)) (fun _ hk => ⟨hk.1.1.2.2.2.2.1, ⟨hk.1.1.2.2.2.2.2, ⟨hk.1.1.1, ⟨hk.1.1.2.1, ⟨hk.1.1.2.2.1, hk.1.1.2.2.2.1⟩⟩⟩⟩⟩))); (case aS => exact (below_size (by repeat (first | (with_reducible first | exact HB.out | apply below_alloc | apply pw_below_drewN | apply below_drew1 | refine below_set ?_ GE352.out | refine below_set ?_ GE369.out) | exact HB.out)))); (case aL => have := LMc22.out; omega); intro v371 w39 ho hb hg hat; rw [← Ny370.out] at ho; have n0_ := Aside0.mk (Kd.R_after (ok := (fun k_ => some k_ ≠ (.slice Ao26 x353002_2.length co26 : Value).ownBlock ∧ some k_ ≠ (v356 : Value).ownBlock ∧ some k_ ≠ (.slice Ao31 t359.length co31 : Value).ownBlock ∧ some k_ ≠ (.slice Ao34 t363.length co34 : Value).ownBlock ∧ some k_ ≠ (.slice Ao40 t366.length co40 : Value).ownBlock)) (by (with_reducible repeat (first | apply Kd.R_alloc | apply Kd.R_drewN | apply Kd.R_drew)); exact Kd.R_mono (Kd.R_far (p := ⟨gb352, 2, none⟩) (Kd.R_far (p := ⟨gb352, 1, none⟩) (Kd.R_far (p := ⟨gb352, 0, none⟩) (Kd.R_far (p := ⟨gb369, 2, none⟩) (Kd.R_far (p := ⟨gb369, 1, none⟩) (Kd.R_far (p := ⟨gb369, 0, none⟩) (Kd.R_types (Kd.R_types HO_353000.out BK369.out (by decide)) BK352.out (by decide)) (fun _ hk => hk.1.2) (.slice Ao31 t359.length co31)) (fun _ hk => hk.1.2) (.int .i64 t362)) (fun _ hk => hk.1.2) (.slice Ao34 t363.length co34)) (fun _ hk => hk.2) (.slice Ao31 t359.length co31)) (fun _ hk => hk.2) (.int .i64 t362)) (fun _ hk => hk.2) (.slice Ao34 t363.length co34)) (fun _ hk => ⟨⟨hk.1.1.2.2.2.2.1, ⟨hk.1.1.1, ⟨hk.1.1.2.1, ⟨hk.1.1.2.2.1, hk.1.1.2.2.2.1⟩⟩⟩⟩, hk.1.1.2.2.2.2.2⟩)) hg hat); have n1_ := Aside0.mk (Kd.R_after (ok := (fun k_ => some k_ ≠ (.slice Ao25 x353000_2.length co25 : Value).ownBlock ∧ some k_ ≠ (v356 : Value).ownBlock ∧ some k_ ≠ (.slice Ao31 t359.length co31 : Value).ownBlock ∧ some k_ ≠ (.slice Ao34 t363.length co34 : Value).ownBlock ∧ some k_ ≠ (.slice Ao40 t366.length co40 : Value).ownBlock)) (by (with_reducible repeat (first | apply Kd.R_alloc | apply Kd.R_drewN | apply Kd.R_drew)); exact Kd.R_mono (Kd.R_far (p := ⟨gb352, 2, none⟩) (Kd.R_far (p := ⟨gb352, 1, none⟩) (Kd.R_far (p := ⟨gb352, 0, none⟩) (Kd.R_far (p := ⟨gb369, 2, none⟩) (Kd.R_far (p := ⟨gb369, 1, none⟩) (Kd.R_far (p := ⟨gb369, 0, none⟩) (Kd.R_types (Kd.R_types HO_353002.out BK369.out (by decide)) BK352.out (by decide)) (fun _ hk => hk.1.2) (.slice Ao31 t359.length co31)) (fun _ hk => hk.1.2) (.int .i64 t362)) (fun _ hk => hk.1.2) (.slice Ao34 t363.length co34)) (fun _ hk => hk.2) (.slice Ao31 t359.length co31)) (fun _ hk => hk.2) (.int .i64 t362)) (fun _ hk => hk.2) (.slice Ao34 t363.length co34)) (fun _ hk => ⟨⟨hk.1.1.2.2.2.2.1, ⟨hk.1.1.1, ⟨hk.1.1.2.1, ⟨hk.1.1.2.2.1, hk.1.1.2.2.2.1⟩⟩⟩⟩, hk.1.1.2.2.2.2.2⟩)) hg hat); have n2_ := Aside0.mk (blk_grown (g := gb352) (o := .cells #[.slice Ao31 t359.length co31, .int .i64 t362, .slice Ao34 t363.length co34] 24 (0, 0)) (by (with_reducible repeat (first | refine blk_drewN ?_ _ | refine blk_drew ?_ | refine blk_alloc ?_ _)); refine blk_put (cs := #[.slice Ao31 t359.length co31, .int .i64 t362, .slice Ao26 x353002_2.length co26]) ?_ 2 _ rfl; (with_reducible repeat (first | refine blk_drewN ?_ _ | refine blk_drew ?_ | refine blk_alloc ?_ _)); refine blk_put (cs := #[.slice Ao31 t359.length co31, .int .i64 x353001_2, .slice Ao26 x353002_2.length co26]) ?_ 1 _ rfl; (with_reducible repeat (first | refine blk_drewN ?_ _ | refine blk_drew ?_ | refine blk_alloc ?_ _)); refine blk_put (cs := #[.slice Ao25 x353000_2.length co25, .int .i64 x353001_2, .slice Ao26 x353002_2.length co26]) ?_ 0 _ rfl; (with_reducible repeat (first | refine blk_drewN ?_ _ | refine blk_drew ?_ | refine blk_alloc ?_ _)); refine blk_far ?_ NB352_369.out _; (with_reducible repeat (first | refine blk_drewN ?_ _ | refine blk_drew ?_ | refine blk_alloc ?_ _)); refine blk_far ?_ NB352_369.out _; (with_reducible repeat (first | refine blk_drewN ?_ _ | refine blk_drew ?_ | refine blk_alloc ?_ _)); refine blk_far ?_ NB352_369.out _; (with_reducible repeat (first | refine blk_drewN ?_ _ | refine blk_drew ?_ | refine blk_alloc ?_ _)); exact BK352.out) hg (Kd.R_ne HO_5.out BK352.out (by decide))); have n3_ := Aside0.mk (Kd.R_after (ok := (fun k_ => some k_ ≠ (.slice Ao25 x353000_2.length co25 : Value).ownBlock ∧ some k_ ≠ (.slice Ao26 x353002_2.length co26 : Value).ownBlock ∧ some k_ ≠ (.slice Ao31 t359.length co31 : Value).ownBlock ∧ some k_ ≠ (.slice Ao34 t363.length co34 : Value).ownBlock ∧ some k_ ≠ (.slice Ao40 t366.length co40 : Value).ownBlock)) (by (with_reducible repeat (first | apply Kd.R_alloc | apply Kd.R_drewN | apply Kd.R_drew)); exact Kd.R_mono (Kd.R_far (p := ⟨gb352, 2, none⟩) (Kd.R_far (p := ⟨gb352, 1, none⟩) (Kd.R_far (p := ⟨gb352, 0, none⟩) (Kd.R_far (p := ⟨gb369, 2, none⟩) (Kd.R_far (p := ⟨gb369, 1, none⟩) (Kd.R_far (p := ⟨gb369, 0, none⟩) (Kd.R_types (Kd.R_types HO357.out BK369.out (by decide)) BK352.out (by decide)) (fun _ hk => hk.1.2) (.slice Ao31 t359.length co31)) (fun _ hk => hk.1.2) (.int .i64 t362)) (fun _ hk => hk.1.2) (.slice Ao34 t363.length co34)) (fun _ hk => hk.2) (.slice Ao31 t359.length co31)) (fun _ hk => hk.2) (.int .i64 t362)) (fun _ hk => hk.2) (.slice Ao34 t363.length co34)) (fun _ hk => ⟨⟨hk.1.1.2.2.2.1, ⟨hk.1.1.2.2.2.2.1, ⟨hk.1.1.1, ⟨hk.1.1.2.1, hk.1.1.2.2.1⟩⟩⟩⟩, hk.1.1.2.2.2.2.2⟩)) hg hat); have n4_ := Aside0.mk (Kd.R_after (ok := (fun k_ => some k_ ≠ (.slice Ao25 x353000_2.length co25 : Value).ownBlock ∧ some k_ ≠ (.slice Ao26 x353002_2.length co26 : Value).ownBlock ∧ some k_ ≠ (v356 : Value).ownBlock ∧ some k_ ≠ (.slice Ao34 t363.length co34 : Value).ownBlock ∧ some k_ ≠ (.slice Ao40 t366.length co40 : Value).ownBlock)) (by (with_reducible repeat (first | apply Kd.R_alloc | apply Kd.R_drewN | apply Kd.R_drew)); exact Kd.R_mono (Kd.R_far (p := ⟨gb352, 2, none⟩) (Kd.R_far (p := ⟨gb352, 1, none⟩) (Kd.R_far (p := ⟨gb352, 0, none⟩) (Kd.R_far (p := ⟨gb369, 2, none⟩) (Kd.R_far (p := ⟨gb369, 1, none⟩) (Kd.R_far (p := ⟨gb369, 0, none⟩) (Kd.R_types (Kd.R_types HO361.out BK369.out (by decide)) BK352.out (by decide)) (fun _ hk => hk.1.2) (.slice Ao31 t359.length co31)) (fun _ hk => hk.1.2) (.int .i64 t362)) (fun _ hk => hk.1.2) (.slice Ao34 t363.length co34)) (fun _ hk => hk.2) (.slice Ao31 t359.length co31)) (fun _ hk => hk.2) (.int .i64 t362)) (fun _ hk => hk.2) (.slice Ao34 t363.length co34)) (fun _ hk => ⟨⟨hk.1.1.2.2.2.1, ⟨hk.1.1.2.2.2.2.1, ⟨hk.1.1.1, ⟨hk.1.1.2.1, hk.1.1.2.2.1⟩⟩⟩⟩, hk.1.1.2.2.2.2.2⟩)) hg hat); have n5_ := Aside0.mk (Kd.R_after (ok := (fun k_ => some k_ ≠ (.slice Ao25 x353000_2.length co25 : Value).ownBlock ∧ some k_ ≠ (.slice Ao26 x353002_2.length co26 : Value).ownBlock ∧ some k_ ≠ (v356 : Value).ownBlock ∧ some k_ ≠ (.slice Ao31 t359.length co31 : Value).ownBlock ∧ some k_ ≠ (.slice Ao40 t366.length co40 : Value).ownBlock)) (by (with_reducible repeat (first | apply Kd.R_alloc | apply Kd.R_drewN | apply Kd.R_drew)); exact Kd.R_mono (Kd.R_far (p := ⟨gb352, 2, none⟩) (Kd.R_far (p := ⟨gb352, 1, none⟩) (Kd.R_far (p := ⟨gb352, 0, none⟩) (Kd.R_far (p := ⟨gb369, 2, none⟩) (Kd.R_far (p := ⟨gb369, 1, none⟩) (Kd.R_far (p := ⟨gb369, 0, none⟩) (Kd.R_types (Kd.R_types HO365.out BK369.out (by decide)) BK352.out (by decide)) (fun _ hk => hk.1.2) (.slice Ao31 t359.length co31)) (fun _ hk => hk.1.2) (.int .i64 t362)) (fun _ hk => hk.1.2) (.slice Ao34 t363.length co34)) (fun _ hk => hk.2) (.slice Ao31 t359.length co31)) (fun _ hk => hk.2) (.int .i64 t362)) (fun _ hk => hk.2) (.slice Ao34 t363.length co34)) (fun _ hk => ⟨⟨hk.1.1.2.2.2.1, ⟨hk.1.1.2.2.2.2.1, ⟨hk.1.1.1, ⟨hk.1.1.2.1, hk.1.1.2.2.1⟩⟩⟩⟩, hk.1.1.2.2.2.2.2⟩)) hg hat); have n6_ := Aside0.mk (Kd.R_after (ok := (fun k_ => some k_ ≠ (.slice Ao25 x353000_2.length co25 : Value).ownBlock ∧ some k_ ≠ (.slice Ao26 x353002_2.length co26 : Value).ownBlock ∧ some k_ ≠ (v356 : Value).ownBlock ∧ some k_ ≠ (.slice Ao31 t359.length co31 : Value).ownBlock ∧ some k_ ≠ (.slice Ao34 t363.length co34 : Value).ownBlock)) (by (with_reducible repeat (first | apply Kd.R_alloc | apply Kd.R_drewN | apply Kd.R_drew)); exact Kd.R_mono (Kd.R_far (p := ⟨gb352, 2, none⟩) (Kd.R_far (p := ⟨gb352, 1, none⟩) (Kd.R_far (p := ⟨gb352, 0, none⟩) (Kd.R_far (p := ⟨gb369, 2, none⟩) (Kd.R_far (p := ⟨gb369, 1, none⟩) (Kd.R_far (p := ⟨gb369, 0, none⟩) (Kd.R_types (Kd.R_types HO368.out BK369.out (by decide)) BK352.out (by decide)) (fun _ hk => hk.1.2) (.slice Ao31 t359.length co31)) (fun _ hk => hk.1.2) (.int .i64 t362)) (fun _ hk => hk.1.2) (.slice Ao34 t363.length co34)) (fun _ hk => hk.2) (.slice Ao31 t359.length co31)) (fun _ hk => hk.2) (.int .i64 t362)) (fun _ hk => hk.2) (.slice Ao34 t363.length co34)) (fun _ hk => ⟨⟨hk.1.1.2.2.2.1, ⟨hk.1.1.2.2.2.2.1, ⟨hk.1.1.1, ⟨hk.1.1.2.1, hk.1.1.2.2.1⟩⟩⟩⟩, hk.1.1.2.2.2.2.2⟩)) hg hat); have n7_ := Aside0.mk (blk_grown (g := gb369) (o := .cells #[.slice Ao31 t359.length co31, .int .i64 t362, .slice Ao34 t363.length co34] 24 (0, 0)) (by (with_reducible repeat (first | refine blk_drewN ?_ _ | refine blk_drew ?_ | refine blk_alloc ?_ _)); refine blk_far ?_ NB369_352.out _; (with_reducible repeat (first | refine blk_drewN ?_ _ | refine blk_drew ?_ | refine blk_alloc ?_ _)); refine blk_far ?_ NB369_352.out _; (with_reducible repeat (first | refine blk_drewN ?_ _ | refine blk_drew ?_ | refine blk_alloc ?_ _)); refine blk_far ?_ NB369_352.out _; (with_reducible repeat (first | refine blk_drewN ?_ _ | refine blk_drew ?_ | refine blk_alloc ?_ _)); refine blk_put (cs := #[.slice Ao31 t359.length co31, .int .i64 t362, .slice none 0 0]) ?_ 2 _ rfl; (with_reducible repeat (first | refine blk_drewN ?_ _ | refine blk_drew ?_ | refine blk_alloc ?_ _)); refine blk_put (cs := #[.slice Ao31 t359.length co31, .int .i64 0, .slice none 0 0]) ?_ 1 _ rfl; (with_reducible repeat (first | refine blk_drewN ?_ _ | refine blk_drew ?_ | refine blk_alloc ?_ _)); refine blk_put (cs := #[.slice none 0 0, .int .i64 0, .slice none 0 0]) ?_ 0 _ rfl; (with_reducible repeat (first | refine blk_drewN ?_ _ | refine blk_drew ?_ | refine blk_alloc ?_ _)); exact BK369.out) hg (Kd.R_ne HO_5.out BK369.out (by decide))); have n8_ := Aside0.mk (hb); have n9_ := Aside0.mk (ho); clear HO_353000; clear HO_353002; clear BK352; clear HO357; clear HO361; clear HO365; clear HO368; clear BK369; clear HB; clear HO_5; have HO_353000 := n0_; have HO_353002 := n1_; have BK352 := n2_; have HO357 := n3_; have HO361 := n4_; have HO365 := n5_; have HO368 := n6_; have BK369 := n7_; have HB := n8_; have HO372 := n9_; clear n0_ n1_ n2_ n3_ n4_ n5_ n6_ n7_ n8_ n9_; clear ho hb hg hat))
                      go_roundg k2
                      case measure => have := HJ1.out; have := HK2.out; omega
                      case rel => exact ⟨(y355), (y370), (wrap64 (x6_2 + 1)), (t359), (t362), (t363), (.slice Ao31 t359.length co31), (.slice Ao34 t363.length co34), (by first | rfl | (simp; done) | (simp [*]; done)), H', ⟨by have := HJ1.out; have := HK2.out; omega⟩, ⟨by (with_reducible repeat (first | apply Kd.R_alloc | apply Kd.R_drewN | apply Kd.R_drew)); exact Kd.R_mono HO357.out (fun _ hk => ⟨hk.2, ⟨hk.1.2.2.1, hk.1.2.2.2.1⟩⟩)⟩, ⟨by (with_reducible repeat (first | apply Kd.R_alloc | apply Kd.R_drewN | apply Kd.R_drew)); exact Kd.R_mono HO372.out (fun _ hk => ⟨hk.2.2.1, ⟨hk.2.2.2.1, hk.2.2.2.2.1⟩⟩)⟩, ⟨by (with_reducible repeat (first | apply Kd.R_alloc | apply Kd.R_drewN | apply Kd.R_drew)); exact Kd.R_mono HO361.out (fun _ hk => ⟨hk.1.2.2.1, ⟨hk.2, hk.1.2.2.2.1⟩⟩)⟩, ⟨by (with_reducible repeat (first | apply Kd.R_alloc | apply Kd.R_drewN | apply Kd.R_drew)); exact Kd.R_mono HO365.out (fun _ hk => ⟨hk.1.2.2.1, ⟨hk.2, hk.1.2.2.2.1⟩⟩)⟩, ⟨pK BK352⟩, ⟨by repeat (first | (with_reducible first | exact HB.out | apply below_alloc | apply pw_below_drewN | apply below_drew1 | refine below_set ?_ GE352.out | refine below_set ?_ GE369.out) | exact HB.out)⟩⟩
                    · rw [if_neg c22] at H
                      exact absurd H (by simp)
                  · rw [if_neg c20] at H
                    exact absurd H (by simp)
              · rw [if_neg c17] at H
                exact absurd H (by simp)
            · rw [if_neg c16] at H
              have c16b0 : decide (x6_2 < (l0.length : Int)) = false := decide_eq_false c16
              clear c16
              replace H := Option.bind_eq_some_iff.mp H
              obtain ⟨⟨t373, t376⟩, A410, H⟩ := H
              replace H : ((capnpref21_Bytes.f k2 x4_2).bind fun bt377 => (if bt377.2 = 0 then (if t376 = 0 then (if x5_2.length + t373.length < 140737488355328 then ((capnpref01_Same.f k2 (x5_2 ++ t373) bt377.1).bind fun t384 => (some t384)) else (none)) else (none)) else (if t376 = 9 then (some ((t373.length : Int) == 0)) else (none)))) = some r := H
              have A41 := Aside0.mk A410
              clear A410
              replace H := Option.bind_eq_some_iff.mp H
              obtain ⟨⟨t377, t378⟩, A420, H⟩ := H
              replace H : (if t378 = 0 then (if t376 = 0 then (if x5_2.length + t373.length < 140737488355328 then ((capnpref01_Same.f k2 (x5_2 ++ t373) t377).bind fun t384 => (some t384)) else (none)) else (none)) else (if t376 = 9 then (some ((t373.length : Int) == 0)) else (none))) = some r := H
              have A42 := Aside0.mk A420
              clear A420
              by_cases c43 : t378 = 0
              · rw [if_pos c43] at H
                have c43b0 : (t378 == 0) = true := beq_iff_eq.mpr c43
                have c43b1 : (t378 != 0) = false := bne_eq_false_iff_eq.mpr c43
                clear c43
                by_cases c44 : t376 = 0
                · rw [if_pos c44] at H
                  have c44b0 : (t376 == 0) = true := beq_iff_eq.mpr c44
                  have c44b1 : (t376 != 0) = false := bne_eq_false_iff_eq.mpr c44
                  clear c44
                  by_cases c45 : x5_2.length + t373.length < 140737488355328
                  · rw [if_pos c45] at H
                    have LMc45 := Aside0.mk c45
                    clear c45
                    obtain ⟨y381, hy381⟩ : ∃ y_ : List Int, y_ = (x5_2 ++ t373) := ⟨_, rfl⟩
                    replace H : ((capnpref01_Same.f k2 y381 t377).bind fun t384 => (some t384)) = some r := by first | (rw [hy381]; with_reducible exact H) | (have H2_ := (Option.bind_some _ _).symm.trans H; rw [hy381]; with_reducible exact H2_) | (have H2_ := (Option.bind_some _ _).symm.trans H; with_reducible exact H2_) | with_reducible exact H | (rw [hy381]; exact H) | exact H
                    have Ny381 := Aside0.mk hy381
                    clear hy381
                    replace H := Option.bind_eq_some_iff.mp H
                    obtain ⟨t384, A460, H⟩ := H
                    replace H : (some t384) = some r := H
                    have A46 := Aside0.mk A460
                    clear A460
                    obtain rfl := Option.some.inj H
                    have hcz47_0 : wr.cell? ⟨gb352, 0, none⟩ = some (u353000) := (blk_cell BK352.out 0).trans rfl
                    have hcz47_1 : wr.cell? ⟨gb352, 1, none⟩ = some (.int .i64 x353001_2) := (blk_cell BK352.out 1).trans rfl
                    have hcz47_2 : wr.cell? ⟨gb352, 2, none⟩ = some (u353002) := (blk_cell BK352.out 2).trans rfl
                    have hfz47_0 := blk_frozen BK352.out 0
                    have hfz47_1 := blk_frozen BK352.out 1
                    have hfz47_2 := blk_frozen BK352.out 2
                    obtain ⟨Ao48, co48, eo48⟩ := Kd.R_slice HO_353000.out
                    subst eo48
                    obtain ⟨Ao49, co49, eo49⟩ := Kd.R_slice HO_353002.out
                    subst eo49
                    go_wp2_with (first | ((with_reducible refine gate_callee (f := 9) rfl ?_); refine goesL_ (some 58) rfl rfl Try.func9 (by kernel_rfl) rfl #[.agg #[.slice Ao48 x353000_2.length co48, .int .i64 x353001_2, .slice Ao49 x353002_2.length co49]] rfl pM ?_; (with_reducible refine (packstream_Close.calls k2 _ _ x353000_2 x353001_2 _ _ x353002_2 t373 t376 _ ?side1 ?side2 ?side3 ?side4 A41.out).mono ?_); (case side1 => repeat (first | exact (Kd.R_reads' HO_353000.out).2.2 | (with_reducible refine Kd.C_alloc ?_ _) | (with_reducible refine Kd.C_drewN ?_ _) | (with_reducible refine Kd.C_drew ?_))); (case side2 => exact (Kd.R_reads' HO_353000.out).2.1); (case side3 => repeat (first | exact (Kd.R_reads' HO_353002.out).2.2 | (with_reducible refine Kd.C_alloc ?_ _) | (with_reducible refine Kd.C_drewN ?_ _) | (with_reducible refine Kd.C_drew ?_))); (case side4 => exact (Kd.R_reads' HO_353002.out).2.1); rintro e w50 ⟨v374, rfl, ho0, hb⟩; refine ⟨_, rfl, ?_⟩; have n0_ := Aside0.mk (Kd.R_elder' (pR HO_4) (Kd.R_base ho0) hb); have n1_ := Aside0.mk (Kd.R_elder' (pR HO_5) (Kd.R_base ho0) hb); have n2_ := Aside0.mk (Kd.R_elder' (pR HO_353000) (Kd.R_base ho0) hb); have n3_ := Aside0.mk (Kd.R_elder' (pR HO_353002) (Kd.R_base ho0) hb); have n4_ := Aside0.mk (Kd.R_lower (Kd.R_new' (Kd.R_new' (Kd.R_new' (Kd.R_new' ho0 (Kd.R_lt (pR HO_4))) (Kd.R_lt (pR HO_5))) (Kd.R_lt (pR HO_353000))) (Kd.R_lt (pR HO_353002))) (below_size (by repeat (first | (with_reducible first | exact HB.out | apply below_alloc | apply pw_below_drewN | apply below_drew1 | refine below_set ?_ GE352.out) | exact HB.out)))); have n5_ := Aside0.mk (blk_below (g := gb352) (o := .cells #[.slice Ao48 x353000_2.length co48, .int .i64 x353001_2, .slice Ao49 x353002_2.length co49] 24 (0, 0)) (pK BK352) hb); have n6_ := Aside0.mk (below_step (by repeat (first | (with_reducible first | exact HB.out | apply below_alloc | apply pw_below_drewN | apply below_drew1 | refine below_set ?_ GE352.out) | exact HB.out)) hb); clear HO_4; clear HO_5; clear HO_353000; clear HO_353002; clear BK352; clear HB; have HO_4 := n0_; have HO_5 := n1_; have HO_353000 := n2_; have HO_353002 := n3_; have HO375 := n4_; have BK352 := n5_; have HB := n6_; clear n0_ n1_ n2_ n3_ n4_ n5_ n6_; (try clear hb); (try clear hb2); (try clear hk); (try clear hi); (try clear ho0); obtain ⟨Ao51, co51, eo51⟩ := Kd.R_slice HO_4.out; subst eo51) | ((with_reducible refine gate_callee (f := 18) rfl ?_); refine goesL_ (some 63) rfl rfl Try.func18 (by kernel_rfl) rfl #[.slice Ao51 x4_2.length co51] rfl pM ?_; (with_reducible refine (capnpref21_Bytes.calls k2 _ _ x4_2 t377 t378 _ ?side1 ?side2 A42.out).mono ?_); (case side1 => repeat (first | exact (Kd.R_reads' HO_4.out).2.2 | (with_reducible refine Kd.C_alloc ?_ _) | (with_reducible refine Kd.C_drewN ?_ _) | (with_reducible refine Kd.C_drew ?_))); (case side2 => exact (Kd.R_reads' HO_4.out).2.1); rintro e w52 ⟨v379, rfl, ho0, hb⟩; refine ⟨_, rfl, ?_⟩; have n0_ := Aside0.mk (Kd.R_elder' (pR HO_4) (Kd.R_base ho0) hb); have n1_ := Aside0.mk (Kd.R_elder' (pR HO_5) (Kd.R_base ho0) hb); have n2_ := Aside0.mk (Kd.R_elder' (pR HO_353000) (Kd.R_base ho0) hb); have n3_ := Aside0.mk (Kd.R_elder' (pR HO_353002) (Kd.R_base ho0) hb); have n4_ := Aside0.mk (Kd.R_elder' (pR HO375) (Kd.R_base ho0) hb); have n5_ := Aside0.mk (Kd.R_lower (Kd.R_new' (Kd.R_new' (Kd.R_new' (Kd.R_new' (Kd.R_new' ho0 (Kd.R_lt (pR HO_4))) (Kd.R_lt (pR HO_5))) (Kd.R_lt (pR HO_353000))) (Kd.R_lt (pR HO_353002))) (Kd.R_lt (pR HO375))) (below_size (by repeat (first | (with_reducible first | exact HB.out | apply below_alloc | apply pw_below_drewN | apply below_drew1 | refine below_set ?_ GE352.out) | exact HB.out)))); have n6_ := Aside0.mk (blk_below (g := gb352) (o := .cells #[.slice Ao48 x353000_2.length co48, .int .i64 x353001_2, .slice Ao49 x353002_2.length co49] 24 (0, 0)) (pK BK352) hb); have n7_ := Aside0.mk (below_step (by repeat (first | (with_reducible first | exact HB.out | apply below_alloc | apply pw_below_drewN | apply below_drew1 | refine below_set ?_ GE352.out) | exact HB.out)) hb); clear HO_4; clear HO_5; clear HO_353000; clear HO_353002; clear HO375; clear BK352; clear HB; have HO_4 := n0_; have HO_5 := n1_; have HO_353000 := n2_; have HO_353002 := n3_; have HO375 := n4_; have HO380 := n5_; have BK352 := n6_; have HB := n7_; clear n0_ n1_ n2_ n3_ n4_ n5_ n6_ n7_; (try clear hb); (try clear hb2); (try clear hk); (try clear hi); (try clear ho0); obtain ⟨Ao54, co54, eo54⟩ := Kd.R_slice HO375.out; subst eo54) | ((with_reducible refine gate_builtin (b := .append) (xs := #[.tmp 78, .tmp 79]) rfl ?_); (try (refine gate_guard (by rfl) ?_; dsimp only)); at_builtin; refine Kd.R_append_rows (Kd.int .u8) (w0 := w) w.heap.size rfl (.tmp 78) (.tmp 79) 22 5 (.int .u8 0) 1 rfl Try.underlying22 info5 rfl (by decide) (by omega) u5 x5_2 t373 _ _ _ (fun k_ => some k_ ≠ (.slice Ao51 x4_2.length co51 : Value).ownBlock ∧ some k_ ≠ (.slice Ao48 x353000_2.length co48 : Value).ownBlock ∧ some k_ ≠ (.slice Ao49 x353002_2.length co49 : Value).ownBlock ∧ some k_ ≠ (.slice Ao54 t373.length co54 : Value).ownBlock ∧ some k_ ≠ (v379 : Value).ownBlock) (fun _ => False) rfl rfl ?aO ?aR (fun _ _ h => h) (fun _ h => h.elim) ?aF ?aB ?aS ?aL ?_; (case aR => repeat (first | exact (Kd.R_reads' HO375.out).2.2 | (with_reducible refine Kd.C_alloc ?_ _) | (with_reducible refine Kd.C_drewN ?_ _) | (with_reducible refine Kd.C_drew ?_))); (case aB => exact (by repeat (first | (with_reducible first | exact HB.out | apply below_alloc | apply pw_below_drewN | apply below_drew1 | refine below_set ?_ GE352.out) | exact HB.out))); (case aF => exact (fun k_ hk => ⟨Kd.fresh' (Kd.R_lt (pR HO_4)) k_ hk, Kd.fresh' (Kd.R_lt (pR HO_353000)) k_ hk, Kd.fresh' (Kd.R_lt (pR HO_353002)) k_ hk, Kd.fresh' (Kd.R_lt (pR HO375)) k_ hk, Kd.fresh' (Kd.R_lt (pR HO380)) k_ hk⟩)); (case aO => exact (by (with_reducible repeat (first | apply Kd.R_alloc | apply Kd.R_drewN | apply Kd.R_drew)); exact Kd.R_mono HO_5.out (fun _ hk => ⟨hk.1.1.1, ⟨hk.1.1.2.1, ⟨hk.1.1.2.2, ⟨hk.1.2, hk.2⟩⟩⟩⟩))); (case aS => exact (below_size (by repeat (first | (with_reducible first | exact HB.out | apply below_alloc | apply pw_below_drewN | apply below_drew1 | refine below_set ?_ GE352.out) | exact HB.out)))); (case aL => have := LMc45.out; omega); intro v382 w53 ho hb hg hat; rw [← Ny381.out] at ho; have n0_ := Aside0.mk (Kd.R_after (ok := (fun k_ => some k_ ≠ (.slice Ao48 x353000_2.length co48 : Value).ownBlock ∧ some k_ ≠ (.slice Ao49 x353002_2.length co49 : Value).ownBlock ∧ some k_ ≠ (.slice Ao54 t373.length co54 : Value).ownBlock ∧ some k_ ≠ (v379 : Value).ownBlock)) (by (with_reducible repeat (first | apply Kd.R_alloc | apply Kd.R_drewN | apply Kd.R_drew)); exact Kd.R_mono HO_4.out (fun _ hk => ⟨⟨hk.1.1.2.1, ⟨hk.1.1.2.2, ⟨hk.1.2, hk.2⟩⟩⟩, hk.1.1.1⟩)) hg hat); have n1_ := Aside0.mk (Kd.R_after (ok := (fun k_ => some k_ ≠ (.slice Ao51 x4_2.length co51 : Value).ownBlock ∧ some k_ ≠ (.slice Ao49 x353002_2.length co49 : Value).ownBlock ∧ some k_ ≠ (.slice Ao54 t373.length co54 : Value).ownBlock ∧ some k_ ≠ (v379 : Value).ownBlock)) (by (with_reducible repeat (first | apply Kd.R_alloc | apply Kd.R_drewN | apply Kd.R_drew)); exact Kd.R_mono HO_353000.out (fun _ hk => ⟨⟨hk.1.1.1, ⟨hk.1.1.2.2, ⟨hk.1.2, hk.2⟩⟩⟩, hk.1.1.2.1⟩)) hg hat); have n2_ := Aside0.mk (Kd.R_after (ok := (fun k_ => some k_ ≠ (.slice Ao51 x4_2.length co51 : Value).ownBlock ∧ some k_ ≠ (.slice Ao48 x353000_2.length co48 : Value).ownBlock ∧ some k_ ≠ (.slice Ao54 t373.length co54 : Value).ownBlock ∧ some k_ ≠ (v379 : Value).ownBlock)) (by (with_reducible repeat (first | apply Kd.R_alloc | apply Kd.R_drewN | apply Kd.R_drew)); exact Kd.R_mono HO_353002.out (fun _ hk => ⟨⟨hk.1.1.1, ⟨hk.1.1.2.2, ⟨hk.1.2, hk.2⟩⟩⟩, hk.1.1.2.1⟩)) hg hat); have n3_ := Aside0.mk (blk_grown (g := gb352) (o := .cells #[.slice Ao48 x353000_2.length co48, .int .i64 x353001_2, .slice Ao49 x353002_2.length co49] 24 (0, 0)) (pK BK352) hg (Kd.R_ne HO_5.out BK352.out (by decide))); have n4_ := Aside0.mk (Kd.R_after (ok := (fun k_ => some k_ ≠ (.slice Ao51 x4_2.length co51 : Value).ownBlock ∧ some k_ ≠ (.slice Ao48 x353000_2.length co48 : Value).ownBlock ∧ some k_ ≠ (.slice Ao49 x353002_2.length co49 : Value).ownBlock ∧ some k_ ≠ (v379 : Value).ownBlock)) (by (with_reducible repeat (first | apply Kd.R_alloc | apply Kd.R_drewN | apply Kd.R_drew)); exact Kd.R_mono HO375.out (fun _ hk => ⟨⟨hk.1.1.1.1.2, ⟨hk.1.1.2, ⟨hk.1.2, hk.2⟩⟩⟩, hk.1.1.1.2⟩)) hg hat); have n5_ := Aside0.mk (Kd.R_after (ok := (fun k_ => some k_ ≠ (.slice Ao51 x4_2.length co51 : Value).ownBlock ∧ some k_ ≠ (.slice Ao48 x353000_2.length co48 : Value).ownBlock ∧ some k_ ≠ (.slice Ao49 x353002_2.length co49 : Value).ownBlock ∧ some k_ ≠ (.slice Ao54 t373.length co54 : Value).ownBlock)) (by (with_reducible repeat (first | apply Kd.R_alloc | apply Kd.R_drewN | apply Kd.R_drew)); exact Kd.R_mono HO380.out (fun _ hk => ⟨⟨hk.1.1.1.1.2, ⟨hk.1.1.2, ⟨hk.1.2, hk.2⟩⟩⟩, hk.1.1.1.2⟩)) hg hat); have n6_ := Aside0.mk (hb); have n7_ := Aside0.mk (ho); clear HO_4; clear HO_353000; clear HO_353002; clear BK352; clear HO375; clear HO380; clear HB; clear HO_5; have HO_4 := n0_; have HO_353000 := n1_; have HO_353002 := n2_; have BK352 := n3_; have HO375 := n4_; have HO380 := n5_; have HB := n6_; have HO383 := n7_; clear n0_ n1_ n2_ n3_ n4_ n5_ n6_ n7_; clear ho hb hg hat; obtain ⟨Ao55, co55, eo55⟩ := Kd.R_slice HO383.out; subst eo55; obtain ⟨Ao56, co56, eo56⟩ := Kd.R_slice HO380.out; subst eo56) | (go_at_call 16; (with_reducible refine (capnpref01_Same.calls k2 _ _ y381 _ _ t377 t384 _ ?side1 ?side2 ?side3 ?side4 A46.out).mono ?_); (case side1 => repeat (first | exact (Kd.R_reads' HO383.out).2.2 | (with_reducible refine Kd.C_alloc ?_ _) | (with_reducible refine Kd.C_drewN ?_ _) | (with_reducible refine Kd.C_drew ?_))); (case side2 => exact (Kd.R_reads' HO383.out).2.1); (case side3 => repeat (first | exact (Kd.R_reads' HO380.out).2.2 | (with_reducible refine Kd.C_alloc ?_ _) | (with_reducible refine Kd.C_drewN ?_ _) | (with_reducible refine Kd.C_drew ?_))); (case side4 => exact (Kd.R_reads' HO380.out).2.1); rintro e w' ⟨rfl, ⟨nd, rfl⟩⟩))
                    go_ret
                    exact ⟨by first | rfl | (simp [errW_none, errW_some] <;> rfl) | (simp [*, errW_none, errW_some] <;> rfl), by repeat (first | (with_reducible first | exact HB.out | apply below_alloc | apply pw_below_drewN | apply below_drew1 | refine below_set ?_ GE352.out) | exact HB.out)⟩
                  · rw [if_neg c45] at H
                    exact absurd H (by simp)
                · rw [if_neg c44] at H
                  exact absurd H (by simp)
              · rw [if_neg c43] at H
                have c43b0 : (t378 == 0) = false := beq_eq_false_iff_ne.mpr c43
                have c43b1 : (t378 != 0) = true := bne_iff_ne.mpr c43
                by_cases c57 : t376 = 9
                · rw [if_pos c57] at H
                  have c57b0 : (t376 == 9) = true := beq_iff_eq.mpr c57
                  have c57b1 : (t376 != 9) = false := bne_eq_false_iff_eq.mpr c57
                  clear c57
                  obtain rfl := Option.some.inj H
                  have hcz58_0 : wr.cell? ⟨gb352, 0, none⟩ = some (u353000) := (blk_cell BK352.out 0).trans rfl
                  have hcz58_1 : wr.cell? ⟨gb352, 1, none⟩ = some (.int .i64 x353001_2) := (blk_cell BK352.out 1).trans rfl
                  have hcz58_2 : wr.cell? ⟨gb352, 2, none⟩ = some (u353002) := (blk_cell BK352.out 2).trans rfl
                  have hfz58_0 := blk_frozen BK352.out 0
                  have hfz58_1 := blk_frozen BK352.out 1
                  have hfz58_2 := blk_frozen BK352.out 2
                  obtain ⟨Ao59, co59, eo59⟩ := Kd.R_slice HO_353000.out
                  subst eo59
                  obtain ⟨Ao60, co60, eo60⟩ := Kd.R_slice HO_353002.out
                  subst eo60
                  go_wp2_with (first | ((with_reducible refine gate_callee (f := 9) rfl ?_); refine goesL_ (some 58) rfl rfl Try.func9 (by kernel_rfl) rfl #[.agg #[.slice Ao59 x353000_2.length co59, .int .i64 x353001_2, .slice Ao60 x353002_2.length co60]] rfl pM ?_; (with_reducible refine (packstream_Close.calls k2 _ _ x353000_2 x353001_2 _ _ x353002_2 t373 t376 _ ?side1 ?side2 ?side3 ?side4 A41.out).mono ?_); (case side1 => repeat (first | exact (Kd.R_reads' HO_353000.out).2.2 | (with_reducible refine Kd.C_alloc ?_ _) | (with_reducible refine Kd.C_drewN ?_ _) | (with_reducible refine Kd.C_drew ?_))); (case side2 => exact (Kd.R_reads' HO_353000.out).2.1); (case side3 => repeat (first | exact (Kd.R_reads' HO_353002.out).2.2 | (with_reducible refine Kd.C_alloc ?_ _) | (with_reducible refine Kd.C_drewN ?_ _) | (with_reducible refine Kd.C_drew ?_))); (case side4 => exact (Kd.R_reads' HO_353002.out).2.1); rintro e w61 ⟨v374, rfl, ho0, hb⟩; refine ⟨_, rfl, ?_⟩; have n0_ := Aside0.mk (Kd.R_elder' (pR HO_4) (Kd.R_base ho0) hb); have n1_ := Aside0.mk (Kd.R_elder' (pR HO_5) (Kd.R_base ho0) hb); have n2_ := Aside0.mk (Kd.R_elder' (pR HO_353000) (Kd.R_base ho0) hb); have n3_ := Aside0.mk (Kd.R_elder' (pR HO_353002) (Kd.R_base ho0) hb); have n4_ := Aside0.mk (Kd.R_lower (Kd.R_new' (Kd.R_new' (Kd.R_new' (Kd.R_new' ho0 (Kd.R_lt (pR HO_4))) (Kd.R_lt (pR HO_5))) (Kd.R_lt (pR HO_353000))) (Kd.R_lt (pR HO_353002))) (below_size (by repeat (first | (with_reducible first | exact HB.out | apply below_alloc | apply pw_below_drewN | apply below_drew1 | refine below_set ?_ GE352.out) | exact HB.out)))); have n5_ := Aside0.mk (blk_below (g := gb352) (o := .cells #[.slice Ao59 x353000_2.length co59, .int .i64 x353001_2, .slice Ao60 x353002_2.length co60] 24 (0, 0)) (pK BK352) hb); have n6_ := Aside0.mk (below_step (by repeat (first | (with_reducible first | exact HB.out | apply below_alloc | apply pw_below_drewN | apply below_drew1 | refine below_set ?_ GE352.out) | exact HB.out)) hb); clear HO_4; clear HO_5; clear HO_353000; clear HO_353002; clear BK352; clear HB; have HO_4 := n0_; have HO_5 := n1_; have HO_353000 := n2_; have HO_353002 := n3_; have HO375 := n4_; have BK352 := n5_; have HB := n6_; clear n0_ n1_ n2_ n3_ n4_ n5_ n6_; (try clear hb); (try clear hb2); (try clear hk); (try clear hi); (try clear ho0); obtain ⟨Ao62, co62, eo62⟩ := Kd.R_slice HO_4.out; subst eo62) | ((with_reducible refine gate_callee (f := 18) rfl ?_); refine goesL_ (some 63) rfl rfl Try.func18 (by kernel_rfl) rfl #[.slice Ao62 x4_2.length co62] rfl pM ?_; (with_reducible refine (capnpref21_Bytes.calls k2 _ _ x4_2 t377 t378 _ ?side1 ?side2 A42.out).mono ?_); (case side1 => repeat (first | exact (Kd.R_reads' HO_4.out).2.2 | (with_reducible refine Kd.C_alloc ?_ _) | (with_reducible refine Kd.C_drewN ?_ _) | (with_reducible refine Kd.C_drew ?_))); (case side2 => exact (Kd.R_reads' HO_4.out).2.1); rintro e w63 ⟨v379, rfl, ho0, hb⟩; refine ⟨_, rfl, ?_⟩; have n0_ := Aside0.mk (Kd.R_elder' (pR HO_4) (Kd.R_base ho0) hb); have n1_ := Aside0.mk (Kd.R_elder' (pR HO_5) (Kd.R_base ho0) hb); have n2_ := Aside0.mk (Kd.R_elder' (pR HO_353000) (Kd.R_base ho0) hb); have n3_ := Aside0.mk (Kd.R_elder' (pR HO_353002) (Kd.R_base ho0) hb); have n4_ := Aside0.mk (Kd.R_elder' (pR HO375) (Kd.R_base ho0) hb); have n5_ := Aside0.mk (Kd.R_lower (Kd.R_new' (Kd.R_new' (Kd.R_new' (Kd.R_new' (Kd.R_new' ho0 (Kd.R_lt (pR HO_4))) (Kd.R_lt (pR HO_5))) (Kd.R_lt (pR HO_353000))) (Kd.R_lt (pR HO_353002))) (Kd.R_lt (pR HO375))) (below_size (by repeat (first | (with_reducible first | exact HB.out | apply below_alloc | apply pw_below_drewN | apply below_drew1 | refine below_set ?_ GE352.out) | exact HB.out)))); have n6_ := Aside0.mk (blk_below (g := gb352) (o := .cells #[.slice Ao59 x353000_2.length co59, .int .i64 x353001_2, .slice Ao60 x353002_2.length co60] 24 (0, 0)) (pK BK352) hb); have n7_ := Aside0.mk (below_step (by repeat (first | (with_reducible first | exact HB.out | apply below_alloc | apply pw_below_drewN | apply below_drew1 | refine below_set ?_ GE352.out) | exact HB.out)) hb); clear HO_4; clear HO_5; clear HO_353000; clear HO_353002; clear HO375; clear BK352; clear HB; have HO_4 := n0_; have HO_5 := n1_; have HO_353000 := n2_; have HO_353002 := n3_; have HO375 := n4_; have HO380 := n5_; have BK352 := n6_; have HB := n7_; clear n0_ n1_ n2_ n3_ n4_ n5_ n6_ n7_; (try clear hb); (try clear hb2); (try clear hk); (try clear hi); (try clear ho0); obtain ⟨Ao64, co64, eo64⟩ := Kd.R_slice HO375.out; subst eo64))
                  go_ret
                  exact ⟨by first | rfl | (simp [errW_none, errW_some] <;> rfl) | (simp [*, errW_none, errW_some] <;> rfl), by repeat (first | (with_reducible first | exact HB.out | apply below_alloc | apply pw_below_drewN | apply below_drew1 | refine below_set ?_ GE352.out) | exact HB.out)⟩
                · rw [if_neg c57] at H
                  exact absurd H (by simp)
end Go.Proofs.Ytibkbgaonjdpiaa.PPackstreamChunks
