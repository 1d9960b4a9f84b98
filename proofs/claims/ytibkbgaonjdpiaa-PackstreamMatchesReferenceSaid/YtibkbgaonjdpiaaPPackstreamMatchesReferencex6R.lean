/- Printed functions of a law, and their walks. -/
import Derived.Test.YtibkbgaonjdpiaaXShortR
import Derived.Test.YtibkbgaonjdpiaaPPackstreamMatchesReferencex0R
import Derived.Test.YtibkbgaonjdpiaaPPackstreamMatchesReferencex5R
namespace Go.Proofs.Ytibkbgaonjdpiaa.PPackstreamMatchesReference
open Go.RowKit Go.Proofs.YtibkbgaonjdpiaaW.PrintWords Go.Proofs.YtibkbgaonjdpiaaW.PrintLast Go.Proofs.YtibkbgaonjdpiaaW.PrintMore
open Go.Proofs.Ytibkbgaonjdpiaa.PPaBase
attribute [local go_sem] max2_int min2_int max_two min_two max_three min_three max_four min_four   -- for this text's walks alone
set_option linter.unusedVariables false
set_option linter.unusedSimpArgs false
set_option maxHeartbeats 8000000
set_option maxRecDepth 100000
mutual
def capnpref24_Valid.j0 : Nat → List Int → Bool → Option (Bool)
  | 0, _, _ => none
  | k + 1, x3, x45 => if x45 = true then (some false) else (capnpref24_Valid.l0 k x3 0)
def capnpref24_Valid.l0 : Nat → List Int → Int → Option (Bool)
  | 0, _, _ => none
  | k + 1, x3, x5 => if x5 < (x3.length : Int) then (if 0 ≤ x5 then ((capnpref20_Bytes.f k (rd x3 x5)).bind fun t270 => (if (t270.length : Int) < 7 then (some false) else (if x5 = 0 then (if (t270.length : Int) < 8 then (some false) else (capnpref24_Valid.l0 k x3 (wrap64 (x5 + 1)))) else (capnpref24_Valid.l0 k x3 (wrap64 (x5 + 1)))))) else (none)) else (some true)
end
def capnpref24_Valid.f (k : Nat) (l0_0 : List Int) (a0_1 : Int) (l0_2 : List Int) : Option (Bool) := (capnpref01_Words.f k l0_2).bind fun bt265 => (if (l0_0.length : Int) > 7 then (capnpref24_Valid.j0 k bt265.1 true) else (if a0_1 < 0 then (capnpref24_Valid.j0 k bt265.1 true) else (if a0_1 > 255 then (capnpref24_Valid.j0 k bt265.1 true) else (if bt265.2 = true then (if (bt265.1.length : Int) > 255 then (capnpref24_Valid.j0 k bt265.1 true) else (if a0_1 > 0 then (capnpref24_Valid.j0 k bt265.1 (decide ((bt265.1.length : Int) > 0))) else (capnpref24_Valid.j0 k bt265.1 false))) else (capnpref24_Valid.j0 k bt265.1 true)))))
theorem capnpref24_Valid.mono_l : ∀ k, (∀ y0 y1, LeO (capnpref24_Valid.j0 k y0 y1) (capnpref24_Valid.j0 (k + 1) y0 y1)) ∧ (∀ y0 y1, LeO (capnpref24_Valid.l0 k y0 y1) (capnpref24_Valid.l0 (k + 1) y0 y1))
  | 0 => ⟨fun _ _ r h => by simp [capnpref24_Valid.j0] at h, fun _ _ r h => by simp [capnpref24_Valid.l0] at h⟩
  | k + 1 => by
    obtain ⟨ih0, ih1⟩ := capnpref24_Valid.mono_l k
    refine ⟨?_, ?_⟩
    · intro y0 y1
      unfold capnpref24_Valid.j0
      repeat' first
      | (with_reducible exact ih0 _ _)
      | (with_reducible exact ih1 _ _)
      | (with_reducible exact capnpref01_Words.mono _ _)
      | (with_reducible exact capnpref20_Bytes.mono _ _)
      | (with_reducible exact LeO.refl _)
      | (with_reducible exact LeO.none _)
      | (with_reducible refine LeO.ite ?_ ?_)
      | (with_reducible refine LeO.bind ?_ (fun _ => ?_))
      | exact ih0 _ _
      | exact ih1 _ _
      | exact capnpref01_Words.mono _ _
      | exact capnpref20_Bytes.mono _ _
      | exact LeO.none _
      | refine LeO.ite ?_ ?_
      | refine LeO.bind ?_ (fun _ => ?_)
    · intro y0 y1
      unfold capnpref24_Valid.l0
      repeat' first
      | (with_reducible exact ih0 _ _)
      | (with_reducible exact ih1 _ _)
      | (with_reducible exact capnpref01_Words.mono _ _)
      | (with_reducible exact capnpref20_Bytes.mono _ _)
      | (with_reducible exact LeO.refl _)
      | (with_reducible exact LeO.none _)
      | (with_reducible refine LeO.ite ?_ ?_)
      | (with_reducible refine LeO.bind ?_ (fun _ => ?_))
      | exact ih0 _ _
      | exact ih1 _ _
      | exact capnpref01_Words.mono _ _
      | exact capnpref20_Bytes.mono _ _
      | exact LeO.none _
      | refine LeO.ite ?_ ?_
      | refine LeO.bind ?_ (fun _ => ?_)
theorem capnpref24_Valid.mono : ∀ a0 a1 a2 k, LeO (capnpref24_Valid.f k a0 a1 a2) (capnpref24_Valid.f (k + 1) a0 a1 a2) := by
  intro a0 a1 a2 k
  obtain ⟨ih0, ih1⟩ := capnpref24_Valid.mono_l k
  unfold capnpref24_Valid.f
  repeat' first
      | (with_reducible exact ih0 _ _)
      | (with_reducible exact ih1 _ _)
      | (with_reducible exact capnpref01_Words.mono _ _)
      | (with_reducible exact capnpref20_Bytes.mono _ _)
      | (with_reducible exact LeO.refl _)
      | (with_reducible exact LeO.none _)
      | (with_reducible refine LeO.ite ?_ ?_)
      | (with_reducible refine LeO.bind ?_ (fun _ => ?_))
      | exact ih0 _ _
      | exact ih1 _ _
      | exact capnpref01_Words.mono _ _
      | exact capnpref20_Bytes.mono _ _
      | exact LeO.none _
      | refine LeO.ite ?_ ?_
      | refine LeO.bind ?_ (fun _ => ?_)
theorem capnpref24_Valid.calls (k : Nat) (A0_0 : Option Addr) (c0_0 : Nat) (l0_0 : List Int) (a0_1 : Int) (A0_2 : Option Addr) (c0_2 : Nat) (l0_2 : List Int) (r : Bool) (w : World) (hr0_0 : Kd.C (Kd.int .u8) w A0_0 l0_0.length l0_0) (hc0_0 : l0_0.length ≤ c0_0) (hr0_2 : Kd.C (Kd.int .u8) w A0_2 l0_2.length l0_2) (hc0_2 : l0_2.length ≤ c0_2) (h : capnpref24_Valid.f k l0_0 a0_1 l0_2 = some r) :
    Calls Try.prog 10 #[.agg #[.slice A0_0 l0_0.length c0_0, .int .i64 a0_1, .slice A0_2 l0_2.length c0_2]] w fun e w' => e = .returned (.bool r) ∧ Below w.heap.size w w' := by
  have hu24 := Try.underlying24
  have HR0_0 := Aside0.mk hr0_0
  have HC0_0 := Aside0.mk hc0_0
  clear hr0_0 hc0_0
  have HR0_2 := Aside0.mk hr0_2
  have HC0_2 := Aside0.mk hc0_2
  clear hr0_2 hc0_2
  have HB := Aside0.mk (Below.refl w.heap.size w)
  have H : ((capnpref01_Words.f k l0_2).bind fun bt265 => (if (l0_0.length : Int) > 7 then (capnpref24_Valid.j0 k bt265.1 true) else (if a0_1 < 0 then (capnpref24_Valid.j0 k bt265.1 true) else (if a0_1 > 255 then (capnpref24_Valid.j0 k bt265.1 true) else (if bt265.2 = true then (if (bt265.1.length : Int) > 255 then (capnpref24_Valid.j0 k bt265.1 true) else (if a0_1 > 0 then (capnpref24_Valid.j0 k bt265.1 (decide ((bt265.1.length : Int) > 0))) else (capnpref24_Valid.j0 k bt265.1 false))) else (capnpref24_Valid.j0 k bt265.1 true)))))) = some r := h
  clear h
  replace H := Option.bind_eq_some_iff.mp H
  obtain ⟨⟨t265, t266⟩, A20, H⟩ := H
  replace H : (if (l0_0.length : Int) > 7 then (capnpref24_Valid.j0 k t265 true) else (if a0_1 < 0 then (capnpref24_Valid.j0 k t265 true) else (if a0_1 > 255 then (capnpref24_Valid.j0 k t265 true) else (if t266 = true then (if (t265.length : Int) > 255 then (capnpref24_Valid.j0 k t265 true) else (if a0_1 > 0 then (capnpref24_Valid.j0 k t265 (decide ((t265.length : Int) > 0))) else (capnpref24_Valid.j0 k t265 false))) else (capnpref24_Valid.j0 k t265 true))))) = some r := H
  have A2 := Aside0.mk A20
  clear A20
  have HC3 := Aside0.mk H
  clear H
  go_enter Try.func10, Try.ntmps10
  go_upto_region 2 with (first | ((with_reducible refine gate_dst (N := 1) rfl ?_); (try (refine gate_guard (by rfl) ?_; dsimp only)); refine box_event ?hg (N := 1) ?hd (cs := #[.slice A0_0 l0_0.length c0_0, .int .i64 a0_1, .slice A0_2 l0_2.length c0_2]) (t := 24) ?hr ?_; (case hd => rfl); (case hg => rfl); (case hr => first | (go_simp; done) | (go_simp; rfl)); intro gb264 hg w4 hbox hb; have n0_ := Aside0.mk (below_step pB hb); have n1_ := Aside0.mk (hbox); have n2_ := Aside0.mk ((by rw [hg]; exact (below_size pB) : w.heap.size ≤ gb264)); have n3_ := Aside0.mk ((by rw [hg]; exact (below_size pB) : w.heap.size ≤ gb264)); clear HB; have HB := n0_; have BK264 := n1_; have GW264 := n2_; have GE264 := n3_; clear n0_ n1_ n2_ n3_; clear hb hbox hg; have hcz5_0 : w4.cell? ⟨gb264, 0, none⟩ = some (.slice A0_0 l0_0.length c0_0) := (blk_cell BK264.out 0).trans rfl; have hcz5_1 : w4.cell? ⟨gb264, 1, none⟩ = some (.int .i64 a0_1) := (blk_cell BK264.out 1).trans rfl; have hcz5_2 : w4.cell? ⟨gb264, 2, none⟩ = some (.slice A0_2 l0_2.length c0_2) := (blk_cell BK264.out 2).trans rfl; have hfz5_0 := blk_frozen BK264.out 0; have hfz5_1 := blk_frozen BK264.out 1; have hfz5_2 := blk_frozen BK264.out 2) | ((with_reducible refine gate_callee (f := 19) rfl ?_); refine goesL_ (some 10) rfl rfl Try.func19 (by kernel_rfl) rfl #[.slice A0_2 l0_2.length c0_2] rfl pM ?_; (with_reducible refine (capnpref01_Words.calls k _ _ l0_2 t265 t266 _ ?side1 ?side2 A2.out).mono ?_); (case side1 => repeat (first | exact (Kd.C_below HR0_2.out HB.out) | (with_reducible refine Kd.C_alloc ?_ _) | (with_reducible refine Kd.C_drewN ?_ _) | (with_reducible refine Kd.C_drew ?_))); (case side2 => exact HC0_2.out); rintro e w6 ⟨v267, rfl, ho0, hb⟩; refine ⟨_, rfl, ?_⟩; have n0_ := Aside0.mk (Kd.R_lower ho0 (below_size (by repeat (first | (with_reducible first | exact HB.out | apply below_alloc | apply pw_below_drewN | apply below_drew1 | refine below_set ?_ GE264.out) | exact HB.out)))); have n1_ := Aside0.mk (blk_below (g := gb264) (o := .cells #[.slice A0_0 l0_0.length c0_0, .int .i64 a0_1, .slice A0_2 l0_2.length c0_2] 24 (0, 0)) (pK BK264) hb); have n2_ := Aside0.mk (below_step (by repeat (first | (with_reducible first | exact HB.out | apply below_alloc | apply pw_below_drewN | apply below_drew1 | refine below_set ?_ GE264.out) | exact HB.out)) hb); clear BK264; clear HB; have HO268 := n0_; have BK264 := n1_; have HB := n2_; clear n0_ n1_ n2_; (try clear hb); (try clear hb2); (try clear hk); (try clear hi); (try clear ho0)))
  (try simp only [Act.put, List.setIfInBounds_toArray, List.set_cons_zero, List.set_cons_succ])
  go_cut [45] (fun v45 wc => ∃ (kq : Nat) (x45_2 : Bool), v45 = .bool x45_2 ∧ Aside0 (capnpref24_Valid.j0 kq t265 x45_2 = some r) ∧ Aside0 (kq ≤ k) ∧ Aside0 (Kd.R (Kd.int .u64) 53 wc w.heap.size (fun _ => True) v267 t265) ∧ Aside0 (wc.heap[gb264]? = some (.cells #[(.slice A0_0 l0_0.length c0_0), .int .i64 a0_1, (.slice A0_2 l0_2.length c0_2)] 24 (0, 0))) ∧ Aside0 (Below w.heap.size w wc))
  case first =>
    have H := HC3.out
    clear HC3
    by_cases c7 : (l0_0.length : Int) > 7
    · rw [if_pos c7] at H
      have c7b0 : decide (7 < (l0_0.length : Int)) = true := decide_eq_true c7
      have c7b1 : decide (7 < l0_0.length) = true := decide_eq_true (by omega)
      clear c7
      (first | rw [c7b0] | (simp only [i64_w, i32_w]; rw [c7b0]) | skip)
      have H' := Aside0.mk H
      clear H
      have hcz8_0 : w6.cell? ⟨gb264, 0, none⟩ = some (.slice A0_0 l0_0.length c0_0) := (blk_cell BK264.out 0).trans rfl
      have hcz8_1 : w6.cell? ⟨gb264, 1, none⟩ = some (.int .i64 a0_1) := (blk_cell BK264.out 1).trans rfl
      have hcz8_2 : w6.cell? ⟨gb264, 2, none⟩ = some (.slice A0_2 l0_2.length c0_2) := (blk_cell BK264.out 2).trans rfl
      have hfz8_0 := blk_frozen BK264.out 0
      have hfz8_1 := blk_frozen BK264.out 1
      have hfz8_2 := blk_frozen BK264.out 2
      go_wp2
      go_meet
      case rel => exact ⟨_, (true), (by first | rfl | (simp; done) | (simp [*]; done)), H', ⟨by first | omega | exact Nat.le_refl _⟩, ⟨pR HO268⟩, ⟨pK BK264⟩, ⟨by repeat (first | (with_reducible first | exact HB.out | apply below_alloc | apply pw_below_drewN | apply below_drew1 | refine below_set ?_ GE264.out) | exact HB.out)⟩⟩
    · rw [if_neg c7] at H
      have c7b0 : decide (7 < (l0_0.length : Int)) = false := decide_eq_false c7
      have c7b1 : decide (7 < l0_0.length) = false := decide_eq_false (by omega)
      clear c7
      (first | rw [c7b0] | (simp only [i64_w, i32_w]; rw [c7b0]) | skip)
      by_cases c9 : a0_1 < 0
      · rw [if_pos c9] at H
        have c9b0 : decide (a0_1 < 0) = true := decide_eq_true c9
        clear c9
        have H' := Aside0.mk H
        clear H
        have hcz10_0 : w6.cell? ⟨gb264, 0, none⟩ = some (.slice A0_0 l0_0.length c0_0) := (blk_cell BK264.out 0).trans rfl
        have hcz10_1 : w6.cell? ⟨gb264, 1, none⟩ = some (.int .i64 a0_1) := (blk_cell BK264.out 1).trans rfl
        have hcz10_2 : w6.cell? ⟨gb264, 2, none⟩ = some (.slice A0_2 l0_2.length c0_2) := (blk_cell BK264.out 2).trans rfl
        have hfz10_0 := blk_frozen BK264.out 0
        have hfz10_1 := blk_frozen BK264.out 1
        have hfz10_2 := blk_frozen BK264.out 2
        go_wp2
        go_meet
        case rel => exact ⟨_, (true), (by first | rfl | (simp; done) | (simp [*]; done)), H', ⟨by first | omega | exact Nat.le_refl _⟩, ⟨pR HO268⟩, ⟨pK BK264⟩, ⟨by repeat (first | (with_reducible first | exact HB.out | apply below_alloc | apply pw_below_drewN | apply below_drew1 | refine below_set ?_ GE264.out) | exact HB.out)⟩⟩
      · rw [if_neg c9] at H
        have c9b0 : decide (a0_1 < 0) = false := decide_eq_false c9
        clear c9
        by_cases c11 : a0_1 > 255
        · rw [if_pos c11] at H
          have c11b0 : decide (255 < a0_1) = true := decide_eq_true c11
          clear c11
          have H' := Aside0.mk H
          clear H
          have hcz12_0 : w6.cell? ⟨gb264, 0, none⟩ = some (.slice A0_0 l0_0.length c0_0) := (blk_cell BK264.out 0).trans rfl
          have hcz12_1 : w6.cell? ⟨gb264, 1, none⟩ = some (.int .i64 a0_1) := (blk_cell BK264.out 1).trans rfl
          have hcz12_2 : w6.cell? ⟨gb264, 2, none⟩ = some (.slice A0_2 l0_2.length c0_2) := (blk_cell BK264.out 2).trans rfl
          have hfz12_0 := blk_frozen BK264.out 0
          have hfz12_1 := blk_frozen BK264.out 1
          have hfz12_2 := blk_frozen BK264.out 2
          go_wp2
          go_meet
          case rel => exact ⟨_, (true), (by first | rfl | (simp; done) | (simp [*]; done)), H', ⟨by first | omega | exact Nat.le_refl _⟩, ⟨pR HO268⟩, ⟨pK BK264⟩, ⟨by repeat (first | (with_reducible first | exact HB.out | apply below_alloc | apply pw_below_drewN | apply below_drew1 | refine below_set ?_ GE264.out) | exact HB.out)⟩⟩
        · rw [if_neg c11] at H
          have c11b0 : decide (255 < a0_1) = false := decide_eq_false c11
          clear c11
          by_cases c13 : t266 = true
          · subst c13
            have H1 : (if (t265.length : Int) > 255 then (capnpref24_Valid.j0 k t265 true) else (if a0_1 > 0 then (capnpref24_Valid.j0 k t265 (decide ((t265.length : Int) > 0))) else (capnpref24_Valid.j0 k t265 false))) = some r := by rw [if_pos rfl] at H; exact H
            clear H
            have H := H1
            clear H1
            by_cases c14 : (t265.length : Int) > 255
            · rw [if_pos c14] at H
              have c14b0 : decide (255 < (t265.length : Int)) = true := decide_eq_true c14
              have c14b1 : decide (255 < t265.length) = true := decide_eq_true (by omega)
              clear c14
              have H' := Aside0.mk H
              clear H
              have hcz15_0 : w6.cell? ⟨gb264, 0, none⟩ = some (.slice A0_0 l0_0.length c0_0) := (blk_cell BK264.out 0).trans rfl
              have hcz15_1 : w6.cell? ⟨gb264, 1, none⟩ = some (.int .i64 a0_1) := (blk_cell BK264.out 1).trans rfl
              have hcz15_2 : w6.cell? ⟨gb264, 2, none⟩ = some (.slice A0_2 l0_2.length c0_2) := (blk_cell BK264.out 2).trans rfl
              have hfz15_0 := blk_frozen BK264.out 0
              have hfz15_1 := blk_frozen BK264.out 1
              have hfz15_2 := blk_frozen BK264.out 2
              obtain ⟨Ao16, co16, eo16⟩ := Kd.R_slice HO268.out
              subst eo16
              go_wp2
              go_meet
              case rel => exact ⟨_, (true), (by first | rfl | (simp; done) | (simp [*]; done)), H', ⟨by first | omega | exact Nat.le_refl _⟩, ⟨pR HO268⟩, ⟨pK BK264⟩, ⟨by repeat (first | (with_reducible first | exact HB.out | apply below_alloc | apply pw_below_drewN | apply below_drew1 | refine below_set ?_ GE264.out) | exact HB.out)⟩⟩
            · rw [if_neg c14] at H
              have c14b0 : decide (255 < (t265.length : Int)) = false := decide_eq_false c14
              have c14b1 : decide (255 < t265.length) = false := decide_eq_false (by omega)
              clear c14
              by_cases c17 : a0_1 > 0
              · rw [if_pos c17] at H
                have c17b0 : decide (0 < a0_1) = true := decide_eq_true c17
                clear c17
                have H' := Aside0.mk H
                clear H
                have hcz18_0 : w6.cell? ⟨gb264, 0, none⟩ = some (.slice A0_0 l0_0.length c0_0) := (blk_cell BK264.out 0).trans rfl
                have hcz18_1 : w6.cell? ⟨gb264, 1, none⟩ = some (.int .i64 a0_1) := (blk_cell BK264.out 1).trans rfl
                have hcz18_2 : w6.cell? ⟨gb264, 2, none⟩ = some (.slice A0_2 l0_2.length c0_2) := (blk_cell BK264.out 2).trans rfl
                have hfz18_0 := blk_frozen BK264.out 0
                have hfz18_1 := blk_frozen BK264.out 1
                have hfz18_2 := blk_frozen BK264.out 2
                obtain ⟨Ao19, co19, eo19⟩ := Kd.R_slice HO268.out
                subst eo19
                go_wp2
                go_meet
                case rel => exact ⟨_, (decide ((t265.length : Int) > 0)), (by first | rfl | (simp; done) | (simp [*]; done)), H', ⟨by first | omega | exact Nat.le_refl _⟩, ⟨pR HO268⟩, ⟨pK BK264⟩, ⟨by repeat (first | (with_reducible first | exact HB.out | apply below_alloc | apply pw_below_drewN | apply below_drew1 | refine below_set ?_ GE264.out) | exact HB.out)⟩⟩
              · rw [if_neg c17] at H
                have c17b0 : decide (0 < a0_1) = false := decide_eq_false c17
                clear c17
                have H' := Aside0.mk H
                clear H
                have hcz20_0 : w6.cell? ⟨gb264, 0, none⟩ = some (.slice A0_0 l0_0.length c0_0) := (blk_cell BK264.out 0).trans rfl
                have hcz20_1 : w6.cell? ⟨gb264, 1, none⟩ = some (.int .i64 a0_1) := (blk_cell BK264.out 1).trans rfl
                have hcz20_2 : w6.cell? ⟨gb264, 2, none⟩ = some (.slice A0_2 l0_2.length c0_2) := (blk_cell BK264.out 2).trans rfl
                have hfz20_0 := blk_frozen BK264.out 0
                have hfz20_1 := blk_frozen BK264.out 1
                have hfz20_2 := blk_frozen BK264.out 2
                obtain ⟨Ao21, co21, eo21⟩ := Kd.R_slice HO268.out
                subst eo21
                go_wp2
                go_meet
                case rel => exact ⟨_, (false), (by first | rfl | (simp; done) | (simp [*]; done)), H', ⟨by first | omega | exact Nat.le_refl _⟩, ⟨pR HO268⟩, ⟨pK BK264⟩, ⟨by repeat (first | (with_reducible first | exact HB.out | apply below_alloc | apply pw_below_drewN | apply below_drew1 | refine below_set ?_ GE264.out) | exact HB.out)⟩⟩
          · replace c13 := Bool.eq_false_iff.mpr c13
            subst c13
            have H1 : (capnpref24_Valid.j0 k t265 true) = some r := by rw [if_neg (show ¬ (false = true) by decide)] at H; exact H
            clear H
            have H := H1
            clear H1
            have H' := Aside0.mk H
            clear H
            have hcz22_0 : w6.cell? ⟨gb264, 0, none⟩ = some (.slice A0_0 l0_0.length c0_0) := (blk_cell BK264.out 0).trans rfl
            have hcz22_1 : w6.cell? ⟨gb264, 1, none⟩ = some (.int .i64 a0_1) := (blk_cell BK264.out 1).trans rfl
            have hcz22_2 : w6.cell? ⟨gb264, 2, none⟩ = some (.slice A0_2 l0_2.length c0_2) := (blk_cell BK264.out 2).trans rfl
            have hfz22_0 := blk_frozen BK264.out 0
            have hfz22_1 := blk_frozen BK264.out 1
            have hfz22_2 := blk_frozen BK264.out 2
            go_wp2
            go_meet
            case rel => exact ⟨_, (true), (by first | rfl | (simp; done) | (simp [*]; done)), H', ⟨by first | omega | exact Nat.le_refl _⟩, ⟨pR HO268⟩, ⟨pK BK264⟩, ⟨by repeat (first | (with_reducible first | exact HB.out | apply below_alloc | apply pw_below_drewN | apply below_drew1 | refine below_set ?_ GE264.out) | exact HB.out)⟩⟩
  case rest =>
    clear HC3
    try clear c1
    try clear p2
    try clear c7
    try clear c7b0
    try clear c7b1
    try clear c9
    try clear c9b0
    try clear c10
    try clear c11
    try clear c11b0
    try clear c13
    try clear c14
    try clear c14b0
    try clear c14b1
    try clear c17
    try clear c17b0
    try clear c19
    try clear hcz10_0
    try clear hcz10_1
    try clear hcz10_2
    try clear hcz12_0
    try clear hcz12_1
    try clear hcz12_2
    try clear hcz15_0
    try clear hcz15_1
    try clear hcz15_2
    try clear hcz18_0
    try clear hcz18_1
    try clear hcz18_2
    try clear hcz20_0
    try clear hcz20_1
    try clear hcz20_2
    try clear hcz22_0
    try clear hcz22_1
    try clear hcz22_2
    try clear hcz5_0
    try clear hcz5_1
    try clear hcz5_2
    try clear hcz8_0
    try clear hcz8_1
    try clear hcz8_2
    try clear hfz10_0
    try clear hfz10_1
    try clear hfz10_2
    try clear hfz12_0
    try clear hfz12_1
    try clear hfz12_2
    try clear hfz15_0
    try clear hfz15_1
    try clear hfz15_2
    try clear hfz18_0
    try clear hfz18_1
    try clear hfz18_2
    try clear hfz20_0
    try clear hfz20_1
    try clear hfz20_2
    try clear hfz22_0
    try clear hfz22_1
    try clear hfz22_2
    try clear hfz5_0
    try clear hfz5_1
    try clear hfz5_2
    try clear hfz8_0
    try clear hfz8_1
    try clear hfz8_2
    obtain ⟨kq, x45_2, rfl, HA, HJ2, HO_3, BK264, HB⟩ := hcut
    cases kq with
    | zero => exact absurd HA.out (by simp [capnpref24_Valid.j0])
    | succ kj2 =>
      have H := HA.out
      clear HA
      simp only [capnpref24_Valid.j0] at H
      by_cases c23 : x45_2 = true
      · subst c23
        have H1 : (some false) = some r := by rw [if_pos rfl] at H; exact H
        clear H
        have H := H1
        clear H1
        obtain rfl := Option.some.inj H
        go_wp2
        go_ret
        exact ⟨by first | rfl | (simp [errW_none, errW_some] <;> rfl) | (simp [*, errW_none, errW_some] <;> rfl), by repeat (first | (with_reducible first | exact HB.out | apply below_alloc | apply pw_below_drewN | apply below_drew1 | refine below_set ?_ GE264.out) | exact HB.out)⟩
      · replace c23 := Bool.eq_false_iff.mpr c23
        subst c23
        have H1 : (capnpref24_Valid.l0 kj2 t265 0) = some r := by rw [if_neg (show ¬ (false = true) by decide)] at H; exact H
        clear H
        have H := H1
        clear H1
        have H' := Aside0.mk H
        clear H
        go_wp2
        go_loopg [5] kj2 (fun kq v5 w' => ∃ (x5_2 : Int), v5 = .int .i64 x5_2 ∧ Aside0 (capnpref24_Valid.l0 kq t265 x5_2 = some r) ∧ Aside0 (kq ≤ kj2) ∧ Aside0 (Kd.R (Kd.int .u64) 53 w' w.heap.size (fun _ => True) v267 t265) ∧ Aside0 (w'.heap[gb264]? = some (.cells #[(.slice A0_0 l0_0.length c0_0), .int .i64 a0_1, (.slice A0_2 l0_2.length c0_2)] 24 (0, 0))) ∧ Aside0 (Below w.heap.size w w'))
        case atStart => exact ⟨(0), (by first | rfl | (simp; done) | (simp [*]; done)), H', ⟨Nat.le_refl _⟩, ⟨pR HO_3⟩, ⟨pK BK264⟩, ⟨by repeat (first | (with_reducible first | exact HB.out | apply below_alloc | apply pw_below_drewN | apply below_drew1 | refine below_set ?_ GE264.out) | exact HB.out)⟩⟩
        case round =>
          clear H'
          try clear c1
          try clear c2
          try clear p2
          try clear c7
          try clear c7b0
          try clear c7b1
          try clear c9
          try clear c9b0
          try clear c10
          try clear c11
          try clear c11b0
          try clear c13
          try clear c14
          try clear c14b0
          try clear c14b1
          try clear c17
          try clear c17b0
          try clear c19
          try clear c23
          try clear hcz10_0
          try clear hcz10_1
          try clear hcz10_2
          try clear hcz12_0
          try clear hcz12_1
          try clear hcz12_2
          try clear hcz15_0
          try clear hcz15_1
          try clear hcz15_2
          try clear hcz18_0
          try clear hcz18_1
          try clear hcz18_2
          try clear hcz20_0
          try clear hcz20_1
          try clear hcz20_2
          try clear hcz22_0
          try clear hcz22_1
          try clear hcz22_2
          try clear hcz5_0
          try clear hcz5_1
          try clear hcz5_2
          try clear hcz8_0
          try clear hcz8_1
          try clear hcz8_2
          try clear hfz10_0
          try clear hfz10_1
          try clear hfz10_2
          try clear hfz12_0
          try clear hfz12_1
          try clear hfz12_2
          try clear hfz15_0
          try clear hfz15_1
          try clear hfz15_2
          try clear hfz18_0
          try clear hfz18_1
          try clear hfz18_2
          try clear hfz20_0
          try clear hfz20_1
          try clear hfz20_2
          try clear hfz22_0
          try clear hfz22_1
          try clear hfz22_2
          try clear hfz5_0
          try clear hfz5_1
          try clear hfz5_2
          try clear hfz8_0
          try clear hfz8_1
          try clear hfz8_2
          try clear p2
          obtain ⟨x5_2, rfl, HA, HK2, HO_3, BK264, HB⟩ := hrel
          cases gk with
          | zero => exact absurd HA.out (by simp [capnpref24_Valid.l0])
          | succ k2 =>
            have H := HA.out
            clear HA
            simp only [capnpref24_Valid.l0] at H
            by_cases c24 : x5_2 < (t265.length : Int)
            · rw [if_pos c24] at H
              have c24b0 : decide (x5_2 < (t265.length : Int)) = true := decide_eq_true c24
              clear c24
              by_cases c25 : 0 ≤ x5_2
              · rw [if_pos c25] at H
                have c25b0 : decide (0 ≤ x5_2) = true := decide_eq_true c25
                clear c25
                replace H := Option.bind_eq_some_iff.mp H
                obtain ⟨t270, A260, H⟩ := H
                replace H : (if (t270.length : Int) < 7 then (some false) else (if x5_2 = 0 then (if (t270.length : Int) < 8 then (some false) else (capnpref24_Valid.l0 k2 t265 (wrap64 (x5_2 + 1)))) else (capnpref24_Valid.l0 k2 t265 (wrap64 (x5_2 + 1))))) = some r := H
                have A26 := Aside0.mk A260
                clear A260
                by_cases c27 : (t270.length : Int) < 7
                · rw [if_pos c27] at H
                  have c27b0 : decide ((t270.length : Int) < 7) = true := decide_eq_true c27
                  have c27b1 : decide (t270.length < 7) = true := decide_eq_true (by omega)
                  clear c27
                  obtain rfl := Option.some.inj H
                  obtain ⟨Ao28, co28, eo28⟩ := Kd.R_slice HO_3.out
                  subst eo28
                  have p269 : 0 ≤ (x5_2 : Int) := of_decide_eq_true pA
                  have q269 : x5_2 < (t265.length : Int) := of_decide_eq_true pA
                  obtain ⟨ad269, e269, hx269_0⟩ := Kd.at_int (Kd.R_reads' HO_3.out).2.2 x5_2 p269 q269
                  cases e269
                  replace p269 := eq_true p269
                  replace q269 := eq_true q269
                  go_wp2_with (first | ((with_reducible refine gate_callee (f := 25) rfl ?_); refine goesL_ (some 56) rfl rfl Try.func25 (by kernel_rfl) rfl #[.int .u64 (rd t265 x5_2)] rfl pM ?_; (with_reducible refine (capnpref20_Bytes.calls k2 (rd t265 x5_2) t270 _ A26.out).mono ?_); rintro e w29 ⟨v271, rfl, ho0, hb⟩; refine ⟨_, rfl, ?_⟩; have n0_ := Aside0.mk (Kd.R_below (pR HO_3) hb); have n1_ := Aside0.mk (Kd.R_lower ho0 (below_size (by repeat (first | (with_reducible first | exact HB.out | apply below_alloc | apply pw_below_drewN | apply below_drew1 | refine below_set ?_ GE264.out) | exact HB.out)))); have n2_ := Aside0.mk (blk_below (g := gb264) (o := .cells #[.slice A0_0 l0_0.length c0_0, .int .i64 a0_1, .slice A0_2 l0_2.length c0_2] 24 (0, 0)) (pK BK264) hb); have n3_ := Aside0.mk (below_step (by repeat (first | (with_reducible first | exact HB.out | apply below_alloc | apply pw_below_drewN | apply below_drew1 | refine below_set ?_ GE264.out) | exact HB.out)) hb); clear HO_3; clear BK264; clear HB; have HO_3 := n0_; have HO272 := n1_; have BK264 := n2_; have HB := n3_; clear n0_ n1_ n2_ n3_; (try clear hb); (try clear hb2); (try clear hk); (try clear hi); (try clear ho0); obtain ⟨Ao30, co30, eo30⟩ := Kd.R_slice HO272.out; subst eo30))
                  go_ret
                  exact ⟨by first | rfl | (simp [errW_none, errW_some] <;> rfl) | (simp [*, errW_none, errW_some] <;> rfl), by repeat (first | (with_reducible first | exact HB.out | apply below_alloc | apply pw_below_drewN | apply below_drew1 | refine below_set ?_ GE264.out) | exact HB.out)⟩
                · rw [if_neg c27] at H
                  have c27b0 : decide ((t270.length : Int) < 7) = false := decide_eq_false c27
                  have c27b1 : decide (t270.length < 7) = false := decide_eq_false (by omega)
                  clear c27
                  by_cases c31 : x5_2 = 0
                  · rw [if_pos c31] at H
                    have c31b0 : (x5_2 == 0) = true := beq_iff_eq.mpr c31
                    have c31b1 : (x5_2 != 0) = false := bne_eq_false_iff_eq.mpr c31
                    clear c31
                    by_cases c32 : (t270.length : Int) < 8
                    · rw [if_pos c32] at H
                      have c32b0 : decide ((t270.length : Int) < 8) = true := decide_eq_true c32
                      have c32b1 : decide (t270.length < 8) = true := decide_eq_true (by omega)
                      clear c32
                      obtain rfl := Option.some.inj H
                      obtain ⟨Ao33, co33, eo33⟩ := Kd.R_slice HO_3.out
                      subst eo33
                      have p269 : 0 ≤ (x5_2 : Int) := of_decide_eq_true pA
                      have q269 : x5_2 < (t265.length : Int) := of_decide_eq_true pA
                      obtain ⟨ad269, e269, hx269_0⟩ := Kd.at_int (Kd.R_reads' HO_3.out).2.2 x5_2 p269 q269
                      cases e269
                      replace p269 := eq_true p269
                      replace q269 := eq_true q269
                      go_wp2_with (first | ((with_reducible refine gate_callee (f := 25) rfl ?_); refine goesL_ (some 56) rfl rfl Try.func25 (by kernel_rfl) rfl #[.int .u64 (rd t265 x5_2)] rfl pM ?_; (with_reducible refine (capnpref20_Bytes.calls k2 (rd t265 x5_2) t270 _ A26.out).mono ?_); rintro e w34 ⟨v271, rfl, ho0, hb⟩; refine ⟨_, rfl, ?_⟩; have n0_ := Aside0.mk (Kd.R_below (pR HO_3) hb); have n1_ := Aside0.mk (Kd.R_lower ho0 (below_size (by repeat (first | (with_reducible first | exact HB.out | apply below_alloc | apply pw_below_drewN | apply below_drew1 | refine below_set ?_ GE264.out) | exact HB.out)))); have n2_ := Aside0.mk (blk_below (g := gb264) (o := .cells #[.slice A0_0 l0_0.length c0_0, .int .i64 a0_1, .slice A0_2 l0_2.length c0_2] 24 (0, 0)) (pK BK264) hb); have n3_ := Aside0.mk (below_step (by repeat (first | (with_reducible first | exact HB.out | apply below_alloc | apply pw_below_drewN | apply below_drew1 | refine below_set ?_ GE264.out) | exact HB.out)) hb); clear HO_3; clear BK264; clear HB; have HO_3 := n0_; have HO272 := n1_; have BK264 := n2_; have HB := n3_; clear n0_ n1_ n2_ n3_; (try clear hb); (try clear hb2); (try clear hk); (try clear hi); (try clear ho0); obtain ⟨Ao35, co35, eo35⟩ := Kd.R_slice HO272.out; subst eo35))
                      go_ret
                      exact ⟨by first | rfl | (simp [errW_none, errW_some] <;> rfl) | (simp [*, errW_none, errW_some] <;> rfl), by repeat (first | (with_reducible first | exact HB.out | apply below_alloc | apply pw_below_drewN | apply below_drew1 | refine below_set ?_ GE264.out) | exact HB.out)⟩
                    · rw [if_neg c32] at H
                      have c32b0 : decide ((t270.length : Int) < 8) = false := decide_eq_false c32
                      have c32b1 : decide (t270.length < 8) = false := decide_eq_false (by omega)
                      clear c32
                      have H' := Aside0.mk H
                      clear H
                      obtain ⟨Ao36, co36, eo36⟩ := Kd.R_slice HO_3.out
                      subst eo36
                      have p269 : 0 ≤ (x5_2 : Int) := of_decide_eq_true pA
                      have q269 : x5_2 < (t265.length : Int) := of_decide_eq_true pA
                      obtain ⟨ad269, e269, hx269_0⟩ := Kd.at_int (Kd.R_reads' HO_3.out).2.2 x5_2 p269 q269
                      cases e269
                      replace p269 := eq_true p269
                      replace q269 := eq_true q269
                      go_wp2_with (first | ((with_reducible refine gate_callee (f := 25) rfl ?_); refine goesL_ (some 56) rfl rfl Try.func25 (by kernel_rfl) rfl #[.int .u64 (rd t265 x5_2)] rfl pM ?_; (with_reducible refine (capnpref20_Bytes.calls k2 (rd t265 x5_2) t270 _ A26.out).mono ?_); rintro e w37 ⟨v271, rfl, ho0, hb⟩; refine ⟨_, rfl, ?_⟩; have n0_ := Aside0.mk (Kd.R_below (pR HO_3) hb); have n1_ := Aside0.mk (Kd.R_lower ho0 (below_size (by repeat (first | (with_reducible first | exact HB.out | apply below_alloc | apply pw_below_drewN | apply below_drew1 | refine below_set ?_ GE264.out) | exact HB.out)))); have n2_ := Aside0.mk (blk_below (g := gb264) (o := .cells #[.slice A0_0 l0_0.length c0_0, .int .i64 a0_1, .slice A0_2 l0_2.length c0_2] 24 (0, 0)) (pK BK264) hb); have n3_ := Aside0.mk (below_step (by repeat (first | (with_reducible first | exact HB.out | apply below_alloc | apply pw_below_drewN | apply below_drew1 | refine below_set ?_ GE264.out) | exact HB.out)) hb); clear HO_3; clear BK264; clear HB; have HO_3 := n0_; have HO272 := n1_; have BK264 := n2_; have HB := n3_; clear n0_ n1_ n2_ n3_; (try clear hb); (try clear hb2); (try clear hk); (try clear hi); (try clear ho0); obtain ⟨Ao38, co38, eo38⟩ := Kd.R_slice HO272.out; subst eo38))
                      go_roundg k2
                      case measure => have := HJ2.out; have := HK2.out; omega
                      case rel => exact ⟨(wrap64 (x5_2 + 1)), (by first | rfl | (simp; done) | (simp [*]; done)), H', ⟨by have := HJ2.out; have := HK2.out; omega⟩, ⟨pR HO_3⟩, ⟨pK BK264⟩, ⟨by repeat (first | (with_reducible first | exact HB.out | apply below_alloc | apply pw_below_drewN | apply below_drew1 | refine below_set ?_ GE264.out) | exact HB.out)⟩⟩
                  · rw [if_neg c31] at H
                    have c31b0 : (x5_2 == 0) = false := beq_eq_false_iff_ne.mpr c31
                    have c31b1 : (x5_2 != 0) = true := bne_iff_ne.mpr c31
                    have H' := Aside0.mk H
                    clear H
                    obtain ⟨Ao39, co39, eo39⟩ := Kd.R_slice HO_3.out
                    subst eo39
                    have p269 : 0 ≤ (x5_2 : Int) := of_decide_eq_true pA
                    have q269 : x5_2 < (t265.length : Int) := of_decide_eq_true pA
                    obtain ⟨ad269, e269, hx269_0⟩ := Kd.at_int (Kd.R_reads' HO_3.out).2.2 x5_2 p269 q269
                    cases e269
                    replace p269 := eq_true p269
                    replace q269 := eq_true q269
                    go_wp2_with (first | ((with_reducible refine gate_callee (f := 25) rfl ?_); refine goesL_ (some 56) rfl rfl Try.func25 (by kernel_rfl) rfl #[.int .u64 (rd t265 x5_2)] rfl pM ?_; (with_reducible refine (capnpref20_Bytes.calls k2 (rd t265 x5_2) t270 _ A26.out).mono ?_); rintro e w40 ⟨v271, rfl, ho0, hb⟩; refine ⟨_, rfl, ?_⟩; have n0_ := Aside0.mk (Kd.R_below (pR HO_3) hb); have n1_ := Aside0.mk (Kd.R_lower ho0 (below_size (by repeat (first | (with_reducible first | exact HB.out | apply below_alloc | apply pw_below_drewN | apply below_drew1 | refine below_set ?_ GE264.out) | exact HB.out)))); have n2_ := Aside0.mk (blk_below (g := gb264) (o := .cells #[.slice A0_0 l0_0.length c0_0, .int .i64 a0_1, .slice A0_2 l0_2.length c0_2] 24 (0, 0)) (pK BK264) hb); have n3_ := Aside0.mk (below_step (by repeat (first | (with_reducible first | exact HB.out | apply below_alloc | apply pw_below_drewN | apply below_drew1 | refine below_set ?_ GE264.out) | exact HB.out)) hb); clear HO_3; clear BK264; clear HB; have HO_3 := n0_; have HO272 := n1_; have BK264 := n2_; have HB := n3_; clear n0_ n1_ n2_ n3_; (try clear hb); (try clear hb2); (try clear hk); (try clear hi); (try clear ho0); obtain ⟨Ao41, co41, eo41⟩ := Kd.R_slice HO272.out; subst eo41))
                    go_roundg k2
                    case measure => have := HJ2.out; have := HK2.out; omega
                    case rel => exact ⟨(wrap64 (x5_2 + 1)), (by first | rfl | (simp; done) | (simp [*]; done)), H', ⟨by have := HJ2.out; have := HK2.out; omega⟩, ⟨pR HO_3⟩, ⟨pK BK264⟩, ⟨by repeat (first | (with_reducible first | exact HB.out | apply below_alloc | apply pw_below_drewN | apply below_drew1 | refine below_set ?_ GE264.out) | exact HB.out)⟩⟩
              · rw [if_neg c25] at H
                exact absurd H (by simp)
            · rw [if_neg c24] at H
              have c24b0 : decide (x5_2 < (t265.length : Int)) = false := decide_eq_false c24
              clear c24
              obtain rfl := Option.some.inj H
              obtain ⟨Ao42, co42, eo42⟩ := Kd.R_slice HO_3.out
              subst eo42
              go_wp2
              go_ret
              exact ⟨by first | rfl | (simp [errW_none, errW_some] <;> rfl) | (simp [*, errW_none, errW_some] <;> rfl), by repeat (first | (with_reducible first | exact HB.out | apply below_alloc | apply pw_below_drewN | apply below_drew1 | refine below_set ?_ GE264.out) | exact HB.out)⟩
def capnpref20_Of.l0 : Nat → List Int → Int → Int → Int → Option (Int)
  | 0, _, _, _, _ => none
  | k + 1, x3, x4, x5, x6 => if x6 < 8 then (if 0 ≤ x6 then (if x6 < (x3.length : Int) then (if (rd x3 x6) = 0 then (capnpref20_Of.l0 k x3 x4 (wrap64 (x5 * 2)) (wrap64 (x6 + 1))) else (capnpref20_Of.l0 k x3 (wrap64 (x4 + x5)) (wrap64 (x5 * 2)) (wrap64 (x6 + 1)))) else (none)) else (none)) else (some ((x4) % 256))
def capnpref20_Of.f (k : Nat) (a0 : Int) : Option (Int) := (capnpref01_Bytes.f k (([a0] : List Int))).bind fun t276 => (capnpref20_Of.l0 k t276 0 1 0)
theorem capnpref20_Of.mono_l : ∀ k, (∀ y0 y1 y2 y3, LeO (capnpref20_Of.l0 k y0 y1 y2 y3) (capnpref20_Of.l0 (k + 1) y0 y1 y2 y3))
  | 0 => fun _ _ _ _ r h => by simp [capnpref20_Of.l0] at h
  | k + 1 => by
    have ih0 := capnpref20_Of.mono_l k
    · intro y0 y1 y2 y3
      unfold capnpref20_Of.l0
      repeat' first
      | (with_reducible exact ih0 _ _ _ _)
      | (with_reducible exact capnpref01_Bytes.mono _ _)
      | (with_reducible exact LeO.refl _)
      | (with_reducible exact LeO.none _)
      | (with_reducible refine LeO.ite ?_ ?_)
      | (with_reducible refine LeO.bind ?_ (fun _ => ?_))
      | exact ih0 _ _ _ _
      | exact capnpref01_Bytes.mono _ _
      | exact LeO.none _
      | refine LeO.ite ?_ ?_
      | refine LeO.bind ?_ (fun _ => ?_)
theorem capnpref20_Of.mono : ∀ a0 k, LeO (capnpref20_Of.f k a0) (capnpref20_Of.f (k + 1) a0) := by
  intro a0 k
  have ih0 := capnpref20_Of.mono_l k
  unfold capnpref20_Of.f
  repeat' first
      | (with_reducible exact ih0 _ _ _ _)
      | (with_reducible exact capnpref01_Bytes.mono _ _)
      | (with_reducible exact LeO.refl _)
      | (with_reducible exact LeO.none _)
      | (with_reducible refine LeO.ite ?_ ?_)
      | (with_reducible refine LeO.bind ?_ (fun _ => ?_))
      | exact ih0 _ _ _ _
      | exact capnpref01_Bytes.mono _ _
      | exact LeO.none _
      | refine LeO.ite ?_ ?_
      | refine LeO.bind ?_ (fun _ => ?_)
theorem capnpref20_Of.calls (k : Nat) (a0 : Int) (r : Int) (w : World) (h : capnpref20_Of.f k a0 = some r) :
    Calls Try.prog 31 #[.int .u64 a0] w fun e w' => e = .returned (.int .u8 r) ∧ Below w.heap.size w w' := by
  have HB := Aside0.mk (Below.refl w.heap.size w)
  have H : ((capnpref01_Bytes.f k (([a0] : List Int))).bind fun t276 => (capnpref20_Of.l0 k t276 0 1 0)) = some r := h
  clear h
  obtain ⟨y273, hy273⟩ : ∃ y_ : List Int, y_ = (([a0] : List Int)) := ⟨_, rfl⟩
  replace H : ((capnpref01_Bytes.f k y273).bind fun t276 => (capnpref20_Of.l0 k t276 0 1 0)) = some r := by first | (rw [hy273]; with_reducible exact H) | (have H2_ := (Option.bind_some _ _).symm.trans H; rw [hy273]; with_reducible exact H2_) | (have H2_ := (Option.bind_some _ _).symm.trans H; with_reducible exact H2_) | with_reducible exact H | (rw [hy273]; exact H) | exact H
  have Ny273 := Aside0.mk hy273
  clear hy273
  replace H := Option.bind_eq_some_iff.mp H
  obtain ⟨t276, A20, H⟩ := H
  replace H : (capnpref20_Of.l0 k t276 0 1 0) = some r := H
  have A2 := Aside0.mk A20
  clear A20
  have H' := Aside0.mk H
  clear H
  go_enter Try.func31, Try.ntmps31
  go_wp2_with (first | ((with_reducible refine gate_dst (N := 8) rfl ?_); refine Kd.R_lit (Kd.int .u64) _ 53 ?hg (N := 8) ?hd (xs := ([a0] : List Int)) (inner := [.int .u64 a0]) (ok := fun _ => True) (okp := fun _ => True) ?hr ?hp (fun _ hk => hk) trivial (Below.refl _ _) (Nat.le_refl _) (by simp) ?_; (case hd => rfl); (case hg => rfl); (case hr => first | (go_simp; done) | (go_simp; rfl)); (case hp => exact (Reps.one (show Kd.M (Kd.int .u64) _ _ _ a0 [.int .u64 a0] from rfl) (Reps.none _ _))); intro v274 w3 ho4 hb hg_ hnew_; clear hg_ hnew_; (first | rw [← Ny273.out] at ho4 | (simp only [Int.reduceToNat] at ho4; rw [← Ny273.out] at ho4)); have n0_ := Aside0.mk (Kd.R_lower ho4 (below_size pB)); have n1_ := Aside0.mk (below_step pB hb); clear HB; have HO275 := n0_; have HB := n1_; clear n0_ n1_; clear hb ho4; obtain ⟨Ao5, co5, eo5⟩ := Kd.R_slice HO275.out; subst eo5) | ((with_reducible refine gate_callee (f := 29) rfl ?_); refine goesL_ (some 9) rfl rfl Try.func29 (by kernel_rfl) rfl #[.slice Ao5 y273.length co5] rfl pM ?_; (with_reducible refine (capnpref01_Bytes.calls k _ _ y273 t276 _ ?side1 ?side2 A2.out).mono ?_); (case side1 => repeat (first | exact (Kd.R_reads' HO275.out).2.2 | (with_reducible refine Kd.C_alloc ?_ _) | (with_reducible refine Kd.C_drewN ?_ _) | (with_reducible refine Kd.C_drew ?_))); (case side2 => exact (Kd.R_reads' HO275.out).2.1); rintro e w6 ⟨v277, rfl, ho0, hb⟩; refine ⟨_, rfl, ?_⟩; have n0_ := Aside0.mk (Kd.R_below (pR HO275) hb); have n1_ := Aside0.mk (Kd.R_lower ho0 (below_size pB)); have n2_ := Aside0.mk (below_step pB hb); clear HO275; clear HB; have HO275 := n0_; have HO278 := n1_; have HB := n2_; clear n0_ n1_ n2_; (try clear hb); (try clear hb2); (try clear hk); (try clear hi); (try clear ho0)))
  go_loopg [4, 5, 6] k (fun kq v4 v5 v6 w' => ∃ (x4_1 : Int) (x5_1 : Int) (x6_1 : Int), v4 = .int .i64 x4_1 ∧ v5 = .int .i64 x5_1 ∧ v6 = .int .i64 x6_1 ∧ Aside0 (capnpref20_Of.l0 kq t276 x4_1 x5_1 x6_1 = some r) ∧ Aside0 (kq ≤ k) ∧ Aside0 (Kd.R (Kd.int .u8) 5 w' w.heap.size (fun _ => True) v277 t276) ∧ Aside0 (Below w.heap.size w w'))
  case atStart => exact ⟨(0), (1), (0), (by first | rfl | (simp; done) | (simp [*]; done)), (by first | rfl | (simp; done) | (simp [*]; done)), (by first | rfl | (simp; done) | (simp [*]; done)), H', ⟨Nat.le_refl _⟩, ⟨pR HO278⟩, ⟨pB⟩⟩
  case round =>
    clear H'
    try clear c2
    try clear p2
    try clear c3
    obtain ⟨x4_1, x5_1, x6_1, rfl, rfl, rfl, HA, HK1, HO_3, HB⟩ := hrel
    cases gk with
    | zero => exact absurd HA.out (by simp [capnpref20_Of.l0])
    | succ k1 =>
      have H := HA.out
      clear HA
      simp only [capnpref20_Of.l0] at H
      by_cases c7 : x6_1 < 8
      · rw [if_pos c7] at H
        have c7b0 : decide (x6_1 < 8) = true := decide_eq_true c7
        clear c7
        by_cases c8 : 0 ≤ x6_1
        · rw [if_pos c8] at H
          have c8b0 : decide (0 ≤ x6_1) = true := decide_eq_true c8
          clear c8
          by_cases c9 : x6_1 < (t276.length : Int)
          · rw [if_pos c9] at H
            have c9b0 : decide (x6_1 < (t276.length : Int)) = true := decide_eq_true c9
            clear c9
            by_cases c10 : (rd t276 x6_1) = 0
            · rw [if_pos c10] at H
              have c10b0 : ((rd t276 x6_1) == 0) = true := beq_iff_eq.mpr c10
              have c10b1 : ((rd t276 x6_1) != 0) = false := bne_eq_false_iff_eq.mpr c10
              clear c10
              have H' := Aside0.mk H
              clear H
              obtain ⟨Ao11, co11, eo11⟩ := Kd.R_slice HO_3.out
              subst eo11
              have p279 : 0 ≤ (x6_1 : Int) := of_decide_eq_true pA
              have q279 : x6_1 < (t276.length : Int) := of_decide_eq_true pA
              obtain ⟨ad279, e279, hx279_0⟩ := Kd.at_int (Kd.R_reads' HO_3.out).2.2 x6_1 p279 q279
              cases e279
              replace p279 := eq_true p279
              replace q279 := eq_true q279
              go_wp2
              go_roundg k1
              case measure => have := HK1.out; omega
              case rel => exact ⟨(x4_1), (wrap64 (x5_1 * 2)), (wrap64 (x6_1 + 1)), (by first | rfl | (simp; done) | (simp [*]; done)), (by first | rfl | (simp; done) | (simp [*]; done)), (by first | rfl | (simp; done) | (simp [*]; done)), H', ⟨by have := HK1.out; omega⟩, ⟨pR HO_3⟩, ⟨pB⟩⟩
            · rw [if_neg c10] at H
              have c10b0 : ((rd t276 x6_1) == 0) = false := beq_eq_false_iff_ne.mpr c10
              have c10b1 : ((rd t276 x6_1) != 0) = true := bne_iff_ne.mpr c10
              have H' := Aside0.mk H
              clear H
              obtain ⟨Ao12, co12, eo12⟩ := Kd.R_slice HO_3.out
              subst eo12
              have p279 : 0 ≤ (x6_1 : Int) := of_decide_eq_true pA
              have q279 : x6_1 < (t276.length : Int) := of_decide_eq_true pA
              obtain ⟨ad279, e279, hx279_0⟩ := Kd.at_int (Kd.R_reads' HO_3.out).2.2 x6_1 p279 q279
              cases e279
              replace p279 := eq_true p279
              replace q279 := eq_true q279
              go_wp2
              go_roundg k1
              case measure => have := HK1.out; omega
              case rel => exact ⟨(wrap64 (x4_1 + x5_1)), (wrap64 (x5_1 * 2)), (wrap64 (x6_1 + 1)), (by first | rfl | (simp; done) | (simp [*]; done)), (by first | rfl | (simp; done) | (simp [*]; done)), (by first | rfl | (simp; done) | (simp [*]; done)), H', ⟨by have := HK1.out; omega⟩, ⟨pR HO_3⟩, ⟨pB⟩⟩
          · rw [if_neg c9] at H
            exact absurd H (by simp)
        · rw [if_neg c8] at H
          exact absurd H (by simp)
      · rw [if_neg c7] at H
        have c7b0 : decide (x6_1 < 8) = false := decide_eq_false c7
        clear c7
        obtain rfl := Option.some.inj H
        go_wp2
        go_ret
        exact ⟨by first | rfl | (simp [errW_none, errW_some] <;> rfl) | (simp [*, errW_none, errW_some] <;> rfl), pB⟩
def capnpref20_Dense.f (k : Nat) (a0 : Int) : Option (Bool) := (capnpref20_Bytes.f k a0).bind fun t280 => (some (decide ((t280.length : Int) ≥ 7)))
theorem capnpref20_Dense.mono : ∀ a0 k, LeO (capnpref20_Dense.f k a0) (capnpref20_Dense.f (k + 1) a0) := by
  intro a0 k
  unfold capnpref20_Dense.f
  repeat' first
      | (with_reducible exact capnpref20_Bytes.mono _ _)
      | (with_reducible exact LeO.refl _)
      | (with_reducible exact LeO.none _)
      | (with_reducible refine LeO.ite ?_ ?_)
      | (with_reducible refine LeO.bind ?_ (fun _ => ?_))
      | exact capnpref20_Bytes.mono _ _
      | exact LeO.none _
      | refine LeO.ite ?_ ?_
      | refine LeO.bind ?_ (fun _ => ?_)
theorem capnpref20_Dense.calls (k : Nat) (a0 : Int) (r : Bool) (w : World) (h : capnpref20_Dense.f k a0 = some r) :
    Calls Try.prog 32 #[.int .u64 a0] w fun e w' => e = .returned (.bool r) ∧ Below w.heap.size w w' := by
  have HB := Aside0.mk (Below.refl w.heap.size w)
  have H : ((capnpref20_Bytes.f k a0).bind fun t280 => (some (decide ((t280.length : Int) ≥ 7)))) = some r := h
  clear h
  replace H := Option.bind_eq_some_iff.mp H
  obtain ⟨t280, A20, H⟩ := H
  replace H : (some (decide ((t280.length : Int) ≥ 7))) = some r := H
  have A2 := Aside0.mk A20
  clear A20
  obtain rfl := Option.some.inj H
  go_enter Try.func32, Try.ntmps32
  go_wp2_with (first | ((with_reducible refine gate_callee (f := 25) rfl ?_); refine goesL_ (some 4) rfl rfl Try.func25 (by kernel_rfl) rfl #[.int .u64 a0] rfl pM ?_; (with_reducible refine (capnpref20_Bytes.calls k a0 t280 _ A2.out).mono ?_); rintro e w3 ⟨v281, rfl, ho0, hb⟩; refine ⟨_, rfl, ?_⟩; have n0_ := Aside0.mk (Kd.R_lower ho0 (below_size pB)); have n1_ := Aside0.mk (below_step pB hb); clear HB; have HO282 := n0_; have HB := n1_; clear n0_ n1_; (try clear hb); (try clear hb2); (try clear hk); (try clear hi); (try clear ho0); obtain ⟨Ao4, co4, eo4⟩ := Kd.R_slice HO282.out; subst eo4))
  go_ret
  exact ⟨by first | rfl | (simp [errW_none, errW_some] <;> rfl) | (simp [*, errW_none, errW_some] <;> rfl), pB⟩
end Go.Proofs.Ytibkbgaonjdpiaa.PPackstreamMatchesReference
