/- Printed functions of a law, and their walks. -/
import Derived.Test.YtpffoecblcfndaaDoorXShortC
import Derived.Test.YtpffoecblcfndaaDoorPUnpackstreamChunksx0C
import Derived.Test.YtpffoecblcfndaaDoorPUnpackstreamChunksx3C
import Derived.Test.YtpffoecblcfndaaDoorPUnpackstreamChunksx4C
namespace Go.Proofs.YtpffoecblcfndaaDoor.PUnpackstreamChunks
open Go.RowKit Go.Proofs.YtpffoecblcfndaaDoorW.PrintWords Go.Proofs.YtpffoecblcfndaaDoorW.PrintLast Go.Proofs.YtpffoecblcfndaaDoorW.PrintMore
open Go.Proofs.YtpffoecblcfndaaDoor.PVaBase
attribute [local go_sem] max2_int min2_int max_two min_two max_three min_three max_four min_four   -- for this text's walks alone
set_option linter.unusedVariables false
set_option linter.unusedSimpArgs false
set_option maxHeartbeats 8000000
set_option maxRecDepth 100000
mutual
def capnpref22_Decodable.l0 : Nat → List Int → List Int → Int → Option (List Int × Bool)
  | 0, _, _, _ => none
  | k + 1, x0, x4, x5 => if x5 < (x0.length : Int) then (if 0 ≤ x5 then (if (rd x0 x5) = 0 then (if (wrap64 (x5 + 1)) = (x0.length : Int) then (some (x4, true)) else (capnpref22_Decodable.l1 k x0 x4 (wrap64 (x5 + 1)) 0)) else (if 0 ≤ (wrap64 (x5 + 1)) then (if (wrap64 (x5 + 1)) ≤ (x0.length : Int) then ((capnpref20_Expand.f k (rd x0 x5) (x0.drop ((wrap64 (x5 + 1)) : Int).toNat)).bind fun bt226 => (if bt226.2.2 = true then (if x4.length < 17592186044416 then ((some (x4 ++ [bt226.1] : List Int)).bind fun y229 => (if (rd x0 x5) = 255 then (if (wrap64 ((wrap64 (x5 + 1)) + bt226.2.1)) = (x0.length : Int) then (some (y229, true)) else (if 0 ≤ (wrap64 ((wrap64 (x5 + 1)) + bt226.2.1)) then (if (wrap64 ((wrap64 (x5 + 1)) + bt226.2.1)) < (x0.length : Int) then (capnpref22_Decodable.l2 k x0 y229 (wrap64 ((wrap64 ((wrap64 (x5 + 1)) + bt226.2.1)) + 1)) (wrap64 (rd x0 (wrap64 ((wrap64 (x5 + 1)) + bt226.2.1)))) 0) else (none)) else (none))) else (capnpref22_Decodable.l0 k x0 y229 (wrap64 ((wrap64 (x5 + 1)) + bt226.2.1))))) else (none)) else (some (x4, true)))) else (none)) else (none))) else (none)) else (some (x4, false))
def capnpref22_Decodable.l1 : Nat → List Int → List Int → Int → Int → Option (List Int × Bool)
  | 0, _, _, _, _ => none
  | k + 1, x0, x4, x5, x7 => if 0 ≤ x5 then (if x5 < (x0.length : Int) then (if x7 ≤ (wrap64 (rd x0 x5)) then (if x4.length < 17592186044416 then (capnpref22_Decodable.l1 k x0 (x4 ++ [0]) x5 (wrap64 (x7 + 1))) else (none)) else (capnpref22_Decodable.l0 k x0 x4 (wrap64 (x5 + 1)))) else (none)) else (none)
def capnpref22_Decodable.l2 : Nat → List Int → List Int → Int → Int → Int → Option (List Int × Bool)
  | 0, _, _, _, _, _ => none
  | k + 1, x0, x4, x5, x11, x12 => if x12 < x11 then (if 0 ≤ x5 then (if x5 ≤ (x0.length : Int) then ((capnpref01_Get.f k (x0.drop (x5 : Int).toNat) 0).bind fun bt234 => (if bt234.2 = true then (if x4.length < 17592186044416 then (capnpref22_Decodable.l2 k x0 (x4 ++ [bt234.1]) (wrap64 (x5 + 8)) x11 (wrap64 (x12 + 1))) else (none)) else (some (x4, true)))) else (none)) else (none)) else (capnpref22_Decodable.l0 k x0 x4 x5)
end
def capnpref22_Decodable.f (k : Nat) (l0 : List Int) : Option (List Int × Bool) := capnpref22_Decodable.l0 k l0 ([] : List Int) 0
theorem capnpref22_Decodable.mono_l : ∀ k, (∀ y0 y1 y2, LeO (capnpref22_Decodable.l0 k y0 y1 y2) (capnpref22_Decodable.l0 (k + 1) y0 y1 y2)) ∧ (∀ y0 y1 y2 y3, LeO (capnpref22_Decodable.l1 k y0 y1 y2 y3) (capnpref22_Decodable.l1 (k + 1) y0 y1 y2 y3)) ∧ (∀ y0 y1 y2 y3 y4, LeO (capnpref22_Decodable.l2 k y0 y1 y2 y3 y4) (capnpref22_Decodable.l2 (k + 1) y0 y1 y2 y3 y4))
  | 0 => ⟨fun _ _ _ r h => by simp [capnpref22_Decodable.l0] at h, fun _ _ _ _ r h => by simp [capnpref22_Decodable.l1] at h, fun _ _ _ _ _ r h => by simp [capnpref22_Decodable.l2] at h⟩
  | k + 1 => by
    obtain ⟨ih0, ih1, ih2⟩ := capnpref22_Decodable.mono_l k
    refine ⟨?_, ?_, ?_⟩
    · intro y0 y1 y2
      unfold capnpref22_Decodable.l0
      repeat' first
      | (with_reducible exact ih0 _ _ _)
      | (with_reducible exact ih1 _ _ _ _)
      | (with_reducible exact ih2 _ _ _ _ _)
      | (with_reducible exact capnpref01_Get.mono _ _ _)
      | (with_reducible exact capnpref20_Expand.mono _ _ _)
      | (with_reducible exact LeO.refl _)
      | (with_reducible exact LeO.none _)
      | (with_reducible refine LeO.ite ?_ ?_)
      | (with_reducible refine LeO.bind ?_ (fun _ => ?_))
      | exact ih0 _ _ _
      | exact ih1 _ _ _ _
      | exact ih2 _ _ _ _ _
      | exact capnpref01_Get.mono _ _ _
      | exact capnpref20_Expand.mono _ _ _
      | exact LeO.none _
      | refine LeO.ite ?_ ?_
      | refine LeO.bind ?_ (fun _ => ?_)
    · intro y0 y1 y2 y3
      unfold capnpref22_Decodable.l1
      repeat' first
      | (with_reducible exact ih0 _ _ _)
      | (with_reducible exact ih1 _ _ _ _)
      | (with_reducible exact ih2 _ _ _ _ _)
      | (with_reducible exact capnpref01_Get.mono _ _ _)
      | (with_reducible exact capnpref20_Expand.mono _ _ _)
      | (with_reducible exact LeO.refl _)
      | (with_reducible exact LeO.none _)
      | (with_reducible refine LeO.ite ?_ ?_)
      | (with_reducible refine LeO.bind ?_ (fun _ => ?_))
      | exact ih0 _ _ _
      | exact ih1 _ _ _ _
      | exact ih2 _ _ _ _ _
      | exact capnpref01_Get.mono _ _ _
      | exact capnpref20_Expand.mono _ _ _
      | exact LeO.none _
      | refine LeO.ite ?_ ?_
      | refine LeO.bind ?_ (fun _ => ?_)
    · intro y0 y1 y2 y3 y4
      unfold capnpref22_Decodable.l2
      repeat' first
      | (with_reducible exact ih0 _ _ _)
      | (with_reducible exact ih1 _ _ _ _)
      | (with_reducible exact ih2 _ _ _ _ _)
      | (with_reducible exact capnpref01_Get.mono _ _ _)
      | (with_reducible exact capnpref20_Expand.mono _ _ _)
      | (with_reducible exact LeO.refl _)
      | (with_reducible exact LeO.none _)
      | (with_reducible refine LeO.ite ?_ ?_)
      | (with_reducible refine LeO.bind ?_ (fun _ => ?_))
      | exact ih0 _ _ _
      | exact ih1 _ _ _ _
      | exact ih2 _ _ _ _ _
      | exact capnpref01_Get.mono _ _ _
      | exact capnpref20_Expand.mono _ _ _
      | exact LeO.none _
      | refine LeO.ite ?_ ?_
      | refine LeO.bind ?_ (fun _ => ?_)
theorem capnpref22_Decodable.mono : ∀ a0 k, LeO (capnpref22_Decodable.f k a0) (capnpref22_Decodable.f (k + 1) a0) := by
  intro a0 k
  obtain ⟨ih0, ih1, ih2⟩ := capnpref22_Decodable.mono_l k
  unfold capnpref22_Decodable.f
  repeat' first
      | (with_reducible exact ih0 _ _ _)
      | (with_reducible exact ih1 _ _ _ _)
      | (with_reducible exact ih2 _ _ _ _ _)
      | (with_reducible exact capnpref01_Get.mono _ _ _)
      | (with_reducible exact capnpref20_Expand.mono _ _ _)
      | (with_reducible exact LeO.refl _)
      | (with_reducible exact LeO.none _)
      | (with_reducible refine LeO.ite ?_ ?_)
      | (with_reducible refine LeO.bind ?_ (fun _ => ?_))
      | exact ih0 _ _ _
      | exact ih1 _ _ _ _
      | exact ih2 _ _ _ _ _
      | exact capnpref01_Get.mono _ _ _
      | exact capnpref20_Expand.mono _ _ _
      | exact LeO.none _
      | refine LeO.ite ?_ ?_
      | refine LeO.bind ?_ (fun _ => ?_)
theorem capnpref22_Decodable.calls (k : Nat) (A0 : Option Addr) (c0 : Nat) (l0 : List Int) (r1 : List Int) (r2 : Bool) (w : World) (hr0 : Kd.C (Kd.int .u8) w A0 l0.length l0) (hc0 : l0.length ≤ c0) (h : capnpref22_Decodable.f k l0 = some (r1, r2)) :
    Calls Tryd.prog 24 #[.slice A0 l0.length c0] w fun e w' => ∃ v0_ : Value, e = .returned (.tuple #[v0_, .bool r2]) ∧ Kd.R (Kd.int .u64) 57 w' w.heap.size (fun _ => True) v0_ r1 ∧ Below w.heap.size w w' := by
  have HR0 := Aside0.mk hr0
  have HC0 := Aside0.mk hc0
  clear hr0 hc0
  have HB := Aside0.mk (Below.refl w.heap.size w)
  have H : (capnpref22_Decodable.l0 k l0 ([] : List Int) 0) = some (r1, r2) := h
  clear h
  have H' := Aside0.mk H
  clear H
  go_enter Tryd.func24, Tryd.ntmps24
  go_wp2
  go_loopg [4, 5] k (fun kq v4 v5 w' => ∃ (x4_1 : List Int) (x5_1 : Int), v5 = .int .i64 x5_1 ∧ Aside0 (capnpref22_Decodable.l0 kq l0 x4_1 x5_1 = some (r1, r2)) ∧ Aside0 (kq ≤ k) ∧ Aside0 (Kd.R (Kd.int .u64) 57 w' w.heap.size (fun _ => True) v4 x4_1) ∧ Aside0 (Below w.heap.size w w'))
  case atStart => exact ⟨(([] : List Int)), (0), (by first | rfl | (simp; done) | (simp [*]; done)), H', ⟨Nat.le_refl _⟩, ⟨by first | exact Kd.R_nil _ _ _ _ _ | exact Kd.N_nil _ _ _ _ _ | exact Kd.V_nil _ _ _ _ _ | exact Kd.Q_nil _ _ _ _ _ | exact Kd.S_nil _ _ _ _ _⟩, ⟨pB⟩⟩
  case round =>
    clear H'
    obtain ⟨x4_1, x5_1, rfl, HA, HK1, HO_4, HB⟩ := hrel
    cases gk with
    | zero => exact absurd HA.out (by simp [capnpref22_Decodable.l0])
    | succ k1 =>
      have H := HA.out
      clear HA
      simp only [capnpref22_Decodable.l0] at H
      by_cases c2 : x5_1 < (l0.length : Int)
      · rw [if_pos c2] at H
        have c2b0 : decide (x5_1 < (l0.length : Int)) = true := decide_eq_true c2
        clear c2
        by_cases c3 : 0 ≤ x5_1
        · rw [if_pos c3] at H
          have c3b0 : decide (0 ≤ x5_1) = true := decide_eq_true c3
          clear c3
          by_cases c4 : (rd l0 x5_1) = 0
          · rw [if_pos c4] at H
            have c4b0 : ((rd l0 x5_1) == 0) = true := beq_iff_eq.mpr c4
            have c4b1 : ((rd l0 x5_1) != 0) = false := bne_eq_false_iff_eq.mpr c4
            clear c4
            by_cases c5 : (wrap64 (x5_1 + 1)) = (l0.length : Int)
            · rw [if_pos c5] at H
              have c5b0 : ((wrap64 (x5_1 + 1)) == (l0.length : Int)) = true := beq_iff_eq.mpr c5
              have c5b1 : ((wrap64 (x5_1 + 1)) != (l0.length : Int)) = false := bne_eq_false_iff_eq.mpr c5
              clear c5
              simp only [Option.some.injEq, Prod.mk.injEq] at H
              obtain ⟨rfl, rfl⟩ := H
              have p220 : 0 ≤ (x5_1 : Int) := of_decide_eq_true pA
              have q220 : x5_1 < (l0.length : Int) := of_decide_eq_true pA
              obtain ⟨ad220, e220, hx220_0⟩ := Kd.at_int HR0.out x5_1 p220 q220
              cases e220
              replace hx220_0 := (HB.out.cell (World.block_lt_of_cell? w _ hx220_0)).trans hx220_0
              replace p220 := eq_true p220
              replace q220 := eq_true q220
              go_wp2
              go_ret2
              exact ⟨_, by first | rfl | (simp [errW_none, errW_some] <;> rfl) | (simp [*, errW_none, errW_some] <;> rfl), by (with_reducible repeat (first | apply Kd.R_alloc | apply Kd.R_drewN | apply Kd.R_drew)); exact HO_4.out, pB⟩
            · rw [if_neg c5] at H
              have c5b0 : ((wrap64 (x5_1 + 1)) == (l0.length : Int)) = false := beq_eq_false_iff_ne.mpr c5
              have c5b1 : ((wrap64 (x5_1 + 1)) != (l0.length : Int)) = true := bne_iff_ne.mpr c5
              have H' := Aside0.mk H
              clear H
              have p220 : 0 ≤ (x5_1 : Int) := of_decide_eq_true pA
              have q220 : x5_1 < (l0.length : Int) := of_decide_eq_true pA
              obtain ⟨ad220, e220, hx220_0⟩ := Kd.at_int HR0.out x5_1 p220 q220
              cases e220
              replace hx220_0 := (HB.out.cell (World.block_lt_of_cell? w _ hx220_0)).trans hx220_0
              replace p220 := eq_true p220
              replace q220 := eq_true q220
              go_wp2
              go_loopg [4, 7] k1 (fun kq v4 v7 w' => ∃ (x4_2 : List Int) (x7_2 : Int), v7 = .int .i64 x7_2 ∧ Aside0 (capnpref22_Decodable.l1 kq l0 x4_2 (wrap64 (x5_1 + 1)) x7_2 = some (r1, r2)) ∧ Aside0 (kq ≤ k1) ∧ Aside0 (Kd.R (Kd.int .u64) 57 w' w.heap.size (fun _ => True) v4 x4_2) ∧ Aside0 (Below w.heap.size w w'))
              case atStart => exact ⟨(x4_1), (0), (by first | rfl | (simp; done) | (simp [*]; done)), H', ⟨Nat.le_refl _⟩, ⟨pR HO_4⟩, ⟨pB⟩⟩
              case round =>
                clear H'
                try clear c2
                try clear c2b0
                try clear p2
                try clear q2
                try clear hx2
                try clear c3
                try clear c3b0
                try clear c4
                try clear c4b0
                try clear c4b1
                try clear c5
                try clear c5b0
                try clear c5b1
                try clear hx220_0
                try clear p220
                try clear q220
                obtain ⟨x4_2, x7_2, rfl, HA, HK2, HO_4, HB⟩ := hrel
                cases gk with
                | zero => exact absurd HA.out (by simp [capnpref22_Decodable.l1])
                | succ k2 =>
                  have H := HA.out
                  clear HA
                  simp only [capnpref22_Decodable.l1] at H
                  obtain ⟨ji6, hji6⟩ : ∃ j_ : Int, (wrap64 (x5_1 + 1)) = j_ := ⟨_, rfl⟩
                  replace H : (if 0 ≤ (ji6) then (if (ji6) < (l0.length : Int) then (if x7_2 ≤ (wrap64 (rd l0 (ji6))) then (if x4_2.length < 17592186044416 then (capnpref22_Decodable.l1 k2 l0 (x4_2 ++ [0]) (ji6) (wrap64 (x7_2 + 1))) else (none)) else (capnpref22_Decodable.l0 k2 l0 x4_2 (wrap64 ((ji6) + 1)))) else (none)) else (none)) = some (r1, r2) := by first | (rw [hji6] at H; exact H) | (simp only [hji6] at H ⊢; exact H)
                  (try rw [hji6] at c5b0)
                  (try rw [hji6] at c5b1)
                  have hji6w : (IntKind.i64.wrap (x5_1 + 1)) = ji6 := (i64_w _).trans hji6
                  by_cases c7 : 0 ≤ (ji6)
                  · rw [if_pos c7] at H
                    have c7b0 : decide (0 ≤ (ji6)) = true := decide_eq_true c7
                    clear c7
                    by_cases c8 : (ji6) < (l0.length : Int)
                    · rw [if_pos c8] at H
                      have c8b0 : decide ((ji6) < (l0.length : Int)) = true := decide_eq_true c8
                      clear c8
                      by_cases c9 : x7_2 ≤ (wrap64 (rd l0 (ji6)))
                      · rw [if_pos c9] at H
                        have c9b0 : decide (x7_2 ≤ (wrap64 (rd l0 (ji6)))) = true := decide_eq_true c9
                        clear c9
                        by_cases c10 : x4_2.length < 17592186044416
                        · rw [if_pos c10] at H
                          have LMc10 := Aside0.mk c10
                          clear c10
                          obtain ⟨y222, hy222⟩ : ∃ y_ : List Int, y_ = (x4_2 ++ [0]) := ⟨_, rfl⟩
                          replace H : (capnpref22_Decodable.l1 k2 l0 y222 (ji6) (wrap64 (x7_2 + 1))) = some (r1, r2) := by first | (rw [hy222]; with_reducible exact H) | (have H2_ := (Option.bind_some _ _).symm.trans H; rw [hy222]; with_reducible exact H2_) | (have H2_ := (Option.bind_some _ _).symm.trans H; with_reducible exact H2_) | with_reducible exact H | (rw [hy222]; exact H) | exact H
                          have Ny222 := Aside0.mk hy222
                          clear hy222
                          have H' := Aside0.mk H
                          clear H
                          have p221 : 0 ≤ ((ji6) : Int) := of_decide_eq_true pA
                          have q221 : (ji6) < (l0.length : Int) := of_decide_eq_true pA
                          obtain ⟨ad221, e221, hx221_0⟩ := Kd.at_int HR0.out (ji6) p221 q221
                          obtain rfl : ad220 = ad221 := (by injection e221)
                          replace hx221_0 := (HB.out.cell (World.block_lt_of_cell? w _ hx221_0)).trans hx221_0
                          replace p221 := eq_true p221
                          replace q221 := eq_true q221
                          go_wp2_with (first | ((with_reducible refine gate_builtin (b := .append) (xs := #[.tmp 41, .tmp 42]) rfl ?_); at_builtin; refine Kd.R_append (Kd.int .u64) (w0 := w) w.heap.size rfl (.tmp 41) (.tmp 42) 44 57 (.int .u64 0) 8 rfl Tryd.underlying44 info57 rfl (by decide) (by omega) u4 x4_2 0 [.int .u64 0] (fun _ => True) (fun _ => False) rfl rfl ?aP (fun _ hk => hk.elim) ?aF ?aO ?aB ?aS ?aL ?_; (case aP => exact rfl); (case aB => exact pB); (case aF => exact (fun _ _ => trivial)); (case aO => exact (pR HO_4)); (case aS => exact (below_size pB)); (case aL => have := LMc10.out; omega); intro v223 w11 ho hb hg hat; rw [← Ny222.out] at ho; have n0_ := Aside0.mk (hb); have n1_ := Aside0.mk (ho); clear HB; clear HO_4; have HB := n0_; have HO224 := n1_; clear n0_ n1_; clear ho hb hg hat))
                          (first | go_roundg k2 | ((try subst hji6); go_roundg k2))
                          case measure => have := HK1.out; have := HK2.out; omega
                          case rel => exact ⟨(y222), (wrap64 (x7_2 + 1)), (by first | rfl | (simp; done) | (simp [*]; done)), H', ⟨by have := HK1.out; have := HK2.out; omega⟩, ⟨pR HO224⟩, ⟨pB⟩⟩
                        · rw [if_neg c10] at H
                          exact absurd H (by simp)
                      · rw [if_neg c9] at H
                        have c9b0 : decide (x7_2 ≤ (wrap64 (rd l0 (ji6)))) = false := decide_eq_false c9
                        clear c9
                        have H' := Aside0.mk H
                        clear H
                        have p221 : 0 ≤ ((ji6) : Int) := of_decide_eq_true pA
                        have q221 : (ji6) < (l0.length : Int) := of_decide_eq_true pA
                        obtain ⟨ad221, e221, hx221_0⟩ := Kd.at_int HR0.out (ji6) p221 q221
                        obtain rfl : ad220 = ad221 := (by injection e221)
                        replace hx221_0 := (HB.out.cell (World.block_lt_of_cell? w _ hx221_0)).trans hx221_0
                        replace p221 := eq_true p221
                        replace q221 := eq_true q221
                        go_wp2
                        (first | go_roundg k2 | ((try subst hji6); go_roundg k2))
                        case measure => have := HK1.out; have := HK2.out; omega
                        case rel => exact ⟨(x4_2), (wrap64 ((ji6) + 1)), (by first | rfl | (simp; done) | (simp only [← hji6] <;> (first | rfl | simp)) | (simp [*]; done)), H', ⟨by have := HK1.out; have := HK2.out; omega⟩, ⟨pR HO_4⟩, ⟨pB⟩⟩
                    · rw [if_neg c8] at H
                      exact absurd H (by simp)
                  · rw [if_neg c7] at H
                    exact absurd H (by simp)
          · rw [if_neg c4] at H
            have c4b0 : ((rd l0 x5_1) == 0) = false := beq_eq_false_iff_ne.mpr c4
            have c4b1 : ((rd l0 x5_1) != 0) = true := bne_iff_ne.mpr c4
            try subst hji6
            obtain ⟨ji12, hji12⟩ : ∃ j_ : Int, (wrap64 (x5_1 + 1)) = j_ := ⟨_, rfl⟩
            replace H : (if 0 ≤ (ji12) then (if (ji12) ≤ (l0.length : Int) then ((capnpref20_Expand.f k1 (rd l0 x5_1) (l0.drop ((ji12) : Int).toNat)).bind fun bt226 => (if bt226.2.2 = true then (if x4_1.length < 17592186044416 then ((some (x4_1 ++ [bt226.1] : List Int)).bind fun y229 => (if (rd l0 x5_1) = 255 then (if (wrap64 ((ji12) + bt226.2.1)) = (l0.length : Int) then (some (y229, true)) else (if 0 ≤ (wrap64 ((ji12) + bt226.2.1)) then (if (wrap64 ((ji12) + bt226.2.1)) < (l0.length : Int) then (capnpref22_Decodable.l2 k1 l0 y229 (wrap64 ((wrap64 ((ji12) + bt226.2.1)) + 1)) (wrap64 (rd l0 (wrap64 ((ji12) + bt226.2.1)))) 0) else (none)) else (none))) else (capnpref22_Decodable.l0 k1 l0 y229 (wrap64 ((ji12) + bt226.2.1))))) else (none)) else (some (x4_1, true)))) else (none)) else (none)) = some (r1, r2) := by first | (rw [hji12] at H; exact H) | (simp only [hji12] at H ⊢; exact H)
            have hji12w : (IntKind.i64.wrap (x5_1 + 1)) = ji12 := (i64_w _).trans hji12
            by_cases c13 : 0 ≤ (ji12)
            · rw [if_pos c13] at H
              have c13b0 := eq_true c13
              have c13b1 : decide (0 ≤ (ji12)) = true := decide_eq_true c13
              clear c13
              by_cases c14 : (ji12) ≤ (l0.length : Int)
              · rw [if_pos c14] at H
                have c14b0 := eq_true c14
                have c14b1 : decide ((ji12) ≤ (l0.length : Int)) = true := decide_eq_true c14
                clear c14
                replace H := Option.bind_eq_some_iff.mp H
                obtain ⟨⟨t226, t227, t228⟩, A150, H⟩ := H
                replace H : (if t228 = true then (if x4_1.length < 17592186044416 then ((some (x4_1 ++ [t226] : List Int)).bind fun y229 => (if (rd l0 x5_1) = 255 then (if (wrap64 ((ji12) + t227)) = (l0.length : Int) then (some (y229, true)) else (if 0 ≤ (wrap64 ((ji12) + t227)) then (if (wrap64 ((ji12) + t227)) < (l0.length : Int) then (capnpref22_Decodable.l2 k1 l0 y229 (wrap64 ((wrap64 ((ji12) + t227)) + 1)) (wrap64 (rd l0 (wrap64 ((ji12) + t227)))) 0) else (none)) else (none))) else (capnpref22_Decodable.l0 k1 l0 y229 (wrap64 ((ji12) + t227))))) else (none)) else (some (x4_1, true))) = some (r1, r2) := H
                have A15 := Aside0.mk A150
                clear A150
                by_cases c16 : t228 = true
                · subst c16
                  have H1 : (if x4_1.length < 17592186044416 then ((some (x4_1 ++ [t226] : List Int)).bind fun y229 => (if (rd l0 x5_1) = 255 then (if (wrap64 ((ji12) + t227)) = (l0.length : Int) then (some (y229, true)) else (if 0 ≤ (wrap64 ((ji12) + t227)) then (if (wrap64 ((ji12) + t227)) < (l0.length : Int) then (capnpref22_Decodable.l2 k1 l0 y229 (wrap64 ((wrap64 ((ji12) + t227)) + 1)) (wrap64 (rd l0 (wrap64 ((ji12) + t227)))) 0) else (none)) else (none))) else (capnpref22_Decodable.l0 k1 l0 y229 (wrap64 ((ji12) + t227))))) else (none)) = some (r1, r2) := by rw [if_pos rfl] at H; exact H
                  clear H
                  have H := H1
                  clear H1
                  by_cases c17 : x4_1.length < 17592186044416
                  · rw [if_pos c17] at H
                    have LMc17 := Aside0.mk c17
                    clear c17
                    obtain ⟨y229, hy229⟩ : ∃ y_ : List Int, y_ = (x4_1 ++ [t226]) := ⟨_, rfl⟩
                    replace H : (if (rd l0 x5_1) = 255 then (if (wrap64 ((ji12) + t227)) = (l0.length : Int) then (some (y229, true)) else (if 0 ≤ (wrap64 ((ji12) + t227)) then (if (wrap64 ((ji12) + t227)) < (l0.length : Int) then (capnpref22_Decodable.l2 k1 l0 y229 (wrap64 ((wrap64 ((ji12) + t227)) + 1)) (wrap64 (rd l0 (wrap64 ((ji12) + t227)))) 0) else (none)) else (none))) else (capnpref22_Decodable.l0 k1 l0 y229 (wrap64 ((ji12) + t227)))) = some (r1, r2) := by first | (rw [hy229]; with_reducible exact H) | (have H2_ := (Option.bind_some _ _).symm.trans H; rw [hy229]; with_reducible exact H2_) | (have H2_ := (Option.bind_some _ _).symm.trans H; with_reducible exact H2_) | with_reducible exact H | (rw [hy229]; exact H) | exact H
                    have Ny229 := Aside0.mk hy229
                    clear hy229
                    by_cases c18 : (rd l0 x5_1) = 255
                    · rw [if_pos c18] at H
                      have c18b0 : ((rd l0 x5_1) == 255) = true := beq_iff_eq.mpr c18
                      have c18b1 : ((rd l0 x5_1) != 255) = false := bne_eq_false_iff_eq.mpr c18
                      clear c18
                      by_cases c19 : (wrap64 ((ji12) + t227)) = (l0.length : Int)
                      · rw [if_pos c19] at H
                        have c19b0 : ((wrap64 ((ji12) + t227)) == (l0.length : Int)) = true := beq_iff_eq.mpr c19
                        have c19b1 : ((wrap64 ((ji12) + t227)) != (l0.length : Int)) = false := bne_eq_false_iff_eq.mpr c19
                        clear c19
                        simp only [Option.some.injEq, Prod.mk.injEq] at H
                        obtain ⟨rfl, rfl⟩ := H
                        have p220 : 0 ≤ (x5_1 : Int) := of_decide_eq_true pA
                        have q220 : x5_1 < (l0.length : Int) := of_decide_eq_true pA
                        obtain ⟨ad220, e220, hx220_0⟩ := Kd.at_int HR0.out x5_1 p220 q220
                        cases e220
                        replace hx220_0 := (HB.out.cell (World.block_lt_of_cell? w _ hx220_0)).trans hx220_0
                        replace p220 := eq_true p220
                        replace q220 := eq_true q220
                        obtain ⟨i020, hi020, _, hsz20, _⟩ := info_parts info5
                        obtain ⟨A20, hcut20, hA20, hC20⟩ := print_drop_of (P := Tryd.prog) (Value.int .u8) 0 22 5 .i64 Tryd.underlying22 hi020 hsz20 (some ad220) c0 l0 (ji12) (of_decide_eq_true pA) (of_decide_eq_true pA) HC0.out
                        have HR225 := Aside0.mk (Kd.C_of_reads (h1 := fun _ => rfl) (hA20 _ (Kd.reads_of_C HR0.out)))
                        have HC225 := Aside0.mk hC20
                        clear hA20 hC20 hi020 hsz20
                        go_wp2_with (first | ((with_reducible refine gate_callee (f := 28) rfl ?_); refine goesL_ (some 51) rfl rfl Tryd.func28 (by kernel_rfl) rfl #[.int .u8 (rd l0 x5_1), .slice A20 (l0.drop ((ji12) : Int).toNat).length (c0 - (ji12).toNat)] rfl (by (try simp only [List.map_toArray, List.map_cons, List.map_nil]); first | done | (rw [show (l0.drop ((ji12) : Int).toNat).length = (l0.length - (ji12).toNat) from List.length_drop] <;> rfl) | (simp only [hji12]; rfl) | rfl | (simp only [List.length_drop, List.length_take]; rfl)) ?_; (with_reducible refine (capnpref20_Expand.calls k1 (rd l0 x5_1) _ _ (l0.drop ((ji12) : Int).toNat) t226 t227 true _ ?side1 ?side2 A15.out).mono ?_); (case side1 => repeat (first | exact (Kd.C_below HR225.out HB.out) | (with_reducible refine Kd.C_alloc ?_ _) | (with_reducible refine Kd.C_drewN ?_ _) | (with_reducible refine Kd.C_drew ?_))); (case side2 => exact HC225.out); rintro e w21 ⟨rfl, hb⟩; refine ⟨_, rfl, ?_⟩; have n0_ := Aside0.mk (Kd.R_below (pR HO_4) hb); have n1_ := Aside0.mk (below_step pB hb); clear HO_4; clear HB; have HO_4 := n0_; have HB := n1_; clear n0_ n1_; (try clear hb); (try clear hb2); (try clear hk); (try clear hi)) | ((with_reducible refine gate_builtin (b := .append) (xs := #[.tmp 58, .tmp 60]) rfl ?_); at_builtin; refine Kd.R_append (Kd.int .u64) (w0 := w) w.heap.size rfl (.tmp 58) (.tmp 60) 44 57 (.int .u64 0) 8 rfl Tryd.underlying44 info57 rfl (by decide) (by omega) u4 x4_1 t226 [.int .u64 t226] (fun _ => True) (fun _ => False) rfl rfl ?aP (fun _ hk => hk.elim) ?aF ?aO ?aB ?aS ?aL ?_; (case aP => exact rfl); (case aB => exact pB); (case aF => exact (fun _ _ => trivial)); (case aO => exact (pR HO_4)); (case aS => exact (below_size pB)); (case aL => have := LMc17.out; omega); intro v230 w22 ho hb hg hat; rw [← Ny229.out] at ho; have n0_ := Aside0.mk (hb); have n1_ := Aside0.mk (ho); clear HB; clear HO_4; have HB := n0_; have HO231 := n1_; clear n0_ n1_; clear ho hb hg hat))
                        go_ret2
                        exact ⟨_, by first | rfl | (simp [errW_none, errW_some] <;> rfl) | (simp only [← hji12]; first | rfl | (simp [errW_none, errW_some] <;> rfl)) | (simp [*, errW_none, errW_some] <;> rfl), by (with_reducible repeat (first | apply Kd.R_alloc | apply Kd.R_drewN | apply Kd.R_drew)); exact HO231.out, pB⟩
                      · rw [if_neg c19] at H
                        have c19b0 : ((wrap64 ((ji12) + t227)) == (l0.length : Int)) = false := beq_eq_false_iff_ne.mpr c19
                        have c19b1 : ((wrap64 ((ji12) + t227)) != (l0.length : Int)) = true := bne_iff_ne.mpr c19
                        obtain ⟨ji23, hji23⟩ : ∃ j_ : Int, (wrap64 ((ji12) + t227)) = j_ := ⟨_, rfl⟩
                        replace H : (if 0 ≤ (ji23) then (if (ji23) < (l0.length : Int) then (capnpref22_Decodable.l2 k1 l0 y229 (wrap64 ((ji23) + 1)) (wrap64 (rd l0 (ji23))) 0) else (none)) else (none)) = some (r1, r2) := by first | (rw [hji23] at H; exact H) | (simp only [hji23] at H ⊢; exact H)
                        (try rw [hji23] at c19b0)
                        (try rw [hji23] at c19b1)
                        (try rw [hji23] at A15)
                        have hji23w : (IntKind.i64.wrap ((ji12) + t227)) = ji23 := (i64_w _).trans hji23
                        by_cases c24 : 0 ≤ (ji23)
                        · rw [if_pos c24] at H
                          have c24b0 : decide (0 ≤ (ji23)) = true := decide_eq_true c24
                          clear c24
                          by_cases c25 : (ji23) < (l0.length : Int)
                          · rw [if_pos c25] at H
                            have c25b0 : decide ((ji23) < (l0.length : Int)) = true := decide_eq_true c25
                            clear c25
                            have H' := Aside0.mk H
                            clear H
                            have p220 : 0 ≤ (x5_1 : Int) := of_decide_eq_true pA
                            have q220 : x5_1 < (l0.length : Int) := of_decide_eq_true pA
                            obtain ⟨ad220, e220, hx220_0⟩ := Kd.at_int HR0.out x5_1 p220 q220
                            cases e220
                            replace hx220_0 := (HB.out.cell (World.block_lt_of_cell? w _ hx220_0)).trans hx220_0
                            replace p220 := eq_true p220
                            replace q220 := eq_true q220
                            obtain ⟨i026, hi026, _, hsz26, _⟩ := info_parts info5
                            obtain ⟨A26, hcut26, hA26, hC26⟩ := print_drop_of (P := Tryd.prog) (Value.int .u8) 0 22 5 .i64 Tryd.underlying22 hi026 hsz26 (some ad220) c0 l0 (ji12) (of_decide_eq_true pA) (of_decide_eq_true pA) HC0.out
                            have HR225 := Aside0.mk (Kd.C_of_reads (h1 := fun _ => rfl) (hA26 _ (Kd.reads_of_C HR0.out)))
                            have HC225 := Aside0.mk hC26
                            clear hA26 hC26 hi026 hsz26
                            go_wp2_with (first | ((with_reducible refine gate_callee (f := 28) rfl ?_); refine goesL_ (some 51) rfl rfl Tryd.func28 (by kernel_rfl) rfl #[.int .u8 (rd l0 x5_1), .slice A26 (l0.drop ((ji12) : Int).toNat).length (c0 - (ji12).toNat)] rfl (by (try simp only [List.map_toArray, List.map_cons, List.map_nil]); first | done | (rw [show (l0.drop ((ji12) : Int).toNat).length = (l0.length - (ji12).toNat) from List.length_drop] <;> rfl) | (simp only [hji12]; rfl) | rfl | (simp only [List.length_drop, List.length_take]; rfl)) ?_; (with_reducible refine (capnpref20_Expand.calls k1 (rd l0 x5_1) _ _ (l0.drop ((ji12) : Int).toNat) t226 t227 true _ ?side1 ?side2 A15.out).mono ?_); (case side1 => repeat (first | exact (Kd.C_below HR225.out HB.out) | (with_reducible refine Kd.C_alloc ?_ _) | (with_reducible refine Kd.C_drewN ?_ _) | (with_reducible refine Kd.C_drew ?_))); (case side2 => exact HC225.out); rintro e w27 ⟨rfl, hb⟩; refine ⟨_, rfl, ?_⟩; have n0_ := Aside0.mk (Kd.R_below (pR HO_4) hb); have n1_ := Aside0.mk (below_step pB hb); clear HO_4; clear HB; have HO_4 := n0_; have HB := n1_; clear n0_ n1_; (try clear hb); (try clear hb2); (try clear hk); (try clear hi)) | ((with_reducible refine gate_builtin (b := .append) (xs := #[.tmp 58, .tmp 60]) rfl ?_); at_builtin; refine Kd.R_append (Kd.int .u64) (w0 := w) w.heap.size rfl (.tmp 58) (.tmp 60) 44 57 (.int .u64 0) 8 rfl Tryd.underlying44 info57 rfl (by decide) (by omega) u4 x4_1 t226 [.int .u64 t226] (fun _ => True) (fun _ => False) rfl rfl ?aP (fun _ hk => hk.elim) ?aF ?aO ?aB ?aS ?aL ?_; (case aP => exact rfl); (case aB => exact pB); (case aF => exact (fun _ _ => trivial)); (case aO => exact (pR HO_4)); (case aS => exact (below_size pB)); (case aL => have := LMc17.out; omega); intro v230 w28 ho hb hg hat; rw [← Ny229.out] at ho; have n0_ := Aside0.mk (hb); have n1_ := Aside0.mk (ho); clear HB; clear HO_4; have HB := n0_; have HO231 := n1_; clear n0_ n1_; clear ho hb hg hat; have p232 : 0 ≤ ((ji23) : Int) := of_decide_eq_true pA; have q232 : (ji23) < (l0.length : Int) := of_decide_eq_true pA; obtain ⟨ad232, e232, hx232_0⟩ := Kd.at_int HR0.out (ji23) p232 q232; obtain rfl : ad220 = ad232 := (by injection e232); replace hx232_0 := (HB.out.cell (World.block_lt_of_cell? w _ hx232_0)).trans hx232_0; replace p232 := eq_true p232; replace q232 := eq_true q232))
                            go_loopg [4, 5, 12] k1 (fun kq v4 v5 v12 w' => ∃ (x4_2 : List Int) (x5_2 : Int) (x12_2 : Int), v5 = .int .i64 x5_2 ∧ v12 = .int .i64 x12_2 ∧ Aside0 (capnpref22_Decodable.l2 kq l0 x4_2 x5_2 (wrap64 (rd l0 (ji23))) x12_2 = some (r1, r2)) ∧ Aside0 (kq ≤ k1) ∧ Aside0 (Kd.R (Kd.int .u64) 57 w' w.heap.size (fun _ => True) v4 x4_2) ∧ Aside0 (Below w.heap.size w w'))
                            case atStart => exact ⟨(y229), (wrap64 ((ji23) + 1)), (0), (by first | rfl | (simp; done) | (simp only [← hji23] <;> (first | rfl | simp)) | (simp [*]; done)), (by first | rfl | (simp; done) | (simp [*]; done)), H', ⟨Nat.le_refl _⟩, ⟨pR HO231⟩, ⟨pB⟩⟩
                            case round =>
                              clear H'
                              try clear c1
                              try clear c2
                              try clear c2b0
                              try clear p2
                              try clear q2
                              try clear hx2
                              try clear c3
                              try clear c3b0
                              try clear c4
                              try clear c4b0
                              try clear c4b1
                              try clear c5
                              try clear c5b0
                              try clear c5b1
                              try clear p6
                              try clear c7
                              try clear c7b0
                              try clear c8
                              try clear c8b0
                              try clear c9
                              try clear c9b0
                              try clear c10
                              try clear c13
                              try clear c13b0
                              try clear c13b1
                              try clear c14
                              try clear c14b0
                              try clear c14b1
                              try clear c16
                              try clear c17
                              try clear c18
                              try clear c18b0
                              try clear c18b1
                              try clear c19
                              try clear c19b0
                              try clear c19b1
                              try clear p22
                              try clear q22
                              try clear hx22
                              try clear p23
                              try clear q23
                              try clear hx23
                              try clear c24
                              try clear c24b0
                              try clear c25
                              try clear c25b0
                              try clear c28
                              try clear hx220_0
                              try clear hx221_0
                              try clear hx232_0
                              try clear p2
                              try clear p220
                              try clear p221
                              try clear p232
                              try clear q2
                              try clear q220
                              try clear q221
                              try clear q232
                              obtain ⟨x4_2, x5_2, x12_2, rfl, rfl, HA, HK2, HO_4, HB⟩ := hrel
                              cases gk with
                              | zero => exact absurd HA.out (by simp [capnpref22_Decodable.l2])
                              | succ k2 =>
                                have H := HA.out
                                clear HA
                                simp only [capnpref22_Decodable.l2] at H
                                by_cases c29 : x12_2 < (wrap64 (rd l0 (ji23)))
                                · rw [if_pos c29] at H
                                  have c29b0 : decide (x12_2 < (wrap64 (rd l0 (ji23)))) = true := decide_eq_true c29
                                  clear c29
                                  by_cases c30 : 0 ≤ x5_2
                                  · rw [if_pos c30] at H
                                    have c30b0 := eq_true c30
                                    have c30b1 : decide (0 ≤ x5_2) = true := decide_eq_true c30
                                    clear c30
                                    by_cases c31 : x5_2 ≤ (l0.length : Int)
                                    · rw [if_pos c31] at H
                                      have c31b0 := eq_true c31
                                      have c31b1 : decide (x5_2 ≤ (l0.length : Int)) = true := decide_eq_true c31
                                      clear c31
                                      replace H := Option.bind_eq_some_iff.mp H
                                      obtain ⟨⟨t234, t235⟩, A320, H⟩ := H
                                      replace H : (if t235 = true then (if x4_2.length < 17592186044416 then (capnpref22_Decodable.l2 k2 l0 (x4_2 ++ [t234]) (wrap64 (x5_2 + 8)) (wrap64 (rd l0 (ji23))) (wrap64 (x12_2 + 1))) else (none)) else (some (x4_2, true))) = some (r1, r2) := H
                                      have A32 := Aside0.mk A320
                                      clear A320
                                      by_cases c33 : t235 = true
                                      · subst c33
                                        have H1 : (if x4_2.length < 17592186044416 then (capnpref22_Decodable.l2 k2 l0 (x4_2 ++ [t234]) (wrap64 (x5_2 + 8)) (wrap64 (rd l0 (ji23))) (wrap64 (x12_2 + 1))) else (none)) = some (r1, r2) := by rw [if_pos rfl] at H; exact H
                                        clear H
                                        have H := H1
                                        clear H1
                                        by_cases c34 : x4_2.length < 17592186044416
                                        · rw [if_pos c34] at H
                                          have LMc34 := Aside0.mk c34
                                          clear c34
                                          obtain ⟨y236, hy236⟩ : ∃ y_ : List Int, y_ = (x4_2 ++ [t234]) := ⟨_, rfl⟩
                                          replace H : (capnpref22_Decodable.l2 k2 l0 y236 (wrap64 (x5_2 + 8)) (wrap64 (rd l0 (ji23))) (wrap64 (x12_2 + 1))) = some (r1, r2) := by first | (rw [hy236]; with_reducible exact H) | (have H2_ := (Option.bind_some _ _).symm.trans H; rw [hy236]; with_reducible exact H2_) | (have H2_ := (Option.bind_some _ _).symm.trans H; with_reducible exact H2_) | with_reducible exact H | (rw [hy236]; exact H) | exact H
                                          have Ny236 := Aside0.mk hy236
                                          clear hy236
                                          have H' := Aside0.mk H
                                          clear H
                                          obtain ⟨i035, hi035, _, hsz35, _⟩ := info_parts info5
                                          obtain ⟨A35, hcut35, hA35, hC35⟩ := print_drop_of (P := Tryd.prog) (Value.int .u8) 0 22 5 .i64 Tryd.underlying22 hi035 hsz35 (some ad220) c0 l0 x5_2 (of_decide_eq_true pA) (of_decide_eq_true pA) HC0.out
                                          have HR233 := Aside0.mk (Kd.C_of_reads (h1 := fun _ => rfl) (hA35 _ (Kd.reads_of_C HR0.out)))
                                          have HC233 := Aside0.mk hC35
                                          clear hA35 hC35 hi035 hsz35
                                          go_wp2_with (first | ((with_reducible refine gate_callee (f := 30) rfl ?_); refine goesL_ (some 88) rfl rfl Tryd.func30 (by kernel_rfl) rfl #[.slice A35 (l0.drop (x5_2 : Int).toNat).length (c0 - x5_2.toNat), .int .i64 0] rfl (by (try simp only [List.map_toArray, List.map_cons, List.map_nil]); first | done | (rw [show (l0.drop (x5_2 : Int).toNat).length = (l0.length - x5_2.toNat) from List.length_drop] <;> rfl) | rfl | (simp only [List.length_drop, List.length_take]; rfl)) ?_; (with_reducible refine (capnpref01_Get.calls k2 _ _ (l0.drop (x5_2 : Int).toNat) 0 t234 true _ ?side1 ?side2 A32.out).mono ?_); (case side1 => repeat (first | exact (Kd.C_below HR233.out HB.out) | (with_reducible refine Kd.C_alloc ?_ _) | (with_reducible refine Kd.C_drewN ?_ _) | (with_reducible refine Kd.C_drew ?_))); (case side2 => exact HC233.out); rintro e w' ⟨rfl, ⟨nd, rfl⟩⟩; refine ⟨_, rfl, ?_⟩) | ((with_reducible refine gate_builtin (b := .append) (xs := #[.tmp 94, .tmp 96]) rfl ?_); at_builtin; refine Kd.R_append (Kd.int .u64) (w0 := w) w.heap.size rfl (.tmp 94) (.tmp 96) 44 57 (.int .u64 0) 8 rfl Tryd.underlying44 info57 rfl (by decide) (by omega) u4 x4_2 t234 [.int .u64 t234] (fun _ => True) (fun _ => False) rfl rfl ?aP (fun _ hk => hk.elim) ?aF ?aO ?aB ?aS ?aL ?_; (case aP => exact rfl); (case aB => exact pB); (case aF => exact (fun _ _ => trivial)); (case aO => exact (pR HO_4)); (case aS => exact (below_size pB)); (case aL => have := LMc34.out; omega); intro v237 w36 ho hb hg hat; rw [← Ny236.out] at ho; have n0_ := Aside0.mk (hb); have n1_ := Aside0.mk (ho); clear HB; clear HO_4; have HB := n0_; have HO238 := n1_; clear n0_ n1_; clear ho hb hg hat))
                                          (first | go_roundg k2 | ((try subst hji12); (try subst hji23); go_roundg k2))
                                          case measure => have := HK1.out; have := HK2.out; omega
                                          case rel => exact ⟨(y236), (wrap64 (x5_2 + 8)), (wrap64 (x12_2 + 1)), (by first | rfl | (simp; done) | (simp [*]; done)), (by first | rfl | (simp; done) | (simp [*]; done)), H', ⟨by have := HK1.out; have := HK2.out; omega⟩, ⟨pR HO238⟩, ⟨pB⟩⟩
                                        · rw [if_neg c34] at H
                                          exact absurd H (by simp)
                                      · replace c33 := Bool.eq_false_iff.mpr c33
                                        subst c33
                                        have H1 : (some (x4_2, true)) = some (r1, r2) := by rw [if_neg (show ¬ (false = true) by decide)] at H; exact H
                                        clear H
                                        have H := H1
                                        clear H1
                                        simp only [Option.some.injEq, Prod.mk.injEq] at H
                                        obtain ⟨rfl, rfl⟩ := H
                                        obtain ⟨i037, hi037, _, hsz37, _⟩ := info_parts info5
                                        obtain ⟨A37, hcut37, hA37, hC37⟩ := print_drop_of (P := Tryd.prog) (Value.int .u8) 0 22 5 .i64 Tryd.underlying22 hi037 hsz37 (some ad220) c0 l0 x5_2 (of_decide_eq_true pA) (of_decide_eq_true pA) HC0.out
                                        have HR233 := Aside0.mk (Kd.C_of_reads (h1 := fun _ => rfl) (hA37 _ (Kd.reads_of_C HR0.out)))
                                        have HC233 := Aside0.mk hC37
                                        clear hA37 hC37 hi037 hsz37
                                        go_wp2_with (first | ((with_reducible refine gate_callee (f := 30) rfl ?_); refine goesL_ (some 88) rfl rfl Tryd.func30 (by kernel_rfl) rfl #[.slice A37 (l0.drop (x5_2 : Int).toNat).length (c0 - x5_2.toNat), .int .i64 0] rfl (by (try simp only [List.map_toArray, List.map_cons, List.map_nil]); first | done | (rw [show (l0.drop (x5_2 : Int).toNat).length = (l0.length - x5_2.toNat) from List.length_drop] <;> rfl) | rfl | (simp only [List.length_drop, List.length_take]; rfl)) ?_; (with_reducible refine (capnpref01_Get.calls k2 _ _ (l0.drop (x5_2 : Int).toNat) 0 t234 false _ ?side1 ?side2 A32.out).mono ?_); (case side1 => repeat (first | exact (Kd.C_below HR233.out HB.out) | (with_reducible refine Kd.C_alloc ?_ _) | (with_reducible refine Kd.C_drewN ?_ _) | (with_reducible refine Kd.C_drew ?_))); (case side2 => exact HC233.out); rintro e w' ⟨rfl, ⟨nd, rfl⟩⟩; refine ⟨_, rfl, ?_⟩))
                                        go_ret2
                                        exact ⟨_, by first | rfl | (simp [errW_none, errW_some] <;> rfl) | (simp only [← hji12, ← hji23]; first | rfl | (simp [errW_none, errW_some] <;> rfl)) | (simp [*, errW_none, errW_some] <;> rfl), by (with_reducible repeat (first | apply Kd.R_alloc | apply Kd.R_drewN | apply Kd.R_drew)); exact HO_4.out, pB⟩
                                    · rw [if_neg c31] at H
                                      exact absurd H (by simp)
                                  · rw [if_neg c30] at H
                                    exact absurd H (by simp)
                                · rw [if_neg c29] at H
                                  have c29b0 : decide (x12_2 < (wrap64 (rd l0 (ji23)))) = false := decide_eq_false c29
                                  clear c29
                                  have H' := Aside0.mk H
                                  clear H
                                  go_wp2
                                  (first | go_roundg k2 | ((try subst hji12); (try subst hji23); go_roundg k2))
                                  case measure => have := HK1.out; have := HK2.out; omega
                                  case rel => exact ⟨(x4_2), (x5_2), (by first | rfl | (simp; done) | (simp [*]; done)), H', ⟨by have := HK1.out; have := HK2.out; omega⟩, ⟨pR HO_4⟩, ⟨pB⟩⟩
                          · rw [if_neg c25] at H
                            exact absurd H (by simp)
                        · rw [if_neg c24] at H
                          exact absurd H (by simp)
                    · rw [if_neg c18] at H
                      have c18b0 : ((rd l0 x5_1) == 255) = false := beq_eq_false_iff_ne.mpr c18
                      have c18b1 : ((rd l0 x5_1) != 255) = true := bne_iff_ne.mpr c18
                      have H' := Aside0.mk H
                      clear H
                      have p220 : 0 ≤ (x5_1 : Int) := of_decide_eq_true pA
                      have q220 : x5_1 < (l0.length : Int) := of_decide_eq_true pA
                      obtain ⟨ad220, e220, hx220_0⟩ := Kd.at_int HR0.out x5_1 p220 q220
                      cases e220
                      replace hx220_0 := (HB.out.cell (World.block_lt_of_cell? w _ hx220_0)).trans hx220_0
                      replace p220 := eq_true p220
                      replace q220 := eq_true q220
                      obtain ⟨i038, hi038, _, hsz38, _⟩ := info_parts info5
                      obtain ⟨A38, hcut38, hA38, hC38⟩ := print_drop_of (P := Tryd.prog) (Value.int .u8) 0 22 5 .i64 Tryd.underlying22 hi038 hsz38 (some ad220) c0 l0 (ji12) (of_decide_eq_true pA) (of_decide_eq_true pA) HC0.out
                      have HR225 := Aside0.mk (Kd.C_of_reads (h1 := fun _ => rfl) (hA38 _ (Kd.reads_of_C HR0.out)))
                      have HC225 := Aside0.mk hC38
                      clear hA38 hC38 hi038 hsz38
                      go_wp2_with (first | ((with_reducible refine gate_callee (f := 28) rfl ?_); refine goesL_ (some 51) rfl rfl Tryd.func28 (by kernel_rfl) rfl #[.int .u8 (rd l0 x5_1), .slice A38 (l0.drop ((ji12) : Int).toNat).length (c0 - (ji12).toNat)] rfl (by (try simp only [List.map_toArray, List.map_cons, List.map_nil]); first | done | (rw [show (l0.drop ((ji12) : Int).toNat).length = (l0.length - (ji12).toNat) from List.length_drop] <;> rfl) | (simp only [hji12]; rfl) | rfl | (simp only [List.length_drop, List.length_take]; rfl)) ?_; (with_reducible refine (capnpref20_Expand.calls k1 (rd l0 x5_1) _ _ (l0.drop ((ji12) : Int).toNat) t226 t227 true _ ?side1 ?side2 A15.out).mono ?_); (case side1 => repeat (first | exact (Kd.C_below HR225.out HB.out) | (with_reducible refine Kd.C_alloc ?_ _) | (with_reducible refine Kd.C_drewN ?_ _) | (with_reducible refine Kd.C_drew ?_))); (case side2 => exact HC225.out); rintro e w39 ⟨rfl, hb⟩; refine ⟨_, rfl, ?_⟩; have n0_ := Aside0.mk (Kd.R_below (pR HO_4) hb); have n1_ := Aside0.mk (below_step pB hb); clear HO_4; clear HB; have HO_4 := n0_; have HB := n1_; clear n0_ n1_; (try clear hb); (try clear hb2); (try clear hk); (try clear hi)) | ((with_reducible refine gate_builtin (b := .append) (xs := #[.tmp 58, .tmp 60]) rfl ?_); at_builtin; refine Kd.R_append (Kd.int .u64) (w0 := w) w.heap.size rfl (.tmp 58) (.tmp 60) 44 57 (.int .u64 0) 8 rfl Tryd.underlying44 info57 rfl (by decide) (by omega) u4 x4_1 t226 [.int .u64 t226] (fun _ => True) (fun _ => False) rfl rfl ?aP (fun _ hk => hk.elim) ?aF ?aO ?aB ?aS ?aL ?_; (case aP => exact rfl); (case aB => exact pB); (case aF => exact (fun _ _ => trivial)); (case aO => exact (pR HO_4)); (case aS => exact (below_size pB)); (case aL => have := LMc17.out; omega); intro v230 w40 ho hb hg hat; rw [← Ny229.out] at ho; have n0_ := Aside0.mk (hb); have n1_ := Aside0.mk (ho); clear HB; clear HO_4; have HB := n0_; have HO231 := n1_; clear n0_ n1_; clear ho hb hg hat))
                      (first | go_roundg k1 | ((try subst hji12); go_roundg k1))
                      case measure => have := HK1.out; omega
                      case rel => exact ⟨(y229), (wrap64 ((ji12) + t227)), (by first | rfl | (simp; done) | (simp only [← hji12] <;> (first | rfl | simp)) | (simp [*]; done)), H', ⟨by have := HK1.out; omega⟩, ⟨pR HO231⟩, ⟨pB⟩⟩
                  · rw [if_neg c17] at H
                    exact absurd H (by simp)
                · replace c16 := Bool.eq_false_iff.mpr c16
                  subst c16
                  have H1 : (some (x4_1, true)) = some (r1, r2) := by rw [if_neg (show ¬ (false = true) by decide)] at H; exact H
                  clear H
                  have H := H1
                  clear H1
                  simp only [Option.some.injEq, Prod.mk.injEq] at H
                  obtain ⟨rfl, rfl⟩ := H
                  have p220 : 0 ≤ (x5_1 : Int) := of_decide_eq_true pA
                  have q220 : x5_1 < (l0.length : Int) := of_decide_eq_true pA
                  obtain ⟨ad220, e220, hx220_0⟩ := Kd.at_int HR0.out x5_1 p220 q220
                  cases e220
                  replace hx220_0 := (HB.out.cell (World.block_lt_of_cell? w _ hx220_0)).trans hx220_0
                  replace p220 := eq_true p220
                  replace q220 := eq_true q220
                  obtain ⟨i041, hi041, _, hsz41, _⟩ := info_parts info5
                  obtain ⟨A41, hcut41, hA41, hC41⟩ := print_drop_of (P := Tryd.prog) (Value.int .u8) 0 22 5 .i64 Tryd.underlying22 hi041 hsz41 (some ad220) c0 l0 (ji12) (of_decide_eq_true pA) (of_decide_eq_true pA) HC0.out
                  have HR225 := Aside0.mk (Kd.C_of_reads (h1 := fun _ => rfl) (hA41 _ (Kd.reads_of_C HR0.out)))
                  have HC225 := Aside0.mk hC41
                  clear hA41 hC41 hi041 hsz41
                  go_wp2_with (first | ((with_reducible refine gate_callee (f := 28) rfl ?_); refine goesL_ (some 51) rfl rfl Tryd.func28 (by kernel_rfl) rfl #[.int .u8 (rd l0 x5_1), .slice A41 (l0.drop ((ji12) : Int).toNat).length (c0 - (ji12).toNat)] rfl (by (try simp only [List.map_toArray, List.map_cons, List.map_nil]); first | done | (rw [show (l0.drop ((ji12) : Int).toNat).length = (l0.length - (ji12).toNat) from List.length_drop] <;> rfl) | (simp only [hji12]; rfl) | rfl | (simp only [List.length_drop, List.length_take]; rfl)) ?_; (with_reducible refine (capnpref20_Expand.calls k1 (rd l0 x5_1) _ _ (l0.drop ((ji12) : Int).toNat) t226 t227 false _ ?side1 ?side2 A15.out).mono ?_); (case side1 => repeat (first | exact (Kd.C_below HR225.out HB.out) | (with_reducible refine Kd.C_alloc ?_ _) | (with_reducible refine Kd.C_drewN ?_ _) | (with_reducible refine Kd.C_drew ?_))); (case side2 => exact HC225.out); rintro e w42 ⟨rfl, hb⟩; refine ⟨_, rfl, ?_⟩; have n0_ := Aside0.mk (Kd.R_below (pR HO_4) hb); have n1_ := Aside0.mk (below_step pB hb); clear HO_4; clear HB; have HO_4 := n0_; have HB := n1_; clear n0_ n1_; (try clear hb); (try clear hb2); (try clear hk); (try clear hi)))
                  go_ret2
                  exact ⟨_, by first | rfl | (simp [errW_none, errW_some] <;> rfl) | (simp only [← hji12]; first | rfl | (simp [errW_none, errW_some] <;> rfl)) | (simp [*, errW_none, errW_some] <;> rfl), by (with_reducible repeat (first | apply Kd.R_alloc | apply Kd.R_drewN | apply Kd.R_drew)); exact HO_4.out, pB⟩
              · rw [if_neg c14] at H
                exact absurd H (by simp)
            · rw [if_neg c13] at H
              exact absurd H (by simp)
        · rw [if_neg c3] at H
          exact absurd H (by simp)
      · rw [if_neg c2] at H
        have c2b0 : decide (x5_1 < (l0.length : Int)) = false := decide_eq_false c2
        clear c2
        simp only [Option.some.injEq, Prod.mk.injEq] at H
        obtain ⟨rfl, rfl⟩ := H
        go_wp2
        go_ret2
        exact ⟨_, by first | rfl | (simp [errW_none, errW_some] <;> rfl) | (simp [*, errW_none, errW_some] <;> rfl), by (with_reducible repeat (first | apply Kd.R_alloc | apply Kd.R_drewN | apply Kd.R_drew)); exact HO_4.out, pB⟩
def capnpref22_Prefix.j0 : Nat → List Int → Bool → Int → Option (List Int × Int)
  | 0, _, _, _ => none
  | k + 1, x6, x7, x8 => if (x6.length : Int) > x8 then (if 0 ≤ x8 then (if x8 ≤ (x6.length : Int) then ((capnpref01_Bytes.f k (x6.take (x8 : Int).toNat)).bind fun t247 => (some (t247, 11))) else (none)) else (none)) else (if x7 = true then ((capnpref01_Bytes.f k x6).bind fun t250 => (some (t250, 10))) else ((capnpref01_Bytes.f k x6).bind fun t253 => (some (t253, 0))))
def capnpref22_Prefix.f (k : Nat) (l0 : List Int) (a1 : Int) : Option (List Int × Int) := (capnpref22_Decodable.f k l0).bind fun bt239 => (if (wrap64 (Int.tdiv a1 8)) < 0 then (capnpref22_Prefix.j0 k bt239.1 bt239.2 0) else (capnpref22_Prefix.j0 k bt239.1 bt239.2 (wrap64 (Int.tdiv a1 8))))
theorem capnpref22_Prefix.mono_l : ∀ k, (∀ y0 y1 y2, LeO (capnpref22_Prefix.j0 k y0 y1 y2) (capnpref22_Prefix.j0 (k + 1) y0 y1 y2))
  | 0 => fun _ _ _ r h => by simp [capnpref22_Prefix.j0] at h
  | k + 1 => by
    have ih0 := capnpref22_Prefix.mono_l k
    · intro y0 y1 y2
      unfold capnpref22_Prefix.j0
      repeat' first
      | (with_reducible exact ih0 _ _ _)
      | (with_reducible exact capnpref01_Bytes.mono _ _)
      | (with_reducible exact capnpref22_Decodable.mono _ _)
      | (with_reducible exact LeO.refl _)
      | (with_reducible exact LeO.none _)
      | (with_reducible refine LeO.ite ?_ ?_)
      | (with_reducible refine LeO.bind ?_ (fun _ => ?_))
      | exact ih0 _ _ _
      | exact capnpref01_Bytes.mono _ _
      | exact capnpref22_Decodable.mono _ _
      | exact LeO.none _
      | refine LeO.ite ?_ ?_
      | refine LeO.bind ?_ (fun _ => ?_)
theorem capnpref22_Prefix.mono : ∀ a0 a1 k, LeO (capnpref22_Prefix.f k a0 a1) (capnpref22_Prefix.f (k + 1) a0 a1) := by
  intro a0 a1 k
  have ih0 := capnpref22_Prefix.mono_l k
  unfold capnpref22_Prefix.f
  repeat' first
      | (with_reducible exact ih0 _ _ _)
      | (with_reducible exact capnpref01_Bytes.mono _ _)
      | (with_reducible exact capnpref22_Decodable.mono _ _)
      | (with_reducible exact LeO.refl _)
      | (with_reducible exact LeO.none _)
      | (with_reducible refine LeO.ite ?_ ?_)
      | (with_reducible refine LeO.bind ?_ (fun _ => ?_))
      | exact ih0 _ _ _
      | exact capnpref01_Bytes.mono _ _
      | exact capnpref22_Decodable.mono _ _
      | exact LeO.none _
      | refine LeO.ite ?_ ?_
      | refine LeO.bind ?_ (fun _ => ?_)
theorem capnpref22_Prefix.calls (k : Nat) (A0 : Option Addr) (c0 : Nat) (l0 : List Int) (a1 : Int) (r1 : List Int) (r2 : Int) (w : World) (hr0 : Kd.C (Kd.int .u8) w A0 l0.length l0) (hc0 : l0.length ≤ c0) (h : capnpref22_Prefix.f k l0 a1 = some (r1, r2)) :
    Calls Tryd.prog 18 #[.slice A0 l0.length c0, .int .i64 a1] w fun e w' => ∃ v0_ : Value, e = .returned (.tuple #[v0_, .int .i64 r2]) ∧ Kd.R (Kd.int .u8) 5 w' w.heap.size (fun _ => True) v0_ r1 ∧ Below w.heap.size w w' := by
  have HR0 := Aside0.mk hr0
  have HC0 := Aside0.mk hc0
  clear hr0 hc0
  have HB := Aside0.mk (Below.refl w.heap.size w)
  have H : ((capnpref22_Decodable.f k l0).bind fun bt239 => (if (wrap64 (Int.tdiv a1 8)) < 0 then (capnpref22_Prefix.j0 k bt239.1 bt239.2 0) else (capnpref22_Prefix.j0 k bt239.1 bt239.2 (wrap64 (Int.tdiv a1 8))))) = some (r1, r2) := h
  clear h
  replace H := Option.bind_eq_some_iff.mp H
  obtain ⟨⟨t239, t240⟩, A30, H⟩ := H
  replace H : (if (wrap64 (Int.tdiv a1 8)) < 0 then (capnpref22_Prefix.j0 k t239 t240 0) else (capnpref22_Prefix.j0 k t239 t240 (wrap64 (Int.tdiv a1 8)))) = some (r1, r2) := H
  have A3 := Aside0.mk A30
  clear A30
  have HC4 := Aside0.mk H
  clear H
  go_enter Tryd.func18, Tryd.ntmps18
  go_upto_if 17 with (first | ((with_reducible refine gate_callee (f := 24) rfl ?_); refine goesL_ (some 11) rfl rfl Tryd.func24 (by kernel_rfl) rfl #[.slice A0 l0.length c0] rfl pM ?_; (with_reducible refine (capnpref22_Decodable.calls k _ _ l0 t239 t240 _ ?side1 ?side2 A3.out).mono ?_); (case side1 => repeat (first | exact HR0.out | (with_reducible refine Kd.C_alloc ?_ _) | (with_reducible refine Kd.C_drewN ?_ _) | (with_reducible refine Kd.C_drew ?_))); (case side2 => exact HC0.out); rintro e w5 ⟨v241, rfl, ho0, hb⟩; refine ⟨_, rfl, ?_⟩; have n0_ := Aside0.mk (Kd.R_lower ho0 (below_size pB)); have n1_ := Aside0.mk (below_step pB hb); clear HB; have HO242 := n0_; have HB := n1_; clear n0_ n1_; (try clear hb); (try clear hb2); (try clear hk); (try clear hi); (try clear ho0)))
  (try simp only [Act.put, List.setIfInBounds_toArray, List.set_cons_zero, List.set_cons_succ])
  go_cut [8] (fun v8 wc => ∃ (kq : Nat) (x8_3 : Int), v8 = .int .i64 x8_3 ∧ Aside0 (capnpref22_Prefix.j0 kq t239 t240 x8_3 = some (r1, r2)) ∧ Aside0 (kq ≤ k) ∧ Aside0 (Kd.R (Kd.int .u64) 57 wc w.heap.size (fun _ => True) v241 t239) ∧ Aside0 (Below w.heap.size w wc))
  case first =>
    have H := HC4.out
    clear HC4
    by_cases c6 : (wrap64 (Int.tdiv a1 8)) < 0
    · rw [if_pos c6] at H
      have c6b0 : decide ((wrap64 (Int.tdiv a1 8)) < 0) = true := decide_eq_true c6
      clear c6
      (first | rw [c6b0] | (simp only [i64_w, i32_w]; rw [c6b0]) | skip)
      have H' := Aside0.mk H
      clear H
      go_wp2
      go_meet
      case rel => exact ⟨_, (0), (by first | rfl | (simp; done) | (simp [*]; done)), H', ⟨by first | omega | exact Nat.le_refl _⟩, ⟨pR HO242⟩, ⟨pB⟩⟩
    · rw [if_neg c6] at H
      have c6b0 : decide ((wrap64 (Int.tdiv a1 8)) < 0) = false := decide_eq_false c6
      clear c6
      (first | rw [c6b0] | (simp only [i64_w, i32_w]; rw [c6b0]) | skip)
      have H' := Aside0.mk H
      clear H
      go_wp2
      go_meet
      case rel => exact ⟨_, (wrap64 (Int.tdiv a1 8)), (by first | rfl | (simp; done) | (simp [*]; done)), H', ⟨by first | omega | exact Nat.le_refl _⟩, ⟨pR HO242⟩, ⟨pB⟩⟩
  case rest =>
    clear HC4
    try clear c1
    try clear c2
    try clear p2
    try clear c6
    try clear c6b0
    try clear p6
    obtain ⟨kq, x8_3, rfl, HA, HJ3, HO_6, HB⟩ := hcut
    cases kq with
    | zero => exact absurd HA.out (by simp [capnpref22_Prefix.j0])
    | succ kj3 =>
      have H := HA.out
      clear HA
      simp only [capnpref22_Prefix.j0] at H
      by_cases c7 : (t239.length : Int) > x8_3
      · rw [if_pos c7] at H
        have c7b0 : decide (x8_3 < (t239.length : Int)) = true := decide_eq_true c7
        clear c7
        by_cases c8 : 0 ≤ x8_3
        · rw [if_pos c8] at H
          have c8b0 := eq_true c8
          have c8b1 : decide (0 ≤ x8_3) = true := decide_eq_true c8
          clear c8
          by_cases c9 : x8_3 ≤ (t239.length : Int)
          · rw [if_pos c9] at H
            have c9b0 := eq_true c9
            have c9b1 : decide (x8_3 ≤ (t239.length : Int)) = true := decide_eq_true c9
            clear c9
            obtain ⟨y243, hy243⟩ : ∃ y_ : List Int, y_ = (t239.take (x8_3 : Int).toNat) := ⟨_, rfl⟩
            replace H : ((capnpref01_Bytes.f kj3 y243).bind fun t247 => (some (t247, 11))) = some (r1, r2) := by first | (rw [hy243]; with_reducible exact H) | (have H2_ := (Option.bind_some _ _).symm.trans H; rw [hy243]; with_reducible exact H2_) | (have H2_ := (Option.bind_some _ _).symm.trans H; with_reducible exact H2_) | with_reducible exact H | (rw [hy243]; exact H) | exact H
            have Ny243 := Aside0.mk hy243
            clear hy243
            replace H := Option.bind_eq_some_iff.mp H
            obtain ⟨t247, A100, H⟩ := H
            replace H : (some (t247, 11)) = some (r1, r2) := H
            have A10 := Aside0.mk A100
            clear A100
            simp only [Option.some.injEq, Prod.mk.injEq] at H
            obtain ⟨rfl, rfl⟩ := H
            obtain ⟨Ao11, co11, eo11⟩ := Kd.R_slice HO_6.out
            subst eo11
            have q12 : (x8_3 : Int) ≤ ((t239.length : Int) : Int) := of_decide_eq_true pA
            obtain ⟨i012, hi012, _, hsz12, _⟩ := info_parts info57
            have hroom12 : t239.length ≤ co11 := (Kd.R_reads' HO_6.out).2.1
            have hC12 : Kd.C (Kd.int .u64) _ Ao11 t239.length t239 := (Kd.R_reads' HO_6.out).2.2
            have hcut12 := cut_to (P := Tryd.prog) 44 57 .i64 Tryd.underlying44 hi012 Ao11 t239.length co11 x8_3 (of_decide_eq_true pA) q12 hroom12
            have hr12 := Kd.C_take (m := (x8_3 : Int).toNat) hC12 (by omega)
            have hy12 : y243.length = (x8_3 : Int).toNat := (by rw [Ny243.out, List.length_take]; omega)
            rw [← Ny243.out] at hr12
            rw [← hy12] at hcut12
            have HR246 := Aside0.mk hr12
            have HC246 := Aside0.mk (show y243.length ≤ co11 from by omega)
            clear hr12 hC12 hroom12 hi012 hsz12
            have KY12 := Aside0.mk hy12
            clear hy12
            have KL12 := Aside0.mk (show (x8_3 : Int).toNat ≤ t239.length from by omega)
            replace q12 := eq_true q12
            go_wp2_with (first | ((with_reducible refine gate_callee (f := 20) rfl ?_); refine goesL_ (some 25) rfl rfl Tryd.func20 (by kernel_rfl) rfl #[.slice Ao11 y243.length co11] rfl pM ?_; (with_reducible refine (capnpref01_Bytes.calls kj3 _ _ y243 t247 _ ?side1 ?side2 A10.out).mono ?_); (case side1 => repeat (first | exact (by repeat (first | (with_reducible exact HR246.out) | (with_reducible refine Kd.C_alloc ?_ _) | (with_reducible refine Kd.C_drewN ?_ _) | (with_reducible refine Kd.C_drew ?_) | exact HR246.out)) | (with_reducible refine Kd.C_alloc ?_ _) | (with_reducible refine Kd.C_drewN ?_ _) | (with_reducible refine Kd.C_drew ?_))); (case side2 => exact HC246.out); rintro e w13 ⟨v248, rfl, ho0, hb⟩; refine ⟨_, rfl, ?_⟩; have n0_ := Aside0.mk (Kd.R_below (pR HO_6) hb); have n1_ := Aside0.mk (Kd.R_lower ho0 (below_size pB)); have n2_ := Aside0.mk (Kd.C_below (by repeat (first | (with_reducible exact HR246.out) | (with_reducible refine Kd.C_alloc ?_ _) | (with_reducible refine Kd.C_drewN ?_ _) | (with_reducible refine Kd.C_drew ?_) | exact HR246.out)) hb); have n3_ := Aside0.mk (below_step pB hb); clear HO_6; clear HR246; clear HB; have HO_6 := n0_; have HO249 := n1_; have HR246 := n2_; have HB := n3_; clear n0_ n1_ n2_ n3_; (try clear hb); (try clear hb2); (try clear hk); (try clear hi); (try clear ho0)))
            go_ret2
            exact ⟨_, by first | rfl | (simp [errW_none, errW_some] <;> rfl) | (simp [*, errW_none, errW_some] <;> rfl), by (with_reducible repeat (first | apply Kd.R_alloc | apply Kd.R_drewN | apply Kd.R_drew)); exact HO249.out, pB⟩
          · rw [if_neg c9] at H
            exact absurd H (by simp)
        · rw [if_neg c8] at H
          exact absurd H (by simp)
      · rw [if_neg c7] at H
        have c7b0 : decide (x8_3 < (t239.length : Int)) = false := decide_eq_false c7
        clear c7
        by_cases c14 : t240 = true
        · subst c14
          have H1 : ((capnpref01_Bytes.f kj3 t239).bind fun t250 => (some (t250, 10))) = some (r1, r2) := by rw [if_pos rfl] at H; exact H
          clear H
          have H := H1
          clear H1
          replace H := Option.bind_eq_some_iff.mp H
          obtain ⟨t250, A150, H⟩ := H
          replace H : (some (t250, 10)) = some (r1, r2) := H
          have A15 := Aside0.mk A150
          clear A150
          simp only [Option.some.injEq, Prod.mk.injEq] at H
          obtain ⟨rfl, rfl⟩ := H
          obtain ⟨Ao16, co16, eo16⟩ := Kd.R_slice HO_6.out
          subst eo16
          go_wp2_with (first | ((with_reducible refine gate_callee (f := 20) rfl ?_); refine goesL_ (some 28) rfl rfl Tryd.func20 (by kernel_rfl) rfl #[.slice Ao16 t239.length co16] rfl pM ?_; (with_reducible refine (capnpref01_Bytes.calls kj3 _ _ t239 t250 _ ?side1 ?side2 A15.out).mono ?_); (case side1 => repeat (first | exact (Kd.R_reads' HO_6.out).2.2 | (with_reducible refine Kd.C_alloc ?_ _) | (with_reducible refine Kd.C_drewN ?_ _) | (with_reducible refine Kd.C_drew ?_))); (case side2 => exact (Kd.R_reads' HO_6.out).2.1); rintro e w17 ⟨v251, rfl, ho0, hb⟩; refine ⟨_, rfl, ?_⟩; have n0_ := Aside0.mk (Kd.R_below (pR HO_6) hb); have n1_ := Aside0.mk (Kd.R_lower ho0 (below_size pB)); have n2_ := Aside0.mk (below_step pB hb); clear HO_6; clear HB; have HO_6 := n0_; have HO252 := n1_; have HB := n2_; clear n0_ n1_ n2_; (try clear hb); (try clear hb2); (try clear hk); (try clear hi); (try clear ho0)))
          go_ret2
          exact ⟨_, by first | rfl | (simp [errW_none, errW_some] <;> rfl) | (simp [*, errW_none, errW_some] <;> rfl), by (with_reducible repeat (first | apply Kd.R_alloc | apply Kd.R_drewN | apply Kd.R_drew)); exact HO252.out, pB⟩
        · replace c14 := Bool.eq_false_iff.mpr c14
          subst c14
          have H1 : ((capnpref01_Bytes.f kj3 t239).bind fun t253 => (some (t253, 0))) = some (r1, r2) := by rw [if_neg (show ¬ (false = true) by decide)] at H; exact H
          clear H
          have H := H1
          clear H1
          replace H := Option.bind_eq_some_iff.mp H
          obtain ⟨t253, A180, H⟩ := H
          replace H : (some (t253, 0)) = some (r1, r2) := H
          have A18 := Aside0.mk A180
          clear A180
          simp only [Option.some.injEq, Prod.mk.injEq] at H
          obtain ⟨rfl, rfl⟩ := H
          obtain ⟨Ao19, co19, eo19⟩ := Kd.R_slice HO_6.out
          subst eo19
          go_wp2_with (first | ((with_reducible refine gate_callee (f := 20) rfl ?_); refine goesL_ (some 30) rfl rfl Tryd.func20 (by kernel_rfl) rfl #[.slice Ao19 t239.length co19] rfl pM ?_; (with_reducible refine (capnpref01_Bytes.calls kj3 _ _ t239 t253 _ ?side1 ?side2 A18.out).mono ?_); (case side1 => repeat (first | exact (Kd.R_reads' HO_6.out).2.2 | (with_reducible refine Kd.C_alloc ?_ _) | (with_reducible refine Kd.C_drewN ?_ _) | (with_reducible refine Kd.C_drew ?_))); (case side2 => exact (Kd.R_reads' HO_6.out).2.1); rintro e w20 ⟨v254, rfl, ho0, hb⟩; refine ⟨_, rfl, ?_⟩; have n0_ := Aside0.mk (Kd.R_below (pR HO_6) hb); have n1_ := Aside0.mk (Kd.R_lower ho0 (below_size pB)); have n2_ := Aside0.mk (below_step pB hb); clear HO_6; clear HB; have HO_6 := n0_; have HO255 := n1_; have HB := n2_; clear n0_ n1_ n2_; (try clear hb); (try clear hb2); (try clear hk); (try clear hi); (try clear ho0)))
          go_ret2
          exact ⟨_, by first | rfl | (simp [errW_none, errW_some] <;> rfl) | (simp [*, errW_none, errW_some] <;> rfl), by (with_reducible repeat (first | apply Kd.R_alloc | apply Kd.R_drewN | apply Kd.R_drew)); exact HO255.out, pB⟩
end Go.Proofs.YtpffoecblcfndaaDoor.PUnpackstreamChunks
