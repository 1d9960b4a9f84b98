/- Printed functions of a law, and their walks. -/
import Derived.Test.YtibkbgaonjdpiaaXShortC
import Derived.Test.YtibkbgaonjdpiaaPPackstreamChunksx0C
import Derived.Test.YtibkbgaonjdpiaaPPackstreamChunksx5C
namespace Go.Proofs.Ytibkbgaonjdpiaa.PPackstreamChunks
open Go.RowKit Go.Proofs.YtibkbgaonjdpiaaW.PrintWords Go.Proofs.YtibkbgaonjdpiaaW.PrintLast Go.Proofs.YtibkbgaonjdpiaaW.PrintMore
open Go.Proofs.Ytibkbgaonjdpiaa.PPaBase
attribute [local go_sem] max2_int min2_int max_two min_two max_three min_three max_four min_four   -- for this text's walks alone
set_option linter.unusedVariables false
set_option linter.unusedSimpArgs false
set_option maxHeartbeats 8000000
set_option maxRecDepth 100000
mutual
def capnpref21_Words.l0 : Nat → List Int → List Int → Int → Option (List Int)
  | 0, _, _, _ => none
  | k + 1, x0, x3, x4 => if x4 < (x0.length : Int) then (if 0 ≤ x4 then ((capnpref20_Of.f k (rd x0 x4)).bind fun t275 => (if x3.length < 140737488355328 then ((some (x3 ++ [t275] : List Int)).bind fun y276 => ((capnpref20_Bytes.f k (rd x0 x4)).bind fun t279 => (if y276.length + t279.length < 140737488355328 then ((some (y276 ++ t279 : List Int)).bind fun y282 => (if t275 = 0 then (capnpref21_Words.j1 k x0 y282 (wrap64 (x4 + 1)) t275 false) else (capnpref21_Words.j1 k x0 y282 (wrap64 (x4 + 1)) t275 (t275 != 255)))) else (none)))) else (none))) else (none)) else (some x3)
def capnpref21_Words.j1 : Nat → List Int → List Int → Int → Int → Bool → Option (List Int)
  | 0, _, _, _, _, _ => none
  | k + 1, x0, x3, x4, x6, x33 => if x33 = true then (capnpref21_Words.l0 k x0 x3 x4) else (capnpref21_Words.l1 k x0 x3 x4 x6 0)
def capnpref21_Words.l1 : Nat → List Int → List Int → Int → Int → Int → Option (List Int)
  | 0, _, _, _, _, _ => none
  | k + 1, x0, x3, x4, x6, x7 => if (wrap64 (x4 + x7)) < (x0.length : Int) then (if x7 < 255 then (if x6 = 0 then (if 0 ≤ (wrap64 (x4 + x7)) then (if (rd x0 (wrap64 (x4 + x7))) = 0 then (capnpref21_Words.l1 k x0 x3 x4 x6 (wrap64 (x7 + 1))) else (if x6 = 255 then ((capnpref20_Dense.f k (rd x0 (wrap64 (x4 + x7)))).bind fun t287 => (if t287 = true then (capnpref21_Words.l1 k x0 x3 x4 x6 (wrap64 (x7 + 1))) else (if x3.length < 140737488355328 then ((some (x3 ++ [(x7) % 256] : List Int)).bind fun y288 => (if 0 ≤ x4 then (if x4 ≤ (wrap64 (x4 + x7)) then (if (wrap64 (x4 + x7)) ≤ (x0.length : Int) then ((capnpref01_Bytes.f k ((x0.take ((wrap64 (x4 + x7)) : Int).toNat).drop (x4 : Int).toNat)).bind fun t292 => (if y288.length + t292.length < 140737488355328 then (capnpref21_Words.l0 k x0 (y288 ++ t292) (wrap64 (x4 + x7))) else (none))) else (none)) else (none)) else (none))) else (none)))) else (if x3.length < 140737488355328 then (capnpref21_Words.l0 k x0 (x3 ++ [(x7) % 256]) (wrap64 (x4 + x7))) else (none)))) else (none)) else (if x6 = 255 then (if 0 ≤ (wrap64 (x4 + x7)) then ((capnpref20_Dense.f k (rd x0 (wrap64 (x4 + x7)))).bind fun t302 => (if t302 = true then (capnpref21_Words.l1 k x0 x3 x4 x6 (wrap64 (x7 + 1))) else (if x3.length < 140737488355328 then ((some (x3 ++ [(x7) % 256] : List Int)).bind fun y303 => (if 0 ≤ x4 then (if x4 ≤ (wrap64 (x4 + x7)) then (if (wrap64 (x4 + x7)) ≤ (x0.length : Int) then ((capnpref01_Bytes.f k ((x0.take ((wrap64 (x4 + x7)) : Int).toNat).drop (x4 : Int).toNat)).bind fun t307 => (if y303.length + t307.length < 140737488355328 then (capnpref21_Words.l0 k x0 (y303 ++ t307) (wrap64 (x4 + x7))) else (none))) else (none)) else (none)) else (none))) else (none)))) else (none)) else (if x3.length < 140737488355328 then (capnpref21_Words.l0 k x0 (x3 ++ [(x7) % 256]) (wrap64 (x4 + x7))) else (none)))) else (if x3.length < 140737488355328 then ((some (x3 ++ [(x7) % 256] : List Int)).bind fun y316 => (if x6 = 255 then (if 0 ≤ x4 then (if x4 ≤ (wrap64 (x4 + x7)) then (if (wrap64 (x4 + x7)) ≤ (x0.length : Int) then ((capnpref01_Bytes.f k ((x0.take ((wrap64 (x4 + x7)) : Int).toNat).drop (x4 : Int).toNat)).bind fun t320 => (if y316.length + t320.length < 140737488355328 then (capnpref21_Words.l0 k x0 (y316 ++ t320) (wrap64 (x4 + x7))) else (none))) else (none)) else (none)) else (none)) else (capnpref21_Words.l0 k x0 y316 (wrap64 (x4 + x7))))) else (none))) else (if x3.length < 140737488355328 then ((some (x3 ++ [(x7) % 256] : List Int)).bind fun y326 => (if x6 = 255 then (if 0 ≤ x4 then (if x4 ≤ (wrap64 (x4 + x7)) then (if (wrap64 (x4 + x7)) ≤ (x0.length : Int) then ((capnpref01_Bytes.f k ((x0.take ((wrap64 (x4 + x7)) : Int).toNat).drop (x4 : Int).toNat)).bind fun t330 => (if y326.length + t330.length < 140737488355328 then (capnpref21_Words.l0 k x0 (y326 ++ t330) (wrap64 (x4 + x7))) else (none))) else (none)) else (none)) else (none)) else (capnpref21_Words.l0 k x0 y326 (wrap64 (x4 + x7))))) else (none))
end
def capnpref21_Words.f (k : Nat) (l0 : List Int) : Option (List Int) := capnpref21_Words.l0 k l0 ([] : List Int) 0
theorem capnpref21_Words.mono_l : ∀ k, (∀ y0 y1 y2, LeO (capnpref21_Words.l0 k y0 y1 y2) (capnpref21_Words.l0 (k + 1) y0 y1 y2)) ∧ (∀ y0 y1 y2 y3 y4, LeO (capnpref21_Words.j1 k y0 y1 y2 y3 y4) (capnpref21_Words.j1 (k + 1) y0 y1 y2 y3 y4)) ∧ (∀ y0 y1 y2 y3 y4, LeO (capnpref21_Words.l1 k y0 y1 y2 y3 y4) (capnpref21_Words.l1 (k + 1) y0 y1 y2 y3 y4))
  | 0 => ⟨fun _ _ _ r h => by simp [capnpref21_Words.l0] at h, fun _ _ _ _ _ r h => by simp [capnpref21_Words.j1] at h, fun _ _ _ _ _ r h => by simp [capnpref21_Words.l1] at h⟩
  | k + 1 => by
    obtain ⟨ih0, ih1, ih2⟩ := capnpref21_Words.mono_l k
    refine ⟨?_, ?_, ?_⟩
    · intro y0 y1 y2
      unfold capnpref21_Words.l0
      repeat' first
      | (with_reducible exact ih0 _ _ _)
      | (with_reducible exact ih1 _ _ _ _ _)
      | (with_reducible exact ih2 _ _ _ _ _)
      | (with_reducible exact capnpref01_Bytes.mono _ _)
      | (with_reducible exact capnpref20_Bytes.mono _ _)
      | (with_reducible exact capnpref20_Dense.mono _ _)
      | (with_reducible exact capnpref20_Of.mono _ _)
      | (with_reducible exact LeO.refl _)
      | (with_reducible exact LeO.none _)
      | (with_reducible refine LeO.ite ?_ ?_)
      | (with_reducible refine LeO.bind ?_ (fun _ => ?_))
      | exact ih0 _ _ _
      | exact ih1 _ _ _ _ _
      | exact ih2 _ _ _ _ _
      | exact capnpref01_Bytes.mono _ _
      | exact capnpref20_Bytes.mono _ _
      | exact capnpref20_Dense.mono _ _
      | exact capnpref20_Of.mono _ _
      | exact LeO.none _
      | refine LeO.ite ?_ ?_
      | refine LeO.bind ?_ (fun _ => ?_)
    · intro y0 y1 y2 y3 y4
      unfold capnpref21_Words.j1
      repeat' first
      | (with_reducible exact ih0 _ _ _)
      | (with_reducible exact ih1 _ _ _ _ _)
      | (with_reducible exact ih2 _ _ _ _ _)
      | (with_reducible exact capnpref01_Bytes.mono _ _)
      | (with_reducible exact capnpref20_Bytes.mono _ _)
      | (with_reducible exact capnpref20_Dense.mono _ _)
      | (with_reducible exact capnpref20_Of.mono _ _)
      | (with_reducible exact LeO.refl _)
      | (with_reducible exact LeO.none _)
      | (with_reducible refine LeO.ite ?_ ?_)
      | (with_reducible refine LeO.bind ?_ (fun _ => ?_))
      | exact ih0 _ _ _
      | exact ih1 _ _ _ _ _
      | exact ih2 _ _ _ _ _
      | exact capnpref01_Bytes.mono _ _
      | exact capnpref20_Bytes.mono _ _
      | exact capnpref20_Dense.mono _ _
      | exact capnpref20_Of.mono _ _
      | exact LeO.none _
      | refine LeO.ite ?_ ?_
      | refine LeO.bind ?_ (fun _ => ?_)
    · intro y0 y1 y2 y3 y4
      unfold capnpref21_Words.l1
      repeat' first
      | (with_reducible exact ih0 _ _ _)
      | (with_reducible exact ih1 _ _ _ _ _)
      | (with_reducible exact ih2 _ _ _ _ _)
      | (with_reducible exact capnpref01_Bytes.mono _ _)
      | (with_reducible exact capnpref20_Bytes.mono _ _)
      | (with_reducible exact capnpref20_Dense.mono _ _)
      | (with_reducible exact capnpref20_Of.mono _ _)
      | (with_reducible exact LeO.refl _)
      | (with_reducible exact LeO.none _)
      | (with_reducible refine LeO.ite ?_ ?_)
      | (with_reducible refine LeO.bind ?_ (fun _ => ?_))
      | exact ih0 _ _ _
      | exact ih1 _ _ _ _ _
      | exact ih2 _ _ _ _ _
      | exact capnpref01_Bytes.mono _ _
      | exact capnpref20_Bytes.mono _ _
      | exact capnpref20_Dense.mono _ _
      | exact capnpref20_Of.mono _ _
      | exact LeO.none _
      | refine LeO.ite ?_ ?_
      | refine LeO.bind ?_ (fun _ => ?_)
theorem capnpref21_Words.mono : ∀ a0 k, LeO (capnpref21_Words.f k a0) (capnpref21_Words.f (k + 1) a0) := by
  intro a0 k
  obtain ⟨ih0, ih1, ih2⟩ := capnpref21_Words.mono_l k
  unfold capnpref21_Words.f
  repeat' first
      | (with_reducible exact ih0 _ _ _)
      | (with_reducible exact ih1 _ _ _ _ _)
      | (with_reducible exact ih2 _ _ _ _ _)
      | (with_reducible exact capnpref01_Bytes.mono _ _)
      | (with_reducible exact capnpref20_Bytes.mono _ _)
      | (with_reducible exact capnpref20_Dense.mono _ _)
      | (with_reducible exact capnpref20_Of.mono _ _)
      | (with_reducible exact LeO.refl _)
      | (with_reducible exact LeO.none _)
      | (with_reducible refine LeO.ite ?_ ?_)
      | (with_reducible refine LeO.bind ?_ (fun _ => ?_))
      | exact ih0 _ _ _
      | exact ih1 _ _ _ _ _
      | exact ih2 _ _ _ _ _
      | exact capnpref01_Bytes.mono _ _
      | exact capnpref20_Bytes.mono _ _
      | exact capnpref20_Dense.mono _ _
      | exact capnpref20_Of.mono _ _
      | exact LeO.none _
      | refine LeO.ite ?_ ?_
      | refine LeO.bind ?_ (fun _ => ?_)
theorem capnpref21_Words.calls (k : Nat) (A0 : Option Addr) (c0 : Nat) (l0 : List Int) (r : List Int) (w : World) (hr0 : Kd.C (Kd.int .u64) w A0 l0.length l0) (hc0 : l0.length ≤ c0) (h : capnpref21_Words.f k l0 = some r) :
    Calls Try.prog 20 #[.slice A0 l0.length c0] w fun e w' => ∃ v0_ : Value, e = .returned (v0_) ∧ Kd.R (Kd.int .u8) 5 w' w.heap.size (fun _ => True) v0_ r ∧ Below w.heap.size w w' := by
  have HR0 := Aside0.mk hr0
  have HC0 := Aside0.mk hc0
  clear hr0 hc0
  have HB := Aside0.mk (Below.refl w.heap.size w)
  have H : (capnpref21_Words.l0 k l0 ([] : List Int) 0) = some r := h
  clear h
  have H' := Aside0.mk H
  clear H
  go_enter Try.func20, Try.ntmps20
  go_wp2
  go_loopg [3, 4] k (fun kq v3 v4 w' => ∃ (x3_1 : List Int) (x4_1 : Int), v4 = .int .i64 x4_1 ∧ Aside0 (capnpref21_Words.l0 kq l0 x3_1 x4_1 = some r) ∧ Aside0 (kq ≤ k) ∧ Aside0 (Kd.R (Kd.int .u8) 5 w' w.heap.size (fun _ => True) v3 x3_1) ∧ Aside0 (Below w.heap.size w w'))
  case atStart => exact ⟨(([] : List Int)), (0), (by first | rfl | (simp; done) | (simp [*]; done)), H', ⟨Nat.le_refl _⟩, ⟨by first | exact Kd.R_nil _ _ _ _ _ | exact Kd.N_nil _ _ _ _ _ | exact Kd.V_nil _ _ _ _ _ | exact Kd.Q_nil _ _ _ _ _ | exact Kd.S_nil _ _ _ _ _⟩, ⟨pB⟩⟩
  case round =>
    clear H'
    obtain ⟨x3_1, x4_1, rfl, HA, HK1, HO_3, HB⟩ := hrel
    cases gk with
    | zero => exact absurd HA.out (by simp [capnpref21_Words.l0])
    | succ k1 =>
      have H := HA.out
      clear HA
      simp only [capnpref21_Words.l0] at H
      by_cases c2 : x4_1 < (l0.length : Int)
      · rw [if_pos c2] at H
        have c2b0 : decide (x4_1 < (l0.length : Int)) = true := decide_eq_true c2
        clear c2
        by_cases c3 : 0 ≤ x4_1
        · rw [if_pos c3] at H
          have c3b0 : decide (0 ≤ x4_1) = true := decide_eq_true c3
          clear c3
          replace H := Option.bind_eq_some_iff.mp H
          obtain ⟨t275, A40, H⟩ := H
          replace H : (if x3_1.length < 140737488355328 then ((some (x3_1 ++ [t275] : List Int)).bind fun y276 => ((capnpref20_Bytes.f k1 (rd l0 x4_1)).bind fun t279 => (if y276.length + t279.length < 140737488355328 then ((some (y276 ++ t279 : List Int)).bind fun y282 => (if t275 = 0 then (capnpref21_Words.j1 k1 l0 y282 (wrap64 (x4_1 + 1)) t275 false) else (capnpref21_Words.j1 k1 l0 y282 (wrap64 (x4_1 + 1)) t275 (t275 != 255)))) else (none)))) else (none)) = some r := H
          have A4 := Aside0.mk A40
          clear A40
          by_cases c5 : x3_1.length < 140737488355328
          · rw [if_pos c5] at H
            have LMc5 := Aside0.mk c5
            clear c5
            obtain ⟨y276, hy276⟩ : ∃ y_ : List Int, y_ = (x3_1 ++ [t275]) := ⟨_, rfl⟩
            replace H : ((capnpref20_Bytes.f k1 (rd l0 x4_1)).bind fun t279 => (if y276.length + t279.length < 140737488355328 then ((some (y276 ++ t279 : List Int)).bind fun y282 => (if t275 = 0 then (capnpref21_Words.j1 k1 l0 y282 (wrap64 (x4_1 + 1)) t275 false) else (capnpref21_Words.j1 k1 l0 y282 (wrap64 (x4_1 + 1)) t275 (t275 != 255)))) else (none))) = some r := by first | (rw [hy276]; with_reducible exact H) | (have H2_ := (Option.bind_some _ _).symm.trans H; rw [hy276]; with_reducible exact H2_) | (have H2_ := (Option.bind_some _ _).symm.trans H; with_reducible exact H2_) | with_reducible exact H | (rw [hy276]; exact H) | exact H
            have Ny276 := Aside0.mk hy276
            clear hy276
            replace H := Option.bind_eq_some_iff.mp H
            obtain ⟨t279, A60, H⟩ := H
            replace H : (if y276.length + t279.length < 140737488355328 then ((some (y276 ++ t279 : List Int)).bind fun y282 => (if t275 = 0 then (capnpref21_Words.j1 k1 l0 y282 (wrap64 (x4_1 + 1)) t275 false) else (capnpref21_Words.j1 k1 l0 y282 (wrap64 (x4_1 + 1)) t275 (t275 != 255)))) else (none)) = some r := H
            have A6 := Aside0.mk A60
            clear A60
            by_cases c7 : y276.length + t279.length < 140737488355328
            · rw [if_pos c7] at H
              have LMc7 := Aside0.mk c7
              clear c7
              obtain ⟨y282, hy282⟩ : ∃ y_ : List Int, y_ = (y276 ++ t279) := ⟨_, rfl⟩
              replace H : (if t275 = 0 then (capnpref21_Words.j1 k1 l0 y282 (wrap64 (x4_1 + 1)) t275 false) else (capnpref21_Words.j1 k1 l0 y282 (wrap64 (x4_1 + 1)) t275 (t275 != 255))) = some r := by first | (rw [hy282]; with_reducible exact H) | (have H2_ := (Option.bind_some _ _).symm.trans H; rw [hy282]; with_reducible exact H2_) | (have H2_ := (Option.bind_some _ _).symm.trans H; with_reducible exact H2_) | with_reducible exact H | (rw [hy282]; exact H) | exact H
              have Ny282 := Aside0.mk hy282
              clear hy282
              have HC8 := Aside0.mk H
              clear H
              have p274 : 0 ≤ (x4_1 : Int) := of_decide_eq_true pA
              have q274 : x4_1 < (l0.length : Int) := of_decide_eq_true pA
              obtain ⟨ad274, e274, hx274_0⟩ := Kd.at_int HR0.out x4_1 p274 q274
              cases e274
              replace hx274_0 := (HB.out.cell (World.block_lt_of_cell? w _ hx274_0)).trans hx274_0
              replace p274 := eq_true p274
              replace q274 := eq_true q274
              go_upto_region 9 with (first | ((with_reducible refine gate_callee (f := 31) rfl ?_); refine goesL_ (some 17) rfl rfl Try.func31 (by kernel_rfl) rfl #[.int .u64 (rd l0 x4_1)] rfl pM ?_; (with_reducible refine (capnpref20_Of.calls k1 (rd l0 x4_1) t275 _ A4.out).mono ?_); rintro e w9 ⟨rfl, hb⟩; refine ⟨_, rfl, ?_⟩; have n0_ := Aside0.mk (Kd.R_below (pR HO_3) hb); have n1_ := Aside0.mk (below_step pB hb); clear HO_3; clear HB; have HO_3 := n0_; have HB := n1_; clear n0_ n1_; (try clear hb); (try clear hb2); (try clear hk); (try clear hi)) | ((with_reducible refine gate_builtin (b := .append) (xs := #[.tmp 18, .tmp 20]) rfl ?_); at_builtin; refine Kd.R_append (Kd.int .u8) (w0 := w) w.heap.size rfl (.tmp 18) (.tmp 20) 22 5 (.int .u8 0) 1 rfl Try.underlying22 info5 rfl (by decide) (by omega) u3 x3_1 t275 [.int .u8 t275] (fun _ => True) (fun _ => False) rfl rfl ?aP (fun _ hk => hk.elim) ?aF ?aO ?aB ?aS ?aL ?_; (case aP => exact rfl); (case aB => exact pB); (case aF => exact (fun _ _ => trivial)); (case aO => exact (pR HO_3)); (case aS => exact (below_size pB)); (case aL => have := LMc5.out; omega); intro v277 w10 ho hb hg hat; rw [← Ny276.out] at ho; have n0_ := Aside0.mk (hb); have n1_ := Aside0.mk (ho); clear HB; clear HO_3; have HB := n0_; have HO278 := n1_; clear n0_ n1_; clear ho hb hg hat) | ((with_reducible refine gate_callee (f := 25) rfl ?_); refine goesL_ (some 24) rfl rfl Try.func25 (by kernel_rfl) rfl #[.int .u64 (rd l0 x4_1)] rfl pM ?_; (with_reducible refine (capnpref20_Bytes.calls k1 (rd l0 x4_1) t279 _ A6.out).mono ?_); rintro e w11 ⟨v280, rfl, ho0, hb⟩; refine ⟨_, rfl, ?_⟩; have n0_ := Aside0.mk (Kd.R_elder' (pR HO278) (Kd.R_base ho0) hb); have n1_ := Aside0.mk (Kd.R_lower (Kd.R_new' ho0 (Kd.R_lt (pR HO278))) (below_size pB)); have n2_ := Aside0.mk (below_step pB hb); clear HO278; clear HB; have HO278 := n0_; have HO281 := n1_; have HB := n2_; clear n0_ n1_ n2_; (try clear hb); (try clear hb2); (try clear hk); (try clear hi); (try clear ho0); obtain ⟨Ao13, co13, eo13⟩ := Kd.R_slice HO281.out; subst eo13) | ((with_reducible refine gate_builtin (b := .append) (xs := #[.tmp 22, .tmp 24]) rfl ?_); at_builtin; refine Kd.R_append_rows (Kd.int .u8) (w0 := w) w.heap.size rfl (.tmp 22) (.tmp 24) 22 5 (.int .u8 0) 1 rfl Try.underlying22 info5 rfl (by decide) (by omega) v277 y276 t279 _ _ _ (fun k_ => some k_ ≠ (.slice Ao13 t279.length co13 : Value).ownBlock) (fun _ => False) rfl rfl ?aO ?aR (fun _ _ h => h) (fun _ h => h.elim) ?aF ?aB ?aS ?aL ?_; (case aR => repeat (first | exact (Kd.R_reads' HO281.out).2.2 | (with_reducible refine Kd.C_alloc ?_ _) | (with_reducible refine Kd.C_drewN ?_ _) | (with_reducible refine Kd.C_drew ?_))); (case aB => exact pB); (case aF => exact (fun k_ hk => Kd.fresh' (Kd.R_lt (pR HO281)) k_ hk)); (case aO => exact (by (with_reducible repeat (first | apply Kd.R_alloc | apply Kd.R_drewN | apply Kd.R_drew)); exact Kd.R_mono HO278.out (fun _ hk => hk.2))); (case aS => exact (below_size pB)); (case aL => have := LMc7.out; omega); intro v283 w12 ho hb hg hat; rw [← Ny282.out] at ho; have n0_ := Aside0.mk (Kd.R_after (ok := (fun _ => True)) (pR HO281) hg hat); have n1_ := Aside0.mk (hb); have n2_ := Aside0.mk (ho); clear HO281; clear HB; clear HO278; have HO281 := n0_; have HB := n1_; have HO284 := n2_; clear n0_ n1_ n2_; clear ho hb hg hat))
              (try simp only [Act.put, List.setIfInBounds_toArray, List.set_cons_zero, List.set_cons_succ])
              go_cut [33] (fun v33 wc => ∃ (kq : Nat) (x33_7 : Bool), v33 = .bool x33_7 ∧ Aside0 (capnpref21_Words.j1 kq l0 y282 (wrap64 (x4_1 + 1)) t275 x33_7 = some r) ∧ Aside0 (kq ≤ k1) ∧ Aside0 (Kd.R (Kd.int .u8) 5 wc w.heap.size (fun _ => True) v283 y282) ∧ Aside0 (Below w.heap.size w wc))
              case first =>
                have H := HC8.out
                clear HC8
                by_cases c14 : t275 = 0
                · rw [if_pos c14] at H
                  have c14b0 : (t275 == 0) = true := beq_iff_eq.mpr c14
                  have c14b1 : (t275 != 0) = false := bne_eq_false_iff_eq.mpr c14
                  clear c14
                  (first | rw [c14b0] | (simp only [i64_w, i32_w]; rw [c14b0]) | skip)
                  have H' := Aside0.mk H
                  clear H
                  go_wp2
                  go_meet
                  case rel => exact ⟨_, (false), (by first | rfl | (simp; done) | (simp [*]; done)), H', ⟨by have := HK1.out; first | omega | exact Nat.le_refl _⟩, ⟨by (with_reducible repeat (first | apply Kd.R_alloc | apply Kd.R_drewN | apply Kd.R_drew)); exact Kd.R_mono HO284.out (fun _ hk => trivial)⟩, ⟨pB⟩⟩
                · rw [if_neg c14] at H
                  have c14b0 : (t275 == 0) = false := beq_eq_false_iff_ne.mpr c14
                  have c14b1 : (t275 != 0) = true := bne_iff_ne.mpr c14
                  (first | rw [c14b0] | (simp only [i64_w, i32_w]; rw [c14b0]) | skip)
                  have H' := Aside0.mk H
                  clear H
                  go_wp2
                  go_meet
                  case rel => exact ⟨_, ((t275 != 255)), (by first | rfl | (simp; done) | (simp [*]; done)), H', ⟨by have := HK1.out; first | omega | exact Nat.le_refl _⟩, ⟨by (with_reducible repeat (first | apply Kd.R_alloc | apply Kd.R_drewN | apply Kd.R_drew)); exact Kd.R_mono HO284.out (fun _ hk => trivial)⟩, ⟨pB⟩⟩
              case rest =>
                clear HC8
                try clear c1
                try clear c2
                try clear c2b0
                try clear p2
                try clear q2
                try clear hx2
                try clear c3
                try clear c3b0
                try clear c5
                try clear p6
                try clear c7
                try clear c14
                try clear c14b0
                try clear c14b1
                try clear hx274_0
                try clear p274
                try clear q274
                obtain ⟨kq, x33_7, rfl, HA, HJ7, HO_3, HB⟩ := hcut
                cases kq with
                | zero => exact absurd HA.out (by simp [capnpref21_Words.j1])
                | succ kj7 =>
                  have H := HA.out
                  clear HA
                  simp only [capnpref21_Words.j1] at H
                  by_cases c15 : x33_7 = true
                  · subst c15
                    have H1 : (capnpref21_Words.l0 kj7 l0 y282 (wrap64 (x4_1 + 1))) = some r := by rw [if_pos rfl] at H; exact H
                    clear H
                    have H := H1
                    clear H1
                    have H' := Aside0.mk H
                    clear H
                    go_wp2
                    go_roundg kj7
                    case measure => have := HK1.out; have := HJ7.out; omega
                    case rel => exact ⟨(y282), ((wrap64 (x4_1 + 1))), (by first | rfl | (simp; done) | (simp [*]; done)), H', ⟨by have := HK1.out; have := HJ7.out; omega⟩, ⟨pR HO_3⟩, ⟨pB⟩⟩
                  · replace c15 := Bool.eq_false_iff.mpr c15
                    subst c15
                    have H1 : (capnpref21_Words.l1 kj7 l0 y282 (wrap64 (x4_1 + 1)) t275 0) = some r := by rw [if_neg (show ¬ (false = true) by decide)] at H; exact H
                    clear H
                    have H := H1
                    clear H1
                    have H' := Aside0.mk H
                    clear H
                    go_wp2
                    go_loopg [7] kj7 (fun kq v7 w' => ∃ (x7_3 : Int), v7 = .int .i64 x7_3 ∧ Aside0 (capnpref21_Words.l1 kq l0 y282 (wrap64 (x4_1 + 1)) t275 x7_3 = some r) ∧ Aside0 (kq ≤ kj7) ∧ Aside0 (Kd.R (Kd.int .u8) 5 w' w.heap.size (fun _ => True) v283 y282) ∧ Aside0 (Below w.heap.size w w'))
                    case atStart => exact ⟨(0), (by first | rfl | (simp; done) | (simp [*]; done)), H', ⟨Nat.le_refl _⟩, ⟨pR HO_3⟩, ⟨pB⟩⟩
                    case round =>
                      clear H'
                      try clear c1
                      try clear c2
                      try clear c2b0
                      try clear p2
                      try clear q2
                      try clear hx2
                      try clear c3
                      try clear c3b0
                      try clear c5
                      try clear p6
                      try clear c7
                      try clear c14
                      try clear c14b0
                      try clear c14b1
                      try clear c15
                      try clear hx274_0
                      try clear p2
                      try clear p274
                      try clear p6
                      try clear q2
                      try clear q274
                      obtain ⟨x7_3, rfl, HA, HK3, HO_3, HB⟩ := hrel
                      cases gk with
                      | zero => exact absurd HA.out (by simp [capnpref21_Words.l1])
                      | succ k3 =>
                        have H := HA.out
                        clear HA
                        simp only [capnpref21_Words.l1] at H
                        by_cases c16 : (wrap64 ((wrap64 (x4_1 + 1)) + x7_3)) < (l0.length : Int)
                        · rw [if_pos c16] at H
                          have c16b0 : decide ((wrap64 ((wrap64 (x4_1 + 1)) + x7_3)) < (l0.length : Int)) = true := decide_eq_true c16
                          clear c16
                          by_cases c17 : x7_3 < 255
                          · rw [if_pos c17] at H
                            have c17b0 : decide (x7_3 < 255) = true := decide_eq_true c17
                            clear c17
                            by_cases c18 : t275 = 0
                            · rw [if_pos c18] at H
                              have c18b0 : (t275 == 0) = true := beq_iff_eq.mpr c18
                              have c18b1 : (t275 != 0) = false := bne_eq_false_iff_eq.mpr c18
                              clear c18
                              obtain ⟨ji19, hji19⟩ : ∃ j_ : Int, (wrap64 ((wrap64 (x4_1 + 1)) + x7_3)) = j_ := ⟨_, rfl⟩
                              replace H : (if 0 ≤ (ji19) then (if (rd l0 (ji19)) = 0 then (capnpref21_Words.l1 k3 l0 y282 (wrap64 (x4_1 + 1)) t275 (wrap64 (x7_3 + 1))) else (if t275 = 255 then ((capnpref20_Dense.f k3 (rd l0 (ji19))).bind fun t287 => (if t287 = true then (capnpref21_Words.l1 k3 l0 y282 (wrap64 (x4_1 + 1)) t275 (wrap64 (x7_3 + 1))) else (if y282.length < 140737488355328 then ((some (y282 ++ [(x7_3) % 256] : List Int)).bind fun y288 => (if 0 ≤ (wrap64 (x4_1 + 1)) then (if (wrap64 (x4_1 + 1)) ≤ (ji19) then (if (ji19) ≤ (l0.length : Int) then ((capnpref01_Bytes.f k3 ((l0.take ((ji19) : Int).toNat).drop ((wrap64 (x4_1 + 1)) : Int).toNat)).bind fun t292 => (if y288.length + t292.length < 140737488355328 then (capnpref21_Words.l0 k3 l0 (y288 ++ t292) ji19) else (none))) else (none)) else (none)) else (none))) else (none)))) else (if y282.length < 140737488355328 then (capnpref21_Words.l0 k3 l0 (y282 ++ [(x7_3) % 256]) ji19) else (none)))) else (none)) = some r := by first | (rw [hji19] at H; exact H) | (simp only [hji19] at H ⊢; exact H)
                              (try rw [hji19] at c16b0)
                              have hji19w : (IntKind.i64.wrap ((wrap64 (x4_1 + 1)) + x7_3)) = ji19 := (i64_w _).trans hji19
                              by_cases c20 : 0 ≤ (ji19)
                              · rw [if_pos c20] at H
                                have c20b0 : decide (0 ≤ (ji19)) = true := decide_eq_true c20
                                clear c20
                                by_cases c21 : (rd l0 (ji19)) = 0
                                · rw [if_pos c21] at H
                                  have c21b0 : ((rd l0 (ji19)) == 0) = true := beq_iff_eq.mpr c21
                                  have c21b1 : ((rd l0 (ji19)) != 0) = false := bne_eq_false_iff_eq.mpr c21
                                  clear c21
                                  have H' := Aside0.mk H
                                  clear H
                                  have p285 : 0 ≤ ((ji19) : Int) := of_decide_eq_true pA
                                  have q285 : (ji19) < (l0.length : Int) := of_decide_eq_true pA
                                  obtain ⟨ad285, e285, hx285_0⟩ := Kd.at_int HR0.out (ji19) p285 q285
                                  obtain rfl : ad274 = ad285 := (by injection e285)
                                  replace hx285_0 := (HB.out.cell (World.block_lt_of_cell? w _ hx285_0)).trans hx285_0
                                  replace p285 := eq_true p285
                                  replace q285 := eq_true q285
                                  go_wp2
                                  (first | go_roundg k3 | ((try subst hji19); go_roundg k3))
                                  case measure => have := HK1.out; have := HJ7.out; have := HK3.out; omega
                                  case rel => exact ⟨(wrap64 (x7_3 + 1)), (by first | rfl | (simp; done) | (simp [*]; done)), H', ⟨by have := HK1.out; have := HJ7.out; have := HK3.out; omega⟩, ⟨pR HO_3⟩, ⟨pB⟩⟩
                                · rw [if_neg c21] at H
                                  have c21b0 : ((rd l0 (ji19)) == 0) = false := beq_eq_false_iff_ne.mpr c21
                                  have c21b1 : ((rd l0 (ji19)) != 0) = true := bne_iff_ne.mpr c21
                                  by_cases c22 : t275 = 255
                                  · rw [if_pos c22] at H
                                    have c22b0 : (t275 == 255) = true := beq_iff_eq.mpr c22
                                    have c22b1 : (t275 != 255) = false := bne_eq_false_iff_eq.mpr c22
                                    clear c22
                                    replace H := Option.bind_eq_some_iff.mp H
                                    obtain ⟨t287, A230, H⟩ := H
                                    replace H : (if t287 = true then (capnpref21_Words.l1 k3 l0 y282 (wrap64 (x4_1 + 1)) t275 (wrap64 (x7_3 + 1))) else (if y282.length < 140737488355328 then ((some (y282 ++ [(x7_3) % 256] : List Int)).bind fun y288 => (if 0 ≤ (wrap64 (x4_1 + 1)) then (if (wrap64 (x4_1 + 1)) ≤ (ji19) then (if (ji19) ≤ (l0.length : Int) then ((capnpref01_Bytes.f k3 ((l0.take ((ji19) : Int).toNat).drop ((wrap64 (x4_1 + 1)) : Int).toNat)).bind fun t292 => (if y288.length + t292.length < 140737488355328 then (capnpref21_Words.l0 k3 l0 (y288 ++ t292) ji19) else (none))) else (none)) else (none)) else (none))) else (none))) = some r := H
                                    have A23 := Aside0.mk A230
                                    clear A230
                                    by_cases c24 : t287 = true
                                    · subst c24
                                      have H1 : (capnpref21_Words.l1 k3 l0 y282 (wrap64 (x4_1 + 1)) t275 (wrap64 (x7_3 + 1))) = some r := by rw [if_pos rfl] at H; exact H
                                      clear H
                                      have H := H1
                                      clear H1
                                      have H' := Aside0.mk H
                                      clear H
                                      have p285 : 0 ≤ ((ji19) : Int) := of_decide_eq_true pA
                                      have q285 : (ji19) < (l0.length : Int) := of_decide_eq_true pA
                                      obtain ⟨ad285, e285, hx285_0⟩ := Kd.at_int HR0.out (ji19) p285 q285
                                      obtain rfl : ad274 = ad285 := (by injection e285)
                                      replace hx285_0 := (HB.out.cell (World.block_lt_of_cell? w _ hx285_0)).trans hx285_0
                                      replace p285 := eq_true p285
                                      replace q285 := eq_true q285
                                      have p286 : 0 ≤ ((ji19) : Int) := of_decide_eq_true pA
                                      have q286 : (ji19) < (l0.length : Int) := of_decide_eq_true pA
                                      obtain ⟨ad286, e286, hx286_0⟩ := Kd.at_int HR0.out (ji19) p286 q286
                                      obtain rfl : ad274 = ad286 := (by injection e286)
                                      replace hx286_0 := (HB.out.cell (World.block_lt_of_cell? w _ hx286_0)).trans hx286_0
                                      replace p286 := eq_true p286
                                      replace q286 := eq_true q286
                                      go_wp2_with (first | (go_at_call 32; (with_reducible refine (capnpref20_Dense.calls k3 (rd l0 (ji19)) true _ A23.out).mono ?_); rintro e w25 ⟨rfl, hb⟩; have n0_ := Aside0.mk (Kd.R_below (pR HO_3) hb); have n1_ := Aside0.mk (below_step pB hb); clear HO_3; clear HB; have HO_3 := n0_; have HB := n1_; clear n0_ n1_; (try clear hb); (try clear hb2); (try clear hk); (try clear hi)))
                                      (first | go_roundg k3 | ((try subst hji19); go_roundg k3))
                                      case measure => have := HK1.out; have := HJ7.out; have := HK3.out; omega
                                      case rel => exact ⟨(wrap64 (x7_3 + 1)), (by first | rfl | (simp; done) | (simp [*]; done)), H', ⟨by have := HK1.out; have := HJ7.out; have := HK3.out; omega⟩, ⟨pR HO_3⟩, ⟨pB⟩⟩
                                    · replace c24 := Bool.eq_false_iff.mpr c24
                                      subst c24
                                      have H1 : (if y282.length < 140737488355328 then ((some (y282 ++ [(x7_3) % 256] : List Int)).bind fun y288 => (if 0 ≤ (wrap64 (x4_1 + 1)) then (if (wrap64 (x4_1 + 1)) ≤ (ji19) then (if (ji19) ≤ (l0.length : Int) then ((capnpref01_Bytes.f k3 ((l0.take ((ji19) : Int).toNat).drop ((wrap64 (x4_1 + 1)) : Int).toNat)).bind fun t292 => (if y288.length + t292.length < 140737488355328 then (capnpref21_Words.l0 k3 l0 (y288 ++ t292) ji19) else (none))) else (none)) else (none)) else (none))) else (none)) = some r := by rw [if_neg (show ¬ (false = true) by decide)] at H; exact H
                                      clear H
                                      have H := H1
                                      clear H1
                                      by_cases c26 : y282.length < 140737488355328
                                      · rw [if_pos c26] at H
                                        have LMc26 := Aside0.mk c26
                                        clear c26
                                        obtain ⟨y288, hy288⟩ : ∃ y_ : List Int, y_ = (y282 ++ [(x7_3) % 256]) := ⟨_, rfl⟩
                                        replace H : (if 0 ≤ (wrap64 (x4_1 + 1)) then (if (wrap64 (x4_1 + 1)) ≤ (ji19) then (if (ji19) ≤ (l0.length : Int) then ((capnpref01_Bytes.f k3 ((l0.take ((ji19) : Int).toNat).drop ((wrap64 (x4_1 + 1)) : Int).toNat)).bind fun t292 => (if y288.length + t292.length < 140737488355328 then (capnpref21_Words.l0 k3 l0 (y288 ++ t292) ji19) else (none))) else (none)) else (none)) else (none)) = some r := by first | (rw [hy288]; with_reducible exact H) | (have H2_ := (Option.bind_some _ _).symm.trans H; rw [hy288]; with_reducible exact H2_) | (have H2_ := (Option.bind_some _ _).symm.trans H; with_reducible exact H2_) | with_reducible exact H | (rw [hy288]; exact H) | exact H
                                        have Ny288 := Aside0.mk hy288
                                        clear hy288
                                        obtain ⟨ji27, hji27⟩ : ∃ j_ : Int, (wrap64 (x4_1 + 1)) = j_ := ⟨_, rfl⟩
                                        replace H : (if 0 ≤ (ji27) then (if (ji27) ≤ (ji19) then (if (ji19) ≤ (l0.length : Int) then ((capnpref01_Bytes.f k3 ((l0.take ((ji19) : Int).toNat).drop ((ji27) : Int).toNat)).bind fun t292 => (if y288.length + t292.length < 140737488355328 then (capnpref21_Words.l0 k3 l0 (y288 ++ t292) ji19) else (none))) else (none)) else (none)) else (none)) = some r := by first | (rw [hji27] at H; exact H) | (simp only [hji27] at H ⊢; exact H)
                                        (try rw [hji27] at c16b0)
                                        (try rw [hji27] at A23)
                                        have hji27w : (IntKind.i64.wrap (x4_1 + 1)) = ji27 := (i64_w _).trans hji27
                                        (try simp only [hji27] at hji19)
                                        (try simp only [hji27] at hji19w)
                                        by_cases c28 : 0 ≤ (ji27)
                                        · rw [if_pos c28] at H
                                          have c28b0 := eq_true c28
                                          have c28b1 : decide (0 ≤ (ji27)) = true := decide_eq_true c28
                                          clear c28
                                          by_cases c29 : (ji27) ≤ (ji19)
                                          · rw [if_pos c29] at H
                                            have c29b0 := eq_true c29
                                            have c29b1 : decide ((ji27) ≤ (ji19)) = true := decide_eq_true c29
                                            clear c29
                                            by_cases c30 : (ji19) ≤ (l0.length : Int)
                                            · rw [if_pos c30] at H
                                              have c30b0 := eq_true c30
                                              have c30b1 : decide ((ji19) ≤ (l0.length : Int)) = true := decide_eq_true c30
                                              clear c30
                                              replace H := Option.bind_eq_some_iff.mp H
                                              obtain ⟨t292, A310, H⟩ := H
                                              replace H : (if y288.length + t292.length < 140737488355328 then (capnpref21_Words.l0 k3 l0 (y288 ++ t292) ji19) else (none)) = some r := H
                                              have A31 := Aside0.mk A310
                                              clear A310
                                              by_cases c32 : y288.length + t292.length < 140737488355328
                                              · rw [if_pos c32] at H
                                                have LMc32 := Aside0.mk c32
                                                clear c32
                                                obtain ⟨y295, hy295⟩ : ∃ y_ : List Int, y_ = (y288 ++ t292) := ⟨_, rfl⟩
                                                replace H : (capnpref21_Words.l0 k3 l0 y295 ji19) = some r := by first | (rw [hy295]; with_reducible exact H) | (have H2_ := (Option.bind_some _ _).symm.trans H; rw [hy295]; with_reducible exact H2_) | (have H2_ := (Option.bind_some _ _).symm.trans H; with_reducible exact H2_) | with_reducible exact H | (rw [hy295]; exact H) | exact H
                                                have Ny295 := Aside0.mk hy295
                                                clear hy295
                                                have H' := Aside0.mk H
                                                clear H
                                                have p285 : 0 ≤ ((ji19) : Int) := of_decide_eq_true pA
                                                have q285 : (ji19) < (l0.length : Int) := of_decide_eq_true pA
                                                obtain ⟨ad285, e285, hx285_0⟩ := Kd.at_int HR0.out (ji19) p285 q285
                                                obtain rfl : ad274 = ad285 := (by injection e285)
                                                replace hx285_0 := (HB.out.cell (World.block_lt_of_cell? w _ hx285_0)).trans hx285_0
                                                replace p285 := eq_true p285
                                                replace q285 := eq_true q285
                                                have p286 : 0 ≤ ((ji19) : Int) := of_decide_eq_true pA
                                                have q286 : (ji19) < (l0.length : Int) := of_decide_eq_true pA
                                                obtain ⟨ad286, e286, hx286_0⟩ := Kd.at_int HR0.out (ji19) p286 q286
                                                obtain rfl : ad274 = ad286 := (by injection e286)
                                                replace hx286_0 := (HB.out.cell (World.block_lt_of_cell? w _ hx286_0)).trans hx286_0
                                                replace p286 := eq_true p286
                                                replace q286 := eq_true q286
                                                go_wp2_with (first | (go_at_call 32; (with_reducible refine (capnpref20_Dense.calls k3 (rd l0 (ji19)) false _ A23.out).mono ?_); rintro e w33 ⟨rfl, hb⟩; have n0_ := Aside0.mk (Kd.R_below (pR HO_3) hb); have n1_ := Aside0.mk (below_step pB hb); clear HO_3; clear HB; have HO_3 := n0_; have HB := n1_; clear n0_ n1_; (try clear hb); (try clear hb2); (try clear hk); (try clear hi)) | ((with_reducible refine gate_builtin (b := .append) (xs := #[.tmp 72, .tmp 75]) rfl ?_); at_builtin; refine Kd.R_append (Kd.int .u8) (w0 := w) w.heap.size rfl (.tmp 72) (.tmp 75) 22 5 (.int .u8 0) 1 rfl Try.underlying22 info5 rfl (by decide) (by omega) v283 y282 ((x7_3) % 256) [.int .u8 ((x7_3) % 256)] (fun _ => True) (fun _ => False) rfl rfl ?aP (fun _ hk => hk.elim) ?aF ?aO ?aB ?aS ?aL ?_; (case aP => exact rfl); (case aB => exact pB); (case aF => exact (fun _ _ => trivial)); (case aO => exact (pR HO_3)); (case aS => exact (below_size pB)); (case aL => have := LMc26.out; omega); intro v289 w34 ho hb hg hat; rw [← Ny288.out] at ho; have n0_ := Aside0.mk (hb); have n1_ := Aside0.mk (ho); clear HB; clear HO_3; have HB := n0_; have HO290 := n1_; clear n0_ n1_; clear ho hb hg hat; obtain ⟨i035, hi035, _, hsz35, _⟩ := info_parts info53; obtain ⟨A35, hcut35, hA35, hC35⟩ := print_mid_of (P := Try.prog) (Value.int .u64) 0 44 53 .i64 .i64 Try.underlying44 hi035 hsz35 (some ad274) c0 l0 (ji27) (ji19) (of_decide_eq_true pA) (by first | omega | exact of_decide_eq_true pA) (of_decide_eq_true pA) HC0.out; have HR291 := Aside0.mk (Kd.C_of_reads (h1 := fun _ => rfl) (hA35 _ (Kd.reads_of_C HR0.out))); have HC291 := Aside0.mk hC35; clear hA35 hC35 hi035 hsz35) | ((with_reducible refine gate_callee (f := 29) rfl ?_); refine goesL_ (some 86) rfl rfl Try.func29 (by kernel_rfl) rfl #[.slice A35 ((l0.take ((ji19) : Int).toNat).drop ((ji27) : Int).toNat).length (c0 - (ji27).toNat)] rfl (by (try simp only [List.map_toArray, List.map_cons, List.map_nil]); first | done | (rw [show ((l0.take ((ji19) : Int).toNat).drop ((ji27) : Int).toNat).length = ((ji19).toNat - (ji27).toNat) from (by rw [List.length_drop, List.length_take]; have h_ : ((ji19) : Int) ≤ (l0.length : Int) := of_decide_eq_true pA; omega)] <;> rfl) | (simp only [hji19, hji27]; rfl) | rfl | (simp only [List.length_drop, List.length_take]; rfl)) ?_; (with_reducible refine (capnpref01_Bytes.calls k3 _ _ ((l0.take ((ji19) : Int).toNat).drop ((ji27) : Int).toNat) t292 _ ?side1 ?side2 A31.out).mono ?_); (case side1 => repeat (first | exact (Kd.C_below HR291.out HB.out) | (with_reducible refine Kd.C_alloc ?_ _) | (with_reducible refine Kd.C_drewN ?_ _) | (with_reducible refine Kd.C_drew ?_))); (case side2 => exact HC291.out); rintro e w36 ⟨v293, rfl, ho0, hb⟩; refine ⟨_, rfl, ?_⟩; have n0_ := Aside0.mk (Kd.R_elder' (pR HO290) (Kd.R_base ho0) hb); have n1_ := Aside0.mk (Kd.R_lower (Kd.R_new' ho0 (Kd.R_lt (pR HO290))) (below_size pB)); have n2_ := Aside0.mk (below_step pB hb); clear HO290; clear HB; have HO290 := n0_; have HO294 := n1_; have HB := n2_; clear n0_ n1_ n2_; (try clear hb); (try clear hb2); (try clear hk); (try clear hi); (try clear ho0); obtain ⟨Ao38, co38, eo38⟩ := Kd.R_slice HO294.out; subst eo38) | ((with_reducible refine gate_builtin (b := .append) (xs := #[.tmp 79, .tmp 86]) rfl ?_); at_builtin; refine Kd.R_append_rows (Kd.int .u8) (w0 := w) w.heap.size rfl (.tmp 79) (.tmp 86) 22 5 (.int .u8 0) 1 rfl Try.underlying22 info5 rfl (by decide) (by omega) v289 y288 t292 _ _ _ (fun k_ => some k_ ≠ (.slice Ao38 t292.length co38 : Value).ownBlock) (fun _ => False) rfl rfl ?aO ?aR (fun _ _ h => h) (fun _ h => h.elim) ?aF ?aB ?aS ?aL ?_; (case aR => repeat (first | exact (Kd.R_reads' HO294.out).2.2 | (with_reducible refine Kd.C_alloc ?_ _) | (with_reducible refine Kd.C_drewN ?_ _) | (with_reducible refine Kd.C_drew ?_))); (case aB => exact pB); (case aF => exact (fun k_ hk => Kd.fresh' (Kd.R_lt (pR HO294)) k_ hk)); (case aO => exact (by (with_reducible repeat (first | apply Kd.R_alloc | apply Kd.R_drewN | apply Kd.R_drew)); exact Kd.R_mono HO290.out (fun _ hk => hk.2))); (case aS => exact (below_size pB)); (case aL => have := LMc32.out; omega); intro v296 w37 ho hb hg hat; rw [← Ny295.out] at ho; have n0_ := Aside0.mk (Kd.R_after (ok := (fun _ => True)) (pR HO294) hg hat); have n1_ := Aside0.mk (hb); have n2_ := Aside0.mk (ho); clear HO294; clear HB; clear HO290; have HO294 := n0_; have HB := n1_; have HO297 := n2_; clear n0_ n1_ n2_; clear ho hb hg hat))
                                                (first | go_roundg k3 | ((try subst hji19); (try subst hji27); go_roundg k3))
                                                case measure => have := HK1.out; have := HJ7.out; have := HK3.out; omega
                                                case rel => exact ⟨(y295), (ji19), (by first | rfl | (simp; done) | (simp only [← hji19] <;> (first | rfl | simp)) | (simp [*]; done)), H', ⟨by have := HK1.out; have := HJ7.out; have := HK3.out; omega⟩, ⟨by (with_reducible repeat (first | apply Kd.R_alloc | apply Kd.R_drewN | apply Kd.R_drew)); exact Kd.R_mono HO297.out (fun _ hk => trivial)⟩, ⟨pB⟩⟩
                                              · rw [if_neg c32] at H
                                                exact absurd H (by simp)
                                            · rw [if_neg c30] at H
                                              exact absurd H (by simp)
                                          · rw [if_neg c29] at H
                                            exact absurd H (by simp)
                                        · rw [if_neg c28] at H
                                          exact absurd H (by simp)
                                      · rw [if_neg c26] at H
                                        exact absurd H (by simp)
                                  · rw [if_neg c22] at H
                                    have c22b0 : (t275 == 255) = false := beq_eq_false_iff_ne.mpr c22
                                    have c22b1 : (t275 != 255) = true := bne_iff_ne.mpr c22
                                    by_cases c39 : y282.length < 140737488355328
                                    · rw [if_pos c39] at H
                                      have LMc39 := Aside0.mk c39
                                      clear c39
                                      obtain ⟨y298, hy298⟩ : ∃ y_ : List Int, y_ = (y282 ++ [(x7_3) % 256]) := ⟨_, rfl⟩
                                      replace H : (capnpref21_Words.l0 k3 l0 y298 ji19) = some r := by first | (rw [hy298]; with_reducible exact H) | (have H2_ := (Option.bind_some _ _).symm.trans H; rw [hy298]; with_reducible exact H2_) | (have H2_ := (Option.bind_some _ _).symm.trans H; with_reducible exact H2_) | with_reducible exact H | (rw [hy298]; exact H) | exact H
                                      have Ny298 := Aside0.mk hy298
                                      clear hy298
                                      have H' := Aside0.mk H
                                      clear H
                                      have p285 : 0 ≤ ((ji19) : Int) := of_decide_eq_true pA
                                      have q285 : (ji19) < (l0.length : Int) := of_decide_eq_true pA
                                      obtain ⟨ad285, e285, hx285_0⟩ := Kd.at_int HR0.out (ji19) p285 q285
                                      obtain rfl : ad274 = ad285 := (by injection e285)
                                      replace hx285_0 := (HB.out.cell (World.block_lt_of_cell? w _ hx285_0)).trans hx285_0
                                      replace p285 := eq_true p285
                                      replace q285 := eq_true q285
                                      go_wp2_with (first | ((with_reducible refine gate_builtin (b := .append) (xs := #[.tmp 72, .tmp 75]) rfl ?_); at_builtin; refine Kd.R_append (Kd.int .u8) (w0 := w) w.heap.size rfl (.tmp 72) (.tmp 75) 22 5 (.int .u8 0) 1 rfl Try.underlying22 info5 rfl (by decide) (by omega) v283 y282 ((x7_3) % 256) [.int .u8 ((x7_3) % 256)] (fun _ => True) (fun _ => False) rfl rfl ?aP (fun _ hk => hk.elim) ?aF ?aO ?aB ?aS ?aL ?_; (case aP => exact rfl); (case aB => exact pB); (case aF => exact (fun _ _ => trivial)); (case aO => exact (pR HO_3)); (case aS => exact (below_size pB)); (case aL => have := LMc39.out; omega); intro v299 w40 ho hb hg hat; rw [← Ny298.out] at ho; have n0_ := Aside0.mk (hb); have n1_ := Aside0.mk (ho); clear HB; clear HO_3; have HB := n0_; have HO300 := n1_; clear n0_ n1_; clear ho hb hg hat))
                                      (first | go_roundg k3 | ((try subst hji19); go_roundg k3))
                                      case measure => have := HK1.out; have := HJ7.out; have := HK3.out; omega
                                      case rel => exact ⟨(y298), (ji19), (by first | rfl | (simp; done) | (simp only [← hji19] <;> (first | rfl | simp)) | (simp [*]; done)), H', ⟨by have := HK1.out; have := HJ7.out; have := HK3.out; omega⟩, ⟨pR HO300⟩, ⟨pB⟩⟩
                                    · rw [if_neg c39] at H
                                      exact absurd H (by simp)
                              · rw [if_neg c20] at H
                                exact absurd H (by simp)
                            · rw [if_neg c18] at H
                              have c18b0 : (t275 == 0) = false := beq_eq_false_iff_ne.mpr c18
                              have c18b1 : (t275 != 0) = true := bne_iff_ne.mpr c18
                              by_cases c41 : t275 = 255
                              · rw [if_pos c41] at H
                                have c41b0 : (t275 == 255) = true := beq_iff_eq.mpr c41
                                have c41b1 : (t275 != 255) = false := bne_eq_false_iff_eq.mpr c41
                                clear c41
                                try subst hji19
                                obtain ⟨ji42, hji42⟩ : ∃ j_ : Int, (wrap64 ((wrap64 (x4_1 + 1)) + x7_3)) = j_ := ⟨_, rfl⟩
                                replace H : (if 0 ≤ (ji42) then ((capnpref20_Dense.f k3 (rd l0 (ji42))).bind fun t302 => (if t302 = true then (capnpref21_Words.l1 k3 l0 y282 (wrap64 (x4_1 + 1)) t275 (wrap64 (x7_3 + 1))) else (if y282.length < 140737488355328 then ((some (y282 ++ [(x7_3) % 256] : List Int)).bind fun y303 => (if 0 ≤ (wrap64 (x4_1 + 1)) then (if (wrap64 (x4_1 + 1)) ≤ (ji42) then (if (ji42) ≤ (l0.length : Int) then ((capnpref01_Bytes.f k3 ((l0.take ((ji42) : Int).toNat).drop ((wrap64 (x4_1 + 1)) : Int).toNat)).bind fun t307 => (if y303.length + t307.length < 140737488355328 then (capnpref21_Words.l0 k3 l0 (y303 ++ t307) ji42) else (none))) else (none)) else (none)) else (none))) else (none)))) else (none)) = some r := by first | (rw [hji42] at H; exact H) | (simp only [hji42] at H ⊢; exact H)
                                (try rw [hji42] at c16b0)
                                have hji42w : (IntKind.i64.wrap ((wrap64 (x4_1 + 1)) + x7_3)) = ji42 := (i64_w _).trans hji42
                                by_cases c43 : 0 ≤ (ji42)
                                · rw [if_pos c43] at H
                                  have c43b0 : decide (0 ≤ (ji42)) = true := decide_eq_true c43
                                  clear c43
                                  replace H := Option.bind_eq_some_iff.mp H
                                  obtain ⟨t302, A440, H⟩ := H
                                  replace H : (if t302 = true then (capnpref21_Words.l1 k3 l0 y282 (wrap64 (x4_1 + 1)) t275 (wrap64 (x7_3 + 1))) else (if y282.length < 140737488355328 then ((some (y282 ++ [(x7_3) % 256] : List Int)).bind fun y303 => (if 0 ≤ (wrap64 (x4_1 + 1)) then (if (wrap64 (x4_1 + 1)) ≤ (ji42) then (if (ji42) ≤ (l0.length : Int) then ((capnpref01_Bytes.f k3 ((l0.take ((ji42) : Int).toNat).drop ((wrap64 (x4_1 + 1)) : Int).toNat)).bind fun t307 => (if y303.length + t307.length < 140737488355328 then (capnpref21_Words.l0 k3 l0 (y303 ++ t307) ji42) else (none))) else (none)) else (none)) else (none))) else (none))) = some r := H
                                  have A44 := Aside0.mk A440
                                  clear A440
                                  by_cases c45 : t302 = true
                                  · subst c45
                                    have H1 : (capnpref21_Words.l1 k3 l0 y282 (wrap64 (x4_1 + 1)) t275 (wrap64 (x7_3 + 1))) = some r := by rw [if_pos rfl] at H; exact H
                                    clear H
                                    have H := H1
                                    clear H1
                                    have H' := Aside0.mk H
                                    clear H
                                    have p301 : 0 ≤ ((ji42) : Int) := of_decide_eq_true pA
                                    have q301 : (ji42) < (l0.length : Int) := of_decide_eq_true pA
                                    obtain ⟨ad301, e301, hx301_0⟩ := Kd.at_int HR0.out (ji42) p301 q301
                                    obtain rfl : ad274 = ad301 := (by injection e301)
                                    replace hx301_0 := (HB.out.cell (World.block_lt_of_cell? w _ hx301_0)).trans hx301_0
                                    replace p301 := eq_true p301
                                    replace q301 := eq_true q301
                                    go_wp2_with (first | (go_at_call 32; (with_reducible refine (capnpref20_Dense.calls k3 (rd l0 (ji42)) true _ A44.out).mono ?_); rintro e w46 ⟨rfl, hb⟩; have n0_ := Aside0.mk (Kd.R_below (pR HO_3) hb); have n1_ := Aside0.mk (below_step pB hb); clear HO_3; clear HB; have HO_3 := n0_; have HB := n1_; clear n0_ n1_; (try clear hb); (try clear hb2); (try clear hk); (try clear hi)))
                                    (first | go_roundg k3 | ((try subst hji42); go_roundg k3))
                                    case measure => have := HK1.out; have := HJ7.out; have := HK3.out; omega
                                    case rel => exact ⟨(wrap64 (x7_3 + 1)), (by first | rfl | (simp; done) | (simp [*]; done)), H', ⟨by have := HK1.out; have := HJ7.out; have := HK3.out; omega⟩, ⟨pR HO_3⟩, ⟨pB⟩⟩
                                  · replace c45 := Bool.eq_false_iff.mpr c45
                                    subst c45
                                    have H1 : (if y282.length < 140737488355328 then ((some (y282 ++ [(x7_3) % 256] : List Int)).bind fun y303 => (if 0 ≤ (wrap64 (x4_1 + 1)) then (if (wrap64 (x4_1 + 1)) ≤ (ji42) then (if (ji42) ≤ (l0.length : Int) then ((capnpref01_Bytes.f k3 ((l0.take ((ji42) : Int).toNat).drop ((wrap64 (x4_1 + 1)) : Int).toNat)).bind fun t307 => (if y303.length + t307.length < 140737488355328 then (capnpref21_Words.l0 k3 l0 (y303 ++ t307) ji42) else (none))) else (none)) else (none)) else (none))) else (none)) = some r := by rw [if_neg (show ¬ (false = true) by decide)] at H; exact H
                                    clear H
                                    have H := H1
                                    clear H1
                                    by_cases c47 : y282.length < 140737488355328
                                    · rw [if_pos c47] at H
                                      have LMc47 := Aside0.mk c47
                                      clear c47
                                      obtain ⟨y303, hy303⟩ : ∃ y_ : List Int, y_ = (y282 ++ [(x7_3) % 256]) := ⟨_, rfl⟩
                                      replace H : (if 0 ≤ (wrap64 (x4_1 + 1)) then (if (wrap64 (x4_1 + 1)) ≤ (ji42) then (if (ji42) ≤ (l0.length : Int) then ((capnpref01_Bytes.f k3 ((l0.take ((ji42) : Int).toNat).drop ((wrap64 (x4_1 + 1)) : Int).toNat)).bind fun t307 => (if y303.length + t307.length < 140737488355328 then (capnpref21_Words.l0 k3 l0 (y303 ++ t307) ji42) else (none))) else (none)) else (none)) else (none)) = some r := by first | (rw [hy303]; with_reducible exact H) | (have H2_ := (Option.bind_some _ _).symm.trans H; rw [hy303]; with_reducible exact H2_) | (have H2_ := (Option.bind_some _ _).symm.trans H; with_reducible exact H2_) | with_reducible exact H | (rw [hy303]; exact H) | exact H
                                      have Ny303 := Aside0.mk hy303
                                      clear hy303
                                      try subst hji27
                                      obtain ⟨ji48, hji48⟩ : ∃ j_ : Int, (wrap64 (x4_1 + 1)) = j_ := ⟨_, rfl⟩
                                      replace H : (if 0 ≤ (ji48) then (if (ji48) ≤ (ji42) then (if (ji42) ≤ (l0.length : Int) then ((capnpref01_Bytes.f k3 ((l0.take ((ji42) : Int).toNat).drop ((ji48) : Int).toNat)).bind fun t307 => (if y303.length + t307.length < 140737488355328 then (capnpref21_Words.l0 k3 l0 (y303 ++ t307) ji42) else (none))) else (none)) else (none)) else (none)) = some r := by first | (rw [hji48] at H; exact H) | (simp only [hji48] at H ⊢; exact H)
                                      (try rw [hji48] at c16b0)
                                      (try rw [hji48] at A44)
                                      have hji48w : (IntKind.i64.wrap (x4_1 + 1)) = ji48 := (i64_w _).trans hji48
                                      (try simp only [hji48] at hji42)
                                      (try simp only [hji48] at hji42w)
                                      by_cases c49 : 0 ≤ (ji48)
                                      · rw [if_pos c49] at H
                                        have c49b0 := eq_true c49
                                        have c49b1 : decide (0 ≤ (ji48)) = true := decide_eq_true c49
                                        clear c49
                                        by_cases c50 : (ji48) ≤ (ji42)
                                        · rw [if_pos c50] at H
                                          have c50b0 := eq_true c50
                                          have c50b1 : decide ((ji48) ≤ (ji42)) = true := decide_eq_true c50
                                          clear c50
                                          by_cases c51 : (ji42) ≤ (l0.length : Int)
                                          · rw [if_pos c51] at H
                                            have c51b0 := eq_true c51
                                            have c51b1 : decide ((ji42) ≤ (l0.length : Int)) = true := decide_eq_true c51
                                            clear c51
                                            replace H := Option.bind_eq_some_iff.mp H
                                            obtain ⟨t307, A520, H⟩ := H
                                            replace H : (if y303.length + t307.length < 140737488355328 then (capnpref21_Words.l0 k3 l0 (y303 ++ t307) ji42) else (none)) = some r := H
                                            have A52 := Aside0.mk A520
                                            clear A520
                                            by_cases c53 : y303.length + t307.length < 140737488355328
                                            · rw [if_pos c53] at H
                                              have LMc53 := Aside0.mk c53
                                              clear c53
                                              obtain ⟨y310, hy310⟩ : ∃ y_ : List Int, y_ = (y303 ++ t307) := ⟨_, rfl⟩
                                              replace H : (capnpref21_Words.l0 k3 l0 y310 ji42) = some r := by first | (rw [hy310]; with_reducible exact H) | (have H2_ := (Option.bind_some _ _).symm.trans H; rw [hy310]; with_reducible exact H2_) | (have H2_ := (Option.bind_some _ _).symm.trans H; with_reducible exact H2_) | with_reducible exact H | (rw [hy310]; exact H) | exact H
                                              have Ny310 := Aside0.mk hy310
                                              clear hy310
                                              have H' := Aside0.mk H
                                              clear H
                                              have p301 : 0 ≤ ((ji42) : Int) := of_decide_eq_true pA
                                              have q301 : (ji42) < (l0.length : Int) := of_decide_eq_true pA
                                              obtain ⟨ad301, e301, hx301_0⟩ := Kd.at_int HR0.out (ji42) p301 q301
                                              obtain rfl : ad274 = ad301 := (by injection e301)
                                              replace hx301_0 := (HB.out.cell (World.block_lt_of_cell? w _ hx301_0)).trans hx301_0
                                              replace p301 := eq_true p301
                                              replace q301 := eq_true q301
                                              go_wp2_with (first | (go_at_call 32; (with_reducible refine (capnpref20_Dense.calls k3 (rd l0 (ji42)) false _ A44.out).mono ?_); rintro e w54 ⟨rfl, hb⟩; have n0_ := Aside0.mk (Kd.R_below (pR HO_3) hb); have n1_ := Aside0.mk (below_step pB hb); clear HO_3; clear HB; have HO_3 := n0_; have HB := n1_; clear n0_ n1_; (try clear hb); (try clear hb2); (try clear hk); (try clear hi)) | ((with_reducible refine gate_builtin (b := .append) (xs := #[.tmp 72, .tmp 75]) rfl ?_); at_builtin; refine Kd.R_append (Kd.int .u8) (w0 := w) w.heap.size rfl (.tmp 72) (.tmp 75) 22 5 (.int .u8 0) 1 rfl Try.underlying22 info5 rfl (by decide) (by omega) v283 y282 ((x7_3) % 256) [.int .u8 ((x7_3) % 256)] (fun _ => True) (fun _ => False) rfl rfl ?aP (fun _ hk => hk.elim) ?aF ?aO ?aB ?aS ?aL ?_; (case aP => exact rfl); (case aB => exact pB); (case aF => exact (fun _ _ => trivial)); (case aO => exact (pR HO_3)); (case aS => exact (below_size pB)); (case aL => have := LMc47.out; omega); intro v304 w55 ho hb hg hat; rw [← Ny303.out] at ho; have n0_ := Aside0.mk (hb); have n1_ := Aside0.mk (ho); clear HB; clear HO_3; have HB := n0_; have HO305 := n1_; clear n0_ n1_; clear ho hb hg hat; obtain ⟨i056, hi056, _, hsz56, _⟩ := info_parts info53; obtain ⟨A56, hcut56, hA56, hC56⟩ := print_mid_of (P := Try.prog) (Value.int .u64) 0 44 53 .i64 .i64 Try.underlying44 hi056 hsz56 (some ad274) c0 l0 (ji48) (ji42) (of_decide_eq_true pA) (by first | omega | exact of_decide_eq_true pA) (of_decide_eq_true pA) HC0.out; have HR306 := Aside0.mk (Kd.C_of_reads (h1 := fun _ => rfl) (hA56 _ (Kd.reads_of_C HR0.out))); have HC306 := Aside0.mk hC56; clear hA56 hC56 hi056 hsz56) | ((with_reducible refine gate_callee (f := 29) rfl ?_); refine goesL_ (some 86) rfl rfl Try.func29 (by kernel_rfl) rfl #[.slice A56 ((l0.take ((ji42) : Int).toNat).drop ((ji48) : Int).toNat).length (c0 - (ji48).toNat)] rfl (by (try simp only [List.map_toArray, List.map_cons, List.map_nil]); first | done | (rw [show ((l0.take ((ji42) : Int).toNat).drop ((ji48) : Int).toNat).length = ((ji42).toNat - (ji48).toNat) from (by rw [List.length_drop, List.length_take]; have h_ : ((ji42) : Int) ≤ (l0.length : Int) := of_decide_eq_true pA; omega)] <;> rfl) | (simp only [hji42, hji48]; rfl) | rfl | (simp only [List.length_drop, List.length_take]; rfl)) ?_; (with_reducible refine (capnpref01_Bytes.calls k3 _ _ ((l0.take ((ji42) : Int).toNat).drop ((ji48) : Int).toNat) t307 _ ?side1 ?side2 A52.out).mono ?_); (case side1 => repeat (first | exact (Kd.C_below HR306.out HB.out) | (with_reducible refine Kd.C_alloc ?_ _) | (with_reducible refine Kd.C_drewN ?_ _) | (with_reducible refine Kd.C_drew ?_))); (case side2 => exact HC306.out); rintro e w57 ⟨v308, rfl, ho0, hb⟩; refine ⟨_, rfl, ?_⟩; have n0_ := Aside0.mk (Kd.R_elder' (pR HO305) (Kd.R_base ho0) hb); have n1_ := Aside0.mk (Kd.R_lower (Kd.R_new' ho0 (Kd.R_lt (pR HO305))) (below_size pB)); have n2_ := Aside0.mk (below_step pB hb); clear HO305; clear HB; have HO305 := n0_; have HO309 := n1_; have HB := n2_; clear n0_ n1_ n2_; (try clear hb); (try clear hb2); (try clear hk); (try clear hi); (try clear ho0); obtain ⟨Ao59, co59, eo59⟩ := Kd.R_slice HO309.out; subst eo59) | ((with_reducible refine gate_builtin (b := .append) (xs := #[.tmp 79, .tmp 86]) rfl ?_); at_builtin; refine Kd.R_append_rows (Kd.int .u8) (w0 := w) w.heap.size rfl (.tmp 79) (.tmp 86) 22 5 (.int .u8 0) 1 rfl Try.underlying22 info5 rfl (by decide) (by omega) v304 y303 t307 _ _ _ (fun k_ => some k_ ≠ (.slice Ao59 t307.length co59 : Value).ownBlock) (fun _ => False) rfl rfl ?aO ?aR (fun _ _ h => h) (fun _ h => h.elim) ?aF ?aB ?aS ?aL ?_; (case aR => repeat (first | exact (Kd.R_reads' HO309.out).2.2 | (with_reducible refine Kd.C_alloc ?_ _) | (with_reducible refine Kd.C_drewN ?_ _) | (with_reducible refine Kd.C_drew ?_))); (case aB => exact pB); (case aF => exact (fun k_ hk => Kd.fresh' (Kd.R_lt (pR HO309)) k_ hk)); (case aO => exact (by (with_reducible repeat (first | apply Kd.R_alloc | apply Kd.R_drewN | apply Kd.R_drew)); exact Kd.R_mono HO305.out (fun _ hk => hk.2))); (case aS => exact (below_size pB)); (case aL => have := LMc53.out; omega); intro v311 w58 ho hb hg hat; rw [← Ny310.out] at ho; have n0_ := Aside0.mk (Kd.R_after (ok := (fun _ => True)) (pR HO309) hg hat); have n1_ := Aside0.mk (hb); have n2_ := Aside0.mk (ho); clear HO309; clear HB; clear HO305; have HO309 := n0_; have HB := n1_; have HO312 := n2_; clear n0_ n1_ n2_; clear ho hb hg hat))
                                              (first | go_roundg k3 | ((try subst hji42); (try subst hji48); go_roundg k3))
                                              case measure => have := HK1.out; have := HJ7.out; have := HK3.out; omega
                                              case rel => exact ⟨(y310), (ji42), (by first | rfl | (simp; done) | (simp only [← hji42] <;> (first | rfl | simp)) | (simp [*]; done)), H', ⟨by have := HK1.out; have := HJ7.out; have := HK3.out; omega⟩, ⟨by (with_reducible repeat (first | apply Kd.R_alloc | apply Kd.R_drewN | apply Kd.R_drew)); exact Kd.R_mono HO312.out (fun _ hk => trivial)⟩, ⟨pB⟩⟩
                                            · rw [if_neg c53] at H
                                              exact absurd H (by simp)
                                          · rw [if_neg c51] at H
                                            exact absurd H (by simp)
                                        · rw [if_neg c50] at H
                                          exact absurd H (by simp)
                                      · rw [if_neg c49] at H
                                        exact absurd H (by simp)
                                    · rw [if_neg c47] at H
                                      exact absurd H (by simp)
                                · rw [if_neg c43] at H
                                  exact absurd H (by simp)
                              · rw [if_neg c41] at H
                                have c41b0 : (t275 == 255) = false := beq_eq_false_iff_ne.mpr c41
                                have c41b1 : (t275 != 255) = true := bne_iff_ne.mpr c41
                                by_cases c60 : y282.length < 140737488355328
                                · rw [if_pos c60] at H
                                  have LMc60 := Aside0.mk c60
                                  clear c60
                                  obtain ⟨y313, hy313⟩ : ∃ y_ : List Int, y_ = (y282 ++ [(x7_3) % 256]) := ⟨_, rfl⟩
                                  replace H : (capnpref21_Words.l0 k3 l0 y313 (wrap64 ((wrap64 (x4_1 + 1)) + x7_3))) = some r := by first | (rw [hy313]; with_reducible exact H) | (have H2_ := (Option.bind_some _ _).symm.trans H; rw [hy313]; with_reducible exact H2_) | (have H2_ := (Option.bind_some _ _).symm.trans H; with_reducible exact H2_) | with_reducible exact H | (rw [hy313]; exact H) | exact H
                                  have Ny313 := Aside0.mk hy313
                                  clear hy313
                                  have H' := Aside0.mk H
                                  clear H
                                  go_wp2_with (first | ((with_reducible refine gate_builtin (b := .append) (xs := #[.tmp 72, .tmp 75]) rfl ?_); at_builtin; refine Kd.R_append (Kd.int .u8) (w0 := w) w.heap.size rfl (.tmp 72) (.tmp 75) 22 5 (.int .u8 0) 1 rfl Try.underlying22 info5 rfl (by decide) (by omega) v283 y282 ((x7_3) % 256) [.int .u8 ((x7_3) % 256)] (fun _ => True) (fun _ => False) rfl rfl ?aP (fun _ hk => hk.elim) ?aF ?aO ?aB ?aS ?aL ?_; (case aP => exact rfl); (case aB => exact pB); (case aF => exact (fun _ _ => trivial)); (case aO => exact (pR HO_3)); (case aS => exact (below_size pB)); (case aL => have := LMc60.out; omega); intro v314 w61 ho hb hg hat; rw [← Ny313.out] at ho; have n0_ := Aside0.mk (hb); have n1_ := Aside0.mk (ho); clear HB; clear HO_3; have HB := n0_; have HO315 := n1_; clear n0_ n1_; clear ho hb hg hat))
                                  go_roundg k3
                                  case measure => have := HK1.out; have := HJ7.out; have := HK3.out; omega
                                  case rel => exact ⟨(y313), (wrap64 ((wrap64 (x4_1 + 1)) + x7_3)), (by first | rfl | (simp; done) | (simp [*]; done)), H', ⟨by have := HK1.out; have := HJ7.out; have := HK3.out; omega⟩, ⟨pR HO315⟩, ⟨pB⟩⟩
                                · rw [if_neg c60] at H
                                  exact absurd H (by simp)
                          · rw [if_neg c17] at H
                            have c17b0 : decide (x7_3 < 255) = false := decide_eq_false c17
                            clear c17
                            by_cases c62 : y282.length < 140737488355328
                            · rw [if_pos c62] at H
                              have LMc62 := Aside0.mk c62
                              clear c62
                              obtain ⟨y316, hy316⟩ : ∃ y_ : List Int, y_ = (y282 ++ [(x7_3) % 256]) := ⟨_, rfl⟩
                              replace H : (if t275 = 255 then (if 0 ≤ (wrap64 (x4_1 + 1)) then (if (wrap64 (x4_1 + 1)) ≤ (wrap64 ((wrap64 (x4_1 + 1)) + x7_3)) then (if (wrap64 ((wrap64 (x4_1 + 1)) + x7_3)) ≤ (l0.length : Int) then ((capnpref01_Bytes.f k3 ((l0.take ((wrap64 ((wrap64 (x4_1 + 1)) + x7_3)) : Int).toNat).drop ((wrap64 (x4_1 + 1)) : Int).toNat)).bind fun t320 => (if y316.length + t320.length < 140737488355328 then (capnpref21_Words.l0 k3 l0 (y316 ++ t320) (wrap64 ((wrap64 (x4_1 + 1)) + x7_3))) else (none))) else (none)) else (none)) else (none)) else (capnpref21_Words.l0 k3 l0 y316 (wrap64 ((wrap64 (x4_1 + 1)) + x7_3)))) = some r := by first | (rw [hy316]; with_reducible exact H) | (have H2_ := (Option.bind_some _ _).symm.trans H; rw [hy316]; with_reducible exact H2_) | (have H2_ := (Option.bind_some _ _).symm.trans H; with_reducible exact H2_) | with_reducible exact H | (rw [hy316]; exact H) | exact H
                              have Ny316 := Aside0.mk hy316
                              clear hy316
                              by_cases c63 : t275 = 255
                              · rw [if_pos c63] at H
                                have c63b0 : (t275 == 255) = true := beq_iff_eq.mpr c63
                                have c63b1 : (t275 != 255) = false := bne_eq_false_iff_eq.mpr c63
                                clear c63
                                try subst hji27
                                try subst hji48
                                obtain ⟨ji64, hji64⟩ : ∃ j_ : Int, (wrap64 (x4_1 + 1)) = j_ := ⟨_, rfl⟩
                                replace H : (if 0 ≤ (ji64) then (if (ji64) ≤ (wrap64 ((ji64) + x7_3)) then (if (wrap64 ((ji64) + x7_3)) ≤ (l0.length : Int) then ((capnpref01_Bytes.f k3 ((l0.take ((wrap64 ((ji64) + x7_3)) : Int).toNat).drop ((ji64) : Int).toNat)).bind fun t320 => (if y316.length + t320.length < 140737488355328 then (capnpref21_Words.l0 k3 l0 (y316 ++ t320) (wrap64 ((ji64) + x7_3))) else (none))) else (none)) else (none)) else (none)) = some r := by first | (rw [hji64] at H; exact H) | (simp only [hji64] at H ⊢; exact H)
                                (try rw [hji64] at c16b0)
                                have hji64w : (IntKind.i64.wrap (x4_1 + 1)) = ji64 := (i64_w _).trans hji64
                                by_cases c65 : 0 ≤ (ji64)
                                · rw [if_pos c65] at H
                                  have c65b0 := eq_true c65
                                  have c65b1 : decide (0 ≤ (ji64)) = true := decide_eq_true c65
                                  clear c65
                                  by_cases c66 : (ji64) ≤ (wrap64 ((ji64) + x7_3))
                                  · rw [if_pos c66] at H
                                    have c66b0 := eq_true c66
                                    have c66b1 : decide ((ji64) ≤ (wrap64 ((ji64) + x7_3))) = true := decide_eq_true c66
                                    by_cases c67 : (wrap64 ((ji64) + x7_3)) ≤ (l0.length : Int)
                                    · rw [if_pos c67] at H
                                      have c67b0 := eq_true c67
                                      have c67b1 : decide ((wrap64 ((ji64) + x7_3)) ≤ (l0.length : Int)) = true := decide_eq_true c67
                                      replace H := Option.bind_eq_some_iff.mp H
                                      obtain ⟨t320, A680, H⟩ := H
                                      replace H : (if y316.length + t320.length < 140737488355328 then (capnpref21_Words.l0 k3 l0 (y316 ++ t320) (wrap64 ((ji64) + x7_3))) else (none)) = some r := H
                                      have A68 := Aside0.mk A680
                                      clear A680
                                      by_cases c69 : y316.length + t320.length < 140737488355328
                                      · rw [if_pos c69] at H
                                        have LMc69 := Aside0.mk c69
                                        clear c69
                                        obtain ⟨y323, hy323⟩ : ∃ y_ : List Int, y_ = (y316 ++ t320) := ⟨_, rfl⟩
                                        replace H : (capnpref21_Words.l0 k3 l0 y323 (wrap64 ((ji64) + x7_3))) = some r := by first | (rw [hy323]; with_reducible exact H) | (have H2_ := (Option.bind_some _ _).symm.trans H; rw [hy323]; with_reducible exact H2_) | (have H2_ := (Option.bind_some _ _).symm.trans H; with_reducible exact H2_) | with_reducible exact H | (rw [hy323]; exact H) | exact H
                                        have Ny323 := Aside0.mk hy323
                                        clear hy323
                                        have H' := Aside0.mk H
                                        clear H
                                        go_wp2_with (first | ((with_reducible refine gate_builtin (b := .append) (xs := #[.tmp 72, .tmp 75]) rfl ?_); at_builtin; refine Kd.R_append (Kd.int .u8) (w0 := w) w.heap.size rfl (.tmp 72) (.tmp 75) 22 5 (.int .u8 0) 1 rfl Try.underlying22 info5 rfl (by decide) (by omega) v283 y282 ((x7_3) % 256) [.int .u8 ((x7_3) % 256)] (fun _ => True) (fun _ => False) rfl rfl ?aP (fun _ hk => hk.elim) ?aF ?aO ?aB ?aS ?aL ?_; (case aP => exact rfl); (case aB => exact pB); (case aF => exact (fun _ _ => trivial)); (case aO => exact (pR HO_3)); (case aS => exact (below_size pB)); (case aL => have := LMc62.out; omega); intro v317 w70 ho hb hg hat; rw [← Ny316.out] at ho; have n0_ := Aside0.mk (hb); have n1_ := Aside0.mk (ho); clear HB; clear HO_3; have HB := n0_; have HO318 := n1_; clear n0_ n1_; clear ho hb hg hat; obtain ⟨i071, hi071, _, hsz71, _⟩ := info_parts info53; obtain ⟨A71, hcut71, hA71, hC71⟩ := print_mid_of (P := Try.prog) (Value.int .u64) 0 44 53 .i64 .i64 Try.underlying44 hi071 hsz71 (some ad274) c0 l0 (ji64) (wrap64 ((ji64) + x7_3)) (of_decide_eq_true pA) (by first | omega | exact of_decide_eq_true pA) (of_decide_eq_true pA) HC0.out; have HR319 := Aside0.mk (Kd.C_of_reads (h1 := fun _ => rfl) (hA71 _ (Kd.reads_of_C HR0.out))); have HC319 := Aside0.mk hC71; clear hA71 hC71 hi071 hsz71) | ((with_reducible refine gate_callee (f := 29) rfl ?_); refine goesL_ (some 86) rfl rfl Try.func29 (by kernel_rfl) rfl #[.slice A71 ((l0.take ((wrap64 ((ji64) + x7_3)) : Int).toNat).drop ((ji64) : Int).toNat).length (c0 - (ji64).toNat)] rfl (by (try simp only [List.map_toArray, List.map_cons, List.map_nil]); first | done | (rw [show ((l0.take ((wrap64 ((ji64) + x7_3)) : Int).toNat).drop ((ji64) : Int).toNat).length = ((wrap64 ((ji64) + x7_3)).toNat - (ji64).toNat) from (by rw [List.length_drop, List.length_take]; have h_ : ((wrap64 ((ji64) + x7_3)) : Int) ≤ (l0.length : Int) := of_decide_eq_true pA; omega)] <;> rfl) | (simp only [hji64]; rfl) | rfl | (simp only [List.length_drop, List.length_take]; rfl)) ?_; (with_reducible refine (capnpref01_Bytes.calls k3 _ _ ((l0.take ((wrap64 ((ji64) + x7_3)) : Int).toNat).drop ((ji64) : Int).toNat) t320 _ ?side1 ?side2 A68.out).mono ?_); (case side1 => repeat (first | exact (Kd.C_below HR319.out HB.out) | (with_reducible refine Kd.C_alloc ?_ _) | (with_reducible refine Kd.C_drewN ?_ _) | (with_reducible refine Kd.C_drew ?_))); (case side2 => exact HC319.out); rintro e w72 ⟨v321, rfl, ho0, hb⟩; refine ⟨_, rfl, ?_⟩; have n0_ := Aside0.mk (Kd.R_elder' (pR HO318) (Kd.R_base ho0) hb); have n1_ := Aside0.mk (Kd.R_lower (Kd.R_new' ho0 (Kd.R_lt (pR HO318))) (below_size pB)); have n2_ := Aside0.mk (below_step pB hb); clear HO318; clear HB; have HO318 := n0_; have HO322 := n1_; have HB := n2_; clear n0_ n1_ n2_; (try clear hb); (try clear hb2); (try clear hk); (try clear hi); (try clear ho0); obtain ⟨Ao74, co74, eo74⟩ := Kd.R_slice HO322.out; subst eo74) | ((with_reducible refine gate_builtin (b := .append) (xs := #[.tmp 79, .tmp 86]) rfl ?_); at_builtin; refine Kd.R_append_rows (Kd.int .u8) (w0 := w) w.heap.size rfl (.tmp 79) (.tmp 86) 22 5 (.int .u8 0) 1 rfl Try.underlying22 info5 rfl (by decide) (by omega) v317 y316 t320 _ _ _ (fun k_ => some k_ ≠ (.slice Ao74 t320.length co74 : Value).ownBlock) (fun _ => False) rfl rfl ?aO ?aR (fun _ _ h => h) (fun _ h => h.elim) ?aF ?aB ?aS ?aL ?_; (case aR => repeat (first | exact (Kd.R_reads' HO322.out).2.2 | (with_reducible refine Kd.C_alloc ?_ _) | (with_reducible refine Kd.C_drewN ?_ _) | (with_reducible refine Kd.C_drew ?_))); (case aB => exact pB); (case aF => exact (fun k_ hk => Kd.fresh' (Kd.R_lt (pR HO322)) k_ hk)); (case aO => exact (by (with_reducible repeat (first | apply Kd.R_alloc | apply Kd.R_drewN | apply Kd.R_drew)); exact Kd.R_mono HO318.out (fun _ hk => hk.2))); (case aS => exact (below_size pB)); (case aL => have := LMc69.out; omega); intro v324 w73 ho hb hg hat; rw [← Ny323.out] at ho; have n0_ := Aside0.mk (Kd.R_after (ok := (fun _ => True)) (pR HO322) hg hat); have n1_ := Aside0.mk (hb); have n2_ := Aside0.mk (ho); clear HO322; clear HB; clear HO318; have HO322 := n0_; have HB := n1_; have HO325 := n2_; clear n0_ n1_ n2_; clear ho hb hg hat))
                                        (first | go_roundg k3 | ((try subst hji64); go_roundg k3))
                                        case measure => have := HK1.out; have := HJ7.out; have := HK3.out; omega
                                        case rel => exact ⟨(y323), (wrap64 ((ji64) + x7_3)), (by first | rfl | (simp; done) | (simp only [← hji64] <;> (first | rfl | simp)) | (simp [*]; done)), H', ⟨by have := HK1.out; have := HJ7.out; have := HK3.out; omega⟩, ⟨by (with_reducible repeat (first | apply Kd.R_alloc | apply Kd.R_drewN | apply Kd.R_drew)); exact Kd.R_mono HO325.out (fun _ hk => trivial)⟩, ⟨pB⟩⟩
                                      · rw [if_neg c69] at H
                                        exact absurd H (by simp)
                                    · rw [if_neg c67] at H
                                      exact absurd H (by simp)
                                  · rw [if_neg c66] at H
                                    exact absurd H (by simp)
                                · rw [if_neg c65] at H
                                  exact absurd H (by simp)
                              · rw [if_neg c63] at H
                                have c63b0 : (t275 == 255) = false := beq_eq_false_iff_ne.mpr c63
                                have c63b1 : (t275 != 255) = true := bne_iff_ne.mpr c63
                                have H' := Aside0.mk H
                                clear H
                                go_wp2_with (first | ((with_reducible refine gate_builtin (b := .append) (xs := #[.tmp 72, .tmp 75]) rfl ?_); at_builtin; refine Kd.R_append (Kd.int .u8) (w0 := w) w.heap.size rfl (.tmp 72) (.tmp 75) 22 5 (.int .u8 0) 1 rfl Try.underlying22 info5 rfl (by decide) (by omega) v283 y282 ((x7_3) % 256) [.int .u8 ((x7_3) % 256)] (fun _ => True) (fun _ => False) rfl rfl ?aP (fun _ hk => hk.elim) ?aF ?aO ?aB ?aS ?aL ?_; (case aP => exact rfl); (case aB => exact pB); (case aF => exact (fun _ _ => trivial)); (case aO => exact (pR HO_3)); (case aS => exact (below_size pB)); (case aL => have := LMc62.out; omega); intro v317 w75 ho hb hg hat; rw [← Ny316.out] at ho; have n0_ := Aside0.mk (hb); have n1_ := Aside0.mk (ho); clear HB; clear HO_3; have HB := n0_; have HO318 := n1_; clear n0_ n1_; clear ho hb hg hat))
                                go_roundg k3
                                case measure => have := HK1.out; have := HJ7.out; have := HK3.out; omega
                                case rel => exact ⟨(y316), (wrap64 ((wrap64 (x4_1 + 1)) + x7_3)), (by first | rfl | (simp; done) | (simp [*]; done)), H', ⟨by have := HK1.out; have := HJ7.out; have := HK3.out; omega⟩, ⟨pR HO318⟩, ⟨pB⟩⟩
                            · rw [if_neg c62] at H
                              exact absurd H (by simp)
                        · rw [if_neg c16] at H
                          have c16b0 : decide ((wrap64 ((wrap64 (x4_1 + 1)) + x7_3)) < (l0.length : Int)) = false := decide_eq_false c16
                          clear c16
                          by_cases c76 : y282.length < 140737488355328
                          · rw [if_pos c76] at H
                            have LMc76 := Aside0.mk c76
                            clear c76
                            obtain ⟨y326, hy326⟩ : ∃ y_ : List Int, y_ = (y282 ++ [(x7_3) % 256]) := ⟨_, rfl⟩
                            replace H : (if t275 = 255 then (if 0 ≤ (wrap64 (x4_1 + 1)) then (if (wrap64 (x4_1 + 1)) ≤ (wrap64 ((wrap64 (x4_1 + 1)) + x7_3)) then (if (wrap64 ((wrap64 (x4_1 + 1)) + x7_3)) ≤ (l0.length : Int) then ((capnpref01_Bytes.f k3 ((l0.take ((wrap64 ((wrap64 (x4_1 + 1)) + x7_3)) : Int).toNat).drop ((wrap64 (x4_1 + 1)) : Int).toNat)).bind fun t330 => (if y326.length + t330.length < 140737488355328 then (capnpref21_Words.l0 k3 l0 (y326 ++ t330) (wrap64 ((wrap64 (x4_1 + 1)) + x7_3))) else (none))) else (none)) else (none)) else (none)) else (capnpref21_Words.l0 k3 l0 y326 (wrap64 ((wrap64 (x4_1 + 1)) + x7_3)))) = some r := by first | (rw [hy326]; with_reducible exact H) | (have H2_ := (Option.bind_some _ _).symm.trans H; rw [hy326]; with_reducible exact H2_) | (have H2_ := (Option.bind_some _ _).symm.trans H; with_reducible exact H2_) | with_reducible exact H | (rw [hy326]; exact H) | exact H
                            have Ny326 := Aside0.mk hy326
                            clear hy326
                            by_cases c77 : t275 = 255
                            · rw [if_pos c77] at H
                              have c77b0 : (t275 == 255) = true := beq_iff_eq.mpr c77
                              have c77b1 : (t275 != 255) = false := bne_eq_false_iff_eq.mpr c77
                              clear c77
                              try subst hji27
                              try subst hji48
                              try subst hji64
                              obtain ⟨ji78, hji78⟩ : ∃ j_ : Int, (wrap64 (x4_1 + 1)) = j_ := ⟨_, rfl⟩
                              replace H : (if 0 ≤ (ji78) then (if (ji78) ≤ (wrap64 ((ji78) + x7_3)) then (if (wrap64 ((ji78) + x7_3)) ≤ (l0.length : Int) then ((capnpref01_Bytes.f k3 ((l0.take ((wrap64 ((ji78) + x7_3)) : Int).toNat).drop ((ji78) : Int).toNat)).bind fun t330 => (if y326.length + t330.length < 140737488355328 then (capnpref21_Words.l0 k3 l0 (y326 ++ t330) (wrap64 ((ji78) + x7_3))) else (none))) else (none)) else (none)) else (none)) = some r := by first | (rw [hji78] at H; exact H) | (simp only [hji78] at H ⊢; exact H)
                              (try rw [hji78] at c16b0)
                              have hji78w : (IntKind.i64.wrap (x4_1 + 1)) = ji78 := (i64_w _).trans hji78
                              by_cases c79 : 0 ≤ (ji78)
                              · rw [if_pos c79] at H
                                have c79b0 := eq_true c79
                                have c79b1 : decide (0 ≤ (ji78)) = true := decide_eq_true c79
                                clear c79
                                by_cases c80 : (ji78) ≤ (wrap64 ((ji78) + x7_3))
                                · rw [if_pos c80] at H
                                  have c80b0 := eq_true c80
                                  have c80b1 : decide ((ji78) ≤ (wrap64 ((ji78) + x7_3))) = true := decide_eq_true c80
                                  by_cases c81 : (wrap64 ((ji78) + x7_3)) ≤ (l0.length : Int)
                                  · rw [if_pos c81] at H
                                    have c81b0 := eq_true c81
                                    have c81b1 : decide ((wrap64 ((ji78) + x7_3)) ≤ (l0.length : Int)) = true := decide_eq_true c81
                                    replace H := Option.bind_eq_some_iff.mp H
                                    obtain ⟨t330, A820, H⟩ := H
                                    replace H : (if y326.length + t330.length < 140737488355328 then (capnpref21_Words.l0 k3 l0 (y326 ++ t330) (wrap64 ((ji78) + x7_3))) else (none)) = some r := H
                                    have A82 := Aside0.mk A820
                                    clear A820
                                    by_cases c83 : y326.length + t330.length < 140737488355328
                                    · rw [if_pos c83] at H
                                      have LMc83 := Aside0.mk c83
                                      clear c83
                                      obtain ⟨y333, hy333⟩ : ∃ y_ : List Int, y_ = (y326 ++ t330) := ⟨_, rfl⟩
                                      replace H : (capnpref21_Words.l0 k3 l0 y333 (wrap64 ((ji78) + x7_3))) = some r := by first | (rw [hy333]; with_reducible exact H) | (have H2_ := (Option.bind_some _ _).symm.trans H; rw [hy333]; with_reducible exact H2_) | (have H2_ := (Option.bind_some _ _).symm.trans H; with_reducible exact H2_) | with_reducible exact H | (rw [hy333]; exact H) | exact H
                                      have Ny333 := Aside0.mk hy333
                                      clear hy333
                                      have H' := Aside0.mk H
                                      clear H
                                      go_wp2_with (first | ((with_reducible refine gate_builtin (b := .append) (xs := #[.tmp 72, .tmp 75]) rfl ?_); at_builtin; refine Kd.R_append (Kd.int .u8) (w0 := w) w.heap.size rfl (.tmp 72) (.tmp 75) 22 5 (.int .u8 0) 1 rfl Try.underlying22 info5 rfl (by decide) (by omega) v283 y282 ((x7_3) % 256) [.int .u8 ((x7_3) % 256)] (fun _ => True) (fun _ => False) rfl rfl ?aP (fun _ hk => hk.elim) ?aF ?aO ?aB ?aS ?aL ?_; (case aP => exact rfl); (case aB => exact pB); (case aF => exact (fun _ _ => trivial)); (case aO => exact (pR HO_3)); (case aS => exact (below_size pB)); (case aL => have := LMc76.out; omega); intro v327 w84 ho hb hg hat; rw [← Ny326.out] at ho; have n0_ := Aside0.mk (hb); have n1_ := Aside0.mk (ho); clear HB; clear HO_3; have HB := n0_; have HO328 := n1_; clear n0_ n1_; clear ho hb hg hat; obtain ⟨i085, hi085, _, hsz85, _⟩ := info_parts info53; obtain ⟨A85, hcut85, hA85, hC85⟩ := print_mid_of (P := Try.prog) (Value.int .u64) 0 44 53 .i64 .i64 Try.underlying44 hi085 hsz85 (some ad274) c0 l0 (ji78) (wrap64 ((ji78) + x7_3)) (of_decide_eq_true pA) (by first | omega | exact of_decide_eq_true pA) (of_decide_eq_true pA) HC0.out; have HR329 := Aside0.mk (Kd.C_of_reads (h1 := fun _ => rfl) (hA85 _ (Kd.reads_of_C HR0.out))); have HC329 := Aside0.mk hC85; clear hA85 hC85 hi085 hsz85) | ((with_reducible refine gate_callee (f := 29) rfl ?_); refine goesL_ (some 86) rfl rfl Try.func29 (by kernel_rfl) rfl #[.slice A85 ((l0.take ((wrap64 ((ji78) + x7_3)) : Int).toNat).drop ((ji78) : Int).toNat).length (c0 - (ji78).toNat)] rfl (by (try simp only [List.map_toArray, List.map_cons, List.map_nil]); first | done | (rw [show ((l0.take ((wrap64 ((ji78) + x7_3)) : Int).toNat).drop ((ji78) : Int).toNat).length = ((wrap64 ((ji78) + x7_3)).toNat - (ji78).toNat) from (by rw [List.length_drop, List.length_take]; have h_ : ((wrap64 ((ji78) + x7_3)) : Int) ≤ (l0.length : Int) := of_decide_eq_true pA; omega)] <;> rfl) | (simp only [hji78]; rfl) | rfl | (simp only [List.length_drop, List.length_take]; rfl)) ?_; (with_reducible refine (capnpref01_Bytes.calls k3 _ _ ((l0.take ((wrap64 ((ji78) + x7_3)) : Int).toNat).drop ((ji78) : Int).toNat) t330 _ ?side1 ?side2 A82.out).mono ?_); (case side1 => repeat (first | exact (Kd.C_below HR329.out HB.out) | (with_reducible refine Kd.C_alloc ?_ _) | (with_reducible refine Kd.C_drewN ?_ _) | (with_reducible refine Kd.C_drew ?_))); (case side2 => exact HC329.out); rintro e w86 ⟨v331, rfl, ho0, hb⟩; refine ⟨_, rfl, ?_⟩; have n0_ := Aside0.mk (Kd.R_elder' (pR HO328) (Kd.R_base ho0) hb); have n1_ := Aside0.mk (Kd.R_lower (Kd.R_new' ho0 (Kd.R_lt (pR HO328))) (below_size pB)); have n2_ := Aside0.mk (below_step pB hb); clear HO328; clear HB; have HO328 := n0_; have HO332 := n1_; have HB := n2_; clear n0_ n1_ n2_; (try clear hb); (try clear hb2); (try clear hk); (try clear hi); (try clear ho0); obtain ⟨Ao88, co88, eo88⟩ := Kd.R_slice HO332.out; subst eo88) | ((with_reducible refine gate_builtin (b := .append) (xs := #[.tmp 79, .tmp 86]) rfl ?_); at_builtin; refine Kd.R_append_rows (Kd.int .u8) (w0 := w) w.heap.size rfl (.tmp 79) (.tmp 86) 22 5 (.int .u8 0) 1 rfl Try.underlying22 info5 rfl (by decide) (by omega) v327 y326 t330 _ _ _ (fun k_ => some k_ ≠ (.slice Ao88 t330.length co88 : Value).ownBlock) (fun _ => False) rfl rfl ?aO ?aR (fun _ _ h => h) (fun _ h => h.elim) ?aF ?aB ?aS ?aL ?_; (case aR => repeat (first | exact (Kd.R_reads' HO332.out).2.2 | (with_reducible refine Kd.C_alloc ?_ _) | (with_reducible refine Kd.C_drewN ?_ _) | (with_reducible refine Kd.C_drew ?_))); (case aB => exact pB); (case aF => exact (fun k_ hk => Kd.fresh' (Kd.R_lt (pR HO332)) k_ hk)); (case aO => exact (by (with_reducible repeat (first | apply Kd.R_alloc | apply Kd.R_drewN | apply Kd.R_drew)); exact Kd.R_mono HO328.out (fun _ hk => hk.2))); (case aS => exact (below_size pB)); (case aL => have := LMc83.out; omega); intro v334 w87 ho hb hg hat; rw [← Ny333.out] at ho; have n0_ := Aside0.mk (Kd.R_after (ok := (fun _ => True)) (pR HO332) hg hat); have n1_ := Aside0.mk (hb); have n2_ := Aside0.mk (ho); clear HO332; clear HB; clear HO328; have HO332 := n0_; have HB := n1_; have HO335 := n2_; clear n0_ n1_ n2_; clear ho hb hg hat))
                                      (first | go_roundg k3 | ((try subst hji78); go_roundg k3))
                                      case measure => have := HK1.out; have := HJ7.out; have := HK3.out; omega
                                      case rel => exact ⟨(y333), (wrap64 ((ji78) + x7_3)), (by first | rfl | (simp; done) | (simp only [← hji78] <;> (first | rfl | simp)) | (simp [*]; done)), H', ⟨by have := HK1.out; have := HJ7.out; have := HK3.out; omega⟩, ⟨by (with_reducible repeat (first | apply Kd.R_alloc | apply Kd.R_drewN | apply Kd.R_drew)); exact Kd.R_mono HO335.out (fun _ hk => trivial)⟩, ⟨pB⟩⟩
                                    · rw [if_neg c83] at H
                                      exact absurd H (by simp)
                                  · rw [if_neg c81] at H
                                    exact absurd H (by simp)
                                · rw [if_neg c80] at H
                                  exact absurd H (by simp)
                              · rw [if_neg c79] at H
                                exact absurd H (by simp)
                            · rw [if_neg c77] at H
                              have c77b0 : (t275 == 255) = false := beq_eq_false_iff_ne.mpr c77
                              have c77b1 : (t275 != 255) = true := bne_iff_ne.mpr c77
                              have H' := Aside0.mk H
                              clear H
                              go_wp2_with (first | ((with_reducible refine gate_builtin (b := .append) (xs := #[.tmp 72, .tmp 75]) rfl ?_); at_builtin; refine Kd.R_append (Kd.int .u8) (w0 := w) w.heap.size rfl (.tmp 72) (.tmp 75) 22 5 (.int .u8 0) 1 rfl Try.underlying22 info5 rfl (by decide) (by omega) v283 y282 ((x7_3) % 256) [.int .u8 ((x7_3) % 256)] (fun _ => True) (fun _ => False) rfl rfl ?aP (fun _ hk => hk.elim) ?aF ?aO ?aB ?aS ?aL ?_; (case aP => exact rfl); (case aB => exact pB); (case aF => exact (fun _ _ => trivial)); (case aO => exact (pR HO_3)); (case aS => exact (below_size pB)); (case aL => have := LMc76.out; omega); intro v327 w89 ho hb hg hat; rw [← Ny326.out] at ho; have n0_ := Aside0.mk (hb); have n1_ := Aside0.mk (ho); clear HB; clear HO_3; have HB := n0_; have HO328 := n1_; clear n0_ n1_; clear ho hb hg hat))
                              go_roundg k3
                              case measure => have := HK1.out; have := HJ7.out; have := HK3.out; omega
                              case rel => exact ⟨(y326), (wrap64 ((wrap64 (x4_1 + 1)) + x7_3)), (by first | rfl | (simp; done) | (simp [*]; done)), H', ⟨by have := HK1.out; have := HJ7.out; have := HK3.out; omega⟩, ⟨pR HO328⟩, ⟨pB⟩⟩
                          · rw [if_neg c76] at H
                            exact absurd H (by simp)
            · rw [if_neg c7] at H
              exact absurd H (by simp)
          · rw [if_neg c5] at H
            exact absurd H (by simp)
        · rw [if_neg c3] at H
          exact absurd H (by simp)
      · rw [if_neg c2] at H
        have c2b0 : decide (x4_1 < (l0.length : Int)) = false := decide_eq_false c2
        clear c2
        obtain rfl := Option.some.inj H
        go_wp2
        go_ret
        exact ⟨_, by first | rfl | (simp [errW_none, errW_some] <;> rfl) | (simp [*, errW_none, errW_some] <;> rfl), by (with_reducible repeat (first | apply Kd.R_alloc | apply Kd.R_drewN | apply Kd.R_drew)); exact HO_3.out, pB⟩
def capnpref21_Bytes.f (k : Nat) (l0 : List Int) : Option (List Int × Int) := (capnpref01_Words.f k l0).bind fun bt336 => (if bt336.2 = true then ((capnpref21_Words.f k bt336.1).bind fun t340 => (some (t340, 0))) else (some (([] : List Int), 9)))
theorem capnpref21_Bytes.mono : ∀ a0 k, LeO (capnpref21_Bytes.f k a0) (capnpref21_Bytes.f (k + 1) a0) := by
  intro a0 k
  unfold capnpref21_Bytes.f
  repeat' first
      | (with_reducible exact capnpref01_Words.mono _ _)
      | (with_reducible exact capnpref21_Words.mono _ _)
      | (with_reducible exact LeO.refl _)
      | (with_reducible exact LeO.none _)
      | (with_reducible refine LeO.ite ?_ ?_)
      | (with_reducible refine LeO.bind ?_ (fun _ => ?_))
      | exact capnpref01_Words.mono _ _
      | exact capnpref21_Words.mono _ _
      | exact LeO.none _
      | refine LeO.ite ?_ ?_
      | refine LeO.bind ?_ (fun _ => ?_)
theorem capnpref21_Bytes.calls (k : Nat) (A0 : Option Addr) (c0 : Nat) (l0 : List Int) (r1 : List Int) (r2 : Int) (w : World) (hr0 : Kd.C (Kd.int .u8) w A0 l0.length l0) (hc0 : l0.length ≤ c0) (h : capnpref21_Bytes.f k l0 = some (r1, r2)) :
    Calls Try.prog 18 #[.slice A0 l0.length c0] w fun e w' => ∃ v0_ : Value, e = .returned (.tuple #[v0_, .int .i64 r2]) ∧ Kd.R (Kd.int .u8) 5 w' w.heap.size (fun _ => True) v0_ r1 ∧ Below w.heap.size w w' := by
  have HR0 := Aside0.mk hr0
  have HC0 := Aside0.mk hc0
  clear hr0 hc0
  have HB := Aside0.mk (Below.refl w.heap.size w)
  have H : ((capnpref01_Words.f k l0).bind fun bt336 => (if bt336.2 = true then ((capnpref21_Words.f k bt336.1).bind fun t340 => (some (t340, 0))) else (some (([] : List Int), 9)))) = some (r1, r2) := h
  clear h
  replace H := Option.bind_eq_some_iff.mp H
  obtain ⟨⟨t336, t337⟩, A20, H⟩ := H
  replace H : (if t337 = true then ((capnpref21_Words.f k t336).bind fun t340 => (some (t340, 0))) else (some (([] : List Int), 9))) = some (r1, r2) := H
  have A2 := Aside0.mk A20
  clear A20
  by_cases c3 : t337 = true
  · subst c3
    have H1 : ((capnpref21_Words.f k t336).bind fun t340 => (some (t340, 0))) = some (r1, r2) := by rw [if_pos rfl] at H; exact H
    clear H
    have H := H1
    clear H1
    replace H := Option.bind_eq_some_iff.mp H
    obtain ⟨t340, A40, H⟩ := H
    replace H : (some (t340, 0)) = some (r1, r2) := H
    have A4 := Aside0.mk A40
    clear A40
    simp only [Option.some.injEq, Prod.mk.injEq] at H
    obtain ⟨rfl, rfl⟩ := H
    go_enter Try.func18, Try.ntmps18
    go_wp2_with (first | ((with_reducible refine gate_callee (f := 19) rfl ?_); refine goesL_ (some 8) rfl rfl Try.func19 (by kernel_rfl) rfl #[.slice A0 l0.length c0] rfl pM ?_; (with_reducible refine (capnpref01_Words.calls k _ _ l0 t336 true _ ?side1 ?side2 A2.out).mono ?_); (case side1 => repeat (first | exact HR0.out | (with_reducible refine Kd.C_alloc ?_ _) | (with_reducible refine Kd.C_drewN ?_ _) | (with_reducible refine Kd.C_drew ?_))); (case side2 => exact HC0.out); rintro e w5 ⟨v338, rfl, ho0, hb⟩; refine ⟨_, rfl, ?_⟩; have n0_ := Aside0.mk (Kd.R_lower ho0 (below_size pB)); have n1_ := Aside0.mk (below_step pB hb); clear HB; have HO339 := n0_; have HB := n1_; clear n0_ n1_; (try clear hb); (try clear hb2); (try clear hk); (try clear hi); (try clear ho0); obtain ⟨Ao6, co6, eo6⟩ := Kd.R_slice HO339.out; subst eo6) | ((with_reducible refine gate_callee (f := 20) rfl ?_); refine goesL_ (some 14) rfl rfl Try.func20 (by kernel_rfl) rfl #[.slice Ao6 t336.length co6] rfl pM ?_; (with_reducible refine (capnpref21_Words.calls k _ _ t336 t340 _ ?side1 ?side2 A4.out).mono ?_); (case side1 => repeat (first | exact (Kd.R_reads' HO339.out).2.2 | (with_reducible refine Kd.C_alloc ?_ _) | (with_reducible refine Kd.C_drewN ?_ _) | (with_reducible refine Kd.C_drew ?_))); (case side2 => exact (Kd.R_reads' HO339.out).2.1); rintro e w7 ⟨v341, rfl, ho0, hb⟩; refine ⟨_, rfl, ?_⟩; have n0_ := Aside0.mk (Kd.R_below (pR HO339) hb); have n1_ := Aside0.mk (Kd.R_lower ho0 (below_size pB)); have n2_ := Aside0.mk (below_step pB hb); clear HO339; clear HB; have HO339 := n0_; have HO342 := n1_; have HB := n2_; clear n0_ n1_ n2_; (try clear hb); (try clear hb2); (try clear hk); (try clear hi); (try clear ho0)))
    go_ret2
    exact ⟨_, by first | rfl | (simp [errW_none, errW_some] <;> rfl) | (simp [*, errW_none, errW_some] <;> rfl), by (with_reducible repeat (first | apply Kd.R_alloc | apply Kd.R_drewN | apply Kd.R_drew)); exact HO342.out, pB⟩
  · replace c3 := Bool.eq_false_iff.mpr c3
    subst c3
    have H1 : (some (([] : List Int), 9)) = some (r1, r2) := by rw [if_neg (show ¬ (false = true) by decide)] at H; exact H
    clear H
    have H := H1
    clear H1
    simp only [Option.some.injEq, Prod.mk.injEq] at H
    obtain ⟨rfl, rfl⟩ := H
    go_enter Try.func18, Try.ntmps18
    go_wp2_with (first | ((with_reducible refine gate_callee (f := 19) rfl ?_); refine goesL_ (some 8) rfl rfl Try.func19 (by kernel_rfl) rfl #[.slice A0 l0.length c0] rfl pM ?_; (with_reducible refine (capnpref01_Words.calls k _ _ l0 t336 false _ ?side1 ?side2 A2.out).mono ?_); (case side1 => repeat (first | exact HR0.out | (with_reducible refine Kd.C_alloc ?_ _) | (with_reducible refine Kd.C_drewN ?_ _) | (with_reducible refine Kd.C_drew ?_))); (case side2 => exact HC0.out); rintro e w8 ⟨v338, rfl, ho0, hb⟩; refine ⟨_, rfl, ?_⟩; have n0_ := Aside0.mk (Kd.R_lower ho0 (below_size pB)); have n1_ := Aside0.mk (below_step pB hb); clear HB; have HO339 := n0_; have HB := n1_; clear n0_ n1_; (try clear hb); (try clear hb2); (try clear hk); (try clear hi); (try clear ho0)))
    go_ret2
    exact ⟨_, by first | rfl | (simp [errW_none, errW_some] <;> rfl) | (simp [*, errW_none, errW_some] <;> rfl), by first | exact Kd.R_nil _ _ _ _ _ | exact Kd.N_nil _ _ _ _ _ | exact Kd.V_nil _ _ _ _ _ | exact Kd.Q_nil _ _ _ _ _ | exact Kd.S_nil _ _ _ _ _, pB⟩
end Go.Proofs.Ytibkbgaonjdpiaa.PPackstreamChunks
