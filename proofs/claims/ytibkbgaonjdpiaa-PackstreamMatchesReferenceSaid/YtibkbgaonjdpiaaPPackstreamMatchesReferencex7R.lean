/- Printed functions of a law, and their walks. -/
import Derived.Test.YtibkbgaonjdpiaaXShortR
import Derived.Test.YtibkbgaonjdpiaaPPackstreamMatchesReferencex0R
import Derived.Test.YtibkbgaonjdpiaaPPackstreamMatchesReferencex5R
import Derived.Test.YtibkbgaonjdpiaaPPackstreamMatchesReferencex6R
namespace Go.Proofs.Ytibkbgaonjdpiaa.PPackstreamMatchesReference
open Go.RowKit Go.Proofs.YtibkbgaonjdpiaaW.PrintWords Go.Proofs.YtibkbgaonjdpiaaW.PrintLast Go.Proofs.YtibkbgaonjdpiaaW.PrintMore
open Go.Proofs.Ytibkbgaonjdpiaa.PPaBase
attribute [local go_sem] max2_int min2_int max_two min_two max_three min_three max_four min_four   -- for this text's walks alone
set_option linter.unusedVariables false
set_option linter.unusedSimpArgs false
mutual
def capnpref21_Words.l0 : Nat → List Int → List Int → Int → Option (List Int)
  | 0, _, _, _ => none
  | k + 1, x0, x3, x4 => if x4 < (x0.length : Int) then (if 0 ≤ x4 then ((capnpref20_Of.f k (rd x0 x4)).bind fun t284 => (if x3.length < 140737488355328 then ((some (x3 ++ [t284] : List Int)).bind fun y285 => ((capnpref20_Bytes.f k (rd x0 x4)).bind fun t288 => (if y285.length + t288.length < 140737488355328 then ((some (y285 ++ t288 : List Int)).bind fun y291 => (if t284 = 0 then (capnpref21_Words.j1 k x0 y291 (wrap64 (x4 + 1)) t284 false) else (capnpref21_Words.j1 k x0 y291 (wrap64 (x4 + 1)) t284 (t284 != 255)))) else (none)))) else (none))) else (none)) else (some x3)
def capnpref21_Words.j1 : Nat → List Int → List Int → Int → Int → Bool → Option (List Int)
  | 0, _, _, _, _, _ => none
  | k + 1, x0, x3, x4, x6, x33 => if x33 = true then (capnpref21_Words.l0 k x0 x3 x4) else (capnpref21_Words.l1 k x0 x3 x4 x6 0)
def capnpref21_Words.l1 : Nat → List Int → List Int → Int → Int → Int → Option (List Int)
  | 0, _, _, _, _, _ => none
  | k + 1, x0, x3, x4, x6, x7 => if (wrap64 (x4 + x7)) < (x0.length : Int) then (if x7 < 255 then (if x6 = 0 then (if 0 ≤ (wrap64 (x4 + x7)) then (if (rd x0 (wrap64 (x4 + x7))) = 0 then (capnpref21_Words.l1 k x0 x3 x4 x6 (wrap64 (x7 + 1))) else (if x6 = 255 then ((capnpref20_Dense.f k (rd x0 (wrap64 (x4 + x7)))).bind fun t296 => (if t296 = true then (capnpref21_Words.l1 k x0 x3 x4 x6 (wrap64 (x7 + 1))) else (if x3.length < 140737488355328 then ((some (x3 ++ [(x7) % 256] : List Int)).bind fun y297 => (if 0 ≤ x4 then (if x4 ≤ (wrap64 (x4 + x7)) then (if (wrap64 (x4 + x7)) ≤ (x0.length : Int) then ((capnpref01_Bytes.f k ((x0.take ((wrap64 (x4 + x7)) : Int).toNat).drop (x4 : Int).toNat)).bind fun t301 => (if y297.length + t301.length < 140737488355328 then (capnpref21_Words.l0 k x0 (y297 ++ t301) (wrap64 (x4 + x7))) else (none))) else (none)) else (none)) else (none))) else (none)))) else (if x3.length < 140737488355328 then (capnpref21_Words.l0 k x0 (x3 ++ [(x7) % 256]) (wrap64 (x4 + x7))) else (none)))) else (none)) else (if x6 = 255 then (if 0 ≤ (wrap64 (x4 + x7)) then ((capnpref20_Dense.f k (rd x0 (wrap64 (x4 + x7)))).bind fun t311 => (if t311 = true then (capnpref21_Words.l1 k x0 x3 x4 x6 (wrap64 (x7 + 1))) else (if x3.length < 140737488355328 then ((some (x3 ++ [(x7) % 256] : List Int)).bind fun y312 => (if 0 ≤ x4 then (if x4 ≤ (wrap64 (x4 + x7)) then (if (wrap64 (x4 + x7)) ≤ (x0.length : Int) then ((capnpref01_Bytes.f k ((x0.take ((wrap64 (x4 + x7)) : Int).toNat).drop (x4 : Int).toNat)).bind fun t316 => (if y312.length + t316.length < 140737488355328 then (capnpref21_Words.l0 k x0 (y312 ++ t316) (wrap64 (x4 + x7))) else (none))) else (none)) else (none)) else (none))) else (none)))) else (none)) else (if x3.length < 140737488355328 then (capnpref21_Words.l0 k x0 (x3 ++ [(x7) % 256]) (wrap64 (x4 + x7))) else (none)))) else (if x3.length < 140737488355328 then ((some (x3 ++ [(x7) % 256] : List Int)).bind fun y325 => (if x6 = 255 then (if 0 ≤ x4 then (if x4 ≤ (wrap64 (x4 + x7)) then (if (wrap64 (x4 + x7)) ≤ (x0.length : Int) then ((capnpref01_Bytes.f k ((x0.take ((wrap64 (x4 + x7)) : Int).toNat).drop (x4 : Int).toNat)).bind fun t329 => (if y325.length + t329.length < 140737488355328 then (capnpref21_Words.l0 k x0 (y325 ++ t329) (wrap64 (x4 + x7))) else (none))) else (none)) else (none)) else (none)) else (capnpref21_Words.l0 k x0 y325 (wrap64 (x4 + x7))))) else (none))) else (if x3.length < 140737488355328 then ((some (x3 ++ [(x7) % 256] : List Int)).bind fun y335 => (if x6 = 255 then (if 0 ≤ x4 then (if x4 ≤ (wrap64 (x4 + x7)) then (if (wrap64 (x4 + x7)) ≤ (x0.length : Int) then ((capnpref01_Bytes.f k ((x0.take ((wrap64 (x4 + x7)) : Int).toNat).drop (x4 : Int).toNat)).bind fun t339 => (if y335.length + t339.length < 140737488355328 then (capnpref21_Words.l0 k x0 (y335 ++ t339) (wrap64 (x4 + x7))) else (none))) else (none)) else (none)) else (none)) else (capnpref21_Words.l0 k x0 y335 (wrap64 (x4 + x7))))) else (none))
end
def capnpref21_Words.f (k : Nat) (l0 : List Int) : Option (List Int) := capnpref21_Words.l0 k l0 ([] : List Int) 0
theorem capnpref21_Words.mono_l : ∀ k, (∀ y0 y1 y2, LeO (capnpref21_Words.l0 k y0 y1 y2) (capnpref21_Words.l0 (k + 1) y0 y1 y2)) ∧ (∀ y0 y1 y2 y3 y4, LeO (capnpref21_Words.j1 k y0 y1 y2 y3 y4) (capnpref21_Words.j1 (k + 1) y0 y1 y2 y3 y4)) ∧ (∀ y0 y1 y2 y3 y4, LeO (capnpref21_Words.l1 k y0 y1 y2 y3 y4) (capnpref21_Words.l1 (k + 1) y0 y1 y2 y3 y4))
  | 0 => ⟨fun _ _ _ r h => by simp [capnpref21_Words.l0] at h, fun _ _ _ _ _ r h => by simp [capnpref21_Words.j1] at h, fun _ _ _ _ _ r h => by simp [capnpref21_Words.l1] at h⟩
  | k + 1 => by
    obtain ⟨ih0, ih1, ih2⟩ := capnpref21_Words.mono_l k
    refine ⟨?_, ?_, ?_⟩
    · intro y0 y1 y2
      unfold capnpref21_Words.l0
      repeat' first
      | (with_reducible exact ih0 _ _ _)
      | (with_reducible exact ih1 _ _ _ _ _)
      | (with_reducible exact ih2 _ _ _ _ _)
      | (with_reducible exact capnpref01_Bytes.mono _ _)
      | (with_reducible exact capnpref20_Bytes.mono _ _)
      | (with_reducible exact capnpref20_Dense.mono _ _)
      | (with_reducible exact capnpref20_Of.mono _ _)
      | (with_reducible exact LeO.refl _)
      | (with_reducible exact LeO.none _)
      | (with_reducible refine LeO.ite ?_ ?_)
      | (with_reducible refine LeO.bind ?_ (fun _ => ?_))
      | exact ih0 _ _ _
      | exact ih1 _ _ _ _ _
      | exact ih2 _ _ _ _ _
      | exact capnpref01_Bytes.mono _ _
      | exact capnpref20_Bytes.mono _ _
      | exact capnpref20_Dense.mono _ _
      | exact capnpref20_Of.mono _ _
      | exact LeO.none _
      | refine LeO.ite ?_ ?_
      | refine LeO.bind ?_ (fun _ => ?_)
    · intro y0 y1 y2 y3 y4
      unfold capnpref21_Words.j1
      repeat' first
      | (with_reducible exact ih0 _ _ _)
      | (with_reducible exact ih1 _ _ _ _ _)
      | (with_reducible exact ih2 _ _ _ _ _)
      | (with_reducible exact capnpref01_Bytes.mono _ _)
      | (with_reducible exact capnpref20_Bytes.mono _ _)
      | (with_reducible exact capnpref20_Dense.mono _ _)
      | (with_reducible exact capnpref20_Of.mono _ _)
      | (with_reducible exact LeO.refl _)
      | (with_reducible exact LeO.none _)
      | (with_reducible refine LeO.ite ?_ ?_)
      | (with_reducible refine LeO.bind ?_ (fun _ => ?_))
      | exact ih0 _ _ _
      | exact ih1 _ _ _ _ _
      | exact ih2 _ _ _ _ _
      | exact capnpref01_Bytes.mono _ _
      | exact capnpref20_Bytes.mono _ _
      | exact capnpref20_Dense.mono _ _
      | exact capnpref20_Of.mono _ _
      | exact LeO.none _
      | refine LeO.ite ?_ ?_
      | refine LeO.bind ?_ (fun _ => ?_)
    · intro y0 y1 y2 y3 y4
      unfold capnpref21_Words.l1
      repeat' first
      | (with_reducible exact ih0 _ _ _)
      | (with_reducible exact ih1 _ _ _ _ _)
      | (with_reducible exact ih2 _ _ _ _ _)
      | (with_reducible exact capnpref01_Bytes.mono _ _)
      | (with_reducible exact capnpref20_Bytes.mono _ _)
      | (with_reducible exact capnpref20_Dense.mono _ _)
      | (with_reducible exact capnpref20_Of.mono _ _)
      | (with_reducible exact LeO.refl _)
      | (with_reducible exact LeO.none _)
      | (with_reducible refine LeO.ite ?_ ?_)
      | (with_reducible refine LeO.bind ?_ (fun _ => ?_))
      | exact ih0 _ _ _
      | exact ih1 _ _ _ _ _
      | exact ih2 _ _ _ _ _
      | exact capnpref01_Bytes.mono _ _
      | exact capnpref20_Bytes.mono _ _
      | exact capnpref20_Dense.mono _ _
      | exact capnpref20_Of.mono _ _
      | exact LeO.none _
      | refine LeO.ite ?_ ?_
      | refine LeO.bind ?_ (fun _ => ?_)
theorem capnpref21_Words.mono : ∀ a0 k, LeO (capnpref21_Words.f k a0) (capnpref21_Words.f (k + 1) a0) := by
  intro a0 k
  obtain ⟨ih0, ih1, ih2⟩ := capnpref21_Words.mono_l k
  unfold capnpref21_Words.f
  repeat' first
      | (with_reducible exact ih0 _ _ _)
      | (with_reducible exact ih1 _ _ _ _ _)
      | (with_reducible exact ih2 _ _ _ _ _)
      | (with_reducible exact capnpref01_Bytes.mono _ _)
      | (with_reducible exact capnpref20_Bytes.mono _ _)
      | (with_reducible exact capnpref20_Dense.mono _ _)
      | (with_reducible exact capnpref20_Of.mono _ _)
      | (with_reducible exact LeO.refl _)
      | (with_reducible exact LeO.none _)
      | (with_reducible refine LeO.ite ?_ ?_)
      | (with_reducible refine LeO.bind ?_ (fun _ => ?_))
      | exact ih0 _ _ _
      | exact ih1 _ _ _ _ _
      | exact ih2 _ _ _ _ _
      | exact capnpref01_Bytes.mono _ _
      | exact capnpref20_Bytes.mono _ _
      | exact capnpref20_Dense.mono _ _
      | exact capnpref20_Of.mono _ _
      | exact LeO.none _
      | refine LeO.ite ?_ ?_
      | refine LeO.bind ?_ (fun _ => ?_)
set_option maxHeartbeats 8000000 in
set_option maxRecDepth 100000 in
theorem capnpref21_Words.calls (k : Nat) (A0 : Option Addr) (c0 : Nat) (l0 : List Int) (r : List Int) (w : World) (hr0 : Kd.C (Kd.int .u64) w A0 l0.length l0) (hc0 : l0.length ≤ c0) (h : capnpref21_Words.f k l0 = some r) :
    Calls Try.prog 20 #[.slice A0 l0.length c0] w fun e w' => ∃ v0_ : Value, e = .returned (v0_) ∧ Kd.R (Kd.int .u8) 5 w' w.heap.size (fun _ => True) v0_ r ∧ Below w.heap.size w w' := by
  have HR0 := Aside0.mk hr0
  have HC0 := Aside0.mk hc0
  clear hr0 hc0
  have HB := Aside0.mk (Below.refl w.heap.size w)
  have H : (capnpref21_Words.l0 k l0 ([] : List Int) 0) = some r := h
  clear h
  have H' := Aside0.mk H
  clear H
  go_enter Try.func20, Try.ntmps20
  go_wp2
  go_loopg [3, 4] k (fun kq v3 v4 w' => ∃ (x3_1 : List Int) (x4_1 : Int), v4 = .int .i64 x4_1 ∧ Aside0 (capnpref21_Words.l0 kq l0 x3_1 x4_1 = some r) ∧ Aside0 (kq ≤ k) ∧ Aside0 (Kd.R (Kd.int .u8) 5 w' w.heap.size (fun _ => True) v3 x3_1) ∧ Aside0 (Below w.heap.size w w'))
  case atStart => exact ⟨(([] : List Int)), (0), (by first | rfl | (simp; done) | (simp [*]; done)), H', ⟨Nat.le_refl _⟩, ⟨by first | exact Kd.R_nil _ _ _ _ _ | exact Kd.N_nil _ _ _ _ _ | exact Kd.V_nil _ _ _ _ _ | exact Kd.Q_nil _ _ _ _ _ | exact Kd.S_nil _ _ _ _ _⟩, ⟨pB⟩⟩
  case round =>
    clear H'
    obtain ⟨x3_1, x4_1, rfl, HA, HK1, HO_3, HB⟩ := hrel
    cases gk with
    | zero => exact absurd HA.out (by simp [capnpref21_Words.l0])
    | succ k1 =>
      have H := HA.out
      clear HA
      simp only [capnpref21_Words.l0] at H
      by_cases c2 : x4_1 < (l0.length : Int)
      · rw [if_pos c2] at H
        have c2b0 : decide (x4_1 < (l0.length : Int)) = true := decide_eq_true c2
        clear c2
        by_cases c3 : 0 ≤ x4_1
        · rw [if_pos c3] at H
          have c3b0 : decide (0 ≤ x4_1) = true := decide_eq_true c3
          clear c3
          replace H := Option.bind_eq_some_iff.mp H
          obtain ⟨t284, A40, H⟩ := H
          replace H : (if x3_1.length < 140737488355328 then ((some (x3_1 ++ [t284] : List Int)).bind fun y285 => ((capnpref20_Bytes.f k1 (rd l0 x4_1)).bind fun t288 => (if y285.length + t288.length < 140737488355328 then ((some (y285 ++ t288 : List Int)).bind fun y291 => (if t284 = 0 then (capnpref21_Words.j1 k1 l0 y291 (wrap64 (x4_1 + 1)) t284 false) else (capnpref21_Words.j1 k1 l0 y291 (wrap64 (x4_1 + 1)) t284 (t284 != 255)))) else (none)))) else (none)) = some r := H
          have A4 := Aside0.mk A40
          clear A40
          by_cases c5 : x3_1.length < 140737488355328
          · rw [if_pos c5] at H
            have LMc5 := Aside0.mk c5
            clear c5
            obtain ⟨y285, hy285⟩ : ∃ y_ : List Int, y_ = (x3_1 ++ [t284]) := ⟨_, rfl⟩
            replace H : ((capnpref20_Bytes.f k1 (rd l0 x4_1)).bind fun t288 => (if y285.length + t288.length < 140737488355328 then ((some (y285 ++ t288 : List Int)).bind fun y291 => (if t284 = 0 then (capnpref21_Words.j1 k1 l0 y291 (wrap64 (x4_1 + 1)) t284 false) else (capnpref21_Words.j1 k1 l0 y291 (wrap64 (x4_1 + 1)) t284 (t284 != 255)))) else (none))) = some r := by first | (rw [hy285]; with_reducible exact H) | (have H2_ := (Option.bind_some _ _).symm.trans H; rw [hy285]; with_reducible exact H2_) | (have H2_ := (Option.bind_some _ _).symm.trans H; with_reducible exact H2_) | with_reducible exact H | (rw [hy285]; exact H) | exact H
            have Ny285 := Aside0.mk hy285
            clear hy285
            replace H := Option.bind_eq_some_iff.mp H
            obtain ⟨t288, A60, H⟩ := H
            replace H : (if y285.length + t288.length < 140737488355328 then ((some (y285 ++ t288 : List Int)).bind fun y291 => (if t284 = 0 then (capnpref21_Words.j1 k1 l0 y291 (wrap64 (x4_1 + 1)) t284 false) else (capnpref21_Words.j1 k1 l0 y291 (wrap64 (x4_1 + 1)) t284 (t284 != 255)))) else (none)) = some r := H
            have A6 := Aside0.mk A60
            clear A60
            by_cases c7 : y285.length + t288.length < 140737488355328
            · rw [if_pos c7] at H
              have LMc7 := Aside0.mk c7
              clear c7
              obtain ⟨y291, hy291⟩ : ∃ y_ : List Int, y_ = (y285 ++ t288) := ⟨_, rfl⟩
              replace H : (if t284 = 0 then (capnpref21_Words.j1 k1 l0 y291 (wrap64 (x4_1 + 1)) t284 false) else (capnpref21_Words.j1 k1 l0 y291 (wrap64 (x4_1 + 1)) t284 (t284 != 255))) = some r := by first | (rw [hy291]; with_reducible exact H) | (have H2_ := (Option.bind_some _ _).symm.trans H; rw [hy291]; with_reducible exact H2_) | (have H2_ := (Option.bind_some _ _).symm.trans H; with_reducible exact H2_) | with_reducible exact H | (rw [hy291]; exact H) | exact H
              have Ny291 := Aside0.mk hy291
              clear hy291
              have HC8 := Aside0.mk H
              clear H
              have p283 : 0 ≤ (x4_1 : Int) := of_decide_eq_true pA
              have q283 : x4_1 < (l0.length : Int) := of_decide_eq_true pA
              obtain ⟨ad283, e283, hx283_0⟩ := Kd.at_int HR0.out x4_1 p283 q283
              cases e283
              replace hx283_0 := (HB.out.cell (World.block_lt_of_cell? w _ hx283_0)).trans hx283_0
              replace p283 := eq_true p283
              replace q283 := eq_true q283
              go_upto_region 9 with (first | ((with_reducible refine gate_callee (f := 31) rfl ?_); refine goesL_ (some 17) rfl rfl Try.func31 (by kernel_rfl) rfl #[.int .u64 (rd l0 x4_1)] rfl pM ?_; (with_reducible refine (capnpref20_Of.calls k1 (rd l0 x4_1) t284 _ A4.out).mono ?_); rintro e w9 ⟨rfl, hb⟩; refine ⟨_, rfl, ?_⟩; have n0_ := Aside0.mk (Kd.R_below (pR HO_3) hb); have n1_ := Aside0.mk (below_step pB hb); clear HO_3; clear HB; have HO_3 := n0_; have HB := n1_; clear n0_ n1_; (try clear hb); (try clear hb2); (try clear hk); (try clear hi)) | ((with_reducible refine gate_builtin (b := .append) (xs := #[.tmp 18, .tmp 20]) rfl ?_); at_builtin; refine Kd.R_append (Kd.int .u8) (w0 := w) w.heap.size rfl (.tmp 18) (.tmp 20) 22 5 (.int .u8 0) 1 rfl Try.underlying22 info5 rfl (by decide) (by omega) u3 x3_1 t284 [.int .u8 t284] (fun _ => True) (fun _ => False) rfl rfl ?aP (fun _ hk => hk.elim) ?aF ?aO ?aB ?aS ?aL ?_; (case aP => exact rfl); (case aB => exact pB); (case aF => exact (fun _ _ => trivial)); (case aO => exact (pR HO_3)); (case aS => exact (below_size pB)); (case aL => have := LMc5.out; omega); intro v286 w10 ho hb hg hat; rw [← Ny285.out] at ho; have n0_ := Aside0.mk (hb); have n1_ := Aside0.mk (ho); clear HB; clear HO_3; have HB := n0_; have HO287 := n1_; clear n0_ n1_; clear ho hb hg hat) | ((with_reducible refine gate_callee (f := 25) rfl ?_); refine goesL_ (some 24) rfl rfl Try.func25 (by kernel_rfl) rfl #[.int .u64 (rd l0 x4_1)] rfl pM ?_; (with_reducible refine (capnpref20_Bytes.calls k1 (rd l0 x4_1) t288 _ A6.out).mono ?_); rintro e w11 ⟨v289, rfl, ho0, hb⟩; refine ⟨_, rfl, ?_⟩; have n0_ := Aside0.mk (Kd.R_elder' (pR HO287) (Kd.R_base ho0) hb); have n1_ := Aside0.mk (Kd.R_lower (Kd.R_new' ho0 (Kd.R_lt (pR HO287))) (below_size pB)); have n2_ := Aside0.mk (below_step pB hb); clear HO287; clear HB; have HO287 := n0_; have HO290 := n1_; have HB := n2_; clear n0_ n1_ n2_; (try clear hb); (try clear hb2); (try clear hk); (try clear hi); (try clear ho0); obtain ⟨Ao13, co13, eo13⟩ := Kd.R_slice HO290.out; subst eo13) | ((with_reducible refine gate_builtin (b := .append) (xs := #[.tmp 22, .tmp 24]) rfl ?_); at_builtin; refine Kd.R_append_rows (Kd.int .u8) (w0 := w) w.heap.size rfl (.tmp 22) (.tmp 24) 22 5 (.int .u8 0) 1 rfl Try.underlying22 info5 rfl (by decide) (by omega) v286 y285 t288 _ _ _ (fun k_ => some k_ ≠ (.slice Ao13 t288.length co13 : Value).ownBlock) (fun _ => False) rfl rfl ?aO ?aR (fun _ _ h => h) (fun _ h => h.elim) ?aF ?aB ?aS ?aL ?_; (case aR => repeat (first | exact (Kd.R_reads' HO290.out).2.2 | (with_reducible refine Kd.C_alloc ?_ _) | (with_reducible refine Kd.C_drewN ?_ _) | (with_reducible refine Kd.C_drew ?_))); (case aB => exact pB); (case aF => exact (fun k_ hk => Kd.fresh' (Kd.R_lt (pR HO290)) k_ hk)); (case aO => exact (by (with_reducible repeat (first | apply Kd.R_alloc | apply Kd.R_drewN | apply Kd.R_drew)); exact Kd.R_mono HO287.out (fun _ hk => hk.2))); (case aS => exact (below_size pB)); (case aL => have := LMc7.out; omega); intro v292 w12 ho hb hg hat; rw [← Ny291.out] at ho; have n0_ := Aside0.mk (Kd.R_after (ok := (fun _ => True)) (pR HO290) hg hat); have n1_ := Aside0.mk (hb); have n2_ := Aside0.mk (ho); clear HO290; clear HB; clear HO287; have HO290 := n0_; have HB := n1_; have HO293 := n2_; clear n0_ n1_ n2_; clear ho hb hg hat))
              (try simp only [Act.put, List.setIfInBounds_toArray, List.set_cons_zero, List.set_cons_succ])
              go_cut [33] (fun v33 wc => ∃ (kq : Nat) (x33_7 : Bool), v33 = .bool x33_7 ∧ Aside0 (capnpref21_Words.j1 kq l0 y291 (wrap64 (x4_1 + 1)) t284 x33_7 = some r) ∧ Aside0 (kq ≤ k1) ∧ Aside0 (Kd.R (Kd.int .u8) 5 wc w.heap.size (fun _ => True) v292 y291) ∧ Aside0 (Below w.heap.size w wc))
              case first =>
                have H := HC8.out
                clear HC8
                by_cases c14 : t284 = 0
                · rw [if_pos c14] at H
                  have c14b0 : (t284 == 0) = true := beq_iff_eq.mpr c14
                  have c14b1 : (t284 != 0) = false := bne_eq_false_iff_eq.mpr c14
                  clear c14
                  (first | rw [c14b0] | (simp only [i64_w, i32_w]; rw [c14b0]) | skip)
                  have H' := Aside0.mk H
                  clear H
                  go_wp2
                  go_meet
                  case rel => exact ⟨_, (false), (by first | rfl | (simp; done) | (simp [*]; done)), H', ⟨by have := HK1.out; first | omega | exact Nat.le_refl _⟩, ⟨by (with_reducible repeat (first | apply Kd.R_alloc | apply Kd.R_drewN | apply Kd.R_drew)); exact Kd.R_mono HO293.out (fun _ hk => trivial)⟩, ⟨pB⟩⟩
                · rw [if_neg c14] at H
                  have c14b0 : (t284 == 0) = false := beq_eq_false_iff_ne.mpr c14
                  have c14b1 : (t284 != 0) = true := bne_iff_ne.mpr c14
                  (first | rw [c14b0] | (simp only [i64_w, i32_w]; rw [c14b0]) | skip)
                  have H' := Aside0.mk H
                  clear H
                  go_wp2
                  go_meet
                  case rel => exact ⟨_, ((t284 != 255)), (by first | rfl | (simp; done) | (simp [*]; done)), H', ⟨by have := HK1.out; first | omega | exact Nat.le_refl _⟩, ⟨by (with_reducible repeat (first | apply Kd.R_alloc | apply Kd.R_drewN | apply Kd.R_drew)); exact Kd.R_mono HO293.out (fun _ hk => trivial)⟩, ⟨pB⟩⟩
              case rest =>
                clear HC8
                try clear c1
                try clear c2
                try clear c2b0
                try clear p2
                try clear q2
                try clear hx2
                try clear c3
                try clear c3b0
                try clear c5
                try clear p6
                try clear c7
                try clear c14
                try clear c14b0
                try clear c14b1
                try clear hx283_0
                try clear p283
                try clear q283
                obtain ⟨kq, x33_7, rfl, HA, HJ7, HO_3, HB⟩ := hcut
                cases kq with
                | zero => exact absurd HA.out (by simp [capnpref21_Words.j1])
                | succ kj7 =>
                  have H := HA.out
                  clear HA
                  simp only [capnpref21_Words.j1] at H
                  by_cases c15 : x33_7 = true
                  · subst c15
                    have H1 : (capnpref21_Words.l0 kj7 l0 y291 (wrap64 (x4_1 + 1))) = some r := by rw [if_pos rfl] at H; exact H
                    clear H
                    have H := H1
                    clear H1
                    have H' := Aside0.mk H
                    clear H
                    go_wp2
                    go_roundg kj7
                    case measure => have := HK1.out; have := HJ7.out; omega
                    case rel => exact ⟨(y291), ((wrap64 (x4_1 + 1))), (by first | rfl | (simp; done) | (simp [*]; done)), H', ⟨by have := HK1.out; have := HJ7.out; omega⟩, ⟨pR HO_3⟩, ⟨pB⟩⟩
                  · replace c15 := Bool.eq_false_iff.mpr c15
                    subst c15
                    have H1 : (capnpref21_Words.l1 kj7 l0 y291 (wrap64 (x4_1 + 1)) t284 0) = some r := by rw [if_neg (show ¬ (false = true) by decide)] at H; exact H
                    clear H
                    have H := H1
                    clear H1
                    have H' := Aside0.mk H
                    clear H
                    go_wp2
                    go_loopg [7] kj7 (fun kq v7 w' => ∃ (x7_3 : Int), v7 = .int .i64 x7_3 ∧ Aside0 (capnpref21_Words.l1 kq l0 y291 (wrap64 (x4_1 + 1)) t284 x7_3 = some r) ∧ Aside0 (kq ≤ kj7) ∧ Aside0 (Kd.R (Kd.int .u8) 5 w' w.heap.size (fun _ => True) v292 y291) ∧ Aside0 (Below w.heap.size w w'))
                    case atStart => exact ⟨(0), (by first | rfl | (simp; done) | (simp [*]; done)), H', ⟨Nat.le_refl _⟩, ⟨pR HO_3⟩, ⟨pB⟩⟩
                    case round =>
                      clear H'
                      try clear c1
                      try clear c2
                      try clear c2b0
                      try clear p2
                      try clear q2
                      try clear hx2
                      try clear c3
                      try clear c3b0
                      try clear c5
                      try clear p6
                      try clear c7
                      try clear c14
                      try clear c14b0
                      try clear c14b1
                      try clear c15
                      try clear hx283_0
                      try clear p2
                      try clear p283
                      try clear p6
                      try clear q2
                      try clear q283
                      obtain ⟨x7_3, rfl, HA, HK3, HO_3, HB⟩ := hrel
                      cases gk with
                      | zero => exact absurd HA.out (by simp [capnpref21_Words.l1])
                      | succ k3 =>
                        have H := HA.out
                        clear HA
                        simp only [capnpref21_Words.l1] at H
                        by_cases c16 : (wrap64 ((wrap64 (x4_1 + 1)) + x7_3)) < (l0.length : Int)
                        · rw [if_pos c16] at H
                          have c16b0 : decide ((wrap64 ((wrap64 (x4_1 + 1)) + x7_3)) < (l0.length : Int)) = true := decide_eq_true c16
                          clear c16
                          by_cases c17 : x7_3 < 255
                          · rw [if_pos c17] at H
                            have c17b0 : decide (x7_3 < 255) = true := decide_eq_true c17
                            clear c17
                            by_cases c18 : t284 = 0
                            · rw [if_pos c18] at H
                              have c18b0 : (t284 == 0) = true := beq_iff_eq.mpr c18
                              have c18b1 : (t284 != 0) = false := bne_eq_false_iff_eq.mpr c18
                              clear c18
                              obtain ⟨ji19, hji19⟩ : ∃ j_ : Int, (wrap64 ((wrap64 (x4_1 + 1)) + x7_3)) = j_ := ⟨_, rfl⟩
                              replace H : (if 0 ≤ (ji19) then (if (rd l0 (ji19)) = 0 then (capnpref21_Words.l1 k3 l0 y291 (wrap64 (x4_1 + 1)) t284 (wrap64 (x7_3 + 1))) else (if t284 = 255 then ((capnpref20_Dense.f k3 (rd l0 (ji19))).bind fun t296 => (if t296 = true then (capnpref21_Words.l1 k3 l0 y291 (wrap64 (x4_1 + 1)) t284 (wrap64 (x7_3 + 1))) else (if y291.length < 140737488355328 then ((some (y291 ++ [(x7_3) % 256] : List Int)).bind fun y297 => (if 0 ≤ (wrap64 (x4_1 + 1)) then (if (wrap64 (x4_1 + 1)) ≤ (ji19) then (if (ji19) ≤ (l0.length : Int) then ((capnpref01_Bytes.f k3 ((l0.take ((ji19) : Int).toNat).drop ((wrap64 (x4_1 + 1)) : Int).toNat)).bind fun t301 => (if y297.length + t301.length < 140737488355328 then (capnpref21_Words.l0 k3 l0 (y297 ++ t301) ji19) else (none))) else (none)) else (none)) else (none))) else (none)))) else (if y291.length < 140737488355328 then (capnpref21_Words.l0 k3 l0 (y291 ++ [(x7_3) % 256]) ji19) else (none)))) else (none)) = some r := by first | (rw [hji19] at H; exact H) | (simp only [hji19] at H ⊢; exact H)
                              (try rw [hji19] at c16b0)
                              have hji19w : (IntKind.i64.wrap ((wrap64 (x4_1 + 1)) + x7_3)) = ji19 := (i64_w _).trans hji19
                              by_cases c20 : 0 ≤ (ji19)
                              · rw [if_pos c20] at H
                                have c20b0 : decide (0 ≤ (ji19)) = true := decide_eq_true c20
                                clear c20
                                by_cases c21 : (rd l0 (ji19)) = 0
                                · rw [if_pos c21] at H
                                  have c21b0 : ((rd l0 (ji19)) == 0) = true := beq_iff_eq.mpr c21
                                  have c21b1 : ((rd l0 (ji19)) != 0) = false := bne_eq_false_iff_eq.mpr c21
                                  clear c21
                                  have H' := Aside0.mk H
                                  clear H
                                  have p294 : 0 ≤ ((ji19) : Int) := of_decide_eq_true pA
                                  have q294 : (ji19) < (l0.length : Int) := of_decide_eq_true pA
                                  obtain ⟨ad294, e294, hx294_0⟩ := Kd.at_int HR0.out (ji19) p294 q294
                                  obtain rfl : ad283 = ad294 := (by injection e294)
                                  replace hx294_0 := (HB.out.cell (World.block_lt_of_cell? w _ hx294_0)).trans hx294_0
                                  replace p294 := eq_true p294
                                  replace q294 := eq_true q294
                                  go_wp2
                                  (first | go_roundg k3 | ((try subst hji19); go_roundg k3))
                                  case measure => have := HK1.out; have := HJ7.out; have := HK3.out; omega
                                  case rel => exact ⟨(wrap64 (x7_3 + 1)), (by first | rfl | (simp; done) | (simp [*]; done)), H', ⟨by have := HK1.out; have := HJ7.out; have := HK3.out; omega⟩, ⟨pR HO_3⟩, ⟨pB⟩⟩
                                · rw [if_neg c21] at H
                                  have c21b0 : ((rd l0 (ji19)) == 0) = false := beq_eq_false_iff_ne.mpr c21
                                  have c21b1 : ((rd l0 (ji19)) != 0) = true := bne_iff_ne.mpr c21
                                  by_cases c22 : t284 = 255
                                  · rw [if_pos c22] at H
                                    have c22b0 : (t284 == 255) = true := beq_iff_eq.mpr c22
                                    have c22b1 : (t284 != 255) = false := bne_eq_false_iff_eq.mpr c22
                                    clear c22
                                    replace H := Option.bind_eq_some_iff.mp H
                                    obtain ⟨t296, A230, H⟩ := H
                                    replace H : (if t296 = true then (capnpref21_Words.l1 k3 l0 y291 (wrap64 (x4_1 + 1)) t284 (wrap64 (x7_3 + 1))) else (if y291.length < 140737488355328 then ((some (y291 ++ [(x7_3) % 256] : List Int)).bind fun y297 => (if 0 ≤ (wrap64 (x4_1 + 1)) then (if (wrap64 (x4_1 + 1)) ≤ (ji19) then (if (ji19) ≤ (l0.length : Int) then ((capnpref01_Bytes.f k3 ((l0.take ((ji19) : Int).toNat).drop ((wrap64 (x4_1 + 1)) : Int).toNat)).bind fun t301 => (if y297.length + t301.length < 140737488355328 then (capnpref21_Words.l0 k3 l0 (y297 ++ t301) ji19) else (none))) else (none)) else (none)) else (none))) else (none))) = some r := H
                                    have A23 := Aside0.mk A230
                                    clear A230
                                    by_cases c24 : t296 = true
                                    · subst c24
                                      have H1 : (capnpref21_Words.l1 k3 l0 y291 (wrap64 (x4_1 + 1)) t284 (wrap64 (x7_3 + 1))) = some r := by rw [if_pos rfl] at H; exact H
                                      clear H
                                      have H := H1
                                      clear H1
                                      have H' := Aside0.mk H
                                      clear H
                                      have p294 : 0 ≤ ((ji19) : Int) := of_decide_eq_true pA
                                      have q294 : (ji19) < (l0.length : Int) := of_decide_eq_true pA
                                      obtain ⟨ad294, e294, hx294_0⟩ := Kd.at_int HR0.out (ji19) p294 q294
                                      obtain rfl : ad283 = ad294 := (by injection e294)
                                      replace hx294_0 := (HB.out.cell (World.block_lt_of_cell? w _ hx294_0)).trans hx294_0
                                      replace p294 := eq_true p294
                                      replace q294 := eq_true q294
                                      have p295 : 0 ≤ ((ji19) : Int) := of_decide_eq_true pA
                                      have q295 : (ji19) < (l0.length : Int) := of_decide_eq_true pA
                                      obtain ⟨ad295, e295, hx295_0⟩ := Kd.at_int HR0.out (ji19) p295 q295
                                      obtain rfl : ad283 = ad295 := (by injection e295)
                                      replace hx295_0 := (HB.out.cell (World.block_lt_of_cell? w _ hx295_0)).trans hx295_0
                                      replace p295 := eq_true p295
                                      replace q295 := eq_true q295
                                      go_wp2_with (first | (go_at_call 32; (with_reducible refine (capnpref20_Dense.calls k3 (rd l0 (ji19)) true _ A23.out).mono ?_); rintro e w25 ⟨rfl, hb⟩; have n0_ := Aside0.mk (Kd.R_below (pR HO_3) hb); have n1_ := Aside0.mk (below_step pB hb); clear HO_3; clear HB; have HO_3 := n0_; have HB := n1_; clear n0_ n1_; (try clear hb); (try clear hb2); (try clear hk); (try clear hi)))
                                      (first | go_roundg k3 | ((try subst hji19); go_roundg k3))
                                      case measure => have := HK1.out; have := HJ7.out; have := HK3.out; omega
                                      case rel => exact ⟨(wrap64 (x7_3 + 1)), (by first | rfl | (simp; done) | (simp [*]; done)), H', ⟨by have := HK1.out; have := HJ7.out; have := HK3.out; omega⟩, ⟨pR HO_3⟩, ⟨pB⟩⟩
                                    · replace c24 := Bool.eq_false_iff.mpr c24
                                      subst c24
                                      have H1 : (if y291.length < 140737488355328 then ((some (y291 ++ [(x7_3) % 256] : List Int)).bind fun y297 => (if 0 ≤ (wrap64 (x4_1 + 1)) then (if (wrap64 (x4_1 + 1)) ≤ (ji19) then (if (ji19) ≤ (l0.length : Int) then ((capnpref01_Bytes.f k3 ((l0.take ((ji19) : Int).toNat).drop ((wrap64 (x4_1 + 1)) : Int).toNat)).bind fun t301 => (if y297.length + t301.length < 140737488355328 then (capnpref21_Words.l0 k3 l0 (y297 ++ t301) ji19) else (none))) else (none)) else (none)) else (none))) else (none)) = some r := by rw [if_neg (show ¬ (false = true) by decide)] at H; exact H
                                      clear H
                                      have H := H1
                                      clear H1
                                      by_cases c26 : y291.length < 140737488355328
                                      · rw [if_pos c26] at H
                                        have LMc26 := Aside0.mk c26
                                        clear c26
                                        obtain ⟨y297, hy297⟩ : ∃ y_ : List Int, y_ = (y291 ++ [(x7_3) % 256]) := ⟨_, rfl⟩
                                        replace H : (if 0 ≤ (wrap64 (x4_1 + 1)) then (if (wrap64 (x4_1 + 1)) ≤ (ji19) then (if (ji19) ≤ (l0.length : Int) then ((capnpref01_Bytes.f k3 ((l0.take ((ji19) : Int).toNat).drop ((wrap64 (x4_1 + 1)) : Int).toNat)).bind fun t301 => (if y297.length + t301.length < 140737488355328 then (capnpref21_Words.l0 k3 l0 (y297 ++ t301) ji19) else (none))) else (none)) else (none)) else (none)) = some r := by first | (rw [hy297]; with_reducible exact H) | (have H2_ := (Option.bind_some _ _).symm.trans H; rw [hy297]; with_reducible exact H2_) | (have H2_ := (Option.bind_some _ _).symm.trans H; with_reducible exact H2_) | with_reducible exact H | (rw [hy297]; exact H) | exact H
                                        have Ny297 := Aside0.mk hy297
                                        clear hy297
                                        obtain ⟨ji27, hji27⟩ : ∃ j_ : Int, (wrap64 (x4_1 + 1)) = j_ := ⟨_, rfl⟩
                                        replace H : (if 0 ≤ (ji27) then (if (ji27) ≤ (ji19) then (if (ji19) ≤ (l0.length : Int) then ((capnpref01_Bytes.f k3 ((l0.take ((ji19) : Int).toNat).drop ((ji27) : Int).toNat)).bind fun t301 => (if y297.length + t301.length < 140737488355328 then (capnpref21_Words.l0 k3 l0 (y297 ++ t301) ji19) else (none))) else (none)) else (none)) else (none)) = some r := by first | (rw [hji27] at H; exact H) | (simp only [hji27] at H ⊢; exact H)
                                        (try rw [hji27] at c16b0)
                                        (try rw [hji27] at A23)
                                        have hji27w : (IntKind.i64.wrap (x4_1 + 1)) = ji27 := (i64_w _).trans hji27
                                        (try simp only [hji27] at hji19)
                                        (try simp only [hji27] at hji19w)
                                        by_cases c28 : 0 ≤ (ji27)
                                        · rw [if_pos c28] at H
                                          have c28b0 := eq_true c28
                                          have c28b1 : decide (0 ≤ (ji27)) = true := decide_eq_true c28
                                          clear c28
                                          by_cases c29 : (ji27) ≤ (ji19)
                                          · rw [if_pos c29] at H
                                            have c29b0 := eq_true c29
                                            have c29b1 : decide ((ji27) ≤ (ji19)) = true := decide_eq_true c29
                                            clear c29
                                            by_cases c30 : (ji19) ≤ (l0.length : Int)
                                            · rw [if_pos c30] at H
                                              have c30b0 := eq_true c30
                                              have c30b1 : decide ((ji19) ≤ (l0.length : Int)) = true := decide_eq_true c30
                                              clear c30
                                              replace H := Option.bind_eq_some_iff.mp H
                                              obtain ⟨t301, A310, H⟩ := H
                                              replace H : (if y297.length + t301.length < 140737488355328 then (capnpref21_Words.l0 k3 l0 (y297 ++ t301) ji19) else (none)) = some r := H
                                              have A31 := Aside0.mk A310
                                              clear A310
                                              by_cases c32 : y297.length + t301.length < 140737488355328
                                              · rw [if_pos c32] at H
                                                have LMc32 := Aside0.mk c32
                                                clear c32
                                                obtain ⟨y304, hy304⟩ : ∃ y_ : List Int, y_ = (y297 ++ t301) := ⟨_, rfl⟩
                                                replace H : (capnpref21_Words.l0 k3 l0 y304 ji19) = some r := by first | (rw [hy304]; with_reducible exact H) | (have H2_ := (Option.bind_some _ _).symm.trans H; rw [hy304]; with_reducible exact H2_) | (have H2_ := (Option.bind_some _ _).symm.trans H; with_reducible exact H2_) | with_reducible exact H | (rw [hy304]; exact H) | exact H
                                                have Ny304 := Aside0.mk hy304
                                                clear hy304
                                                have H' := Aside0.mk H
                                                clear H
                                                have p294 : 0 ≤ ((ji19) : Int) := of_decide_eq_true pA
                                                have q294 : (ji19) < (l0.length : Int) := of_decide_eq_true pA
                                                obtain ⟨ad294, e294, hx294_0⟩ := Kd.at_int HR0.out (ji19) p294 q294
                                                obtain rfl : ad283 = ad294 := (by injection e294)
                                                replace hx294_0 := (HB.out.cell (World.block_lt_of_cell? w _ hx294_0)).trans hx294_0
                                                replace p294 := eq_true p294
                                                replace q294 := eq_true q294
                                                have p295 : 0 ≤ ((ji19) : Int) := of_decide_eq_true pA
                                                have q295 : (ji19) < (l0.length : Int) := of_decide_eq_true pA
                                                obtain ⟨ad295, e295, hx295_0⟩ := Kd.at_int HR0.out (ji19) p295 q295
                                                obtain rfl : ad283 = ad295 := (by injection e295)
                                                replace hx295_0 := (HB.out.cell (World.block_lt_of_cell? w _ hx295_0)).trans hx295_0
                                                replace p295 := eq_true p295
                                                replace q295 := eq_true q295
                                                go_wp2_with (first | (go_at_call 32; (with_reducible refine (capnpref20_Dense.calls k3 (rd l0 (ji19)) false _ A23.out).mono ?_); rintro e w33 ⟨rfl, hb⟩; have n0_ := Aside0.mk (Kd.R_below (pR HO_3) hb); have n1_ := Aside0.mk (below_step pB hb); clear HO_3; clear HB; have HO_3 := n0_; have HB := n1_; clear n0_ n1_; (try clear hb); (try clear hb2); (try clear hk); (try clear hi)) | ((with_reducible refine gate_builtin (b := .append) (xs := #[.tmp 72, .tmp 75]) rfl ?_); at_builtin; refine Kd.R_append (Kd.int .u8) (w0 := w) w.heap.size rfl (.tmp 72) (.tmp 75) 22 5 (.int .u8 0) 1 rfl Try.underlying22 info5 rfl (by decide) (by omega) v292 y291 ((x7_3) % 256) [.int .u8 ((x7_3) % 256)] (fun _ => True) (fun _ => False) rfl rfl ?aP (fun _ hk => hk.elim) ?aF ?aO ?aB ?aS ?aL ?_; (case aP => exact rfl); (case aB => exact pB); (case aF => exact (fun _ _ => trivial)); (case aO => exact (pR HO_3)); (case aS => exact (below_size pB)); (case aL => have := LMc26.out; omega); intro v298 w34 ho hb hg hat; rw [← Ny297.out] at ho; have n0_ := Aside0.mk (hb); have n1_ := Aside0.mk (ho); clear HB; clear HO_3; have HB := n0_; have HO299 := n1_; clear n0_ n1_; clear ho hb hg hat; obtain ⟨i035, hi035, _, hsz35, _⟩ := info_parts info53; obtain ⟨A35, hcut35, hA35, hC35⟩ := print_mid_of (P := Try.prog) (Value.int .u64) 0 44 53 .i64 .i64 Try.underlying44 hi035 hsz35 (some ad283) c0 l0 (ji27) (ji19) (of_decide_eq_true pA) (by first | omega | exact of_decide_eq_true pA) (of_decide_eq_true pA) HC0.out; have HR300 := Aside0.mk (Kd.C_of_reads (h1 := fun _ => rfl) (hA35 _ (Kd.reads_of_C HR0.out))); have HC300 := Aside0.mk hC35; clear hA35 hC35 hi035 hsz35) | ((with_reducible refine gate_callee (f := 29) rfl ?_); refine goesL_ (some 86) rfl rfl Try.func29 (by kernel_rfl) rfl #[.slice A35 ((l0.take ((ji19) : Int).toNat).drop ((ji27) : Int).toNat).length (c0 - (ji27).toNat)] rfl (by (try simp only [List.map_toArray, List.map_cons, List.map_nil]); first | done | (rw [show ((l0.take ((ji19) : Int).toNat).drop ((ji27) : Int).toNat).length = ((ji19).toNat - (ji27).toNat) from (by rw [List.length_drop, List.length_take]; have h_ : ((ji19) : Int) ≤ (l0.length : Int) := of_decide_eq_true pA; omega)] <;> rfl) | (simp only [hji19, hji27]; rfl) | rfl | (simp only [List.length_drop, List.length_take]; rfl)) ?_; (with_reducible refine (capnpref01_Bytes.calls k3 _ _ ((l0.take ((ji19) : Int).toNat).drop ((ji27) : Int).toNat) t301 _ ?side1 ?side2 A31.out).mono ?_); (case side1 => repeat (first | exact (Kd.C_below HR300.out HB.out) | (with_reducible refine Kd.C_alloc ?_ _) | (with_reducible refine Kd.C_drewN ?_ _) | (with_reducible refine Kd.C_drew ?_))); (case side2 => exact HC300.out); rintro e w36 ⟨v302, rfl, ho0, hb⟩; refine ⟨_, rfl, ?_⟩; have n0_ := Aside0.mk (Kd.R_elder' (pR HO299) (Kd.R_base ho0) hb); have n1_ := Aside0.mk (Kd.R_lower (Kd.R_new' ho0 (Kd.R_lt (pR HO299))) (below_size pB)); have n2_ := Aside0.mk (below_step pB hb); clear HO299; clear HB; have HO299 := n0_; have HO303 := n1_; have HB := n2_; clear n0_ n1_ n2_; (try clear hb); (try clear hb2); (try clear hk); (try clear hi); (try clear ho0); obtain ⟨Ao38, co38, eo38⟩ := Kd.R_slice HO303.out; subst eo38) | ((with_reducible refine gate_builtin (b := .append) (xs := #[.tmp 79, .tmp 86]) rfl ?_); at_builtin; refine Kd.R_append_rows (Kd.int .u8) (w0 := w) w.heap.size rfl (.tmp 79) (.tmp 86) 22 5 (.int .u8 0) 1 rfl Try.underlying22 info5 rfl (by decide) (by omega) v298 y297 t301 _ _ _ (fun k_ => some k_ ≠ (.slice Ao38 t301.length co38 : Value).ownBlock) (fun _ => False) rfl rfl ?aO ?aR (fun _ _ h => h) (fun _ h => h.elim) ?aF ?aB ?aS ?aL ?_; (case aR => repeat (first | exact (Kd.R_reads' HO303.out).2.2 | (with_reducible refine Kd.C_alloc ?_ _) | (with_reducible refine Kd.C_drewN ?_ _) | (with_reducible refine Kd.C_drew ?_))); (case aB => exact pB); (case aF => exact (fun k_ hk => Kd.fresh' (Kd.R_lt (pR HO303)) k_ hk)); (case aO => exact (by (with_reducible repeat (first | apply Kd.R_alloc | apply Kd.R_drewN | apply Kd.R_drew)); exact Kd.R_mono HO299.out (fun _ hk => hk.2))); (case aS => exact (below_size pB)); (case aL => have := LMc32.out; omega); intro v305 w37 ho hb hg hat; rw [← Ny304.out] at ho; have n0_ := Aside0.mk (Kd.R_after (ok := (fun _ => True)) (pR HO303) hg hat); have n1_ := Aside0.mk (hb); have n2_ := Aside0.mk (ho); clear HO303; clear HB; clear HO299; have HO303 := n0_; have HB := n1_; have HO306 := n2_; clear n0_ n1_ n2_; clear ho hb hg hat))
                                                (first | go_roundg k3 | ((try subst hji19); (try subst hji27); go_roundg k3))
                                                case measure => have := HK1.out; have := HJ7.out; have := HK3.out; omega
                                                case rel => exact ⟨(y304), (ji19), (by first | rfl | (simp; done) | (simp only [← hji19] <;> (first | rfl | simp)) | (simp [*]; done)), H', ⟨by have := HK1.out; have := HJ7.out; have := HK3.out; omega⟩, ⟨by (with_reducible repeat (first | apply Kd.R_alloc | apply Kd.R_drewN | apply Kd.R_drew)); exact Kd.R_mono HO306.out (fun _ hk => trivial)⟩, ⟨pB⟩⟩
                                              · rw [if_neg c32] at H
                                                exact absurd H (by simp)
                                            · rw [if_neg c30] at H
                                              exact absurd H (by simp)
                                          · rw [if_neg c29] at H
                                            exact absurd H (by simp)
                                        · rw [if_neg c28] at H
                                          exact absurd H (by simp)
                                      · rw [if_neg c26] at H
                                        exact absurd H (by simp)
                                  · rw [if_neg c22] at H
                                    have c22b0 : (t284 == 255) = false := beq_eq_false_iff_ne.mpr c22
                                    have c22b1 : (t284 != 255) = true := bne_iff_ne.mpr c22
                                    by_cases c39 : y291.length < 140737488355328
                                    · rw [if_pos c39] at H
                                      have LMc39 := Aside0.mk c39
                                      clear c39
                                      obtain ⟨y307, hy307⟩ : ∃ y_ : List Int, y_ = (y291 ++ [(x7_3) % 256]) := ⟨_, rfl⟩
                                      replace H : (capnpref21_Words.l0 k3 l0 y307 ji19) = some r := by first | (rw [hy307]; with_reducible exact H) | (have H2_ := (Option.bind_some _ _).symm.trans H; rw [hy307]; with_reducible exact H2_) | (have H2_ := (Option.bind_some _ _).symm.trans H; with_reducible exact H2_) | with_reducible exact H | (rw [hy307]; exact H) | exact H
                                      have Ny307 := Aside0.mk hy307
                                      clear hy307
                                      have H' := Aside0.mk H
                                      clear H
                                      have p294 : 0 ≤ ((ji19) : Int) := of_decide_eq_true pA
                                      have q294 : (ji19) < (l0.length : Int) := of_decide_eq_true pA
                                      obtain ⟨ad294, e294, hx294_0⟩ := Kd.at_int HR0.out (ji19) p294 q294
                                      obtain rfl : ad283 = ad294 := (by injection e294)
                                      replace hx294_0 := (HB.out.cell (World.block_lt_of_cell? w _ hx294_0)).trans hx294_0
                                      replace p294 := eq_true p294
                                      replace q294 := eq_true q294
                                      go_wp2_with (first | ((with_reducible refine gate_builtin (b := .append) (xs := #[.tmp 72, .tmp 75]) rfl ?_); at_builtin; refine Kd.R_append (Kd.int .u8) (w0 := w) w.heap.size rfl (.tmp 72) (.tmp 75) 22 5 (.int .u8 0) 1 rfl Try.underlying22 info5 rfl (by decide) (by omega) v292 y291 ((x7_3) % 256) [.int .u8 ((x7_3) % 256)] (fun _ => True) (fun _ => False) rfl rfl ?aP (fun _ hk => hk.elim) ?aF ?aO ?aB ?aS ?aL ?_; (case aP => exact rfl); (case aB => exact pB); (case aF => exact (fun _ _ => trivial)); (case aO => exact (pR HO_3)); (case aS => exact (below_size pB)); (case aL => have := LMc39.out; omega); intro v308 w40 ho hb hg hat; rw [← Ny307.out] at ho; have n0_ := Aside0.mk (hb); have n1_ := Aside0.mk (ho); clear HB; clear HO_3; have HB := n0_; have HO309 := n1_; clear n0_ n1_; clear ho hb hg hat))
                                      (first | go_roundg k3 | ((try subst hji19); go_roundg k3))
                                      case measure => have := HK1.out; have := HJ7.out; have := HK3.out; omega
                                      case rel => exact ⟨(y307), (ji19), (by first | rfl | (simp; done) | (simp only [← hji19] <;> (first | rfl | simp)) | (simp [*]; done)), H', ⟨by have := HK1.out; have := HJ7.out; have := HK3.out; omega⟩, ⟨pR HO309⟩, ⟨pB⟩⟩
                                    · rw [if_neg c39] at H
                                      exact absurd H (by simp)
                              · rw [if_neg c20] at H
                                exact absurd H (by simp)
                            · rw [if_neg c18] at H
                              have c18b0 : (t284 == 0) = false := beq_eq_false_iff_ne.mpr c18
                              have c18b1 : (t284 != 0) = true := bne_iff_ne.mpr c18
                              by_cases c41 : t284 = 255
                              · rw [if_pos c41] at H
                                have c41b0 : (t284 == 255) = true := beq_iff_eq.mpr c41
                                have c41b1 : (t284 != 255) = false := bne_eq_false_iff_eq.mpr c41
                                clear c41
                                try subst hji19
                                obtain ⟨ji42, hji42⟩ : ∃ j_ : Int, (wrap64 ((wrap64 (x4_1 + 1)) + x7_3)) = j_ := ⟨_, rfl⟩
                                replace H : (if 0 ≤ (ji42) then ((capnpref20_Dense.f k3 (rd l0 (ji42))).bind fun t311 => (if t311 = true then (capnpref21_Words.l1 k3 l0 y291 (wrap64 (x4_1 + 1)) t284 (wrap64 (x7_3 + 1))) else (if y291.length < 140737488355328 then ((some (y291 ++ [(x7_3) % 256] : List Int)).bind fun y312 => (if 0 ≤ (wrap64 (x4_1 + 1)) then (if (wrap64 (x4_1 + 1)) ≤ (ji42) then (if (ji42) ≤ (l0.length : Int) then ((capnpref01_Bytes.f k3 ((l0.take ((ji42) : Int).toNat).drop ((wrap64 (x4_1 + 1)) : Int).toNat)).bind fun t316 => (if y312.length + t316.length < 140737488355328 then (capnpref21_Words.l0 k3 l0 (y312 ++ t316) ji42) else (none))) else (none)) else (none)) else (none))) else (none)))) else (none)) = some r := by first | (rw [hji42] at H; exact H) | (simp only [hji42] at H ⊢; exact H)
                                (try rw [hji42] at c16b0)
                                have hji42w : (IntKind.i64.wrap ((wrap64 (x4_1 + 1)) + x7_3)) = ji42 := (i64_w _).trans hji42
                                by_cases c43 : 0 ≤ (ji42)
                                · rw [if_pos c43] at H
                                  have c43b0 : decide (0 ≤ (ji42)) = true := decide_eq_true c43
                                  clear c43
                                  replace H := Option.bind_eq_some_iff.mp H
                                  obtain ⟨t311, A440, H⟩ := H
                                  replace H : (if t311 = true then (capnpref21_Words.l1 k3 l0 y291 (wrap64 (x4_1 + 1)) t284 (wrap64 (x7_3 + 1))) else (if y291.length < 140737488355328 then ((some (y291 ++ [(x7_3) % 256] : List Int)).bind fun y312 => (if 0 ≤ (wrap64 (x4_1 + 1)) then (if (wrap64 (x4_1 + 1)) ≤ (ji42) then (if (ji42) ≤ (l0.length : Int) then ((capnpref01_Bytes.f k3 ((l0.take ((ji42) : Int).toNat).drop ((wrap64 (x4_1 + 1)) : Int).toNat)).bind fun t316 => (if y312.length + t316.length < 140737488355328 then (capnpref21_Words.l0 k3 l0 (y312 ++ t316) ji42) else (none))) else (none)) else (none)) else (none))) else (none))) = some r := H
                                  have A44 := Aside0.mk A440
                                  clear A440
                                  by_cases c45 : t311 = true
                                  · subst c45
                                    have H1 : (capnpref21_Words.l1 k3 l0 y291 (wrap64 (x4_1 + 1)) t284 (wrap64 (x7_3 + 1))) = some r := by rw [if_pos rfl] at H; exact H
                                    clear H
                                    have H := H1
                                    clear H1
                                    have H' := Aside0.mk H
                                    clear H
                                    have p310 : 0 ≤ ((ji42) : Int) := of_decide_eq_true pA
                                    have q310 : (ji42) < (l0.length : Int) := of_decide_eq_true pA
                                    obtain ⟨ad310, e310, hx310_0⟩ := Kd.at_int HR0.out (ji42) p310 q310
                                    obtain rfl : ad283 = ad310 := (by injection e310)
                                    replace hx310_0 := (HB.out.cell (World.block_lt_of_cell? w _ hx310_0)).trans hx310_0
                                    replace p310 := eq_true p310
                                    replace q310 := eq_true q310
                                    go_wp2_with (first | (go_at_call 32; (with_reducible refine (capnpref20_Dense.calls k3 (rd l0 (ji42)) true _ A44.out).mono ?_); rintro e w46 ⟨rfl, hb⟩; have n0_ := Aside0.mk (Kd.R_below (pR HO_3) hb); have n1_ := Aside0.mk (below_step pB hb); clear HO_3; clear HB; have HO_3 := n0_; have HB := n1_; clear n0_ n1_; (try clear hb); (try clear hb2); (try clear hk); (try clear hi)))
                                    (first | go_roundg k3 | ((try subst hji42); go_roundg k3))
                                    case measure => have := HK1.out; have := HJ7.out; have := HK3.out; omega
                                    case rel => exact ⟨(wrap64 (x7_3 + 1)), (by first | rfl | (simp; done) | (simp [*]; done)), H', ⟨by have := HK1.out; have := HJ7.out; have := HK3.out; omega⟩, ⟨pR HO_3⟩, ⟨pB⟩⟩
                                  · replace c45 := Bool.eq_false_iff.mpr c45
                                    subst c45
                                    have H1 : (if y291.length < 140737488355328 then ((some (y291 ++ [(x7_3) % 256] : List Int)).bind fun y312 => (if 0 ≤ (wrap64 (x4_1 + 1)) then (if (wrap64 (x4_1 + 1)) ≤ (ji42) then (if (ji42) ≤ (l0.length : Int) then ((capnpref01_Bytes.f k3 ((l0.take ((ji42) : Int).toNat).drop ((wrap64 (x4_1 + 1)) : Int).toNat)).bind fun t316 => (if y312.length + t316.length < 140737488355328 then (capnpref21_Words.l0 k3 l0 (y312 ++ t316) ji42) else (none))) else (none)) else (none)) else (none))) else (none)) = some r := by rw [if_neg (show ¬ (false = true) by decide)] at H; exact H
                                    clear H
                                    have H := H1
                                    clear H1
                                    by_cases c47 : y291.length < 140737488355328
                                    · rw [if_pos c47] at H
                                      have LMc47 := Aside0.mk c47
                                      clear c47
                                      obtain ⟨y312, hy312⟩ : ∃ y_ : List Int, y_ = (y291 ++ [(x7_3) % 256]) := ⟨_, rfl⟩
                                      replace H : (if 0 ≤ (wrap64 (x4_1 + 1)) then (if (wrap64 (x4_1 + 1)) ≤ (ji42) then (if (ji42) ≤ (l0.length : Int) then ((capnpref01_Bytes.f k3 ((l0.take ((ji42) : Int).toNat).drop ((wrap64 (x4_1 + 1)) : Int).toNat)).bind fun t316 => (if y312.length + t316.length < 140737488355328 then (capnpref21_Words.l0 k3 l0 (y312 ++ t316) ji42) else (none))) else (none)) else (none)) else (none)) = some r := by first | (rw [hy312]; with_reducible exact H) | (have H2_ := (Option.bind_some _ _).symm.trans H; rw [hy312]; with_reducible exact H2_) | (have H2_ := (Option.bind_some _ _).symm.trans H; with_reducible exact H2_) | with_reducible exact H | (rw [hy312]; exact H) | exact H
                                      have Ny312 := Aside0.mk hy312
                                      clear hy312
                                      try subst hji27
                                      obtain ⟨ji48, hji48⟩ : ∃ j_ : Int, (wrap64 (x4_1 + 1)) = j_ := ⟨_, rfl⟩
                                      replace H : (if 0 ≤ (ji48) then (if (ji48) ≤ (ji42) then (if (ji42) ≤ (l0.length : Int) then ((capnpref01_Bytes.f k3 ((l0.take ((ji42) : Int).toNat).drop ((ji48) : Int).toNat)).bind fun t316 => (if y312.length + t316.length < 140737488355328 then (capnpref21_Words.l0 k3 l0 (y312 ++ t316) ji42) else (none))) else (none)) else (none)) else (none)) = some r := by first | (rw [hji48] at H; exact H) | (simp only [hji48] at H ⊢; exact H)
                                      (try rw [hji48] at c16b0)
                                      (try rw [hji48] at A44)
                                      have hji48w : (IntKind.i64.wrap (x4_1 + 1)) = ji48 := (i64_w _).trans hji48
                                      (try simp only [hji48] at hji42)
                                      (try simp only [hji48] at hji42w)
                                      by_cases c49 : 0 ≤ (ji48)
                                      · rw [if_pos c49] at H
                                        have c49b0 := eq_true c49
                                        have c49b1 : decide (0 ≤ (ji48)) = true := decide_eq_true c49
                                        clear c49
                                        by_cases c50 : (ji48) ≤ (ji42)
                                        · rw [if_pos c50] at H
                                          have c50b0 := eq_true c50
                                          have c50b1 : decide ((ji48) ≤ (ji42)) = true := decide_eq_true c50
                                          clear c50
                                          by_cases c51 : (ji42) ≤ (l0.length : Int)
                                          · rw [if_pos c51] at H
                                            have c51b0 := eq_true c51
                                            have c51b1 : decide ((ji42) ≤ (l0.length : Int)) = true := decide_eq_true c51
                                            clear c51
                                            replace H := Option.bind_eq_some_iff.mp H
                                            obtain ⟨t316, A520, H⟩ := H
                                            replace H : (if y312.length + t316.length < 140737488355328 then (capnpref21_Words.l0 k3 l0 (y312 ++ t316) ji42) else (none)) = some r := H
                                            have A52 := Aside0.mk A520
                                            clear A520
                                            by_cases c53 : y312.length + t316.length < 140737488355328
                                            · rw [if_pos c53] at H
                                              have LMc53 := Aside0.mk c53
                                              clear c53
                                              obtain ⟨y319, hy319⟩ : ∃ y_ : List Int, y_ = (y312 ++ t316) := ⟨_, rfl⟩
                                              replace H : (capnpref21_Words.l0 k3 l0 y319 ji42) = some r := by first | (rw [hy319]; with_reducible exact H) | (have H2_ := (Option.bind_some _ _).symm.trans H; rw [hy319]; with_reducible exact H2_) | (have H2_ := (Option.bind_some _ _).symm.trans H; with_reducible exact H2_) | with_reducible exact H | (rw [hy319]; exact H) | exact H
                                              have Ny319 := Aside0.mk hy319
                                              clear hy319
                                              have H' := Aside0.mk H
                                              clear H
                                              have p310 : 0 ≤ ((ji42) : Int) := of_decide_eq_true pA
                                              have q310 : (ji42) < (l0.length : Int) := of_decide_eq_true pA
                                              obtain ⟨ad310, e310, hx310_0⟩ := Kd.at_int HR0.out (ji42) p310 q310
                                              obtain rfl : ad283 = ad310 := (by injection e310)
                                              replace hx310_0 := (HB.out.cell (World.block_lt_of_cell? w _ hx310_0)).trans hx310_0
                                              replace p310 := eq_true p310
                                              replace q310 := eq_true q310
                                              go_wp2_with (first | (go_at_call 32; (with_reducible refine (capnpref20_Dense.calls k3 (rd l0 (ji42)) false _ A44.out).mono ?_); rintro e w54 ⟨rfl, hb⟩; have n0_ := Aside0.mk (Kd.R_below (pR HO_3) hb); have n1_ := Aside0.mk (below_step pB hb); clear HO_3; clear HB; have HO_3 := n0_; have HB := n1_; clear n0_ n1_; (try clear hb); (try clear hb2); (try clear hk); (try clear hi)) | ((with_reducible refine gate_builtin (b := .append) (xs := #[.tmp 72, .tmp 75]) rfl ?_); at_builtin; refine Kd.R_append (Kd.int .u8) (w0 := w) w.heap.size rfl (.tmp 72) (.tmp 75) 22 5 (.int .u8 0) 1 rfl Try.underlying22 info5 rfl (by decide) (by omega) v292 y291 ((x7_3) % 256) [.int .u8 ((x7_3) % 256)] (fun _ => True) (fun _ => False) rfl rfl ?aP (fun _ hk => hk.elim) ?aF ?aO ?aB ?aS ?aL ?_; (case aP => exact rfl); (case aB => exact pB); (case aF => exact (fun _ _ => trivial)); (case aO => exact (pR HO_3)); (case aS => exact (below_size pB)); (case aL => have := LMc47.out; omega); intro v313 w55 ho hb hg hat; rw [← Ny312.out] at ho; have n0_ := Aside0.mk (hb); have n1_ := Aside0.mk (ho); clear HB; clear HO_3; have HB := n0_; have HO314 := n1_; clear n0_ n1_; clear ho hb hg hat; obtain ⟨i056, hi056, _, hsz56, _⟩ := info_parts info53; obtain ⟨A56, hcut56, hA56, hC56⟩ := print_mid_of (P := Try.prog) (Value.int .u64) 0 44 53 .i64 .i64 Try.underlying44 hi056 hsz56 (some ad283) c0 l0 (ji48) (ji42) (of_decide_eq_true pA) (by first | omega | exact of_decide_eq_true pA) (of_decide_eq_true pA) HC0.out; have HR315 := Aside0.mk (Kd.C_of_reads (h1 := fun _ => rfl) (hA56 _ (Kd.reads_of_C HR0.out))); have HC315 := Aside0.mk hC56; clear hA56 hC56 hi056 hsz56) | ((with_reducible refine gate_callee (f := 29) rfl ?_); refine goesL_ (some 86) rfl rfl Try.func29 (by kernel_rfl) rfl #[.slice A56 ((l0.take ((ji42) : Int).toNat).drop ((ji48) : Int).toNat).length (c0 - (ji48).toNat)] rfl (by (try simp only [List.map_toArray, List.map_cons, List.map_nil]); first | done | (rw [show ((l0.take ((ji42) : Int).toNat).drop ((ji48) : Int).toNat).length = ((ji42).toNat - (ji48).toNat) from (by rw [List.length_drop, List.length_take]; have h_ : ((ji42) : Int) ≤ (l0.length : Int) := of_decide_eq_true pA; omega)] <;> rfl) | (simp only [hji42, hji48]; rfl) | rfl | (simp only [List.length_drop, List.length_take]; rfl)) ?_; (with_reducible refine (capnpref01_Bytes.calls k3 _ _ ((l0.take ((ji42) : Int).toNat).drop ((ji48) : Int).toNat) t316 _ ?side1 ?side2 A52.out).mono ?_); (case side1 => repeat (first | exact (Kd.C_below HR315.out HB.out) | (with_reducible refine Kd.C_alloc ?_ _) | (with_reducible refine Kd.C_drewN ?_ _) | (with_reducible refine Kd.C_drew ?_))); (case side2 => exact HC315.out); rintro e w57 ⟨v317, rfl, ho0, hb⟩; refine ⟨_, rfl, ?_⟩; have n0_ := Aside0.mk (Kd.R_elder' (pR HO314) (Kd.R_base ho0) hb); have n1_ := Aside0.mk (Kd.R_lower (Kd.R_new' ho0 (Kd.R_lt (pR HO314))) (below_size pB)); have n2_ := Aside0.mk (below_step pB hb); clear HO314; clear HB; have HO314 := n0_; have HO318 := n1_; have HB := n2_; clear n0_ n1_ n2_; (try clear hb); (try clear hb2); (try clear hk); (try clear hi); (try clear ho0); obtain ⟨Ao59, co59, eo59⟩ := Kd.R_slice HO318.out; subst eo59) | ((with_reducible refine gate_builtin (b := .append) (xs := #[.tmp 79, .tmp 86]) rfl ?_); at_builtin; refine Kd.R_append_rows (Kd.int .u8) (w0 := w) w.heap.size rfl (.tmp 79) (.tmp 86) 22 5 (.int .u8 0) 1 rfl Try.underlying22 info5 rfl (by decide) (by omega) v313 y312 t316 _ _ _ (fun k_ => some k_ ≠ (.slice Ao59 t316.length co59 : Value).ownBlock) (fun _ => False) rfl rfl ?aO ?aR (fun _ _ h => h) (fun _ h => h.elim) ?aF ?aB ?aS ?aL ?_; (case aR => repeat (first | exact (Kd.R_reads' HO318.out).2.2 | (with_reducible refine Kd.C_alloc ?_ _) | (with_reducible refine Kd.C_drewN ?_ _) | (with_reducible refine Kd.C_drew ?_))); (case aB => exact pB); (case aF => exact (fun k_ hk => Kd.fresh' (Kd.R_lt (pR HO318)) k_ hk)); (case aO => exact (by (with_reducible repeat (first | apply Kd.R_alloc | apply Kd.R_drewN | apply Kd.R_drew)); exact Kd.R_mono HO314.out (fun _ hk => hk.2))); (case aS => exact (below_size pB)); (case aL => have := LMc53.out; omega); intro v320 w58 ho hb hg hat; rw [← Ny319.out] at ho; have n0_ := Aside0.mk (Kd.R_after (ok := (fun _ => True)) (pR HO318) hg hat); have n1_ := Aside0.mk (hb); have n2_ := Aside0.mk (ho); clear HO318; clear HB; clear HO314; have HO318 := n0_; have HB := n1_; have HO321 := n2_; clear n0_ n1_ n2_; clear ho hb hg hat))
                                              (first | go_roundg k3 | ((try subst hji42); (try subst hji48); go_roundg k3))
                                              case measure => have := HK1.out; have := HJ7.out; have := HK3.out; omega
                                              case rel => exact ⟨(y319), (ji42), (by first | rfl | (simp; done) | (simp only [← hji42] <;> (first | rfl | simp)) | (simp [*]; done)), H', ⟨by have := HK1.out; have := HJ7.out; have := HK3.out; omega⟩, ⟨by (with_reducible repeat (first | apply Kd.R_alloc | apply Kd.R_drewN | apply Kd.R_drew)); exact Kd.R_mono HO321.out (fun _ hk => trivial)⟩, ⟨pB⟩⟩
                                            · rw [if_neg c53] at H
                                              exact absurd H (by simp)
                                          · rw [if_neg c51] at H
                                            exact absurd H (by simp)
                                        · rw [if_neg c50] at H
                                          exact absurd H (by simp)
                                      · rw [if_neg c49] at H
                                        exact absurd H (by simp)
                                    · rw [if_neg c47] at H
                                      exact absurd H (by simp)
                                · rw [if_neg c43] at H
                                  exact absurd H (by simp)
                              · rw [if_neg c41] at H
                                have c41b0 : (t284 == 255) = false := beq_eq_false_iff_ne.mpr c41
                                have c41b1 : (t284 != 255) = true := bne_iff_ne.mpr c41
                                by_cases c60 : y291.length < 140737488355328
                                · rw [if_pos c60] at H
                                  have LMc60 := Aside0.mk c60
                                  clear c60
                                  obtain ⟨y322, hy322⟩ : ∃ y_ : List Int, y_ = (y291 ++ [(x7_3) % 256]) := ⟨_, rfl⟩
                                  replace H : (capnpref21_Words.l0 k3 l0 y322 (wrap64 ((wrap64 (x4_1 + 1)) + x7_3))) = some r := by first | (rw [hy322]; with_reducible exact H) | (have H2_ := (Option.bind_some _ _).symm.trans H; rw [hy322]; with_reducible exact H2_) | (have H2_ := (Option.bind_some _ _).symm.trans H; with_reducible exact H2_) | with_reducible exact H | (rw [hy322]; exact H) | exact H
                                  have Ny322 := Aside0.mk hy322
                                  clear hy322
                                  have H' := Aside0.mk H
                                  clear H
                                  go_wp2_with (first | ((with_reducible refine gate_builtin (b := .append) (xs := #[.tmp 72, .tmp 75]) rfl ?_); at_builtin; refine Kd.R_append (Kd.int .u8) (w0 := w) w.heap.size rfl (.tmp 72) (.tmp 75) 22 5 (.int .u8 0) 1 rfl Try.underlying22 info5 rfl (by decide) (by omega) v292 y291 ((x7_3) % 256) [.int .u8 ((x7_3) % 256)] (fun _ => True) (fun _ => False) rfl rfl ?aP (fun _ hk => hk.elim) ?aF ?aO ?aB ?aS ?aL ?_; (case aP => exact rfl); (case aB => exact pB); (case aF => exact (fun _ _ => trivial)); (case aO => exact (pR HO_3)); (case aS => exact (below_size pB)); (case aL => have := LMc60.out; omega); intro v323 w61 ho hb hg hat; rw [← Ny322.out] at ho; have n0_ := Aside0.mk (hb); have n1_ := Aside0.mk (ho); clear HB; clear HO_3; have HB := n0_; have HO324 := n1_; clear n0_ n1_; clear ho hb hg hat))
                                  go_roundg k3
                                  case measure => have := HK1.out; have := HJ7.out; have := HK3.out; omega
                                  case rel => exact ⟨(y322), (wrap64 ((wrap64 (x4_1 + 1)) + x7_3)), (by first | rfl | (simp; done) | (simp [*]; done)), H', ⟨by have := HK1.out; have := HJ7.out; have := HK3.out; omega⟩, ⟨pR HO324⟩, ⟨pB⟩⟩
                                · rw [if_neg c60] at H
                                  exact absurd H (by simp)
                          · rw [if_neg c17] at H
                            have c17b0 : decide (x7_3 < 255) = false := decide_eq_false c17
                            clear c17
                            by_cases c62 : y291.length < 140737488355328
                            · rw [if_pos c62] at H
                              have LMc62 := Aside0.mk c62
                              clear c62
                              obtain ⟨y325, hy325⟩ : ∃ y_ : List Int, y_ = (y291 ++ [(x7_3) % 256]) := ⟨_, rfl⟩
                              replace H : (if t284 = 255 then (if 0 ≤ (wrap64 (x4_1 + 1)) then (if (wrap64 (x4_1 + 1)) ≤ (wrap64 ((wrap64 (x4_1 + 1)) + x7_3)) then (if (wrap64 ((wrap64 (x4_1 + 1)) + x7_3)) ≤ (l0.length : Int) then ((capnpref01_Bytes.f k3 ((l0.take ((wrap64 ((wrap64 (x4_1 + 1)) + x7_3)) : Int).toNat).drop ((wrap64 (x4_1 + 1)) : Int).toNat)).bind fun t329 => (if y325.length + t329.length < 140737488355328 then (capnpref21_Words.l0 k3 l0 (y325 ++ t329) (wrap64 ((wrap64 (x4_1 + 1)) + x7_3))) else (none))) else (none)) else (none)) else (none)) else (capnpref21_Words.l0 k3 l0 y325 (wrap64 ((wrap64 (x4_1 + 1)) + x7_3)))) = some r := by first | (rw [hy325]; with_reducible exact H) | (have H2_ := (Option.bind_some _ _).symm.trans H; rw [hy325]; with_reducible exact H2_) | (have H2_ := (Option.bind_some _ _).symm.trans H; with_reducible exact H2_) | with_reducible exact H | (rw [hy325]; exact H) | exact H
                              have Ny325 := Aside0.mk hy325
                              clear hy325
                              by_cases c63 : t284 = 255
                              · rw [if_pos c63] at H
                                have c63b0 : (t284 == 255) = true := beq_iff_eq.mpr c63
                                have c63b1 : (t284 != 255) = false := bne_eq_false_iff_eq.mpr c63
                                clear c63
                                try subst hji27
                                try subst hji48
                                obtain ⟨ji64, hji64⟩ : ∃ j_ : Int, (wrap64 (x4_1 + 1)) = j_ := ⟨_, rfl⟩
                                replace H : (if 0 ≤ (ji64) then (if (ji64) ≤ (wrap64 ((ji64) + x7_3)) then (if (wrap64 ((ji64) + x7_3)) ≤ (l0.length : Int) then ((capnpref01_Bytes.f k3 ((l0.take ((wrap64 ((ji64) + x7_3)) : Int).toNat).drop ((ji64) : Int).toNat)).bind fun t329 => (if y325.length + t329.length < 140737488355328 then (capnpref21_Words.l0 k3 l0 (y325 ++ t329) (wrap64 ((ji64) + x7_3))) else (none))) else (none)) else (none)) else (none)) = some r := by first | (rw [hji64] at H; exact H) | (simp only [hji64] at H ⊢; exact H)
                                (try rw [hji64] at c16b0)
                                have hji64w : (IntKind.i64.wrap (x4_1 + 1)) = ji64 := (i64_w _).trans hji64
                                by_cases c65 : 0 ≤ (ji64)
                                · rw [if_pos c65] at H
                                  have c65b0 := eq_true c65
                                  have c65b1 : decide (0 ≤ (ji64)) = true := decide_eq_true c65
                                  clear c65
                                  by_cases c66 : (ji64) ≤ (wrap64 ((ji64) + x7_3))
                                  · rw [if_pos c66] at H
                                    have c66b0 := eq_true c66
                                    have c66b1 : decide ((ji64) ≤ (wrap64 ((ji64) + x7_3))) = true := decide_eq_true c66
                                    by_cases c67 : (wrap64 ((ji64) + x7_3)) ≤ (l0.length : Int)
                                    · rw [if_pos c67] at H
                                      have c67b0 := eq_true c67
                                      have c67b1 : decide ((wrap64 ((ji64) + x7_3)) ≤ (l0.length : Int)) = true := decide_eq_true c67
                                      replace H := Option.bind_eq_some_iff.mp H
                                      obtain ⟨t329, A680, H⟩ := H
                                      replace H : (if y325.length + t329.length < 140737488355328 then (capnpref21_Words.l0 k3 l0 (y325 ++ t329) (wrap64 ((ji64) + x7_3))) else (none)) = some r := H
                                      have A68 := Aside0.mk A680
                                      clear A680
                                      by_cases c69 : y325.length + t329.length < 140737488355328
                                      · rw [if_pos c69] at H
                                        have LMc69 := Aside0.mk c69
                                        clear c69
                                        obtain ⟨y332, hy332⟩ : ∃ y_ : List Int, y_ = (y325 ++ t329) := ⟨_, rfl⟩
                                        replace H : (capnpref21_Words.l0 k3 l0 y332 (wrap64 ((ji64) + x7_3))) = some r := by first | (rw [hy332]; with_reducible exact H) | (have H2_ := (Option.bind_some _ _).symm.trans H; rw [hy332]; with_reducible exact H2_) | (have H2_ := (Option.bind_some _ _).symm.trans H; with_reducible exact H2_) | with_reducible exact H | (rw [hy332]; exact H) | exact H
                                        have Ny332 := Aside0.mk hy332
                                        clear hy332
                                        have H' := Aside0.mk H
                                        clear H
                                        go_wp2_with (first | ((with_reducible refine gate_builtin (b := .append) (xs := #[.tmp 72, .tmp 75]) rfl ?_); at_builtin; refine Kd.R_append (Kd.int .u8) (w0 := w) w.heap.size rfl (.tmp 72) (.tmp 75) 22 5 (.int .u8 0) 1 rfl Try.underlying22 info5 rfl (by decide) (by omega) v292 y291 ((x7_3) % 256) [.int .u8 ((x7_3) % 256)] (fun _ => True) (fun _ => False) rfl rfl ?aP (fun _ hk => hk.elim) ?aF ?aO ?aB ?aS ?aL ?_; (case aP => exact rfl); (case aB => exact pB); (case aF => exact (fun _ _ => trivial)); (case aO => exact (pR HO_3)); (case aS => exact (below_size pB)); (case aL => have := LMc62.out; omega); intro v326 w70 ho hb hg hat; rw [← Ny325.out] at ho; have n0_ := Aside0.mk (hb); have n1_ := Aside0.mk (ho); clear HB; clear HO_3; have HB := n0_; have HO327 := n1_; clear n0_ n1_; clear ho hb hg hat; obtain ⟨i071, hi071, _, hsz71, _⟩ := info_parts info53; obtain ⟨A71, hcut71, hA71, hC71⟩ := print_mid_of (P := Try.prog) (Value.int .u64) 0 44 53 .i64 .i64 Try.underlying44 hi071 hsz71 (some ad283) c0 l0 (ji64) (wrap64 ((ji64) + x7_3)) (of_decide_eq_true pA) (by first | omega | exact of_decide_eq_true pA) (of_decide_eq_true pA) HC0.out; have HR328 := Aside0.mk (Kd.C_of_reads (h1 := fun _ => rfl) (hA71 _ (Kd.reads_of_C HR0.out))); have HC328 := Aside0.mk hC71; clear hA71 hC71 hi071 hsz71) | ((with_reducible refine gate_callee (f := 29) rfl ?_); refine goesL_ (some 86) rfl rfl Try.func29 (by kernel_rfl) rfl #[.slice A71 ((l0.take ((wrap64 ((ji64) + x7_3)) : Int).toNat).drop ((ji64) : Int).toNat).length (c0 - (ji64).toNat)] rfl (by (try simp only [List.map_toArray, List.map_cons, List.map_nil]); first | done | (rw [show ((l0.take ((wrap64 ((ji64) + x7_3)) : Int).toNat).drop ((ji64) : Int).toNat).length = ((wrap64 ((ji64) + x7_3)).toNat - (ji64).toNat) from (by rw [List.length_drop, List.length_take]; have h_ : ((wrap64 ((ji64) + x7_3)) : Int) ≤ (l0.length : Int) := of_decide_eq_true pA; omega)] <;> rfl) | (simp only [hji64]; rfl) | rfl | (simp only [List.length_drop, List.length_take]; rfl)) ?_; (with_reducible refine (capnpref01_Bytes.calls k3 _ _ ((l0.take ((wrap64 ((ji64) + x7_3)) : Int).toNat).drop ((ji64) : Int).toNat) t329 _ ?side1 ?side2 A68.out).mono ?_); (case side1 => repeat (first | exact (Kd.C_below HR328.out HB.out) | (with_reducible refine Kd.C_alloc ?_ _) | (with_reducible refine Kd.C_drewN ?_ _) | (with_reducible refine Kd.C_drew ?_))); (case side2 => exact HC328.out); rintro e w72 ⟨v330, rfl, ho0, hb⟩; refine ⟨_, rfl, ?_⟩; have n0_ := Aside0.mk (Kd.R_elder' (pR HO327) (Kd.R_base ho0) hb); have n1_ := Aside0.mk (Kd.R_lower (Kd.R_new' ho0 (Kd.R_lt (pR HO327))) (below_size pB)); have n2_ := Aside0.mk (below_step pB hb); clear HO327; clear HB; have HO327 := n0_; have HO331 := n1_; have HB := n2_; clear n0_ n1_ n2_; (try clear hb); (try clear hb2); (try clear hk); (try clear hi); (try clear ho0); obtain ⟨Ao74, co74, eo74⟩ := Kd.R_slice HO331.out; subst eo74) | ((with_reducible refine gate_builtin (b := .append) (xs := #[.tmp 79, .tmp 86]) rfl ?_); at_builtin; refine Kd.R_append_rows (Kd.int .u8) (w0 := w) w.heap.size rfl (.tmp 79) (.tmp 86) 22 5 (.int .u8 0) 1 rfl Try.underlying22 info5 rfl (by decide) (by omega) v326 y325 t329 _ _ _ (fun k_ => some k_ ≠ (.slice Ao74 t329.length co74 : Value).ownBlock) (fun _ => False) rfl rfl ?aO ?aR (fun _ _ h => h) (fun _ h => h.elim) ?aF ?aB ?aS ?aL ?_; (case aR => repeat (first | exact (Kd.R_reads' HO331.out).2.2 | (with_reducible refine Kd.C_alloc ?_ _) | (with_reducible refine Kd.C_drewN ?_ _) | (with_reducible refine Kd.C_drew ?_))); (case aB => exact pB); (case aF => exact (fun k_ hk => Kd.fresh' (Kd.R_lt (pR HO331)) k_ hk)); (case aO => exact (by (with_reducible repeat (first | apply Kd.R_alloc | apply Kd.R_drewN | apply Kd.R_drew)); exact Kd.R_mono HO327.out (fun _ hk => hk.2))); (case aS => exact (below_size pB)); (case aL => have := LMc69.out; omega); intro v333 w73 ho hb hg hat; rw [← Ny332.out] at ho; have n0_ := Aside0.mk (Kd.R_after (ok := (fun _ => True)) (pR HO331) hg hat); have n1_ := Aside0.mk (hb); have n2_ := Aside0.mk (ho); clear HO331; clear HB; clear HO327; have HO331 := n0_; have HB := n1_; have HO334 := n2_; clear n0_ n1_ n2_; clear ho hb hg hat))
                                        (first | go_roundg k3 | ((try subst hji64); go_roundg k3))
                                        case measure => have := HK1.out; have := HJ7.out; have := HK3.out; omega
                                        case rel => exact ⟨(y332), (wrap64 ((ji64) + x7_3)), (by first | rfl | (simp; done) | (simp only [← hji64] <;> (first | rfl | simp)) | (simp [*]; done)), H', ⟨by have := HK1.out; have := HJ7.out; have := HK3.out; omega⟩, ⟨by (with_reducible repeat (first | apply Kd.R_alloc | apply Kd.R_drewN | apply Kd.R_drew)); exact Kd.R_mono HO334.out (fun _ hk => trivial)⟩, ⟨pB⟩⟩
                                      · rw [if_neg c69] at H
                                        exact absurd H (by simp)
                                    · rw [if_neg c67] at H
                                      exact absurd H (by simp)
                                  · rw [if_neg c66] at H
                                    exact absurd H (by simp)
                                · rw [if_neg c65] at H
                                  exact absurd H (by simp)
                              · rw [if_neg c63] at H
                                have c63b0 : (t284 == 255) = false := beq_eq_false_iff_ne.mpr c63
                                have c63b1 : (t284 != 255) = true := bne_iff_ne.mpr c63
                                have H' := Aside0.mk H
                                clear H
                                go_wp2_with (first | ((with_reducible refine gate_builtin (b := .append) (xs := #[.tmp 72, .tmp 75]) rfl ?_); at_builtin; refine Kd.R_append (Kd.int .u8) (w0 := w) w.heap.size rfl (.tmp 72) (.tmp 75) 22 5 (.int .u8 0) 1 rfl Try.underlying22 info5 rfl (by decide) (by omega) v292 y291 ((x7_3) % 256) [.int .u8 ((x7_3) % 256)] (fun _ => True) (fun _ => False) rfl rfl ?aP (fun _ hk => hk.elim) ?aF ?aO ?aB ?aS ?aL ?_; (case aP => exact rfl); (case aB => exact pB); (case aF => exact (fun _ _ => trivial)); (case aO => exact (pR HO_3)); (case aS => exact (below_size pB)); (case aL => have := LMc62.out; omega); intro v326 w75 ho hb hg hat; rw [← Ny325.out] at ho; have n0_ := Aside0.mk (hb); have n1_ := Aside0.mk (ho); clear HB; clear HO_3; have HB := n0_; have HO327 := n1_; clear n0_ n1_; clear ho hb hg hat))
                                go_roundg k3
                                case measure => have := HK1.out; have := HJ7.out; have := HK3.out; omega
                                case rel => exact ⟨(y325), (wrap64 ((wrap64 (x4_1 + 1)) + x7_3)), (by first | rfl | (simp; done) | (simp [*]; done)), H', ⟨by have := HK1.out; have := HJ7.out; have := HK3.out; omega⟩, ⟨pR HO327⟩, ⟨pB⟩⟩
                            · rw [if_neg c62] at H
                              exact absurd H (by simp)
                        · rw [if_neg c16] at H
                          have c16b0 : decide ((wrap64 ((wrap64 (x4_1 + 1)) + x7_3)) < (l0.length : Int)) = false := decide_eq_false c16
                          clear c16
                          by_cases c76 : y291.length < 140737488355328
                          · rw [if_pos c76] at H
                            have LMc76 := Aside0.mk c76
                            clear c76
                            obtain ⟨y335, hy335⟩ : ∃ y_ : List Int, y_ = (y291 ++ [(x7_3) % 256]) := ⟨_, rfl⟩
                            replace H : (if t284 = 255 then (if 0 ≤ (wrap64 (x4_1 + 1)) then (if (wrap64 (x4_1 + 1)) ≤ (wrap64 ((wrap64 (x4_1 + 1)) + x7_3)) then (if (wrap64 ((wrap64 (x4_1 + 1)) + x7_3)) ≤ (l0.length : Int) then ((capnpref01_Bytes.f k3 ((l0.take ((wrap64 ((wrap64 (x4_1 + 1)) + x7_3)) : Int).toNat).drop ((wrap64 (x4_1 + 1)) : Int).toNat)).bind fun t339 => (if y335.length + t339.length < 140737488355328 then (capnpref21_Words.l0 k3 l0 (y335 ++ t339) (wrap64 ((wrap64 (x4_1 + 1)) + x7_3))) else (none))) else (none)) else (none)) else (none)) else (capnpref21_Words.l0 k3 l0 y335 (wrap64 ((wrap64 (x4_1 + 1)) + x7_3)))) = some r := by first | (rw [hy335]; with_reducible exact H) | (have H2_ := (Option.bind_some _ _).symm.trans H; rw [hy335]; with_reducible exact H2_) | (have H2_ := (Option.bind_some _ _).symm.trans H; with_reducible exact H2_) | with_reducible exact H | (rw [hy335]; exact H) | exact H
                            have Ny335 := Aside0.mk hy335
                            clear hy335
                            by_cases c77 : t284 = 255
                            · rw [if_pos c77] at H
                              have c77b0 : (t284 == 255) = true := beq_iff_eq.mpr c77
                              have c77b1 : (t284 != 255) = false := bne_eq_false_iff_eq.mpr c77
                              clear c77
                              try subst hji27
                              try subst hji48
                              try subst hji64
                              obtain ⟨ji78, hji78⟩ : ∃ j_ : Int, (wrap64 (x4_1 + 1)) = j_ := ⟨_, rfl⟩
                              replace H : (if 0 ≤ (ji78) then (if (ji78) ≤ (wrap64 ((ji78) + x7_3)) then (if (wrap64 ((ji78) + x7_3)) ≤ (l0.length : Int) then ((capnpref01_Bytes.f k3 ((l0.take ((wrap64 ((ji78) + x7_3)) : Int).toNat).drop ((ji78) : Int).toNat)).bind fun t339 => (if y335.length + t339.length < 140737488355328 then (capnpref21_Words.l0 k3 l0 (y335 ++ t339) (wrap64 ((ji78) + x7_3))) else (none))) else (none)) else (none)) else (none)) = some r := by first | (rw [hji78] at H; exact H) | (simp only [hji78] at H ⊢; exact H)
                              (try rw [hji78] at c16b0)
                              have hji78w : (IntKind.i64.wrap (x4_1 + 1)) = ji78 := (i64_w _).trans hji78
                              by_cases c79 : 0 ≤ (ji78)
                              · rw [if_pos c79] at H
                                have c79b0 := eq_true c79
                                have c79b1 : decide (0 ≤ (ji78)) = true := decide_eq_true c79
                                clear c79
                                by_cases c80 : (ji78) ≤ (wrap64 ((ji78) + x7_3))
                                · rw [if_pos c80] at H
                                  have c80b0 := eq_true c80
                                  have c80b1 : decide ((ji78) ≤ (wrap64 ((ji78) + x7_3))) = true := decide_eq_true c80
                                  by_cases c81 : (wrap64 ((ji78) + x7_3)) ≤ (l0.length : Int)
                                  · rw [if_pos c81] at H
                                    have c81b0 := eq_true c81
                                    have c81b1 : decide ((wrap64 ((ji78) + x7_3)) ≤ (l0.length : Int)) = true := decide_eq_true c81
                                    replace H := Option.bind_eq_some_iff.mp H
                                    obtain ⟨t339, A820, H⟩ := H
                                    replace H : (if y335.length + t339.length < 140737488355328 then (capnpref21_Words.l0 k3 l0 (y335 ++ t339) (wrap64 ((ji78) + x7_3))) else (none)) = some r := H
                                    have A82 := Aside0.mk A820
                                    clear A820
                                    by_cases c83 : y335.length + t339.length < 140737488355328
                                    · rw [if_pos c83] at H
                                      have LMc83 := Aside0.mk c83
                                      clear c83
                                      obtain ⟨y342, hy342⟩ : ∃ y_ : List Int, y_ = (y335 ++ t339) := ⟨_, rfl⟩
                                      replace H : (capnpref21_Words.l0 k3 l0 y342 (wrap64 ((ji78) + x7_3))) = some r := by first | (rw [hy342]; with_reducible exact H) | (have H2_ := (Option.bind_some _ _).symm.trans H; rw [hy342]; with_reducible exact H2_) | (have H2_ := (Option.bind_some _ _).symm.trans H; with_reducible exact H2_) | with_reducible exact H | (rw [hy342]; exact H) | exact H
                                      have Ny342 := Aside0.mk hy342
                                      clear hy342
                                      have H' := Aside0.mk H
                                      clear H
                                      go_wp2_with (first | ((with_reducible refine gate_builtin (b := .append) (xs := #[.tmp 72, .tmp 75]) rfl ?_); at_builtin; refine Kd.R_append (Kd.int .u8) (w0 := w) w.heap.size rfl (.tmp 72) (.tmp 75) 22 5 (.int .u8 0) 1 rfl Try.underlying22 info5 rfl (by decide) (by omega) v292 y291 ((x7_3) % 256) [.int .u8 ((x7_3) % 256)] (fun _ => True) (fun _ => False) rfl rfl ?aP (fun _ hk => hk.elim) ?aF ?aO ?aB ?aS ?aL ?_; (case aP => exact rfl); (case aB => exact pB); (case aF => exact (fun _ _ => trivial)); (case aO => exact (pR HO_3)); (case aS => exact (below_size pB)); (case aL => have := LMc76.out; omega); intro v336 w84 ho hb hg hat; rw [← Ny335.out] at ho; have n0_ := Aside0.mk (hb); have n1_ := Aside0.mk (ho); clear HB; clear HO_3; have HB := n0_; have HO337 := n1_; clear n0_ n1_; clear ho hb hg hat; obtain ⟨i085, hi085, _, hsz85, _⟩ := info_parts info53; obtain ⟨A85, hcut85, hA85, hC85⟩ := print_mid_of (P := Try.prog) (Value.int .u64) 0 44 53 .i64 .i64 Try.underlying44 hi085 hsz85 (some ad283) c0 l0 (ji78) (wrap64 ((ji78) + x7_3)) (of_decide_eq_true pA) (by first | omega | exact of_decide_eq_true pA) (of_decide_eq_true pA) HC0.out; have HR338 := Aside0.mk (Kd.C_of_reads (h1 := fun _ => rfl) (hA85 _ (Kd.reads_of_C HR0.out))); have HC338 := Aside0.mk hC85; clear hA85 hC85 hi085 hsz85) | ((with_reducible refine gate_callee (f := 29) rfl ?_); refine goesL_ (some 86) rfl rfl Try.func29 (by kernel_rfl) rfl #[.slice A85 ((l0.take ((wrap64 ((ji78) + x7_3)) : Int).toNat).drop ((ji78) : Int).toNat).length (c0 - (ji78).toNat)] rfl (by (try simp only [List.map_toArray, List.map_cons, List.map_nil]); first | done | (rw [show ((l0.take ((wrap64 ((ji78) + x7_3)) : Int).toNat).drop ((ji78) : Int).toNat).length = ((wrap64 ((ji78) + x7_3)).toNat - (ji78).toNat) from (by rw [List.length_drop, List.length_take]; have h_ : ((wrap64 ((ji78) + x7_3)) : Int) ≤ (l0.length : Int) := of_decide_eq_true pA; omega)] <;> rfl) | (simp only [hji78]; rfl) | rfl | (simp only [List.length_drop, List.length_take]; rfl)) ?_; (with_reducible refine (capnpref01_Bytes.calls k3 _ _ ((l0.take ((wrap64 ((ji78) + x7_3)) : Int).toNat).drop ((ji78) : Int).toNat) t339 _ ?side1 ?side2 A82.out).mono ?_); (case side1 => repeat (first | exact (Kd.C_below HR338.out HB.out) | (with_reducible refine Kd.C_alloc ?_ _) | (with_reducible refine Kd.C_drewN ?_ _) | (with_reducible refine Kd.C_drew ?_))); (case side2 => exact HC338.out); rintro e w86 ⟨v340, rfl, ho0, hb⟩; refine ⟨_, rfl, ?_⟩; have n0_ := Aside0.mk (Kd.R_elder' (pR HO337) (Kd.R_base ho0) hb); have n1_ := Aside0.mk (Kd.R_lower (Kd.R_new' ho0 (Kd.R_lt (pR HO337))) (below_size pB)); have n2_ := Aside0.mk (below_step pB hb); clear HO337; clear HB; have HO337 := n0_; have HO341 := n1_; have HB := n2_; clear n0_ n1_ n2_; (try clear hb); (try clear hb2); (try clear hk); (try clear hi); (try clear ho0); obtain ⟨Ao88, co88, eo88⟩ := Kd.R_slice HO341.out; subst eo88) | ((with_reducible refine gate_builtin (b := .append) (xs := #[.tmp 79, .tmp 86]) rfl ?_); at_builtin; refine Kd.R_append_rows (Kd.int .u8) (w0 := w) w.heap.size rfl (.tmp 79) (.tmp 86) 22 5 (.int .u8 0) 1 rfl Try.underlying22 info5 rfl (by decide) (by omega) v336 y335 t339 _ _ _ (fun k_ => some k_ ≠ (.slice Ao88 t339.length co88 : Value).ownBlock) (fun _ => False) rfl rfl ?aO ?aR (fun _ _ h => h) (fun _ h => h.elim) ?aF ?aB ?aS ?aL ?_; (case aR => repeat (first | exact (Kd.R_reads' HO341.out).2.2 | (with_reducible refine Kd.C_alloc ?_ _) | (with_reducible refine Kd.C_drewN ?_ _) | (with_reducible refine Kd.C_drew ?_))); (case aB => exact pB); (case aF => exact (fun k_ hk => Kd.fresh' (Kd.R_lt (pR HO341)) k_ hk)); (case aO => exact (by (with_reducible repeat (first | apply Kd.R_alloc | apply Kd.R_drewN | apply Kd.R_drew)); exact Kd.R_mono HO337.out (fun _ hk => hk.2))); (case aS => exact (below_size pB)); (case aL => have := LMc83.out; omega); intro v343 w87 ho hb hg hat; rw [← Ny342.out] at ho; have n0_ := Aside0.mk (Kd.R_after (ok := (fun _ => True)) (pR HO341) hg hat); have n1_ := Aside0.mk (hb); have n2_ := Aside0.mk (ho); clear HO341; clear HB; clear HO337; have HO341 := n0_; have HB := n1_; have HO344 := n2_; clear n0_ n1_ n2_; clear ho hb hg hat))
                                      (first | go_roundg k3 | ((try subst hji78); go_roundg k3))
                                      case measure => have := HK1.out; have := HJ7.out; have := HK3.out; omega
                                      case rel => exact ⟨(y342), (wrap64 ((ji78) + x7_3)), (by first | rfl | (simp; done) | (simp only [← hji78] <;> (first | rfl | simp)) | (simp [*]; done)), H', ⟨by have := HK1.out; have := HJ7.out; have := HK3.out; omega⟩, ⟨by (with_reducible repeat (first | apply Kd.R_alloc | apply Kd.R_drewN | apply Kd.R_drew)); exact Kd.R_mono HO344.out (fun _ hk => trivial)⟩, ⟨pB⟩⟩
                                    · rw [if_neg c83] at H
                                      exact absurd H (by simp)
                                  · rw [if_neg c81] at H
                                    exact absurd H (by simp)
                                · rw [if_neg c80] at H
                                  exact absurd H (by simp)
                              · rw [if_neg c79] at H
                                exact absurd H (by simp)
                            · rw [if_neg c77] at H
                              have c77b0 : (t284 == 255) = false := beq_eq_false_iff_ne.mpr c77
                              have c77b1 : (t284 != 255) = true := bne_iff_ne.mpr c77
                              have H' := Aside0.mk H
                              clear H
                              go_wp2_with (first | ((with_reducible refine gate_builtin (b := .append) (xs := #[.tmp 72, .tmp 75]) rfl ?_); at_builtin; refine Kd.R_append (Kd.int .u8) (w0 := w) w.heap.size rfl (.tmp 72) (.tmp 75) 22 5 (.int .u8 0) 1 rfl Try.underlying22 info5 rfl (by decide) (by omega) v292 y291 ((x7_3) % 256) [.int .u8 ((x7_3) % 256)] (fun _ => True) (fun _ => False) rfl rfl ?aP (fun _ hk => hk.elim) ?aF ?aO ?aB ?aS ?aL ?_; (case aP => exact rfl); (case aB => exact pB); (case aF => exact (fun _ _ => trivial)); (case aO => exact (pR HO_3)); (case aS => exact (below_size pB)); (case aL => have := LMc76.out; omega); intro v336 w89 ho hb hg hat; rw [← Ny335.out] at ho; have n0_ := Aside0.mk (hb); have n1_ := Aside0.mk (ho); clear HB; clear HO_3; have HB := n0_; have HO337 := n1_; clear n0_ n1_; clear ho hb hg hat))
                              go_roundg k3
                              case measure => have := HK1.out; have := HJ7.out; have := HK3.out; omega
                              case rel => exact ⟨(y335), (wrap64 ((wrap64 (x4_1 + 1)) + x7_3)), (by first | rfl | (simp; done) | (simp [*]; done)), H', ⟨by have := HK1.out; have := HJ7.out; have := HK3.out; omega⟩, ⟨pR HO337⟩, ⟨pB⟩⟩
                          · rw [if_neg c76] at H
                            exact absurd H (by simp)
            · rw [if_neg c7] at H
              exact absurd H (by simp)
          · rw [if_neg c5] at H
            exact absurd H (by simp)
        · rw [if_neg c3] at H
          exact absurd H (by simp)
      · rw [if_neg c2] at H
        have c2b0 : decide (x4_1 < (l0.length : Int)) = false := decide_eq_false c2
        clear c2
        obtain rfl := Option.some.inj H
        go_wp2
        go_ret
        exact ⟨_, by first | rfl | (simp [errW_none, errW_some] <;> rfl) | (simp [*, errW_none, errW_some] <;> rfl), by (with_reducible repeat (first | apply Kd.R_alloc | apply Kd.R_drewN | apply Kd.R_drew)); exact HO_3.out, pB⟩
end Go.Proofs.Ytibkbgaonjdpiaa.PPackstreamMatchesReference
