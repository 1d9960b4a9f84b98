/- (Halved.) Written by myprint.py, a program of this session: printed functions of a law, and the proofs that the Go code comes to them. -/
import Derived.Test.YtnchacmhjbkmhaaDoorXShortR
import Derived.Test.YtnchacmhjbkmhaaDoorPGrammarMatchesReferencex0R
import Derived.Test.YtnchacmhjbkmhaaDoorPGrammarMatchesReferencex9R
namespace Go.Proofs.YtnchacmhjbkmhaaDoor.PGrammarMatchesReference
open Go.RowKit Go.Proofs.YtnchacmhjbkmhaaDoorW.PrintWords Go.Proofs.YtnchacmhjbkmhaaDoorW.PrintLast Go.Proofs.YtnchacmhjbkmhaaDoorW.PrintMore
open Go.Proofs.YtnchacmhjbkmhaaDoor.PUnBase
open Go.Proofs.YtnchacmhjbkmhaaDoor.POfBase (tagbyte_Of.f tagbyte_Of.calls tagbyte_Of.mono tagbyte_Of.mono_l)
attribute [local go_sem] max2_int min2_int max_two min_two max_three min_three max_four min_four   -- for this text's walks alone
set_option linter.unusedVariables false
set_option linter.unusedSimpArgs false
mutual
def capnpref21_Words.l0 : Nat → List Int → List Int → Int → Option (List Int)
 | 0, _, _, _ => none
 | k + 1, x0, x3, x4 => if x4 < (x0.length : Int) then (if 0 ≤ x4 then ((capnpref20_Of.f k (rd x0 x4)).bind fun t353 => (if x3.length < 140737488355328 then ((some (x3 ++ [t353] : List Int)).bind fun y354 => ((capnpref20_Bytes.f k (rd x0 x4)).bind fun t357 => (if y354.length + t357.length < 140737488355328 then ((some (y354 ++ t357 : List Int)).bind fun y360 => (if t353 = 0 then (capnpref21_Words.j1 k x0 y360 (wrap64 (x4 + 1)) t353 false) else (capnpref21_Words.j1 k x0 y360 (wrap64 (x4 + 1)) t353 (t353 != 255)))) else (none)))) else (none))) else (none)) else (some x3)
def capnpref21_Words.j1 : Nat → List Int → List Int → Int → Int → Bool → Option (List Int)
 | 0, _, _, _, _, _ => none
 | k + 1, x0, x3, x4, x6, x33 => if x33 = true then (capnpref21_Words.l0 k x0 x3 x4) else (capnpref21_Words.l1 k x0 x3 x4 x6 0)
def capnpref21_Words.l1 : Nat → List Int → List Int → Int → Int → Int → Option (List Int)
 | 0, _, _, _, _, _ => none
 | k + 1, x0, x3, x4, x6, x7 => if (wrap64 (x4 + x7)) < (x0.length : Int) then (if x7 < 255 then (if x6 = 0 then (if 0 ≤ (wrap64 (x4 + x7)) then (if (rd x0 (wrap64 (x4 + x7))) = 0 then (capnpref21_Words.l1 k x0 x3 x4 x6 (wrap64 (x7 + 1))) else (if x6 = 255 then ((capnpref20_Dense.f k (rd x0 (wrap64 (x4 + x7)))).bind fun t365 => (if t365 = true then (capnpref21_Words.l1 k x0 x3 x4 x6 (wrap64 (x7 + 1))) else (if x3.length < 140737488355328 then ((some (x3 ++ [(x7) % 256] : List Int)).bind fun y366 => (if 0 ≤ x4 then (if x4 ≤ (wrap64 (x4 + x7)) then (if (wrap64 (x4 + x7)) ≤ (x0.length : Int) then ((capnpref01_Bytes.f k ((x0.take ((wrap64 (x4 + x7)) : Int).toNat).drop (x4 : Int).toNat)).bind fun t370 => (if y366.length + t370.length < 140737488355328 then (capnpref21_Words.l0 k x0 (y366 ++ t370) (wrap64 (x4 + x7))) else (none))) else (none)) else (none)) else (none))) else (none)))) else (if x3.length < 140737488355328 then (capnpref21_Words.l0 k x0 (x3 ++ [(x7) % 256]) (wrap64 (x4 + x7))) else (none)))) else (none)) else (if x6 = 255 then (if 0 ≤ (wrap64 (x4 + x7)) then ((capnpref20_Dense.f k (rd x0 (wrap64 (x4 + x7)))).bind fun t380 => (if t380 = true then (capnpref21_Words.l1 k x0 x3 x4 x6 (wrap64 (x7 + 1))) else (if x3.length < 140737488355328 then ((some (x3 ++ [(x7) % 256] : List Int)).bind fun y381 => (if 0 ≤ x4 then (if x4 ≤ (wrap64 (x4 + x7)) then (if (wrap64 (x4 + x7)) ≤ (x0.length : Int) then ((capnpref01_Bytes.f k ((x0.take ((wrap64 (x4 + x7)) : Int).toNat).drop (x4 : Int).toNat)).bind fun t385 => (if y381.length + t385.length < 140737488355328 then (capnpref21_Words.l0 k x0 (y381 ++ t385) (wrap64 (x4 + x7))) else (none))) else (none)) else (none)) else (none))) else (none)))) else (none)) else (if x3.length < 140737488355328 then (capnpref21_Words.l0 k x0 (x3 ++ [(x7) % 256]) (wrap64 (x4 + x7))) else (none)))) else (if x3.length < 140737488355328 then ((some (x3 ++ [(x7) % 256] : List Int)).bind fun y394 => (if x6 = 255 then (if 0 ≤ x4 then (if x4 ≤ (wrap64 (x4 + x7)) then (if (wrap64 (x4 + x7)) ≤ (x0.length : Int) then ((capnpref01_Bytes.f k ((x0.take ((wrap64 (x4 + x7)) : Int).toNat).drop (x4 : Int).toNat)).bind fun t398 => (if y394.length + t398.length < 140737488355328 then (capnpref21_Words.l0 k x0 (y394 ++ t398) (wrap64 (x4 + x7))) else (none))) else (none)) else (none)) else (none)) else (capnpref21_Words.l0 k x0 y394 (wrap64 (x4 + x7))))) else (none))) else (if x3.length < 140737488355328 then ((some (x3 ++ [(x7) % 256] : List Int)).bind fun y404 => (if x6 = 255 then (if 0 ≤ x4 then (if x4 ≤ (wrap64 (x4 + x7)) then (if (wrap64 (x4 + x7)) ≤ (x0.length : Int) then ((capnpref01_Bytes.f k ((x0.take ((wrap64 (x4 + x7)) : Int).toNat).drop (x4 : Int).toNat)).bind fun t408 => (if y404.length + t408.length < 140737488355328 then (capnpref21_Words.l0 k x0 (y404 ++ t408) (wrap64 (x4 + x7))) else (none))) else (none)) else (none)) else (none)) else (capnpref21_Words.l0 k x0 y404 (wrap64 (x4 + x7))))) else (none))
end
def capnpref21_Words.f (k : Nat) (l0 : List Int) : Option (List Int) := capnpref21_Words.l0 k l0 ([] : List Int) 0
theorem capnpref21_Words.mono_l : ∀ k, (∀ y0 y1 y2, LeO (capnpref21_Words.l0 k y0 y1 y2) (capnpref21_Words.l0 (k + 1) y0 y1 y2)) ∧ (∀ y0 y1 y2 y3 y4, LeO (capnpref21_Words.j1 k y0 y1 y2 y3 y4) (capnpref21_Words.j1 (k + 1) y0 y1 y2 y3 y4)) ∧ (∀ y0 y1 y2 y3 y4, LeO (capnpref21_Words.l1 k y0 y1 y2 y3 y4) (capnpref21_Words.l1 (k + 1) y0 y1 y2 y3 y4))
 | 0 => ⟨fun _ _ _ r h => by simp [capnpref21_Words.l0] at h, fun _ _ _ _ _ r h => by simp [capnpref21_Words.j1] at h, fun _ _ _ _ _ r h => by simp [capnpref21_Words.l1] at h⟩
 | k + 1 => by
  obtain ⟨ih0, ih1, ih2⟩ := capnpref21_Words.mono_l k
  refine ⟨?_, ?_, ?_⟩
  ·intro y0 y1 y2
   unfold capnpref21_Words.l0
   repeat' first
   | (with_reducible exact ih0 _ _ _)
   | (with_reducible exact ih1 _ _ _ _ _)
   | (with_reducible exact ih2 _ _ _ _ _)
   | (with_reducible exact capnpref01_Bytes.mono _ _)
   | (with_reducible exact capnpref20_Bytes.mono _ _)
   | (with_reducible exact capnpref20_Dense.mono _ _)
   | (with_reducible exact capnpref20_Of.mono _ _)
   | (with_reducible exact LeO.refl _)
   | (with_reducible exact LeO.none _)
   | (with_reducible refine LeO.ite ?_ ?_)
   | (with_reducible refine LeO.bind ?_ (fun _ => ?_))
   | exact ih0 _ _ _
   | exact ih1 _ _ _ _ _
   | exact ih2 _ _ _ _ _
   | exact capnpref01_Bytes.mono _ _
   | exact capnpref20_Bytes.mono _ _
   | exact capnpref20_Dense.mono _ _
   | exact capnpref20_Of.mono _ _
   | exact LeO.none _
   | refine LeO.ite ?_ ?_
   | refine LeO.bind ?_ (fun _ => ?_)
  ·intro y0 y1 y2 y3 y4
   unfold capnpref21_Words.j1
   repeat' first
   | (with_reducible exact ih0 _ _ _)
   | (with_reducible exact ih1 _ _ _ _ _)
   | (with_reducible exact ih2 _ _ _ _ _)
   | (with_reducible exact capnpref01_Bytes.mono _ _)
   | (with_reducible exact capnpref20_Bytes.mono _ _)
   | (with_reducible exact capnpref20_Dense.mono _ _)
   | (with_reducible exact capnpref20_Of.mono _ _)
   | (with_reducible exact LeO.refl _)
   | (with_reducible exact LeO.none _)
   | (with_reducible refine LeO.ite ?_ ?_)
   | (with_reducible refine LeO.bind ?_ (fun _ => ?_))
   | exact ih0 _ _ _
   | exact ih1 _ _ _ _ _
   | exact ih2 _ _ _ _ _
   | exact capnpref01_Bytes.mono _ _
   | exact capnpref20_Bytes.mono _ _
   | exact capnpref20_Dense.mono _ _
   | exact capnpref20_Of.mono _ _
   | exact LeO.none _
   | refine LeO.ite ?_ ?_
   | refine LeO.bind ?_ (fun _ => ?_)
  ·intro y0 y1 y2 y3 y4
   unfold capnpref21_Words.l1
   repeat' first
   | (with_reducible exact ih0 _ _ _)
   | (with_reducible exact ih1 _ _ _ _ _)
   | (with_reducible exact ih2 _ _ _ _ _)
   | (with_reducible exact capnpref01_Bytes.mono _ _)
   | (with_reducible exact capnpref20_Bytes.mono _ _)
   | (with_reducible exact capnpref20_Dense.mono _ _)
   | (with_reducible exact capnpref20_Of.mono _ _)
   | (with_reducible exact LeO.refl _)
   | (with_reducible exact LeO.none _)
   | (with_reducible refine LeO.ite ?_ ?_)
   | (with_reducible refine LeO.bind ?_ (fun _ => ?_))
   | exact ih0 _ _ _
   | exact ih1 _ _ _ _ _
   | exact ih2 _ _ _ _ _
   | exact capnpref01_Bytes.mono _ _
   | exact capnpref20_Bytes.mono _ _
   | exact capnpref20_Dense.mono _ _
   | exact capnpref20_Of.mono _ _
   | exact LeO.none _
   | refine LeO.ite ?_ ?_
   | refine LeO.bind ?_ (fun _ => ?_)
theorem capnpref21_Words.mono : ∀ a0 k, LeO (capnpref21_Words.f k a0) (capnpref21_Words.f (k + 1) a0) := by
 intro a0 k
 obtain ⟨ih0, ih1, ih2⟩ := capnpref21_Words.mono_l k
 unfold capnpref21_Words.f
 repeat' first
   | (with_reducible exact ih0 _ _ _)
   | (with_reducible exact ih1 _ _ _ _ _)
   | (with_reducible exact ih2 _ _ _ _ _)
   | (with_reducible exact capnpref01_Bytes.mono _ _)
   | (with_reducible exact capnpref20_Bytes.mono _ _)
   | (with_reducible exact capnpref20_Dense.mono _ _)
   | (with_reducible exact capnpref20_Of.mono _ _)
   | (with_reducible exact LeO.refl _)
   | (with_reducible exact LeO.none _)
   | (with_reducible refine LeO.ite ?_ ?_)
   | (with_reducible refine LeO.bind ?_ (fun _ => ?_))
   | exact ih0 _ _ _
   | exact ih1 _ _ _ _ _
   | exact ih2 _ _ _ _ _
   | exact capnpref01_Bytes.mono _ _
   | exact capnpref20_Bytes.mono _ _
   | exact capnpref20_Dense.mono _ _
   | exact capnpref20_Of.mono _ _
   | exact LeO.none _
   | refine LeO.ite ?_ ?_
   | refine LeO.bind ?_ (fun _ => ?_)
set_option maxHeartbeats 8000000 in
set_option maxRecDepth 100000 in
theorem capnpref21_Words.calls (k : Nat) (A0 : Option Addr) (c0 : Nat) (l0 : List Int) (r : List Int) (w : World) (hr0 : Kd.C (Kd.int .u64) w A0 l0.length l0) (hc0 : l0.length ≤ c0) (h : capnpref21_Words.f k l0 = some r) :
  Calls Tryd.prog 20 #[.slice A0 l0.length c0] w fun e w' => ∃ v0_ : Value, e = .returned (v0_) ∧ Kd.R (Kd.int .u8) 5 w' w.heap.size (fun _ => True) v0_ r ∧ Below w.heap.size w w' := by
 have HR0 := Aside0.mk hr0
 have HC0 := Aside0.mk hc0
 clear hr0 hc0
 have HB := Aside0.mk (Below.refl w.heap.size w)
 have H : (capnpref21_Words.l0 k l0 ([] : List Int) 0) = some r := h
 clear h
 have H' := Aside0.mk H
 clear H
 go_enter Tryd.func20, Tryd.ntmps20
 go_wp2
 go_loopg [3, 4] k (fun kq v3 v4 w' => ∃ (x3_1 : List Int) (x4_1 : Int), v4 = .int .i64 x4_1 ∧ Aside0 (capnpref21_Words.l0 kq l0 x3_1 x4_1 = some r) ∧ Aside0 (kq ≤ k) ∧ Aside0 (Kd.R (Kd.int .u8) 5 w' w.heap.size (fun _ => True) v3 x3_1) ∧ Aside0 (Below w.heap.size w w'))
 case atStart => exact ⟨(([] : List Int)), (0), (by first | rfl | (simp; done) | (simp [*]; done)), H', ⟨Nat.le_refl _⟩, ⟨by first | exact Kd.R_nil _ _ _ _ _ | exact Kd.N_nil _ _ _ _ _ | exact Kd.V_nil _ _ _ _ _ | exact Kd.Q_nil _ _ _ _ _ | exact Kd.S_nil _ _ _ _ _⟩, ⟨pB⟩⟩
 case round =>
  clear H'
  obtain ⟨x3_1, x4_1, rfl, HA, HK1, HO_3, HB⟩ := hrel
  cases gk with
  | zero => exact absurd HA.out (by simp [capnpref21_Words.l0])
  | succ k1 =>
   have H := HA.out
   clear HA
   simp only [capnpref21_Words.l0] at H
   by_cases c2 : x4_1 < (l0.length : Int)
   ·rw [if_pos c2] at H
    have c2b0 : decide (x4_1 < (l0.length : Int)) = true := decide_eq_true c2
    clear c2
    by_cases c3 : 0 ≤ x4_1
    ·rw [if_pos c3] at H
     have c3b0 : decide (0 ≤ x4_1) = true := decide_eq_true c3
     clear c3
     replace H := Option.bind_eq_some_iff.mp H
     obtain ⟨t353, A40, H⟩ := H
     replace H : (if x3_1.length < 140737488355328 then ((some (x3_1 ++ [t353] : List Int)).bind fun y354 => ((capnpref20_Bytes.f k1 (rd l0 x4_1)).bind fun t357 => (if y354.length + t357.length < 140737488355328 then ((some (y354 ++ t357 : List Int)).bind fun y360 => (if t353 = 0 then (capnpref21_Words.j1 k1 l0 y360 (wrap64 (x4_1 + 1)) t353 false) else (capnpref21_Words.j1 k1 l0 y360 (wrap64 (x4_1 + 1)) t353 (t353 != 255)))) else (none)))) else (none)) = some r := H
     have A4 := Aside0.mk A40
     clear A40
     by_cases c5 : x3_1.length < 140737488355328
     ·rw [if_pos c5] at H
      have LMc5 := Aside0.mk c5
      clear c5
      obtain ⟨y354, hy354⟩ : ∃ y_ : List Int, y_ = (x3_1 ++ [t353]) := ⟨_, rfl⟩
      replace H : ((capnpref20_Bytes.f k1 (rd l0 x4_1)).bind fun t357 => (if y354.length + t357.length < 140737488355328 then ((some (y354 ++ t357 : List Int)).bind fun y360 => (if t353 = 0 then (capnpref21_Words.j1 k1 l0 y360 (wrap64 (x4_1 + 1)) t353 false) else (capnpref21_Words.j1 k1 l0 y360 (wrap64 (x4_1 + 1)) t353 (t353 != 255)))) else (none))) = some r := by first | (rw [hy354]; with_reducible exact H) | (have H2_ := (Option.bind_some _ _).symm.trans H; rw [hy354]; with_reducible exact H2_) | (have H2_ := (Option.bind_some _ _).symm.trans H; with_reducible exact H2_) | with_reducible exact H | (rw [hy354]; exact H) | exact H
      have Ny354 := Aside0.mk hy354
      clear hy354
      replace H := Option.bind_eq_some_iff.mp H
      obtain ⟨t357, A60, H⟩ := H
      replace H : (if y354.length + t357.length < 140737488355328 then ((some (y354 ++ t357 : List Int)).bind fun y360 => (if t353 = 0 then (capnpref21_Words.j1 k1 l0 y360 (wrap64 (x4_1 + 1)) t353 false) else (capnpref21_Words.j1 k1 l0 y360 (wrap64 (x4_1 + 1)) t353 (t353 != 255)))) else (none)) = some r := H
      have A6 := Aside0.mk A60
      clear A60
      by_cases c7 : y354.length + t357.length < 140737488355328
      ·rw [if_pos c7] at H
       have LMc7 := Aside0.mk c7
       clear c7
       obtain ⟨y360, hy360⟩ : ∃ y_ : List Int, y_ = (y354 ++ t357) := ⟨_, rfl⟩
       replace H : (if t353 = 0 then (capnpref21_Words.j1 k1 l0 y360 (wrap64 (x4_1 + 1)) t353 false) else (capnpref21_Words.j1 k1 l0 y360 (wrap64 (x4_1 + 1)) t353 (t353 != 255))) = some r := by first | (rw [hy360]; with_reducible exact H) | (have H2_ := (Option.bind_some _ _).symm.trans H; rw [hy360]; with_reducible exact H2_) | (have H2_ := (Option.bind_some _ _).symm.trans H; with_reducible exact H2_) | with_reducible exact H | (rw [hy360]; exact H) | exact H
       have Ny360 := Aside0.mk hy360
       clear hy360
       have HC8 := Aside0.mk H
       clear H
       have p352 : 0 ≤ (x4_1 : Int) := of_decide_eq_true pA
       have q352 : x4_1 < (l0.length : Int) := of_decide_eq_true pA
       obtain ⟨ad352, e352, hx352_0⟩ := Kd.at_int HR0.out x4_1 p352 q352
       cases e352
       replace hx352_0 := (HB.out.cell (World.block_lt_of_cell? w _ hx352_0)).trans hx352_0
       replace p352 := eq_true p352
       replace q352 := eq_true q352
       go_upto_region 9 with (first | ((with_reducible refine gate_callee (f := 24) rfl ?_); refine goesL_ (some 17) rfl rfl Tryd.func24 (by kernel_rfl) rfl #[.int .u64 (rd l0 x4_1)] rfl pM ?_; (with_reducible refine (capnpref20_Of.calls k1 (rd l0 x4_1) t353 _ A4.out).mono ?_); rintro e w9 ⟨rfl, hb⟩; refine ⟨_, rfl, ?_⟩; have n0_ := Aside0.mk (Kd.R_below (pR HO_3) hb); have n1_ := Aside0.mk (below_step pB hb); clear HO_3; clear HB; have HO_3 := n0_; have HB := n1_; clear n0_ n1_; (try clear hb); (try clear hb2); (try clear hk); (try clear hi)) | ((with_reducible refine gate_builtin (b := .append) (xs := #[.tmp 18, .tmp 20]) rfl ?_); at_builtin; refine Kd.R_append (Kd.int .u8) (w0 := w) w.heap.size rfl (.tmp 18) (.tmp 20) 22 5 (.int .u8 0) 1 rfl Tryd.underlying22 info5 rfl (by decide) (by omega) u3 x3_1 t353 [.int .u8 t353] (fun _ => True) (fun _ => False) rfl rfl ?aP (fun _ hk => hk.elim) ?aF ?aO ?aB ?aS ?aL ?_; (case aP => exact rfl); (case aB => exact pB); (case aF => exact (fun _ _ => trivial)); (case aO => exact (pR HO_3)); (case aS => exact (below_size pB)); (case aL => have := LMc5.out; omega); intro v355 w10 ho hb hg hat; rw [← Ny354.out] at ho; have n0_ := Aside0.mk (hb); have n1_ := Aside0.mk (ho); clear HB; clear HO_3; have HB := n0_; have HO356 := n1_; clear n0_ n1_; clear ho hb hg hat) | ((with_reducible refine gate_callee (f := 37) rfl ?_); refine goesL_ (some 24) rfl rfl Tryd.func37 (by kernel_rfl) rfl #[.int .u64 (rd l0 x4_1)] rfl pM ?_; (with_reducible refine (capnpref20_Bytes.calls k1 (rd l0 x4_1) t357 _ A6.out).mono ?_); rintro e w11 ⟨v358, rfl, ho0, hb⟩; refine ⟨_, rfl, ?_⟩; have n0_ := Aside0.mk (Kd.R_elder' (pR HO356) (Kd.R_base ho0) hb); have n1_ := Aside0.mk (Kd.R_lower (Kd.R_new' ho0 (Kd.R_lt (pR HO356))) (below_size pB)); have n2_ := Aside0.mk (below_step pB hb); clear HO356; clear HB; have HO356 := n0_; have HO359 := n1_; have HB := n2_; clear n0_ n1_ n2_; (try clear hb); (try clear hb2); (try clear hk); (try clear hi); (try clear ho0); obtain ⟨Ao13, co13, eo13⟩ := Kd.R_slice HO359.out; subst eo13) | ((with_reducible refine gate_builtin (b := .append) (xs := #[.tmp 22, .tmp 24]) rfl ?_); at_builtin; refine Kd.R_append_rows (Kd.int .u8) (w0 := w) w.heap.size rfl (.tmp 22) (.tmp 24) 22 5 (.int .u8 0) 1 rfl Tryd.underlying22 info5 rfl (by decide) (by omega) v355 y354 t357 _ _ _ (fun k_ => some k_ ≠ (.slice Ao13 t357.length co13 : Value).ownBlock) (fun _ => False) rfl rfl ?aO ?aR (fun _ _ h => h) (fun _ h => h.elim) ?aF ?aB ?aS ?aL ?_; (case aR => repeat (first | exact (Kd.R_reads' HO359.out).2.2 | (with_reducible refine Kd.C_alloc ?_ _) | (with_reducible refine Kd.C_drewN ?_ _) | (with_reducible refine Kd.C_drew ?_))); (case aB => exact pB); (case aF => exact (fun k_ hk => Kd.fresh' (Kd.R_lt (pR HO359)) k_ hk)); (case aO => exact (by (with_reducible repeat (first | apply Kd.R_alloc | apply Kd.R_drewN | apply Kd.R_drew)); exact Kd.R_mono HO356.out (fun _ hk => hk.2))); (case aS => exact (below_size pB)); (case aL => have := LMc7.out; omega); intro v361 w12 ho hb hg hat; rw [← Ny360.out] at ho; have n0_ := Aside0.mk (Kd.R_after (ok := (fun _ => True)) (pR HO359) hg hat); have n1_ := Aside0.mk (hb); have n2_ := Aside0.mk (ho); clear HO359; clear HB; clear HO356; have HO359 := n0_; have HB := n1_; have HO362 := n2_; clear n0_ n1_ n2_; clear ho hb hg hat))
       (try simp only [Act.put, List.setIfInBounds_toArray, List.set_cons_zero, List.set_cons_succ])
       go_cut [33] (fun v33 wc => ∃ (kq : Nat) (x33_7 : Bool), v33 = .bool x33_7 ∧ Aside0 (capnpref21_Words.j1 kq l0 y360 (wrap64 (x4_1 + 1)) t353 x33_7 = some r) ∧ Aside0 (kq ≤ k1) ∧ Aside0 (Kd.R (Kd.int .u8) 5 wc w.heap.size (fun _ => True) v361 y360) ∧ Aside0 (Below w.heap.size w wc))
       case first =>
        have H := HC8.out
        clear HC8
        by_cases c14 : t353 = 0
        ·rw [if_pos c14] at H
         have c14b0 : (t353 == 0) = true := beq_iff_eq.mpr c14
         have c14b1 : (t353 != 0) = false := bne_eq_false_iff_eq.mpr c14
         clear c14
         (first | rw [c14b0] | (simp only [i64_w, i32_w]; rw [c14b0]) | skip)
         have H' := Aside0.mk H
         clear H
         go_wp2
         go_meet
         case rel => exact ⟨_, (false), (by first | rfl | (simp; done) | (simp [*]; done)), H', ⟨by have := HK1.out; first | omega | exact Nat.le_refl _⟩, ⟨by (with_reducible repeat (first | apply Kd.R_alloc | apply Kd.R_drewN | apply Kd.R_drew)); exact Kd.R_mono HO362.out (fun _ hk => trivial)⟩, ⟨pB⟩⟩
        ·rw [if_neg c14] at H
         have c14b0 : (t353 == 0) = false := beq_eq_false_iff_ne.mpr c14
         have c14b1 : (t353 != 0) = true := bne_iff_ne.mpr c14
         (first | rw [c14b0] | (simp only [i64_w, i32_w]; rw [c14b0]) | skip)
         have H' := Aside0.mk H
         clear H
         go_wp2
         go_meet
         case rel => exact ⟨_, ((t353 != 255)), (by first | rfl | (simp; done) | (simp [*]; done)), H', ⟨by have := HK1.out; first | omega | exact Nat.le_refl _⟩, ⟨by (with_reducible repeat (first | apply Kd.R_alloc | apply Kd.R_drewN | apply Kd.R_drew)); exact Kd.R_mono HO362.out (fun _ hk => trivial)⟩, ⟨pB⟩⟩
       case rest =>
        clear HC8
        try clear c1
        try clear c2
        try clear c2b0
        try clear p2
        try clear c3
        try clear c3b0
        try clear p3
        try clear q3
        try clear hx3
        try clear c5
        try clear p6
        try clear c7
        try clear c14
        try clear c14b0
        try clear c14b1
        try clear hx352_0
        try clear p352
        try clear q352
        obtain ⟨kq, x33_7, rfl, HA, HJ7, HO_3, HB⟩ := hcut
        cases kq with
        | zero => exact absurd HA.out (by simp [capnpref21_Words.j1])
        | succ kj7 =>
         have H := HA.out
         clear HA
         simp only [capnpref21_Words.j1] at H
         by_cases c15 : x33_7 = true
         ·subst c15
          have H1 : (capnpref21_Words.l0 kj7 l0 y360 (wrap64 (x4_1 + 1))) = some r := by rw [if_pos rfl] at H; exact H
          clear H
          have H := H1
          clear H1
          have H' := Aside0.mk H
          clear H
          go_wp2
          go_roundg kj7
          case measure => have := HK1.out; have := HJ7.out; omega
          case rel => exact ⟨(y360), ((wrap64 (x4_1 + 1))), (by first | rfl | (simp; done) | (simp [*]; done)), H', ⟨by have := HK1.out; have := HJ7.out; omega⟩, ⟨pR HO_3⟩, ⟨pB⟩⟩
         ·replace c15 := Bool.eq_false_iff.mpr c15
          subst c15
          have H1 : (capnpref21_Words.l1 kj7 l0 y360 (wrap64 (x4_1 + 1)) t353 0) = some r := by rw [if_neg (show ¬ (false = true) by decide)] at H; exact H
          clear H
          have H := H1
          clear H1
          have H' := Aside0.mk H
          clear H
          go_wp2
          go_loopg [7] kj7 (fun kq v7 w' => ∃ (x7_3 : Int), v7 = .int .i64 x7_3 ∧ Aside0 (capnpref21_Words.l1 kq l0 y360 (wrap64 (x4_1 + 1)) t353 x7_3 = some r) ∧ Aside0 (kq ≤ kj7) ∧ Aside0 (Kd.R (Kd.int .u8) 5 w' w.heap.size (fun _ => True) v361 y360) ∧ Aside0 (Below w.heap.size w w'))
          case atStart => exact ⟨(0), (by first | rfl | (simp; done) | (simp [*]; done)), H', ⟨Nat.le_refl _⟩, ⟨pR HO_3⟩, ⟨pB⟩⟩
          case round =>
           clear H'
           try clear c1
           try clear c2
           try clear c2b0
           try clear p2
           try clear c3
           try clear c3b0
           try clear p3
           try clear q3
           try clear hx3
           try clear c5
           try clear p6
           try clear c7
           try clear c14
           try clear c14b0
           try clear c14b1
           try clear c15
           try clear hx352_0
           try clear p2
           try clear p3
           try clear p352
           try clear p6
           try clear q3
           try clear q352
           obtain ⟨x7_3, rfl, HA, HK3, HO_3, HB⟩ := hrel
           cases gk with
           | zero => exact absurd HA.out (by simp [capnpref21_Words.l1])
           | succ k3 =>
            have H := HA.out
            clear HA
            simp only [capnpref21_Words.l1] at H
            by_cases c16 : (wrap64 ((wrap64 (x4_1 + 1)) + x7_3)) < (l0.length : Int)
            ·rw [if_pos c16] at H
             have c16b0 : decide ((wrap64 ((wrap64 (x4_1 + 1)) + x7_3)) < (l0.length : Int)) = true := decide_eq_true c16
             clear c16
             by_cases c17 : x7_3 < 255
             ·rw [if_pos c17] at H
              have c17b0 : decide (x7_3 < 255) = true := decide_eq_true c17
              clear c17
              by_cases c18 : t353 = 0
              ·rw [if_pos c18] at H
               have c18b0 : (t353 == 0) = true := beq_iff_eq.mpr c18
               have c18b1 : (t353 != 0) = false := bne_eq_false_iff_eq.mpr c18
               clear c18
               obtain ⟨ji19, hji19⟩ : ∃ j_ : Int, (wrap64 ((wrap64 (x4_1 + 1)) + x7_3)) = j_ := ⟨_, rfl⟩
               replace H : (if 0 ≤ (ji19) then (if (rd l0 (ji19)) = 0 then (capnpref21_Words.l1 k3 l0 y360 (wrap64 (x4_1 + 1)) t353 (wrap64 (x7_3 + 1))) else (if t353 = 255 then ((capnpref20_Dense.f k3 (rd l0 (ji19))).bind fun t365 => (if t365 = true then (capnpref21_Words.l1 k3 l0 y360 (wrap64 (x4_1 + 1)) t353 (wrap64 (x7_3 + 1))) else (if y360.length < 140737488355328 then ((some (y360 ++ [(x7_3) % 256] : List Int)).bind fun y366 => (if 0 ≤ (wrap64 (x4_1 + 1)) then (if (wrap64 (x4_1 + 1)) ≤ (ji19) then (if (ji19) ≤ (l0.length : Int) then ((capnpref01_Bytes.f k3 ((l0.take ((ji19) : Int).toNat).drop ((wrap64 (x4_1 + 1)) : Int).toNat)).bind fun t370 => (if y366.length + t370.length < 140737488355328 then (capnpref21_Words.l0 k3 l0 (y366 ++ t370) ji19) else (none))) else (none)) else (none)) else (none))) else (none)))) else (if y360.length < 140737488355328 then (capnpref21_Words.l0 k3 l0 (y360 ++ [(x7_3) % 256]) ji19) else (none)))) else (none)) = some r := by first | (rw [hji19] at H; exact H) | (simp only [hji19] at H ⊢; exact H)
               (try rw [hji19] at c16b0)
               have hji19w : (IntKind.i64.wrap ((wrap64 (x4_1 + 1)) + x7_3)) = ji19 := (i64_w _).trans hji19
               by_cases c20 : 0 ≤ (ji19)
               ·rw [if_pos c20] at H
                have c20b0 : decide (0 ≤ (ji19)) = true := decide_eq_true c20
                clear c20
                by_cases c21 : (rd l0 (ji19)) = 0
                ·rw [if_pos c21] at H
                 have c21b0 : ((rd l0 (ji19)) == 0) = true := beq_iff_eq.mpr c21
                 have c21b1 : ((rd l0 (ji19)) != 0) = false := bne_eq_false_iff_eq.mpr c21
                 clear c21
                 have H' := Aside0.mk H
                 clear H
                 have p363 : 0 ≤ ((ji19) : Int) := of_decide_eq_true pA
                 have q363 : (ji19) < (l0.length : Int) := of_decide_eq_true pA
                 obtain ⟨ad363, e363, hx363_0⟩ := Kd.at_int HR0.out (ji19) p363 q363
                 obtain rfl : ad352 = ad363 := (by injection e363)
                 replace hx363_0 := (HB.out.cell (World.block_lt_of_cell? w _ hx363_0)).trans hx363_0
                 replace p363 := eq_true p363
                 replace q363 := eq_true q363
                 go_wp2
                 (first | go_roundg k3 | ((try subst hji19); go_roundg k3))
                 case measure => have := HK1.out; have := HJ7.out; have := HK3.out; omega
                 case rel => exact ⟨(wrap64 (x7_3 + 1)), (by first | rfl | (simp; done) | (simp [*]; done)), H', ⟨by have := HK1.out; have := HJ7.out; have := HK3.out; omega⟩, ⟨pR HO_3⟩, ⟨pB⟩⟩
                ·rw [if_neg c21] at H
                 have c21b0 : ((rd l0 (ji19)) == 0) = false := beq_eq_false_iff_ne.mpr c21
                 have c21b1 : ((rd l0 (ji19)) != 0) = true := bne_iff_ne.mpr c21
                 by_cases c22 : t353 = 255
                 ·rw [if_pos c22] at H
                  have c22b0 : (t353 == 255) = true := beq_iff_eq.mpr c22
                  have c22b1 : (t353 != 255) = false := bne_eq_false_iff_eq.mpr c22
                  clear c22
                  replace H := Option.bind_eq_some_iff.mp H
                  obtain ⟨t365, A230, H⟩ := H
                  replace H : (if t365 = true then (capnpref21_Words.l1 k3 l0 y360 (wrap64 (x4_1 + 1)) t353 (wrap64 (x7_3 + 1))) else (if y360.length < 140737488355328 then ((some (y360 ++ [(x7_3) % 256] : List Int)).bind fun y366 => (if 0 ≤ (wrap64 (x4_1 + 1)) then (if (wrap64 (x4_1 + 1)) ≤ (ji19) then (if (ji19) ≤ (l0.length : Int) then ((capnpref01_Bytes.f k3 ((l0.take ((ji19) : Int).toNat).drop ((wrap64 (x4_1 + 1)) : Int).toNat)).bind fun t370 => (if y366.length + t370.length < 140737488355328 then (capnpref21_Words.l0 k3 l0 (y366 ++ t370) ji19) else (none))) else (none)) else (none)) else (none))) else (none))) = some r := H
                  have A23 := Aside0.mk A230
                  clear A230
                  by_cases c24 : t365 = true
                  ·subst c24
                   have H1 : (capnpref21_Words.l1 k3 l0 y360 (wrap64 (x4_1 + 1)) t353 (wrap64 (x7_3 + 1))) = some r := by rw [if_pos rfl] at H; exact H
                   clear H
                   have H := H1
                   clear H1
                   have H' := Aside0.mk H
                   clear H
                   have p363 : 0 ≤ ((ji19) : Int) := of_decide_eq_true pA
                   have q363 : (ji19) < (l0.length : Int) := of_decide_eq_true pA
                   obtain ⟨ad363, e363, hx363_0⟩ := Kd.at_int HR0.out (ji19) p363 q363
                   obtain rfl : ad352 = ad363 := (by injection e363)
                   replace hx363_0 := (HB.out.cell (World.block_lt_of_cell? w _ hx363_0)).trans hx363_0
                   replace p363 := eq_true p363
                   replace q363 := eq_true q363
                   have p364 : 0 ≤ ((ji19) : Int) := of_decide_eq_true pA
                   have q364 : (ji19) < (l0.length : Int) := of_decide_eq_true pA
                   obtain ⟨ad364, e364, hx364_0⟩ := Kd.at_int HR0.out (ji19) p364 q364
                   obtain rfl : ad352 = ad364 := (by injection e364)
                   replace hx364_0 := (HB.out.cell (World.block_lt_of_cell? w _ hx364_0)).trans hx364_0
                   replace p364 := eq_true p364
                   replace q364 := eq_true q364
                   go_wp2_with (first | (go_at_call 25; (with_reducible refine (capnpref20_Dense.calls k3 (rd l0 (ji19)) true _ A23.out).mono ?_); rintro e w25 ⟨rfl, hb⟩; have n0_ := Aside0.mk (Kd.R_below (pR HO_3) hb); have n1_ := Aside0.mk (below_step pB hb); clear HO_3; clear HB; have HO_3 := n0_; have HB := n1_; clear n0_ n1_; (try clear hb); (try clear hb2); (try clear hk); (try clear hi)))
                   (first | go_roundg k3 | ((try subst hji19); go_roundg k3))
                   case measure => have := HK1.out; have := HJ7.out; have := HK3.out; omega
                   case rel => exact ⟨(wrap64 (x7_3 + 1)), (by first | rfl | (simp; done) | (simp [*]; done)), H', ⟨by have := HK1.out; have := HJ7.out; have := HK3.out; omega⟩, ⟨pR HO_3⟩, ⟨pB⟩⟩
                  ·replace c24 := Bool.eq_false_iff.mpr c24
                   subst c24
                   have H1 : (if y360.length < 140737488355328 then ((some (y360 ++ [(x7_3) % 256] : List Int)).bind fun y366 => (if 0 ≤ (wrap64 (x4_1 + 1)) then (if (wrap64 (x4_1 + 1)) ≤ (ji19) then (if (ji19) ≤ (l0.length : Int) then ((capnpref01_Bytes.f k3 ((l0.take ((ji19) : Int).toNat).drop ((wrap64 (x4_1 + 1)) : Int).toNat)).bind fun t370 => (if y366.length + t370.length < 140737488355328 then (capnpref21_Words.l0 k3 l0 (y366 ++ t370) ji19) else (none))) else (none)) else (none)) else (none))) else (none)) = some r := by rw [if_neg (show ¬ (false = true) by decide)] at H; exact H
                   clear H
                   have H := H1
                   clear H1
                   by_cases c26 : y360.length < 140737488355328
                   ·rw [if_pos c26] at H
                    have LMc26 := Aside0.mk c26
                    clear c26
                    obtain ⟨y366, hy366⟩ : ∃ y_ : List Int, y_ = (y360 ++ [(x7_3) % 256]) := ⟨_, rfl⟩
                    replace H : (if 0 ≤ (wrap64 (x4_1 + 1)) then (if (wrap64 (x4_1 + 1)) ≤ (ji19) then (if (ji19) ≤ (l0.length : Int) then ((capnpref01_Bytes.f k3 ((l0.take ((ji19) : Int).toNat).drop ((wrap64 (x4_1 + 1)) : Int).toNat)).bind fun t370 => (if y366.length + t370.length < 140737488355328 then (capnpref21_Words.l0 k3 l0 (y366 ++ t370) ji19) else (none))) else (none)) else (none)) else (none)) = some r := by first | (rw [hy366]; with_reducible exact H) | (have H2_ := (Option.bind_some _ _).symm.trans H; rw [hy366]; with_reducible exact H2_) | (have H2_ := (Option.bind_some _ _).symm.trans H; with_reducible exact H2_) | with_reducible exact H | (rw [hy366]; exact H) | exact H
                    have Ny366 := Aside0.mk hy366
                    clear hy366
                    obtain ⟨ji27, hji27⟩ : ∃ j_ : Int, (wrap64 (x4_1 + 1)) = j_ := ⟨_, rfl⟩
                    replace H : (if 0 ≤ (ji27) then (if (ji27) ≤ (ji19) then (if (ji19) ≤ (l0.length : Int) then ((capnpref01_Bytes.f k3 ((l0.take ((ji19) : Int).toNat).drop ((ji27) : Int).toNat)).bind fun t370 => (if y366.length + t370.length < 140737488355328 then (capnpref21_Words.l0 k3 l0 (y366 ++ t370) ji19) else (none))) else (none)) else (none)) else (none)) = some r := by first | (rw [hji27] at H; exact H) | (simp only [hji27] at H ⊢; exact H)
                    (try rw [hji27] at c16b0)
                    (try rw [hji27] at A23)
                    have hji27w : (IntKind.i64.wrap (x4_1 + 1)) = ji27 := (i64_w _).trans hji27
                    (try simp only [hji27] at hji19)
                    (try simp only [hji27] at hji19w)
                    by_cases c28 : 0 ≤ (ji27)
                    ·rw [if_pos c28] at H
                     have c28b0 := eq_true c28
                     have c28b1 : decide (0 ≤ (ji27)) = true := decide_eq_true c28
                     clear c28
                     by_cases c29 : (ji27) ≤ (ji19)
                     ·rw [if_pos c29] at H
                      have c29b0 := eq_true c29
                      have c29b1 : decide ((ji27) ≤ (ji19)) = true := decide_eq_true c29
                      clear c29
                      by_cases c30 : (ji19) ≤ (l0.length : Int)
                      ·rw [if_pos c30] at H
                       have c30b0 := eq_true c30
                       have c30b1 : decide ((ji19) ≤ (l0.length : Int)) = true := decide_eq_true c30
                       clear c30
                       replace H := Option.bind_eq_some_iff.mp H
                       obtain ⟨t370, A310, H⟩ := H
                       replace H : (if y366.length + t370.length < 140737488355328 then (capnpref21_Words.l0 k3 l0 (y366 ++ t370) ji19) else (none)) = some r := H
                       have A31 := Aside0.mk A310
                       clear A310
                       by_cases c32 : y366.length + t370.length < 140737488355328
                       ·rw [if_pos c32] at H
                        have LMc32 := Aside0.mk c32
                        clear c32
                        obtain ⟨y373, hy373⟩ : ∃ y_ : List Int, y_ = (y366 ++ t370) := ⟨_, rfl⟩
                        replace H : (capnpref21_Words.l0 k3 l0 y373 ji19) = some r := by first | (rw [hy373]; with_reducible exact H) | (have H2_ := (Option.bind_some _ _).symm.trans H; rw [hy373]; with_reducible exact H2_) | (have H2_ := (Option.bind_some _ _).symm.trans H; with_reducible exact H2_) | with_reducible exact H | (rw [hy373]; exact H) | exact H
                        have Ny373 := Aside0.mk hy373
                        clear hy373
                        have H' := Aside0.mk H
                        clear H
                        have p363 : 0 ≤ ((ji19) : Int) := of_decide_eq_true pA
                        have q363 : (ji19) < (l0.length : Int) := of_decide_eq_true pA
                        obtain ⟨ad363, e363, hx363_0⟩ := Kd.at_int HR0.out (ji19) p363 q363
                        obtain rfl : ad352 = ad363 := (by injection e363)
                        replace hx363_0 := (HB.out.cell (World.block_lt_of_cell? w _ hx363_0)).trans hx363_0
                        replace p363 := eq_true p363
                        replace q363 := eq_true q363
                        have p364 : 0 ≤ ((ji19) : Int) := of_decide_eq_true pA
                        have q364 : (ji19) < (l0.length : Int) := of_decide_eq_true pA
                        obtain ⟨ad364, e364, hx364_0⟩ := Kd.at_int HR0.out (ji19) p364 q364
                        obtain rfl : ad352 = ad364 := (by injection e364)
                        replace hx364_0 := (HB.out.cell (World.block_lt_of_cell? w _ hx364_0)).trans hx364_0
                        replace p364 := eq_true p364
                        replace q364 := eq_true q364
                        go_wp2_with (first | (go_at_call 25; (with_reducible refine (capnpref20_Dense.calls k3 (rd l0 (ji19)) false _ A23.out).mono ?_); rintro e w33 ⟨rfl, hb⟩; have n0_ := Aside0.mk (Kd.R_below (pR HO_3) hb); have n1_ := Aside0.mk (below_step pB hb); clear HO_3; clear HB; have HO_3 := n0_; have HB := n1_; clear n0_ n1_; (try clear hb); (try clear hb2); (try clear hk); (try clear hi)) | ((with_reducible refine gate_builtin (b := .append) (xs := #[.tmp 72, .tmp 75]) rfl ?_); at_builtin; refine Kd.R_append (Kd.int .u8) (w0 := w) w.heap.size rfl (.tmp 72) (.tmp 75) 22 5 (.int .u8 0) 1 rfl Tryd.underlying22 info5 rfl (by decide) (by omega) v361 y360 ((x7_3) % 256) [.int .u8 ((x7_3) % 256)] (fun _ => True) (fun _ => False) rfl rfl ?aP (fun _ hk => hk.elim) ?aF ?aO ?aB ?aS ?aL ?_; (case aP => exact rfl); (case aB => exact pB); (case aF => exact (fun _ _ => trivial)); (case aO => exact (pR HO_3)); (case aS => exact (below_size pB)); (case aL => have := LMc26.out; omega); intro v367 w34 ho hb hg hat; rw [← Ny366.out] at ho; have n0_ := Aside0.mk (hb); have n1_ := Aside0.mk (ho); clear HB; clear HO_3; have HB := n0_; have HO368 := n1_; clear n0_ n1_; clear ho hb hg hat; obtain ⟨i035, hi035, _, hsz35, _⟩ := info_parts info37; obtain ⟨A35, hcut35, hA35, hC35⟩ := print_mid_of (P := Tryd.prog) (Value.int .u64) 0 23 37 .i64 .i64 Tryd.underlying23 hi035 hsz35 (some ad352) c0 l0 (ji27) (ji19) (of_decide_eq_true pA) (by first | omega | exact of_decide_eq_true pA) (of_decide_eq_true pA) HC0.out; have HR369 := Aside0.mk (Kd.C_of_reads (h1 := fun _ => rfl) (hA35 _ (Kd.reads_of_C HR0.out))); have HC369 := Aside0.mk hC35; clear hA35 hC35 hi035 hsz35) | ((with_reducible refine gate_callee (f := 23) rfl ?_); refine goesL_ (some 86) rfl rfl Tryd.func23 (by kernel_rfl) rfl #[.slice A35 ((l0.take ((ji19) : Int).toNat).drop ((ji27) : Int).toNat).length (c0 - (ji27).toNat)] rfl (by (try simp only [List.map_toArray, List.map_cons, List.map_nil]); first | done | (rw [show ((l0.take ((ji19) : Int).toNat).drop ((ji27) : Int).toNat).length = ((ji19).toNat - (ji27).toNat) from (by rw [List.length_drop, List.length_take]; have h_ : ((ji19) : Int) ≤ (l0.length : Int) := of_decide_eq_true pA; omega)] <;> rfl) | (simp only [hji19, hji27]; rfl) | rfl | (simp only [List.length_drop, List.length_take]; rfl)) ?_; (with_reducible refine (capnpref01_Bytes.calls k3 _ _ ((l0.take ((ji19) : Int).toNat).drop ((ji27) : Int).toNat) t370 _ ?side1 ?side2 A31.out).mono ?_); (case side1 => repeat (first | exact (Kd.C_below HR369.out HB.out) | (with_reducible refine Kd.C_alloc ?_ _) | (with_reducible refine Kd.C_drewN ?_ _) | (with_reducible refine Kd.C_drew ?_))); (case side2 => exact HC369.out); rintro e w36 ⟨v371, rfl, ho0, hb⟩; refine ⟨_, rfl, ?_⟩; have n0_ := Aside0.mk (Kd.R_elder' (pR HO368) (Kd.R_base ho0) hb); have n1_ := Aside0.mk (Kd.R_lower (Kd.R_new' ho0 (Kd.R_lt (pR HO368))) (below_size pB)); have n2_ := Aside0.mk (below_step pB hb); clear HO368; clear HB; have HO368 := n0_; have HO372 := n1_; have HB := n2_; clear n0_ n1_ n2_; (try clear hb); (try clear hb2); (try clear hk); (try clear hi); (try clear ho0); obtain ⟨Ao38, co38, eo38⟩ := Kd.R_slice HO372.out; subst eo38) | ((with_reducible refine gate_builtin (b := .append) (xs := #[.tmp 79, .tmp 86]) rfl ?_); at_builtin; refine Kd.R_append_rows (Kd.int .u8) (w0 := w) w.heap.size rfl (.tmp 79) (.tmp 86) 22 5 (.int .u8 0) 1 rfl Tryd.underlying22 info5 rfl (by decide) (by omega) v367 y366 t370 _ _ _ (fun k_ => some k_ ≠ (.slice Ao38 t370.length co38 : Value).ownBlock) (fun _ => False) rfl rfl ?aO ?aR (fun _ _ h => h) (fun _ h => h.elim) ?aF ?aB ?aS ?aL ?_; (case aR => repeat (first | exact (Kd.R_reads' HO372.out).2.2 | (with_reducible refine Kd.C_alloc ?_ _) | (with_reducible refine Kd.C_drewN ?_ _) | (with_reducible refine Kd.C_drew ?_))); (case aB => exact pB); (case aF => exact (fun k_ hk => Kd.fresh' (Kd.R_lt (pR HO372)) k_ hk)); (case aO => exact (by (with_reducible repeat (first | apply Kd.R_alloc | apply Kd.R_drewN | apply Kd.R_drew)); exact Kd.R_mono HO368.out (fun _ hk => hk.2))); (case aS => exact (below_size pB)); (case aL => have := LMc32.out; omega); intro v374 w37 ho hb hg hat; rw [← Ny373.out] at ho; have n0_ := Aside0.mk (Kd.R_after (ok := (fun _ => True)) (pR HO372) hg hat); have n1_ := Aside0.mk (hb); have n2_ := Aside0.mk (ho); clear HO372; clear HB; clear HO368; have HO372 := n0_; have HB := n1_; have HO375 := n2_; clear n0_ n1_ n2_; clear ho hb hg hat))
                        (first | go_roundg k3 | ((try subst hji19); (try subst hji27); go_roundg k3))
                        case measure => have := HK1.out; have := HJ7.out; have := HK3.out; omega
                        case rel => exact ⟨(y373), (ji19), (by first | rfl | (simp; done) | (simp only [← hji19] <;> (first | rfl | simp)) | (simp [*]; done)), H', ⟨by have := HK1.out; have := HJ7.out; have := HK3.out; omega⟩, ⟨by (with_reducible repeat (first | apply Kd.R_alloc | apply Kd.R_drewN | apply Kd.R_drew)); exact Kd.R_mono HO375.out (fun _ hk => trivial)⟩, ⟨pB⟩⟩
                       ·rw [if_neg c32] at H
                        exact absurd H (by simp)
                      ·rw [if_neg c30] at H
                       exact absurd H (by simp)
                     ·rw [if_neg c29] at H
                      exact absurd H (by simp)
                    ·rw [if_neg c28] at H
                     exact absurd H (by simp)
                   ·rw [if_neg c26] at H
                    exact absurd H (by simp)
                 ·rw [if_neg c22] at H
                  have c22b0 : (t353 == 255) = false := beq_eq_false_iff_ne.mpr c22
                  have c22b1 : (t353 != 255) = true := bne_iff_ne.mpr c22
                  by_cases c39 : y360.length < 140737488355328
                  ·rw [if_pos c39] at H
                   have LMc39 := Aside0.mk c39
                   clear c39
                   obtain ⟨y376, hy376⟩ : ∃ y_ : List Int, y_ = (y360 ++ [(x7_3) % 256]) := ⟨_, rfl⟩
                   replace H : (capnpref21_Words.l0 k3 l0 y376 ji19) = some r := by first | (rw [hy376]; with_reducible exact H) | (have H2_ := (Option.bind_some _ _).symm.trans H; rw [hy376]; with_reducible exact H2_) | (have H2_ := (Option.bind_some _ _).symm.trans H; with_reducible exact H2_) | with_reducible exact H | (rw [hy376]; exact H) | exact H
                   have Ny376 := Aside0.mk hy376
                   clear hy376
                   have H' := Aside0.mk H
                   clear H
                   have p363 : 0 ≤ ((ji19) : Int) := of_decide_eq_true pA
                   have q363 : (ji19) < (l0.length : Int) := of_decide_eq_true pA
                   obtain ⟨ad363, e363, hx363_0⟩ := Kd.at_int HR0.out (ji19) p363 q363
                   obtain rfl : ad352 = ad363 := (by injection e363)
                   replace hx363_0 := (HB.out.cell (World.block_lt_of_cell? w _ hx363_0)).trans hx363_0
                   replace p363 := eq_true p363
                   replace q363 := eq_true q363
                   go_wp2_with (first | ((with_reducible refine gate_builtin (b := .append) (xs := #[.tmp 72, .tmp 75]) rfl ?_); at_builtin; refine Kd.R_append (Kd.int .u8) (w0 := w) w.heap.size rfl (.tmp 72) (.tmp 75) 22 5 (.int .u8 0) 1 rfl Tryd.underlying22 info5 rfl (by decide) (by omega) v361 y360 ((x7_3) % 256) [.int .u8 ((x7_3) % 256)] (fun _ => True) (fun _ => False) rfl rfl ?aP (fun _ hk => hk.elim) ?aF ?aO ?aB ?aS ?aL ?_; (case aP => exact rfl); (case aB => exact pB); (case aF => exact (fun _ _ => trivial)); (case aO => exact (pR HO_3)); (case aS => exact (below_size pB)); (case aL => have := LMc39.out; omega); intro v377 w40 ho hb hg hat; rw [← Ny376.out] at ho; have n0_ := Aside0.mk (hb); have n1_ := Aside0.mk (ho); clear HB; clear HO_3; have HB := n0_; have HO378 := n1_; clear n0_ n1_; clear ho hb hg hat))
                   (first | go_roundg k3 | ((try subst hji19); go_roundg k3))
                   case measure => have := HK1.out; have := HJ7.out; have := HK3.out; omega
                   case rel => exact ⟨(y376), (ji19), (by first | rfl | (simp; done) | (simp only [← hji19] <;> (first | rfl | simp)) | (simp [*]; done)), H', ⟨by have := HK1.out; have := HJ7.out; have := HK3.out; omega⟩, ⟨pR HO378⟩, ⟨pB⟩⟩
                  ·rw [if_neg c39] at H
                   exact absurd H (by simp)
               ·rw [if_neg c20] at H
                exact absurd H (by simp)
              ·rw [if_neg c18] at H
               have c18b0 : (t353 == 0) = false := beq_eq_false_iff_ne.mpr c18
               have c18b1 : (t353 != 0) = true := bne_iff_ne.mpr c18
               by_cases c41 : t353 = 255
               ·rw [if_pos c41] at H
                have c41b0 : (t353 == 255) = true := beq_iff_eq.mpr c41
                have c41b1 : (t353 != 255) = false := bne_eq_false_iff_eq.mpr c41
                clear c41
                try subst hji19
                obtain ⟨ji42, hji42⟩ : ∃ j_ : Int, (wrap64 ((wrap64 (x4_1 + 1)) + x7_3)) = j_ := ⟨_, rfl⟩
                replace H : (if 0 ≤ (ji42) then ((capnpref20_Dense.f k3 (rd l0 (ji42))).bind fun t380 => (if t380 = true then (capnpref21_Words.l1 k3 l0 y360 (wrap64 (x4_1 + 1)) t353 (wrap64 (x7_3 + 1))) else (if y360.length < 140737488355328 then ((some (y360 ++ [(x7_3) % 256] : List Int)).bind fun y381 => (if 0 ≤ (wrap64 (x4_1 + 1)) then (if (wrap64 (x4_1 + 1)) ≤ (ji42) then (if (ji42) ≤ (l0.length : Int) then ((capnpref01_Bytes.f k3 ((l0.take ((ji42) : Int).toNat).drop ((wrap64 (x4_1 + 1)) : Int).toNat)).bind fun t385 => (if y381.length + t385.length < 140737488355328 then (capnpref21_Words.l0 k3 l0 (y381 ++ t385) ji42) else (none))) else (none)) else (none)) else (none))) else (none)))) else (none)) = some r := by first | (rw [hji42] at H; exact H) | (simp only [hji42] at H ⊢; exact H)
                (try rw [hji42] at c16b0)
                have hji42w : (IntKind.i64.wrap ((wrap64 (x4_1 + 1)) + x7_3)) = ji42 := (i64_w _).trans hji42
                by_cases c43 : 0 ≤ (ji42)
                ·rw [if_pos c43] at H
                 have c43b0 : decide (0 ≤ (ji42)) = true := decide_eq_true c43
                 clear c43
                 replace H := Option.bind_eq_some_iff.mp H
                 obtain ⟨t380, A440, H⟩ := H
                 replace H : (if t380 = true then (capnpref21_Words.l1 k3 l0 y360 (wrap64 (x4_1 + 1)) t353 (wrap64 (x7_3 + 1))) else (if y360.length < 140737488355328 then ((some (y360 ++ [(x7_3) % 256] : List Int)).bind fun y381 => (if 0 ≤ (wrap64 (x4_1 + 1)) then (if (wrap64 (x4_1 + 1)) ≤ (ji42) then (if (ji42) ≤ (l0.length : Int) then ((capnpref01_Bytes.f k3 ((l0.take ((ji42) : Int).toNat).drop ((wrap64 (x4_1 + 1)) : Int).toNat)).bind fun t385 => (if y381.length + t385.length < 140737488355328 then (capnpref21_Words.l0 k3 l0 (y381 ++ t385) ji42) else (none))) else (none)) else (none)) else (none))) else (none))) = some r := H
                 have A44 := Aside0.mk A440
                 clear A440
                 by_cases c45 : t380 = true
                 ·subst c45
                  have H1 : (capnpref21_Words.l1 k3 l0 y360 (wrap64 (x4_1 + 1)) t353 (wrap64 (x7_3 + 1))) = some r := by rw [if_pos rfl] at H; exact H
                  clear H
                  have H := H1
                  clear H1
                  have H' := Aside0.mk H
                  clear H
                  have p379 : 0 ≤ ((ji42) : Int) := of_decide_eq_true pA
                  have q379 : (ji42) < (l0.length : Int) := of_decide_eq_true pA
                  obtain ⟨ad379, e379, hx379_0⟩ := Kd.at_int HR0.out (ji42) p379 q379
                  obtain rfl : ad352 = ad379 := (by injection e379)
                  replace hx379_0 := (HB.out.cell (World.block_lt_of_cell? w _ hx379_0)).trans hx379_0
                  replace p379 := eq_true p379
                  replace q379 := eq_true q379
                  go_wp2_with (first | (go_at_call 25; (with_reducible refine (capnpref20_Dense.calls k3 (rd l0 (ji42)) true _ A44.out).mono ?_); rintro e w46 ⟨rfl, hb⟩; have n0_ := Aside0.mk (Kd.R_below (pR HO_3) hb); have n1_ := Aside0.mk (below_step pB hb); clear HO_3; clear HB; have HO_3 := n0_; have HB := n1_; clear n0_ n1_; (try clear hb); (try clear hb2); (try clear hk); (try clear hi)))
                  (first | go_roundg k3 | ((try subst hji42); go_roundg k3))
                  case measure => have := HK1.out; have := HJ7.out; have := HK3.out; omega
                  case rel => exact ⟨(wrap64 (x7_3 + 1)), (by first | rfl | (simp; done) | (simp [*]; done)), H', ⟨by have := HK1.out; have := HJ7.out; have := HK3.out; omega⟩, ⟨pR HO_3⟩, ⟨pB⟩⟩
                 ·replace c45 := Bool.eq_false_iff.mpr c45
                  subst c45
                  have H1 : (if y360.length < 140737488355328 then ((some (y360 ++ [(x7_3) % 256] : List Int)).bind fun y381 => (if 0 ≤ (wrap64 (x4_1 + 1)) then (if (wrap64 (x4_1 + 1)) ≤ (ji42) then (if (ji42) ≤ (l0.length : Int) then ((capnpref01_Bytes.f k3 ((l0.take ((ji42) : Int).toNat).drop ((wrap64 (x4_1 + 1)) : Int).toNat)).bind fun t385 => (if y381.length + t385.length < 140737488355328 then (capnpref21_Words.l0 k3 l0 (y381 ++ t385) ji42) else (none))) else (none)) else (none)) else (none))) else (none)) = some r := by rw [if_neg (show ¬ (false = true) by decide)] at H; exact H
                  clear H
                  have H := H1
                  clear H1
                  by_cases c47 : y360.length < 140737488355328
                  ·rw [if_pos c47] at H
                   have LMc47 := Aside0.mk c47
                   clear c47
                   obtain ⟨y381, hy381⟩ : ∃ y_ : List Int, y_ = (y360 ++ [(x7_3) % 256]) := ⟨_, rfl⟩
                   replace H : (if 0 ≤ (wrap64 (x4_1 + 1)) then (if (wrap64 (x4_1 + 1)) ≤ (ji42) then (if (ji42) ≤ (l0.length : Int) then ((capnpref01_Bytes.f k3 ((l0.take ((ji42) : Int).toNat).drop ((wrap64 (x4_1 + 1)) : Int).toNat)).bind fun t385 => (if y381.length + t385.length < 140737488355328 then (capnpref21_Words.l0 k3 l0 (y381 ++ t385) ji42) else (none))) else (none)) else (none)) else (none)) = some r := by first | (rw [hy381]; with_reducible exact H) | (have H2_ := (Option.bind_some _ _).symm.trans H; rw [hy381]; with_reducible exact H2_) | (have H2_ := (Option.bind_some _ _).symm.trans H; with_reducible exact H2_) | with_reducible exact H | (rw [hy381]; exact H) | exact H
                   have Ny381 := Aside0.mk hy381
                   clear hy381
                   try subst hji27
                   obtain ⟨ji48, hji48⟩ : ∃ j_ : Int, (wrap64 (x4_1 + 1)) = j_ := ⟨_, rfl⟩
                   replace H : (if 0 ≤ (ji48) then (if (ji48) ≤ (ji42) then (if (ji42) ≤ (l0.length : Int) then ((capnpref01_Bytes.f k3 ((l0.take ((ji42) : Int).toNat).drop ((ji48) : Int).toNat)).bind fun t385 => (if y381.length + t385.length < 140737488355328 then (capnpref21_Words.l0 k3 l0 (y381 ++ t385) ji42) else (none))) else (none)) else (none)) else (none)) = some r := by first | (rw [hji48] at H; exact H) | (simp only [hji48] at H ⊢; exact H)
                   (try rw [hji48] at c16b0)
                   (try rw [hji48] at A44)
                   have hji48w : (IntKind.i64.wrap (x4_1 + 1)) = ji48 := (i64_w _).trans hji48
                   (try simp only [hji48] at hji42)
                   (try simp only [hji48] at hji42w)
                   by_cases c49 : 0 ≤ (ji48)
                   ·rw [if_pos c49] at H
                    have c49b0 := eq_true c49
                    have c49b1 : decide (0 ≤ (ji48)) = true := decide_eq_true c49
                    clear c49
                    by_cases c50 : (ji48) ≤ (ji42)
                    ·rw [if_pos c50] at H
                     have c50b0 := eq_true c50
                     have c50b1 : decide ((ji48) ≤ (ji42)) = true := decide_eq_true c50
                     clear c50
                     by_cases c51 : (ji42) ≤ (l0.length : Int)
                     ·rw [if_pos c51] at H
                      have c51b0 := eq_true c51
                      have c51b1 : decide ((ji42) ≤ (l0.length : Int)) = true := decide_eq_true c51
                      clear c51
                      replace H := Option.bind_eq_some_iff.mp H
                      obtain ⟨t385, A520, H⟩ := H
                      replace H : (if y381.length + t385.length < 140737488355328 then (capnpref21_Words.l0 k3 l0 (y381 ++ t385) ji42) else (none)) = some r := H
                      have A52 := Aside0.mk A520
                      clear A520
                      by_cases c53 : y381.length + t385.length < 140737488355328
                      ·rw [if_pos c53] at H
                       have LMc53 := Aside0.mk c53
                       clear c53
                       obtain ⟨y388, hy388⟩ : ∃ y_ : List Int, y_ = (y381 ++ t385) := ⟨_, rfl⟩
                       replace H : (capnpref21_Words.l0 k3 l0 y388 ji42) = some r := by first | (rw [hy388]; with_reducible exact H) | (have H2_ := (Option.bind_some _ _).symm.trans H; rw [hy388]; with_reducible exact H2_) | (have H2_ := (Option.bind_some _ _).symm.trans H; with_reducible exact H2_) | with_reducible exact H | (rw [hy388]; exact H) | exact H
                       have Ny388 := Aside0.mk hy388
                       clear hy388
                       have H' := Aside0.mk H
                       clear H
                       have p379 : 0 ≤ ((ji42) : Int) := of_decide_eq_true pA
                       have q379 : (ji42) < (l0.length : Int) := of_decide_eq_true pA
                       obtain ⟨ad379, e379, hx379_0⟩ := Kd.at_int HR0.out (ji42) p379 q379
                       obtain rfl : ad352 = ad379 := (by injection e379)
                       replace hx379_0 := (HB.out.cell (World.block_lt_of_cell? w _ hx379_0)).trans hx379_0
                       replace p379 := eq_true p379
                       replace q379 := eq_true q379
                       go_wp2_with (first | (go_at_call 25; (with_reducible refine (capnpref20_Dense.calls k3 (rd l0 (ji42)) false _ A44.out).mono ?_); rintro e w54 ⟨rfl, hb⟩; have n0_ := Aside0.mk (Kd.R_below (pR HO_3) hb); have n1_ := Aside0.mk (below_step pB hb); clear HO_3; clear HB; have HO_3 := n0_; have HB := n1_; clear n0_ n1_; (try clear hb); (try clear hb2); (try clear hk); (try clear hi)) | ((with_reducible refine gate_builtin (b := .append) (xs := #[.tmp 72, .tmp 75]) rfl ?_); at_builtin; refine Kd.R_append (Kd.int .u8) (w0 := w) w.heap.size rfl (.tmp 72) (.tmp 75) 22 5 (.int .u8 0) 1 rfl Tryd.underlying22 info5 rfl (by decide) (by omega) v361 y360 ((x7_3) % 256) [.int .u8 ((x7_3) % 256)] (fun _ => True) (fun _ => False) rfl rfl ?aP (fun _ hk => hk.elim) ?aF ?aO ?aB ?aS ?aL ?_; (case aP => exact rfl); (case aB => exact pB); (case aF => exact (fun _ _ => trivial)); (case aO => exact (pR HO_3)); (case aS => exact (below_size pB)); (case aL => have := LMc47.out; omega); intro v382 w55 ho hb hg hat; rw [← Ny381.out] at ho; have n0_ := Aside0.mk (hb); have n1_ := Aside0.mk (ho); clear HB; clear HO_3; have HB := n0_; have HO383 := n1_; clear n0_ n1_; clear ho hb hg hat; obtain ⟨i056, hi056, _, hsz56, _⟩ := info_parts info37; obtain ⟨A56, hcut56, hA56, hC56⟩ := print_mid_of (P := Tryd.prog) (Value.int .u64) 0 23 37 .i64 .i64 Tryd.underlying23 hi056 hsz56 (some ad352) c0 l0 (ji48) (ji42) (of_decide_eq_true pA) (by first | omega | exact of_decide_eq_true pA) (of_decide_eq_true pA) HC0.out; have HR384 := Aside0.mk (Kd.C_of_reads (h1 := fun _ => rfl) (hA56 _ (Kd.reads_of_C HR0.out))); have HC384 := Aside0.mk hC56; clear hA56 hC56 hi056 hsz56) | ((with_reducible refine gate_callee (f := 23) rfl ?_); refine goesL_ (some 86) rfl rfl Tryd.func23 (by kernel_rfl) rfl #[.slice A56 ((l0.take ((ji42) : Int).toNat).drop ((ji48) : Int).toNat).length (c0 - (ji48).toNat)] rfl (by (try simp only [List.map_toArray, List.map_cons, List.map_nil]); first | done | (rw [show ((l0.take ((ji42) : Int).toNat).drop ((ji48) : Int).toNat).length = ((ji42).toNat - (ji48).toNat) from (by rw [List.length_drop, List.length_take]; have h_ : ((ji42) : Int) ≤ (l0.length : Int) := of_decide_eq_true pA; omega)] <;> rfl) | (simp only [hji42, hji48]; rfl) | rfl | (simp only [List.length_drop, List.length_take]; rfl)) ?_; (with_reducible refine (capnpref01_Bytes.calls k3 _ _ ((l0.take ((ji42) : Int).toNat).drop ((ji48) : Int).toNat) t385 _ ?side1 ?side2 A52.out).mono ?_); (case side1 => repeat (first | exact (Kd.C_below HR384.out HB.out) | (with_reducible refine Kd.C_alloc ?_ _) | (with_reducible refine Kd.C_drewN ?_ _) | (with_reducible refine Kd.C_drew ?_))); (case side2 => exact HC384.out); rintro e w57 ⟨v386, rfl, ho0, hb⟩; refine ⟨_, rfl, ?_⟩; have n0_ := Aside0.mk (Kd.R_elder' (pR HO383) (Kd.R_base ho0) hb); have n1_ := Aside0.mk (Kd.R_lower (Kd.R_new' ho0 (Kd.R_lt (pR HO383))) (below_size pB)); have n2_ := Aside0.mk (below_step pB hb); clear HO383; clear HB; have HO383 := n0_; have HO387 := n1_; have HB := n2_; clear n0_ n1_ n2_; (try clear hb); (try clear hb2); (try clear hk); (try clear hi); (try clear ho0); obtain ⟨Ao59, co59, eo59⟩ := Kd.R_slice HO387.out; subst eo59) | ((with_reducible refine gate_builtin (b := .append) (xs := #[.tmp 79, .tmp 86]) rfl ?_); at_builtin; refine Kd.R_append_rows (Kd.int .u8) (w0 := w) w.heap.size rfl (.tmp 79) (.tmp 86) 22 5 (.int .u8 0) 1 rfl Tryd.underlying22 info5 rfl (by decide) (by omega) v382 y381 t385 _ _ _ (fun k_ => some k_ ≠ (.slice Ao59 t385.length co59 : Value).ownBlock) (fun _ => False) rfl rfl ?aO ?aR (fun _ _ h => h) (fun _ h => h.elim) ?aF ?aB ?aS ?aL ?_; (case aR => repeat (first | exact (Kd.R_reads' HO387.out).2.2 | (with_reducible refine Kd.C_alloc ?_ _) | (with_reducible refine Kd.C_drewN ?_ _) | (with_reducible refine Kd.C_drew ?_))); (case aB => exact pB); (case aF => exact (fun k_ hk => Kd.fresh' (Kd.R_lt (pR HO387)) k_ hk)); (case aO => exact (by (with_reducible repeat (first | apply Kd.R_alloc | apply Kd.R_drewN | apply Kd.R_drew)); exact Kd.R_mono HO383.out (fun _ hk => hk.2))); (case aS => exact (below_size pB)); (case aL => have := LMc53.out; omega); intro v389 w58 ho hb hg hat; rw [← Ny388.out] at ho; have n0_ := Aside0.mk (Kd.R_after (ok := (fun _ => True)) (pR HO387) hg hat); have n1_ := Aside0.mk (hb); have n2_ := Aside0.mk (ho); clear HO387; clear HB; clear HO383; have HO387 := n0_; have HB := n1_; have HO390 := n2_; clear n0_ n1_ n2_; clear ho hb hg hat))
                       (first | go_roundg k3 | ((try subst hji42); (try subst hji48); go_roundg k3))
                       case measure => have := HK1.out; have := HJ7.out; have := HK3.out; omega
                       case rel => exact ⟨(y388), (ji42), (by first | rfl | (simp; done) | (simp only [← hji42] <;> (first | rfl | simp)) | (simp [*]; done)), H', ⟨by have := HK1.out; have := HJ7.out; have := HK3.out; omega⟩, ⟨by (with_reducible repeat (first | apply Kd.R_alloc | apply Kd.R_drewN | apply Kd.R_drew)); exact Kd.R_mono HO390.out (fun _ hk => trivial)⟩, ⟨pB⟩⟩
                      ·rw [if_neg c53] at H
                       exact absurd H (by simp)
                     ·rw [if_neg c51] at H
                      exact absurd H (by simp)
                    ·rw [if_neg c50] at H
                     exact absurd H (by simp)
                   ·rw [if_neg c49] at H
                    exact absurd H (by simp)
                  ·rw [if_neg c47] at H
                   exact absurd H (by simp)
                ·rw [if_neg c43] at H
                 exact absurd H (by simp)
               ·rw [if_neg c41] at H
                have c41b0 : (t353 == 255) = false := beq_eq_false_iff_ne.mpr c41
                have c41b1 : (t353 != 255) = true := bne_iff_ne.mpr c41
                by_cases c60 : y360.length < 140737488355328
                ·rw [if_pos c60] at H
                 have LMc60 := Aside0.mk c60
                 clear c60
                 obtain ⟨y391, hy391⟩ : ∃ y_ : List Int, y_ = (y360 ++ [(x7_3) % 256]) := ⟨_, rfl⟩
                 replace H : (capnpref21_Words.l0 k3 l0 y391 (wrap64 ((wrap64 (x4_1 + 1)) + x7_3))) = some r := by first | (rw [hy391]; with_reducible exact H) | (have H2_ := (Option.bind_some _ _).symm.trans H; rw [hy391]; with_reducible exact H2_) | (have H2_ := (Option.bind_some _ _).symm.trans H; with_reducible exact H2_) | with_reducible exact H | (rw [hy391]; exact H) | exact H
                 have Ny391 := Aside0.mk hy391
                 clear hy391
                 have H' := Aside0.mk H
                 clear H
                 go_wp2_with (first | ((with_reducible refine gate_builtin (b := .append) (xs := #[.tmp 72, .tmp 75]) rfl ?_); at_builtin; refine Kd.R_append (Kd.int .u8) (w0 := w) w.heap.size rfl (.tmp 72) (.tmp 75) 22 5 (.int .u8 0) 1 rfl Tryd.underlying22 info5 rfl (by decide) (by omega) v361 y360 ((x7_3) % 256) [.int .u8 ((x7_3) % 256)] (fun _ => True) (fun _ => False) rfl rfl ?aP (fun _ hk => hk.elim) ?aF ?aO ?aB ?aS ?aL ?_; (case aP => exact rfl); (case aB => exact pB); (case aF => exact (fun _ _ => trivial)); (case aO => exact (pR HO_3)); (case aS => exact (below_size pB)); (case aL => have := LMc60.out; omega); intro v392 w61 ho hb hg hat; rw [← Ny391.out] at ho; have n0_ := Aside0.mk (hb); have n1_ := Aside0.mk (ho); clear HB; clear HO_3; have HB := n0_; have HO393 := n1_; clear n0_ n1_; clear ho hb hg hat))
                 go_roundg k3
                 case measure => have := HK1.out; have := HJ7.out; have := HK3.out; omega
                 case rel => exact ⟨(y391), (wrap64 ((wrap64 (x4_1 + 1)) + x7_3)), (by first | rfl | (simp; done) | (simp [*]; done)), H', ⟨by have := HK1.out; have := HJ7.out; have := HK3.out; omega⟩, ⟨pR HO393⟩, ⟨pB⟩⟩
                ·rw [if_neg c60] at H
                 exact absurd H (by simp)
             ·rw [if_neg c17] at H
              have c17b0 : decide (x7_3 < 255) = false := decide_eq_false c17
              clear c17
              by_cases c62 : y360.length < 140737488355328
              ·rw [if_pos c62] at H
               have LMc62 := Aside0.mk c62
               clear c62
               obtain ⟨y394, hy394⟩ : ∃ y_ : List Int, y_ = (y360 ++ [(x7_3) % 256]) := ⟨_, rfl⟩
               replace H : (if t353 = 255 then (if 0 ≤ (wrap64 (x4_1 + 1)) then (if (wrap64 (x4_1 + 1)) ≤ (wrap64 ((wrap64 (x4_1 + 1)) + x7_3)) then (if (wrap64 ((wrap64 (x4_1 + 1)) + x7_3)) ≤ (l0.length : Int) then ((capnpref01_Bytes.f k3 ((l0.take ((wrap64 ((wrap64 (x4_1 + 1)) + x7_3)) : Int).toNat).drop ((wrap64 (x4_1 + 1)) : Int).toNat)).bind fun t398 => (if y394.length + t398.length < 140737488355328 then (capnpref21_Words.l0 k3 l0 (y394 ++ t398) (wrap64 ((wrap64 (x4_1 + 1)) + x7_3))) else (none))) else (none)) else (none)) else (none)) else (capnpref21_Words.l0 k3 l0 y394 (wrap64 ((wrap64 (x4_1 + 1)) + x7_3)))) = some r := by first | (rw [hy394]; with_reducible exact H) | (have H2_ := (Option.bind_some _ _).symm.trans H; rw [hy394]; with_reducible exact H2_) | (have H2_ := (Option.bind_some _ _).symm.trans H; with_reducible exact H2_) | with_reducible exact H | (rw [hy394]; exact H) | exact H
               have Ny394 := Aside0.mk hy394
               clear hy394
               by_cases c63 : t353 = 255
               ·rw [if_pos c63] at H
                have c63b0 : (t353 == 255) = true := beq_iff_eq.mpr c63
                have c63b1 : (t353 != 255) = false := bne_eq_false_iff_eq.mpr c63
                clear c63
                try subst hji27
                try subst hji48
                obtain ⟨ji64, hji64⟩ : ∃ j_ : Int, (wrap64 (x4_1 + 1)) = j_ := ⟨_, rfl⟩
                replace H : (if 0 ≤ (ji64) then (if (ji64) ≤ (wrap64 ((ji64) + x7_3)) then (if (wrap64 ((ji64) + x7_3)) ≤ (l0.length : Int) then ((capnpref01_Bytes.f k3 ((l0.take ((wrap64 ((ji64) + x7_3)) : Int).toNat).drop ((ji64) : Int).toNat)).bind fun t398 => (if y394.length + t398.length < 140737488355328 then (capnpref21_Words.l0 k3 l0 (y394 ++ t398) (wrap64 ((ji64) + x7_3))) else (none))) else (none)) else (none)) else (none)) = some r := by first | (rw [hji64] at H; exact H) | (simp only [hji64] at H ⊢; exact H)
                (try rw [hji64] at c16b0)
                have hji64w : (IntKind.i64.wrap (x4_1 + 1)) = ji64 := (i64_w _).trans hji64
                by_cases c65 : 0 ≤ (ji64)
                ·rw [if_pos c65] at H
                 have c65b0 := eq_true c65
                 have c65b1 : decide (0 ≤ (ji64)) = true := decide_eq_true c65
                 clear c65
                 by_cases c66 : (ji64) ≤ (wrap64 ((ji64) + x7_3))
                 ·rw [if_pos c66] at H
                  have c66b0 := eq_true c66
                  have c66b1 : decide ((ji64) ≤ (wrap64 ((ji64) + x7_3))) = true := decide_eq_true c66
                  by_cases c67 : (wrap64 ((ji64) + x7_3)) ≤ (l0.length : Int)
                  ·rw [if_pos c67] at H
                   have c67b0 := eq_true c67
                   have c67b1 : decide ((wrap64 ((ji64) + x7_3)) ≤ (l0.length : Int)) = true := decide_eq_true c67
                   replace H := Option.bind_eq_some_iff.mp H
                   obtain ⟨t398, A680, H⟩ := H
                   replace H : (if y394.length + t398.length < 140737488355328 then (capnpref21_Words.l0 k3 l0 (y394 ++ t398) (wrap64 ((ji64) + x7_3))) else (none)) = some r := H
                   have A68 := Aside0.mk A680
                   clear A680
                   by_cases c69 : y394.length + t398.length < 140737488355328
                   ·rw [if_pos c69] at H
                    have LMc69 := Aside0.mk c69
                    clear c69
                    obtain ⟨y401, hy401⟩ : ∃ y_ : List Int, y_ = (y394 ++ t398) := ⟨_, rfl⟩
                    replace H : (capnpref21_Words.l0 k3 l0 y401 (wrap64 ((ji64) + x7_3))) = some r := by first | (rw [hy401]; with_reducible exact H) | (have H2_ := (Option.bind_some _ _).symm.trans H; rw [hy401]; with_reducible exact H2_) | (have H2_ := (Option.bind_some _ _).symm.trans H; with_reducible exact H2_) | with_reducible exact H | (rw [hy401]; exact H) | exact H
                    have Ny401 := Aside0.mk hy401
                    clear hy401
                    have H' := Aside0.mk H
                    clear H
                    go_wp2_with (first | ((with_reducible refine gate_builtin (b := .append) (xs := #[.tmp 72, .tmp 75]) rfl ?_); at_builtin; refine Kd.R_append (Kd.int .u8) (w0 := w) w.heap.size rfl (.tmp 72) (.tmp 75) 22 5 (.int .u8 0) 1 rfl Tryd.underlying22 info5 rfl (by decide) (by omega) v361 y360 ((x7_3) % 256) [.int .u8 ((x7_3) % 256)] (fun _ => True) (fun _ => False) rfl rfl ?aP (fun _ hk => hk.elim) ?aF ?aO ?aB ?aS ?aL ?_; (case aP => exact rfl); (case aB => exact pB); (case aF => exact (fun _ _ => trivial)); (case aO => exact (pR HO_3)); (case aS => exact (below_size pB)); (case aL => have := LMc62.out; omega); intro v395 w70 ho hb hg hat; rw [← Ny394.out] at ho; have n0_ := Aside0.mk (hb); have n1_ := Aside0.mk (ho); clear HB; clear HO_3; have HB := n0_; have HO396 := n1_; clear n0_ n1_; clear ho hb hg hat; obtain ⟨i071, hi071, _, hsz71, _⟩ := info_parts info37; obtain ⟨A71, hcut71, hA71, hC71⟩ := print_mid_of (P := Tryd.prog) (Value.int .u64) 0 23 37 .i64 .i64 Tryd.underlying23 hi071 hsz71 (some ad352) c0 l0 (ji64) (wrap64 ((ji64) + x7_3)) (of_decide_eq_true pA) (by first | omega | exact of_decide_eq_true pA) (of_decide_eq_true pA) HC0.out; have HR397 := Aside0.mk (Kd.C_of_reads (h1 := fun _ => rfl) (hA71 _ (Kd.reads_of_C HR0.out))); have HC397 := Aside0.mk hC71; clear hA71 hC71 hi071 hsz71) | ((with_reducible refine gate_callee (f := 23) rfl ?_); refine goesL_ (some 86) rfl rfl Tryd.func23 (by kernel_rfl) rfl #[.slice A71 ((l0.take ((wrap64 ((ji64) + x7_3)) : Int).toNat).drop ((ji64) : Int).toNat).length (c0 - (ji64).toNat)] rfl (by (try simp only [List.map_toArray, List.map_cons, List.map_nil]); first | done | (rw [show ((l0.take ((wrap64 ((ji64) + x7_3)) : Int).toNat).drop ((ji64) : Int).toNat).length = ((wrap64 ((ji64) + x7_3)).toNat - (ji64).toNat) from (by rw [List.length_drop, List.length_take]; have h_ : ((wrap64 ((ji64) + x7_3)) : Int) ≤ (l0.length : Int) := of_decide_eq_true pA; omega)] <;> rfl) | (simp only [hji64]; rfl) | rfl | (simp only [List.length_drop, List.length_take]; rfl)) ?_; (with_reducible refine (capnpref01_Bytes.calls k3 _ _ ((l0.take ((wrap64 ((ji64) + x7_3)) : Int).toNat).drop ((ji64) : Int).toNat) t398 _ ?side1 ?side2 A68.out).mono ?_); (case side1 => repeat (first | exact (Kd.C_below HR397.out HB.out) | (with_reducible refine Kd.C_alloc ?_ _) | (with_reducible refine Kd.C_drewN ?_ _) | (with_reducible refine Kd.C_drew ?_))); (case side2 => exact HC397.out); rintro e w72 ⟨v399, rfl, ho0, hb⟩; refine ⟨_, rfl, ?_⟩; have n0_ := Aside0.mk (Kd.R_elder' (pR HO396) (Kd.R_base ho0) hb); have n1_ := Aside0.mk (Kd.R_lower (Kd.R_new' ho0 (Kd.R_lt (pR HO396))) (below_size pB)); have n2_ := Aside0.mk (below_step pB hb); clear HO396; clear HB; have HO396 := n0_; have HO400 := n1_; have HB := n2_; clear n0_ n1_ n2_; (try clear hb); (try clear hb2); (try clear hk); (try clear hi); (try clear ho0); obtain ⟨Ao74, co74, eo74⟩ := Kd.R_slice HO400.out; subst eo74) | ((with_reducible refine gate_builtin (b := .append) (xs := #[.tmp 79, .tmp 86]) rfl ?_); at_builtin; refine Kd.R_append_rows (Kd.int .u8) (w0 := w) w.heap.size rfl (.tmp 79) (.tmp 86) 22 5 (.int .u8 0) 1 rfl Tryd.underlying22 info5 rfl (by decide) (by omega) v395 y394 t398 _ _ _ (fun k_ => some k_ ≠ (.slice Ao74 t398.length co74 : Value).ownBlock) (fun _ => False) rfl rfl ?aO ?aR (fun _ _ h => h) (fun _ h => h.elim) ?aF ?aB ?aS ?aL ?_; (case aR => repeat (first | exact (Kd.R_reads' HO400.out).2.2 | (with_reducible refine Kd.C_alloc ?_ _) | (with_reducible refine Kd.C_drewN ?_ _) | (with_reducible refine Kd.C_drew ?_))); (case aB => exact pB); (case aF => exact (fun k_ hk => Kd.fresh' (Kd.R_lt (pR HO400)) k_ hk)); (case aO => exact (by (with_reducible repeat (first | apply Kd.R_alloc | apply Kd.R_drewN | apply Kd.R_drew)); exact Kd.R_mono HO396.out (fun _ hk => hk.2))); (case aS => exact (below_size pB)); (case aL => have := LMc69.out; omega); intro v402 w73 ho hb hg hat; rw [← Ny401.out] at ho; have n0_ := Aside0.mk (Kd.R_after (ok := (fun _ => True)) (pR HO400) hg hat); have n1_ := Aside0.mk (hb); have n2_ := Aside0.mk (ho); clear HO400; clear HB; clear HO396; have HO400 := n0_; have HB := n1_; have HO403 := n2_; clear n0_ n1_ n2_; clear ho hb hg hat))
                    (first | go_roundg k3 | ((try subst hji64); go_roundg k3))
                    case measure => have := HK1.out; have := HJ7.out; have := HK3.out; omega
                    case rel => exact ⟨(y401), (wrap64 ((ji64) + x7_3)), (by first | rfl | (simp; done) | (simp only [← hji64] <;> (first | rfl | simp)) | (simp [*]; done)), H', ⟨by have := HK1.out; have := HJ7.out; have := HK3.out; omega⟩, ⟨by (with_reducible repeat (first | apply Kd.R_alloc | apply Kd.R_drewN | apply Kd.R_drew)); exact Kd.R_mono HO403.out (fun _ hk => trivial)⟩, ⟨pB⟩⟩
                   ·rw [if_neg c69] at H
                    exact absurd H (by simp)
                  ·rw [if_neg c67] at H
                   exact absurd H (by simp)
                 ·rw [if_neg c66] at H
                  exact absurd H (by simp)
                ·rw [if_neg c65] at H
                 exact absurd H (by simp)
               ·rw [if_neg c63] at H
                have c63b0 : (t353 == 255) = false := beq_eq_false_iff_ne.mpr c63
                have c63b1 : (t353 != 255) = true := bne_iff_ne.mpr c63
                have H' := Aside0.mk H
                clear H
                go_wp2_with (first | ((with_reducible refine gate_builtin (b := .append) (xs := #[.tmp 72, .tmp 75]) rfl ?_); at_builtin; refine Kd.R_append (Kd.int .u8) (w0 := w) w.heap.size rfl (.tmp 72) (.tmp 75) 22 5 (.int .u8 0) 1 rfl Tryd.underlying22 info5 rfl (by decide) (by omega) v361 y360 ((x7_3) % 256) [.int .u8 ((x7_3) % 256)] (fun _ => True) (fun _ => False) rfl rfl ?aP (fun _ hk => hk.elim) ?aF ?aO ?aB ?aS ?aL ?_; (case aP => exact rfl); (case aB => exact pB); (case aF => exact (fun _ _ => trivial)); (case aO => exact (pR HO_3)); (case aS => exact (below_size pB)); (case aL => have := LMc62.out; omega); intro v395 w75 ho hb hg hat; rw [← Ny394.out] at ho; have n0_ := Aside0.mk (hb); have n1_ := Aside0.mk (ho); clear HB; clear HO_3; have HB := n0_; have HO396 := n1_; clear n0_ n1_; clear ho hb hg hat))
                go_roundg k3
                case measure => have := HK1.out; have := HJ7.out; have := HK3.out; omega
                case rel => exact ⟨(y394), (wrap64 ((wrap64 (x4_1 + 1)) + x7_3)), (by first | rfl | (simp; done) | (simp [*]; done)), H', ⟨by have := HK1.out; have := HJ7.out; have := HK3.out; omega⟩, ⟨pR HO396⟩, ⟨pB⟩⟩
              ·rw [if_neg c62] at H
               exact absurd H (by simp)
            ·rw [if_neg c16] at H
             have c16b0 : decide ((wrap64 ((wrap64 (x4_1 + 1)) + x7_3)) < (l0.length : Int)) = false := decide_eq_false c16
             clear c16
             by_cases c76 : y360.length < 140737488355328
             ·rw [if_pos c76] at H
              have LMc76 := Aside0.mk c76
              clear c76
              obtain ⟨y404, hy404⟩ : ∃ y_ : List Int, y_ = (y360 ++ [(x7_3) % 256]) := ⟨_, rfl⟩
              replace H : (if t353 = 255 then (if 0 ≤ (wrap64 (x4_1 + 1)) then (if (wrap64 (x4_1 + 1)) ≤ (wrap64 ((wrap64 (x4_1 + 1)) + x7_3)) then (if (wrap64 ((wrap64 (x4_1 + 1)) + x7_3)) ≤ (l0.length : Int) then ((capnpref01_Bytes.f k3 ((l0.take ((wrap64 ((wrap64 (x4_1 + 1)) + x7_3)) : Int).toNat).drop ((wrap64 (x4_1 + 1)) : Int).toNat)).bind fun t408 => (if y404.length + t408.length < 140737488355328 then (capnpref21_Words.l0 k3 l0 (y404 ++ t408) (wrap64 ((wrap64 (x4_1 + 1)) + x7_3))) else (none))) else (none)) else (none)) else (none)) else (capnpref21_Words.l0 k3 l0 y404 (wrap64 ((wrap64 (x4_1 + 1)) + x7_3)))) = some r := by first | (rw [hy404]; with_reducible exact H) | (have H2_ := (Option.bind_some _ _).symm.trans H; rw [hy404]; with_reducible exact H2_) | (have H2_ := (Option.bind_some _ _).symm.trans H; with_reducible exact H2_) | with_reducible exact H | (rw [hy404]; exact H) | exact H
              have Ny404 := Aside0.mk hy404
              clear hy404
              by_cases c77 : t353 = 255
              ·rw [if_pos c77] at H
               have c77b0 : (t353 == 255) = true := beq_iff_eq.mpr c77
               have c77b1 : (t353 != 255) = false := bne_eq_false_iff_eq.mpr c77
               clear c77
               try subst hji27
               try subst hji48
               try subst hji64
               obtain ⟨ji78, hji78⟩ : ∃ j_ : Int, (wrap64 (x4_1 + 1)) = j_ := ⟨_, rfl⟩
               replace H : (if 0 ≤ (ji78) then (if (ji78) ≤ (wrap64 ((ji78) + x7_3)) then (if (wrap64 ((ji78) + x7_3)) ≤ (l0.length : Int) then ((capnpref01_Bytes.f k3 ((l0.take ((wrap64 ((ji78) + x7_3)) : Int).toNat).drop ((ji78) : Int).toNat)).bind fun t408 => (if y404.length + t408.length < 140737488355328 then (capnpref21_Words.l0 k3 l0 (y404 ++ t408) (wrap64 ((ji78) + x7_3))) else (none))) else (none)) else (none)) else (none)) = some r := by first | (rw [hji78] at H; exact H) | (simp only [hji78] at H ⊢; exact H)
               (try rw [hji78] at c16b0)
               have hji78w : (IntKind.i64.wrap (x4_1 + 1)) = ji78 := (i64_w _).trans hji78
               by_cases c79 : 0 ≤ (ji78)
               ·rw [if_pos c79] at H
                have c79b0 := eq_true c79
                have c79b1 : decide (0 ≤ (ji78)) = true := decide_eq_true c79
                clear c79
                by_cases c80 : (ji78) ≤ (wrap64 ((ji78) + x7_3))
                ·rw [if_pos c80] at H
                 have c80b0 := eq_true c80
                 have c80b1 : decide ((ji78) ≤ (wrap64 ((ji78) + x7_3))) = true := decide_eq_true c80
                 by_cases c81 : (wrap64 ((ji78) + x7_3)) ≤ (l0.length : Int)
                 ·rw [if_pos c81] at H
                  have c81b0 := eq_true c81
                  have c81b1 : decide ((wrap64 ((ji78) + x7_3)) ≤ (l0.length : Int)) = true := decide_eq_true c81
                  replace H := Option.bind_eq_some_iff.mp H
                  obtain ⟨t408, A820, H⟩ := H
                  replace H : (if y404.length + t408.length < 140737488355328 then (capnpref21_Words.l0 k3 l0 (y404 ++ t408) (wrap64 ((ji78) + x7_3))) else (none)) = some r := H
                  have A82 := Aside0.mk A820
                  clear A820
                  by_cases c83 : y404.length + t408.length < 140737488355328
                  ·rw [if_pos c83] at H
                   have LMc83 := Aside0.mk c83
                   clear c83
                   obtain ⟨y411, hy411⟩ : ∃ y_ : List Int, y_ = (y404 ++ t408) := ⟨_, rfl⟩
                   replace H : (capnpref21_Words.l0 k3 l0 y411 (wrap64 ((ji78) + x7_3))) = some r := by first | (rw [hy411]; with_reducible exact H) | (have H2_ := (Option.bind_some _ _).symm.trans H; rw [hy411]; with_reducible exact H2_) | (have H2_ := (Option.bind_some _ _).symm.trans H; with_reducible exact H2_) | with_reducible exact H | (rw [hy411]; exact H) | exact H
                   have Ny411 := Aside0.mk hy411
                   clear hy411
                   have H' := Aside0.mk H
                   clear H
                   go_wp2_with (first | ((with_reducible refine gate_builtin (b := .append) (xs := #[.tmp 72, .tmp 75]) rfl ?_); at_builtin; refine Kd.R_append (Kd.int .u8) (w0 := w) w.heap.size rfl (.tmp 72) (.tmp 75) 22 5 (.int .u8 0) 1 rfl Tryd.underlying22 info5 rfl (by decide) (by omega) v361 y360 ((x7_3) % 256) [.int .u8 ((x7_3) % 256)] (fun _ => True) (fun _ => False) rfl rfl ?aP (fun _ hk => hk.elim) ?aF ?aO ?aB ?aS ?aL ?_; (case aP => exact rfl); (case aB => exact pB); (case aF => exact (fun _ _ => trivial)); (case aO => exact (pR HO_3)); (case aS => exact (below_size pB)); (case aL => have := LMc76.out; omega); intro v405 w84 ho hb hg hat; rw [← Ny404.out] at ho; have n0_ := Aside0.mk (hb); have n1_ := Aside0.mk (ho); clear HB; clear HO_3; have HB := n0_; have HO406 := n1_; clear n0_ n1_; clear ho hb hg hat; obtain ⟨i085, hi085, _, hsz85, _⟩ := info_parts info37; obtain ⟨A85, hcut85, hA85, hC85⟩ := print_mid_of (P := Tryd.prog) (Value.int .u64) 0 23 37 .i64 .i64 Tryd.underlying23 hi085 hsz85 (some ad352) c0 l0 (ji78) (wrap64 ((ji78) + x7_3)) (of_decide_eq_true pA) (by first | omega | exact of_decide_eq_true pA) (of_decide_eq_true pA) HC0.out; have HR407 := Aside0.mk (Kd.C_of_reads (h1 := fun _ => rfl) (hA85 _ (Kd.reads_of_C HR0.out))); have HC407 := Aside0.mk hC85; clear hA85 hC85 hi085 hsz85) | ((with_reducible refine gate_callee (f := 23) rfl ?_); refine goesL_ (some 86) rfl rfl Tryd.func23 (by kernel_rfl) rfl #[.slice A85 ((l0.take ((wrap64 ((ji78) + x7_3)) : Int).toNat).drop ((ji78) : Int).toNat).length (c0 - (ji78).toNat)] rfl (by (try simp only [List.map_toArray, List.map_cons, List.map_nil]); first | done | (rw [show ((l0.take ((wrap64 ((ji78) + x7_3)) : Int).toNat).drop ((ji78) : Int).toNat).length = ((wrap64 ((ji78) + x7_3)).toNat - (ji78).toNat) from (by rw [List.length_drop, List.length_take]; have h_ : ((wrap64 ((ji78) + x7_3)) : Int) ≤ (l0.length : Int) := of_decide_eq_true pA; omega)] <;> rfl) | (simp only [hji78]; rfl) | rfl | (simp only [List.length_drop, List.length_take]; rfl)) ?_; (with_reducible refine (capnpref01_Bytes.calls k3 _ _ ((l0.take ((wrap64 ((ji78) + x7_3)) : Int).toNat).drop ((ji78) : Int).toNat) t408 _ ?side1 ?side2 A82.out).mono ?_); (case side1 => repeat (first | exact (Kd.C_below HR407.out HB.out) | (with_reducible refine Kd.C_alloc ?_ _) | (with_reducible refine Kd.C_drewN ?_ _) | (with_reducible refine Kd.C_drew ?_))); (case side2 => exact HC407.out); rintro e w86 ⟨v409, rfl, ho0, hb⟩; refine ⟨_, rfl, ?_⟩; have n0_ := Aside0.mk (Kd.R_elder' (pR HO406) (Kd.R_base ho0) hb); have n1_ := Aside0.mk (Kd.R_lower (Kd.R_new' ho0 (Kd.R_lt (pR HO406))) (below_size pB)); have n2_ := Aside0.mk (below_step pB hb); clear HO406; clear HB; have HO406 := n0_; have HO410 := n1_; have HB := n2_; clear n0_ n1_ n2_; (try clear hb); (try clear hb2); (try clear hk); (try clear hi); (try clear ho0); obtain ⟨Ao88, co88, eo88⟩ := Kd.R_slice HO410.out; subst eo88) | ((with_reducible refine gate_builtin (b := .append) (xs := #[.tmp 79, .tmp 86]) rfl ?_); at_builtin; refine Kd.R_append_rows (Kd.int .u8) (w0 := w) w.heap.size rfl (.tmp 79) (.tmp 86) 22 5 (.int .u8 0) 1 rfl Tryd.underlying22 info5 rfl (by decide) (by omega) v405 y404 t408 _ _ _ (fun k_ => some k_ ≠ (.slice Ao88 t408.length co88 : Value).ownBlock) (fun _ => False) rfl rfl ?aO ?aR (fun _ _ h => h) (fun _ h => h.elim) ?aF ?aB ?aS ?aL ?_; (case aR => repeat (first | exact (Kd.R_reads' HO410.out).2.2 | (with_reducible refine Kd.C_alloc ?_ _) | (with_reducible refine Kd.C_drewN ?_ _) | (with_reducible refine Kd.C_drew ?_))); (case aB => exact pB); (case aF => exact (fun k_ hk => Kd.fresh' (Kd.R_lt (pR HO410)) k_ hk)); (case aO => exact (by (with_reducible repeat (first | apply Kd.R_alloc | apply Kd.R_drewN | apply Kd.R_drew)); exact Kd.R_mono HO406.out (fun _ hk => hk.2))); (case aS => exact (below_size pB)); (case aL => have := LMc83.out; omega); intro v412 w87 ho hb hg hat; rw [← Ny411.out] at ho; have n0_ := Aside0.mk (Kd.R_after (ok := (fun _ => True)) (pR HO410) hg hat); have n1_ := Aside0.mk (hb); have n2_ := Aside0.mk (ho); clear HO410; clear HB; clear HO406; have HO410 := n0_; have HB := n1_; have HO413 := n2_; clear n0_ n1_ n2_; clear ho hb hg hat))
                   (first | go_roundg k3 | ((try subst hji78); go_roundg k3))
                   case measure => have := HK1.out; have := HJ7.out; have := HK3.out; omega
                   case rel => exact ⟨(y411), (wrap64 ((ji78) + x7_3)), (by first | rfl | (simp; done) | (simp only [← hji78] <;> (first | rfl | simp)) | (simp [*]; done)), H', ⟨by have := HK1.out; have := HJ7.out; have := HK3.out; omega⟩, ⟨by (with_reducible repeat (first | apply Kd.R_alloc | apply Kd.R_drewN | apply Kd.R_drew)); exact Kd.R_mono HO413.out (fun _ hk => trivial)⟩, ⟨pB⟩⟩
                  ·rw [if_neg c83] at H
                   exact absurd H (by simp)
                 ·rw [if_neg c81] at H
                  exact absurd H (by simp)
                ·rw [if_neg c80] at H
                 exact absurd H (by simp)
               ·rw [if_neg c79] at H
                exact absurd H (by simp)
              ·rw [if_neg c77] at H
               have c77b0 : (t353 == 255) = false := beq_eq_false_iff_ne.mpr c77
               have c77b1 : (t353 != 255) = true := bne_iff_ne.mpr c77
               have H' := Aside0.mk H
               clear H
               go_wp2_with (first | ((with_reducible refine gate_builtin (b := .append) (xs := #[.tmp 72, .tmp 75]) rfl ?_); at_builtin; refine Kd.R_append (Kd.int .u8) (w0 := w) w.heap.size rfl (.tmp 72) (.tmp 75) 22 5 (.int .u8 0) 1 rfl Tryd.underlying22 info5 rfl (by decide) (by omega) v361 y360 ((x7_3) % 256) [.int .u8 ((x7_3) % 256)] (fun _ => True) (fun _ => False) rfl rfl ?aP (fun _ hk => hk.elim) ?aF ?aO ?aB ?aS ?aL ?_; (case aP => exact rfl); (case aB => exact pB); (case aF => exact (fun _ _ => trivial)); (case aO => exact (pR HO_3)); (case aS => exact (below_size pB)); (case aL => have := LMc76.out; omega); intro v405 w89 ho hb hg hat; rw [← Ny404.out] at ho; have n0_ := Aside0.mk (hb); have n1_ := Aside0.mk (ho); clear HB; clear HO_3; have HB := n0_; have HO406 := n1_; clear n0_ n1_; clear ho hb hg hat))
               go_roundg k3
               case measure => have := HK1.out; have := HJ7.out; have := HK3.out; omega
               case rel => exact ⟨(y404), (wrap64 ((wrap64 (x4_1 + 1)) + x7_3)), (by first | rfl | (simp; done) | (simp [*]; done)), H', ⟨by have := HK1.out; have := HJ7.out; have := HK3.out; omega⟩, ⟨pR HO406⟩, ⟨pB⟩⟩
             ·rw [if_neg c76] at H
              exact absurd H (by simp)
      ·rw [if_neg c7] at H
       exact absurd H (by simp)
     ·rw [if_neg c5] at H
      exact absurd H (by simp)
    ·rw [if_neg c3] at H
     exact absurd H (by simp)
   ·rw [if_neg c2] at H
    have c2b0 : decide (x4_1 < (l0.length : Int)) = false := decide_eq_false c2
    clear c2
    obtain rfl := Option.some.inj H
    go_wp2
    go_ret
    exact ⟨_, by first | rfl | (simp [errW_none, errW_some] <;> rfl) | (simp [*, errW_none, errW_some] <;> rfl), by (with_reducible repeat (first | apply Kd.R_alloc | apply Kd.R_drewN | apply Kd.R_drew)); exact HO_3.out, pB⟩
end Go.Proofs.YtnchacmhjbkmhaaDoor.PGrammarMatchesReference
