/- (Halved.) Written by myprint.py, a program of this session: printed functions of a law, and the proofs that the Go code comes to them. -/
import Derived.Test.YtnchacmhjbkmhaaDoorXShortR
import Derived.Test.YtnchacmhjbkmhaaDoorPGrammarMatchesReferencex0R
import Derived.Test.YtnchacmhjbkmhaaDoorPGrammarMatchesReferencex6R
import Derived.Test.YtnchacmhjbkmhaaDoorPGrammarMatchesReferencex7R
namespace Go.Proofs.YtnchacmhjbkmhaaDoor.PGrammarMatchesReference
open Go.RowKit Go.Proofs.YtnchacmhjbkmhaaDoorW.PrintWords Go.Proofs.YtnchacmhjbkmhaaDoorW.PrintLast Go.Proofs.YtnchacmhjbkmhaaDoorW.PrintMore
open Go.Proofs.YtnchacmhjbkmhaaDoor.PUnBase
open Go.Proofs.YtnchacmhjbkmhaaDoor.POfBase (tagbyte_Of.f tagbyte_Of.calls tagbyte_Of.mono tagbyte_Of.mono_l)
attribute [local go_sem] max2_int min2_int max_two min_two max_three min_three max_four min_four   -- for this text's walks alone
set_option linter.unusedVariables false
set_option linter.unusedSimpArgs false
set_option maxHeartbeats 8000000
set_option maxRecDepth 100000
def capnpref20_Expand.l0 : Nat → List Int → Int → List Int → Int → Int → Int → Option (Int × Int × Bool)
 | 0, _, _, _, _, _, _ => none
 | k + 1, x1, x7, x8, x9, x10, x11 => if x11 < 8 then (if (Int.tmod x9 2) = 1 then (if 0 ≤ x10 then (if x10 < (x1.length : Int) then (if x8.length < 140737488355328 then (capnpref20_Expand.l0 k x1 x7 (x8 ++ [rd x1 x10]) (wrap64 (Int.tdiv x9 2)) (wrap64 (x10 + 1)) (wrap64 (x11 + 1))) else (none)) else (none)) else (none)) else (if x8.length < 140737488355328 then (capnpref20_Expand.l0 k x1 x7 (x8 ++ [0]) (wrap64 (Int.tdiv x9 2)) x10 (wrap64 (x11 + 1))) else (none))) else ((capnpref01_Get.f k x8 0).bind fun bt301 => (some (bt301.1, x7, true)))
def capnpref20_Expand.f (k : Nat) (a0 : Int) (l1 : List Int) : Option (Int × Int × Bool) := (capnpref20_Ones.f k a0).bind fun t293 => (if t293 > (l1.length : Int) then (some (0, 0, false)) else (capnpref20_Expand.l0 k l1 t293 ([] : List Int) (wrap64 (a0)) 0 0))
theorem capnpref20_Expand.mono_l : ∀ k, (∀ y0 y1 y2 y3 y4 y5, LeO (capnpref20_Expand.l0 k y0 y1 y2 y3 y4 y5) (capnpref20_Expand.l0 (k + 1) y0 y1 y2 y3 y4 y5))
 | 0 => fun _ _ _ _ _ _ r h => by simp [capnpref20_Expand.l0] at h
 | k + 1 => by
  have ih0 := capnpref20_Expand.mono_l k
  ·intro y0 y1 y2 y3 y4 y5
   unfold capnpref20_Expand.l0
   repeat' first
   | (with_reducible exact ih0 _ _ _ _ _ _)
   | (with_reducible exact capnpref01_Get.mono _ _ _)
   | (with_reducible exact capnpref20_Ones.mono _ _)
   | (with_reducible exact LeO.refl _)
   | (with_reducible exact LeO.none _)
   | (with_reducible refine LeO.ite ?_ ?_)
   | (with_reducible refine LeO.bind ?_ (fun _ => ?_))
   | exact ih0 _ _ _ _ _ _
   | exact capnpref01_Get.mono _ _ _
   | exact capnpref20_Ones.mono _ _
   | exact LeO.none _
   | refine LeO.ite ?_ ?_
   | refine LeO.bind ?_ (fun _ => ?_)
theorem capnpref20_Expand.mono : ∀ a0 a1 k, LeO (capnpref20_Expand.f k a0 a1) (capnpref20_Expand.f (k + 1) a0 a1) := by
 intro a0 a1 k
 have ih0 := capnpref20_Expand.mono_l k
 unfold capnpref20_Expand.f
 repeat' first
   | (with_reducible exact ih0 _ _ _ _ _ _)
   | (with_reducible exact capnpref01_Get.mono _ _ _)
   | (with_reducible exact capnpref20_Ones.mono _ _)
   | (with_reducible exact LeO.refl _)
   | (with_reducible exact LeO.none _)
   | (with_reducible refine LeO.ite ?_ ?_)
   | (with_reducible refine LeO.bind ?_ (fun _ => ?_))
   | exact ih0 _ _ _ _ _ _
   | exact capnpref01_Get.mono _ _ _
   | exact capnpref20_Ones.mono _ _
   | exact LeO.none _
   | refine LeO.ite ?_ ?_
   | refine LeO.bind ?_ (fun _ => ?_)
theorem capnpref20_Expand.calls (k : Nat) (a0 : Int) (A1 : Option Addr) (c1 : Nat) (l1 : List Int) (r1 : Int) (r2 : Int) (r3 : Bool) (w : World) (hr1 : Kd.C (Kd.int .u8) w A1 l1.length l1) (hc1 : l1.length ≤ c1) (h : capnpref20_Expand.f k a0 l1 = some (r1, r2, r3)) :
  Calls Tryd.prog 38 #[.int .u8 a0, .slice A1 l1.length c1] w fun e w' => e = .returned (.tuple #[.int .u64 r1, .int .i64 r2, .bool r3]) ∧ Below w.heap.size w w' := by
 have HR1 := Aside0.mk hr1
 have HC1 := Aside0.mk hc1
 clear hr1 hc1
 have HB := Aside0.mk (Below.refl w.heap.size w)
 have H : ((capnpref20_Ones.f k a0).bind fun t293 => (if t293 > (l1.length : Int) then (some (0, 0, false)) else (capnpref20_Expand.l0 k l1 t293 ([] : List Int) (wrap64 (a0)) 0 0))) = some (r1, r2, r3) := h
 clear h
 replace H := Option.bind_eq_some_iff.mp H
 obtain ⟨t293, A30, H⟩ := H
 replace H : (if t293 > (l1.length : Int) then (some (0, 0, false)) else (capnpref20_Expand.l0 k l1 t293 ([] : List Int) (wrap64 (a0)) 0 0)) = some (r1, r2, r3) := H
 have A3 := Aside0.mk A30
 clear A30
 by_cases c4 : t293 > (l1.length : Int)
 ·rw [if_pos c4] at H
  have c4b0 : decide ((l1.length : Int) < t293) = true := decide_eq_true c4
  clear c4
  simp only [Option.some.injEq, Prod.mk.injEq] at H
  obtain ⟨rfl, rfl, rfl⟩ := H
  go_enter Tryd.func38, Tryd.ntmps38
  go_wp2_with (first | ((with_reducible refine gate_callee (f := 28) rfl ?_); refine goesL_ (some 16) rfl rfl Tryd.func28 (by kernel_rfl) rfl #[.int .u8 a0] rfl pM ?_; (with_reducible refine (capnpref20_Ones.calls k a0 t293 _ A3.out).mono ?_); rintro e w' ⟨rfl, ⟨nd, rfl⟩⟩; refine ⟨_, rfl, ?_⟩))
  go_ret3
  exact ⟨by first | rfl | (simp [errW_none, errW_some] <;> rfl) | (simp [*, errW_none, errW_some] <;> rfl), pB⟩
 ·rw [if_neg c4] at H
  have c4b0 : decide ((l1.length : Int) < t293) = false := decide_eq_false c4
  clear c4
  have H' := Aside0.mk H
  clear H
  go_enter Tryd.func38, Tryd.ntmps38
  go_wp2_with (first | ((with_reducible refine gate_callee (f := 28) rfl ?_); refine goesL_ (some 16) rfl rfl Tryd.func28 (by kernel_rfl) rfl #[.int .u8 a0] rfl pM ?_; (with_reducible refine (capnpref20_Ones.calls k a0 t293 _ A3.out).mono ?_); rintro e w' ⟨rfl, ⟨nd, rfl⟩⟩; refine ⟨_, rfl, ?_⟩))
  go_loopg [8, 9, 10, 11] k (fun kq v8 v9 v10 v11 w' => ∃ (x8_1 : List Int) (x9_1 : Int) (x10_1 : Int) (x11_1 : Int), v9 = .int .i64 x9_1 ∧ v10 = .int .i64 x10_1 ∧ v11 = .int .i64 x11_1 ∧ Aside0 (capnpref20_Expand.l0 kq l1 t293 x8_1 x9_1 x10_1 x11_1 = some (r1, r2, r3)) ∧ Aside0 (kq ≤ k) ∧ Aside0 (Kd.R (Kd.int .u8) 5 w' w.heap.size (fun _ => True) v8 x8_1) ∧ Aside0 (Below w.heap.size w w'))
  case atStart => exact ⟨(([] : List Int)), (wrap64 (a0)), (0), (0), (by first | rfl | (simp; done) | (simp [*]; done)), (by first | rfl | (simp; done) | (simp [*]; done)), (by first | rfl | (simp; done) | (simp [*]; done)), H', ⟨Nat.le_refl _⟩, ⟨by first | exact Kd.R_nil _ _ _ _ _ | exact Kd.N_nil _ _ _ _ _ | exact Kd.V_nil _ _ _ _ _ | exact Kd.Q_nil _ _ _ _ _ | exact Kd.S_nil _ _ _ _ _⟩, ⟨pB⟩⟩
  case round =>
   clear H'
   try clear c1
   try clear c2
   try clear p2
   try clear c3
   try clear c4
   try clear c4b0
   obtain ⟨x8_1, x9_1, x10_1, x11_1, rfl, rfl, rfl, HA, HK1, HO_8, HB⟩ := hrel
   cases gk with
   | zero => exact absurd HA.out (by simp [capnpref20_Expand.l0])
   | succ k1 =>
    have H := HA.out
    clear HA
    simp only [capnpref20_Expand.l0] at H
    by_cases c5 : x11_1 < 8
    ·rw [if_pos c5] at H
     have c5b0 : decide (x11_1 < 8) = true := decide_eq_true c5
     clear c5
     by_cases c6 : (Int.tmod x9_1 2) = 1
     ·rw [if_pos c6] at H
      have c6b0 : ((Int.tmod x9_1 2) == 1) = true := beq_iff_eq.mpr c6
      have c6b1 : ((Int.tmod x9_1 2) != 1) = false := bne_eq_false_iff_eq.mpr c6
      clear c6
      by_cases c7 : 0 ≤ x10_1
      ·rw [if_pos c7] at H
       have c7b0 : decide (0 ≤ x10_1) = true := decide_eq_true c7
       clear c7
       by_cases c8 : x10_1 < (l1.length : Int)
       ·rw [if_pos c8] at H
        have c8b0 : decide (x10_1 < (l1.length : Int)) = true := decide_eq_true c8
        clear c8
        by_cases c9 : x8_1.length < 140737488355328
        ·rw [if_pos c9] at H
         have LMc9 := Aside0.mk c9
         clear c9
         obtain ⟨y295, hy295⟩ : ∃ y_ : List Int, y_ = (x8_1 ++ [rd l1 x10_1]) := ⟨_, rfl⟩
         replace H : (capnpref20_Expand.l0 k1 l1 t293 y295 (wrap64 (Int.tdiv x9_1 2)) (wrap64 (x10_1 + 1)) (wrap64 (x11_1 + 1))) = some (r1, r2, r3) := by first | (rw [hy295]; with_reducible exact H) | (have H2_ := (Option.bind_some _ _).symm.trans H; rw [hy295]; with_reducible exact H2_) | (have H2_ := (Option.bind_some _ _).symm.trans H; with_reducible exact H2_) | with_reducible exact H | (rw [hy295]; exact H) | exact H
         have Ny295 := Aside0.mk hy295
         clear hy295
         have H' := Aside0.mk H
         clear H
         have p294 : 0 ≤ (x10_1 : Int) := of_decide_eq_true pA
         have q294 : x10_1 < (l1.length : Int) := of_decide_eq_true pA
         obtain ⟨ad294, e294, hx294_0⟩ := Kd.at_int HR1.out x10_1 p294 q294
         cases e294
         replace hx294_0 := (HB.out.cell (World.block_lt_of_cell? w _ hx294_0)).trans hx294_0
         replace p294 := eq_true p294
         replace q294 := eq_true q294
         go_wp2_with (first | ((with_reducible refine gate_builtin (b := .append) (xs := #[.tmp 36, .tmp 38]) rfl ?_); at_builtin; refine Kd.R_append (Kd.int .u8) (w0 := w) w.heap.size rfl (.tmp 36) (.tmp 38) 22 5 (.int .u8 0) 1 rfl Tryd.underlying22 info5 rfl (by decide) (by omega) u8 x8_1 (rd l1 x10_1) [.int .u8 (rd l1 x10_1)] (fun _ => True) (fun _ => False) rfl rfl ?aP (fun _ hk => hk.elim) ?aF ?aO ?aB ?aS ?aL ?_; (case aP => exact rfl); (case aB => exact pB); (case aF => exact (fun _ _ => trivial)); (case aO => exact (pR HO_8)); (case aS => exact (below_size pB)); (case aL => have := LMc9.out; omega); intro v296 w10 ho hb hg hat; rw [← Ny295.out] at ho; have n0_ := Aside0.mk (hb); have n1_ := Aside0.mk (ho); clear HB; clear HO_8; have HB := n0_; have HO297 := n1_; clear n0_ n1_; clear ho hb hg hat))
         go_roundg k1
         case measure => have := HK1.out; omega
         case rel => exact ⟨(y295), (wrap64 (Int.tdiv x9_1 2)), (wrap64 (x10_1 + 1)), (wrap64 (x11_1 + 1)), (by first | rfl | (simp; done) | (simp [*]; done)), (by first | rfl | (simp; done) | (simp [*]; done)), (by first | rfl | (simp; done) | (simp [*]; done)), H', ⟨by have := HK1.out; omega⟩, ⟨pR HO297⟩, ⟨pB⟩⟩
        ·rw [if_neg c9] at H
         exact absurd H (by simp)
       ·rw [if_neg c8] at H
        exact absurd H (by simp)
      ·rw [if_neg c7] at H
       exact absurd H (by simp)
     ·rw [if_neg c6] at H
      have c6b0 : ((Int.tmod x9_1 2) == 1) = false := beq_eq_false_iff_ne.mpr c6
      have c6b1 : ((Int.tmod x9_1 2) != 1) = true := bne_iff_ne.mpr c6
      by_cases c11 : x8_1.length < 140737488355328
      ·rw [if_pos c11] at H
       have LMc11 := Aside0.mk c11
       clear c11
       obtain ⟨y298, hy298⟩ : ∃ y_ : List Int, y_ = (x8_1 ++ [0]) := ⟨_, rfl⟩
       replace H : (capnpref20_Expand.l0 k1 l1 t293 y298 (wrap64 (Int.tdiv x9_1 2)) x10_1 (wrap64 (x11_1 + 1))) = some (r1, r2, r3) := by first | (rw [hy298]; with_reducible exact H) | (have H2_ := (Option.bind_some _ _).symm.trans H; rw [hy298]; with_reducible exact H2_) | (have H2_ := (Option.bind_some _ _).symm.trans H; with_reducible exact H2_) | with_reducible exact H | (rw [hy298]; exact H) | exact H
       have Ny298 := Aside0.mk hy298
       clear hy298
       have H' := Aside0.mk H
       clear H
       go_wp2_with (first | ((with_reducible refine gate_builtin (b := .append) (xs := #[.tmp 36, .tmp 38]) rfl ?_); at_builtin; refine Kd.R_append (Kd.int .u8) (w0 := w) w.heap.size rfl (.tmp 36) (.tmp 38) 22 5 (.int .u8 0) 1 rfl Tryd.underlying22 info5 rfl (by decide) (by omega) u8 x8_1 0 [.int .u8 0] (fun _ => True) (fun _ => False) rfl rfl ?aP (fun _ hk => hk.elim) ?aF ?aO ?aB ?aS ?aL ?_; (case aP => exact rfl); (case aB => exact pB); (case aF => exact (fun _ _ => trivial)); (case aO => exact (pR HO_8)); (case aS => exact (below_size pB)); (case aL => have := LMc11.out; omega); intro v299 w12 ho hb hg hat; rw [← Ny298.out] at ho; have n0_ := Aside0.mk (hb); have n1_ := Aside0.mk (ho); clear HB; clear HO_8; have HB := n0_; have HO300 := n1_; clear n0_ n1_; clear ho hb hg hat))
       go_roundg k1
       case measure => have := HK1.out; omega
       case rel => exact ⟨(y298), (wrap64 (Int.tdiv x9_1 2)), (x10_1), (wrap64 (x11_1 + 1)), (by first | rfl | (simp; done) | (simp [*]; done)), (by first | rfl | (simp; done) | (simp [*]; done)), (by first | rfl | (simp; done) | (simp [*]; done)), H', ⟨by have := HK1.out; omega⟩, ⟨pR HO300⟩, ⟨pB⟩⟩
      ·rw [if_neg c11] at H
       exact absurd H (by simp)
    ·rw [if_neg c5] at H
     have c5b0 : decide (x11_1 < 8) = false := decide_eq_false c5
     clear c5
     replace H := Option.bind_eq_some_iff.mp H
     obtain ⟨⟨t301, t302⟩, A130, H⟩ := H
     replace H : (some (t301, t293, true)) = some (r1, r2, r3) := H
     have A13 := Aside0.mk A130
     clear A130
     simp only [Option.some.injEq, Prod.mk.injEq] at H
     obtain ⟨rfl, rfl, rfl⟩ := H
     obtain ⟨Ao14, co14, eo14⟩ := Kd.R_slice HO_8.out
     subst eo14
     go_wp2_with (first | ((with_reducible refine gate_callee (f := 39) rfl ?_); refine goesL_ (some 44) rfl rfl Tryd.func39 (by kernel_rfl) rfl #[.slice Ao14 x8_1.length co14, .int .i64 0] rfl pM ?_; (with_reducible refine (capnpref01_Get.calls k1 _ _ x8_1 0 t301 t302 _ ?side1 ?side2 A13.out).mono ?_); (case side1 => repeat (first | exact (Kd.R_reads' HO_8.out).2.2 | (with_reducible refine Kd.C_alloc ?_ _) | (with_reducible refine Kd.C_drewN ?_ _) | (with_reducible refine Kd.C_drew ?_))); (case side2 => exact (Kd.R_reads' HO_8.out).2.1); rintro e w' ⟨rfl, ⟨nd, rfl⟩⟩; refine ⟨_, rfl, ?_⟩))
     go_ret3
     exact ⟨by first | rfl | (simp [errW_none, errW_some] <;> rfl) | (simp [*, errW_none, errW_some] <;> rfl), pB⟩
mutual
def capnpref22_Decodable.l0 : Nat → List Int → List Int → Int → Option (List Int × Bool)
 | 0, _, _, _ => none
 | k + 1, x0, x4, x5 => if x5 < (x0.length : Int) then (if 0 ≤ x5 then (if (rd x0 x5) = 0 then (if (wrap64 (x5 + 1)) = (x0.length : Int) then (some (x4, true)) else (capnpref22_Decodable.l1 k x0 x4 (wrap64 (x5 + 1)) 0)) else (if 0 ≤ (wrap64 (x5 + 1)) then (if (wrap64 (x5 + 1)) ≤ (x0.length : Int) then ((capnpref20_Expand.f k (rd x0 x5) (x0.drop ((wrap64 (x5 + 1)) : Int).toNat)).bind fun bt309 => (if bt309.2.2 = true then (if x4.length < 17592186044416 then ((some (x4 ++ [bt309.1] : List Int)).bind fun y312 => (if (rd x0 x5) = 255 then (if (wrap64 ((wrap64 (x5 + 1)) + bt309.2.1)) = (x0.length : Int) then (some (y312, true)) else (if 0 ≤ (wrap64 ((wrap64 (x5 + 1)) + bt309.2.1)) then (if (wrap64 ((wrap64 (x5 + 1)) + bt309.2.1)) < (x0.length : Int) then (capnpref22_Decodable.l2 k x0 y312 (wrap64 ((wrap64 ((wrap64 (x5 + 1)) + bt309.2.1)) + 1)) (wrap64 (rd x0 (wrap64 ((wrap64 (x5 + 1)) + bt309.2.1)))) 0) else (none)) else (none))) else (capnpref22_Decodable.l0 k x0 y312 (wrap64 ((wrap64 (x5 + 1)) + bt309.2.1))))) else (none)) else (some (x4, true)))) else (none)) else (none))) else (none)) else (some (x4, false))
def capnpref22_Decodable.l1 : Nat → List Int → List Int → Int → Int → Option (List Int × Bool)
 | 0, _, _, _, _ => none
 | k + 1, x0, x4, x5, x7 => if 0 ≤ x5 then (if x5 < (x0.length : Int) then (if x7 ≤ (wrap64 (rd x0 x5)) then (if x4.length < 17592186044416 then (capnpref22_Decodable.l1 k x0 (x4 ++ [0]) x5 (wrap64 (x7 + 1))) else (none)) else (capnpref22_Decodable.l0 k x0 x4 (wrap64 (x5 + 1)))) else (none)) else (none)
def capnpref22_Decodable.l2 : Nat → List Int → List Int → Int → Int → Int → Option (List Int × Bool)
 | 0, _, _, _, _, _ => none
 | k + 1, x0, x4, x5, x11, x12 => if x12 < x11 then (if 0 ≤ x5 then (if x5 ≤ (x0.length : Int) then ((capnpref01_Get.f k (x0.drop (x5 : Int).toNat) 0).bind fun bt317 => (if bt317.2 = true then (if x4.length < 17592186044416 then (capnpref22_Decodable.l2 k x0 (x4 ++ [bt317.1]) (wrap64 (x5 + 8)) x11 (wrap64 (x12 + 1))) else (none)) else (some (x4, true)))) else (none)) else (none)) else (capnpref22_Decodable.l0 k x0 x4 x5)
end
def capnpref22_Decodable.f (k : Nat) (l0 : List Int) : Option (List Int × Bool) := capnpref22_Decodable.l0 k l0 ([] : List Int) 0
theorem capnpref22_Decodable.mono_l : ∀ k, (∀ y0 y1 y2, LeO (capnpref22_Decodable.l0 k y0 y1 y2) (capnpref22_Decodable.l0 (k + 1) y0 y1 y2)) ∧ (∀ y0 y1 y2 y3, LeO (capnpref22_Decodable.l1 k y0 y1 y2 y3) (capnpref22_Decodable.l1 (k + 1) y0 y1 y2 y3)) ∧ (∀ y0 y1 y2 y3 y4, LeO (capnpref22_Decodable.l2 k y0 y1 y2 y3 y4) (capnpref22_Decodable.l2 (k + 1) y0 y1 y2 y3 y4))
 | 0 => ⟨fun _ _ _ r h => by simp [capnpref22_Decodable.l0] at h, fun _ _ _ _ r h => by simp [capnpref22_Decodable.l1] at h, fun _ _ _ _ _ r h => by simp [capnpref22_Decodable.l2] at h⟩
 | k + 1 => by
  obtain ⟨ih0, ih1, ih2⟩ := capnpref22_Decodable.mono_l k
  refine ⟨?_, ?_, ?_⟩
  ·intro y0 y1 y2
   unfold capnpref22_Decodable.l0
   repeat' first
   | (with_reducible exact ih0 _ _ _)
   | (with_reducible exact ih1 _ _ _ _)
   | (with_reducible exact ih2 _ _ _ _ _)
   | (with_reducible exact capnpref01_Get.mono _ _ _)
   | (with_reducible exact capnpref20_Expand.mono _ _ _)
   | (with_reducible exact LeO.refl _)
   | (with_reducible exact LeO.none _)
   | (with_reducible refine LeO.ite ?_ ?_)
   | (with_reducible refine LeO.bind ?_ (fun _ => ?_))
   | exact ih0 _ _ _
   | exact ih1 _ _ _ _
   | exact ih2 _ _ _ _ _
   | exact capnpref01_Get.mono _ _ _
   | exact capnpref20_Expand.mono _ _ _
   | exact LeO.none _
   | refine LeO.ite ?_ ?_
   | refine LeO.bind ?_ (fun _ => ?_)
  ·intro y0 y1 y2 y3
   unfold capnpref22_Decodable.l1
   repeat' first
   | (with_reducible exact ih0 _ _ _)
   | (with_reducible exact ih1 _ _ _ _)
   | (with_reducible exact ih2 _ _ _ _ _)
   | (with_reducible exact capnpref01_Get.mono _ _ _)
   | (with_reducible exact capnpref20_Expand.mono _ _ _)
   | (with_reducible exact LeO.refl _)
   | (with_reducible exact LeO.none _)
   | (with_reducible refine LeO.ite ?_ ?_)
   | (with_reducible refine LeO.bind ?_ (fun _ => ?_))
   | exact ih0 _ _ _
   | exact ih1 _ _ _ _
   | exact ih2 _ _ _ _ _
   | exact capnpref01_Get.mono _ _ _
   | exact capnpref20_Expand.mono _ _ _
   | exact LeO.none _
   | refine LeO.ite ?_ ?_
   | refine LeO.bind ?_ (fun _ => ?_)
  ·intro y0 y1 y2 y3 y4
   unfold capnpref22_Decodable.l2
   repeat' first
   | (with_reducible exact ih0 _ _ _)
   | (with_reducible exact ih1 _ _ _ _)
   | (with_reducible exact ih2 _ _ _ _ _)
   | (with_reducible exact capnpref01_Get.mono _ _ _)
   | (with_reducible exact capnpref20_Expand.mono _ _ _)
   | (with_reducible exact LeO.refl _)
   | (with_reducible exact LeO.none _)
   | (with_reducible refine LeO.ite ?_ ?_)
   | (with_reducible refine LeO.bind ?_ (fun _ => ?_))
   | exact ih0 _ _ _
   | exact ih1 _ _ _ _
   | exact ih2 _ _ _ _ _
   | exact capnpref01_Get.mono _ _ _
   | exact capnpref20_Expand.mono _ _ _
   | exact LeO.none _
   | refine LeO.ite ?_ ?_
   | refine LeO.bind ?_ (fun _ => ?_)
theorem capnpref22_Decodable.mono : ∀ a0 k, LeO (capnpref22_Decodable.f k a0) (capnpref22_Decodable.f (k + 1) a0) := by
 intro a0 k
 obtain ⟨ih0, ih1, ih2⟩ := capnpref22_Decodable.mono_l k
 unfold capnpref22_Decodable.f
 repeat' first
   | (with_reducible exact ih0 _ _ _)
   | (with_reducible exact ih1 _ _ _ _)
   | (with_reducible exact ih2 _ _ _ _ _)
   | (with_reducible exact capnpref01_Get.mono _ _ _)
   | (with_reducible exact capnpref20_Expand.mono _ _ _)
   | (with_reducible exact LeO.refl _)
   | (with_reducible exact LeO.none _)
   | (with_reducible refine LeO.ite ?_ ?_)
   | (with_reducible refine LeO.bind ?_ (fun _ => ?_))
   | exact ih0 _ _ _
   | exact ih1 _ _ _ _
   | exact ih2 _ _ _ _ _
   | exact capnpref01_Get.mono _ _ _
   | exact capnpref20_Expand.mono _ _ _
   | exact LeO.none _
   | refine LeO.ite ?_ ?_
   | refine LeO.bind ?_ (fun _ => ?_)
theorem capnpref22_Decodable.calls (k : Nat) (A0 : Option Addr) (c0 : Nat) (l0 : List Int) (r1 : List Int) (r2 : Bool) (w : World) (hr0 : Kd.C (Kd.int .u8) w A0 l0.length l0) (hc0 : l0.length ≤ c0) (h : capnpref22_Decodable.f k l0 = some (r1, r2)) :
  Calls Tryd.prog 22 #[.slice A0 l0.length c0] w fun e w' => ∃ v0_ : Value, e = .returned (.tuple #[v0_, .bool r2]) ∧ Kd.R (Kd.int .u64) 37 w' w.heap.size (fun _ => True) v0_ r1 ∧ Below w.heap.size w w' := by
 have HR0 := Aside0.mk hr0
 have HC0 := Aside0.mk hc0
 clear hr0 hc0
 have HB := Aside0.mk (Below.refl w.heap.size w)
 have H : (capnpref22_Decodable.l0 k l0 ([] : List Int) 0) = some (r1, r2) := h
 clear h
 have H' := Aside0.mk H
 clear H
 go_enter Tryd.func22, Tryd.ntmps22
 go_wp2
 go_loopg [4, 5] k (fun kq v4 v5 w' => ∃ (x4_1 : List Int) (x5_1 : Int), v5 = .int .i64 x5_1 ∧ Aside0 (capnpref22_Decodable.l0 kq l0 x4_1 x5_1 = some (r1, r2)) ∧ Aside0 (kq ≤ k) ∧ Aside0 (Kd.R (Kd.int .u64) 37 w' w.heap.size (fun _ => True) v4 x4_1) ∧ Aside0 (Below w.heap.size w w'))
 case atStart => exact ⟨(([] : List Int)), (0), (by first | rfl | (simp; done) | (simp [*]; done)), H', ⟨Nat.le_refl _⟩, ⟨by first | exact Kd.R_nil _ _ _ _ _ | exact Kd.N_nil _ _ _ _ _ | exact Kd.V_nil _ _ _ _ _ | exact Kd.Q_nil _ _ _ _ _ | exact Kd.S_nil _ _ _ _ _⟩, ⟨pB⟩⟩
 case round =>
  clear H'
  obtain ⟨x4_1, x5_1, rfl, HA, HK1, HO_4, HB⟩ := hrel
  cases gk with
  | zero => exact absurd HA.out (by simp [capnpref22_Decodable.l0])
  | succ k1 =>
   have H := HA.out
   clear HA
   simp only [capnpref22_Decodable.l0] at H
   by_cases c2 : x5_1 < (l0.length : Int)
   ·rw [if_pos c2] at H
    have c2b0 : decide (x5_1 < (l0.length : Int)) = true := decide_eq_true c2
    clear c2
    by_cases c3 : 0 ≤ x5_1
    ·rw [if_pos c3] at H
     have c3b0 : decide (0 ≤ x5_1) = true := decide_eq_true c3
     clear c3
     by_cases c4 : (rd l0 x5_1) = 0
     ·rw [if_pos c4] at H
      have c4b0 : ((rd l0 x5_1) == 0) = true := beq_iff_eq.mpr c4
      have c4b1 : ((rd l0 x5_1) != 0) = false := bne_eq_false_iff_eq.mpr c4
      clear c4
      by_cases c5 : (wrap64 (x5_1 + 1)) = (l0.length : Int)
      ·rw [if_pos c5] at H
       have c5b0 : ((wrap64 (x5_1 + 1)) == (l0.length : Int)) = true := beq_iff_eq.mpr c5
       have c5b1 : ((wrap64 (x5_1 + 1)) != (l0.length : Int)) = false := bne_eq_false_iff_eq.mpr c5
       clear c5
       simp only [Option.some.injEq, Prod.mk.injEq] at H
       obtain ⟨rfl, rfl⟩ := H
       have p303 : 0 ≤ (x5_1 : Int) := of_decide_eq_true pA
       have q303 : x5_1 < (l0.length : Int) := of_decide_eq_true pA
       obtain ⟨ad303, e303, hx303_0⟩ := Kd.at_int HR0.out x5_1 p303 q303
       cases e303
       replace hx303_0 := (HB.out.cell (World.block_lt_of_cell? w _ hx303_0)).trans hx303_0
       replace p303 := eq_true p303
       replace q303 := eq_true q303
       go_wp2
       go_ret2
       exact ⟨_, by first | rfl | (simp [errW_none, errW_some] <;> rfl) | (simp [*, errW_none, errW_some] <;> rfl), by (with_reducible repeat (first | apply Kd.R_alloc | apply Kd.R_drewN | apply Kd.R_drew)); exact HO_4.out, pB⟩
      ·rw [if_neg c5] at H
       have c5b0 : ((wrap64 (x5_1 + 1)) == (l0.length : Int)) = false := beq_eq_false_iff_ne.mpr c5
       have c5b1 : ((wrap64 (x5_1 + 1)) != (l0.length : Int)) = true := bne_iff_ne.mpr c5
       have H' := Aside0.mk H
       clear H
       have p303 : 0 ≤ (x5_1 : Int) := of_decide_eq_true pA
       have q303 : x5_1 < (l0.length : Int) := of_decide_eq_true pA
       obtain ⟨ad303, e303, hx303_0⟩ := Kd.at_int HR0.out x5_1 p303 q303
       cases e303
       replace hx303_0 := (HB.out.cell (World.block_lt_of_cell? w _ hx303_0)).trans hx303_0
       replace p303 := eq_true p303
       replace q303 := eq_true q303
       go_wp2
       go_loopg [4, 7] k1 (fun kq v4 v7 w' => ∃ (x4_2 : List Int) (x7_2 : Int), v7 = .int .i64 x7_2 ∧ Aside0 (capnpref22_Decodable.l1 kq l0 x4_2 (wrap64 (x5_1 + 1)) x7_2 = some (r1, r2)) ∧ Aside0 (kq ≤ k1) ∧ Aside0 (Kd.R (Kd.int .u64) 37 w' w.heap.size (fun _ => True) v4 x4_2) ∧ Aside0 (Below w.heap.size w w'))
       case atStart => exact ⟨(x4_1), (0), (by first | rfl | (simp; done) | (simp [*]; done)), H', ⟨Nat.le_refl _⟩, ⟨pR HO_4⟩, ⟨pB⟩⟩
       case round =>
        clear H'
        try clear c2
        try clear c2b0
        try clear p2
        try clear c3
        try clear c3b0
        try clear p3
        try clear q3
        try clear hx3
        try clear c4
        try clear c4b0
        try clear c4b1
        try clear c5
        try clear c5b0
        try clear c5b1
        try clear hx303_0
        try clear p303
        try clear q303
        obtain ⟨x4_2, x7_2, rfl, HA, HK2, HO_4, HB⟩ := hrel
        cases gk with
        | zero => exact absurd HA.out (by simp [capnpref22_Decodable.l1])
        | succ k2 =>
         have H := HA.out
         clear HA
         simp only [capnpref22_Decodable.l1] at H
         obtain ⟨ji6, hji6⟩ : ∃ j_ : Int, (wrap64 (x5_1 + 1)) = j_ := ⟨_, rfl⟩
         replace H : (if 0 ≤ (ji6) then (if (ji6) < (l0.length : Int) then (if x7_2 ≤ (wrap64 (rd l0 (ji6))) then (if x4_2.length < 17592186044416 then (capnpref22_Decodable.l1 k2 l0 (x4_2 ++ [0]) (ji6) (wrap64 (x7_2 + 1))) else (none)) else (capnpref22_Decodable.l0 k2 l0 x4_2 (wrap64 ((ji6) + 1)))) else (none)) else (none)) = some (r1, r2) := by first | (rw [hji6] at H; exact H) | (simp only [hji6] at H ⊢; exact H)
         (try rw [hji6] at c5b0)
         (try rw [hji6] at c5b1)
         have hji6w : (IntKind.i64.wrap (x5_1 + 1)) = ji6 := (i64_w _).trans hji6
         by_cases c7 : 0 ≤ (ji6)
         ·rw [if_pos c7] at H
          have c7b0 : decide (0 ≤ (ji6)) = true := decide_eq_true c7
          clear c7
          by_cases c8 : (ji6) < (l0.length : Int)
          ·rw [if_pos c8] at H
           have c8b0 : decide ((ji6) < (l0.length : Int)) = true := decide_eq_true c8
           clear c8
           by_cases c9 : x7_2 ≤ (wrap64 (rd l0 (ji6)))
           ·rw [if_pos c9] at H
            have c9b0 : decide (x7_2 ≤ (wrap64 (rd l0 (ji6)))) = true := decide_eq_true c9
            clear c9
            by_cases c10 : x4_2.length < 17592186044416
            ·rw [if_pos c10] at H
             have LMc10 := Aside0.mk c10
             clear c10
             obtain ⟨y305, hy305⟩ : ∃ y_ : List Int, y_ = (x4_2 ++ [0]) := ⟨_, rfl⟩
             replace H : (capnpref22_Decodable.l1 k2 l0 y305 (ji6) (wrap64 (x7_2 + 1))) = some (r1, r2) := by first | (rw [hy305]; with_reducible exact H) | (have H2_ := (Option.bind_some _ _).symm.trans H; rw [hy305]; with_reducible exact H2_) | (have H2_ := (Option.bind_some _ _).symm.trans H; with_reducible exact H2_) | with_reducible exact H | (rw [hy305]; exact H) | exact H
             have Ny305 := Aside0.mk hy305
             clear hy305
             have H' := Aside0.mk H
             clear H
             have p304 : 0 ≤ ((ji6) : Int) := of_decide_eq_true pA
             have q304 : (ji6) < (l0.length : Int) := of_decide_eq_true pA
             obtain ⟨ad304, e304, hx304_0⟩ := Kd.at_int HR0.out (ji6) p304 q304
             obtain rfl : ad303 = ad304 := (by injection e304)
             replace hx304_0 := (HB.out.cell (World.block_lt_of_cell? w _ hx304_0)).trans hx304_0
             replace p304 := eq_true p304
             replace q304 := eq_true q304
             go_wp2_with (first | ((with_reducible refine gate_builtin (b := .append) (xs := #[.tmp 41, .tmp 42]) rfl ?_); at_builtin; refine Kd.R_append (Kd.int .u64) (w0 := w) w.heap.size rfl (.tmp 41) (.tmp 42) 23 37 (.int .u64 0) 8 rfl Tryd.underlying23 info37 rfl (by decide) (by omega) u4 x4_2 0 [.int .u64 0] (fun _ => True) (fun _ => False) rfl rfl ?aP (fun _ hk => hk.elim) ?aF ?aO ?aB ?aS ?aL ?_; (case aP => exact rfl); (case aB => exact pB); (case aF => exact (fun _ _ => trivial)); (case aO => exact (pR HO_4)); (case aS => exact (below_size pB)); (case aL => have := LMc10.out; omega); intro v306 w11 ho hb hg hat; rw [← Ny305.out] at ho; have n0_ := Aside0.mk (hb); have n1_ := Aside0.mk (ho); clear HB; clear HO_4; have HB := n0_; have HO307 := n1_; clear n0_ n1_; clear ho hb hg hat))
             (first | go_roundg k2 | ((try subst hji6); go_roundg k2))
             case measure => have := HK1.out; have := HK2.out; omega
             case rel => exact ⟨(y305), (wrap64 (x7_2 + 1)), (by first | rfl | (simp; done) | (simp [*]; done)), H', ⟨by have := HK1.out; have := HK2.out; omega⟩, ⟨pR HO307⟩, ⟨pB⟩⟩
            ·rw [if_neg c10] at H
             exact absurd H (by simp)
           ·rw [if_neg c9] at H
            have c9b0 : decide (x7_2 ≤ (wrap64 (rd l0 (ji6)))) = false := decide_eq_false c9
            clear c9
            have H' := Aside0.mk H
            clear H
            have p304 : 0 ≤ ((ji6) : Int) := of_decide_eq_true pA
            have q304 : (ji6) < (l0.length : Int) := of_decide_eq_true pA
            obtain ⟨ad304, e304, hx304_0⟩ := Kd.at_int HR0.out (ji6) p304 q304
            obtain rfl : ad303 = ad304 := (by injection e304)
            replace hx304_0 := (HB.out.cell (World.block_lt_of_cell? w _ hx304_0)).trans hx304_0
            replace p304 := eq_true p304
            replace q304 := eq_true q304
            go_wp2
            (first | go_roundg k2 | ((try subst hji6); go_roundg k2))
            case measure => have := HK1.out; have := HK2.out; omega
            case rel => exact ⟨(x4_2), (wrap64 ((ji6) + 1)), (by first | rfl | (simp; done) | (simp only [← hji6] <;> (first | rfl | simp)) | (simp [*]; done)), H', ⟨by have := HK1.out; have := HK2.out; omega⟩, ⟨pR HO_4⟩, ⟨pB⟩⟩
          ·rw [if_neg c8] at H
           exact absurd H (by simp)
         ·rw [if_neg c7] at H
          exact absurd H (by simp)
     ·rw [if_neg c4] at H
      have c4b0 : ((rd l0 x5_1) == 0) = false := beq_eq_false_iff_ne.mpr c4
      have c4b1 : ((rd l0 x5_1) != 0) = true := bne_iff_ne.mpr c4
      try subst hji6
      obtain ⟨ji12, hji12⟩ : ∃ j_ : Int, (wrap64 (x5_1 + 1)) = j_ := ⟨_, rfl⟩
      replace H : (if 0 ≤ (ji12) then (if (ji12) ≤ (l0.length : Int) then ((capnpref20_Expand.f k1 (rd l0 x5_1) (l0.drop ((ji12) : Int).toNat)).bind fun bt309 => (if bt309.2.2 = true then (if x4_1.length < 17592186044416 then ((some (x4_1 ++ [bt309.1] : List Int)).bind fun y312 => (if (rd l0 x5_1) = 255 then (if (wrap64 ((ji12) + bt309.2.1)) = (l0.length : Int) then (some (y312, true)) else (if 0 ≤ (wrap64 ((ji12) + bt309.2.1)) then (if (wrap64 ((ji12) + bt309.2.1)) < (l0.length : Int) then (capnpref22_Decodable.l2 k1 l0 y312 (wrap64 ((wrap64 ((ji12) + bt309.2.1)) + 1)) (wrap64 (rd l0 (wrap64 ((ji12) + bt309.2.1)))) 0) else (none)) else (none))) else (capnpref22_Decodable.l0 k1 l0 y312 (wrap64 ((ji12) + bt309.2.1))))) else (none)) else (some (x4_1, true)))) else (none)) else (none)) = some (r1, r2) := by first | (rw [hji12] at H; exact H) | (simp only [hji12] at H ⊢; exact H)
      have hji12w : (IntKind.i64.wrap (x5_1 + 1)) = ji12 := (i64_w _).trans hji12
      by_cases c13 : 0 ≤ (ji12)
      ·rw [if_pos c13] at H
       have c13b0 := eq_true c13
       have c13b1 : decide (0 ≤ (ji12)) = true := decide_eq_true c13
       clear c13
       by_cases c14 : (ji12) ≤ (l0.length : Int)
       ·rw [if_pos c14] at H
        have c14b0 := eq_true c14
        have c14b1 : decide ((ji12) ≤ (l0.length : Int)) = true := decide_eq_true c14
        clear c14
        replace H := Option.bind_eq_some_iff.mp H
        obtain ⟨⟨t309, t310, t311⟩, A150, H⟩ := H
        replace H : (if t311 = true then (if x4_1.length < 17592186044416 then ((some (x4_1 ++ [t309] : List Int)).bind fun y312 => (if (rd l0 x5_1) = 255 then (if (wrap64 ((ji12) + t310)) = (l0.length : Int) then (some (y312, true)) else (if 0 ≤ (wrap64 ((ji12) + t310)) then (if (wrap64 ((ji12) + t310)) < (l0.length : Int) then (capnpref22_Decodable.l2 k1 l0 y312 (wrap64 ((wrap64 ((ji12) + t310)) + 1)) (wrap64 (rd l0 (wrap64 ((ji12) + t310)))) 0) else (none)) else (none))) else (capnpref22_Decodable.l0 k1 l0 y312 (wrap64 ((ji12) + t310))))) else (none)) else (some (x4_1, true))) = some (r1, r2) := H
        have A15 := Aside0.mk A150
        clear A150
        by_cases c16 : t311 = true
        ·subst c16
         have H1 : (if x4_1.length < 17592186044416 then ((some (x4_1 ++ [t309] : List Int)).bind fun y312 => (if (rd l0 x5_1) = 255 then (if (wrap64 ((ji12) + t310)) = (l0.length : Int) then (some (y312, true)) else (if 0 ≤ (wrap64 ((ji12) + t310)) then (if (wrap64 ((ji12) + t310)) < (l0.length : Int) then (capnpref22_Decodable.l2 k1 l0 y312 (wrap64 ((wrap64 ((ji12) + t310)) + 1)) (wrap64 (rd l0 (wrap64 ((ji12) + t310)))) 0) else (none)) else (none))) else (capnpref22_Decodable.l0 k1 l0 y312 (wrap64 ((ji12) + t310))))) else (none)) = some (r1, r2) := by rw [if_pos rfl] at H; exact H
         clear H
         have H := H1
         clear H1
         by_cases c17 : x4_1.length < 17592186044416
         ·rw [if_pos c17] at H
          have LMc17 := Aside0.mk c17
          clear c17
          obtain ⟨y312, hy312⟩ : ∃ y_ : List Int, y_ = (x4_1 ++ [t309]) := ⟨_, rfl⟩
          replace H : (if (rd l0 x5_1) = 255 then (if (wrap64 ((ji12) + t310)) = (l0.length : Int) then (some (y312, true)) else (if 0 ≤ (wrap64 ((ji12) + t310)) then (if (wrap64 ((ji12) + t310)) < (l0.length : Int) then (capnpref22_Decodable.l2 k1 l0 y312 (wrap64 ((wrap64 ((ji12) + t310)) + 1)) (wrap64 (rd l0 (wrap64 ((ji12) + t310)))) 0) else (none)) else (none))) else (capnpref22_Decodable.l0 k1 l0 y312 (wrap64 ((ji12) + t310)))) = some (r1, r2) := by first | (rw [hy312]; with_reducible exact H) | (have H2_ := (Option.bind_some _ _).symm.trans H; rw [hy312]; with_reducible exact H2_) | (have H2_ := (Option.bind_some _ _).symm.trans H; with_reducible exact H2_) | with_reducible exact H | (rw [hy312]; exact H) | exact H
          have Ny312 := Aside0.mk hy312
          clear hy312
          by_cases c18 : (rd l0 x5_1) = 255
          ·rw [if_pos c18] at H
           have c18b0 : ((rd l0 x5_1) == 255) = true := beq_iff_eq.mpr c18
           have c18b1 : ((rd l0 x5_1) != 255) = false := bne_eq_false_iff_eq.mpr c18
           clear c18
           by_cases c19 : (wrap64 ((ji12) + t310)) = (l0.length : Int)
           ·rw [if_pos c19] at H
            have c19b0 : ((wrap64 ((ji12) + t310)) == (l0.length : Int)) = true := beq_iff_eq.mpr c19
            have c19b1 : ((wrap64 ((ji12) + t310)) != (l0.length : Int)) = false := bne_eq_false_iff_eq.mpr c19
            clear c19
            simp only [Option.some.injEq, Prod.mk.injEq] at H
            obtain ⟨rfl, rfl⟩ := H
            have p303 : 0 ≤ (x5_1 : Int) := of_decide_eq_true pA
            have q303 : x5_1 < (l0.length : Int) := of_decide_eq_true pA
            obtain ⟨ad303, e303, hx303_0⟩ := Kd.at_int HR0.out x5_1 p303 q303
            cases e303
            replace hx303_0 := (HB.out.cell (World.block_lt_of_cell? w _ hx303_0)).trans hx303_0
            replace p303 := eq_true p303
            replace q303 := eq_true q303
            obtain ⟨i020, hi020, _, hsz20, _⟩ := info_parts info5
            obtain ⟨A20, hcut20, hA20, hC20⟩ := print_drop_of (P := Tryd.prog) (Value.int .u8) 0 22 5 .i64 Tryd.underlying22 hi020 hsz20 (some ad303) c0 l0 (ji12) (of_decide_eq_true pA) (of_decide_eq_true pA) HC0.out
            have HR308 := Aside0.mk (Kd.C_of_reads (h1 := fun _ => rfl) (hA20 _ (Kd.reads_of_C HR0.out)))
            have HC308 := Aside0.mk hC20
            clear hA20 hC20 hi020 hsz20
            go_wp2_with (first | ((with_reducible refine gate_callee (f := 38) rfl ?_); refine goesL_ (some 51) rfl rfl Tryd.func38 (by kernel_rfl) rfl #[.int .u8 (rd l0 x5_1), .slice A20 (l0.drop ((ji12) : Int).toNat).length (c0 - (ji12).toNat)] rfl (by (try simp only [List.map_toArray, List.map_cons, List.map_nil]); first | done | (rw [show (l0.drop ((ji12) : Int).toNat).length = (l0.length - (ji12).toNat) from List.length_drop] <;> rfl) | (simp only [hji12]; rfl) | rfl | (simp only [List.length_drop, List.length_take]; rfl)) ?_; (with_reducible refine (capnpref20_Expand.calls k1 (rd l0 x5_1) _ _ (l0.drop ((ji12) : Int).toNat) t309 t310 true _ ?side1 ?side2 A15.out).mono ?_); (case side1 => repeat (first | exact (Kd.C_below HR308.out HB.out) | (with_reducible refine Kd.C_alloc ?_ _) | (with_reducible refine Kd.C_drewN ?_ _) | (with_reducible refine Kd.C_drew ?_))); (case side2 => exact HC308.out); rintro e w21 ⟨rfl, hb⟩; refine ⟨_, rfl, ?_⟩; have n0_ := Aside0.mk (Kd.R_below (pR HO_4) hb); have n1_ := Aside0.mk (below_step pB hb); clear HO_4; clear HB; have HO_4 := n0_; have HB := n1_; clear n0_ n1_; (try clear hb); (try clear hb2); (try clear hk); (try clear hi)) | ((with_reducible refine gate_builtin (b := .append) (xs := #[.tmp 58, .tmp 60]) rfl ?_); at_builtin; refine Kd.R_append (Kd.int .u64) (w0 := w) w.heap.size rfl (.tmp 58) (.tmp 60) 23 37 (.int .u64 0) 8 rfl Tryd.underlying23 info37 rfl (by decide) (by omega) u4 x4_1 t309 [.int .u64 t309] (fun _ => True) (fun _ => False) rfl rfl ?aP (fun _ hk => hk.elim) ?aF ?aO ?aB ?aS ?aL ?_; (case aP => exact rfl); (case aB => exact pB); (case aF => exact (fun _ _ => trivial)); (case aO => exact (pR HO_4)); (case aS => exact (below_size pB)); (case aL => have := LMc17.out; omega); intro v313 w22 ho hb hg hat; rw [← Ny312.out] at ho; have n0_ := Aside0.mk (hb); have n1_ := Aside0.mk (ho); clear HB; clear HO_4; have HB := n0_; have HO314 := n1_; clear n0_ n1_; clear ho hb hg hat))
            go_ret2
            exact ⟨_, by first | rfl | (simp [errW_none, errW_some] <;> rfl) | (simp only [← hji12]; first | rfl | (simp [errW_none, errW_some] <;> rfl)) | (simp [*, errW_none, errW_some] <;> rfl), by (with_reducible repeat (first | apply Kd.R_alloc | apply Kd.R_drewN | apply Kd.R_drew)); exact HO314.out, pB⟩
           ·rw [if_neg c19] at H
            have c19b0 : ((wrap64 ((ji12) + t310)) == (l0.length : Int)) = false := beq_eq_false_iff_ne.mpr c19
            have c19b1 : ((wrap64 ((ji12) + t310)) != (l0.length : Int)) = true := bne_iff_ne.mpr c19
            obtain ⟨ji23, hji23⟩ : ∃ j_ : Int, (wrap64 ((ji12) + t310)) = j_ := ⟨_, rfl⟩
            replace H : (if 0 ≤ (ji23) then (if (ji23) < (l0.length : Int) then (capnpref22_Decodable.l2 k1 l0 y312 (wrap64 ((ji23) + 1)) (wrap64 (rd l0 (ji23))) 0) else (none)) else (none)) = some (r1, r2) := by first | (rw [hji23] at H; exact H) | (simp only [hji23] at H ⊢; exact H)
            (try rw [hji23] at c19b0)
            (try rw [hji23] at c19b1)
            (try rw [hji23] at A15)
            have hji23w : (IntKind.i64.wrap ((ji12) + t310)) = ji23 := (i64_w _).trans hji23
            by_cases c24 : 0 ≤ (ji23)
            ·rw [if_pos c24] at H
             have c24b0 : decide (0 ≤ (ji23)) = true := decide_eq_true c24
             clear c24
             by_cases c25 : (ji23) < (l0.length : Int)
             ·rw [if_pos c25] at H
              have c25b0 : decide ((ji23) < (l0.length : Int)) = true := decide_eq_true c25
              clear c25
              have H' := Aside0.mk H
              clear H
              have p303 : 0 ≤ (x5_1 : Int) := of_decide_eq_true pA
              have q303 : x5_1 < (l0.length : Int) := of_decide_eq_true pA
              obtain ⟨ad303, e303, hx303_0⟩ := Kd.at_int HR0.out x5_1 p303 q303
              cases e303
              replace hx303_0 := (HB.out.cell (World.block_lt_of_cell? w _ hx303_0)).trans hx303_0
              replace p303 := eq_true p303
              replace q303 := eq_true q303
              obtain ⟨i026, hi026, _, hsz26, _⟩ := info_parts info5
              obtain ⟨A26, hcut26, hA26, hC26⟩ := print_drop_of (P := Tryd.prog) (Value.int .u8) 0 22 5 .i64 Tryd.underlying22 hi026 hsz26 (some ad303) c0 l0 (ji12) (of_decide_eq_true pA) (of_decide_eq_true pA) HC0.out
              have HR308 := Aside0.mk (Kd.C_of_reads (h1 := fun _ => rfl) (hA26 _ (Kd.reads_of_C HR0.out)))
              have HC308 := Aside0.mk hC26
              clear hA26 hC26 hi026 hsz26
              go_wp2_with (first | ((with_reducible refine gate_callee (f := 38) rfl ?_); refine goesL_ (some 51) rfl rfl Tryd.func38 (by kernel_rfl) rfl #[.int .u8 (rd l0 x5_1), .slice A26 (l0.drop ((ji12) : Int).toNat).length (c0 - (ji12).toNat)] rfl (by (try simp only [List.map_toArray, List.map_cons, List.map_nil]); first | done | (rw [show (l0.drop ((ji12) : Int).toNat).length = (l0.length - (ji12).toNat) from List.length_drop] <;> rfl) | (simp only [hji12]; rfl) | rfl | (simp only [List.length_drop, List.length_take]; rfl)) ?_; (with_reducible refine (capnpref20_Expand.calls k1 (rd l0 x5_1) _ _ (l0.drop ((ji12) : Int).toNat) t309 t310 true _ ?side1 ?side2 A15.out).mono ?_); (case side1 => repeat (first | exact (Kd.C_below HR308.out HB.out) | (with_reducible refine Kd.C_alloc ?_ _) | (with_reducible refine Kd.C_drewN ?_ _) | (with_reducible refine Kd.C_drew ?_))); (case side2 => exact HC308.out); rintro e w27 ⟨rfl, hb⟩; refine ⟨_, rfl, ?_⟩; have n0_ := Aside0.mk (Kd.R_below (pR HO_4) hb); have n1_ := Aside0.mk (below_step pB hb); clear HO_4; clear HB; have HO_4 := n0_; have HB := n1_; clear n0_ n1_; (try clear hb); (try clear hb2); (try clear hk); (try clear hi)) | ((with_reducible refine gate_builtin (b := .append) (xs := #[.tmp 58, .tmp 60]) rfl ?_); at_builtin; refine Kd.R_append (Kd.int .u64) (w0 := w) w.heap.size rfl (.tmp 58) (.tmp 60) 23 37 (.int .u64 0) 8 rfl Tryd.underlying23 info37 rfl (by decide) (by omega) u4 x4_1 t309 [.int .u64 t309] (fun _ => True) (fun _ => False) rfl rfl ?aP (fun _ hk => hk.elim) ?aF ?aO ?aB ?aS ?aL ?_; (case aP => exact rfl); (case aB => exact pB); (case aF => exact (fun _ _ => trivial)); (case aO => exact (pR HO_4)); (case aS => exact (below_size pB)); (case aL => have := LMc17.out; omega); intro v313 w28 ho hb hg hat; rw [← Ny312.out] at ho; have n0_ := Aside0.mk (hb); have n1_ := Aside0.mk (ho); clear HB; clear HO_4; have HB := n0_; have HO314 := n1_; clear n0_ n1_; clear ho hb hg hat; have p315 : 0 ≤ ((ji23) : Int) := of_decide_eq_true pA; have q315 : (ji23) < (l0.length : Int) := of_decide_eq_true pA; obtain ⟨ad315, e315, hx315_0⟩ := Kd.at_int HR0.out (ji23) p315 q315; obtain rfl : ad303 = ad315 := (by injection e315); replace hx315_0 := (HB.out.cell (World.block_lt_of_cell? w _ hx315_0)).trans hx315_0; replace p315 := eq_true p315; replace q315 := eq_true q315))
              go_loopg [4, 5, 12] k1 (fun kq v4 v5 v12 w' => ∃ (x4_2 : List Int) (x5_2 : Int) (x12_2 : Int), v5 = .int .i64 x5_2 ∧ v12 = .int .i64 x12_2 ∧ Aside0 (capnpref22_Decodable.l2 kq l0 x4_2 x5_2 (wrap64 (rd l0 (ji23))) x12_2 = some (r1, r2)) ∧ Aside0 (kq ≤ k1) ∧ Aside0 (Kd.R (Kd.int .u64) 37 w' w.heap.size (fun _ => True) v4 x4_2) ∧ Aside0 (Below w.heap.size w w'))
              case atStart => exact ⟨(y312), (wrap64 ((ji23) + 1)), (0), (by first | rfl | (simp; done) | (simp only [← hji23] <;> (first | rfl | simp)) | (simp [*]; done)), (by first | rfl | (simp; done) | (simp [*]; done)), H', ⟨Nat.le_refl _⟩, ⟨pR HO314⟩, ⟨pB⟩⟩
              case round =>
               clear H'
               try clear c1
               try clear c2
               try clear c2b0
               try clear p2
               try clear c3
               try clear c3b0
               try clear p3
               try clear q3
               try clear hx3
               try clear c4
               try clear c4b0
               try clear c4b1
               try clear c5
               try clear c5b0
               try clear c5b1
               try clear p6
               try clear c7
               try clear c7b0
               try clear c8
               try clear c8b0
               try clear c9
               try clear c9b0
               try clear c10
               try clear c13
               try clear c13b0
               try clear c13b1
               try clear c14
               try clear c14b0
               try clear c14b1
               try clear c16
               try clear c17
               try clear c18
               try clear c18b0
               try clear c18b1
               try clear c19
               try clear c19b0
               try clear c19b1
               try clear c22
               try clear c24
               try clear c24b0
               try clear c25
               try clear c25b0
               try clear hx303_0
               try clear hx304_0
               try clear hx315_0
               try clear p2
               try clear p3
               try clear p303
               try clear p304
               try clear p315
               try clear q3
               try clear q303
               try clear q304
               try clear q315
               obtain ⟨x4_2, x5_2, x12_2, rfl, rfl, HA, HK2, HO_4, HB⟩ := hrel
               cases gk with
               | zero => exact absurd HA.out (by simp [capnpref22_Decodable.l2])
               | succ k2 =>
                have H := HA.out
                clear HA
                simp only [capnpref22_Decodable.l2] at H
                by_cases c29 : x12_2 < (wrap64 (rd l0 (ji23)))
                ·rw [if_pos c29] at H
                 have c29b0 : decide (x12_2 < (wrap64 (rd l0 (ji23)))) = true := decide_eq_true c29
                 clear c29
                 by_cases c30 : 0 ≤ x5_2
                 ·rw [if_pos c30] at H
                  have c30b0 := eq_true c30
                  have c30b1 : decide (0 ≤ x5_2) = true := decide_eq_true c30
                  clear c30
                  by_cases c31 : x5_2 ≤ (l0.length : Int)
                  ·rw [if_pos c31] at H
                   have c31b0 := eq_true c31
                   have c31b1 : decide (x5_2 ≤ (l0.length : Int)) = true := decide_eq_true c31
                   clear c31
                   replace H := Option.bind_eq_some_iff.mp H
                   obtain ⟨⟨t317, t318⟩, A320, H⟩ := H
                   replace H : (if t318 = true then (if x4_2.length < 17592186044416 then (capnpref22_Decodable.l2 k2 l0 (x4_2 ++ [t317]) (wrap64 (x5_2 + 8)) (wrap64 (rd l0 (ji23))) (wrap64 (x12_2 + 1))) else (none)) else (some (x4_2, true))) = some (r1, r2) := H
                   have A32 := Aside0.mk A320
                   clear A320
                   by_cases c33 : t318 = true
                   ·subst c33
                    have H1 : (if x4_2.length < 17592186044416 then (capnpref22_Decodable.l2 k2 l0 (x4_2 ++ [t317]) (wrap64 (x5_2 + 8)) (wrap64 (rd l0 (ji23))) (wrap64 (x12_2 + 1))) else (none)) = some (r1, r2) := by rw [if_pos rfl] at H; exact H
                    clear H
                    have H := H1
                    clear H1
                    by_cases c34 : x4_2.length < 17592186044416
                    ·rw [if_pos c34] at H
                     have LMc34 := Aside0.mk c34
                     clear c34
                     obtain ⟨y319, hy319⟩ : ∃ y_ : List Int, y_ = (x4_2 ++ [t317]) := ⟨_, rfl⟩
                     replace H : (capnpref22_Decodable.l2 k2 l0 y319 (wrap64 (x5_2 + 8)) (wrap64 (rd l0 (ji23))) (wrap64 (x12_2 + 1))) = some (r1, r2) := by first | (rw [hy319]; with_reducible exact H) | (have H2_ := (Option.bind_some _ _).symm.trans H; rw [hy319]; with_reducible exact H2_) | (have H2_ := (Option.bind_some _ _).symm.trans H; with_reducible exact H2_) | with_reducible exact H | (rw [hy319]; exact H) | exact H
                     have Ny319 := Aside0.mk hy319
                     clear hy319
                     have H' := Aside0.mk H
                     clear H
                     obtain ⟨i035, hi035, _, hsz35, _⟩ := info_parts info5
                     obtain ⟨A35, hcut35, hA35, hC35⟩ := print_drop_of (P := Tryd.prog) (Value.int .u8) 0 22 5 .i64 Tryd.underlying22 hi035 hsz35 (some ad303) c0 l0 x5_2 (of_decide_eq_true pA) (of_decide_eq_true pA) HC0.out
                     have HR316 := Aside0.mk (Kd.C_of_reads (h1 := fun _ => rfl) (hA35 _ (Kd.reads_of_C HR0.out)))
                     have HC316 := Aside0.mk hC35
                     clear hA35 hC35 hi035 hsz35
                     go_wp2_with (first | ((with_reducible refine gate_callee (f := 39) rfl ?_); refine goesL_ (some 88) rfl rfl Tryd.func39 (by kernel_rfl) rfl #[.slice A35 (l0.drop (x5_2 : Int).toNat).length (c0 - x5_2.toNat), .int .i64 0] rfl (by (try simp only [List.map_toArray, List.map_cons, List.map_nil]); first | done | (rw [show (l0.drop (x5_2 : Int).toNat).length = (l0.length - x5_2.toNat) from List.length_drop] <;> rfl) | rfl | (simp only [List.length_drop, List.length_take]; rfl)) ?_; (with_reducible refine (capnpref01_Get.calls k2 _ _ (l0.drop (x5_2 : Int).toNat) 0 t317 true _ ?side1 ?side2 A32.out).mono ?_); (case side1 => repeat (first | exact (Kd.C_below HR316.out HB.out) | (with_reducible refine Kd.C_alloc ?_ _) | (with_reducible refine Kd.C_drewN ?_ _) | (with_reducible refine Kd.C_drew ?_))); (case side2 => exact HC316.out); rintro e w' ⟨rfl, ⟨nd, rfl⟩⟩; refine ⟨_, rfl, ?_⟩) | ((with_reducible refine gate_builtin (b := .append) (xs := #[.tmp 94, .tmp 96]) rfl ?_); at_builtin; refine Kd.R_append (Kd.int .u64) (w0 := w) w.heap.size rfl (.tmp 94) (.tmp 96) 23 37 (.int .u64 0) 8 rfl Tryd.underlying23 info37 rfl (by decide) (by omega) u4 x4_2 t317 [.int .u64 t317] (fun _ => True) (fun _ => False) rfl rfl ?aP (fun _ hk => hk.elim) ?aF ?aO ?aB ?aS ?aL ?_; (case aP => exact rfl); (case aB => exact pB); (case aF => exact (fun _ _ => trivial)); (case aO => exact (pR HO_4)); (case aS => exact (below_size pB)); (case aL => have := LMc34.out; omega); intro v320 w36 ho hb hg hat; rw [← Ny319.out] at ho; have n0_ := Aside0.mk (hb); have n1_ := Aside0.mk (ho); clear HB; clear HO_4; have HB := n0_; have HO321 := n1_; clear n0_ n1_; clear ho hb hg hat))
                     (first | go_roundg k2 | ((try subst hji12); (try subst hji23); go_roundg k2))
                     case measure => have := HK1.out; have := HK2.out; omega
                     case rel => exact ⟨(y319), (wrap64 (x5_2 + 8)), (wrap64 (x12_2 + 1)), (by first | rfl | (simp; done) | (simp [*]; done)), (by first | rfl | (simp; done) | (simp [*]; done)), H', ⟨by have := HK1.out; have := HK2.out; omega⟩, ⟨pR HO321⟩, ⟨pB⟩⟩
                    ·rw [if_neg c34] at H
                     exact absurd H (by simp)
                   ·replace c33 := Bool.eq_false_iff.mpr c33
                    subst c33
                    have H1 : (some (x4_2, true)) = some (r1, r2) := by rw [if_neg (show ¬ (false = true) by decide)] at H; exact H
                    clear H
                    have H := H1
                    clear H1
                    simp only [Option.some.injEq, Prod.mk.injEq] at H
                    obtain ⟨rfl, rfl⟩ := H
                    obtain ⟨i037, hi037, _, hsz37, _⟩ := info_parts info5
                    obtain ⟨A37, hcut37, hA37, hC37⟩ := print_drop_of (P := Tryd.prog) (Value.int .u8) 0 22 5 .i64 Tryd.underlying22 hi037 hsz37 (some ad303) c0 l0 x5_2 (of_decide_eq_true pA) (of_decide_eq_true pA) HC0.out
                    have HR316 := Aside0.mk (Kd.C_of_reads (h1 := fun _ => rfl) (hA37 _ (Kd.reads_of_C HR0.out)))
                    have HC316 := Aside0.mk hC37
                    clear hA37 hC37 hi037 hsz37
                    go_wp2_with (first | ((with_reducible refine gate_callee (f := 39) rfl ?_); refine goesL_ (some 88) rfl rfl Tryd.func39 (by kernel_rfl) rfl #[.slice A37 (l0.drop (x5_2 : Int).toNat).length (c0 - x5_2.toNat), .int .i64 0] rfl (by (try simp only [List.map_toArray, List.map_cons, List.map_nil]); first | done | (rw [show (l0.drop (x5_2 : Int).toNat).length = (l0.length - x5_2.toNat) from List.length_drop] <;> rfl) | rfl | (simp only [List.length_drop, List.length_take]; rfl)) ?_; (with_reducible refine (capnpref01_Get.calls k2 _ _ (l0.drop (x5_2 : Int).toNat) 0 t317 false _ ?side1 ?side2 A32.out).mono ?_); (case side1 => repeat (first | exact (Kd.C_below HR316.out HB.out) | (with_reducible refine Kd.C_alloc ?_ _) | (with_reducible refine Kd.C_drewN ?_ _) | (with_reducible refine Kd.C_drew ?_))); (case side2 => exact HC316.out); rintro e w' ⟨rfl, ⟨nd, rfl⟩⟩; refine ⟨_, rfl, ?_⟩))
                    go_ret2
                    exact ⟨_, by first | rfl | (simp [errW_none, errW_some] <;> rfl) | (simp only [← hji12, ← hji23]; first | rfl | (simp [errW_none, errW_some] <;> rfl)) | (simp [*, errW_none, errW_some] <;> rfl), by (with_reducible repeat (first | apply Kd.R_alloc | apply Kd.R_drewN | apply Kd.R_drew)); exact HO_4.out, pB⟩
                  ·rw [if_neg c31] at H
                   exact absurd H (by simp)
                 ·rw [if_neg c30] at H
                  exact absurd H (by simp)
                ·rw [if_neg c29] at H
                 have c29b0 : decide (x12_2 < (wrap64 (rd l0 (ji23)))) = false := decide_eq_false c29
                 clear c29
                 have H' := Aside0.mk H
                 clear H
                 go_wp2
                 (first | go_roundg k2 | ((try subst hji12); (try subst hji23); go_roundg k2))
                 case measure => have := HK1.out; have := HK2.out; omega
                 case rel => exact ⟨(x4_2), (x5_2), (by first | rfl | (simp; done) | (simp [*]; done)), H', ⟨by have := HK1.out; have := HK2.out; omega⟩, ⟨pR HO_4⟩, ⟨pB⟩⟩
             ·rw [if_neg c25] at H
              exact absurd H (by simp)
            ·rw [if_neg c24] at H
             exact absurd H (by simp)
          ·rw [if_neg c18] at H
           have c18b0 : ((rd l0 x5_1) == 255) = false := beq_eq_false_iff_ne.mpr c18
           have c18b1 : ((rd l0 x5_1) != 255) = true := bne_iff_ne.mpr c18
           have H' := Aside0.mk H
           clear H
           have p303 : 0 ≤ (x5_1 : Int) := of_decide_eq_true pA
           have q303 : x5_1 < (l0.length : Int) := of_decide_eq_true pA
           obtain ⟨ad303, e303, hx303_0⟩ := Kd.at_int HR0.out x5_1 p303 q303
           cases e303
           replace hx303_0 := (HB.out.cell (World.block_lt_of_cell? w _ hx303_0)).trans hx303_0
           replace p303 := eq_true p303
           replace q303 := eq_true q303
           obtain ⟨i038, hi038, _, hsz38, _⟩ := info_parts info5
           obtain ⟨A38, hcut38, hA38, hC38⟩ := print_drop_of (P := Tryd.prog) (Value.int .u8) 0 22 5 .i64 Tryd.underlying22 hi038 hsz38 (some ad303) c0 l0 (ji12) (of_decide_eq_true pA) (of_decide_eq_true pA) HC0.out
           have HR308 := Aside0.mk (Kd.C_of_reads (h1 := fun _ => rfl) (hA38 _ (Kd.reads_of_C HR0.out)))
           have HC308 := Aside0.mk hC38
           clear hA38 hC38 hi038 hsz38
           go_wp2_with (first | ((with_reducible refine gate_callee (f := 38) rfl ?_); refine goesL_ (some 51) rfl rfl Tryd.func38 (by kernel_rfl) rfl #[.int .u8 (rd l0 x5_1), .slice A38 (l0.drop ((ji12) : Int).toNat).length (c0 - (ji12).toNat)] rfl (by (try simp only [List.map_toArray, List.map_cons, List.map_nil]); first | done | (rw [show (l0.drop ((ji12) : Int).toNat).length = (l0.length - (ji12).toNat) from List.length_drop] <;> rfl) | (simp only [hji12]; rfl) | rfl | (simp only [List.length_drop, List.length_take]; rfl)) ?_; (with_reducible refine (capnpref20_Expand.calls k1 (rd l0 x5_1) _ _ (l0.drop ((ji12) : Int).toNat) t309 t310 true _ ?side1 ?side2 A15.out).mono ?_); (case side1 => repeat (first | exact (Kd.C_below HR308.out HB.out) | (with_reducible refine Kd.C_alloc ?_ _) | (with_reducible refine Kd.C_drewN ?_ _) | (with_reducible refine Kd.C_drew ?_))); (case side2 => exact HC308.out); rintro e w39 ⟨rfl, hb⟩; refine ⟨_, rfl, ?_⟩; have n0_ := Aside0.mk (Kd.R_below (pR HO_4) hb); have n1_ := Aside0.mk (below_step pB hb); clear HO_4; clear HB; have HO_4 := n0_; have HB := n1_; clear n0_ n1_; (try clear hb); (try clear hb2); (try clear hk); (try clear hi)) | ((with_reducible refine gate_builtin (b := .append) (xs := #[.tmp 58, .tmp 60]) rfl ?_); at_builtin; refine Kd.R_append (Kd.int .u64) (w0 := w) w.heap.size rfl (.tmp 58) (.tmp 60) 23 37 (.int .u64 0) 8 rfl Tryd.underlying23 info37 rfl (by decide) (by omega) u4 x4_1 t309 [.int .u64 t309] (fun _ => True) (fun _ => False) rfl rfl ?aP (fun _ hk => hk.elim) ?aF ?aO ?aB ?aS ?aL ?_; (case aP => exact rfl); (case aB => exact pB); (case aF => exact (fun _ _ => trivial)); (case aO => exact (pR HO_4)); (case aS => exact (below_size pB)); (case aL => have := LMc17.out; omega); intro v313 w40 ho hb hg hat; rw [← Ny312.out] at ho; have n0_ := Aside0.mk (hb); have n1_ := Aside0.mk (ho); clear HB; clear HO_4; have HB := n0_; have HO314 := n1_; clear n0_ n1_; clear ho hb hg hat))
           (first | go_roundg k1 | ((try subst hji12); go_roundg k1))
           case measure => have := HK1.out; omega
           case rel => exact ⟨(y312), (wrap64 ((ji12) + t310)), (by first | rfl | (simp; done) | (simp only [← hji12] <;> (first | rfl | simp)) | (simp [*]; done)), H', ⟨by have := HK1.out; omega⟩, ⟨pR HO314⟩, ⟨pB⟩⟩
         ·rw [if_neg c17] at H
          exact absurd H (by simp)
        ·replace c16 := Bool.eq_false_iff.mpr c16
         subst c16
         have H1 : (some (x4_1, true)) = some (r1, r2) := by rw [if_neg (show ¬ (false = true) by decide)] at H; exact H
         clear H
         have H := H1
         clear H1
         simp only [Option.some.injEq, Prod.mk.injEq] at H
         obtain ⟨rfl, rfl⟩ := H
         have p303 : 0 ≤ (x5_1 : Int) := of_decide_eq_true pA
         have q303 : x5_1 < (l0.length : Int) := of_decide_eq_true pA
         obtain ⟨ad303, e303, hx303_0⟩ := Kd.at_int HR0.out x5_1 p303 q303
         cases e303
         replace hx303_0 := (HB.out.cell (World.block_lt_of_cell? w _ hx303_0)).trans hx303_0
         replace p303 := eq_true p303
         replace q303 := eq_true q303
         obtain ⟨i041, hi041, _, hsz41, _⟩ := info_parts info5
         obtain ⟨A41, hcut41, hA41, hC41⟩ := print_drop_of (P := Tryd.prog) (Value.int .u8) 0 22 5 .i64 Tryd.underlying22 hi041 hsz41 (some ad303) c0 l0 (ji12) (of_decide_eq_true pA) (of_decide_eq_true pA) HC0.out
         have HR308 := Aside0.mk (Kd.C_of_reads (h1 := fun _ => rfl) (hA41 _ (Kd.reads_of_C HR0.out)))
         have HC308 := Aside0.mk hC41
         clear hA41 hC41 hi041 hsz41
         go_wp2_with (first | ((with_reducible refine gate_callee (f := 38) rfl ?_); refine goesL_ (some 51) rfl rfl Tryd.func38 (by kernel_rfl) rfl #[.int .u8 (rd l0 x5_1), .slice A41 (l0.drop ((ji12) : Int).toNat).length (c0 - (ji12).toNat)] rfl (by (try simp only [List.map_toArray, List.map_cons, List.map_nil]); first | done | (rw [show (l0.drop ((ji12) : Int).toNat).length = (l0.length - (ji12).toNat) from List.length_drop] <;> rfl) | (simp only [hji12]; rfl) | rfl | (simp only [List.length_drop, List.length_take]; rfl)) ?_; (with_reducible refine (capnpref20_Expand.calls k1 (rd l0 x5_1) _ _ (l0.drop ((ji12) : Int).toNat) t309 t310 false _ ?side1 ?side2 A15.out).mono ?_); (case side1 => repeat (first | exact (Kd.C_below HR308.out HB.out) | (with_reducible refine Kd.C_alloc ?_ _) | (with_reducible refine Kd.C_drewN ?_ _) | (with_reducible refine Kd.C_drew ?_))); (case side2 => exact HC308.out); rintro e w42 ⟨rfl, hb⟩; refine ⟨_, rfl, ?_⟩; have n0_ := Aside0.mk (Kd.R_below (pR HO_4) hb); have n1_ := Aside0.mk (below_step pB hb); clear HO_4; clear HB; have HO_4 := n0_; have HB := n1_; clear n0_ n1_; (try clear hb); (try clear hb2); (try clear hk); (try clear hi)))
         go_ret2
         exact ⟨_, by first | rfl | (simp [errW_none, errW_some] <;> rfl) | (simp only [← hji12]; first | rfl | (simp [errW_none, errW_some] <;> rfl)) | (simp [*, errW_none, errW_some] <;> rfl), by (with_reducible repeat (first | apply Kd.R_alloc | apply Kd.R_drewN | apply Kd.R_drew)); exact HO_4.out, pB⟩
       ·rw [if_neg c14] at H
        exact absurd H (by simp)
      ·rw [if_neg c13] at H
       exact absurd H (by simp)
    ·rw [if_neg c3] at H
     exact absurd H (by simp)
   ·rw [if_neg c2] at H
    have c2b0 : decide (x5_1 < (l0.length : Int)) = false := decide_eq_false c2
    clear c2
    simp only [Option.some.injEq, Prod.mk.injEq] at H
    obtain ⟨rfl, rfl⟩ := H
    go_wp2
    go_ret2
    exact ⟨_, by first | rfl | (simp [errW_none, errW_some] <;> rfl) | (simp [*, errW_none, errW_some] <;> rfl), by (with_reducible repeat (first | apply Kd.R_alloc | apply Kd.R_drewN | apply Kd.R_drew)); exact HO_4.out, pB⟩
def capnpref23_Accepts.f (k : Nat) (l0 : List Int) (l1 : List Int) : Option (Bool) := (capnpref22_Decodable.f k l0).bind fun bt322 => (if bt322.2 = true then (some false) else ((capnpref23_Equal.f k bt322.1 l1).bind fun t326 => (some t326)))
theorem capnpref23_Accepts.mono : ∀ a0 a1 k, LeO (capnpref23_Accepts.f k a0 a1) (capnpref23_Accepts.f (k + 1) a0 a1) := by
 intro a0 a1 k
 unfold capnpref23_Accepts.f
 repeat' first
   | (with_reducible exact capnpref22_Decodable.mono _ _)
   | (with_reducible exact capnpref23_Equal.mono _ _ _)
   | (with_reducible exact LeO.refl _)
   | (with_reducible exact LeO.none _)
   | (with_reducible refine LeO.ite ?_ ?_)
   | (with_reducible refine LeO.bind ?_ (fun _ => ?_))
   | exact capnpref22_Decodable.mono _ _
   | exact capnpref23_Equal.mono _ _ _
   | exact LeO.none _
   | refine LeO.ite ?_ ?_
   | refine LeO.bind ?_ (fun _ => ?_)
theorem capnpref23_Accepts.calls (k : Nat) (A0 : Option Addr) (c0 : Nat) (l0 : List Int) (A1 : Option Addr) (c1 : Nat) (l1 : List Int) (r : Bool) (w : World) (hr0 : Kd.C (Kd.int .u8) w A0 l0.length l0) (hc0 : l0.length ≤ c0) (hr1 : Kd.C (Kd.int .u64) w A1 l1.length l1) (hc1 : l1.length ≤ c1) (h : capnpref23_Accepts.f k l0 l1 = some r) :
  Calls Tryd.prog 13 #[.slice A0 l0.length c0, .slice A1 l1.length c1] w fun e w' => e = .returned (.bool r) ∧ Below w.heap.size w w' := by
 have HR0 := Aside0.mk hr0
 have HC0 := Aside0.mk hc0
 clear hr0 hc0
 have HR1 := Aside0.mk hr1
 have HC1 := Aside0.mk hc1
 clear hr1 hc1
 have HB := Aside0.mk (Below.refl w.heap.size w)
 have H : ((capnpref22_Decodable.f k l0).bind fun bt322 => (if bt322.2 = true then (some false) else ((capnpref23_Equal.f k bt322.1 l1).bind fun t326 => (some t326)))) = some r := h
 clear h
 replace H := Option.bind_eq_some_iff.mp H
 obtain ⟨⟨t322, t323⟩, A30, H⟩ := H
 replace H : (if t323 = true then (some false) else ((capnpref23_Equal.f k t322 l1).bind fun t326 => (some t326))) = some r := H
 have A3 := Aside0.mk A30
 clear A30
 by_cases c4 : t323 = true
 ·subst c4
  have H1 : (some false) = some r := by rw [if_pos rfl] at H; exact H
  clear H
  have H := H1
  clear H1
  obtain rfl := Option.some.inj H
  go_enter Tryd.func13, Tryd.ntmps13
  go_wp2_with (first | ((with_reducible refine gate_callee (f := 22) rfl ?_); refine goesL_ (some 9) rfl rfl Tryd.func22 (by kernel_rfl) rfl #[.slice A0 l0.length c0] rfl pM ?_; (with_reducible refine (capnpref22_Decodable.calls k _ _ l0 t322 true _ ?side1 ?side2 A3.out).mono ?_); (case side1 => repeat (first | exact HR0.out | (with_reducible refine Kd.C_alloc ?_ _) | (with_reducible refine Kd.C_drewN ?_ _) | (with_reducible refine Kd.C_drew ?_))); (case side2 => exact HC0.out); rintro e w5 ⟨v324, rfl, ho0, hb⟩; refine ⟨_, rfl, ?_⟩; have n0_ := Aside0.mk (Kd.R_lower ho0 (below_size pB)); have n1_ := Aside0.mk (below_step pB hb); clear HB; have HO325 := n0_; have HB := n1_; clear n0_ n1_; (try clear hb); (try clear hb2); (try clear hk); (try clear hi); (try clear ho0)))
  go_ret
  exact ⟨by first | rfl | (simp [errW_none, errW_some] <;> rfl) | (simp [*, errW_none, errW_some] <;> rfl), pB⟩
 ·replace c4 := Bool.eq_false_iff.mpr c4
  subst c4
  have H1 : ((capnpref23_Equal.f k t322 l1).bind fun t326 => (some t326)) = some r := by rw [if_neg (show ¬ (false = true) by decide)] at H; exact H
  clear H
  have H := H1
  clear H1
  replace H := Option.bind_eq_some_iff.mp H
  obtain ⟨t326, A60, H⟩ := H
  replace H : (some t326) = some r := H
  have A6 := Aside0.mk A60
  clear A60
  obtain rfl := Option.some.inj H
  go_enter Tryd.func13, Tryd.ntmps13
  go_wp2_with (first | ((with_reducible refine gate_callee (f := 22) rfl ?_); refine goesL_ (some 9) rfl rfl Tryd.func22 (by kernel_rfl) rfl #[.slice A0 l0.length c0] rfl pM ?_; (with_reducible refine (capnpref22_Decodable.calls k _ _ l0 t322 false _ ?side1 ?side2 A3.out).mono ?_); (case side1 => repeat (first | exact HR0.out | (with_reducible refine Kd.C_alloc ?_ _) | (with_reducible refine Kd.C_drewN ?_ _) | (with_reducible refine Kd.C_drew ?_))); (case side2 => exact HC0.out); rintro e w7 ⟨v324, rfl, ho0, hb⟩; refine ⟨_, rfl, ?_⟩; have n0_ := Aside0.mk (Kd.R_lower ho0 (below_size pB)); have n1_ := Aside0.mk (below_step pB hb); clear HB; have HO325 := n0_; have HB := n1_; clear n0_ n1_; (try clear hb); (try clear hb2); (try clear hk); (try clear hi); (try clear ho0); obtain ⟨Ao8, co8, eo8⟩ := Kd.R_slice HO325.out; subst eo8) | (go_at_call 21; (with_reducible refine (capnpref23_Equal.calls k _ _ t322 _ _ l1 t326 _ ?side1 ?side2 ?side3 ?side4 A6.out).mono ?_); (case side1 => repeat (first | exact (Kd.R_reads' HO325.out).2.2 | (with_reducible refine Kd.C_alloc ?_ _) | (with_reducible refine Kd.C_drewN ?_ _) | (with_reducible refine Kd.C_drew ?_))); (case side2 => exact (Kd.R_reads' HO325.out).2.1); (case side3 => repeat (first | exact (Kd.C_below HR1.out HB.out) | (with_reducible refine Kd.C_alloc ?_ _) | (with_reducible refine Kd.C_drewN ?_ _) | (with_reducible refine Kd.C_drew ?_))); (case side4 => exact HC1.out); rintro e w' ⟨rfl, ⟨nd, rfl⟩⟩))
  go_ret
  exact ⟨by first | rfl | (simp [errW_none, errW_some] <;> rfl) | (simp [*, errW_none, errW_some] <;> rfl), pB⟩
end Go.Proofs.YtnchacmhjbkmhaaDoor.PGrammarMatchesReference
