/- (Halved.) Written by myprint.py, a program of this session: printed functions of a law, and the proofs that the Go code comes to them. -/
import Derived.Test.YtnchacmhjbkmhaaDoorXShortR
import Derived.Test.YtnchacmhjbkmhaaDoorPGrammarMatchesReferencex0R
import Derived.Test.YtnchacmhjbkmhaaDoorPGrammarMatchesReferencex6R
import Derived.Test.YtnchacmhjbkmhaaDoorPGrammarMatchesReferencex9R
import Derived.Test.YtnchacmhjbkmhaaDoorPGrammarMatchesReferencex11R
namespace Go.Proofs.YtnchacmhjbkmhaaDoor.PGrammarMatchesReference
open Go.RowKit Go.Proofs.YtnchacmhjbkmhaaDoorW.PrintWords Go.Proofs.YtnchacmhjbkmhaaDoorW.PrintLast Go.Proofs.YtnchacmhjbkmhaaDoorW.PrintMore
open Go.Proofs.YtnchacmhjbkmhaaDoor.PUnBase
open Go.Proofs.YtnchacmhjbkmhaaDoor.POfBase (tagbyte_Of.f tagbyte_Of.calls tagbyte_Of.mono tagbyte_Of.mono_l)
attribute [local go_sem] max2_int min2_int max_two min_two max_three min_three max_four min_four   -- for this text's walks alone
set_option linter.unusedVariables false
set_option linter.unusedSimpArgs false
mutual
def capnpref23_Shortest.l0 : Nat → List Int → List Int → Int → Option (Int)
 | 0, _, _, _ => none
 | k + 1, x0, x3, x4 => if x4 ≥ 0 then (if 0 ≤ (wrap64 (x4 + 1)) then (if (wrap64 (x4 + 1)) < (x3.length : Int) then (if 0 ≤ x4 then (if x4 < (x3.length : Int) then (if x4 < (x0.length : Int) then ((capnpref20_Of.f k (rd x0 x4)).bind fun t451 => (capnpref23_Shortest.l1 k x0 (x3.set (x4 : Int).toNat (wrap64 (10 + (rd x3 (wrap64 (x4 + 1)))))) x4 (wrap64 (t451)) 1)) else (none)) else (none)) else (none)) else (none)) else (none)) else (if 0 < (x3.length : Int) then (some (rd x3 0)) else (none))
def capnpref23_Shortest.l1 : Nat → List Int → List Int → Int → Int → Int → Option (Int)
 | 0, _, _, _, _, _ => none
 | k + 1, x0, x3, x4, x5, x6 => if x6 < 255 then ((capnpref23_Covers.f k x6 x5).bind fun t452 => (if t452 = true then (if 0 ≤ x4 then (if x4 < (x3.length : Int) then ((capnpref20_Ones.f k ((x6) % 256)).bind fun t454 => (if 0 ≤ (wrap64 (x4 + 1)) then (if (wrap64 (x4 + 1)) < (x3.length : Int) then (capnpref23_Shortest.l1 k x0 (x3.set (x4 : Int).toNat (mn (rd x3 x4) (wrap64 ((wrap64 (1 + t454)) + (rd x3 (wrap64 (x4 + 1))))))) x4 x5 (wrap64 (x6 + 1))) else (none)) else (none))) else (none)) else (none)) else (capnpref23_Shortest.l1 k x0 x3 x4 x5 (wrap64 (x6 + 1))))) else (if 0 ≤ x4 then (if x4 ≤ (x0.length : Int) then ((capnpref23_zeros.f k (x0.drop (x4 : Int).toNat)).bind fun t458 => (capnpref23_Shortest.l2 k x0 x3 x4 t458 1)) else (none)) else (none))
def capnpref23_Shortest.l2 : Nat → List Int → List Int → Int → Int → Int → Option (Int)
 | 0, _, _, _, _, _ => none
 | k + 1, x0, x3, x4, x7, x8 => if x8 ≤ 256 then (capnpref23_Shortest.j3 k x0 x3 x4 x7 x8 (decide ((wrap64 (x4 + x8)) ≤ (x0.length : Int)))) else (capnpref23_Shortest.j3 k x0 x3 x4 x7 x8 false)
def capnpref23_Shortest.j3 : Nat → List Int → List Int → Int → Int → Int → Bool → Option (Int)
 | 0, _, _, _, _, _, _ => none
 | k + 1, x0, x3, x4, x7, x8, x73 => if x73 = true then (if 0 ≤ x4 then (if x4 < (x3.length : Int) then (if 0 ≤ (wrap64 (x4 + x8)) then (if (wrap64 (x4 + x8)) < (x3.length : Int) then ((some (x3.set (x4 : Int).toNat (mn (rd x3 x4) (wrap64 ((wrap64 (2 + (wrap64 (8 * x8)))) + (rd x3 (wrap64 (x4 + x8)))))) : List Int)).bind fun y461 => (if x8 ≤ x7 then (capnpref23_Shortest.l2 k x0 (y461.set (x4 : Int).toNat (mn (rd y461 x4) (wrap64 (2 + (rd y461 (wrap64 (x4 + x8))))))) x4 x7 (wrap64 (x8 + 1))) else (capnpref23_Shortest.l2 k x0 y461 x4 x7 (wrap64 (x8 + 1))))) else (none)) else (none)) else (none)) else (none)) else (capnpref23_Shortest.l0 k x0 x3 (wrap64 (x4 - 1)))
end
def capnpref23_Shortest.f (k : Nat) (l0 : List Int) : Option (Int) := if 0 ≤ (wrap64 ((l0.length : Int) + 1)) then (if (wrap64 ((l0.length : Int) + 1) : Int).toNat ≤ 35184372088832 then (capnpref23_Shortest.l0 k l0 (List.replicate (wrap64 ((l0.length : Int) + 1) : Int).toNat 0) (wrap64 ((l0.length : Int) - 1))) else (none)) else (none)
theorem capnpref23_Shortest.mono_l : ∀ k, (∀ y0 y1 y2, LeO (capnpref23_Shortest.l0 k y0 y1 y2) (capnpref23_Shortest.l0 (k + 1) y0 y1 y2)) ∧ (∀ y0 y1 y2 y3 y4, LeO (capnpref23_Shortest.l1 k y0 y1 y2 y3 y4) (capnpref23_Shortest.l1 (k + 1) y0 y1 y2 y3 y4)) ∧ (∀ y0 y1 y2 y3 y4, LeO (capnpref23_Shortest.l2 k y0 y1 y2 y3 y4) (capnpref23_Shortest.l2 (k + 1) y0 y1 y2 y3 y4)) ∧ (∀ y0 y1 y2 y3 y4 y5, LeO (capnpref23_Shortest.j3 k y0 y1 y2 y3 y4 y5) (capnpref23_Shortest.j3 (k + 1) y0 y1 y2 y3 y4 y5))
 | 0 => ⟨fun _ _ _ r h => by simp [capnpref23_Shortest.l0] at h, fun _ _ _ _ _ r h => by simp [capnpref23_Shortest.l1] at h, fun _ _ _ _ _ r h => by simp [capnpref23_Shortest.l2] at h, fun _ _ _ _ _ _ r h => by simp [capnpref23_Shortest.j3] at h⟩
 | k + 1 => by
  obtain ⟨ih0, ih1, ih2, ih3⟩ := capnpref23_Shortest.mono_l k
  refine ⟨?_, ?_, ?_, ?_⟩
  ·intro y0 y1 y2
   unfold capnpref23_Shortest.l0
   repeat' first
   | (with_reducible exact ih0 _ _ _)
   | (with_reducible exact ih1 _ _ _ _ _)
   | (with_reducible exact ih2 _ _ _ _ _)
   | (with_reducible exact ih3 _ _ _ _ _ _)
   | (with_reducible exact capnpref20_Of.mono _ _)
   | (with_reducible exact capnpref20_Ones.mono _ _)
   | (with_reducible exact capnpref23_Covers.mono _ _ _)
   | (with_reducible exact capnpref23_zeros.mono _ _)
   | (with_reducible exact LeO.refl _)
   | (with_reducible exact LeO.none _)
   | (with_reducible refine LeO.ite ?_ ?_)
   | (with_reducible refine LeO.bind ?_ (fun _ => ?_))
   | exact ih0 _ _ _
   | exact ih1 _ _ _ _ _
   | exact ih2 _ _ _ _ _
   | exact ih3 _ _ _ _ _ _
   | exact capnpref20_Of.mono _ _
   | exact capnpref20_Ones.mono _ _
   | exact capnpref23_Covers.mono _ _ _
   | exact capnpref23_zeros.mono _ _
   | exact LeO.none _
   | refine LeO.ite ?_ ?_
   | refine LeO.bind ?_ (fun _ => ?_)
  ·intro y0 y1 y2 y3 y4
   unfold capnpref23_Shortest.l1
   repeat' first
   | (with_reducible exact ih0 _ _ _)
   | (with_reducible exact ih1 _ _ _ _ _)
   | (with_reducible exact ih2 _ _ _ _ _)
   | (with_reducible exact ih3 _ _ _ _ _ _)
   | (with_reducible exact capnpref20_Of.mono _ _)
   | (with_reducible exact capnpref20_Ones.mono _ _)
   | (with_reducible exact capnpref23_Covers.mono _ _ _)
   | (with_reducible exact capnpref23_zeros.mono _ _)
   | (with_reducible exact LeO.refl _)
   | (with_reducible exact LeO.none _)
   | (with_reducible refine LeO.ite ?_ ?_)
   | (with_reducible refine LeO.bind ?_ (fun _ => ?_))
   | exact ih0 _ _ _
   | exact ih1 _ _ _ _ _
   | exact ih2 _ _ _ _ _
   | exact ih3 _ _ _ _ _ _
   | exact capnpref20_Of.mono _ _
   | exact capnpref20_Ones.mono _ _
   | exact capnpref23_Covers.mono _ _ _
   | exact capnpref23_zeros.mono _ _
   | exact LeO.none _
   | refine LeO.ite ?_ ?_
   | refine LeO.bind ?_ (fun _ => ?_)
  ·intro y0 y1 y2 y3 y4
   unfold capnpref23_Shortest.l2
   repeat' first
   | (with_reducible exact ih0 _ _ _)
   | (with_reducible exact ih1 _ _ _ _ _)
   | (with_reducible exact ih2 _ _ _ _ _)
   | (with_reducible exact ih3 _ _ _ _ _ _)
   | (with_reducible exact capnpref20_Of.mono _ _)
   | (with_reducible exact capnpref20_Ones.mono _ _)
   | (with_reducible exact capnpref23_Covers.mono _ _ _)
   | (with_reducible exact capnpref23_zeros.mono _ _)
   | (with_reducible exact LeO.refl _)
   | (with_reducible exact LeO.none _)
   | (with_reducible refine LeO.ite ?_ ?_)
   | (with_reducible refine LeO.bind ?_ (fun _ => ?_))
   | exact ih0 _ _ _
   | exact ih1 _ _ _ _ _
   | exact ih2 _ _ _ _ _
   | exact ih3 _ _ _ _ _ _
   | exact capnpref20_Of.mono _ _
   | exact capnpref20_Ones.mono _ _
   | exact capnpref23_Covers.mono _ _ _
   | exact capnpref23_zeros.mono _ _
   | exact LeO.none _
   | refine LeO.ite ?_ ?_
   | refine LeO.bind ?_ (fun _ => ?_)
  ·intro y0 y1 y2 y3 y4 y5
   unfold capnpref23_Shortest.j3
   repeat' first
   | (with_reducible exact ih0 _ _ _)
   | (with_reducible exact ih1 _ _ _ _ _)
   | (with_reducible exact ih2 _ _ _ _ _)
   | (with_reducible exact ih3 _ _ _ _ _ _)
   | (with_reducible exact capnpref20_Of.mono _ _)
   | (with_reducible exact capnpref20_Ones.mono _ _)
   | (with_reducible exact capnpref23_Covers.mono _ _ _)
   | (with_reducible exact capnpref23_zeros.mono _ _)
   | (with_reducible exact LeO.refl _)
   | (with_reducible exact LeO.none _)
   | (with_reducible refine LeO.ite ?_ ?_)
   | (with_reducible refine LeO.bind ?_ (fun _ => ?_))
   | exact ih0 _ _ _
   | exact ih1 _ _ _ _ _
   | exact ih2 _ _ _ _ _
   | exact ih3 _ _ _ _ _ _
   | exact capnpref20_Of.mono _ _
   | exact capnpref20_Ones.mono _ _
   | exact capnpref23_Covers.mono _ _ _
   | exact capnpref23_zeros.mono _ _
   | exact LeO.none _
   | refine LeO.ite ?_ ?_
   | refine LeO.bind ?_ (fun _ => ?_)
theorem capnpref23_Shortest.mono : ∀ a0 k, LeO (capnpref23_Shortest.f k a0) (capnpref23_Shortest.f (k + 1) a0) := by
 intro a0 k
 obtain ⟨ih0, ih1, ih2, ih3⟩ := capnpref23_Shortest.mono_l k
 unfold capnpref23_Shortest.f
 repeat' first
   | (with_reducible exact ih0 _ _ _)
   | (with_reducible exact ih1 _ _ _ _ _)
   | (with_reducible exact ih2 _ _ _ _ _)
   | (with_reducible exact ih3 _ _ _ _ _ _)
   | (with_reducible exact capnpref20_Of.mono _ _)
   | (with_reducible exact capnpref20_Ones.mono _ _)
   | (with_reducible exact capnpref23_Covers.mono _ _ _)
   | (with_reducible exact capnpref23_zeros.mono _ _)
   | (with_reducible exact LeO.refl _)
   | (with_reducible exact LeO.none _)
   | (with_reducible refine LeO.ite ?_ ?_)
   | (with_reducible refine LeO.bind ?_ (fun _ => ?_))
   | exact ih0 _ _ _
   | exact ih1 _ _ _ _ _
   | exact ih2 _ _ _ _ _
   | exact ih3 _ _ _ _ _ _
   | exact capnpref20_Of.mono _ _
   | exact capnpref20_Ones.mono _ _
   | exact capnpref23_Covers.mono _ _ _
   | exact capnpref23_zeros.mono _ _
   | exact LeO.none _
   | refine LeO.ite ?_ ?_
   | refine LeO.bind ?_ (fun _ => ?_)
def capnpref23_Shortest.T11 : Bool × List (List Nat × List Nat) := (true, [([], []), ([], []), ([], []), ([], []), ([2, 3], [2, 3]), ([4], [4]), ([], []), ([6], [6]), ([7], [7]), ([8], [8]), ([], []), ([], []), ([11], [11]), ([10, 12], [10, 12]), ([13], [13]), ([9, 14], [9, 14]), ([5, 15], [5, 15]), ([0, 1, 0, 1, 2, 3, 4, 5, 6, 7, 8, 9, 10, 11, 12, 13, 14, 15, 16], [0, 1]), ([17, 16, 8, 0, 1, 2, 3, 4, 5, 6, 7, 8, 9, 10, 11, 12, 13, 14, 15, 16], [16, 17])])
def capnpref23_Shortest.B11 : List Nat := [0, 0, 0, 0, 12, 28, 0, 64, 192, 448, 0, 0, 2048, 7168, 15360, 32704, 65532, 131071, 262143]
theorem capnpref23_Shortest.tab11 : rtab .any (opsOf Tryd.f19 11) = capnpref23_Shortest.T11 := by kernel_rfl
theorem capnpref23_Shortest.bits11 : waitsOk capnpref23_Shortest.T11.2 capnpref23_Shortest.B11 = true := by kernel_rfl
def capnpref23_Shortest.T16 : Bool × List (List Nat × List Nat) := (true, [([], []), ([], []), ([], []), ([], []), ([2, 3], [2, 3]), ([4], [4]), ([], []), ([6], [6]), ([7], [7]), ([], []), ([], []), ([], []), ([10, 11], [10, 11]), ([9, 12], [9, 12]), ([13], [13]), ([8, 14], [8, 14]), ([5, 15], [5, 15]), ([0, 1, 0, 1, 2, 3, 4, 5, 6, 7, 8, 9, 10, 11, 12, 13, 14, 15, 16], [0, 1]), ([17, 16, 0, 1, 2, 3, 4, 5, 6, 7, 8, 9, 10, 11, 12, 13, 14, 15, 16], [16, 17])])
def capnpref23_Shortest.B16 : List Nat := [0, 0, 0, 0, 12, 28, 0, 64, 192, 0, 0, 0, 3072, 7680, 15872, 32704, 65532, 131071, 262143]
theorem capnpref23_Shortest.tab16 : rtab .any (opsOf Tryd.f19 16) = capnpref23_Shortest.T16 := by kernel_rfl
theorem capnpref23_Shortest.bits16 : waitsOk capnpref23_Shortest.T16.2 capnpref23_Shortest.B16 = true := by kernel_rfl
def capnpref23_Shortest.T18 : Bool × List (List Nat × List Nat) := (true, [([], []), ([], []), ([], []), ([], []), ([2, 3], [2, 3]), ([4], [4]), ([], []), ([], []), ([], []), ([7, 8], [7, 8]), ([6, 9], [6, 9]), ([10], [10]), ([11], [11]), ([5, 12], [5, 12]), ([0, 1, 0, 1, 2, 3, 4, 5, 6, 7, 8, 9, 10, 11, 12, 13], [0, 1]), ([14, 13, 0, 1, 2, 3, 4, 5, 6, 7, 8, 9, 10, 11, 12, 13], [13, 14])])
def capnpref23_Shortest.B18 : List Nat := [0, 0, 0, 0, 12, 28, 0, 0, 0, 384, 960, 1984, 4032, 8188, 16383, 32767]
theorem capnpref23_Shortest.tab18 : rtab .any (opsOf Tryd.f19 18) = capnpref23_Shortest.T18 := by kernel_rfl
theorem capnpref23_Shortest.bits18 : waitsOk capnpref23_Shortest.T18.2 capnpref23_Shortest.B18 = true := by kernel_rfl
set_option maxHeartbeats 8000000 in
set_option maxRecDepth 100000 in
theorem capnpref23_Shortest.calls (k : Nat) (A0 : Option Addr) (c0 : Nat) (l0 : List Int) (r : Int) (w : World) (hr0 : Kd.C (Kd.int .u64) w A0 l0.length l0) (hc0 : l0.length ≤ c0) (h : capnpref23_Shortest.f k l0 = some r) :
  Calls Tryd.prog 19 #[.slice A0 l0.length c0] w fun e w' => e = .returned (.int .i64 r) ∧ Below w.heap.size w w' := by
 have HR0 := Aside0.mk hr0
 have HC0 := Aside0.mk hc0
 clear hr0 hc0
 have HB := Aside0.mk (Below.refl w.heap.size w)
 have H : (if 0 ≤ (wrap64 ((l0.length : Int) + 1)) then (if (wrap64 ((l0.length : Int) + 1) : Int).toNat ≤ 35184372088832 then (capnpref23_Shortest.l0 k l0 (List.replicate (wrap64 ((l0.length : Int) + 1) : Int).toNat 0) (wrap64 ((l0.length : Int) - 1))) else (none)) else (none)) = some r := h
 clear h
 obtain ⟨ji2, hji2⟩ : ∃ j_ : Int, (wrap64 ((l0.length : Int) + 1)) = j_ := ⟨_, rfl⟩
 replace H : (if 0 ≤ (ji2) then (if (ji2 : Int).toNat ≤ 35184372088832 then (capnpref23_Shortest.l0 k l0 (List.replicate (ji2 : Int).toNat 0) (wrap64 ((l0.length : Int) - 1))) else (none)) else (none)) = some r := by first | (rw [hji2] at H; exact H) | (simp only [hji2] at H ⊢; exact H)
 have hji2w : (IntKind.i64.wrap ((l0.length : Int) + 1)) = ji2 := (i64_w _).trans hji2
 by_cases c3 : 0 ≤ (ji2)
 ·rw [if_pos c3] at H
  have c3b0 := eq_true c3
  have c3b1 : decide (0 ≤ (ji2)) = true := decide_eq_true c3
  clear c3
  by_cases c4 : (ji2 : Int).toNat ≤ 35184372088832
  ·rw [if_pos c4] at H
   have c4b0 := eq_true c4
   have c4b1 : decide ((ji2 : Int).toNat ≤ 35184372088832) = true := decide_eq_true c4
   clear c4
   obtain ⟨y444, hy444⟩ : ∃ y_ : List Int, y_ = (List.replicate (ji2 : Int).toNat 0) := ⟨_, rfl⟩
   replace H : (capnpref23_Shortest.l0 k l0 y444 (wrap64 ((l0.length : Int) - 1))) = some r := by first | (rw [hy444]; with_reducible exact H) | (have H2_ := (Option.bind_some _ _).symm.trans H; rw [hy444]; with_reducible exact H2_) | (have H2_ := (Option.bind_some _ _).symm.trans H; with_reducible exact H2_) | with_reducible exact H | (rw [hy444]; exact H) | exact H
   have Ny444 := Aside0.mk hy444
   clear hy444
   have H' := Aside0.mk H
   clear H
   go_enter Tryd.func19, Tryd.ntmps19
   go_wp2_with (first | ((with_reducible refine gate_dst (N := 12) rfl ?_); (try (refine gate_guard (by rfl) ?_; dsimp only)); refine Kd.R_make (Kd.int .i64) _ 3 rfl (N := 12) rfl 58 _ _ rfl ji2 rfl rfl Tryd.underlying58 (.int .i64 0) 8 info3 rfl (by decide) (by omega) 0 (ok := fun _ => True) (okp := fun _ => True) rfl (fun _ hk => hk) trivial (of_decide_eq_true pA) (Nat.le_trans (Nat.mul_le_mul_right _ (of_decide_eq_true pA : ji2.toNat ≤ 35184372088832)) (by omega)) (Below.refl _ _) (Nat.le_refl _) ?_; intro v445 w5 ho6 hb hg_ hnew_; clear hg_ hnew_; (first | rw [← Ny444.out] at ho6 | (simp only [Int.reduceToNat] at ho6; rw [← Ny444.out] at ho6)); have n0_ := Aside0.mk (Kd.R_lower ho6 (below_size pB)); have n1_ := Aside0.mk (below_step pB hb); clear HB; have HO446 := n0_; have HB := n1_; clear n0_ n1_; clear hb ho6))
   go_loopg [4] k (fun kq v4 w' => ∃ (x3_1 : List Int) (x4_1 : Int), v4 = .int .i64 x4_1 ∧ Aside0 (capnpref23_Shortest.l0 kq l0 x3_1 x4_1 = some r) ∧ Aside0 (kq ≤ k) ∧ Aside0 (Kd.R (Kd.int .i64) 3 w' w.heap.size (fun _ => True) v445 x3_1) ∧ Aside0 (Below w.heap.size w w'))
   case atStart => exact ⟨(y444), (wrap64 ((l0.length : Int) - 1)), (by first | rfl | (simp; done) | (simp [*]; done)), H', ⟨Nat.le_refl _⟩, ⟨pR HO446⟩, ⟨pB⟩⟩
   case round =>
    clear H'
    try clear c1
    try clear p2
    try clear c3
    try clear c3b0
    try clear c3b1
    try clear c4
    try clear c4b0
    try clear c4b1
    try clear p6
    obtain ⟨x3_1, x4_1, rfl, HA, HK1, HO_3, HB⟩ := hrel
    cases gk with
    | zero => exact absurd HA.out (by simp [capnpref23_Shortest.l0])
    | succ k1 =>
     have H := HA.out
     clear HA
     simp only [capnpref23_Shortest.l0] at H
     by_cases c7 : x4_1 ≥ 0
     ·rw [if_pos c7] at H
      have c7b0 : decide (0 ≤ x4_1) = true := decide_eq_true c7
      clear c7
      obtain ⟨ji8, hji8⟩ : ∃ j_ : Int, (wrap64 (x4_1 + 1)) = j_ := ⟨_, rfl⟩
      replace H : (if 0 ≤ (ji8) then (if (ji8) < (x3_1.length : Int) then (if 0 ≤ x4_1 then (if x4_1 < (x3_1.length : Int) then (if x4_1 < (l0.length : Int) then ((capnpref20_Of.f k1 (rd l0 x4_1)).bind fun t451 => (capnpref23_Shortest.l1 k1 l0 (x3_1.set (x4_1 : Int).toNat (wrap64 (10 + (rd x3_1 (ji8))))) x4_1 (wrap64 (t451)) 1)) else (none)) else (none)) else (none)) else (none)) else (none)) = some r := by first | (rw [hji8] at H; exact H) | (simp only [hji8] at H ⊢; exact H)
      have hji8w : (IntKind.i64.wrap (x4_1 + 1)) = ji8 := (i64_w _).trans hji8
      by_cases c9 : 0 ≤ (ji8)
      ·rw [if_pos c9] at H
       have c9b0 : decide (0 ≤ (ji8)) = true := decide_eq_true c9
       clear c9
       by_cases c10 : (ji8) < (x3_1.length : Int)
       ·rw [if_pos c10] at H
        have c10b0 : decide ((ji8) < (x3_1.length : Int)) = true := decide_eq_true c10
        clear c10
        by_cases c11 : 0 ≤ x4_1
        ·rw [if_pos c11] at H
         have c11b0 : decide (0 ≤ x4_1) = true := decide_eq_true c11
         clear c11
         by_cases c12 : x4_1 < (x3_1.length : Int)
         ·rw [if_pos c12] at H
          have c12b0 : decide (x4_1 < (x3_1.length : Int)) = true := decide_eq_true c12
          clear c12
          obtain ⟨y449, hy449⟩ : ∃ y_ : List Int, y_ = (x3_1.set (x4_1 : Int).toNat (wrap64 (10 + (rd x3_1 (ji8))))) := ⟨_, rfl⟩
          replace H : (if x4_1 < (l0.length : Int) then ((capnpref20_Of.f k1 (rd l0 x4_1)).bind fun t451 => (capnpref23_Shortest.l1 k1 l0 y449 x4_1 (wrap64 (t451)) 1)) else (none)) = some r := by first | (rw [hy449]; with_reducible exact H) | (have H2_ := (Option.bind_some _ _).symm.trans H; rw [hy449]; with_reducible exact H2_) | (have H2_ := (Option.bind_some _ _).symm.trans H; with_reducible exact H2_) | with_reducible exact H | (rw [hy449]; exact H) | exact H
          have Ny449 := Aside0.mk hy449
          clear hy449
          by_cases c14 : x4_1 < (l0.length : Int)
          ·rw [if_pos c14] at H
           have c14b0 : decide (x4_1 < (l0.length : Int)) = true := decide_eq_true c14
           clear c14
           replace H := Option.bind_eq_some_iff.mp H
           obtain ⟨t451, A150, H⟩ := H
           replace H : (capnpref23_Shortest.l1 k1 l0 y449 x4_1 (wrap64 (t451)) 1) = some r := H
           have A15 := Aside0.mk A150
           clear A150
           have H' := Aside0.mk H
           clear H
           obtain ⟨Ao16, co16, eo16⟩ := Kd.R_slice HO_3.out
           subst eo16
           have p448 : 0 ≤ ((ji8) : Int) := of_decide_eq_true pA
           have q448 : (ji8) < (x3_1.length : Int) := of_decide_eq_true pA
           obtain ⟨ad448, e448, hx448_0⟩ := Kd.at_int (Kd.R_reads' HO_3.out).2.2 (ji8) p448 q448
           cases e448
           replace p448 := eq_true p448
           replace q448 := eq_true q448
           have p13 : 0 ≤ (x4_1 : Int) := of_decide_eq_true pA
           have q13 : (x4_1 : Int) < ((x3_1.length : Int) : Int) := of_decide_eq_true pA
           obtain ⟨go13, co13, eo13, gb13, gl13, cl13, HG13⟩ := Kd.R_form HO_3.out (by omega)
           (first | cases eo13 | (injection eo13 with ea_ en_ ec_; (first | subst ea_ | (injection ea_ with ea_; subst ea_)); subst ec_; clear en_))
           have GB13 := Aside0.mk gb13
           have GG13 := Aside0.mk HG13
           clear gb13 gl13 HG13
           (first | simp only [add_plain] at hx448_0 | skip)
           obtain ⟨hx13_0, hf13_0⟩ := Kd.R_celln 0 HO_3.out (x4_1 : Int) p13 q13
           replace p13 := eq_true p13
           replace q13 := eq_true q13
           have HP17 := Kd.R_putg HO_3.out (x4_1 : Int) (wrap64 (10 + (rd x3_1 (ji8))))
           go_wp2_with (first | ((with_reducible refine gate_store (t := 3) (p := 28) rfl ?_); refine store_event (t := 3) (p := 28) (v := ?vo_w18) (w1 := (wr.setCell ⟨go13, (x4_1 : Int).toNat, none⟩ (.int .i64 (wrap64 (10 + (rd x3_1 (ji8))))))) ?hg ?ho ?hn ?hr ?_; (case ho => rfl); (case hg => rfl); (case hn => rfl); (case hr => first | (go_simp; done) | (go_simp; rfl)); intro w18 hw; have hg : wr.grownBy w18 (some go13) := (by rw [hw]; exact HP17.2); have hp_ : Kd.R (Kd.int .i64) 3 w18 w.heap.size (fun _ => True) (.slice (some ⟨go13, 0, none⟩) x3_1.length co16) y449 := (by rw [hw, Ny449.out]; exact HP17.1); clear HP17; have n0_ := Aside0.mk (hp_); have n1_ := Aside0.mk ((by rw [hw]; exact below_set (HB.out) GB13.out : Below w.heap.size w w18)); clear HO_3; clear HB; have HO_3 := n0_; have HB := n1_; clear n0_ n1_; clear hg hw hp_; have p450 : 0 ≤ (x4_1 : Int) := of_decide_eq_true pA; have q450 : x4_1 < (l0.length : Int) := of_decide_eq_true pA; obtain ⟨ad450, e450, hx450_0⟩ := Kd.at_int HR0.out x4_1 p450 q450; cases e450; replace hx450_0 := (HB.out.cell (World.block_lt_of_cell? w _ hx450_0)).trans hx450_0; replace p450 := eq_true p450; replace q450 := eq_true q450) | ((with_reducible refine gate_callee (f := 24) rfl ?_); refine goesL_ (some 33) rfl rfl Tryd.func24 (by kernel_rfl) rfl #[.int .u64 (rd l0 x4_1)] rfl pM ?_; (with_reducible refine (capnpref20_Of.calls k1 (rd l0 x4_1) t451 _ A15.out).mono ?_); rintro e w19 ⟨rfl, hb⟩; refine ⟨_, rfl, ?_⟩; have n0_ := Aside0.mk (Kd.R_below (pR HO_3) hb); have n1_ := Aside0.mk (below_step pB hb); clear HO_3; clear HB; have HO_3 := n0_; have HB := n1_; clear n0_ n1_; (try clear hb); (try clear hb2); (try clear hk); (try clear hi)))
           go_loopg [6] k1 (fun kq v6 w' => ∃ (x3_2 : List Int) (x6_2 : Int), v6 = .int .i64 x6_2 ∧ Aside0 (capnpref23_Shortest.l1 kq l0 x3_2 x4_1 (wrap64 (t451)) x6_2 = some r) ∧ Aside0 (kq ≤ k1) ∧ Aside0 (Kd.R (Kd.int .i64) 3 w' w.heap.size (fun _ => True) (.slice (some ⟨go13, 0, none⟩) x3_1.length co16) x3_2) ∧ Aside0 (Below w.heap.size w w'))
           case atStart => exact ⟨(y449), (1), (by first | rfl | (simp; done) | (simp [*]; done)), H', ⟨Nat.le_refl _⟩, ⟨pR HO_3⟩, ⟨pB⟩⟩
           case round =>
            clear H'
            try clear c1
            try clear p1
            try clear q1
            try clear hx1
            try clear hf1
            try clear c2
            try clear p2
            try clear c3
            try clear c3b0
            try clear c3b1
            try clear c4
            try clear c4b0
            try clear c4b1
            try clear p4
            try clear q4
            try clear hx4
            try clear p6
            try clear c7
            try clear c7b0
            try clear c9
            try clear c9b0
            try clear c10
            try clear c10b0
            try clear c11
            try clear c11b0
            try clear c12
            try clear c12b0
            try clear p13
            try clear q13
            try clear hx13
            try clear hf13
            try clear c14
            try clear c14b0
            try clear c19
            try clear hx13_0
            try clear hx448_0
            try clear hx450_0
            try clear p13
            try clear p2
            try clear p448
            try clear p450
            try clear p6
            try clear q13
            try clear q448
            try clear q450
            obtain ⟨x3_2, x6_2, rfl, HA, HK2, HO_3, HB⟩ := hrel
            have hl3_2 := (Kd.R_reads' HO_3.out).1
            rw [hl3_2] at HO_3
            (try simp only [hl3_2])
            cases gk with
            | zero => exact absurd HA.out (by simp [capnpref23_Shortest.l1])
            | succ k2 =>
             have H := HA.out
             clear HA
             simp only [capnpref23_Shortest.l1] at H
             by_cases c20 : x6_2 < 255
             ·rw [if_pos c20] at H
              have c20b0 : decide (x6_2 < 255) = true := decide_eq_true c20
              clear c20
              replace H := Option.bind_eq_some_iff.mp H
              obtain ⟨t452, A210, H⟩ := H
              replace H : (if t452 = true then (if 0 ≤ x4_1 then (if x4_1 < (x3_2.length : Int) then ((capnpref20_Ones.f k2 ((x6_2) % 256)).bind fun t454 => (if 0 ≤ (wrap64 (x4_1 + 1)) then (if (wrap64 (x4_1 + 1)) < (x3_2.length : Int) then (capnpref23_Shortest.l1 k2 l0 (x3_2.set (x4_1 : Int).toNat (mn (rd x3_2 x4_1) (wrap64 ((wrap64 (1 + t454)) + (rd x3_2 (wrap64 (x4_1 + 1))))))) x4_1 (wrap64 (t451)) (wrap64 (x6_2 + 1))) else (none)) else (none))) else (none)) else (none)) else (capnpref23_Shortest.l1 k2 l0 x3_2 x4_1 (wrap64 (t451)) (wrap64 (x6_2 + 1)))) = some r := H
              have A21 := Aside0.mk A210
              clear A210
              by_cases c22 : t452 = true
              ·subst c22
               have H1 : (if 0 ≤ x4_1 then (if x4_1 < (x3_2.length : Int) then ((capnpref20_Ones.f k2 ((x6_2) % 256)).bind fun t454 => (if 0 ≤ (wrap64 (x4_1 + 1)) then (if (wrap64 (x4_1 + 1)) < (x3_2.length : Int) then (capnpref23_Shortest.l1 k2 l0 (x3_2.set (x4_1 : Int).toNat (mn (rd x3_2 x4_1) (wrap64 ((wrap64 (1 + t454)) + (rd x3_2 (wrap64 (x4_1 + 1))))))) x4_1 (wrap64 (t451)) (wrap64 (x6_2 + 1))) else (none)) else (none))) else (none)) else (none)) = some r := by rw [if_pos rfl] at H; exact H
               clear H
               have H := H1
               clear H1
               by_cases c23 : 0 ≤ x4_1
               ·rw [if_pos c23] at H
                have c23b0 : decide (0 ≤ x4_1) = true := decide_eq_true c23
                clear c23
                by_cases c24 : x4_1 < (x3_2.length : Int)
                ·rw [if_pos c24] at H
                 have c24b0 : decide (x4_1 < (x3_2.length : Int)) = true := decide_eq_true c24
                 clear c24
                 replace H := Option.bind_eq_some_iff.mp H
                 obtain ⟨t454, A250, H⟩ := H
                 replace H : (if 0 ≤ (wrap64 (x4_1 + 1)) then (if (wrap64 (x4_1 + 1)) < (x3_2.length : Int) then (capnpref23_Shortest.l1 k2 l0 (x3_2.set (x4_1 : Int).toNat (mn (rd x3_2 x4_1) (wrap64 ((wrap64 (1 + t454)) + (rd x3_2 (wrap64 (x4_1 + 1))))))) x4_1 (wrap64 (t451)) (wrap64 (x6_2 + 1))) else (none)) else (none)) = some r := H
                 have A25 := Aside0.mk A250
                 clear A250
                 try subst hji8
                 obtain ⟨ji26, hji26⟩ : ∃ j_ : Int, (wrap64 (x4_1 + 1)) = j_ := ⟨_, rfl⟩
                 replace H : (if 0 ≤ (ji26) then (if (ji26) < (x3_2.length : Int) then (capnpref23_Shortest.l1 k2 l0 (x3_2.set (x4_1 : Int).toNat (mn (rd x3_2 x4_1) (wrap64 ((wrap64 (1 + t454)) + (rd x3_2 (ji26)))))) x4_1 (wrap64 (t451)) (wrap64 (x6_2 + 1))) else (none)) else (none)) = some r := by first | (rw [hji26] at H; exact H) | (simp only [hji26] at H ⊢; exact H)
                 (try rw [hji26] at A21)
                 (try rw [hji26] at A25)
                 have hji26w : (IntKind.i64.wrap (x4_1 + 1)) = ji26 := (i64_w _).trans hji26
                 by_cases c27 : 0 ≤ (ji26)
                 ·rw [if_pos c27] at H
                  have c27b0 : decide (0 ≤ (ji26)) = true := decide_eq_true c27
                  clear c27
                  by_cases c28 : (ji26) < (x3_2.length : Int)
                  ·rw [if_pos c28] at H
                   have c28b0 : decide ((ji26) < (x3_2.length : Int)) = true := decide_eq_true c28
                   clear c28
                   obtain ⟨ji29, hji29⟩ : ∃ j_ : Int, (mn (rd x3_2 x4_1) (wrap64 ((wrap64 (1 + t454)) + (rd x3_2 (ji26))))) = j_ := ⟨_, rfl⟩
                   replace H : (capnpref23_Shortest.l1 k2 l0 (x3_2.set (x4_1 : Int).toNat (ji29)) x4_1 (wrap64 (t451)) (wrap64 (x6_2 + 1))) = some r := by first | (rw [hji29] at H; exact H) | (simp only [hji29] at H ⊢; exact H)
                   (try rw [hji29] at A21)
                   (try rw [hji29] at A25)
                   have hji29_ : (if (wrap64 ((wrap64 (1 + t454)) + (rd x3_2 (ji26)))) < (rd x3_2 x4_1) then (wrap64 ((wrap64 (1 + t454)) + (rd x3_2 (ji26)))) else (rd x3_2 x4_1)) = ji29 := hji29
                   obtain ⟨y456, hy456⟩ : ∃ y_ : List Int, y_ = (x3_2.set (x4_1 : Int).toNat (ji29)) := ⟨_, rfl⟩
                   replace H : (capnpref23_Shortest.l1 k2 l0 y456 x4_1 (wrap64 (t451)) (wrap64 (x6_2 + 1))) = some r := by first | (rw [hy456]; with_reducible exact H) | (have H2_ := (Option.bind_some _ _).symm.trans H; rw [hy456]; with_reducible exact H2_) | (have H2_ := (Option.bind_some _ _).symm.trans H; with_reducible exact H2_) | with_reducible exact H | (rw [hy456]; exact H) | exact H
                   have Ny456 := Aside0.mk hy456
                   clear hy456
                   have H' := Aside0.mk H
                   clear H
                   try go_wp2_with (first | ((with_reducible refine gate_callee (f := 34) rfl ?_); refine goesL_ (some 41) rfl rfl Tryd.func34 (by kernel_rfl) rfl #[.int .i64 x6_2, .int .i64 (wrap64 (t451))] rfl pM ?_; (with_reducible refine (capnpref23_Covers.calls k2 x6_2 (wrap64 (t451)) true _ A21.out).mono ?_); rintro e w' ⟨rfl, ⟨nd, rfl⟩⟩; refine ⟨_, rfl, ?_⟩; (try (rw [drewN_self wr]; generalize hq_ : World.drewN wr _ = wr; have n0_ : Aside0 (Kd.R (Kd.int .i64) 3 wr w.heap.size (fun _ => True) (.slice (some ⟨go13, 0, none⟩) x3_2.length co16) x3_2) := ⟨by rw [← hq_]; exact (pR HO_3)⟩; have n1_ : Aside0 (Below w.heap.size w wr) := ⟨by rw [← hq_]; exact pB⟩; clear HO_3 HB hq_; have HO_3 := n0_; have HB := n1_; clear n0_ n1_))))
                   have n0_ := Aside0.mk (Kd.R_drew HO_3.out)
                   have n1_ := Aside0.mk (below_drew1 HB.out)
                   clear HO_3
                   clear HB
                   have HO_3 := n0_
                   have HB := n1_
                   clear n0_ n1_
                   have p453 : 0 ≤ (x4_1 : Int) := of_decide_eq_true pA
                   have q453 : x4_1 < (x3_2.length : Int) := of_decide_eq_true pA
                   obtain ⟨ad453, e453, hx453_0⟩ := Kd.at_int (Kd.R_reads' HO_3.out).2.2 x4_1 p453 q453
                   obtain rfl : (⟨go13, 0, none⟩ : Addr) = ad453 := (by injection e453)
                   (first | simp only [add_plain] at hx453_0 | simp only [add_at] at hx453_0 | simp only [Addr.add, Nat.zero_add] at hx453_0 | skip)
                   replace p453 := eq_true p453
                   replace q453 := eq_true q453
                   have p455 : 0 ≤ ((ji26) : Int) := of_decide_eq_true pA
                   have q455 : (ji26) < (x3_2.length : Int) := of_decide_eq_true pA
                   obtain ⟨ad455, e455, hx455_0⟩ := Kd.at_int (Kd.R_reads' HO_3.out).2.2 (ji26) p455 q455
                   obtain rfl : (⟨go13, 0, none⟩ : Addr) = ad455 := (by injection e455)
                   (first | simp only [add_plain] at hx455_0 | simp only [add_at] at hx455_0 | simp only [Addr.add, Nat.zero_add] at hx455_0 | skip)
                   replace p455 := eq_true p455
                   replace q455 := eq_true q455
                   refine start_ (n := 19) (S := fun w' => w'.cell? ⟨go13, (x4_1).toNat, none⟩ = some (.int .i64 (rd x3_2 x4_1)) ∧ w'.cell? ⟨go13, ((ji26)).toNat, none⟩ = some (.int .i64 (rd x3_2 (ji26)))) (ds := [18]) #[false, false, false, false, false, false, false, false, false, false, false, false, false, false, false, false, false, false, false] (by kernel_rfl) rfl rfl ⟨hx453_0, hx455_0⟩ (fun hHeld => ?_); refine with_tabW capnpref23_Shortest.tab11 capnpref23_Shortest.bits11 (fun HT_ HW_ => ?_)
                   generalize wr.drew = w31 at HO_3 HB hx453_0 hx455_0 hHeld ⊢
                   refine pure_ (i := 0) (N := some 42) (v := ?_) (a' := ?_) #[true, false, false, false, false, false, false, false, false, false, false, false, false, false, false, false, false, false, false] rfl rfl (any_of HT_.out (by kernel_rfl)) (fun _ _ _ h => h) (Or.inl ⟨by rfl, ?_⟩) ?_ ?_
                   rotate_left
                   ·intro w'
                    go_simp
                    with_reducible rfl
                   rotate_left
                   ·simp only [Act.put, List.setIfInBounds_toArray, List.set_cons_zero, List.set_cons_succ, i64_w, i32_w]
                    rfl
                   refine pure_ (i := 1) (N := some 43) (v := ?_) (a' := ?_) #[true, true, false, false, false, false, false, false, false, false, false, false, false, false, false, false, false, false, false] rfl rfl (any_of HT_.out (by kernel_rfl)) (fun _ _ _ h => h) (Or.inl ⟨by rfl, ?_⟩) ?_ ?_
                   rotate_left
                   ·intro w'
                    go_simp
                    with_reducible rfl
                   rotate_left
                   ·simp only [Act.put, List.setIfInBounds_toArray, List.set_cons_zero, List.set_cons_succ, i64_w, i32_w]
                    rfl
                   refine pure_ (i := 2) (N := some 44) (v := ?_) (a' := ?_) #[true, true, true, false, false, false, false, false, false, false, false, false, false, false, false, false, false, false, false] rfl rfl (any_of HT_.out (by kernel_rfl)) (fun _ _ _ h => h) (Or.inl ⟨by rfl, ?_⟩) ?_ ?_
                   rotate_left
                   ·intro w'
                    go_simp
                    with_reducible rfl
                   rotate_left
                   ·simp only [Act.put, List.setIfInBounds_toArray, List.set_cons_zero, List.set_cons_succ, i64_w, i32_w]
                    rfl
                   refine pure_ (i := 3) (N := some 45) (v := ?_) (a' := ?_) #[true, true, true, true, false, false, false, false, false, false, false, false, false, false, false, false, false, false, false] rfl rfl (any_of HT_.out (by kernel_rfl)) (fun _ _ _ h => h) (Or.inl ⟨by rfl, ?_⟩) ?_ ?_
                   rotate_left
                   ·intro w'
                    go_simp
                    with_reducible rfl
                   rotate_left
                   ·simp only [Act.put, List.setIfInBounds_toArray, List.set_cons_zero, List.set_cons_succ, i64_w, i32_w]
                    rfl
                   refine pure_ (i := 4) (N := some 46) (v := ?_) (a' := ?_) #[true, true, true, true, true, false, false, false, false, false, false, false, false, false, false, false, false, false, false] rfl rfl (any_of HT_.out (by kernel_rfl)) (fun _ _ _ h => h) (Or.inl ⟨by rfl, ?_⟩) ?_ ?_
                   rotate_left
                   ·intro w'
                    go_simp
                    with_reducible rfl
                   rotate_left
                   ·simp only [Act.put, List.setIfInBounds_toArray, List.set_cons_zero, List.set_cons_succ, i64_w, i32_w]
                    rfl
                   refine pure_ (i := 6) (N := some 48) (v := ?_) (a' := ?_) #[true, true, true, true, true, false, true, false, false, false, false, false, false, false, false, false, false, false, false] rfl rfl (any_of HT_.out (by kernel_rfl)) (fun _ _ _ h => h) (Or.inl ⟨by rfl, ?_⟩) ?_ ?_
                   rotate_left
                   ·intro w'
                    go_simp
                    with_reducible rfl
                   rotate_left
                   ·simp only [Act.put, List.setIfInBounds_toArray, List.set_cons_zero, List.set_cons_succ, i64_w, i32_w]
                    rfl
                   refine pure_ (i := 7) (N := some 49) (v := ?_) (a' := ?_) #[true, true, true, true, true, false, true, true, false, false, false, false, false, false, false, false, false, false, false] rfl rfl (any_of HT_.out (by kernel_rfl)) (fun _ _ _ h => h) (Or.inl ⟨by rfl, ?_⟩) ?_ ?_
                   rotate_left
                   ·intro w'
                    go_simp
                    with_reducible rfl
                   rotate_left
                   ·simp only [Act.put, List.setIfInBounds_toArray, List.set_cons_zero, List.set_cons_succ, i64_w, i32_w]
                    rfl
                   refine pure_ (i := 10) (N := some 52) (v := ?_) (a' := ?_) #[true, true, true, true, true, false, true, true, false, false, true, false, false, false, false, false, false, false, false] rfl rfl (any_of HT_.out (by kernel_rfl)) (fun _ _ _ h => h) (Or.inl ⟨by rfl, ?_⟩) ?_ ?_
                   rotate_left
                   ·intro w'
                    go_simp
                    with_reducible rfl
                   rotate_left
                   ·simp only [Act.put, List.setIfInBounds_toArray, List.set_cons_zero, List.set_cons_succ, i64_w, i32_w]
                    rfl
                   refine pure_ (i := 11) (N := some 53) (v := ?_) (a' := ?_) #[true, true, true, true, true, false, true, true, false, false, true, true, false, false, false, false, false, false, false] rfl rfl (any_of HT_.out (by kernel_rfl)) (fun _ _ _ h => h) (Or.inl ⟨by rfl, ?_⟩) ?_ ?_
                   rotate_left
                   ·intro w'
                    go_simp
                    with_reducible rfl
                   rotate_left
                   ·simp only [Act.put, List.setIfInBounds_toArray, List.set_cons_zero, List.set_cons_succ, i64_w, i32_w]
                    rfl
                   refine pure_ (i := 12) (N := some 54) (v := ?_) (a' := ?_) #[true, true, true, true, true, false, true, true, false, false, true, true, true, false, false, false, false, false, false] rfl rfl (any_of HT_.out (by kernel_rfl)) (fun _ _ _ h => h) (Or.inl ⟨by rfl, ?_⟩) ?_ ?_
                   rotate_left
                   ·intro w'
                    go_simp
                    with_reducible rfl
                   rotate_left
                   ·simp only [Act.put, List.setIfInBounds_toArray, List.set_cons_zero, List.set_cons_succ, i64_w, i32_w]
                    rfl
                   refine pure_ (i := 13) (N := some 55) (v := ?_) (a' := ?_) #[true, true, true, true, true, false, true, true, false, false, true, true, true, true, false, false, false, false, false] rfl rfl (any_of HT_.out (by kernel_rfl)) (fun _ _ _ h => h) (Or.inl ⟨by rfl, ?_⟩) ?_ ?_
                   rotate_left
                   ·intro w'
                    go_simp
                    with_reducible rfl
                   rotate_left
                   ·simp only [Act.put, List.setIfInBounds_toArray, List.set_cons_zero, List.set_cons_succ, i64_w, i32_w]
                    rfl
                   refine take_ (i := 5) (N := some 47) (v := ?_) (a' := ?_) #[true, true, true, true, true, true, true, true, false, false, true, true, true, true, false, false, false, false, false] rfl rfl (take_ofW HT_.out HW_.out (by kernel_rfl)) (fun _ _ _ h => h) (Or.inl ⟨by rfl, ?_⟩) hHeld ?_ ?_
                   rotate_left
                   ·rintro w' ⟨s0, s1⟩
                    go_simp
                    with_reducible rfl
                   rotate_left
                   ·simp only [Act.put, List.setIfInBounds_toArray, List.set_cons_zero, List.set_cons_succ, i64_w, i32_w]
                    rfl
                   refine take_ (i := 14) (N := some 56) (v := ?_) (a' := ?_) #[true, true, true, true, true, true, true, true, false, false, true, true, true, true, true, false, false, false, false] rfl rfl (take_ofW HT_.out HW_.out (by kernel_rfl)) (fun _ _ _ h => h) (Or.inl ⟨by rfl, ?_⟩) hHeld ?_ ?_
                   rotate_left
                   ·rintro w' ⟨s0, s1⟩
                    go_simp
                    with_reducible rfl
                   rotate_left
                   ·simp only [Act.put, List.setIfInBounds_toArray, List.set_cons_zero, List.set_cons_succ, i64_w, i32_w]
                    rfl
                   refine one_ (i := 8) (N := some 50) #[true, true, true, true, true, true, true, true, true, false, true, true, true, true, true, false, false, false, false] rfl rfl (one_of HT_.out (by kernel_rfl)) (by decide) (fun K hK => ?_)
                   refine goes_ Tryd.func28 (by kernel_rfl) rfl #[.int .u8 ((x6_2) % 256)] (by rfl) rfl rfl pM ?_
                   with_reducible refine (capnpref20_Ones.calls k2 ((x6_2) % 256) t454 _ A25.out).mono ?_
                   rintro e w' ⟨rfl, ⟨nd, rfl⟩⟩
                   refine ⟨_, rfl, ?_⟩
                   have p30 : 0 ≤ (x4_1 : Int) := of_decide_eq_true pA
                   have q30 : (x4_1 : Int) < ((x3_2.length : Int) : Int) := of_decide_eq_true pA
                   obtain ⟨hx30_0, hf30_0⟩ := Kd.R_celln 0 HO_3.out (x4_1 : Int) p30 q30
                   replace p30 := eq_true p30
                   replace q30 := eq_true q30
                   have HP32 := Kd.R_putn HO_3.out (x4_1 : Int) ji29
                   rw [← Ny456.out] at HP32
                   have HQ32 := Aside0.mk HP32
                   clear HP32
                   refine hK.out _ _ ⟨hHeld.1, hHeld.2⟩ (fun hHeld => ?_)
                   clear hK K
                   refine norm_ (a' := ?_) ?_ ?_
                   rotate_left
                   ·show Act.put _ (some 50) _ = _
                    simp only [Act.put, List.setIfInBounds_toArray, List.set_cons_zero, List.set_cons_succ, i64_w, i32_w]
                    rfl
                   refine pure_ (i := 9) (N := some 51) (v := ?_) (a' := ?_) #[true, true, true, true, true, true, true, true, true, true, true, true, true, true, true, false, false, false, false] rfl rfl (any_of HT_.out (by kernel_rfl)) (fun _ _ _ h => h) (Or.inl ⟨by rfl, ?_⟩) ?_ ?_
                   rotate_left
                   ·intro w'
                    go_simp
                    with_reducible rfl
                   rotate_left
                   ·simp only [Act.put, List.setIfInBounds_toArray, List.set_cons_zero, List.set_cons_succ, i64_w, i32_w]
                    rfl
                   refine pure_ (i := 15) (N := some 57) (v := ?_) (a' := ?_) #[true, true, true, true, true, true, true, true, true, true, true, true, true, true, true, true, false, false, false] rfl rfl (any_of HT_.out (by kernel_rfl)) (fun _ _ _ h => h) (Or.inl ⟨by rfl, ?_⟩) ?_ ?_
                   rotate_left
                   ·intro w'
                    go_simp
                    with_reducible rfl
                   rotate_left
                   ·simp only [Act.put, List.setIfInBounds_toArray, List.set_cons_zero, List.set_cons_succ, i64_w, i32_w]
                    rfl
                   refine pure_ (i := 16) (N := some 58) (v := ?_) (a' := ?_) #[true, true, true, true, true, true, true, true, true, true, true, true, true, true, true, true, true, false, false] rfl rfl (any_of HT_.out (by kernel_rfl)) (fun _ _ _ h => h) (Or.inl ⟨by rfl, ?_⟩) ?_ ?_
                   rotate_left
                   ·intro w'
                    go_simp
                    with_reducible rfl
                   rotate_left
                   ·simp only [Act.put, List.setIfInBounds_toArray, List.set_cons_zero, List.set_cons_succ, i64_w, i32_w]
                    rfl
                   refine pure_ (i := 17) (N := some 59) (v := ?_) (a' := ?_) #[true, true, true, true, true, true, true, true, true, true, true, true, true, true, true, true, true, true, false] rfl rfl (any_of HT_.out (by kernel_rfl)) (fun _ _ _ h => h) (Or.inl ⟨by rfl, ?_⟩) ?_ ?_
                   rotate_left
                   ·intro w'
                    go_simp
                    with_reducible rfl
                   rotate_left
                   ·simp only [Act.put, List.setIfInBounds_toArray, List.set_cons_zero, List.set_cons_succ, i64_w, i32_w]
                    rfl
                   refine last_ (i := 18) (N := none) #[true, true, true, true, true, true, true, true, true, true, true, true, true, true, true, true, true, true, true] rfl rfl (one_of HT_.out (by kernel_rfl)) (by decide) (fun K hK => ?_)
                   refine skip_ (w1 := ?_) (by rfl) rfl ?_ ?_
                   rotate_left
                   ·go_simp
                    rfl
                   refine hK.out _ _ ?_
                   clear hK K
                   refine done_ (done_of HT_.out (by kernel_rfl)) ?_
                   try go_wp2
                   (try simp only [← hl3_2])
                   (first | go_roundg k2 | ((try subst hji2); (try subst hji8); (try subst hji26); (try subst hji29); go_roundg k2))
                   case measure => have := HK1.out; have := HK2.out; omega
                   case rel => exact ⟨(y456), (wrap64 (x6_2 + 1)), (by first | rfl | (simp; done) | (simp [*]; done)), H', ⟨by have := HK1.out; have := HK2.out; omega⟩, ⟨by (try simp only [hl3_2]); (with_reducible repeat (first | apply Kd.R_alloc | apply Kd.R_drewN | apply Kd.R_drew)); exact HQ32.out⟩, ⟨by repeat (first | (with_reducible first | exact HB.out | apply below_alloc | apply pw_below_drewN | apply below_drew1 | refine below_set ?_ GB13.out) | exact HB.out)⟩⟩
                  ·rw [if_neg c28] at H
                   exact absurd H (by simp)
                 ·rw [if_neg c27] at H
                  exact absurd H (by simp)
                ·rw [if_neg c24] at H
                 exact absurd H (by simp)
               ·rw [if_neg c23] at H
                exact absurd H (by simp)
              ·replace c22 := Bool.eq_false_iff.mpr c22
               subst c22
               have H1 : (capnpref23_Shortest.l1 k2 l0 x3_2 x4_1 (wrap64 (t451)) (wrap64 (x6_2 + 1))) = some r := by rw [if_neg (show ¬ (false = true) by decide)] at H; exact H
               clear H
               have H := H1
               clear H1
               have H' := Aside0.mk H
               clear H
               go_wp2_with (first | ((with_reducible refine gate_callee (f := 34) rfl ?_); refine goesL_ (some 41) rfl rfl Tryd.func34 (by kernel_rfl) rfl #[.int .i64 x6_2, .int .i64 (wrap64 (t451))] rfl pM ?_; (with_reducible refine (capnpref23_Covers.calls k2 x6_2 (wrap64 (t451)) false _ A21.out).mono ?_); rintro e w' ⟨rfl, ⟨nd, rfl⟩⟩; refine ⟨_, rfl, ?_⟩))
               (try simp only [← hl3_2])
               (first | go_roundg k2 | ((try subst hji2); (try subst hji8); go_roundg k2))
               case measure => have := HK1.out; have := HK2.out; omega
               case rel => exact ⟨(x3_2), (wrap64 (x6_2 + 1)), (by first | rfl | (simp; done) | (simp [*]; done)), H', ⟨by have := HK1.out; have := HK2.out; omega⟩, ⟨by (try simp only [hl3_2]); (with_reducible repeat (first | apply Kd.R_alloc | apply Kd.R_drewN | apply Kd.R_drew)); exact HO_3.out⟩, ⟨pB⟩⟩
             ·rw [if_neg c20] at H
              have c20b0 : decide (x6_2 < 255) = false := decide_eq_false c20
              clear c20
              by_cases c33 : 0 ≤ x4_1
              ·rw [if_pos c33] at H
               have c33b0 := eq_true c33
               have c33b1 : decide (0 ≤ x4_1) = true := decide_eq_true c33
               clear c33
               by_cases c34 : x4_1 ≤ (l0.length : Int)
               ·rw [if_pos c34] at H
                have c34b0 := eq_true c34
                have c34b1 : decide (x4_1 ≤ (l0.length : Int)) = true := decide_eq_true c34
                clear c34
                replace H := Option.bind_eq_some_iff.mp H
                obtain ⟨t458, A350, H⟩ := H
                replace H : (capnpref23_Shortest.l2 k2 l0 x3_2 x4_1 t458 1) = some r := H
                have A35 := Aside0.mk A350
                clear A350
                have H' := Aside0.mk H
                clear H
                obtain ⟨i036, hi036, _, hsz36, _⟩ := info_parts info37
                obtain ⟨A36, hcut36, hA36, hC36⟩ := print_drop_of (P := Tryd.prog) (Value.int .u64) 0 23 37 .i64 Tryd.underlying23 hi036 hsz36 (some ad450) c0 l0 x4_1 (of_decide_eq_true pA) (of_decide_eq_true pA) HC0.out
                have HR457 := Aside0.mk (Kd.C_of_reads (h1 := fun _ => rfl) (hA36 _ (Kd.reads_of_C HR0.out)))
                have HC457 := Aside0.mk hC36
                clear hA36 hC36 hi036 hsz36
                go_wp2_with (first | ((with_reducible refine gate_callee (f := 35) rfl ?_); refine goesL_ (some 63) rfl rfl Tryd.func35 (by kernel_rfl) rfl #[.slice A36 (l0.drop (x4_1 : Int).toNat).length (c0 - x4_1.toNat)] rfl (by (try simp only [List.map_toArray, List.map_cons, List.map_nil]); first | done | (rw [show (l0.drop (x4_1 : Int).toNat).length = (l0.length - x4_1.toNat) from List.length_drop] <;> rfl) | rfl | (simp only [List.length_drop, List.length_take]; rfl)) ?_; (with_reducible refine (capnpref23_zeros.calls k2 _ _ (l0.drop (x4_1 : Int).toNat) t458 _ ?side1 ?side2 A35.out).mono ?_); (case side1 => repeat (first | exact (Kd.C_below HR457.out HB.out) | (with_reducible refine Kd.C_alloc ?_ _) | (with_reducible refine Kd.C_drewN ?_ _) | (with_reducible refine Kd.C_drew ?_))); (case side2 => exact HC457.out); rintro e w' ⟨rfl, ⟨nd, rfl⟩⟩; refine ⟨_, rfl, ?_⟩))
                go_loopg [8] k2 (fun kq v8 w' => ∃ (x3_3 : List Int) (x8_3 : Int), v8 = .int .i64 x8_3 ∧ Aside0 (capnpref23_Shortest.l2 kq l0 x3_3 x4_1 t458 x8_3 = some r) ∧ Aside0 (kq ≤ k2) ∧ Aside0 (Kd.R (Kd.int .i64) 3 w' w.heap.size (fun _ => True) (.slice (some ⟨go13, 0, none⟩) x3_2.length co16) x3_3) ∧ Aside0 (Below w.heap.size w w'))
                case atStart => exact ⟨(x3_2), (1), (by first | rfl | (simp; done) | (simp [*]; done)), H', ⟨Nat.le_refl _⟩, ⟨by (try simp only [hl3_2]); (with_reducible repeat (first | apply Kd.R_alloc | apply Kd.R_drewN | apply Kd.R_drew)); exact HO_3.out⟩, ⟨pB⟩⟩
                case round =>
                 clear H'
                 try clear c1
                 try clear p1
                 try clear q1
                 try clear hx1
                 try clear hf1
                 try clear c2
                 try clear p2
                 try clear c3
                 try clear c3b0
                 try clear c3b1
                 try clear p3
                 try clear q3
                 try clear hx3
                 try clear hf3
                 try clear c4
                 try clear c4b0
                 try clear c4b1
                 try clear p4
                 try clear q4
                 try clear hx4
                 try clear p6
                 try clear c7
                 try clear c7b0
                 try clear c9
                 try clear c9b0
                 try clear c10
                 try clear c10b0
                 try clear c11
                 try clear c11b0
                 try clear c12
                 try clear c12b0
                 try clear p13
                 try clear q13
                 try clear hx13
                 try clear hf13
                 try clear c14
                 try clear c14b0
                 try clear c19
                 try clear c20
                 try clear c20b0
                 try clear c22
                 try clear c23
                 try clear c23b0
                 try clear c24
                 try clear c24b0
                 try clear c27
                 try clear c27b0
                 try clear c28
                 try clear c28b0
                 try clear p30
                 try clear q30
                 try clear hx30
                 try clear hf30
                 try clear c33
                 try clear c33b0
                 try clear c33b1
                 try clear c34
                 try clear c34b0
                 try clear c34b1
                 try clear c35
                 try clear hx13_0
                 try clear hx30_0
                 try clear hx448_0
                 try clear hx450_0
                 try clear hx453_0
                 try clear hx455_0
                 try clear p1
                 try clear p13
                 try clear p2
                 try clear p30
                 try clear p4
                 try clear p448
                 try clear p450
                 try clear p453
                 try clear p455
                 try clear p6
                 try clear q1
                 try clear q13
                 try clear q30
                 try clear q4
                 try clear q448
                 try clear q450
                 try clear q453
                 try clear q455
                 obtain ⟨x3_3, x8_3, rfl, HA, HK3, HO_3, HB⟩ := hrel
                 have hl3_3 := (Kd.R_reads' HO_3.out).1
                 rw [hl3_3] at HO_3
                 (try simp only [hl3_3])
                 cases gk with
                 | zero => exact absurd HA.out (by simp [capnpref23_Shortest.l2])
                 | succ k3 =>
                  have H := HA.out
                  clear HA
                  simp only [capnpref23_Shortest.l2] at H
                  have HC37 := Aside0.mk H
                  clear H
                  go_upto_region 14 with (fail)
                  go_cut [73] (fun v73 wc => ∃ (kq : Nat) (x73_36 : Bool), v73 = .bool x73_36 ∧ Aside0 (capnpref23_Shortest.j3 kq l0 x3_3 x4_1 t458 x8_3 x73_36 = some r) ∧ Aside0 (kq ≤ k3) ∧ Aside0 (Kd.R (Kd.int .i64) 3 wc w.heap.size (fun _ => True) (.slice (some ⟨go13, 0, none⟩) x3_3.length co16) x3_3) ∧ Aside0 (Below w.heap.size w wc))
                  case first =>
                   have H := HC37.out
                   clear HC37
                   by_cases c38 : x8_3 ≤ 256
                   ·rw [if_pos c38] at H
                    have c38b0 : decide (x8_3 ≤ 256) = true := decide_eq_true c38
                    clear c38
                    (first | rw [c38b0] | (simp only [i64_w, i32_w]; rw [c38b0]) | skip)
                    have H' := Aside0.mk H
                    clear H
                    go_wp2
                    go_meet
                    case rel => exact ⟨_, (decide ((wrap64 (x4_1 + x8_3)) ≤ (l0.length : Int))), (by first | rfl | (simp; done) | (simp [*]; done)), H', ⟨by have := HK1.out; have := HK2.out; have := HK3.out; first | omega | exact Nat.le_refl _⟩, ⟨by (try simp only [hl3_2]); (try simp only [hl3_3]); (with_reducible repeat (first | apply Kd.R_alloc | apply Kd.R_drewN | apply Kd.R_drew)); exact HO_3.out⟩, ⟨pB⟩⟩
                   ·rw [if_neg c38] at H
                    have c38b0 : decide (x8_3 ≤ 256) = false := decide_eq_false c38
                    clear c38
                    (first | rw [c38b0] | (simp only [i64_w, i32_w]; rw [c38b0]) | skip)
                    have H' := Aside0.mk H
                    clear H
                    go_wp2
                    go_meet
                    case rel => exact ⟨_, (false), (by first | rfl | (simp; done) | (simp [*]; done)), H', ⟨by have := HK1.out; have := HK2.out; have := HK3.out; first | omega | exact Nat.le_refl _⟩, ⟨by (try simp only [hl3_2]); (try simp only [hl3_3]); (with_reducible repeat (first | apply Kd.R_alloc | apply Kd.R_drewN | apply Kd.R_drew)); exact HO_3.out⟩, ⟨pB⟩⟩
                  case rest =>
                   clear HC37
                   try clear c1
                   try clear p1
                   try clear q1
                   try clear hx1
                   try clear hf1
                   try clear c2
                   try clear p2
                   try clear c3
                   try clear c3b0
                   try clear c3b1
                   try clear p3
                   try clear q3
                   try clear hx3
                   try clear hf3
                   try clear c4
                   try clear c4b0
                   try clear c4b1
                   try clear p4
                   try clear q4
                   try clear hx4
                   try clear p6
                   try clear c7
                   try clear c7b0
                   try clear c9
                   try clear c9b0
                   try clear c10
                   try clear c10b0
                   try clear c11
                   try clear c11b0
                   try clear c12
                   try clear c12b0
                   try clear p13
                   try clear q13
                   try clear hx13
                   try clear hf13
                   try clear c14
                   try clear c14b0
                   try clear c19
                   try clear c20
                   try clear c20b0
                   try clear c22
                   try clear c23
                   try clear c23b0
                   try clear c24
                   try clear c24b0
                   try clear c27
                   try clear c27b0
                   try clear c28
                   try clear c28b0
                   try clear p30
                   try clear q30
                   try clear hx30
                   try clear hf30
                   try clear c33
                   try clear c33b0
                   try clear c33b1
                   try clear c34
                   try clear c34b0
                   try clear c34b1
                   try clear c35
                   try clear c38
                   try clear c38b0
                   try clear hx13_0
                   try clear hx30_0
                   try clear hx448_0
                   try clear hx450_0
                   try clear hx453_0
                   try clear hx455_0
                   try clear p1
                   try clear p13
                   try clear p2
                   try clear p3
                   try clear p30
                   try clear p4
                   try clear p448
                   try clear p450
                   try clear p453
                   try clear p455
                   try clear p6
                   try clear q1
                   try clear q13
                   try clear q3
                   try clear q30
                   try clear q4
                   try clear q448
                   try clear q450
                   try clear q453
                   try clear q455
                   obtain ⟨kq, x73_36, rfl, HA, HJ36, HO_3, HB⟩ := hcut
                   cases kq with
                   | zero => exact absurd HA.out (by simp [capnpref23_Shortest.j3])
                   | succ kj36 =>
                    have H := HA.out
                    clear HA
                    simp only [capnpref23_Shortest.j3] at H
                    by_cases c39 : x73_36 = true
                    ·subst c39
                     have H1 : (if 0 ≤ x4_1 then (if x4_1 < (x3_3.length : Int) then (if 0 ≤ (wrap64 (x4_1 + x8_3)) then (if (wrap64 (x4_1 + x8_3)) < (x3_3.length : Int) then ((some (x3_3.set (x4_1 : Int).toNat (mn (rd x3_3 x4_1) (wrap64 ((wrap64 (2 + (wrap64 (8 * x8_3)))) + (rd x3_3 (wrap64 (x4_1 + x8_3)))))) : List Int)).bind fun y461 => (if x8_3 ≤ t458 then (capnpref23_Shortest.l2 kj36 l0 (y461.set (x4_1 : Int).toNat (mn (rd y461 x4_1) (wrap64 (2 + (rd y461 (wrap64 (x4_1 + x8_3))))))) x4_1 t458 (wrap64 (x8_3 + 1))) else (capnpref23_Shortest.l2 kj36 l0 y461 x4_1 t458 (wrap64 (x8_3 + 1))))) else (none)) else (none)) else (none)) else (none)) = some r := by rw [if_pos rfl] at H; exact H
                     clear H
                     have H := H1
                     clear H1
                     by_cases c40 : 0 ≤ x4_1
                     ·rw [if_pos c40] at H
                      have c40b0 : decide (0 ≤ x4_1) = true := decide_eq_true c40
                      clear c40
                      by_cases c41 : x4_1 < (x3_3.length : Int)
                      ·rw [if_pos c41] at H
                       have c41b0 : decide (x4_1 < (x3_3.length : Int)) = true := decide_eq_true c41
                       clear c41
                       obtain ⟨ji42, hji42⟩ : ∃ j_ : Int, (wrap64 (x4_1 + x8_3)) = j_ := ⟨_, rfl⟩
                       replace H : (if 0 ≤ (ji42) then (if (ji42) < (x3_3.length : Int) then ((some (x3_3.set (x4_1 : Int).toNat (mn (rd x3_3 x4_1) (wrap64 ((wrap64 (2 + (wrap64 (8 * x8_3)))) + (rd x3_3 (ji42))))) : List Int)).bind fun y461 => (if x8_3 ≤ t458 then (capnpref23_Shortest.l2 kj36 l0 (y461.set (x4_1 : Int).toNat (mn (rd y461 x4_1) (wrap64 (2 + (rd y461 (ji42)))))) x4_1 t458 (wrap64 (x8_3 + 1))) else (capnpref23_Shortest.l2 kj36 l0 y461 x4_1 t458 (wrap64 (x8_3 + 1))))) else (none)) else (none)) = some r := by first | (rw [hji42] at H; exact H) | (simp only [hji42] at H ⊢; exact H)
                       have hji42w : (IntKind.i64.wrap (x4_1 + x8_3)) = ji42 := (i64_w _).trans hji42
                       by_cases c43 : 0 ≤ (ji42)
                       ·rw [if_pos c43] at H
                        have c43b0 : decide (0 ≤ (ji42)) = true := decide_eq_true c43
                        clear c43
                        by_cases c44 : (ji42) < (x3_3.length : Int)
                        ·rw [if_pos c44] at H
                         have c44b0 : decide ((ji42) < (x3_3.length : Int)) = true := decide_eq_true c44
                         clear c44
                         obtain ⟨ji45, hji45⟩ : ∃ j_ : Int, (mn (rd x3_3 x4_1) (wrap64 ((wrap64 (2 + (wrap64 (8 * x8_3)))) + (rd x3_3 (ji42))))) = j_ := ⟨_, rfl⟩
                         replace H : ((some (x3_3.set (x4_1 : Int).toNat (ji45) : List Int)).bind fun y461 => (if x8_3 ≤ t458 then (capnpref23_Shortest.l2 kj36 l0 (y461.set (x4_1 : Int).toNat (mn (rd y461 x4_1) (wrap64 (2 + (rd y461 (ji42)))))) x4_1 t458 (wrap64 (x8_3 + 1))) else (capnpref23_Shortest.l2 kj36 l0 y461 x4_1 t458 (wrap64 (x8_3 + 1))))) = some r := by first | (rw [hji45] at H; exact H) | (simp only [hji45] at H ⊢; exact H)
                         have hji45_ : (if (wrap64 ((wrap64 (2 + (wrap64 (8 * x8_3)))) + (rd x3_3 (ji42)))) < (rd x3_3 x4_1) then (wrap64 ((wrap64 (2 + (wrap64 (8 * x8_3)))) + (rd x3_3 (ji42)))) else (rd x3_3 x4_1)) = ji45 := hji45
                         obtain ⟨y461, hy461⟩ : ∃ y_ : List Int, y_ = (x3_3.set (x4_1 : Int).toNat (ji45)) := ⟨_, rfl⟩
                         replace H : (if x8_3 ≤ t458 then (capnpref23_Shortest.l2 kj36 l0 (y461.set (x4_1 : Int).toNat (mn (rd y461 x4_1) (wrap64 (2 + (rd y461 (ji42)))))) x4_1 t458 (wrap64 (x8_3 + 1))) else (capnpref23_Shortest.l2 kj36 l0 y461 x4_1 t458 (wrap64 (x8_3 + 1)))) = some r := by first | (rw [hy461]; with_reducible exact H) | (have H2_ := (Option.bind_some _ _).symm.trans H; rw [hy461]; with_reducible exact H2_) | (have H2_ := (Option.bind_some _ _).symm.trans H; with_reducible exact H2_) | with_reducible exact H | (rw [hy461]; exact H) | exact H
                         have Ny461 := Aside0.mk hy461
                         clear hy461
                         by_cases c47 : x8_3 ≤ t458
                         ·rw [if_pos c47] at H
                          have c47b0 : decide (x8_3 ≤ t458) = true := decide_eq_true c47
                          clear c47
                          obtain ⟨ji48, hji48⟩ : ∃ j_ : Int, (mn (rd y461 x4_1) (wrap64 (2 + (rd y461 (ji42))))) = j_ := ⟨_, rfl⟩
                          replace H : (capnpref23_Shortest.l2 kj36 l0 (y461.set (x4_1 : Int).toNat (ji48)) x4_1 t458 (wrap64 (x8_3 + 1))) = some r := by first | (rw [hji48] at H; exact H) | (simp only [hji48] at H ⊢; exact H)
                          have hji48_ : (if (wrap64 (2 + (rd y461 (ji42)))) < (rd y461 x4_1) then (wrap64 (2 + (rd y461 (ji42)))) else (rd y461 x4_1)) = ji48 := hji48
                          obtain ⟨y464, hy464⟩ : ∃ y_ : List Int, y_ = (y461.set (x4_1 : Int).toNat (ji48)) := ⟨_, rfl⟩
                          replace H : (capnpref23_Shortest.l2 kj36 l0 y464 x4_1 t458 (wrap64 (x8_3 + 1))) = some r := by first | (rw [hy464]; with_reducible exact H) | (have H2_ := (Option.bind_some _ _).symm.trans H; rw [hy464]; with_reducible exact H2_) | (have H2_ := (Option.bind_some _ _).symm.trans H; with_reducible exact H2_) | with_reducible exact H | (rw [hy464]; exact H) | exact H
                          have Ny464 := Aside0.mk hy464
                          clear hy464
                          have H' := Aside0.mk H
                          clear H
                          try go_wp2
                          have n0_ := Aside0.mk (Kd.R_drew HO_3.out)
                          have n1_ := Aside0.mk (below_drew1 HB.out)
                          clear HO_3
                          clear HB
                          have HO_3 := n0_
                          have HB := n1_
                          clear n0_ n1_
                          have p459 : 0 ≤ (x4_1 : Int) := of_decide_eq_true pA
                          have q459 : x4_1 < (x3_3.length : Int) := of_decide_eq_true pA
                          obtain ⟨ad459, e459, hx459_0⟩ := Kd.at_int (Kd.R_reads' HO_3.out).2.2 x4_1 p459 q459
                          obtain rfl : (⟨go13, 0, none⟩ : Addr) = ad459 := (by injection e459)
                          (first | simp only [add_plain] at hx459_0 | simp only [add_at] at hx459_0 | simp only [Addr.add, Nat.zero_add] at hx459_0 | skip)
                          replace p459 := eq_true p459
                          replace q459 := eq_true q459
                          have p460 : 0 ≤ ((ji42) : Int) := of_decide_eq_true pA
                          have q460 : (ji42) < (x3_3.length : Int) := of_decide_eq_true pA
                          obtain ⟨ad460, e460, hx460_0⟩ := Kd.at_int (Kd.R_reads' HO_3.out).2.2 (ji42) p460 q460
                          obtain rfl : (⟨go13, 0, none⟩ : Addr) = ad460 := (by injection e460)
                          (first | simp only [add_plain] at hx460_0 | simp only [add_at] at hx460_0 | simp only [Addr.add, Nat.zero_add] at hx460_0 | skip)
                          replace p460 := eq_true p460
                          replace q460 := eq_true q460
                          have p46 : 0 ≤ (x4_1 : Int) := of_decide_eq_true pA
                          have q46 : (x4_1 : Int) < ((x3_3.length : Int) : Int) := of_decide_eq_true pA
                          obtain ⟨hx46_0, hf46_0⟩ := Kd.R_celln 0 HO_3.out (x4_1 : Int) p46 q46
                          replace p46 := eq_true p46
                          replace q46 := eq_true q46
                          have HP51 := Kd.R_putn HO_3.out (x4_1 : Int) ji45
                          rw [← Ny461.out] at HP51
                          have HQ51 := Aside0.mk HP51
                          clear HP51
                          refine start_ (n := 19) (S := fun w' => w'.cell? ⟨go13, (x4_1).toNat, none⟩ = some (.int .i64 (rd x3_3 x4_1)) ∧ w'.cell? ⟨go13, ((ji42)).toNat, none⟩ = some (.int .i64 (rd x3_3 (ji42)))) (ds := [18]) #[false, false, false, false, false, false, false, false, false, false, false, false, false, false, false, false, false, false, false] (by kernel_rfl) rfl rfl ⟨hx459_0, hx460_0⟩ (fun hHeld => ?_); refine with_tabW capnpref23_Shortest.tab16 capnpref23_Shortest.bits16 (fun HT_ HW_ => ?_)
                          generalize wc.drew = w50 at HO_3 HB HQ51 hf46_0 hx459_0 hx460_0 hx46_0 hHeld ⊢
                          refine pure_ (i := 0) (N := some 76) (v := ?_) (a' := ?_) #[true, false, false, false, false, false, false, false, false, false, false, false, false, false, false, false, false, false, false] rfl rfl (any_of HT_.out (by kernel_rfl)) (fun _ _ _ h => h) (Or.inl ⟨by rfl, ?_⟩) ?_ ?_
                          rotate_left
                          ·intro w'
                           go_simp
                           with_reducible rfl
                          rotate_left
                          ·simp only [Act.put, List.setIfInBounds_toArray, List.set_cons_zero, List.set_cons_succ, i64_w, i32_w]
                           rfl
                          refine pure_ (i := 1) (N := some 77) (v := ?_) (a' := ?_) #[true, true, false, false, false, false, false, false, false, false, false, false, false, false, false, false, false, false, false] rfl rfl (any_of HT_.out (by kernel_rfl)) (fun _ _ _ h => h) (Or.inl ⟨by rfl, ?_⟩) ?_ ?_
                          rotate_left
                          ·intro w'
                           go_simp
                           with_reducible rfl
                          rotate_left
                          ·simp only [Act.put, List.setIfInBounds_toArray, List.set_cons_zero, List.set_cons_succ, i64_w, i32_w]
                           rfl
                          refine pure_ (i := 2) (N := some 78) (v := ?_) (a' := ?_) #[true, true, true, false, false, false, false, false, false, false, false, false, false, false, false, false, false, false, false] rfl rfl (any_of HT_.out (by kernel_rfl)) (fun _ _ _ h => h) (Or.inl ⟨by rfl, ?_⟩) ?_ ?_
                          rotate_left
                          ·intro w'
                           go_simp
                           with_reducible rfl
                          rotate_left
                          ·simp only [Act.put, List.setIfInBounds_toArray, List.set_cons_zero, List.set_cons_succ, i64_w, i32_w]
                           rfl
                          refine pure_ (i := 3) (N := some 79) (v := ?_) (a' := ?_) #[true, true, true, true, false, false, false, false, false, false, false, false, false, false, false, false, false, false, false] rfl rfl (any_of HT_.out (by kernel_rfl)) (fun _ _ _ h => h) (Or.inl ⟨by rfl, ?_⟩) ?_ ?_
                          rotate_left
                          ·intro w'
                           go_simp
                           with_reducible rfl
                          rotate_left
                          ·simp only [Act.put, List.setIfInBounds_toArray, List.set_cons_zero, List.set_cons_succ, i64_w, i32_w]
                           rfl
                          refine pure_ (i := 4) (N := some 80) (v := ?_) (a' := ?_) #[true, true, true, true, true, false, false, false, false, false, false, false, false, false, false, false, false, false, false] rfl rfl (any_of HT_.out (by kernel_rfl)) (fun _ _ _ h => h) (Or.inl ⟨by rfl, ?_⟩) ?_ ?_
                          rotate_left
                          ·intro w'
                           go_simp
                           with_reducible rfl
                          rotate_left
                          ·simp only [Act.put, List.setIfInBounds_toArray, List.set_cons_zero, List.set_cons_succ, i64_w, i32_w]
                           rfl
                          refine pure_ (i := 6) (N := some 82) (v := ?_) (a' := ?_) #[true, true, true, true, true, false, true, false, false, false, false, false, false, false, false, false, false, false, false] rfl rfl (any_of HT_.out (by kernel_rfl)) (fun _ _ _ h => h) (Or.inl ⟨by rfl, ?_⟩) ?_ ?_
                          rotate_left
                          ·intro w'
                           go_simp
                           with_reducible rfl
                          rotate_left
                          ·simp only [Act.put, List.setIfInBounds_toArray, List.set_cons_zero, List.set_cons_succ, i64_w, i32_w]
                           rfl
                          refine pure_ (i := 7) (N := some 83) (v := ?_) (a' := ?_) #[true, true, true, true, true, false, true, true, false, false, false, false, false, false, false, false, false, false, false] rfl rfl (any_of HT_.out (by kernel_rfl)) (fun _ _ _ h => h) (Or.inl ⟨by rfl, ?_⟩) ?_ ?_
                          rotate_left
                          ·intro w'
                           go_simp
                           with_reducible rfl
                          rotate_left
                          ·simp only [Act.put, List.setIfInBounds_toArray, List.set_cons_zero, List.set_cons_succ, i64_w, i32_w]
                           rfl
                          refine pure_ (i := 8) (N := some 84) (v := ?_) (a' := ?_) #[true, true, true, true, true, false, true, true, true, false, false, false, false, false, false, false, false, false, false] rfl rfl (any_of HT_.out (by kernel_rfl)) (fun _ _ _ h => h) (Or.inl ⟨by rfl, ?_⟩) ?_ ?_
                          rotate_left
                          ·intro w'
                           go_simp
                           with_reducible rfl
                          rotate_left
                          ·simp only [Act.put, List.setIfInBounds_toArray, List.set_cons_zero, List.set_cons_succ, i64_w, i32_w]
                           rfl
                          refine pure_ (i := 9) (N := some 85) (v := ?_) (a' := ?_) #[true, true, true, true, true, false, true, true, true, true, false, false, false, false, false, false, false, false, false] rfl rfl (any_of HT_.out (by kernel_rfl)) (fun _ _ _ h => h) (Or.inl ⟨by rfl, ?_⟩) ?_ ?_
                          rotate_left
                          ·intro w'
                           go_simp
                           with_reducible rfl
                          rotate_left
                          ·simp only [Act.put, List.setIfInBounds_toArray, List.set_cons_zero, List.set_cons_succ, i64_w, i32_w]
                           rfl
                          refine pure_ (i := 10) (N := some 86) (v := ?_) (a' := ?_) #[true, true, true, true, true, false, true, true, true, true, true, false, false, false, false, false, false, false, false] rfl rfl (any_of HT_.out (by kernel_rfl)) (fun _ _ _ h => h) (Or.inl ⟨by rfl, ?_⟩) ?_ ?_
                          rotate_left
                          ·intro w'
                           go_simp
                           with_reducible rfl
                          rotate_left
                          ·simp only [Act.put, List.setIfInBounds_toArray, List.set_cons_zero, List.set_cons_succ, i64_w, i32_w]
                           rfl
                          refine pure_ (i := 11) (N := some 87) (v := ?_) (a' := ?_) #[true, true, true, true, true, false, true, true, true, true, true, true, false, false, false, false, false, false, false] rfl rfl (any_of HT_.out (by kernel_rfl)) (fun _ _ _ h => h) (Or.inl ⟨by rfl, ?_⟩) ?_ ?_
                          rotate_left
                          ·intro w'
                           go_simp
                           with_reducible rfl
                          rotate_left
                          ·simp only [Act.put, List.setIfInBounds_toArray, List.set_cons_zero, List.set_cons_succ, i64_w, i32_w]
                           rfl
                          refine pure_ (i := 12) (N := some 88) (v := ?_) (a' := ?_) #[true, true, true, true, true, false, true, true, true, true, true, true, true, false, false, false, false, false, false] rfl rfl (any_of HT_.out (by kernel_rfl)) (fun _ _ _ h => h) (Or.inl ⟨by rfl, ?_⟩) ?_ ?_
                          rotate_left
                          ·intro w'
                           go_simp
                           with_reducible rfl
                          rotate_left
                          ·simp only [Act.put, List.setIfInBounds_toArray, List.set_cons_zero, List.set_cons_succ, i64_w, i32_w]
                           rfl
                          refine pure_ (i := 13) (N := some 89) (v := ?_) (a' := ?_) #[true, true, true, true, true, false, true, true, true, true, true, true, true, true, false, false, false, false, false] rfl rfl (any_of HT_.out (by kernel_rfl)) (fun _ _ _ h => h) (Or.inl ⟨by rfl, ?_⟩) ?_ ?_
                          rotate_left
                          ·intro w'
                           go_simp
                           with_reducible rfl
                          rotate_left
                          ·simp only [Act.put, List.setIfInBounds_toArray, List.set_cons_zero, List.set_cons_succ, i64_w, i32_w]
                           rfl
                          refine take_ (i := 5) (N := some 81) (v := ?_) (a' := ?_) #[true, true, true, true, true, true, true, true, true, true, true, true, true, true, false, false, false, false, false] rfl rfl (take_ofW HT_.out HW_.out (by kernel_rfl)) (fun _ _ _ h => h) (Or.inl ⟨by rfl, ?_⟩) hHeld ?_ ?_
                          rotate_left
                          ·rintro w' ⟨s0, s1⟩
                           go_simp
                           with_reducible rfl
                          rotate_left
                          ·simp only [Act.put, List.setIfInBounds_toArray, List.set_cons_zero, List.set_cons_succ, i64_w, i32_w]
                           rfl
                          refine take_ (i := 14) (N := some 90) (v := ?_) (a' := ?_) #[true, true, true, true, true, true, true, true, true, true, true, true, true, true, true, false, false, false, false] rfl rfl (take_ofW HT_.out HW_.out (by kernel_rfl)) (fun _ _ _ h => h) (Or.inl ⟨by rfl, ?_⟩) hHeld ?_ ?_
                          rotate_left
                          ·rintro w' ⟨s0, s1⟩
                           go_simp
                           with_reducible rfl
                          rotate_left
                          ·simp only [Act.put, List.setIfInBounds_toArray, List.set_cons_zero, List.set_cons_succ, i64_w, i32_w]
                           rfl
                          refine pure_ (i := 15) (N := some 91) (v := ?_) (a' := ?_) #[true, true, true, true, true, true, true, true, true, true, true, true, true, true, true, true, false, false, false] rfl rfl (any_of HT_.out (by kernel_rfl)) (fun _ _ _ h => h) (Or.inl ⟨by rfl, ?_⟩) ?_ ?_
                          rotate_left
                          ·intro w'
                           go_simp
                           with_reducible rfl
                          rotate_left
                          ·simp only [Act.put, List.setIfInBounds_toArray, List.set_cons_zero, List.set_cons_succ, i64_w, i32_w]
                           rfl
                          refine pure_ (i := 16) (N := some 92) (v := ?_) (a' := ?_) #[true, true, true, true, true, true, true, true, true, true, true, true, true, true, true, true, true, false, false] rfl rfl (any_of HT_.out (by kernel_rfl)) (fun _ _ _ h => h) (Or.inl ⟨by rfl, ?_⟩) ?_ ?_
                          rotate_left
                          ·intro w'
                           go_simp
                           with_reducible rfl
                          rotate_left
                          ·simp only [Act.put, List.setIfInBounds_toArray, List.set_cons_zero, List.set_cons_succ, i64_w, i32_w]
                           rfl
                          refine pure_ (i := 17) (N := some 93) (v := ?_) (a' := ?_) #[true, true, true, true, true, true, true, true, true, true, true, true, true, true, true, true, true, true, false] rfl rfl (any_of HT_.out (by kernel_rfl)) (fun _ _ _ h => h) (Or.inl ⟨by rfl, ?_⟩) ?_ ?_
                          rotate_left
                          ·intro w'
                           go_simp
                           with_reducible rfl
                          rotate_left
                          ·simp only [Act.put, List.setIfInBounds_toArray, List.set_cons_zero, List.set_cons_succ, i64_w, i32_w]
                           rfl
                          refine last_ (i := 18) (N := none) #[true, true, true, true, true, true, true, true, true, true, true, true, true, true, true, true, true, true, true] rfl rfl (one_of HT_.out (by kernel_rfl)) (by decide) (fun K hK => ?_)
                          refine skip_ (w1 := ?_) (by rfl) rfl ?_ ?_
                          rotate_left
                          ·go_simp
                           rfl
                          refine hK.out _ _ ?_
                          clear hK K
                          refine done_ (done_of HT_.out (by kernel_rfl)) ?_
                          try go_wp2
                          have n0_ : Aside0 (Kd.R (Kd.int .i64) 3 (w50.setCell ⟨go13, (x4_1 : Int).toNat, none⟩ (.int .i64 ji45)) w.heap.size (fun _ => True) (.slice (some ⟨go13, 0, none⟩) x3_3.length co16) y461) := ⟨by (with_reducible repeat (first | apply Kd.R_alloc | apply Kd.R_drewN | apply Kd.R_drew)); exact HQ51.out⟩
                          have n1_ : Aside0 (Below w.heap.size w (w50.setCell ⟨go13, (x4_1 : Int).toNat, none⟩ (.int .i64 ji45))) := ⟨by repeat (first | (with_reducible first | exact HB.out | apply below_alloc | apply pw_below_drewN | apply below_drew1 | refine below_set ?_ GB13.out) | exact HB.out)⟩
                          (try clear HO_3)
                          (try clear HB)
                          generalize (w50.setCell ⟨go13, (x4_1 : Int).toNat, none⟩ (.int .i64 ji45)) = w52 at n0_ n1_ ⊢
                          have HO_3 := n0_
                          have HB := n1_
                          clear n0_ n1_
                          have n0_ := Aside0.mk (Kd.R_drew HO_3.out)
                          have n1_ := Aside0.mk (below_drew1 HB.out)
                          clear HO_3
                          clear HB
                          have HO_3 := n0_
                          have HB := n1_
                          clear n0_ n1_
                          have p462 : 0 ≤ (x4_1 : Int) := of_decide_eq_true pA
                          have q462 : x4_1 < (y461.length : Int) := (by have h_ : (x4_1 : Int) < ((x3_3.length : Int) : Int) := of_decide_eq_true pA; first | (have e_ := (Kd.R_reads' HO_3.out).1; omega) | simpa only [Ny461.out, List.length_set] using h_)
                          have ql462 : ((x4_1 : Int) < ((x3_3.length : Int) : Int)) = True := eq_true (of_decide_eq_true pA)
                          obtain ⟨ad462, e462, hx462_0⟩ := Kd.at_int (Kd.R_reads' HO_3.out).2.2 x4_1 p462 q462
                          obtain rfl : (⟨go13, 0, none⟩ : Addr) = ad462 := (by injection e462)
                          (first | simp only [add_plain] at hx462_0 | simp only [add_at] at hx462_0 | simp only [Addr.add, Nat.zero_add] at hx462_0 | skip)
                          replace p462 := eq_true p462
                          replace q462 := eq_true q462
                          have p463 : 0 ≤ ((ji42) : Int) := of_decide_eq_true pA
                          have q463 : (ji42) < (y461.length : Int) := (by have h_ : ((ji42) : Int) < ((x3_3.length : Int) : Int) := of_decide_eq_true pA; first | (have e_ := (Kd.R_reads' HO_3.out).1; omega) | simpa only [Ny461.out, List.length_set] using h_)
                          have ql463 : (((ji42) : Int) < ((x3_3.length : Int) : Int)) = True := eq_true (of_decide_eq_true pA)
                          obtain ⟨ad463, e463, hx463_0⟩ := Kd.at_int (Kd.R_reads' HO_3.out).2.2 (ji42) p463 q463
                          obtain rfl : (⟨go13, 0, none⟩ : Addr) = ad463 := (by injection e463)
                          (first | simp only [add_plain] at hx463_0 | simp only [add_at] at hx463_0 | simp only [Addr.add, Nat.zero_add] at hx463_0 | skip)
                          replace p463 := eq_true p463
                          replace q463 := eq_true q463
                          have p49 : 0 ≤ (x4_1 : Int) := of_decide_eq_true pA
                          have q49 : (x4_1 : Int) < ((x3_3.length : Int) : Int) := of_decide_eq_true pA
                          obtain ⟨hx49_0, hf49_0⟩ := Kd.R_celln 0 HO_3.out (x4_1 : Int) p49 q49
                          replace p49 := eq_true p49
                          replace q49 := eq_true q49
                          have HP54 := Kd.R_putn HO_3.out (x4_1 : Int) ji48
                          rw [← Ny464.out] at HP54
                          have HQ54 := Aside0.mk HP54
                          clear HP54
                          refine start_ (n := 16) (S := fun w' => w'.cell? ⟨go13, (x4_1).toNat, none⟩ = some (.int .i64 (rd y461 x4_1)) ∧ w'.cell? ⟨go13, ((ji42)).toNat, none⟩ = some (.int .i64 (rd y461 (ji42)))) (ds := [15]) #[false, false, false, false, false, false, false, false, false, false, false, false, false, false, false, false] (by kernel_rfl) rfl rfl ⟨hx462_0, hx463_0⟩ (fun hHeld => ?_); refine with_tabW capnpref23_Shortest.tab18 capnpref23_Shortest.bits18 (fun HT_ HW_ => ?_)
                          generalize w52.drew = w53 at HO_3 HB HQ51 HQ54 hf49_0 hx462_0 hx463_0 hx49_0 hHeld ⊢
                          refine pure_ (i := 0) (N := some 97) (v := ?_) (a' := ?_) #[true, false, false, false, false, false, false, false, false, false, false, false, false, false, false, false] rfl rfl (any_of HT_.out (by kernel_rfl)) (fun _ _ _ h => h) (Or.inl ⟨by rfl, ?_⟩) ?_ ?_
                          rotate_left
                          ·intro w'
                           go_simp
                           with_reducible rfl
                          rotate_left
                          ·simp only [Act.put, List.setIfInBounds_toArray, List.set_cons_zero, List.set_cons_succ, i64_w, i32_w]
                           rfl
                          refine pure_ (i := 1) (N := some 98) (v := ?_) (a' := ?_) #[true, true, false, false, false, false, false, false, false, false, false, false, false, false, false, false] rfl rfl (any_of HT_.out (by kernel_rfl)) (fun _ _ _ h => h) (Or.inl ⟨by rfl, ?_⟩) ?_ ?_
                          rotate_left
                          ·intro w'
                           go_simp
                           with_reducible rfl
                          rotate_left
                          ·simp only [Act.put, List.setIfInBounds_toArray, List.set_cons_zero, List.set_cons_succ, i64_w, i32_w]
                           rfl
                          refine pure_ (i := 2) (N := some 99) (v := ?_) (a' := ?_) #[true, true, true, false, false, false, false, false, false, false, false, false, false, false, false, false] rfl rfl (any_of HT_.out (by kernel_rfl)) (fun _ _ _ h => h) (Or.inl ⟨by rfl, ?_⟩) ?_ ?_
                          rotate_left
                          ·intro w'
                           go_simp
                           with_reducible rfl
                          rotate_left
                          ·simp only [Act.put, List.setIfInBounds_toArray, List.set_cons_zero, List.set_cons_succ, i64_w, i32_w]
                           rfl
                          refine pure_ (i := 3) (N := some 100) (v := ?_) (a' := ?_) #[true, true, true, true, false, false, false, false, false, false, false, false, false, false, false, false] rfl rfl (any_of HT_.out (by kernel_rfl)) (fun _ _ _ h => h) (Or.inl ⟨by rfl, ?_⟩) ?_ ?_
                          rotate_left
                          ·intro w'
                           go_simp
                           with_reducible rfl
                          rotate_left
                          ·simp only [Act.put, List.setIfInBounds_toArray, List.set_cons_zero, List.set_cons_succ, i64_w, i32_w]
                           rfl
                          refine pure_ (i := 4) (N := some 101) (v := ?_) (a' := ?_) #[true, true, true, true, true, false, false, false, false, false, false, false, false, false, false, false] rfl rfl (any_of HT_.out (by kernel_rfl)) (fun _ _ _ h => h) (Or.inl ⟨by rfl, ?_⟩) ?_ ?_
                          rotate_left
                          ·intro w'
                           go_simp
                           with_reducible rfl
                          rotate_left
                          ·simp only [Act.put, List.setIfInBounds_toArray, List.set_cons_zero, List.set_cons_succ, i64_w, i32_w]
                           rfl
                          refine pure_ (i := 6) (N := some 103) (v := ?_) (a' := ?_) #[true, true, true, true, true, false, true, false, false, false, false, false, false, false, false, false] rfl rfl (any_of HT_.out (by kernel_rfl)) (fun _ _ _ h => h) (Or.inl ⟨by rfl, ?_⟩) ?_ ?_
                          rotate_left
                          ·intro w'
                           go_simp
                           with_reducible rfl
                          rotate_left
                          ·simp only [Act.put, List.setIfInBounds_toArray, List.set_cons_zero, List.set_cons_succ, i64_w, i32_w]
                           rfl
                          refine pure_ (i := 7) (N := some 104) (v := ?_) (a' := ?_) #[true, true, true, true, true, false, true, true, false, false, false, false, false, false, false, false] rfl rfl (any_of HT_.out (by kernel_rfl)) (fun _ _ _ h => h) (Or.inl ⟨by rfl, ?_⟩) ?_ ?_
                          rotate_left
                          ·intro w'
                           go_simp
                           with_reducible rfl
                          rotate_left
                          ·simp only [Act.put, List.setIfInBounds_toArray, List.set_cons_zero, List.set_cons_succ, i64_w, i32_w]
                           rfl
                          refine pure_ (i := 8) (N := some 105) (v := ?_) (a' := ?_) #[true, true, true, true, true, false, true, true, true, false, false, false, false, false, false, false] rfl rfl (any_of HT_.out (by kernel_rfl)) (fun _ _ _ h => h) (Or.inl ⟨by rfl, ?_⟩) ?_ ?_
                          rotate_left
                          ·intro w'
                           go_simp
                           with_reducible rfl
                          rotate_left
                          ·simp only [Act.put, List.setIfInBounds_toArray, List.set_cons_zero, List.set_cons_succ, i64_w, i32_w]
                           rfl
                          refine pure_ (i := 9) (N := some 106) (v := ?_) (a' := ?_) #[true, true, true, true, true, false, true, true, true, true, false, false, false, false, false, false] rfl rfl (any_of HT_.out (by kernel_rfl)) (fun _ _ _ h => h) (Or.inl ⟨by rfl, ?_⟩) ?_ ?_
                          rotate_left
                          ·intro w'
                           go_simp
                           with_reducible rfl
                          rotate_left
                          ·simp only [Act.put, List.setIfInBounds_toArray, List.set_cons_zero, List.set_cons_succ, i64_w, i32_w]
                           rfl
                          refine pure_ (i := 10) (N := some 107) (v := ?_) (a' := ?_) #[true, true, true, true, true, false, true, true, true, true, true, false, false, false, false, false] rfl rfl (any_of HT_.out (by kernel_rfl)) (fun _ _ _ h => h) (Or.inl ⟨by rfl, ?_⟩) ?_ ?_
                          rotate_left
                          ·intro w'
                           go_simp
                           with_reducible rfl
                          rotate_left
                          ·simp only [Act.put, List.setIfInBounds_toArray, List.set_cons_zero, List.set_cons_succ, i64_w, i32_w]
                           rfl
                          refine take_ (i := 5) (N := some 102) (v := ?_) (a' := ?_) #[true, true, true, true, true, true, true, true, true, true, true, false, false, false, false, false] rfl rfl (take_ofW HT_.out HW_.out (by kernel_rfl)) (fun _ _ _ h => h) (Or.inl ⟨by rfl, ?_⟩) hHeld ?_ ?_
                          rotate_left
                          ·rintro w' ⟨s0, s1⟩
                           go_simp
                           with_reducible rfl
                          rotate_left
                          ·simp only [Act.put, List.setIfInBounds_toArray, List.set_cons_zero, List.set_cons_succ, i64_w, i32_w]
                           rfl
                          refine take_ (i := 11) (N := some 108) (v := ?_) (a' := ?_) #[true, true, true, true, true, true, true, true, true, true, true, true, false, false, false, false] rfl rfl (take_ofW HT_.out HW_.out (by kernel_rfl)) (fun _ _ _ h => h) (Or.inl ⟨by rfl, ?_⟩) hHeld ?_ ?_
                          rotate_left
                          ·rintro w' ⟨s0, s1⟩
                           go_simp
                           with_reducible rfl
                          rotate_left
                          ·simp only [Act.put, List.setIfInBounds_toArray, List.set_cons_zero, List.set_cons_succ, i64_w, i32_w]
                           rfl
                          refine pure_ (i := 12) (N := some 109) (v := ?_) (a' := ?_) #[true, true, true, true, true, true, true, true, true, true, true, true, true, false, false, false] rfl rfl (any_of HT_.out (by kernel_rfl)) (fun _ _ _ h => h) (Or.inl ⟨by rfl, ?_⟩) ?_ ?_
                          rotate_left
                          ·intro w'
                           go_simp
                           with_reducible rfl
                          rotate_left
                          ·simp only [Act.put, List.setIfInBounds_toArray, List.set_cons_zero, List.set_cons_succ, i64_w, i32_w]
                           rfl
                          refine pure_ (i := 13) (N := some 110) (v := ?_) (a' := ?_) #[true, true, true, true, true, true, true, true, true, true, true, true, true, true, false, false] rfl rfl (any_of HT_.out (by kernel_rfl)) (fun _ _ _ h => h) (Or.inl ⟨by rfl, ?_⟩) ?_ ?_
                          rotate_left
                          ·intro w'
                           go_simp
                           with_reducible rfl
                          rotate_left
                          ·simp only [Act.put, List.setIfInBounds_toArray, List.set_cons_zero, List.set_cons_succ, i64_w, i32_w]
                           rfl
                          refine pure_ (i := 14) (N := some 111) (v := ?_) (a' := ?_) #[true, true, true, true, true, true, true, true, true, true, true, true, true, true, true, false] rfl rfl (any_of HT_.out (by kernel_rfl)) (fun _ _ _ h => h) (Or.inl ⟨by rfl, ?_⟩) ?_ ?_
                          rotate_left
                          ·intro w'
                           go_simp
                           with_reducible rfl
                          rotate_left
                          ·simp only [Act.put, List.setIfInBounds_toArray, List.set_cons_zero, List.set_cons_succ, i64_w, i32_w]
                           rfl
                          refine last_ (i := 15) (N := none) #[true, true, true, true, true, true, true, true, true, true, true, true, true, true, true, true] rfl rfl (one_of HT_.out (by kernel_rfl)) (by decide) (fun K hK => ?_)
                          refine skip_ (w1 := ?_) (by rfl) rfl ?_ ?_
                          rotate_left
                          ·go_simp
                           rfl
                          refine hK.out _ _ ?_
                          clear hK K
                          refine done_ (done_of HT_.out (by kernel_rfl)) ?_
                          try go_wp2
                          (try simp only [← hl3_3])
                          go_roundg kj36
                          case measure => have := HK1.out; have := HK2.out; have := HK3.out; have := HJ36.out; omega
                          case rel => exact ⟨(y464), (wrap64 (x8_3 + 1)), (by first | rfl | (simp; done) | (simp [*]; done)), H', ⟨by have := HK1.out; have := HK2.out; have := HK3.out; have := HJ36.out; omega⟩, ⟨by (try simp only [hl3_2]); (try simp only [hl3_3]); (with_reducible repeat (first | apply Kd.R_alloc | apply Kd.R_drewN | apply Kd.R_drew)); exact HQ54.out⟩, ⟨by repeat (first | (with_reducible first | exact HB.out | apply below_alloc | apply pw_below_drewN | apply below_drew1 | refine below_set ?_ GB13.out) | exact HB.out)⟩⟩
                         ·rw [if_neg c47] at H
                          have c47b0 : decide (x8_3 ≤ t458) = false := decide_eq_false c47
                          clear c47
                          have H' := Aside0.mk H
                          clear H
                          try go_wp2
                          have n0_ := Aside0.mk (Kd.R_drew HO_3.out)
                          have n1_ := Aside0.mk (below_drew1 HB.out)
                          clear HO_3
                          clear HB
                          have HO_3 := n0_
                          have HB := n1_
                          clear n0_ n1_
                          have p459 : 0 ≤ (x4_1 : Int) := of_decide_eq_true pA
                          have q459 : x4_1 < (x3_3.length : Int) := of_decide_eq_true pA
                          obtain ⟨ad459, e459, hx459_0⟩ := Kd.at_int (Kd.R_reads' HO_3.out).2.2 x4_1 p459 q459
                          obtain rfl : (⟨go13, 0, none⟩ : Addr) = ad459 := (by injection e459)
                          (first | simp only [add_plain] at hx459_0 | simp only [add_at] at hx459_0 | simp only [Addr.add, Nat.zero_add] at hx459_0 | skip)
                          replace p459 := eq_true p459
                          replace q459 := eq_true q459
                          have p460 : 0 ≤ ((ji42) : Int) := of_decide_eq_true pA
                          have q460 : (ji42) < (x3_3.length : Int) := of_decide_eq_true pA
                          obtain ⟨ad460, e460, hx460_0⟩ := Kd.at_int (Kd.R_reads' HO_3.out).2.2 (ji42) p460 q460
                          obtain rfl : (⟨go13, 0, none⟩ : Addr) = ad460 := (by injection e460)
                          (first | simp only [add_plain] at hx460_0 | simp only [add_at] at hx460_0 | simp only [Addr.add, Nat.zero_add] at hx460_0 | skip)
                          replace p460 := eq_true p460
                          replace q460 := eq_true q460
                          have p46 : 0 ≤ (x4_1 : Int) := of_decide_eq_true pA
                          have q46 : (x4_1 : Int) < ((x3_3.length : Int) : Int) := of_decide_eq_true pA
                          obtain ⟨hx46_0, hf46_0⟩ := Kd.R_celln 0 HO_3.out (x4_1 : Int) p46 q46
                          replace p46 := eq_true p46
                          replace q46 := eq_true q46
                          have HP56 := Kd.R_putn HO_3.out (x4_1 : Int) ji45
                          rw [← Ny461.out] at HP56
                          have HQ56 := Aside0.mk HP56
                          clear HP56
                          refine start_ (n := 19) (S := fun w' => w'.cell? ⟨go13, (x4_1).toNat, none⟩ = some (.int .i64 (rd x3_3 x4_1)) ∧ w'.cell? ⟨go13, ((ji42)).toNat, none⟩ = some (.int .i64 (rd x3_3 (ji42)))) (ds := [18]) #[false, false, false, false, false, false, false, false, false, false, false, false, false, false, false, false, false, false, false] (by kernel_rfl) rfl rfl ⟨hx459_0, hx460_0⟩ (fun hHeld => ?_); refine with_tabW capnpref23_Shortest.tab16 capnpref23_Shortest.bits16 (fun HT_ HW_ => ?_)
                          generalize wc.drew = w55 at HO_3 HB HQ56 hf46_0 hx459_0 hx460_0 hx46_0 hHeld ⊢
                          refine pure_ (i := 0) (N := some 76) (v := ?_) (a' := ?_) #[true, false, false, false, false, false, false, false, false, false, false, false, false, false, false, false, false, false, false] rfl rfl (any_of HT_.out (by kernel_rfl)) (fun _ _ _ h => h) (Or.inl ⟨by rfl, ?_⟩) ?_ ?_
                          rotate_left
                          ·intro w'
                           go_simp
                           with_reducible rfl
                          rotate_left
                          ·simp only [Act.put, List.setIfInBounds_toArray, List.set_cons_zero, List.set_cons_succ, i64_w, i32_w]
                           rfl
                          refine pure_ (i := 1) (N := some 77) (v := ?_) (a' := ?_) #[true, true, false, false, false, false, false, false, false, false, false, false, false, false, false, false, false, false, false] rfl rfl (any_of HT_.out (by kernel_rfl)) (fun _ _ _ h => h) (Or.inl ⟨by rfl, ?_⟩) ?_ ?_
                          rotate_left
                          ·intro w'
                           go_simp
                           with_reducible rfl
                          rotate_left
                          ·simp only [Act.put, List.setIfInBounds_toArray, List.set_cons_zero, List.set_cons_succ, i64_w, i32_w]
                           rfl
                          refine pure_ (i := 2) (N := some 78) (v := ?_) (a' := ?_) #[true, true, true, false, false, false, false, false, false, false, false, false, false, false, false, false, false, false, false] rfl rfl (any_of HT_.out (by kernel_rfl)) (fun _ _ _ h => h) (Or.inl ⟨by rfl, ?_⟩) ?_ ?_
                          rotate_left
                          ·intro w'
                           go_simp
                           with_reducible rfl
                          rotate_left
                          ·simp only [Act.put, List.setIfInBounds_toArray, List.set_cons_zero, List.set_cons_succ, i64_w, i32_w]
                           rfl
                          refine pure_ (i := 3) (N := some 79) (v := ?_) (a' := ?_) #[true, true, true, true, false, false, false, false, false, false, false, false, false, false, false, false, false, false, false] rfl rfl (any_of HT_.out (by kernel_rfl)) (fun _ _ _ h => h) (Or.inl ⟨by rfl, ?_⟩) ?_ ?_
                          rotate_left
                          ·intro w'
                           go_simp
                           with_reducible rfl
                          rotate_left
                          ·simp only [Act.put, List.setIfInBounds_toArray, List.set_cons_zero, List.set_cons_succ, i64_w, i32_w]
                           rfl
                          refine pure_ (i := 4) (N := some 80) (v := ?_) (a' := ?_) #[true, true, true, true, true, false, false, false, false, false, false, false, false, false, false, false, false, false, false] rfl rfl (any_of HT_.out (by kernel_rfl)) (fun _ _ _ h => h) (Or.inl ⟨by rfl, ?_⟩) ?_ ?_
                          rotate_left
                          ·intro w'
                           go_simp
                           with_reducible rfl
                          rotate_left
                          ·simp only [Act.put, List.setIfInBounds_toArray, List.set_cons_zero, List.set_cons_succ, i64_w, i32_w]
                           rfl
                          refine pure_ (i := 6) (N := some 82) (v := ?_) (a' := ?_) #[true, true, true, true, true, false, true, false, false, false, false, false, false, false, false, false, false, false, false] rfl rfl (any_of HT_.out (by kernel_rfl)) (fun _ _ _ h => h) (Or.inl ⟨by rfl, ?_⟩) ?_ ?_
                          rotate_left
                          ·intro w'
                           go_simp
                           with_reducible rfl
                          rotate_left
                          ·simp only [Act.put, List.setIfInBounds_toArray, List.set_cons_zero, List.set_cons_succ, i64_w, i32_w]
                           rfl
                          refine pure_ (i := 7) (N := some 83) (v := ?_) (a' := ?_) #[true, true, true, true, true, false, true, true, false, false, false, false, false, false, false, false, false, false, false] rfl rfl (any_of HT_.out (by kernel_rfl)) (fun _ _ _ h => h) (Or.inl ⟨by rfl, ?_⟩) ?_ ?_
                          rotate_left
                          ·intro w'
                           go_simp
                           with_reducible rfl
                          rotate_left
                          ·simp only [Act.put, List.setIfInBounds_toArray, List.set_cons_zero, List.set_cons_succ, i64_w, i32_w]
                           rfl
                          refine pure_ (i := 8) (N := some 84) (v := ?_) (a' := ?_) #[true, true, true, true, true, false, true, true, true, false, false, false, false, false, false, false, false, false, false] rfl rfl (any_of HT_.out (by kernel_rfl)) (fun _ _ _ h => h) (Or.inl ⟨by rfl, ?_⟩) ?_ ?_
                          rotate_left
                          ·intro w'
                           go_simp
                           with_reducible rfl
                          rotate_left
                          ·simp only [Act.put, List.setIfInBounds_toArray, List.set_cons_zero, List.set_cons_succ, i64_w, i32_w]
                           rfl
                          refine pure_ (i := 9) (N := some 85) (v := ?_) (a' := ?_) #[true, true, true, true, true, false, true, true, true, true, false, false, false, false, false, false, false, false, false] rfl rfl (any_of HT_.out (by kernel_rfl)) (fun _ _ _ h => h) (Or.inl ⟨by rfl, ?_⟩) ?_ ?_
                          rotate_left
                          ·intro w'
                           go_simp
                           with_reducible rfl
                          rotate_left
                          ·simp only [Act.put, List.setIfInBounds_toArray, List.set_cons_zero, List.set_cons_succ, i64_w, i32_w]
                           rfl
                          refine pure_ (i := 10) (N := some 86) (v := ?_) (a' := ?_) #[true, true, true, true, true, false, true, true, true, true, true, false, false, false, false, false, false, false, false] rfl rfl (any_of HT_.out (by kernel_rfl)) (fun _ _ _ h => h) (Or.inl ⟨by rfl, ?_⟩) ?_ ?_
                          rotate_left
                          ·intro w'
                           go_simp
                           with_reducible rfl
                          rotate_left
                          ·simp only [Act.put, List.setIfInBounds_toArray, List.set_cons_zero, List.set_cons_succ, i64_w, i32_w]
                           rfl
                          refine pure_ (i := 11) (N := some 87) (v := ?_) (a' := ?_) #[true, true, true, true, true, false, true, true, true, true, true, true, false, false, false, false, false, false, false] rfl rfl (any_of HT_.out (by kernel_rfl)) (fun _ _ _ h => h) (Or.inl ⟨by rfl, ?_⟩) ?_ ?_
                          rotate_left
                          ·intro w'
                           go_simp
                           with_reducible rfl
                          rotate_left
                          ·simp only [Act.put, List.setIfInBounds_toArray, List.set_cons_zero, List.set_cons_succ, i64_w, i32_w]
                           rfl
                          refine pure_ (i := 12) (N := some 88) (v := ?_) (a' := ?_) #[true, true, true, true, true, false, true, true, true, true, true, true, true, false, false, false, false, false, false] rfl rfl (any_of HT_.out (by kernel_rfl)) (fun _ _ _ h => h) (Or.inl ⟨by rfl, ?_⟩) ?_ ?_
                          rotate_left
                          ·intro w'
                           go_simp
                           with_reducible rfl
                          rotate_left
                          ·simp only [Act.put, List.setIfInBounds_toArray, List.set_cons_zero, List.set_cons_succ, i64_w, i32_w]
                           rfl
                          refine pure_ (i := 13) (N := some 89) (v := ?_) (a' := ?_) #[true, true, true, true, true, false, true, true, true, true, true, true, true, true, false, false, false, false, false] rfl rfl (any_of HT_.out (by kernel_rfl)) (fun _ _ _ h => h) (Or.inl ⟨by rfl, ?_⟩) ?_ ?_
                          rotate_left
                          ·intro w'
                           go_simp
                           with_reducible rfl
                          rotate_left
                          ·simp only [Act.put, List.setIfInBounds_toArray, List.set_cons_zero, List.set_cons_succ, i64_w, i32_w]
                           rfl
                          refine take_ (i := 5) (N := some 81) (v := ?_) (a' := ?_) #[true, true, true, true, true, true, true, true, true, true, true, true, true, true, false, false, false, false, false] rfl rfl (take_ofW HT_.out HW_.out (by kernel_rfl)) (fun _ _ _ h => h) (Or.inl ⟨by rfl, ?_⟩) hHeld ?_ ?_
                          rotate_left
                          ·rintro w' ⟨s0, s1⟩
                           go_simp
                           with_reducible rfl
                          rotate_left
                          ·simp only [Act.put, List.setIfInBounds_toArray, List.set_cons_zero, List.set_cons_succ, i64_w, i32_w]
                           rfl
                          refine take_ (i := 14) (N := some 90) (v := ?_) (a' := ?_) #[true, true, true, true, true, true, true, true, true, true, true, true, true, true, true, false, false, false, false] rfl rfl (take_ofW HT_.out HW_.out (by kernel_rfl)) (fun _ _ _ h => h) (Or.inl ⟨by rfl, ?_⟩) hHeld ?_ ?_
                          rotate_left
                          ·rintro w' ⟨s0, s1⟩
                           go_simp
                           with_reducible rfl
                          rotate_left
                          ·simp only [Act.put, List.setIfInBounds_toArray, List.set_cons_zero, List.set_cons_succ, i64_w, i32_w]
                           rfl
                          refine pure_ (i := 15) (N := some 91) (v := ?_) (a' := ?_) #[true, true, true, true, true, true, true, true, true, true, true, true, true, true, true, true, false, false, false] rfl rfl (any_of HT_.out (by kernel_rfl)) (fun _ _ _ h => h) (Or.inl ⟨by rfl, ?_⟩) ?_ ?_
                          rotate_left
                          ·intro w'
                           go_simp
                           with_reducible rfl
                          rotate_left
                          ·simp only [Act.put, List.setIfInBounds_toArray, List.set_cons_zero, List.set_cons_succ, i64_w, i32_w]
                           rfl
                          refine pure_ (i := 16) (N := some 92) (v := ?_) (a' := ?_) #[true, true, true, true, true, true, true, true, true, true, true, true, true, true, true, true, true, false, false] rfl rfl (any_of HT_.out (by kernel_rfl)) (fun _ _ _ h => h) (Or.inl ⟨by rfl, ?_⟩) ?_ ?_
                          rotate_left
                          ·intro w'
                           go_simp
                           with_reducible rfl
                          rotate_left
                          ·simp only [Act.put, List.setIfInBounds_toArray, List.set_cons_zero, List.set_cons_succ, i64_w, i32_w]
                           rfl
                          refine pure_ (i := 17) (N := some 93) (v := ?_) (a' := ?_) #[true, true, true, true, true, true, true, true, true, true, true, true, true, true, true, true, true, true, false] rfl rfl (any_of HT_.out (by kernel_rfl)) (fun _ _ _ h => h) (Or.inl ⟨by rfl, ?_⟩) ?_ ?_
                          rotate_left
                          ·intro w'
                           go_simp
                           with_reducible rfl
                          rotate_left
                          ·simp only [Act.put, List.setIfInBounds_toArray, List.set_cons_zero, List.set_cons_succ, i64_w, i32_w]
                           rfl
                          refine last_ (i := 18) (N := none) #[true, true, true, true, true, true, true, true, true, true, true, true, true, true, true, true, true, true, true] rfl rfl (one_of HT_.out (by kernel_rfl)) (by decide) (fun K hK => ?_)
                          refine skip_ (w1 := ?_) (by rfl) rfl ?_ ?_
                          rotate_left
                          ·go_simp
                           rfl
                          refine hK.out _ _ ?_
                          clear hK K
                          refine done_ (done_of HT_.out (by kernel_rfl)) ?_
                          try go_wp2
                          (try simp only [← hl3_3])
                          go_roundg kj36
                          case measure => have := HK1.out; have := HK2.out; have := HK3.out; have := HJ36.out; omega
                          case rel => exact ⟨(y461), (wrap64 (x8_3 + 1)), (by first | rfl | (simp; done) | (simp [*]; done)), H', ⟨by have := HK1.out; have := HK2.out; have := HK3.out; have := HJ36.out; omega⟩, ⟨by (try simp only [hl3_2]); (try simp only [hl3_3]); (with_reducible repeat (first | apply Kd.R_alloc | apply Kd.R_drewN | apply Kd.R_drew)); exact HQ56.out⟩, ⟨by repeat (first | (with_reducible first | exact HB.out | apply below_alloc | apply pw_below_drewN | apply below_drew1 | refine below_set ?_ GB13.out) | exact HB.out)⟩⟩
                        ·rw [if_neg c44] at H
                         exact absurd H (by simp)
                       ·rw [if_neg c43] at H
                        exact absurd H (by simp)
                      ·rw [if_neg c41] at H
                       exact absurd H (by simp)
                     ·rw [if_neg c40] at H
                      exact absurd H (by simp)
                    ·replace c39 := Bool.eq_false_iff.mpr c39
                     subst c39
                     have H1 : (capnpref23_Shortest.l0 kj36 l0 x3_3 (wrap64 (x4_1 - 1))) = some r := by rw [if_neg (show ¬ (false = true) by decide)] at H; exact H
                     clear H
                     have H := H1
                     clear H1
                     have H' := Aside0.mk H
                     clear H
                     go_wp2
                     (try simp only [← hl3_2, ← hl3_3])
                     go_roundg kj36
                     case measure => have := HK1.out; have := HK2.out; have := HK3.out; have := HJ36.out; omega
                     case rel => exact ⟨(x3_3), (wrap64 (x4_1 - 1)), (by first | rfl | (simp; done) | (simp [*]; done)), H', ⟨by have := HK1.out; have := HK2.out; have := HK3.out; have := HJ36.out; omega⟩, ⟨by (try simp only [hl3_2]); (try simp only [hl3_3]); (with_reducible repeat (first | apply Kd.R_alloc | apply Kd.R_drewN | apply Kd.R_drew)); exact HO_3.out⟩, ⟨pB⟩⟩
               ·rw [if_neg c34] at H
                exact absurd H (by simp)
              ·rw [if_neg c33] at H
               exact absurd H (by simp)
          ·rw [if_neg c14] at H
           exact absurd H (by simp)
         ·rw [if_neg c12] at H
          exact absurd H (by simp)
        ·rw [if_neg c11] at H
         exact absurd H (by simp)
       ·rw [if_neg c10] at H
        exact absurd H (by simp)
      ·rw [if_neg c9] at H
       exact absurd H (by simp)
     ·rw [if_neg c7] at H
      have c7b0 : decide (0 ≤ x4_1) = false := decide_eq_false c7
      clear c7
      by_cases c57 : 0 < (x3_1.length : Int)
      ·rw [if_pos c57] at H
       have c57b0 : decide (0 < (x3_1.length : Int)) = true := decide_eq_true c57
       have c57b1 : decide (0 < x3_1.length) = true := decide_eq_true (by omega)
       clear c57
       obtain rfl := Option.some.inj H
       obtain ⟨Ao58, co58, eo58⟩ := Kd.R_slice HO_3.out
       subst eo58
       have p447 : 0 ≤ (0 : Int) := (by omega)
       have q447 : 0 < (x3_1.length : Int) := of_decide_eq_true pA
       obtain ⟨ad447, e447, hx447_0⟩ := Kd.at_int (Kd.R_reads' HO_3.out).2.2 0 p447 q447
       cases e447
       have qi447 : (0 < x3_1.length) = True := eq_true (by omega)
       (try rw [show ((0 : Int)).toNat = 0 from rfl] at hx447_0)
       (try rw [Addr.add_zero'] at hx447_0)
       replace p447 := eq_true p447
       replace q447 := eq_true q447
       go_wp2
       go_ret
       exact ⟨by first | rfl | (simp [errW_none, errW_some] <;> rfl) | (simp only [← hji2]; first | rfl | (simp [errW_none, errW_some] <;> rfl)) | (simp [*, errW_none, errW_some] <;> rfl), pB⟩
      ·rw [if_neg c57] at H
       exact absurd H (by simp)
  ·rw [if_neg c4] at H
   exact absurd H (by simp)
 ·rw [if_neg c3] at H
  exact absurd H (by simp)
end Go.Proofs.YtnchacmhjbkmhaaDoor.PGrammarMatchesReference
