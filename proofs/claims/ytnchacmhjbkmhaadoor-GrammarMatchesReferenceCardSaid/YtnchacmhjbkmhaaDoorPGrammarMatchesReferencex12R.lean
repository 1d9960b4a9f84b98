/- (Halved.) Written by myprint.py, a program of this session: printed functions of a law, and the proofs that the Go code comes to them. -/
import Derived.Test.YtnchacmhjbkmhaaDoorXShortR
import Derived.Test.YtnchacmhjbkmhaaDoorPGrammarMatchesReferencex0R
import Derived.Test.YtnchacmhjbkmhaaDoorPGrammarMatchesReferencex9R
import Derived.Test.YtnchacmhjbkmhaaDoorPGrammarMatchesReferencex11R
namespace Go.Proofs.YtnchacmhjbkmhaaDoor.PGrammarMatchesReference
open Go.RowKit Go.Proofs.YtnchacmhjbkmhaaDoorW.PrintWords Go.Proofs.YtnchacmhjbkmhaaDoorW.PrintLast Go.Proofs.YtnchacmhjbkmhaaDoorW.PrintMore
open Go.Proofs.YtnchacmhjbkmhaaDoor.PUnBase
open Go.Proofs.YtnchacmhjbkmhaaDoor.POfBase (tagbyte_Of.f tagbyte_Of.calls tagbyte_Of.mono tagbyte_Of.mono_l)
attribute [local go_sem] max2_int min2_int max_two min_two max_three min_three max_four min_four   -- for this text's walks alone
set_option linter.unusedVariables false
set_option linter.unusedSimpArgs false
mutual
def capnpref23_Ways.l0 : Nat → List Int → List Int → Int → Option (Int)
 | 0, _, _, _ => none
 | k + 1, x0, x3, x4 => if x4 ≥ 0 then (if 0 ≤ x4 then (if x4 < (x0.length : Int) then ((capnpref20_Of.f k (rd x0 x4)).bind fun t431 => (capnpref23_Ways.l1 k x0 x3 x4 (wrap64 (t431)) 1)) else (none)) else (none)) else (if 0 < (x3.length : Int) then (some (rd x3 0)) else (none))
def capnpref23_Ways.l1 : Nat → List Int → List Int → Int → Int → Int → Option (Int)
 | 0, _, _, _, _, _ => none
 | k + 1, x0, x3, x4, x5, x6 => if x6 < 255 then ((capnpref23_Covers.f k x6 x5).bind fun t432 => (if t432 = true then (if 0 ≤ x4 then (if x4 < (x3.length : Int) then (if 0 ≤ (wrap64 (x4 + 1)) then (if (wrap64 (x4 + 1)) < (x3.length : Int) then (capnpref23_Ways.l1 k x0 (x3.set (x4 : Int).toNat (IntKind.u64.wrap ((rd x3 x4) + (rd x3 (wrap64 (x4 + 1)))))) x4 x5 (wrap64 (x6 + 1))) else (none)) else (none)) else (none)) else (none)) else (capnpref23_Ways.l1 k x0 x3 x4 x5 (wrap64 (x6 + 1))))) else (if 0 ≤ x4 then (if x4 ≤ (x0.length : Int) then ((capnpref23_zeros.f k (x0.drop (x4 : Int).toNat)).bind fun t437 => (capnpref23_Ways.l2 k x0 x3 x4 t437 1)) else (none)) else (none))
def capnpref23_Ways.l2 : Nat → List Int → List Int → Int → Int → Int → Option (Int)
 | 0, _, _, _, _, _ => none
 | k + 1, x0, x3, x4, x7, x8 => if x8 ≤ 256 then (capnpref23_Ways.j3 k x0 x3 x4 x7 x8 (decide ((wrap64 (x4 + x8)) ≤ (x0.length : Int)))) else (capnpref23_Ways.j3 k x0 x3 x4 x7 x8 false)
def capnpref23_Ways.j3 : Nat → List Int → List Int → Int → Int → Int → Bool → Option (Int)
 | 0, _, _, _, _, _, _ => none
 | k + 1, x0, x3, x4, x7, x8, x63 => if x63 = true then (if 0 ≤ x4 then (if x4 < (x3.length : Int) then (if 0 ≤ (wrap64 (x4 + x8)) then (if (wrap64 (x4 + x8)) < (x3.length : Int) then ((some (x3.set (x4 : Int).toNat (IntKind.u64.wrap ((rd x3 x4) + (rd x3 (wrap64 (x4 + x8))))) : List Int)).bind fun y440 => (if x8 ≤ x7 then (capnpref23_Ways.l2 k x0 (y440.set (x4 : Int).toNat (IntKind.u64.wrap ((rd y440 x4) + (rd y440 (wrap64 (x4 + x8)))))) x4 x7 (wrap64 (x8 + 1))) else (capnpref23_Ways.l2 k x0 y440 x4 x7 (wrap64 (x8 + 1))))) else (none)) else (none)) else (none)) else (none)) else (capnpref23_Ways.l0 k x0 x3 (wrap64 (x4 - 1)))
end
def capnpref23_Ways.f (k : Nat) (l0 : List Int) : Option (Int) := if 0 ≤ (wrap64 ((l0.length : Int) + 1)) then (if (wrap64 ((l0.length : Int) + 1) : Int).toNat ≤ 35184372088832 then ((some (List.replicate (wrap64 ((l0.length : Int) + 1) : Int).toNat 0 : List Int)).bind fun y425 => (if 0 ≤ (l0.length : Int) then (if (l0.length : Int) < (y425.length : Int) then (capnpref23_Ways.l0 k l0 (y425.set ((l0.length : Int) : Int).toNat 1) (wrap64 ((l0.length : Int) - 1))) else (none)) else (none))) else (none)) else (none)
theorem capnpref23_Ways.mono_l : ∀ k, (∀ y0 y1 y2, LeO (capnpref23_Ways.l0 k y0 y1 y2) (capnpref23_Ways.l0 (k + 1) y0 y1 y2)) ∧ (∀ y0 y1 y2 y3 y4, LeO (capnpref23_Ways.l1 k y0 y1 y2 y3 y4) (capnpref23_Ways.l1 (k + 1) y0 y1 y2 y3 y4)) ∧ (∀ y0 y1 y2 y3 y4, LeO (capnpref23_Ways.l2 k y0 y1 y2 y3 y4) (capnpref23_Ways.l2 (k + 1) y0 y1 y2 y3 y4)) ∧ (∀ y0 y1 y2 y3 y4 y5, LeO (capnpref23_Ways.j3 k y0 y1 y2 y3 y4 y5) (capnpref23_Ways.j3 (k + 1) y0 y1 y2 y3 y4 y5))
 | 0 => ⟨fun _ _ _ r h => by simp [capnpref23_Ways.l0] at h, fun _ _ _ _ _ r h => by simp [capnpref23_Ways.l1] at h, fun _ _ _ _ _ r h => by simp [capnpref23_Ways.l2] at h, fun _ _ _ _ _ _ r h => by simp [capnpref23_Ways.j3] at h⟩
 | k + 1 => by
  obtain ⟨ih0, ih1, ih2, ih3⟩ := capnpref23_Ways.mono_l k
  refine ⟨?_, ?_, ?_, ?_⟩
  ·intro y0 y1 y2
   unfold capnpref23_Ways.l0
   repeat' first
   | (with_reducible exact ih0 _ _ _)
   | (with_reducible exact ih1 _ _ _ _ _)
   | (with_reducible exact ih2 _ _ _ _ _)
   | (with_reducible exact ih3 _ _ _ _ _ _)
   | (with_reducible exact capnpref20_Of.mono _ _)
   | (with_reducible exact capnpref23_Covers.mono _ _ _)
   | (with_reducible exact capnpref23_zeros.mono _ _)
   | (with_reducible exact LeO.refl _)
   | (with_reducible exact LeO.none _)
   | (with_reducible refine LeO.ite ?_ ?_)
   | (with_reducible refine LeO.bind ?_ (fun _ => ?_))
   | exact ih0 _ _ _
   | exact ih1 _ _ _ _ _
   | exact ih2 _ _ _ _ _
   | exact ih3 _ _ _ _ _ _
   | exact capnpref20_Of.mono _ _
   | exact capnpref23_Covers.mono _ _ _
   | exact capnpref23_zeros.mono _ _
   | exact LeO.none _
   | refine LeO.ite ?_ ?_
   | refine LeO.bind ?_ (fun _ => ?_)
  ·intro y0 y1 y2 y3 y4
   unfold capnpref23_Ways.l1
   repeat' first
   | (with_reducible exact ih0 _ _ _)
   | (with_reducible exact ih1 _ _ _ _ _)
   | (with_reducible exact ih2 _ _ _ _ _)
   | (with_reducible exact ih3 _ _ _ _ _ _)
   | (with_reducible exact capnpref20_Of.mono _ _)
   | (with_reducible exact capnpref23_Covers.mono _ _ _)
   | (with_reducible exact capnpref23_zeros.mono _ _)
   | (with_reducible exact LeO.refl _)
   | (with_reducible exact LeO.none _)
   | (with_reducible refine LeO.ite ?_ ?_)
   | (with_reducible refine LeO.bind ?_ (fun _ => ?_))
   | exact ih0 _ _ _
   | exact ih1 _ _ _ _ _
   | exact ih2 _ _ _ _ _
   | exact ih3 _ _ _ _ _ _
   | exact capnpref20_Of.mono _ _
   | exact capnpref23_Covers.mono _ _ _
   | exact capnpref23_zeros.mono _ _
   | exact LeO.none _
   | refine LeO.ite ?_ ?_
   | refine LeO.bind ?_ (fun _ => ?_)
  ·intro y0 y1 y2 y3 y4
   unfold capnpref23_Ways.l2
   repeat' first
   | (with_reducible exact ih0 _ _ _)
   | (with_reducible exact ih1 _ _ _ _ _)
   | (with_reducible exact ih2 _ _ _ _ _)
   | (with_reducible exact ih3 _ _ _ _ _ _)
   | (with_reducible exact capnpref20_Of.mono _ _)
   | (with_reducible exact capnpref23_Covers.mono _ _ _)
   | (with_reducible exact capnpref23_zeros.mono _ _)
   | (with_reducible exact LeO.refl _)
   | (with_reducible exact LeO.none _)
   | (with_reducible refine LeO.ite ?_ ?_)
   | (with_reducible refine LeO.bind ?_ (fun _ => ?_))
   | exact ih0 _ _ _
   | exact ih1 _ _ _ _ _
   | exact ih2 _ _ _ _ _
   | exact ih3 _ _ _ _ _ _
   | exact capnpref20_Of.mono _ _
   | exact capnpref23_Covers.mono _ _ _
   | exact capnpref23_zeros.mono _ _
   | exact LeO.none _
   | refine LeO.ite ?_ ?_
   | refine LeO.bind ?_ (fun _ => ?_)
  ·intro y0 y1 y2 y3 y4 y5
   unfold capnpref23_Ways.j3
   repeat' first
   | (with_reducible exact ih0 _ _ _)
   | (with_reducible exact ih1 _ _ _ _ _)
   | (with_reducible exact ih2 _ _ _ _ _)
   | (with_reducible exact ih3 _ _ _ _ _ _)
   | (with_reducible exact capnpref20_Of.mono _ _)
   | (with_reducible exact capnpref23_Covers.mono _ _ _)
   | (with_reducible exact capnpref23_zeros.mono _ _)
   | (with_reducible exact LeO.refl _)
   | (with_reducible exact LeO.none _)
   | (with_reducible refine LeO.ite ?_ ?_)
   | (with_reducible refine LeO.bind ?_ (fun _ => ?_))
   | exact ih0 _ _ _
   | exact ih1 _ _ _ _ _
   | exact ih2 _ _ _ _ _
   | exact ih3 _ _ _ _ _ _
   | exact capnpref20_Of.mono _ _
   | exact capnpref23_Covers.mono _ _ _
   | exact capnpref23_zeros.mono _ _
   | exact LeO.none _
   | refine LeO.ite ?_ ?_
   | refine LeO.bind ?_ (fun _ => ?_)
theorem capnpref23_Ways.mono : ∀ a0 k, LeO (capnpref23_Ways.f k a0) (capnpref23_Ways.f (k + 1) a0) := by
 intro a0 k
 obtain ⟨ih0, ih1, ih2, ih3⟩ := capnpref23_Ways.mono_l k
 unfold capnpref23_Ways.f
 repeat' first
   | (with_reducible exact ih0 _ _ _)
   | (with_reducible exact ih1 _ _ _ _ _)
   | (with_reducible exact ih2 _ _ _ _ _)
   | (with_reducible exact ih3 _ _ _ _ _ _)
   | (with_reducible exact capnpref20_Of.mono _ _)
   | (with_reducible exact capnpref23_Covers.mono _ _ _)
   | (with_reducible exact capnpref23_zeros.mono _ _)
   | (with_reducible exact LeO.refl _)
   | (with_reducible exact LeO.none _)
   | (with_reducible refine LeO.ite ?_ ?_)
   | (with_reducible refine LeO.bind ?_ (fun _ => ?_))
   | exact ih0 _ _ _
   | exact ih1 _ _ _ _ _
   | exact ih2 _ _ _ _ _
   | exact ih3 _ _ _ _ _ _
   | exact capnpref20_Of.mono _ _
   | exact capnpref23_Covers.mono _ _ _
   | exact capnpref23_zeros.mono _ _
   | exact LeO.none _
   | refine LeO.ite ?_ ?_
   | refine LeO.bind ?_ (fun _ => ?_)
def capnpref23_Ways.T11 : Bool × List (List Nat × List Nat) := (true, [([], []), ([], []), ([], []), ([], []), ([2, 3], [2, 3]), ([4], [4]), ([], []), ([], []), ([7], [7]), ([6, 8], [6, 8]), ([9], [9]), ([5, 10], [5, 10]), ([0, 1, 0, 1, 2, 3, 4, 5, 6, 7, 8, 9, 10, 11], [0, 1]), ([12, 11, 0, 1, 2, 3, 4, 5, 6, 7, 8, 9, 10, 11], [11, 12])])
def capnpref23_Ways.B11 : List Nat := [0, 0, 0, 0, 12, 28, 0, 0, 128, 448, 960, 2044, 4095, 8191]
theorem capnpref23_Ways.tab11 : rtab .any (opsOf Tryd.f17 11) = capnpref23_Ways.T11 := by kernel_rfl
theorem capnpref23_Ways.bits11 : waitsOk capnpref23_Ways.T11.2 capnpref23_Ways.B11 = true := by kernel_rfl
def capnpref23_Ways.T16 : Bool × List (List Nat × List Nat) := (true, [([], []), ([], []), ([], []), ([], []), ([2, 3], [2, 3]), ([4], [4]), ([], []), ([], []), ([], []), ([7, 8], [7, 8]), ([6, 9], [6, 9]), ([10], [10]), ([5, 11], [5, 11]), ([0, 1, 0, 1, 2, 3, 4, 5, 6, 7, 8, 9, 10, 11, 12], [0, 1]), ([13, 12, 0, 1, 2, 3, 4, 5, 6, 7, 8, 9, 10, 11, 12], [12, 13])])
def capnpref23_Ways.B16 : List Nat := [0, 0, 0, 0, 12, 28, 0, 0, 0, 384, 960, 1984, 4092, 8191, 16383]
theorem capnpref23_Ways.tab16 : rtab .any (opsOf Tryd.f17 16) = capnpref23_Ways.T16 := by kernel_rfl
theorem capnpref23_Ways.bits16 : waitsOk capnpref23_Ways.T16.2 capnpref23_Ways.B16 = true := by kernel_rfl
def capnpref23_Ways.T18 : Bool × List (List Nat × List Nat) := (true, [([], []), ([], []), ([], []), ([], []), ([2, 3], [2, 3]), ([4], [4]), ([], []), ([], []), ([], []), ([7, 8], [7, 8]), ([6, 9], [6, 9]), ([10], [10]), ([5, 11], [5, 11]), ([0, 1, 0, 1, 2, 3, 4, 5, 6, 7, 8, 9, 10, 11, 12], [0, 1]), ([13, 12, 0, 1, 2, 3, 4, 5, 6, 7, 8, 9, 10, 11, 12], [12, 13])])
def capnpref23_Ways.B18 : List Nat := [0, 0, 0, 0, 12, 28, 0, 0, 0, 384, 960, 1984, 4092, 8191, 16383]
theorem capnpref23_Ways.tab18 : rtab .any (opsOf Tryd.f17 18) = capnpref23_Ways.T18 := by kernel_rfl
theorem capnpref23_Ways.bits18 : waitsOk capnpref23_Ways.T18.2 capnpref23_Ways.B18 = true := by kernel_rfl
set_option maxHeartbeats 8000000 in
set_option maxRecDepth 100000 in
theorem capnpref23_Ways.calls (k : Nat) (A0 : Option Addr) (c0 : Nat) (l0 : List Int) (r : Int) (w : World) (hr0 : Kd.C (Kd.int .u64) w A0 l0.length l0) (hc0 : l0.length ≤ c0) (h : capnpref23_Ways.f k l0 = some r) :
  Calls Tryd.prog 17 #[.slice A0 l0.length c0] w fun e w' => e = .returned (.int .u64 r) ∧ Below w.heap.size w w' := by
 have HR0 := Aside0.mk hr0
 have HC0 := Aside0.mk hc0
 clear hr0 hc0
 have HB := Aside0.mk (Below.refl w.heap.size w)
 have H : (if 0 ≤ (wrap64 ((l0.length : Int) + 1)) then (if (wrap64 ((l0.length : Int) + 1) : Int).toNat ≤ 35184372088832 then ((some (List.replicate (wrap64 ((l0.length : Int) + 1) : Int).toNat 0 : List Int)).bind fun y425 => (if 0 ≤ (l0.length : Int) then (if (l0.length : Int) < (y425.length : Int) then (capnpref23_Ways.l0 k l0 (y425.set ((l0.length : Int) : Int).toNat 1) (wrap64 ((l0.length : Int) - 1))) else (none)) else (none))) else (none)) else (none)) = some r := h
 clear h
 obtain ⟨ji2, hji2⟩ : ∃ j_ : Int, (wrap64 ((l0.length : Int) + 1)) = j_ := ⟨_, rfl⟩
 replace H : (if 0 ≤ (ji2) then (if (ji2 : Int).toNat ≤ 35184372088832 then ((some (List.replicate (ji2 : Int).toNat 0 : List Int)).bind fun y425 => (if 0 ≤ (l0.length : Int) then (if (l0.length : Int) < (y425.length : Int) then (capnpref23_Ways.l0 k l0 (y425.set ((l0.length : Int) : Int).toNat 1) (wrap64 ((l0.length : Int) - 1))) else (none)) else (none))) else (none)) else (none)) = some r := by first | (rw [hji2] at H; exact H) | (simp only [hji2] at H ⊢; exact H)
 have hji2w : (IntKind.i64.wrap ((l0.length : Int) + 1)) = ji2 := (i64_w _).trans hji2
 by_cases c3 : 0 ≤ (ji2)
 ·rw [if_pos c3] at H
  have c3b0 := eq_true c3
  have c3b1 : decide (0 ≤ (ji2)) = true := decide_eq_true c3
  clear c3
  by_cases c4 : (ji2 : Int).toNat ≤ 35184372088832
  ·rw [if_pos c4] at H
   have c4b0 := eq_true c4
   have c4b1 : decide ((ji2 : Int).toNat ≤ 35184372088832) = true := decide_eq_true c4
   clear c4
   obtain ⟨y425, hy425⟩ : ∃ y_ : List Int, y_ = (List.replicate (ji2 : Int).toNat 0) := ⟨_, rfl⟩
   replace H : (if 0 ≤ (l0.length : Int) then (if (l0.length : Int) < (y425.length : Int) then (capnpref23_Ways.l0 k l0 (y425.set ((l0.length : Int) : Int).toNat 1) (wrap64 ((l0.length : Int) - 1))) else (none)) else (none)) = some r := by first | (rw [hy425]; with_reducible exact H) | (have H2_ := (Option.bind_some _ _).symm.trans H; rw [hy425]; with_reducible exact H2_) | (have H2_ := (Option.bind_some _ _).symm.trans H; with_reducible exact H2_) | with_reducible exact H | (rw [hy425]; exact H) | exact H
   have Ny425 := Aside0.mk hy425
   clear hy425
   by_cases c5 : 0 ≤ (l0.length : Int)
   ·rw [if_pos c5] at H
    have c5b0 : decide (0 ≤ (l0.length : Int)) = true := decide_eq_true c5
    have c5b1 : decide (0 ≤ l0.length) = true := decide_eq_true (by omega)
    clear c5
    by_cases c6 : (l0.length : Int) < (y425.length : Int)
    ·rw [if_pos c6] at H
     have c6b0 : decide ((l0.length : Int) < (y425.length : Int)) = true := decide_eq_true c6
     have c6b1 : decide (l0.length < y425.length) = true := decide_eq_true (Int.ofNat_lt.mp c6)
     clear c6
     obtain ⟨y428, hy428⟩ : ∃ y_ : List Int, y_ = (y425.set ((l0.length : Int) : Int).toNat 1) := ⟨_, rfl⟩
     replace H : (capnpref23_Ways.l0 k l0 y428 (wrap64 ((l0.length : Int) - 1))) = some r := by first | (rw [hy428]; with_reducible exact H) | (have H2_ := (Option.bind_some _ _).symm.trans H; rw [hy428]; with_reducible exact H2_) | (have H2_ := (Option.bind_some _ _).symm.trans H; with_reducible exact H2_) | with_reducible exact H | (rw [hy428]; exact H) | exact H
     have Ny428 := Aside0.mk hy428
     clear hy428
     have H' := Aside0.mk H
     clear H
     go_enter Tryd.func17, Tryd.ntmps17
     go_wp2_with (first | ((with_reducible refine gate_dst (N := 12) rfl ?_); (try (refine gate_guard (by rfl) ?_; dsimp only)); refine Kd.R_make (Kd.int .u64) _ 37 rfl (N := 12) rfl 23 _ _ rfl ji2 rfl rfl Tryd.underlying23 (.int .u64 0) 8 info37 rfl (by decide) (by omega) 0 (ok := fun _ => True) (okp := fun _ => True) rfl (fun _ hk => hk) trivial (of_decide_eq_true pA) (Nat.le_trans (Nat.mul_le_mul_right _ (of_decide_eq_true pA : ji2.toNat ≤ 35184372088832)) (by omega)) (Below.refl _ _) (Nat.le_refl _) ?_; intro v426 w8 ho9 hb hg_ hnew_; clear hg_ hnew_; (first | rw [← Ny425.out] at ho9 | (simp only [Int.reduceToNat] at ho9; rw [← Ny425.out] at ho9)); have n0_ := Aside0.mk (Kd.R_lower ho9 (below_size pB)); have n1_ := Aside0.mk (below_step pB hb); clear HB; have HO427 := n0_; have HB := n1_; clear n0_ n1_; clear hb ho9; have p7 : 0 ≤ ((l0.length : Int) : Int) := of_decide_eq_true pA; have q7 : ((l0.length : Int) : Int) < ((y425.length : Int) : Int) := of_decide_eq_true pA; obtain ⟨go7, co7, eo7, gb7, gl7, cl7, HG7⟩ := Kd.R_form HO427.out (by omega); (first | cases eo7 | (injection eo7 with ea_ en_ ec_; (first | subst ea_ | (injection ea_ with ea_; subst ea_)); subst ec_; clear en_)); have GB7 := Aside0.mk gb7; have GG7 := Aside0.mk HG7; clear gb7 gl7 HG7; obtain ⟨hx7_0, hf7_0⟩ := Kd.R_celln 0 HO427.out ((l0.length : Int) : Int) p7 q7; replace p7 := eq_true p7; replace q7 := eq_true q7; obtain ⟨hy10_, hz10_⟩ := Kd.R_celln 0 HO427.out ((l0.length : Int) : Int) (of_decide_eq_true pA) (of_decide_eq_true pA); (try simp only [Go.IntWalk.toNatUp] at hy10_ hz10_); have HP10 := Kd.R_putg HO427.out ((l0.length : Int) : Int) 1) | ((with_reducible refine gate_store (t := 37) (p := 16) rfl ?_); refine store_event (t := 37) (p := 16) (v := ?vo_w11) (w1 := (w8.setCell ⟨go7, ((l0.length : Int) : Int).toNat, none⟩ (.int .u64 1))) ?hg ?ho ?hn ?hr ?_; (case ho => rfl); (case hg => rfl); (case hn => rfl); (case hr => first | (go_simp; done) | (go_simp; rfl)); intro w11 hw; have hg : w8.grownBy w11 (some go7) := (by rw [hw]; exact HP10.2); have hp_ : Kd.R (Kd.int .u64) 37 w11 w.heap.size (fun _ => True) (.slice (some ⟨go7, 0, none⟩) y425.length co7) y428 := (by rw [hw, Ny428.out]; exact HP10.1); clear HP10; have n0_ := Aside0.mk (hp_); have n1_ := Aside0.mk ((by rw [hw]; exact below_set (HB.out) GB7.out : Below w.heap.size w w11)); clear HO427; clear HB; have HO427 := n0_; have HB := n1_; clear n0_ n1_; clear hg hw hp_))
     go_loopg [4] k (fun kq v4 w' => ∃ (x3_1 : List Int) (x4_1 : Int), v4 = .int .i64 x4_1 ∧ Aside0 (capnpref23_Ways.l0 kq l0 x3_1 x4_1 = some r) ∧ Aside0 (kq ≤ k) ∧ Aside0 (Kd.R (Kd.int .u64) 37 w' w.heap.size (fun _ => True) (.slice (some ⟨go7, 0, none⟩) y425.length co7) x3_1) ∧ Aside0 (Below w.heap.size w w'))
     case atStart => exact ⟨(y428), (wrap64 ((l0.length : Int) - 1)), (by first | rfl | (simp; done) | (simp [*]; done)), H', ⟨Nat.le_refl _⟩, ⟨pR HO427⟩, ⟨pB⟩⟩
     case round =>
      clear H'
      try clear c1
      try clear p2
      try clear c3
      try clear c3b0
      try clear c3b1
      try clear c4
      try clear c4b0
      try clear c4b1
      try clear c5
      try clear c5b0
      try clear c5b1
      try clear c6
      try clear c6b0
      try clear c6b1
      try clear p6
      try clear p7
      try clear q7
      try clear hx7
      try clear hf7
      try clear hx7_0
      try clear p7
      try clear q7
      obtain ⟨x3_1, x4_1, rfl, HA, HK1, HO_3, HB⟩ := hrel
      have hl3_1 := (Kd.R_reads' HO_3.out).1
      rw [hl3_1] at HO_3
      (try simp only [hl3_1])
      cases gk with
      | zero => exact absurd HA.out (by simp [capnpref23_Ways.l0])
      | succ k1 =>
       have H := HA.out
       clear HA
       simp only [capnpref23_Ways.l0] at H
       by_cases c12 : x4_1 ≥ 0
       ·rw [if_pos c12] at H
        have c12b0 : decide (0 ≤ x4_1) = true := decide_eq_true c12
        clear c12
        by_cases c13 : 0 ≤ x4_1
        ·rw [if_pos c13] at H
         have c13b0 : decide (0 ≤ x4_1) = true := decide_eq_true c13
         clear c13
         by_cases c14 : x4_1 < (l0.length : Int)
         ·rw [if_pos c14] at H
          have c14b0 : decide (x4_1 < (l0.length : Int)) = true := decide_eq_true c14
          clear c14
          replace H := Option.bind_eq_some_iff.mp H
          obtain ⟨t431, A150, H⟩ := H
          replace H : (capnpref23_Ways.l1 k1 l0 x3_1 x4_1 (wrap64 (t431)) 1) = some r := H
          have A15 := Aside0.mk A150
          clear A150
          have H' := Aside0.mk H
          clear H
          have p430 : 0 ≤ (x4_1 : Int) := of_decide_eq_true pA
          have q430 : x4_1 < (l0.length : Int) := of_decide_eq_true pA
          obtain ⟨ad430, e430, hx430_0⟩ := Kd.at_int HR0.out x4_1 p430 q430
          cases e430
          replace hx430_0 := (HB.out.cell (World.block_lt_of_cell? w _ hx430_0)).trans hx430_0
          replace p430 := eq_true p430
          replace q430 := eq_true q430
          go_wp2_with (first | ((with_reducible refine gate_callee (f := 24) rfl ?_); refine goesL_ (some 28) rfl rfl Tryd.func24 (by kernel_rfl) rfl #[.int .u64 (rd l0 x4_1)] rfl pM ?_; (with_reducible refine (capnpref20_Of.calls k1 (rd l0 x4_1) t431 _ A15.out).mono ?_); rintro e w16 ⟨rfl, hb⟩; refine ⟨_, rfl, ?_⟩; have n0_ := Aside0.mk (Kd.R_below (pR HO_3) hb); have n1_ := Aside0.mk (below_step pB hb); clear HO_3; clear HB; have HO_3 := n0_; have HB := n1_; clear n0_ n1_; (try clear hb); (try clear hb2); (try clear hk); (try clear hi)))
          go_loopg [6] k1 (fun kq v6 w' => ∃ (x3_2 : List Int) (x6_2 : Int), v6 = .int .i64 x6_2 ∧ Aside0 (capnpref23_Ways.l1 kq l0 x3_2 x4_1 (wrap64 (t431)) x6_2 = some r) ∧ Aside0 (kq ≤ k1) ∧ Aside0 (Kd.R (Kd.int .u64) 37 w' w.heap.size (fun _ => True) (.slice (some ⟨go7, 0, none⟩) x3_1.length co7) x3_2) ∧ Aside0 (Below w.heap.size w w'))
          case atStart => exact ⟨(x3_1), (1), (by first | rfl | (simp; done) | (simp [*]; done)), H', ⟨Nat.le_refl _⟩, ⟨by (try simp only [hl3_1]); (with_reducible repeat (first | apply Kd.R_alloc | apply Kd.R_drewN | apply Kd.R_drew)); exact HO_3.out⟩, ⟨pB⟩⟩
          case round =>
           clear H'
           try clear c1
           try clear c2
           try clear p2
           try clear c3
           try clear c3b0
           try clear c3b1
           try clear c4
           try clear c4b0
           try clear c4b1
           try clear p4
           try clear q4
           try clear hx4
           try clear c5
           try clear c5b0
           try clear c5b1
           try clear c6
           try clear c6b0
           try clear c6b1
           try clear p6
           try clear p7
           try clear q7
           try clear hx7
           try clear hf7
           try clear c12
           try clear c12b0
           try clear c13
           try clear c13b0
           try clear c14
           try clear c14b0
           try clear hx430_0
           try clear hx7_0
           try clear p2
           try clear p430
           try clear p6
           try clear p7
           try clear q430
           try clear q7
           obtain ⟨x3_2, x6_2, rfl, HA, HK2, HO_3, HB⟩ := hrel
           have hl3_2 := (Kd.R_reads' HO_3.out).1
           rw [hl3_2] at HO_3
           (try simp only [hl3_2])
           cases gk with
           | zero => exact absurd HA.out (by simp [capnpref23_Ways.l1])
           | succ k2 =>
            have H := HA.out
            clear HA
            simp only [capnpref23_Ways.l1] at H
            by_cases c17 : x6_2 < 255
            ·rw [if_pos c17] at H
             have c17b0 : decide (x6_2 < 255) = true := decide_eq_true c17
             clear c17
             replace H := Option.bind_eq_some_iff.mp H
             obtain ⟨t432, A180, H⟩ := H
             replace H : (if t432 = true then (if 0 ≤ x4_1 then (if x4_1 < (x3_2.length : Int) then (if 0 ≤ (wrap64 (x4_1 + 1)) then (if (wrap64 (x4_1 + 1)) < (x3_2.length : Int) then (capnpref23_Ways.l1 k2 l0 (x3_2.set (x4_1 : Int).toNat (IntKind.u64.wrap ((rd x3_2 x4_1) + (rd x3_2 (wrap64 (x4_1 + 1)))))) x4_1 (wrap64 (t431)) (wrap64 (x6_2 + 1))) else (none)) else (none)) else (none)) else (none)) else (capnpref23_Ways.l1 k2 l0 x3_2 x4_1 (wrap64 (t431)) (wrap64 (x6_2 + 1)))) = some r := H
             have A18 := Aside0.mk A180
             clear A180
             by_cases c19 : t432 = true
             ·subst c19
              have H1 : (if 0 ≤ x4_1 then (if x4_1 < (x3_2.length : Int) then (if 0 ≤ (wrap64 (x4_1 + 1)) then (if (wrap64 (x4_1 + 1)) < (x3_2.length : Int) then (capnpref23_Ways.l1 k2 l0 (x3_2.set (x4_1 : Int).toNat (IntKind.u64.wrap ((rd x3_2 x4_1) + (rd x3_2 (wrap64 (x4_1 + 1)))))) x4_1 (wrap64 (t431)) (wrap64 (x6_2 + 1))) else (none)) else (none)) else (none)) else (none)) = some r := by rw [if_pos rfl] at H; exact H
              clear H
              have H := H1
              clear H1
              by_cases c20 : 0 ≤ x4_1
              ·rw [if_pos c20] at H
               have c20b0 : decide (0 ≤ x4_1) = true := decide_eq_true c20
               clear c20
               by_cases c21 : x4_1 < (x3_2.length : Int)
               ·rw [if_pos c21] at H
                have c21b0 : decide (x4_1 < (x3_2.length : Int)) = true := decide_eq_true c21
                clear c21
                obtain ⟨ji22, hji22⟩ : ∃ j_ : Int, (wrap64 (x4_1 + 1)) = j_ := ⟨_, rfl⟩
                replace H : (if 0 ≤ (ji22) then (if (ji22) < (x3_2.length : Int) then (capnpref23_Ways.l1 k2 l0 (x3_2.set (x4_1 : Int).toNat (IntKind.u64.wrap ((rd x3_2 x4_1) + (rd x3_2 (ji22))))) x4_1 (wrap64 (t431)) (wrap64 (x6_2 + 1))) else (none)) else (none)) = some r := by first | (rw [hji22] at H; exact H) | (simp only [hji22] at H ⊢; exact H)
                (try rw [hji22] at A18)
                have hji22w : (IntKind.i64.wrap (x4_1 + 1)) = ji22 := (i64_w _).trans hji22
                by_cases c23 : 0 ≤ (ji22)
                ·rw [if_pos c23] at H
                 have c23b0 : decide (0 ≤ (ji22)) = true := decide_eq_true c23
                 clear c23
                 by_cases c24 : (ji22) < (x3_2.length : Int)
                 ·rw [if_pos c24] at H
                  have c24b0 : decide ((ji22) < (x3_2.length : Int)) = true := decide_eq_true c24
                  clear c24
                  obtain ⟨y435, hy435⟩ : ∃ y_ : List Int, y_ = (x3_2.set (x4_1 : Int).toNat (IntKind.u64.wrap ((rd x3_2 x4_1) + (rd x3_2 (ji22))))) := ⟨_, rfl⟩
                  replace H : (capnpref23_Ways.l1 k2 l0 y435 x4_1 (wrap64 (t431)) (wrap64 (x6_2 + 1))) = some r := by first | (rw [hy435]; with_reducible exact H) | (have H2_ := (Option.bind_some _ _).symm.trans H; rw [hy435]; with_reducible exact H2_) | (have H2_ := (Option.bind_some _ _).symm.trans H; with_reducible exact H2_) | with_reducible exact H | (rw [hy435]; exact H) | exact H
                  have Ny435 := Aside0.mk hy435
                  clear hy435
                  have H' := Aside0.mk H
                  clear H
                  try go_wp2_with (first | ((with_reducible refine gate_callee (f := 34) rfl ?_); refine goesL_ (some 36) rfl rfl Tryd.func34 (by kernel_rfl) rfl #[.int .i64 x6_2, .int .i64 (wrap64 (t431))] rfl pM ?_; (with_reducible refine (capnpref23_Covers.calls k2 x6_2 (wrap64 (t431)) true _ A18.out).mono ?_); rintro e w' ⟨rfl, ⟨nd, rfl⟩⟩; refine ⟨_, rfl, ?_⟩; (try (rw [drewN_self wr]; generalize hq_ : World.drewN wr _ = wr; have n0_ : Aside0 (Kd.R (Kd.int .u64) 37 wr w.heap.size (fun _ => True) (.slice (some ⟨go7, 0, none⟩) x3_2.length co7) x3_2) := ⟨by rw [← hq_]; exact (pR HO_3)⟩; have n1_ : Aside0 (Below w.heap.size w wr) := ⟨by rw [← hq_]; exact pB⟩; clear HO_3 HB hq_; have HO_3 := n0_; have HB := n1_; clear n0_ n1_))))
                  have n0_ := Aside0.mk (Kd.R_drew HO_3.out)
                  have n1_ := Aside0.mk (below_drew1 HB.out)
                  clear HO_3
                  clear HB
                  have HO_3 := n0_
                  have HB := n1_
                  clear n0_ n1_
                  have p433 : 0 ≤ (x4_1 : Int) := of_decide_eq_true pA
                  have q433 : x4_1 < (x3_2.length : Int) := of_decide_eq_true pA
                  obtain ⟨ad433, e433, hx433_0⟩ := Kd.at_int (Kd.R_reads' HO_3.out).2.2 x4_1 p433 q433
                  obtain rfl : (⟨go7, 0, none⟩ : Addr) = ad433 := (by injection e433)
                  (first | simp only [add_plain] at hx433_0 | simp only [add_at] at hx433_0 | simp only [Addr.add, Nat.zero_add] at hx433_0 | skip)
                  replace p433 := eq_true p433
                  replace q433 := eq_true q433
                  have p434 : 0 ≤ ((ji22) : Int) := of_decide_eq_true pA
                  have q434 : (ji22) < (x3_2.length : Int) := of_decide_eq_true pA
                  obtain ⟨ad434, e434, hx434_0⟩ := Kd.at_int (Kd.R_reads' HO_3.out).2.2 (ji22) p434 q434
                  obtain rfl : (⟨go7, 0, none⟩ : Addr) = ad434 := (by injection e434)
                  (first | simp only [add_plain] at hx434_0 | simp only [add_at] at hx434_0 | simp only [Addr.add, Nat.zero_add] at hx434_0 | skip)
                  replace p434 := eq_true p434
                  replace q434 := eq_true q434
                  have p25 : 0 ≤ (x4_1 : Int) := of_decide_eq_true pA
                  have q25 : (x4_1 : Int) < ((x3_2.length : Int) : Int) := of_decide_eq_true pA
                  obtain ⟨hx25_0, hf25_0⟩ := Kd.R_celln 0 HO_3.out (x4_1 : Int) p25 q25
                  replace p25 := eq_true p25
                  replace q25 := eq_true q25
                  have HP27 := Kd.R_putn HO_3.out (x4_1 : Int) (IntKind.u64.wrap ((rd x3_2 x4_1) + (rd x3_2 (ji22))))
                  rw [← Ny435.out] at HP27
                  have HQ27 := Aside0.mk HP27
                  clear HP27
                  refine start_ (n := 14) (S := fun w' => w'.cell? ⟨go7, (x4_1).toNat, none⟩ = some (.int .u64 (rd x3_2 x4_1)) ∧ w'.cell? ⟨go7, ((ji22)).toNat, none⟩ = some (.int .u64 (rd x3_2 (ji22)))) (ds := [13]) #[false, false, false, false, false, false, false, false, false, false, false, false, false, false] (by kernel_rfl) rfl rfl ⟨hx433_0, hx434_0⟩ (fun hHeld => ?_); refine with_tabW capnpref23_Ways.tab11 capnpref23_Ways.bits11 (fun HT_ HW_ => ?_)
                  generalize wr.drew = w26 at HO_3 HB HQ27 hf25_0 hx25_0 hx433_0 hx434_0 hHeld ⊢
                  refine pure_ (i := 0) (N := some 37) (v := ?_) (a' := ?_) #[true, false, false, false, false, false, false, false, false, false, false, false, false, false] rfl rfl (any_of HT_.out (by kernel_rfl)) (fun _ _ _ h => h) (Or.inl ⟨by rfl, ?_⟩) ?_ ?_
                  rotate_left
                  ·intro w'
                   go_simp
                   with_reducible rfl
                  rotate_left
                  ·simp only [Act.put, List.setIfInBounds_toArray, List.set_cons_zero, List.set_cons_succ, i64_w, i32_w]
                   rfl
                  refine pure_ (i := 1) (N := some 38) (v := ?_) (a' := ?_) #[true, true, false, false, false, false, false, false, false, false, false, false, false, false] rfl rfl (any_of HT_.out (by kernel_rfl)) (fun _ _ _ h => h) (Or.inl ⟨by rfl, ?_⟩) ?_ ?_
                  rotate_left
                  ·intro w'
                   go_simp
                   with_reducible rfl
                  rotate_left
                  ·simp only [Act.put, List.setIfInBounds_toArray, List.set_cons_zero, List.set_cons_succ, i64_w, i32_w]
                   rfl
                  refine pure_ (i := 2) (N := some 39) (v := ?_) (a' := ?_) #[true, true, true, false, false, false, false, false, false, false, false, false, false, false] rfl rfl (any_of HT_.out (by kernel_rfl)) (fun _ _ _ h => h) (Or.inl ⟨by rfl, ?_⟩) ?_ ?_
                  rotate_left
                  ·intro w'
                   go_simp
                   with_reducible rfl
                  rotate_left
                  ·simp only [Act.put, List.setIfInBounds_toArray, List.set_cons_zero, List.set_cons_succ, i64_w, i32_w]
                   rfl
                  refine pure_ (i := 3) (N := some 40) (v := ?_) (a' := ?_) #[true, true, true, true, false, false, false, false, false, false, false, false, false, false] rfl rfl (any_of HT_.out (by kernel_rfl)) (fun _ _ _ h => h) (Or.inl ⟨by rfl, ?_⟩) ?_ ?_
                  rotate_left
                  ·intro w'
                   go_simp
                   with_reducible rfl
                  rotate_left
                  ·simp only [Act.put, List.setIfInBounds_toArray, List.set_cons_zero, List.set_cons_succ, i64_w, i32_w]
                   rfl
                  refine pure_ (i := 4) (N := some 41) (v := ?_) (a' := ?_) #[true, true, true, true, true, false, false, false, false, false, false, false, false, false] rfl rfl (any_of HT_.out (by kernel_rfl)) (fun _ _ _ h => h) (Or.inl ⟨by rfl, ?_⟩) ?_ ?_
                  rotate_left
                  ·intro w'
                   go_simp
                   with_reducible rfl
                  rotate_left
                  ·simp only [Act.put, List.setIfInBounds_toArray, List.set_cons_zero, List.set_cons_succ, i64_w, i32_w]
                   rfl
                  refine pure_ (i := 6) (N := some 43) (v := ?_) (a' := ?_) #[true, true, true, true, true, false, true, false, false, false, false, false, false, false] rfl rfl (any_of HT_.out (by kernel_rfl)) (fun _ _ _ h => h) (Or.inl ⟨by rfl, ?_⟩) ?_ ?_
                  rotate_left
                  ·intro w'
                   go_simp
                   with_reducible rfl
                  rotate_left
                  ·simp only [Act.put, List.setIfInBounds_toArray, List.set_cons_zero, List.set_cons_succ, i64_w, i32_w]
                   rfl
                  refine pure_ (i := 7) (N := some 44) (v := ?_) (a' := ?_) #[true, true, true, true, true, false, true, true, false, false, false, false, false, false] rfl rfl (any_of HT_.out (by kernel_rfl)) (fun _ _ _ h => h) (Or.inl ⟨by rfl, ?_⟩) ?_ ?_
                  rotate_left
                  ·intro w'
                   go_simp
                   with_reducible rfl
                  rotate_left
                  ·simp only [Act.put, List.setIfInBounds_toArray, List.set_cons_zero, List.set_cons_succ, i64_w, i32_w]
                   rfl
                  refine pure_ (i := 8) (N := some 45) (v := ?_) (a' := ?_) #[true, true, true, true, true, false, true, true, true, false, false, false, false, false] rfl rfl (any_of HT_.out (by kernel_rfl)) (fun _ _ _ h => h) (Or.inl ⟨by rfl, ?_⟩) ?_ ?_
                  rotate_left
                  ·intro w'
                   go_simp
                   with_reducible rfl
                  rotate_left
                  ·simp only [Act.put, List.setIfInBounds_toArray, List.set_cons_zero, List.set_cons_succ, i64_w, i32_w]
                   rfl
                  refine pure_ (i := 9) (N := some 46) (v := ?_) (a' := ?_) #[true, true, true, true, true, false, true, true, true, true, false, false, false, false] rfl rfl (any_of HT_.out (by kernel_rfl)) (fun _ _ _ h => h) (Or.inl ⟨by rfl, ?_⟩) ?_ ?_
                  rotate_left
                  ·intro w'
                   go_simp
                   with_reducible rfl
                  rotate_left
                  ·simp only [Act.put, List.setIfInBounds_toArray, List.set_cons_zero, List.set_cons_succ, i64_w, i32_w]
                   rfl
                  refine take_ (i := 5) (N := some 42) (v := ?_) (a' := ?_) #[true, true, true, true, true, true, true, true, true, true, false, false, false, false] rfl rfl (take_ofW HT_.out HW_.out (by kernel_rfl)) (fun _ _ _ h => h) (Or.inl ⟨by rfl, ?_⟩) hHeld ?_ ?_
                  rotate_left
                  ·rintro w' ⟨s0, s1⟩
                   go_simp
                   with_reducible rfl
                  rotate_left
                  ·simp only [Act.put, List.setIfInBounds_toArray, List.set_cons_zero, List.set_cons_succ, i64_w, i32_w]
                   rfl
                  refine take_ (i := 10) (N := some 47) (v := ?_) (a' := ?_) #[true, true, true, true, true, true, true, true, true, true, true, false, false, false] rfl rfl (take_ofW HT_.out HW_.out (by kernel_rfl)) (fun _ _ _ h => h) (Or.inl ⟨by rfl, ?_⟩) hHeld ?_ ?_
                  rotate_left
                  ·rintro w' ⟨s0, s1⟩
                   go_simp
                   with_reducible rfl
                  rotate_left
                  ·simp only [Act.put, List.setIfInBounds_toArray, List.set_cons_zero, List.set_cons_succ, i64_w, i32_w]
                   rfl
                  refine pure_ (i := 11) (N := some 48) (v := ?_) (a' := ?_) #[true, true, true, true, true, true, true, true, true, true, true, true, false, false] rfl rfl (any_of HT_.out (by kernel_rfl)) (fun _ _ _ h => h) (Or.inl ⟨by rfl, ?_⟩) ?_ ?_
                  rotate_left
                  ·intro w'
                   go_simp
                   with_reducible rfl
                  rotate_left
                  ·simp only [Act.put, List.setIfInBounds_toArray, List.set_cons_zero, List.set_cons_succ, i64_w, i32_w]
                   rfl
                  refine pure_ (i := 12) (N := some 49) (v := ?_) (a' := ?_) #[true, true, true, true, true, true, true, true, true, true, true, true, true, false] rfl rfl (any_of HT_.out (by kernel_rfl)) (fun _ _ _ h => h) (Or.inl ⟨by rfl, ?_⟩) ?_ ?_
                  rotate_left
                  ·intro w'
                   go_simp
                   with_reducible rfl
                  rotate_left
                  ·simp only [Act.put, List.setIfInBounds_toArray, List.set_cons_zero, List.set_cons_succ, i64_w, i32_w]
                   rfl
                  refine last_ (i := 13) (N := none) #[true, true, true, true, true, true, true, true, true, true, true, true, true, true] rfl rfl (one_of HT_.out (by kernel_rfl)) (by decide) (fun K hK => ?_)
                  refine skip_ (w1 := ?_) (by rfl) rfl ?_ ?_
                  rotate_left
                  ·go_simp
                   rfl
                  refine hK.out _ _ ?_
                  clear hK K
                  refine done_ (done_of HT_.out (by kernel_rfl)) ?_
                  try go_wp2
                  (try simp only [← hl3_2])
                  (first | go_roundg k2 | ((try subst hji2); (try subst hji22); go_roundg k2))
                  case measure => have := HK1.out; have := HK2.out; omega
                  case rel => exact ⟨(y435), (wrap64 (x6_2 + 1)), (by first | rfl | (simp; done) | (simp [*]; done)), H', ⟨by have := HK1.out; have := HK2.out; omega⟩, ⟨by (try simp only [hl3_1]); (try simp only [hl3_2]); (with_reducible repeat (first | apply Kd.R_alloc | apply Kd.R_drewN | apply Kd.R_drew)); exact HQ27.out⟩, ⟨by repeat (first | (with_reducible first | exact HB.out | apply below_alloc | apply pw_below_drewN | apply below_drew1 | refine below_set ?_ GB7.out) | exact HB.out)⟩⟩
                 ·rw [if_neg c24] at H
                  exact absurd H (by simp)
                ·rw [if_neg c23] at H
                 exact absurd H (by simp)
               ·rw [if_neg c21] at H
                exact absurd H (by simp)
              ·rw [if_neg c20] at H
               exact absurd H (by simp)
             ·replace c19 := Bool.eq_false_iff.mpr c19
              subst c19
              have H1 : (capnpref23_Ways.l1 k2 l0 x3_2 x4_1 (wrap64 (t431)) (wrap64 (x6_2 + 1))) = some r := by rw [if_neg (show ¬ (false = true) by decide)] at H; exact H
              clear H
              have H := H1
              clear H1
              have H' := Aside0.mk H
              clear H
              go_wp2_with (first | ((with_reducible refine gate_callee (f := 34) rfl ?_); refine goesL_ (some 36) rfl rfl Tryd.func34 (by kernel_rfl) rfl #[.int .i64 x6_2, .int .i64 (wrap64 (t431))] rfl pM ?_; (with_reducible refine (capnpref23_Covers.calls k2 x6_2 (wrap64 (t431)) false _ A18.out).mono ?_); rintro e w' ⟨rfl, ⟨nd, rfl⟩⟩; refine ⟨_, rfl, ?_⟩))
              (try simp only [← hl3_2])
              (first | go_roundg k2 | ((try subst hji2); go_roundg k2))
              case measure => have := HK1.out; have := HK2.out; omega
              case rel => exact ⟨(x3_2), (wrap64 (x6_2 + 1)), (by first | rfl | (simp; done) | (simp [*]; done)), H', ⟨by have := HK1.out; have := HK2.out; omega⟩, ⟨by (try simp only [hl3_1]); (try simp only [hl3_2]); (with_reducible repeat (first | apply Kd.R_alloc | apply Kd.R_drewN | apply Kd.R_drew)); exact HO_3.out⟩, ⟨pB⟩⟩
            ·rw [if_neg c17] at H
             have c17b0 : decide (x6_2 < 255) = false := decide_eq_false c17
             clear c17
             by_cases c28 : 0 ≤ x4_1
             ·rw [if_pos c28] at H
              have c28b0 := eq_true c28
              have c28b1 : decide (0 ≤ x4_1) = true := decide_eq_true c28
              clear c28
              by_cases c29 : x4_1 ≤ (l0.length : Int)
              ·rw [if_pos c29] at H
               have c29b0 := eq_true c29
               have c29b1 : decide (x4_1 ≤ (l0.length : Int)) = true := decide_eq_true c29
               clear c29
               replace H := Option.bind_eq_some_iff.mp H
               obtain ⟨t437, A300, H⟩ := H
               replace H : (capnpref23_Ways.l2 k2 l0 x3_2 x4_1 t437 1) = some r := H
               have A30 := Aside0.mk A300
               clear A300
               have H' := Aside0.mk H
               clear H
               obtain ⟨i031, hi031, _, hsz31, _⟩ := info_parts info37
               obtain ⟨A31, hcut31, hA31, hC31⟩ := print_drop_of (P := Tryd.prog) (Value.int .u64) 0 23 37 .i64 Tryd.underlying23 hi031 hsz31 (some ad430) c0 l0 x4_1 (of_decide_eq_true pA) (of_decide_eq_true pA) HC0.out
               have HR436 := Aside0.mk (Kd.C_of_reads (h1 := fun _ => rfl) (hA31 _ (Kd.reads_of_C HR0.out)))
               have HC436 := Aside0.mk hC31
               clear hA31 hC31 hi031 hsz31
               go_wp2_with (first | ((with_reducible refine gate_callee (f := 35) rfl ?_); refine goesL_ (some 53) rfl rfl Tryd.func35 (by kernel_rfl) rfl #[.slice A31 (l0.drop (x4_1 : Int).toNat).length (c0 - x4_1.toNat)] rfl (by (try simp only [List.map_toArray, List.map_cons, List.map_nil]); first | done | (rw [show (l0.drop (x4_1 : Int).toNat).length = (l0.length - x4_1.toNat) from List.length_drop] <;> rfl) | rfl | (simp only [List.length_drop, List.length_take]; rfl)) ?_; (with_reducible refine (capnpref23_zeros.calls k2 _ _ (l0.drop (x4_1 : Int).toNat) t437 _ ?side1 ?side2 A30.out).mono ?_); (case side1 => repeat (first | exact (Kd.C_below HR436.out HB.out) | (with_reducible refine Kd.C_alloc ?_ _) | (with_reducible refine Kd.C_drewN ?_ _) | (with_reducible refine Kd.C_drew ?_))); (case side2 => exact HC436.out); rintro e w' ⟨rfl, ⟨nd, rfl⟩⟩; refine ⟨_, rfl, ?_⟩))
               go_loopg [8] k2 (fun kq v8 w' => ∃ (x3_3 : List Int) (x8_3 : Int), v8 = .int .i64 x8_3 ∧ Aside0 (capnpref23_Ways.l2 kq l0 x3_3 x4_1 t437 x8_3 = some r) ∧ Aside0 (kq ≤ k2) ∧ Aside0 (Kd.R (Kd.int .u64) 37 w' w.heap.size (fun _ => True) (.slice (some ⟨go7, 0, none⟩) x3_2.length co7) x3_3) ∧ Aside0 (Below w.heap.size w w'))
               case atStart => exact ⟨(x3_2), (1), (by first | rfl | (simp; done) | (simp [*]; done)), H', ⟨Nat.le_refl _⟩, ⟨by (try simp only [hl3_1]); (try simp only [hl3_2]); (with_reducible repeat (first | apply Kd.R_alloc | apply Kd.R_drewN | apply Kd.R_drew)); exact HO_3.out⟩, ⟨pB⟩⟩
               case round =>
                clear H'
                try clear c1
                try clear c2
                try clear p2
                try clear q2
                try clear hx2
                try clear hf2
                try clear c3
                try clear c3b0
                try clear c3b1
                try clear c4
                try clear c4b0
                try clear c4b1
                try clear p4
                try clear q4
                try clear hx4
                try clear c5
                try clear c5b0
                try clear c5b1
                try clear c6
                try clear c6b0
                try clear c6b1
                try clear p6
                try clear p7
                try clear q7
                try clear hx7
                try clear hf7
                try clear c12
                try clear c12b0
                try clear c13
                try clear c13b0
                try clear c14
                try clear c14b0
                try clear c17
                try clear c17b0
                try clear c19
                try clear c20
                try clear c20b0
                try clear c21
                try clear c21b0
                try clear c23
                try clear c23b0
                try clear c24
                try clear c24b0
                try clear p25
                try clear q25
                try clear hx25
                try clear hf25
                try clear c28
                try clear c28b0
                try clear c28b1
                try clear c29
                try clear c29b0
                try clear c29b1
                try clear hx25_0
                try clear hx430_0
                try clear hx433_0
                try clear hx434_0
                try clear hx7_0
                try clear p2
                try clear p25
                try clear p4
                try clear p430
                try clear p433
                try clear p434
                try clear p6
                try clear p7
                try clear q25
                try clear q4
                try clear q430
                try clear q433
                try clear q434
                try clear q7
                obtain ⟨x3_3, x8_3, rfl, HA, HK3, HO_3, HB⟩ := hrel
                have hl3_3 := (Kd.R_reads' HO_3.out).1
                rw [hl3_3] at HO_3
                (try simp only [hl3_3])
                cases gk with
                | zero => exact absurd HA.out (by simp [capnpref23_Ways.l2])
                | succ k3 =>
                 have H := HA.out
                 clear HA
                 simp only [capnpref23_Ways.l2] at H
                 have HC32 := Aside0.mk H
                 clear H
                 go_upto_region 14 with (fail)
                 go_cut [63] (fun v63 wc => ∃ (kq : Nat) (x63_31 : Bool), v63 = .bool x63_31 ∧ Aside0 (capnpref23_Ways.j3 kq l0 x3_3 x4_1 t437 x8_3 x63_31 = some r) ∧ Aside0 (kq ≤ k3) ∧ Aside0 (Kd.R (Kd.int .u64) 37 wc w.heap.size (fun _ => True) (.slice (some ⟨go7, 0, none⟩) x3_3.length co7) x3_3) ∧ Aside0 (Below w.heap.size w wc))
                 case first =>
                  have H := HC32.out
                  clear HC32
                  by_cases c33 : x8_3 ≤ 256
                  ·rw [if_pos c33] at H
                   have c33b0 : decide (x8_3 ≤ 256) = true := decide_eq_true c33
                   clear c33
                   (first | rw [c33b0] | (simp only [i64_w, i32_w]; rw [c33b0]) | skip)
                   have H' := Aside0.mk H
                   clear H
                   go_wp2
                   go_meet
                   case rel => exact ⟨_, (decide ((wrap64 (x4_1 + x8_3)) ≤ (l0.length : Int))), (by first | rfl | (simp; done) | (simp [*]; done)), H', ⟨by have := HK1.out; have := HK2.out; have := HK3.out; first | omega | exact Nat.le_refl _⟩, ⟨by (try simp only [hl3_1]); (try simp only [hl3_2]); (try simp only [hl3_3]); (with_reducible repeat (first | apply Kd.R_alloc | apply Kd.R_drewN | apply Kd.R_drew)); exact HO_3.out⟩, ⟨pB⟩⟩
                  ·rw [if_neg c33] at H
                   have c33b0 : decide (x8_3 ≤ 256) = false := decide_eq_false c33
                   clear c33
                   (first | rw [c33b0] | (simp only [i64_w, i32_w]; rw [c33b0]) | skip)
                   have H' := Aside0.mk H
                   clear H
                   go_wp2
                   go_meet
                   case rel => exact ⟨_, (false), (by first | rfl | (simp; done) | (simp [*]; done)), H', ⟨by have := HK1.out; have := HK2.out; have := HK3.out; first | omega | exact Nat.le_refl _⟩, ⟨by (try simp only [hl3_1]); (try simp only [hl3_2]); (try simp only [hl3_3]); (with_reducible repeat (first | apply Kd.R_alloc | apply Kd.R_drewN | apply Kd.R_drew)); exact HO_3.out⟩, ⟨pB⟩⟩
                 case rest =>
                  clear HC32
                  try clear c1
                  try clear c2
                  try clear p2
                  try clear q2
                  try clear hx2
                  try clear hf2
                  try clear c3
                  try clear c3b0
                  try clear c3b1
                  try clear c4
                  try clear c4b0
                  try clear c4b1
                  try clear p4
                  try clear q4
                  try clear hx4
                  try clear c5
                  try clear c5b0
                  try clear c5b1
                  try clear c6
                  try clear c6b0
                  try clear c6b1
                  try clear p6
                  try clear p7
                  try clear q7
                  try clear hx7
                  try clear hf7
                  try clear c12
                  try clear c12b0
                  try clear c13
                  try clear c13b0
                  try clear c14
                  try clear c14b0
                  try clear c17
                  try clear c17b0
                  try clear c19
                  try clear c20
                  try clear c20b0
                  try clear c21
                  try clear c21b0
                  try clear c23
                  try clear c23b0
                  try clear c24
                  try clear c24b0
                  try clear p25
                  try clear q25
                  try clear hx25
                  try clear hf25
                  try clear c28
                  try clear c28b0
                  try clear c28b1
                  try clear c29
                  try clear c29b0
                  try clear c29b1
                  try clear c33
                  try clear c33b0
                  try clear hx25_0
                  try clear hx430_0
                  try clear hx433_0
                  try clear hx434_0
                  try clear hx7_0
                  try clear p2
                  try clear p25
                  try clear p4
                  try clear p430
                  try clear p433
                  try clear p434
                  try clear p6
                  try clear p7
                  try clear q2
                  try clear q25
                  try clear q4
                  try clear q430
                  try clear q433
                  try clear q434
                  try clear q7
                  obtain ⟨kq, x63_31, rfl, HA, HJ31, HO_3, HB⟩ := hcut
                  cases kq with
                  | zero => exact absurd HA.out (by simp [capnpref23_Ways.j3])
                  | succ kj31 =>
                   have H := HA.out
                   clear HA
                   simp only [capnpref23_Ways.j3] at H
                   by_cases c34 : x63_31 = true
                   ·subst c34
                    have H1 : (if 0 ≤ x4_1 then (if x4_1 < (x3_3.length : Int) then (if 0 ≤ (wrap64 (x4_1 + x8_3)) then (if (wrap64 (x4_1 + x8_3)) < (x3_3.length : Int) then ((some (x3_3.set (x4_1 : Int).toNat (IntKind.u64.wrap ((rd x3_3 x4_1) + (rd x3_3 (wrap64 (x4_1 + x8_3))))) : List Int)).bind fun y440 => (if x8_3 ≤ t437 then (capnpref23_Ways.l2 kj31 l0 (y440.set (x4_1 : Int).toNat (IntKind.u64.wrap ((rd y440 x4_1) + (rd y440 (wrap64 (x4_1 + x8_3)))))) x4_1 t437 (wrap64 (x8_3 + 1))) else (capnpref23_Ways.l2 kj31 l0 y440 x4_1 t437 (wrap64 (x8_3 + 1))))) else (none)) else (none)) else (none)) else (none)) = some r := by rw [if_pos rfl] at H; exact H
                    clear H
                    have H := H1
                    clear H1
                    by_cases c35 : 0 ≤ x4_1
                    ·rw [if_pos c35] at H
                     have c35b0 : decide (0 ≤ x4_1) = true := decide_eq_true c35
                     clear c35
                     by_cases c36 : x4_1 < (x3_3.length : Int)
                     ·rw [if_pos c36] at H
                      have c36b0 : decide (x4_1 < (x3_3.length : Int)) = true := decide_eq_true c36
                      clear c36
                      obtain ⟨ji37, hji37⟩ : ∃ j_ : Int, (wrap64 (x4_1 + x8_3)) = j_ := ⟨_, rfl⟩
                      replace H : (if 0 ≤ (ji37) then (if (ji37) < (x3_3.length : Int) then ((some (x3_3.set (x4_1 : Int).toNat (IntKind.u64.wrap ((rd x3_3 x4_1) + (rd x3_3 (ji37)))) : List Int)).bind fun y440 => (if x8_3 ≤ t437 then (capnpref23_Ways.l2 kj31 l0 (y440.set (x4_1 : Int).toNat (IntKind.u64.wrap ((rd y440 x4_1) + (rd y440 (ji37))))) x4_1 t437 (wrap64 (x8_3 + 1))) else (capnpref23_Ways.l2 kj31 l0 y440 x4_1 t437 (wrap64 (x8_3 + 1))))) else (none)) else (none)) = some r := by first | (rw [hji37] at H; exact H) | (simp only [hji37] at H ⊢; exact H)
                      have hji37w : (IntKind.i64.wrap (x4_1 + x8_3)) = ji37 := (i64_w _).trans hji37
                      by_cases c38 : 0 ≤ (ji37)
                      ·rw [if_pos c38] at H
                       have c38b0 : decide (0 ≤ (ji37)) = true := decide_eq_true c38
                       clear c38
                       by_cases c39 : (ji37) < (x3_3.length : Int)
                       ·rw [if_pos c39] at H
                        have c39b0 : decide ((ji37) < (x3_3.length : Int)) = true := decide_eq_true c39
                        clear c39
                        obtain ⟨y440, hy440⟩ : ∃ y_ : List Int, y_ = (x3_3.set (x4_1 : Int).toNat (IntKind.u64.wrap ((rd x3_3 x4_1) + (rd x3_3 (ji37))))) := ⟨_, rfl⟩
                        replace H : (if x8_3 ≤ t437 then (capnpref23_Ways.l2 kj31 l0 (y440.set (x4_1 : Int).toNat (IntKind.u64.wrap ((rd y440 x4_1) + (rd y440 (ji37))))) x4_1 t437 (wrap64 (x8_3 + 1))) else (capnpref23_Ways.l2 kj31 l0 y440 x4_1 t437 (wrap64 (x8_3 + 1)))) = some r := by first | (rw [hy440]; with_reducible exact H) | (have H2_ := (Option.bind_some _ _).symm.trans H; rw [hy440]; with_reducible exact H2_) | (have H2_ := (Option.bind_some _ _).symm.trans H; with_reducible exact H2_) | with_reducible exact H | (rw [hy440]; exact H) | exact H
                        have Ny440 := Aside0.mk hy440
                        clear hy440
                        by_cases c41 : x8_3 ≤ t437
                        ·rw [if_pos c41] at H
                         have c41b0 : decide (x8_3 ≤ t437) = true := decide_eq_true c41
                         clear c41
                         obtain ⟨y443, hy443⟩ : ∃ y_ : List Int, y_ = (y440.set (x4_1 : Int).toNat (IntKind.u64.wrap ((rd y440 x4_1) + (rd y440 (ji37))))) := ⟨_, rfl⟩
                         replace H : (capnpref23_Ways.l2 kj31 l0 y443 x4_1 t437 (wrap64 (x8_3 + 1))) = some r := by first | (rw [hy443]; with_reducible exact H) | (have H2_ := (Option.bind_some _ _).symm.trans H; rw [hy443]; with_reducible exact H2_) | (have H2_ := (Option.bind_some _ _).symm.trans H; with_reducible exact H2_) | with_reducible exact H | (rw [hy443]; exact H) | exact H
                         have Ny443 := Aside0.mk hy443
                         clear hy443
                         have H' := Aside0.mk H
                         clear H
                         try go_wp2
                         have n0_ := Aside0.mk (Kd.R_drew HO_3.out)
                         have n1_ := Aside0.mk (below_drew1 HB.out)
                         clear HO_3
                         clear HB
                         have HO_3 := n0_
                         have HB := n1_
                         clear n0_ n1_
                         have p438 : 0 ≤ (x4_1 : Int) := of_decide_eq_true pA
                         have q438 : x4_1 < (x3_3.length : Int) := of_decide_eq_true pA
                         obtain ⟨ad438, e438, hx438_0⟩ := Kd.at_int (Kd.R_reads' HO_3.out).2.2 x4_1 p438 q438
                         obtain rfl : (⟨go7, 0, none⟩ : Addr) = ad438 := (by injection e438)
                         (first | simp only [add_plain] at hx438_0 | simp only [add_at] at hx438_0 | simp only [Addr.add, Nat.zero_add] at hx438_0 | skip)
                         replace p438 := eq_true p438
                         replace q438 := eq_true q438
                         have p439 : 0 ≤ ((ji37) : Int) := of_decide_eq_true pA
                         have q439 : (ji37) < (x3_3.length : Int) := of_decide_eq_true pA
                         obtain ⟨ad439, e439, hx439_0⟩ := Kd.at_int (Kd.R_reads' HO_3.out).2.2 (ji37) p439 q439
                         obtain rfl : (⟨go7, 0, none⟩ : Addr) = ad439 := (by injection e439)
                         (first | simp only [add_plain] at hx439_0 | simp only [add_at] at hx439_0 | simp only [Addr.add, Nat.zero_add] at hx439_0 | skip)
                         replace p439 := eq_true p439
                         replace q439 := eq_true q439
                         have p40 : 0 ≤ (x4_1 : Int) := of_decide_eq_true pA
                         have q40 : (x4_1 : Int) < ((x3_3.length : Int) : Int) := of_decide_eq_true pA
                         obtain ⟨hx40_0, hf40_0⟩ := Kd.R_celln 0 HO_3.out (x4_1 : Int) p40 q40
                         replace p40 := eq_true p40
                         replace q40 := eq_true q40
                         have HP44 := Kd.R_putn HO_3.out (x4_1 : Int) (IntKind.u64.wrap ((rd x3_3 x4_1) + (rd x3_3 (ji37))))
                         rw [← Ny440.out] at HP44
                         have HQ44 := Aside0.mk HP44
                         clear HP44
                         refine start_ (n := 15) (S := fun w' => w'.cell? ⟨go7, (x4_1).toNat, none⟩ = some (.int .u64 (rd x3_3 x4_1)) ∧ w'.cell? ⟨go7, ((ji37)).toNat, none⟩ = some (.int .u64 (rd x3_3 (ji37)))) (ds := [14]) #[false, false, false, false, false, false, false, false, false, false, false, false, false, false, false] (by kernel_rfl) rfl rfl ⟨hx438_0, hx439_0⟩ (fun hHeld => ?_); refine with_tabW capnpref23_Ways.tab16 capnpref23_Ways.bits16 (fun HT_ HW_ => ?_)
                         generalize wc.drew = w43 at HO_3 HB HQ44 hf40_0 hx40_0 hx438_0 hx439_0 hHeld ⊢
                         refine pure_ (i := 0) (N := some 66) (v := ?_) (a' := ?_) #[true, false, false, false, false, false, false, false, false, false, false, false, false, false, false] rfl rfl (any_of HT_.out (by kernel_rfl)) (fun _ _ _ h => h) (Or.inl ⟨by rfl, ?_⟩) ?_ ?_
                         rotate_left
                         ·intro w'
                          go_simp
                          with_reducible rfl
                         rotate_left
                         ·simp only [Act.put, List.setIfInBounds_toArray, List.set_cons_zero, List.set_cons_succ, i64_w, i32_w]
                          rfl
                         refine pure_ (i := 1) (N := some 67) (v := ?_) (a' := ?_) #[true, true, false, false, false, false, false, false, false, false, false, false, false, false, false] rfl rfl (any_of HT_.out (by kernel_rfl)) (fun _ _ _ h => h) (Or.inl ⟨by rfl, ?_⟩) ?_ ?_
                         rotate_left
                         ·intro w'
                          go_simp
                          with_reducible rfl
                         rotate_left
                         ·simp only [Act.put, List.setIfInBounds_toArray, List.set_cons_zero, List.set_cons_succ, i64_w, i32_w]
                          rfl
                         refine pure_ (i := 2) (N := some 68) (v := ?_) (a' := ?_) #[true, true, true, false, false, false, false, false, false, false, false, false, false, false, false] rfl rfl (any_of HT_.out (by kernel_rfl)) (fun _ _ _ h => h) (Or.inl ⟨by rfl, ?_⟩) ?_ ?_
                         rotate_left
                         ·intro w'
                          go_simp
                          with_reducible rfl
                         rotate_left
                         ·simp only [Act.put, List.setIfInBounds_toArray, List.set_cons_zero, List.set_cons_succ, i64_w, i32_w]
                          rfl
                         refine pure_ (i := 3) (N := some 69) (v := ?_) (a' := ?_) #[true, true, true, true, false, false, false, false, false, false, false, false, false, false, false] rfl rfl (any_of HT_.out (by kernel_rfl)) (fun _ _ _ h => h) (Or.inl ⟨by rfl, ?_⟩) ?_ ?_
                         rotate_left
                         ·intro w'
                          go_simp
                          with_reducible rfl
                         rotate_left
                         ·simp only [Act.put, List.setIfInBounds_toArray, List.set_cons_zero, List.set_cons_succ, i64_w, i32_w]
                          rfl
                         refine pure_ (i := 4) (N := some 70) (v := ?_) (a' := ?_) #[true, true, true, true, true, false, false, false, false, false, false, false, false, false, false] rfl rfl (any_of HT_.out (by kernel_rfl)) (fun _ _ _ h => h) (Or.inl ⟨by rfl, ?_⟩) ?_ ?_
                         rotate_left
                         ·intro w'
                          go_simp
                          with_reducible rfl
                         rotate_left
                         ·simp only [Act.put, List.setIfInBounds_toArray, List.set_cons_zero, List.set_cons_succ, i64_w, i32_w]
                          rfl
                         refine pure_ (i := 6) (N := some 72) (v := ?_) (a' := ?_) #[true, true, true, true, true, false, true, false, false, false, false, false, false, false, false] rfl rfl (any_of HT_.out (by kernel_rfl)) (fun _ _ _ h => h) (Or.inl ⟨by rfl, ?_⟩) ?_ ?_
                         rotate_left
                         ·intro w'
                          go_simp
                          with_reducible rfl
                         rotate_left
                         ·simp only [Act.put, List.setIfInBounds_toArray, List.set_cons_zero, List.set_cons_succ, i64_w, i32_w]
                          rfl
                         refine pure_ (i := 7) (N := some 73) (v := ?_) (a' := ?_) #[true, true, true, true, true, false, true, true, false, false, false, false, false, false, false] rfl rfl (any_of HT_.out (by kernel_rfl)) (fun _ _ _ h => h) (Or.inl ⟨by rfl, ?_⟩) ?_ ?_
                         rotate_left
                         ·intro w'
                          go_simp
                          with_reducible rfl
                         rotate_left
                         ·simp only [Act.put, List.setIfInBounds_toArray, List.set_cons_zero, List.set_cons_succ, i64_w, i32_w]
                          rfl
                         refine pure_ (i := 8) (N := some 74) (v := ?_) (a' := ?_) #[true, true, true, true, true, false, true, true, true, false, false, false, false, false, false] rfl rfl (any_of HT_.out (by kernel_rfl)) (fun _ _ _ h => h) (Or.inl ⟨by rfl, ?_⟩) ?_ ?_
                         rotate_left
                         ·intro w'
                          go_simp
                          with_reducible rfl
                         rotate_left
                         ·simp only [Act.put, List.setIfInBounds_toArray, List.set_cons_zero, List.set_cons_succ, i64_w, i32_w]
                          rfl
                         refine pure_ (i := 9) (N := some 75) (v := ?_) (a' := ?_) #[true, true, true, true, true, false, true, true, true, true, false, false, false, false, false] rfl rfl (any_of HT_.out (by kernel_rfl)) (fun _ _ _ h => h) (Or.inl ⟨by rfl, ?_⟩) ?_ ?_
                         rotate_left
                         ·intro w'
                          go_simp
                          with_reducible rfl
                         rotate_left
                         ·simp only [Act.put, List.setIfInBounds_toArray, List.set_cons_zero, List.set_cons_succ, i64_w, i32_w]
                          rfl
                         refine pure_ (i := 10) (N := some 76) (v := ?_) (a' := ?_) #[true, true, true, true, true, false, true, true, true, true, true, false, false, false, false] rfl rfl (any_of HT_.out (by kernel_rfl)) (fun _ _ _ h => h) (Or.inl ⟨by rfl, ?_⟩) ?_ ?_
                         rotate_left
                         ·intro w'
                          go_simp
                          with_reducible rfl
                         rotate_left
                         ·simp only [Act.put, List.setIfInBounds_toArray, List.set_cons_zero, List.set_cons_succ, i64_w, i32_w]
                          rfl
                         refine take_ (i := 5) (N := some 71) (v := ?_) (a' := ?_) #[true, true, true, true, true, true, true, true, true, true, true, false, false, false, false] rfl rfl (take_ofW HT_.out HW_.out (by kernel_rfl)) (fun _ _ _ h => h) (Or.inl ⟨by rfl, ?_⟩) hHeld ?_ ?_
                         rotate_left
                         ·rintro w' ⟨s0, s1⟩
                          go_simp
                          with_reducible rfl
                         rotate_left
                         ·simp only [Act.put, List.setIfInBounds_toArray, List.set_cons_zero, List.set_cons_succ, i64_w, i32_w]
                          rfl
                         refine take_ (i := 11) (N := some 77) (v := ?_) (a' := ?_) #[true, true, true, true, true, true, true, true, true, true, true, true, false, false, false] rfl rfl (take_ofW HT_.out HW_.out (by kernel_rfl)) (fun _ _ _ h => h) (Or.inl ⟨by rfl, ?_⟩) hHeld ?_ ?_
                         rotate_left
                         ·rintro w' ⟨s0, s1⟩
                          go_simp
                          with_reducible rfl
                         rotate_left
                         ·simp only [Act.put, List.setIfInBounds_toArray, List.set_cons_zero, List.set_cons_succ, i64_w, i32_w]
                          rfl
                         refine pure_ (i := 12) (N := some 78) (v := ?_) (a' := ?_) #[true, true, true, true, true, true, true, true, true, true, true, true, true, false, false] rfl rfl (any_of HT_.out (by kernel_rfl)) (fun _ _ _ h => h) (Or.inl ⟨by rfl, ?_⟩) ?_ ?_
                         rotate_left
                         ·intro w'
                          go_simp
                          with_reducible rfl
                         rotate_left
                         ·simp only [Act.put, List.setIfInBounds_toArray, List.set_cons_zero, List.set_cons_succ, i64_w, i32_w]
                          rfl
                         refine pure_ (i := 13) (N := some 79) (v := ?_) (a' := ?_) #[true, true, true, true, true, true, true, true, true, true, true, true, true, true, false] rfl rfl (any_of HT_.out (by kernel_rfl)) (fun _ _ _ h => h) (Or.inl ⟨by rfl, ?_⟩) ?_ ?_
                         rotate_left
                         ·intro w'
                          go_simp
                          with_reducible rfl
                         rotate_left
                         ·simp only [Act.put, List.setIfInBounds_toArray, List.set_cons_zero, List.set_cons_succ, i64_w, i32_w]
                          rfl
                         refine last_ (i := 14) (N := none) #[true, true, true, true, true, true, true, true, true, true, true, true, true, true, true] rfl rfl (one_of HT_.out (by kernel_rfl)) (by decide) (fun K hK => ?_)
                         refine skip_ (w1 := ?_) (by rfl) rfl ?_ ?_
                         rotate_left
                         ·go_simp
                          rfl
                         refine hK.out _ _ ?_
                         clear hK K
                         refine done_ (done_of HT_.out (by kernel_rfl)) ?_
                         try go_wp2
                         have n0_ : Aside0 (Kd.R (Kd.int .u64) 37 (w43.setCell ⟨go7, (x4_1 : Int).toNat, none⟩ (.int .u64 (IntKind.u64.wrap ((rd x3_3 x4_1) + (rd x3_3 (ji37)))))) w.heap.size (fun _ => True) (.slice (some ⟨go7, 0, none⟩) x3_3.length co7) y440) := ⟨by (with_reducible repeat (first | apply Kd.R_alloc | apply Kd.R_drewN | apply Kd.R_drew)); exact HQ44.out⟩
                         have n1_ : Aside0 (Below w.heap.size w (w43.setCell ⟨go7, (x4_1 : Int).toNat, none⟩ (.int .u64 (IntKind.u64.wrap ((rd x3_3 x4_1) + (rd x3_3 (ji37))))))) := ⟨by repeat (first | (with_reducible first | exact HB.out | apply below_alloc | apply pw_below_drewN | apply below_drew1 | refine below_set ?_ GB7.out) | exact HB.out)⟩
                         (try clear HO_3)
                         (try clear HB)
                         generalize (w43.setCell ⟨go7, (x4_1 : Int).toNat, none⟩ (.int .u64 (IntKind.u64.wrap ((rd x3_3 x4_1) + (rd x3_3 (ji37)))))) = w45 at n0_ n1_ ⊢
                         have HO_3 := n0_
                         have HB := n1_
                         clear n0_ n1_
                         have n0_ := Aside0.mk (Kd.R_drew HO_3.out)
                         have n1_ := Aside0.mk (below_drew1 HB.out)
                         clear HO_3
                         clear HB
                         have HO_3 := n0_
                         have HB := n1_
                         clear n0_ n1_
                         have p441 : 0 ≤ (x4_1 : Int) := of_decide_eq_true pA
                         have q441 : x4_1 < (y440.length : Int) := (by have h_ : (x4_1 : Int) < ((x3_3.length : Int) : Int) := of_decide_eq_true pA; first | (have e_ := (Kd.R_reads' HO_3.out).1; omega) | simpa only [Ny440.out, List.length_set] using h_)
                         have ql441 : ((x4_1 : Int) < ((x3_3.length : Int) : Int)) = True := eq_true (of_decide_eq_true pA)
                         obtain ⟨ad441, e441, hx441_0⟩ := Kd.at_int (Kd.R_reads' HO_3.out).2.2 x4_1 p441 q441
                         obtain rfl : (⟨go7, 0, none⟩ : Addr) = ad441 := (by injection e441)
                         (first | simp only [add_plain] at hx441_0 | simp only [add_at] at hx441_0 | simp only [Addr.add, Nat.zero_add] at hx441_0 | skip)
                         replace p441 := eq_true p441
                         replace q441 := eq_true q441
                         have p442 : 0 ≤ ((ji37) : Int) := of_decide_eq_true pA
                         have q442 : (ji37) < (y440.length : Int) := (by have h_ : ((ji37) : Int) < ((x3_3.length : Int) : Int) := of_decide_eq_true pA; first | (have e_ := (Kd.R_reads' HO_3.out).1; omega) | simpa only [Ny440.out, List.length_set] using h_)
                         have ql442 : (((ji37) : Int) < ((x3_3.length : Int) : Int)) = True := eq_true (of_decide_eq_true pA)
                         obtain ⟨ad442, e442, hx442_0⟩ := Kd.at_int (Kd.R_reads' HO_3.out).2.2 (ji37) p442 q442
                         obtain rfl : (⟨go7, 0, none⟩ : Addr) = ad442 := (by injection e442)
                         (first | simp only [add_plain] at hx442_0 | simp only [add_at] at hx442_0 | simp only [Addr.add, Nat.zero_add] at hx442_0 | skip)
                         replace p442 := eq_true p442
                         replace q442 := eq_true q442
                         have p42 : 0 ≤ (x4_1 : Int) := of_decide_eq_true pA
                         have q42 : (x4_1 : Int) < ((x3_3.length : Int) : Int) := of_decide_eq_true pA
                         obtain ⟨hx42_0, hf42_0⟩ := Kd.R_celln 0 HO_3.out (x4_1 : Int) p42 q42
                         replace p42 := eq_true p42
                         replace q42 := eq_true q42
                         have HP47 := Kd.R_putn HO_3.out (x4_1 : Int) (IntKind.u64.wrap ((rd y440 x4_1) + (rd y440 (ji37))))
                         rw [← Ny443.out] at HP47
                         have HQ47 := Aside0.mk HP47
                         clear HP47
                         refine start_ (n := 15) (S := fun w' => w'.cell? ⟨go7, (x4_1).toNat, none⟩ = some (.int .u64 (rd y440 x4_1)) ∧ w'.cell? ⟨go7, ((ji37)).toNat, none⟩ = some (.int .u64 (rd y440 (ji37)))) (ds := [14]) #[false, false, false, false, false, false, false, false, false, false, false, false, false, false, false] (by kernel_rfl) rfl rfl ⟨hx441_0, hx442_0⟩ (fun hHeld => ?_); refine with_tabW capnpref23_Ways.tab18 capnpref23_Ways.bits18 (fun HT_ HW_ => ?_)
                         generalize w45.drew = w46 at HO_3 HB HQ44 HQ47 hf42_0 hx42_0 hx441_0 hx442_0 hHeld ⊢
                         refine pure_ (i := 0) (N := some 83) (v := ?_) (a' := ?_) #[true, false, false, false, false, false, false, false, false, false, false, false, false, false, false] rfl rfl (any_of HT_.out (by kernel_rfl)) (fun _ _ _ h => h) (Or.inl ⟨by rfl, ?_⟩) ?_ ?_
                         rotate_left
                         ·intro w'
                          go_simp
                          with_reducible rfl
                         rotate_left
                         ·simp only [Act.put, List.setIfInBounds_toArray, List.set_cons_zero, List.set_cons_succ, i64_w, i32_w]
                          rfl
                         refine pure_ (i := 1) (N := some 84) (v := ?_) (a' := ?_) #[true, true, false, false, false, false, false, false, false, false, false, false, false, false, false] rfl rfl (any_of HT_.out (by kernel_rfl)) (fun _ _ _ h => h) (Or.inl ⟨by rfl, ?_⟩) ?_ ?_
                         rotate_left
                         ·intro w'
                          go_simp
                          with_reducible rfl
                         rotate_left
                         ·simp only [Act.put, List.setIfInBounds_toArray, List.set_cons_zero, List.set_cons_succ, i64_w, i32_w]
                          rfl
                         refine pure_ (i := 2) (N := some 85) (v := ?_) (a' := ?_) #[true, true, true, false, false, false, false, false, false, false, false, false, false, false, false] rfl rfl (any_of HT_.out (by kernel_rfl)) (fun _ _ _ h => h) (Or.inl ⟨by rfl, ?_⟩) ?_ ?_
                         rotate_left
                         ·intro w'
                          go_simp
                          with_reducible rfl
                         rotate_left
                         ·simp only [Act.put, List.setIfInBounds_toArray, List.set_cons_zero, List.set_cons_succ, i64_w, i32_w]
                          rfl
                         refine pure_ (i := 3) (N := some 86) (v := ?_) (a' := ?_) #[true, true, true, true, false, false, false, false, false, false, false, false, false, false, false] rfl rfl (any_of HT_.out (by kernel_rfl)) (fun _ _ _ h => h) (Or.inl ⟨by rfl, ?_⟩) ?_ ?_
                         rotate_left
                         ·intro w'
                          go_simp
                          with_reducible rfl
                         rotate_left
                         ·simp only [Act.put, List.setIfInBounds_toArray, List.set_cons_zero, List.set_cons_succ, i64_w, i32_w]
                          rfl
                         refine pure_ (i := 4) (N := some 87) (v := ?_) (a' := ?_) #[true, true, true, true, true, false, false, false, false, false, false, false, false, false, false] rfl rfl (any_of HT_.out (by kernel_rfl)) (fun _ _ _ h => h) (Or.inl ⟨by rfl, ?_⟩) ?_ ?_
                         rotate_left
                         ·intro w'
                          go_simp
                          with_reducible rfl
                         rotate_left
                         ·simp only [Act.put, List.setIfInBounds_toArray, List.set_cons_zero, List.set_cons_succ, i64_w, i32_w]
                          rfl
                         refine pure_ (i := 6) (N := some 89) (v := ?_) (a' := ?_) #[true, true, true, true, true, false, true, false, false, false, false, false, false, false, false] rfl rfl (any_of HT_.out (by kernel_rfl)) (fun _ _ _ h => h) (Or.inl ⟨by rfl, ?_⟩) ?_ ?_
                         rotate_left
                         ·intro w'
                          go_simp
                          with_reducible rfl
                         rotate_left
                         ·simp only [Act.put, List.setIfInBounds_toArray, List.set_cons_zero, List.set_cons_succ, i64_w, i32_w]
                          rfl
                         refine pure_ (i := 7) (N := some 90) (v := ?_) (a' := ?_) #[true, true, true, true, true, false, true, true, false, false, false, false, false, false, false] rfl rfl (any_of HT_.out (by kernel_rfl)) (fun _ _ _ h => h) (Or.inl ⟨by rfl, ?_⟩) ?_ ?_
                         rotate_left
                         ·intro w'
                          go_simp
                          with_reducible rfl
                         rotate_left
                         ·simp only [Act.put, List.setIfInBounds_toArray, List.set_cons_zero, List.set_cons_succ, i64_w, i32_w]
                          rfl
                         refine pure_ (i := 8) (N := some 91) (v := ?_) (a' := ?_) #[true, true, true, true, true, false, true, true, true, false, false, false, false, false, false] rfl rfl (any_of HT_.out (by kernel_rfl)) (fun _ _ _ h => h) (Or.inl ⟨by rfl, ?_⟩) ?_ ?_
                         rotate_left
                         ·intro w'
                          go_simp
                          with_reducible rfl
                         rotate_left
                         ·simp only [Act.put, List.setIfInBounds_toArray, List.set_cons_zero, List.set_cons_succ, i64_w, i32_w]
                          rfl
                         refine pure_ (i := 9) (N := some 92) (v := ?_) (a' := ?_) #[true, true, true, true, true, false, true, true, true, true, false, false, false, false, false] rfl rfl (any_of HT_.out (by kernel_rfl)) (fun _ _ _ h => h) (Or.inl ⟨by rfl, ?_⟩) ?_ ?_
                         rotate_left
                         ·intro w'
                          go_simp
                          with_reducible rfl
                         rotate_left
                         ·simp only [Act.put, List.setIfInBounds_toArray, List.set_cons_zero, List.set_cons_succ, i64_w, i32_w]
                          rfl
                         refine pure_ (i := 10) (N := some 93) (v := ?_) (a' := ?_) #[true, true, true, true, true, false, true, true, true, true, true, false, false, false, false] rfl rfl (any_of HT_.out (by kernel_rfl)) (fun _ _ _ h => h) (Or.inl ⟨by rfl, ?_⟩) ?_ ?_
                         rotate_left
                         ·intro w'
                          go_simp
                          with_reducible rfl
                         rotate_left
                         ·simp only [Act.put, List.setIfInBounds_toArray, List.set_cons_zero, List.set_cons_succ, i64_w, i32_w]
                          rfl
                         refine take_ (i := 5) (N := some 88) (v := ?_) (a' := ?_) #[true, true, true, true, true, true, true, true, true, true, true, false, false, false, false] rfl rfl (take_ofW HT_.out HW_.out (by kernel_rfl)) (fun _ _ _ h => h) (Or.inl ⟨by rfl, ?_⟩) hHeld ?_ ?_
                         rotate_left
                         ·rintro w' ⟨s0, s1⟩
                          go_simp
                          with_reducible rfl
                         rotate_left
                         ·simp only [Act.put, List.setIfInBounds_toArray, List.set_cons_zero, List.set_cons_succ, i64_w, i32_w]
                          rfl
                         refine take_ (i := 11) (N := some 94) (v := ?_) (a' := ?_) #[true, true, true, true, true, true, true, true, true, true, true, true, false, false, false] rfl rfl (take_ofW HT_.out HW_.out (by kernel_rfl)) (fun _ _ _ h => h) (Or.inl ⟨by rfl, ?_⟩) hHeld ?_ ?_
                         rotate_left
                         ·rintro w' ⟨s0, s1⟩
                          go_simp
                          with_reducible rfl
                         rotate_left
                         ·simp only [Act.put, List.setIfInBounds_toArray, List.set_cons_zero, List.set_cons_succ, i64_w, i32_w]
                          rfl
                         refine pure_ (i := 12) (N := some 95) (v := ?_) (a' := ?_) #[true, true, true, true, true, true, true, true, true, true, true, true, true, false, false] rfl rfl (any_of HT_.out (by kernel_rfl)) (fun _ _ _ h => h) (Or.inl ⟨by rfl, ?_⟩) ?_ ?_
                         rotate_left
                         ·intro w'
                          go_simp
                          with_reducible rfl
                         rotate_left
                         ·simp only [Act.put, List.setIfInBounds_toArray, List.set_cons_zero, List.set_cons_succ, i64_w, i32_w]
                          rfl
                         refine pure_ (i := 13) (N := some 96) (v := ?_) (a' := ?_) #[true, true, true, true, true, true, true, true, true, true, true, true, true, true, false] rfl rfl (any_of HT_.out (by kernel_rfl)) (fun _ _ _ h => h) (Or.inl ⟨by rfl, ?_⟩) ?_ ?_
                         rotate_left
                         ·intro w'
                          go_simp
                          with_reducible rfl
                         rotate_left
                         ·simp only [Act.put, List.setIfInBounds_toArray, List.set_cons_zero, List.set_cons_succ, i64_w, i32_w]
                          rfl
                         refine last_ (i := 14) (N := none) #[true, true, true, true, true, true, true, true, true, true, true, true, true, true, true] rfl rfl (one_of HT_.out (by kernel_rfl)) (by decide) (fun K hK => ?_)
                         refine skip_ (w1 := ?_) (by rfl) rfl ?_ ?_
                         rotate_left
                         ·go_simp
                          rfl
                         refine hK.out _ _ ?_
                         clear hK K
                         refine done_ (done_of HT_.out (by kernel_rfl)) ?_
                         try go_wp2
                         (try simp only [← hl3_3])
                         go_roundg kj31
                         case measure => have := HK1.out; have := HK2.out; have := HK3.out; have := HJ31.out; omega
                         case rel => exact ⟨(y443), (wrap64 (x8_3 + 1)), (by first | rfl | (simp; done) | (simp [*]; done)), H', ⟨by have := HK1.out; have := HK2.out; have := HK3.out; have := HJ31.out; omega⟩, ⟨by (try simp only [hl3_1]); (try simp only [hl3_2]); (try simp only [hl3_3]); (with_reducible repeat (first | apply Kd.R_alloc | apply Kd.R_drewN | apply Kd.R_drew)); exact HQ47.out⟩, ⟨by repeat (first | (with_reducible first | exact HB.out | apply below_alloc | apply pw_below_drewN | apply below_drew1 | refine below_set ?_ GB7.out) | exact HB.out)⟩⟩
                        ·rw [if_neg c41] at H
                         have c41b0 : decide (x8_3 ≤ t437) = false := decide_eq_false c41
                         clear c41
                         have H' := Aside0.mk H
                         clear H
                         try go_wp2
                         have n0_ := Aside0.mk (Kd.R_drew HO_3.out)
                         have n1_ := Aside0.mk (below_drew1 HB.out)
                         clear HO_3
                         clear HB
                         have HO_3 := n0_
                         have HB := n1_
                         clear n0_ n1_
                         have p438 : 0 ≤ (x4_1 : Int) := of_decide_eq_true pA
                         have q438 : x4_1 < (x3_3.length : Int) := of_decide_eq_true pA
                         obtain ⟨ad438, e438, hx438_0⟩ := Kd.at_int (Kd.R_reads' HO_3.out).2.2 x4_1 p438 q438
                         obtain rfl : (⟨go7, 0, none⟩ : Addr) = ad438 := (by injection e438)
                         (first | simp only [add_plain] at hx438_0 | simp only [add_at] at hx438_0 | simp only [Addr.add, Nat.zero_add] at hx438_0 | skip)
                         replace p438 := eq_true p438
                         replace q438 := eq_true q438
                         have p439 : 0 ≤ ((ji37) : Int) := of_decide_eq_true pA
                         have q439 : (ji37) < (x3_3.length : Int) := of_decide_eq_true pA
                         obtain ⟨ad439, e439, hx439_0⟩ := Kd.at_int (Kd.R_reads' HO_3.out).2.2 (ji37) p439 q439
                         obtain rfl : (⟨go7, 0, none⟩ : Addr) = ad439 := (by injection e439)
                         (first | simp only [add_plain] at hx439_0 | simp only [add_at] at hx439_0 | simp only [Addr.add, Nat.zero_add] at hx439_0 | skip)
                         replace p439 := eq_true p439
                         replace q439 := eq_true q439
                         have p40 : 0 ≤ (x4_1 : Int) := of_decide_eq_true pA
                         have q40 : (x4_1 : Int) < ((x3_3.length : Int) : Int) := of_decide_eq_true pA
                         obtain ⟨hx40_0, hf40_0⟩ := Kd.R_celln 0 HO_3.out (x4_1 : Int) p40 q40
                         replace p40 := eq_true p40
                         replace q40 := eq_true q40
                         have HP49 := Kd.R_putn HO_3.out (x4_1 : Int) (IntKind.u64.wrap ((rd x3_3 x4_1) + (rd x3_3 (ji37))))
                         rw [← Ny440.out] at HP49
                         have HQ49 := Aside0.mk HP49
                         clear HP49
                         refine start_ (n := 15) (S := fun w' => w'.cell? ⟨go7, (x4_1).toNat, none⟩ = some (.int .u64 (rd x3_3 x4_1)) ∧ w'.cell? ⟨go7, ((ji37)).toNat, none⟩ = some (.int .u64 (rd x3_3 (ji37)))) (ds := [14]) #[false, false, false, false, false, false, false, false, false, false, false, false, false, false, false] (by kernel_rfl) rfl rfl ⟨hx438_0, hx439_0⟩ (fun hHeld => ?_); refine with_tabW capnpref23_Ways.tab16 capnpref23_Ways.bits16 (fun HT_ HW_ => ?_)
                         generalize wc.drew = w48 at HO_3 HB HQ49 hf40_0 hx40_0 hx438_0 hx439_0 hHeld ⊢
                         refine pure_ (i := 0) (N := some 66) (v := ?_) (a' := ?_) #[true, false, false, false, false, false, false, false, false, false, false, false, false, false, false] rfl rfl (any_of HT_.out (by kernel_rfl)) (fun _ _ _ h => h) (Or.inl ⟨by rfl, ?_⟩) ?_ ?_
                         rotate_left
                         ·intro w'
                          go_simp
                          with_reducible rfl
                         rotate_left
                         ·simp only [Act.put, List.setIfInBounds_toArray, List.set_cons_zero, List.set_cons_succ, i64_w, i32_w]
                          rfl
                         refine pure_ (i := 1) (N := some 67) (v := ?_) (a' := ?_) #[true, true, false, false, false, false, false, false, false, false, false, false, false, false, false] rfl rfl (any_of HT_.out (by kernel_rfl)) (fun _ _ _ h => h) (Or.inl ⟨by rfl, ?_⟩) ?_ ?_
                         rotate_left
                         ·intro w'
                          go_simp
                          with_reducible rfl
                         rotate_left
                         ·simp only [Act.put, List.setIfInBounds_toArray, List.set_cons_zero, List.set_cons_succ, i64_w, i32_w]
                          rfl
                         refine pure_ (i := 2) (N := some 68) (v := ?_) (a' := ?_) #[true, true, true, false, false, false, false, false, false, false, false, false, false, false, false] rfl rfl (any_of HT_.out (by kernel_rfl)) (fun _ _ _ h => h) (Or.inl ⟨by rfl, ?_⟩) ?_ ?_
                         rotate_left
                         ·intro w'
                          go_simp
                          with_reducible rfl
                         rotate_left
                         ·simp only [Act.put, List.setIfInBounds_toArray, List.set_cons_zero, List.set_cons_succ, i64_w, i32_w]
                          rfl
                         refine pure_ (i := 3) (N := some 69) (v := ?_) (a' := ?_) #[true, true, true, true, false, false, false, false, false, false, false, false, false, false, false] rfl rfl (any_of HT_.out (by kernel_rfl)) (fun _ _ _ h => h) (Or.inl ⟨by rfl, ?_⟩) ?_ ?_
                         rotate_left
                         ·intro w'
                          go_simp
                          with_reducible rfl
                         rotate_left
                         ·simp only [Act.put, List.setIfInBounds_toArray, List.set_cons_zero, List.set_cons_succ, i64_w, i32_w]
                          rfl
                         refine pure_ (i := 4) (N := some 70) (v := ?_) (a' := ?_) #[true, true, true, true, true, false, false, false, false, false, false, false, false, false, false] rfl rfl (any_of HT_.out (by kernel_rfl)) (fun _ _ _ h => h) (Or.inl ⟨by rfl, ?_⟩) ?_ ?_
                         rotate_left
                         ·intro w'
                          go_simp
                          with_reducible rfl
                         rotate_left
                         ·simp only [Act.put, List.setIfInBounds_toArray, List.set_cons_zero, List.set_cons_succ, i64_w, i32_w]
                          rfl
                         refine pure_ (i := 6) (N := some 72) (v := ?_) (a' := ?_) #[true, true, true, true, true, false, true, false, false, false, false, false, false, false, false] rfl rfl (any_of HT_.out (by kernel_rfl)) (fun _ _ _ h => h) (Or.inl ⟨by rfl, ?_⟩) ?_ ?_
                         rotate_left
                         ·intro w'
                          go_simp
                          with_reducible rfl
                         rotate_left
                         ·simp only [Act.put, List.setIfInBounds_toArray, List.set_cons_zero, List.set_cons_succ, i64_w, i32_w]
                          rfl
                         refine pure_ (i := 7) (N := some 73) (v := ?_) (a' := ?_) #[true, true, true, true, true, false, true, true, false, false, false, false, false, false, false] rfl rfl (any_of HT_.out (by kernel_rfl)) (fun _ _ _ h => h) (Or.inl ⟨by rfl, ?_⟩) ?_ ?_
                         rotate_left
                         ·intro w'
                          go_simp
                          with_reducible rfl
                         rotate_left
                         ·simp only [Act.put, List.setIfInBounds_toArray, List.set_cons_zero, List.set_cons_succ, i64_w, i32_w]
                          rfl
                         refine pure_ (i := 8) (N := some 74) (v := ?_) (a' := ?_) #[true, true, true, true, true, false, true, true, true, false, false, false, false, false, false] rfl rfl (any_of HT_.out (by kernel_rfl)) (fun _ _ _ h => h) (Or.inl ⟨by rfl, ?_⟩) ?_ ?_
                         rotate_left
                         ·intro w'
                          go_simp
                          with_reducible rfl
                         rotate_left
                         ·simp only [Act.put, List.setIfInBounds_toArray, List.set_cons_zero, List.set_cons_succ, i64_w, i32_w]
                          rfl
                         refine pure_ (i := 9) (N := some 75) (v := ?_) (a' := ?_) #[true, true, true, true, true, false, true, true, true, true, false, false, false, false, false] rfl rfl (any_of HT_.out (by kernel_rfl)) (fun _ _ _ h => h) (Or.inl ⟨by rfl, ?_⟩) ?_ ?_
                         rotate_left
                         ·intro w'
                          go_simp
                          with_reducible rfl
                         rotate_left
                         ·simp only [Act.put, List.setIfInBounds_toArray, List.set_cons_zero, List.set_cons_succ, i64_w, i32_w]
                          rfl
                         refine pure_ (i := 10) (N := some 76) (v := ?_) (a' := ?_) #[true, true, true, true, true, false, true, true, true, true, true, false, false, false, false] rfl rfl (any_of HT_.out (by kernel_rfl)) (fun _ _ _ h => h) (Or.inl ⟨by rfl, ?_⟩) ?_ ?_
                         rotate_left
                         ·intro w'
                          go_simp
                          with_reducible rfl
                         rotate_left
                         ·simp only [Act.put, List.setIfInBounds_toArray, List.set_cons_zero, List.set_cons_succ, i64_w, i32_w]
                          rfl
                         refine take_ (i := 5) (N := some 71) (v := ?_) (a' := ?_) #[true, true, true, true, true, true, true, true, true, true, true, false, false, false, false] rfl rfl (take_ofW HT_.out HW_.out (by kernel_rfl)) (fun _ _ _ h => h) (Or.inl ⟨by rfl, ?_⟩) hHeld ?_ ?_
                         rotate_left
                         ·rintro w' ⟨s0, s1⟩
                          go_simp
                          with_reducible rfl
                         rotate_left
                         ·simp only [Act.put, List.setIfInBounds_toArray, List.set_cons_zero, List.set_cons_succ, i64_w, i32_w]
                          rfl
                         refine take_ (i := 11) (N := some 77) (v := ?_) (a' := ?_) #[true, true, true, true, true, true, true, true, true, true, true, true, false, false, false] rfl rfl (take_ofW HT_.out HW_.out (by kernel_rfl)) (fun _ _ _ h => h) (Or.inl ⟨by rfl, ?_⟩) hHeld ?_ ?_
                         rotate_left
                         ·rintro w' ⟨s0, s1⟩
                          go_simp
                          with_reducible rfl
                         rotate_left
                         ·simp only [Act.put, List.setIfInBounds_toArray, List.set_cons_zero, List.set_cons_succ, i64_w, i32_w]
                          rfl
                         refine pure_ (i := 12) (N := some 78) (v := ?_) (a' := ?_) #[true, true, true, true, true, true, true, true, true, true, true, true, true, false, false] rfl rfl (any_of HT_.out (by kernel_rfl)) (fun _ _ _ h => h) (Or.inl ⟨by rfl, ?_⟩) ?_ ?_
                         rotate_left
                         ·intro w'
                          go_simp
                          with_reducible rfl
                         rotate_left
                         ·simp only [Act.put, List.setIfInBounds_toArray, List.set_cons_zero, List.set_cons_succ, i64_w, i32_w]
                          rfl
                         refine pure_ (i := 13) (N := some 79) (v := ?_) (a' := ?_) #[true, true, true, true, true, true, true, true, true, true, true, true, true, true, false] rfl rfl (any_of HT_.out (by kernel_rfl)) (fun _ _ _ h => h) (Or.inl ⟨by rfl, ?_⟩) ?_ ?_
                         rotate_left
                         ·intro w'
                          go_simp
                          with_reducible rfl
                         rotate_left
                         ·simp only [Act.put, List.setIfInBounds_toArray, List.set_cons_zero, List.set_cons_succ, i64_w, i32_w]
                          rfl
                         refine last_ (i := 14) (N := none) #[true, true, true, true, true, true, true, true, true, true, true, true, true, true, true] rfl rfl (one_of HT_.out (by kernel_rfl)) (by decide) (fun K hK => ?_)
                         refine skip_ (w1 := ?_) (by rfl) rfl ?_ ?_
                         rotate_left
                         ·go_simp
                          rfl
                         refine hK.out _ _ ?_
                         clear hK K
                         refine done_ (done_of HT_.out (by kernel_rfl)) ?_
                         try go_wp2
                         (try simp only [← hl3_3])
                         go_roundg kj31
                         case measure => have := HK1.out; have := HK2.out; have := HK3.out; have := HJ31.out; omega
                         case rel => exact ⟨(y440), (wrap64 (x8_3 + 1)), (by first | rfl | (simp; done) | (simp [*]; done)), H', ⟨by have := HK1.out; have := HK2.out; have := HK3.out; have := HJ31.out; omega⟩, ⟨by (try simp only [hl3_1]); (try simp only [hl3_2]); (try simp only [hl3_3]); (with_reducible repeat (first | apply Kd.R_alloc | apply Kd.R_drewN | apply Kd.R_drew)); exact HQ49.out⟩, ⟨by repeat (first | (with_reducible first | exact HB.out | apply below_alloc | apply pw_below_drewN | apply below_drew1 | refine below_set ?_ GB7.out) | exact HB.out)⟩⟩
                       ·rw [if_neg c39] at H
                        exact absurd H (by simp)
                      ·rw [if_neg c38] at H
                       exact absurd H (by simp)
                     ·rw [if_neg c36] at H
                      exact absurd H (by simp)
                    ·rw [if_neg c35] at H
                     exact absurd H (by simp)
                   ·replace c34 := Bool.eq_false_iff.mpr c34
                    subst c34
                    have H1 : (capnpref23_Ways.l0 kj31 l0 x3_3 (wrap64 (x4_1 - 1))) = some r := by rw [if_neg (show ¬ (false = true) by decide)] at H; exact H
                    clear H
                    have H := H1
                    clear H1
                    have H' := Aside0.mk H
                    clear H
                    go_wp2
                    (try simp only [← hl3_1, ← hl3_2, ← hl3_3])
                    go_roundg kj31
                    case measure => have := HK1.out; have := HK2.out; have := HK3.out; have := HJ31.out; omega
                    case rel => exact ⟨(x3_3), (wrap64 (x4_1 - 1)), (by first | rfl | (simp; done) | (simp [*]; done)), H', ⟨by have := HK1.out; have := HK2.out; have := HK3.out; have := HJ31.out; omega⟩, ⟨by (try simp only [hl3_1]); (try simp only [hl3_2]); (try simp only [hl3_3]); (with_reducible repeat (first | apply Kd.R_alloc | apply Kd.R_drewN | apply Kd.R_drew)); exact HO_3.out⟩, ⟨pB⟩⟩
              ·rw [if_neg c29] at H
               exact absurd H (by simp)
             ·rw [if_neg c28] at H
              exact absurd H (by simp)
         ·rw [if_neg c14] at H
          exact absurd H (by simp)
        ·rw [if_neg c13] at H
         exact absurd H (by simp)
       ·rw [if_neg c12] at H
        have c12b0 : decide (0 ≤ x4_1) = false := decide_eq_false c12
        clear c12
        by_cases c50 : 0 < (x3_1.length : Int)
        ·rw [if_pos c50] at H
         have c50b0 : decide (0 < (x3_1.length : Int)) = true := decide_eq_true c50
         have c50b1 : decide (0 < x3_1.length) = true := decide_eq_true (by omega)
         clear c50
         obtain rfl := Option.some.inj H
         have p429 : 0 ≤ (0 : Int) := (by omega)
         have q429 : 0 < (x3_1.length : Int) := of_decide_eq_true pA
         obtain ⟨ad429, e429, hx429_0⟩ := Kd.at_int (Kd.R_reads' HO_3.out).2.2 0 p429 q429
         obtain rfl : (⟨go7, 0, none⟩ : Addr) = ad429 := (by injection e429)
         (first | simp only [add_plain] at hx429_0 | simp only [add_at] at hx429_0 | simp only [Addr.add, Nat.zero_add] at hx429_0 | skip)
         have qi429 : (0 < x3_1.length) = True := eq_true (by omega)
         (try rw [show ((0 : Int)).toNat = 0 from rfl] at hx429_0)
         (try rw [Addr.add_zero'] at hx429_0)
         replace p429 := eq_true p429
         replace q429 := eq_true q429
         go_wp2
         go_ret
         exact ⟨by first | rfl | (simp [errW_none, errW_some] <;> rfl) | (simp only [← hji2]; first | rfl | (simp [errW_none, errW_some] <;> rfl)) | (simp [*, errW_none, errW_some] <;> rfl), pB⟩
        ·rw [if_neg c50] at H
         exact absurd H (by simp)
    ·rw [if_neg c6] at H
     exact absurd H (by simp)
   ·rw [if_neg c5] at H
    exact absurd H (by simp)
  ·rw [if_neg c4] at H
   exact absurd H (by simp)
 ·rw [if_neg c3] at H
  exact absurd H (by simp)
end Go.Proofs.YtnchacmhjbkmhaaDoor.PGrammarMatchesReference
