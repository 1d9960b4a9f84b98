/- Written by myprint.py, a program of this session: printed functions of a law, and the proofs that the Go code comes to them. -/
import Derived.Test.YtamcadegencfbaaPTagbyteKeepsx0
import Derived.Test.YtamcadegencfbaaPTagbyteKeepsx1
import Derived.Test.YtamcadegencfbaaPTagbyteKeepsx2
namespace Go.Proofs.Ytamcadegencfbaa.PTagbyteKeeps
open Go.RowKit Go.Proofs.YtamcadegencfbaaW.PrintWords Go.Proofs.YtamcadegencfbaaW.PrintLast Go.Proofs.YtamcadegencfbaaW.PrintMore
attribute [local go_sem] max2_int min2_int max_two min_two max_three min_three max_four min_four   -- for this text's walks alone
set_option linter.unusedVariables false
set_option linter.unusedSimpArgs false

/-! ### capnplaw20_TagbyteKeeps: function 7 -/
mutual
def capnplaw20_TagbyteKeeps.j0 : Nat → Int → List Int → Int → Bool → Option (Bool)
  | 0, _, _, _, _ => none
  | k + 1, x0, x1, x2, x25 => if x25 = true then ((capnplaw20_awake.f k).bind fun t165 => (some t165)) else ((some (([] : List Int) : List Int)).bind fun y166 => (if y166.length + x1.length < 140737488355328 then ((some (y166 ++ x1 : List Int)).bind fun y169 => ((tagbyte_Expand.f k x0 x1).bind fun bt172 => ((capnpref01_Same.f k x1 y169).bind fun t175 => (if t175 = true then (if bt172.2.2 = true then (if bt172.2.1 < 0 then (capnplaw20_TagbyteKeeps.j1 k x0 x2 y169 bt172.1 bt172.2.1 true) else (capnplaw20_TagbyteKeeps.j1 k x0 x2 y169 bt172.1 bt172.2.1 (decide (bt172.2.1 > (x1.length : Int))))) else (capnplaw20_TagbyteKeeps.j2 k x2)) else (some false))))) else (none)))
def capnplaw20_TagbyteKeeps.j2 : Nat → Int → Option (Bool)
  | 0, _ => none
  | k + 1, x2 => (tagbyte_Bytes.f k x2).bind fun t183 => (capnplaw20_TagbyteKeeps.l0 k x2 t183 0)
def capnplaw20_TagbyteKeeps.l0 : Nat → Int → List Int → Int → Option (Bool)
  | 0, _, _, _ => none
  | k + 1, x2, x14, x15 => if x15 < (x14.length : Int) then (if 0 ≤ x15 then (capnplaw20_TagbyteKeeps.l0 k x2 (x14.set (x15 : Int).toNat 0) (wrap64 (x15 + 1))) else (none)) else ((tagbyte_Of.f k x2).bind fun t187 => ((tagbyte_Bytes.f k x2).bind fun t188 => ((tagbyte_Expand.f k t187 t188).bind fun bt191 => (some (bt191.1 == x2)))))
def capnplaw20_TagbyteKeeps.j1 : Nat → Int → Int → List Int → Int → Int → Bool → Option (Bool)
  | 0, _, _, _, _, _, _ => none
  | k + 1, x0, x2, x7, x8, x9, x49 => if x49 = true then (some false) else (if 0 ≤ x9 then (if x9 ≤ (x7.length : Int) then ((tagbyte_Expand.f k x0 (x7.take (x9 : Int).toNat)).bind fun bt180 => (if bt180.2.2 = true then (if bt180.2.1 = x9 then (if bt180.1 = x8 then (capnplaw20_TagbyteKeeps.j2 k x2) else (some false)) else (some false)) else (some false))) else (none)) else (none))
end
def capnplaw20_TagbyteKeeps.f (k : Nat) (a0 : Int) (l1 : List Int) (a2 : Int) : Option (Bool) := (capnplaw20_awake.f k).bind fun t164 => (if t164 = true then (capnplaw20_TagbyteKeeps.j0 k a0 l1 a2 (decide ((l1.length : Int) > 100))) else (capnplaw20_TagbyteKeeps.j0 k a0 l1 a2 true))
theorem capnplaw20_TagbyteKeeps.mono_l : ∀ k, (∀ y0 y1 y2 y3, LeO (capnplaw20_TagbyteKeeps.j0 k y0 y1 y2 y3) (capnplaw20_TagbyteKeeps.j0 (k + 1) y0 y1 y2 y3)) ∧ (∀ y0, LeO (capnplaw20_TagbyteKeeps.j2 k y0) (capnplaw20_TagbyteKeeps.j2 (k + 1) y0)) ∧ (∀ y0 y1 y2, LeO (capnplaw20_TagbyteKeeps.l0 k y0 y1 y2) (capnplaw20_TagbyteKeeps.l0 (k + 1) y0 y1 y2)) ∧ (∀ y0 y1 y2 y3 y4 y5, LeO (capnplaw20_TagbyteKeeps.j1 k y0 y1 y2 y3 y4 y5) (capnplaw20_TagbyteKeeps.j1 (k + 1) y0 y1 y2 y3 y4 y5))
  | 0 => ⟨fun _ _ _ _ r h => by simp [capnplaw20_TagbyteKeeps.j0] at h, fun _ r h => by simp [capnplaw20_TagbyteKeeps.j2] at h, fun _ _ _ r h => by simp [capnplaw20_TagbyteKeeps.l0] at h, fun _ _ _ _ _ _ r h => by simp [capnplaw20_TagbyteKeeps.j1] at h⟩
  | k + 1 => by
    obtain ⟨ih0, ih1, ih2, ih3⟩ := capnplaw20_TagbyteKeeps.mono_l k
    refine ⟨?_, ?_, ?_, ?_⟩
    · intro y0 y1 y2 y3
      unfold capnplaw20_TagbyteKeeps.j0
      repeat' first
      | (with_reducible exact ih0 _ _ _ _)
      | (with_reducible exact ih1 _)
      | (with_reducible exact ih2 _ _ _)
      | (with_reducible exact ih3 _ _ _ _ _ _)
      | (with_reducible exact capnplaw20_awake.mono _)
      | (with_reducible exact capnpref01_Same.mono _ _ _)
      | (with_reducible exact tagbyte_Bytes.mono _ _)
      | (with_reducible exact tagbyte_Expand.mono _ _ _)
      | (with_reducible exact tagbyte_Of.mono _ _)
      | (with_reducible exact LeO.refl _)
      | (with_reducible exact LeO.none _)
      | (with_reducible refine LeO.ite ?_ ?_)
      | (with_reducible refine LeO.bind ?_ (fun _ => ?_))
      | exact ih0 _ _ _ _
      | exact ih1 _
      | exact ih2 _ _ _
      | exact ih3 _ _ _ _ _ _
      | exact capnplaw20_awake.mono _
      | exact capnpref01_Same.mono _ _ _
      | exact tagbyte_Bytes.mono _ _
      | exact tagbyte_Expand.mono _ _ _
      | exact tagbyte_Of.mono _ _
      | exact LeO.none _
      | refine LeO.ite ?_ ?_
      | refine LeO.bind ?_ (fun _ => ?_)
    · intro y0
      unfold capnplaw20_TagbyteKeeps.j2
      repeat' first
      | (with_reducible exact ih0 _ _ _ _)
      | (with_reducible exact ih1 _)
      | (with_reducible exact ih2 _ _ _)
      | (with_reducible exact ih3 _ _ _ _ _ _)
      | (with_reducible exact capnplaw20_awake.mono _)
      | (with_reducible exact capnpref01_Same.mono _ _ _)
      | (with_reducible exact tagbyte_Bytes.mono _ _)
      | (with_reducible exact tagbyte_Expand.mono _ _ _)
      | (with_reducible exact tagbyte_Of.mono _ _)
      | (with_reducible exact LeO.refl _)
      | (with_reducible exact LeO.none _)
      | (with_reducible refine LeO.ite ?_ ?_)
      | (with_reducible refine LeO.bind ?_ (fun _ => ?_))
      | exact ih0 _ _ _ _
      | exact ih1 _
      | exact ih2 _ _ _
      | exact ih3 _ _ _ _ _ _
      | exact capnplaw20_awake.mono _
      | exact capnpref01_Same.mono _ _ _
      | exact tagbyte_Bytes.mono _ _
      | exact tagbyte_Expand.mono _ _ _
      | exact tagbyte_Of.mono _ _
      | exact LeO.none _
      | refine LeO.ite ?_ ?_
      | refine LeO.bind ?_ (fun _ => ?_)
    · intro y0 y1 y2
      unfold capnplaw20_TagbyteKeeps.l0
      repeat' first
      | (with_reducible exact ih0 _ _ _ _)
      | (with_reducible exact ih1 _)
      | (with_reducible exact ih2 _ _ _)
      | (with_reducible exact ih3 _ _ _ _ _ _)
      | (with_reducible exact capnplaw20_awake.mono _)
      | (with_reducible exact capnpref01_Same.mono _ _ _)
      | (with_reducible exact tagbyte_Bytes.mono _ _)
      | (with_reducible exact tagbyte_Expand.mono _ _ _)
      | (with_reducible exact tagbyte_Of.mono _ _)
      | (with_reducible exact LeO.refl _)
      | (with_reducible exact LeO.none _)
      | (with_reducible refine LeO.ite ?_ ?_)
      | (with_reducible refine LeO.bind ?_ (fun _ => ?_))
      | exact ih0 _ _ _ _
      | exact ih1 _
      | exact ih2 _ _ _
      | exact ih3 _ _ _ _ _ _
      | exact capnplaw20_awake.mono _
      | exact capnpref01_Same.mono _ _ _
      | exact tagbyte_Bytes.mono _ _
      | exact tagbyte_Expand.mono _ _ _
      | exact tagbyte_Of.mono _ _
      | exact LeO.none _
      | refine LeO.ite ?_ ?_
      | refine LeO.bind ?_ (fun _ => ?_)
    · intro y0 y1 y2 y3 y4 y5
      unfold capnplaw20_TagbyteKeeps.j1
      repeat' first
      | (with_reducible exact ih0 _ _ _ _)
      | (with_reducible exact ih1 _)
      | (with_reducible exact ih2 _ _ _)
      | (with_reducible exact ih3 _ _ _ _ _ _)
      | (with_reducible exact capnplaw20_awake.mono _)
      | (with_reducible exact capnpref01_Same.mono _ _ _)
      | (with_reducible exact tagbyte_Bytes.mono _ _)
      | (with_reducible exact tagbyte_Expand.mono _ _ _)
      | (with_reducible exact tagbyte_Of.mono _ _)
      | (with_reducible exact LeO.refl _)
      | (with_reducible exact LeO.none _)
      | (with_reducible refine LeO.ite ?_ ?_)
      | (with_reducible refine LeO.bind ?_ (fun _ => ?_))
      | exact ih0 _ _ _ _
      | exact ih1 _
      | exact ih2 _ _ _
      | exact ih3 _ _ _ _ _ _
      | exact capnplaw20_awake.mono _
      | exact capnpref01_Same.mono _ _ _
      | exact tagbyte_Bytes.mono _ _
      | exact tagbyte_Expand.mono _ _ _
      | exact tagbyte_Of.mono _ _
      | exact LeO.none _
      | refine LeO.ite ?_ ?_
      | refine LeO.bind ?_ (fun _ => ?_)
theorem capnplaw20_TagbyteKeeps.mono : ∀ a0 a1 a2 k, LeO (capnplaw20_TagbyteKeeps.f k a0 a1 a2) (capnplaw20_TagbyteKeeps.f (k + 1) a0 a1 a2) := by
  intro a0 a1 a2 k
  obtain ⟨ih0, ih1, ih2, ih3⟩ := capnplaw20_TagbyteKeeps.mono_l k
  unfold capnplaw20_TagbyteKeeps.f
  repeat' first
      | (with_reducible exact ih0 _ _ _ _)
      | (with_reducible exact ih1 _)
      | (with_reducible exact ih2 _ _ _)
      | (with_reducible exact ih3 _ _ _ _ _ _)
      | (with_reducible exact capnplaw20_awake.mono _)
      | (with_reducible exact capnpref01_Same.mono _ _ _)
      | (with_reducible exact tagbyte_Bytes.mono _ _)
      | (with_reducible exact tagbyte_Expand.mono _ _ _)
      | (with_reducible exact tagbyte_Of.mono _ _)
      | (with_reducible exact LeO.refl _)
      | (with_reducible exact LeO.none _)
      | (with_reducible refine LeO.ite ?_ ?_)
      | (with_reducible refine LeO.bind ?_ (fun _ => ?_))
      | exact ih0 _ _ _ _
      | exact ih1 _
      | exact ih2 _ _ _
      | exact ih3 _ _ _ _ _ _
      | exact capnplaw20_awake.mono _
      | exact capnpref01_Same.mono _ _ _
      | exact tagbyte_Bytes.mono _ _
      | exact tagbyte_Expand.mono _ _ _
      | exact tagbyte_Of.mono _ _
      | exact LeO.none _
      | refine LeO.ite ?_ ?_
      | refine LeO.bind ?_ (fun _ => ?_)
set_option maxHeartbeats 8000000 in
set_option maxRecDepth 100000 in
theorem capnplaw20_TagbyteKeeps.calls (k : Nat) (a0 : Int) (A1 : Option Addr) (c1 : Nat) (l1 : List Int) (a2 : Int) (r : Bool) (w : World) (hr1 : Kd.C (Kd.int .u8) w A1 l1.length l1) (hc1 : l1.length ≤ c1) (h : capnplaw20_TagbyteKeeps.f k a0 l1 a2 = some r) :
    Calls Try.prog 7 #[.int .u8 a0, .slice A1 l1.length c1, .int .u64 a2] w fun e w' => e = .returned (.bool r) ∧ Below w.heap.size w w' := by
  have HR1 := Aside0.mk hr1
  have HC1 := Aside0.mk hc1
  clear hr1 hc1
  have HB := Aside0.mk (Below.refl w.heap.size w)
  have H : ((capnplaw20_awake.f k).bind fun t164 => (if t164 = true then (capnplaw20_TagbyteKeeps.j0 k a0 l1 a2 (decide ((l1.length : Int) > 100))) else (capnplaw20_TagbyteKeeps.j0 k a0 l1 a2 true))) = some r := h
  clear h
  have HC4 := Aside0.mk H
  clear H
  go_enter Try.func7, Try.ntmps7
  go_upto_region 1 with (fail)
  go_cut [25] (fun v25 wc => ∃ (kq : Nat) (x25_3 : Bool), v25 = .bool x25_3 ∧ Aside0 (capnplaw20_TagbyteKeeps.j0 kq a0 l1 a2 x25_3 = some r) ∧ Aside0 (kq ≤ k) ∧ Aside0 (Below w.heap.size w wc))
  case first =>
    have H := HC4.out
    clear HC4
    replace H := Option.bind_eq_some_iff.mp H
    obtain ⟨t164, A50, H⟩ := H
    replace H : (if t164 = true then (capnplaw20_TagbyteKeeps.j0 k a0 l1 a2 (decide ((l1.length : Int) > 100))) else (capnplaw20_TagbyteKeeps.j0 k a0 l1 a2 true)) = some r := H
    have A5 := Aside0.mk A50
    clear A50
    by_cases c6 : t164 = true
    · subst c6
      have H1 : (capnplaw20_TagbyteKeeps.j0 k a0 l1 a2 (decide ((l1.length : Int) > 100))) = some r := by rw [if_pos rfl] at H; exact H
      clear H
      have H := H1
      clear H1
      have H' := Aside0.mk H
      clear H
      go_wp2_with (first | ((with_reducible refine gate_callee (f := 14) rfl ?_); refine goesL_ (some 19) rfl rfl Try.func14 (by kernel_rfl) rfl #[] rfl (by (try simp only [List.map_toArray, List.map_cons, List.map_nil]); first | done | rfl | (simp only [List.length_drop, List.length_take]; rfl)) ?_; (with_reducible refine (capnplaw20_awake.calls k  true _ A5.out).mono ?_); rintro e w7 ⟨rfl, hb⟩; refine ⟨_, rfl, ?_⟩; have n0_ := Aside0.mk (below_step (by repeat (first | (with_reducible first | exact HB.out | apply below_alloc | apply pw_below_drewN | apply below_drew1) | exact HB.out)) hb); clear HB; have HB := n0_; clear n0_; (try clear hb); (try clear hb2); (try clear hk); (try clear hi)))
      go_meet
      case rel => exact ⟨_, (decide ((l1.length : Int) > 100)), (by first | rfl | (simp; done) | (simp [*]; done)), H', ⟨by first | omega | exact Nat.le_refl _⟩, ⟨by repeat (first | (with_reducible first | exact HB.out | apply below_alloc | apply pw_below_drewN | apply below_drew1) | exact HB.out)⟩⟩
    · replace c6 := Bool.eq_false_iff.mpr c6
      subst c6
      have H1 : (capnplaw20_TagbyteKeeps.j0 k a0 l1 a2 true) = some r := by rw [if_neg (show ¬ (false = true) by decide)] at H; exact H
      clear H
      have H := H1
      clear H1
      have H' := Aside0.mk H
      clear H
      go_wp2_with (first | ((with_reducible refine gate_callee (f := 14) rfl ?_); refine goesL_ (some 19) rfl rfl Try.func14 (by kernel_rfl) rfl #[] rfl (by (try simp only [List.map_toArray, List.map_cons, List.map_nil]); first | done | rfl | (simp only [List.length_drop, List.length_take]; rfl)) ?_; (with_reducible refine (capnplaw20_awake.calls k  false _ A5.out).mono ?_); rintro e w8 ⟨rfl, hb⟩; refine ⟨_, rfl, ?_⟩; have n0_ := Aside0.mk (below_step (by repeat (first | (with_reducible first | exact HB.out | apply below_alloc | apply pw_below_drewN | apply below_drew1) | exact HB.out)) hb); clear HB; have HB := n0_; clear n0_; (try clear hb); (try clear hb2); (try clear hk); (try clear hi)))
      go_meet
      case rel => exact ⟨_, (true), (by first | rfl | (simp; done) | (simp [*]; done)), H', ⟨by first | omega | exact Nat.le_refl _⟩, ⟨by repeat (first | (with_reducible first | exact HB.out | apply below_alloc | apply pw_below_drewN | apply below_drew1) | exact HB.out)⟩⟩
  case rest =>
    clear HC4
    try clear c1
    try clear p2
    try clear c6
    try clear c7
    obtain ⟨kq, x25_3, rfl, HA, HJ3, HB⟩ := hcut
    cases kq with
    | zero => exact absurd HA.out (by simp [capnplaw20_TagbyteKeeps.j0])
    | succ kj3 =>
      have H := HA.out
      clear HA
      simp only [capnplaw20_TagbyteKeeps.j0] at H
      by_cases c9 : x25_3 = true
      · subst c9
        have H1 : ((capnplaw20_awake.f kj3).bind fun t165 => (some t165)) = some r := by rw [if_pos rfl] at H; exact H
        clear H
        have H := H1
        clear H1
        replace H := Option.bind_eq_some_iff.mp H
        obtain ⟨t165, A100, H⟩ := H
        replace H : (some t165) = some r := H
        have A10 := Aside0.mk A100
        clear A100
        obtain rfl := Option.some.inj H
        go_wp2_with (first | ((with_reducible refine gate_callee (f := 14) rfl ?_); refine goesL_ (some 26) rfl rfl Try.func14 (by kernel_rfl) rfl #[] rfl (by (try simp only [List.map_toArray, List.map_cons, List.map_nil]); first | done | rfl | (simp only [List.length_drop, List.length_take]; rfl)) ?_; (with_reducible refine (capnplaw20_awake.calls kj3  t165 _ A10.out).mono ?_); rintro e w11 ⟨rfl, hb⟩; refine ⟨_, rfl, ?_⟩; have n0_ := Aside0.mk (below_step (by repeat (first | (with_reducible first | exact HB.out | apply below_alloc | apply pw_below_drewN | apply below_drew1) | exact HB.out)) hb); clear HB; have HB := n0_; clear n0_; (try clear hb); (try clear hb2); (try clear hk); (try clear hi)))
        go_ret
        exact ⟨by first | rfl | (simp [errW_none, errW_some] <;> rfl) | (simp [*, errW_none, errW_some] <;> rfl), by repeat (first | (with_reducible first | exact HB.out | apply below_alloc | apply pw_below_drewN | apply below_drew1) | exact HB.out)⟩
      · replace c9 := Bool.eq_false_iff.mpr c9
        subst c9
        have H1 : ((some (([] : List Int) : List Int)).bind fun y166 => (if y166.length + l1.length < 140737488355328 then ((some (y166 ++ l1 : List Int)).bind fun y169 => ((tagbyte_Expand.f kj3 a0 l1).bind fun bt172 => ((capnpref01_Same.f kj3 l1 y169).bind fun t175 => (if t175 = true then (if bt172.2.2 = true then (if bt172.2.1 < 0 then (capnplaw20_TagbyteKeeps.j1 kj3 a0 a2 y169 bt172.1 bt172.2.1 true) else (capnplaw20_TagbyteKeeps.j1 kj3 a0 a2 y169 bt172.1 bt172.2.1 (decide (bt172.2.1 > (l1.length : Int))))) else (capnplaw20_TagbyteKeeps.j2 kj3 a2)) else (some false))))) else (none))) = some r := by rw [if_neg (show ¬ (false = true) by decide)] at H; exact H
        clear H
        have H := H1
        clear H1
        obtain ⟨y166, hy166⟩ : ∃ y_ : List Int, y_ = (([] : List Int)) := ⟨_, rfl⟩
        replace H : (if y166.length + l1.length < 140737488355328 then ((some (y166 ++ l1 : List Int)).bind fun y169 => ((tagbyte_Expand.f kj3 a0 l1).bind fun bt172 => ((capnpref01_Same.f kj3 l1 y169).bind fun t175 => (if t175 = true then (if bt172.2.2 = true then (if bt172.2.1 < 0 then (capnplaw20_TagbyteKeeps.j1 kj3 a0 a2 y169 bt172.1 bt172.2.1 true) else (capnplaw20_TagbyteKeeps.j1 kj3 a0 a2 y169 bt172.1 bt172.2.1 (decide (bt172.2.1 > (l1.length : Int))))) else (capnplaw20_TagbyteKeeps.j2 kj3 a2)) else (some false))))) else (none)) = some r := by first | (rw [hy166]; with_reducible exact H) | (have H2_ := (Option.bind_some _ _).symm.trans H; rw [hy166]; with_reducible exact H2_) | (have H2_ := (Option.bind_some _ _).symm.trans H; with_reducible exact H2_) | with_reducible exact H | (rw [hy166]; exact H) | exact H
        have Ny166 := Aside0.mk hy166
        clear hy166
        by_cases c12 : y166.length + l1.length < 140737488355328
        · rw [if_pos c12] at H
          have LMc12 := Aside0.mk c12
          clear c12
          obtain ⟨y169, hy169⟩ : ∃ y_ : List Int, y_ = (y166 ++ l1) := ⟨_, rfl⟩
          replace H : ((tagbyte_Expand.f kj3 a0 l1).bind fun bt172 => ((capnpref01_Same.f kj3 l1 y169).bind fun t175 => (if t175 = true then (if bt172.2.2 = true then (if bt172.2.1 < 0 then (capnplaw20_TagbyteKeeps.j1 kj3 a0 a2 y169 bt172.1 bt172.2.1 true) else (capnplaw20_TagbyteKeeps.j1 kj3 a0 a2 y169 bt172.1 bt172.2.1 (decide (bt172.2.1 > (l1.length : Int))))) else (capnplaw20_TagbyteKeeps.j2 kj3 a2)) else (some false)))) = some r := by first | (rw [hy169]; with_reducible exact H) | (have H2_ := (Option.bind_some _ _).symm.trans H; rw [hy169]; with_reducible exact H2_) | (have H2_ := (Option.bind_some _ _).symm.trans H; with_reducible exact H2_) | with_reducible exact H | (rw [hy169]; exact H) | exact H
          have Ny169 := Aside0.mk hy169
          clear hy169
          replace H := Option.bind_eq_some_iff.mp H
          obtain ⟨⟨t172, t173, t174⟩, A130, H⟩ := H
          replace H : ((capnpref01_Same.f kj3 l1 y169).bind fun t175 => (if t175 = true then (if t174 = true then (if t173 < 0 then (capnplaw20_TagbyteKeeps.j1 kj3 a0 a2 y169 t172 t173 true) else (capnplaw20_TagbyteKeeps.j1 kj3 a0 a2 y169 t172 t173 (decide (t173 > (l1.length : Int))))) else (capnplaw20_TagbyteKeeps.j2 kj3 a2)) else (some false))) = some r := H
          have A13 := Aside0.mk A130
          clear A130
          replace H := Option.bind_eq_some_iff.mp H
          obtain ⟨t175, A140, H⟩ := H
          replace H : (if t175 = true then (if t174 = true then (if t173 < 0 then (capnplaw20_TagbyteKeeps.j1 kj3 a0 a2 y169 t172 t173 true) else (capnplaw20_TagbyteKeeps.j1 kj3 a0 a2 y169 t172 t173 (decide (t173 > (l1.length : Int))))) else (capnplaw20_TagbyteKeeps.j2 kj3 a2)) else (some false)) = some r := H
          have A14 := Aside0.mk A140
          clear A140
          by_cases c15 : t175 = true
          · subst c15
            have H1 : (if t174 = true then (if t173 < 0 then (capnplaw20_TagbyteKeeps.j1 kj3 a0 a2 y169 t172 t173 true) else (capnplaw20_TagbyteKeeps.j1 kj3 a0 a2 y169 t172 t173 (decide (t173 > (l1.length : Int))))) else (capnplaw20_TagbyteKeeps.j2 kj3 a2)) = some r := by rw [if_pos rfl] at H; exact H
            clear H
            have H := H1
            clear H1
            have HC16 := Aside0.mk H
            clear H
            go_upto_if 41 with (first | ((with_reducible refine gate_dst (N := 27) rfl ?_); (try (refine gate_guard (by rfl) ?_; dsimp only)); refine Kd.R_lit (Kd.int .u8) _ 5 ?hg (N := 27) ?hd (xs := ([] : List Int)) (inner := []) (ok := fun _ => True) (okp := fun _ => True) ?hr ?hp (fun _ hk => hk) trivial (Below.refl _ _) (Nat.le_refl _) (by simp) ?_; (case hd => rfl); (case hg => rfl); (case hr => first | (go_simp; done) | (go_simp; rfl)); (case hp => exact (Reps.none _ _)); intro v167 w17 ho18 hb hg_ hnew_; clear hg_ hnew_; (first | rw [← Ny166.out] at ho18 | (simp only [Int.reduceToNat] at ho18; rw [← Ny166.out] at ho18)); have n0_ := Aside0.mk (Kd.R_lower ho18 (below_size (by repeat (first | (with_reducible first | exact HB.out | apply below_alloc | apply pw_below_drewN | apply below_drew1) | exact HB.out)))); have n1_ := Aside0.mk (below_step (by repeat (first | (with_reducible first | exact HB.out | apply below_alloc | apply pw_below_drewN | apply below_drew1) | exact HB.out)) hb); clear HB; have HO168 := n0_; have HB := n1_; clear n0_ n1_; clear hb ho18) | ((with_reducible refine gate_builtin (b := .append) (xs := #[.tmp 27, .tmp 28]) rfl ?_); (try (refine gate_guard (by rfl) ?_; dsimp only)); at_builtin; refine Kd.R_append_rows (Kd.int .u8) (w0 := w) w.heap.size rfl (.tmp 27) (.tmp 28) 23 5 (.int .u8 0) 1 rfl Try.underlying23 info5 rfl (by decide) (by omega) v167 y166 l1 _ _ _ (fun _ => True) (fun _ => False) rfl rfl ?aO ?aR (fun _ _ h => h) (fun _ h => h.elim) ?aF ?aB ?aS ?aL ?_; (case aR => repeat (first | exact (Kd.C_below HR1.out HB.out) | (with_reducible refine Kd.C_alloc ?_ _) | (with_reducible refine Kd.C_drewN ?_ _) | (with_reducible refine Kd.C_drew ?_))); (case aB => exact (by repeat (first | (with_reducible first | exact HB.out | apply below_alloc | apply pw_below_drewN | apply below_drew1) | exact HB.out))); (case aF => exact (fun _ _ => trivial)); (case aO => exact (by (with_reducible repeat (first | apply Kd.R_alloc | apply Kd.R_drewN | apply Kd.R_drew)); exact HO168.out)); (case aS => exact (below_size (by repeat (first | (with_reducible first | exact HB.out | apply below_alloc | apply pw_below_drewN | apply below_drew1) | exact HB.out)))); (case aL => have := LMc12.out; omega); intro v170 w19 ho hb hg hat; rw [← Ny169.out] at ho; have n0_ := Aside0.mk (hb); have n1_ := Aside0.mk (ho); clear HB; clear HO168; have HB := n0_; have HO171 := n1_; clear n0_ n1_; clear ho hb hg hat) | ((with_reducible refine gate_callee (f := 15) rfl ?_); refine goesL_ (some 33) rfl rfl Try.func15 (by kernel_rfl) rfl #[.int .u8 a0, .slice A1 l1.length c1] rfl (by (try simp only [List.map_toArray, List.map_cons, List.map_nil]); first | done | rfl | (simp only [List.length_drop, List.length_take]; rfl)) ?_; (with_reducible refine (tagbyte_Expand.calls kj3 a0 _ _ l1 t172 t173 t174 _ ?side1 ?side2 A13.out).mono ?_); (case side1 => repeat (first | exact (Kd.C_below HR1.out HB.out) | (with_reducible refine Kd.C_alloc ?_ _) | (with_reducible refine Kd.C_drewN ?_ _) | (with_reducible refine Kd.C_drew ?_))); (case side2 => exact HC1.out); rintro e w' ⟨rfl, ⟨nd, rfl⟩⟩; refine ⟨_, rfl, ?_⟩; obtain ⟨Ao20, co20, eo20⟩ := Kd.R_slice HO171.out; subst eo20) | ((with_reducible refine gate_callee (f := 19) rfl ?_); refine goesL_ (some 39) rfl rfl Try.func19 (by kernel_rfl) rfl #[.slice A1 l1.length c1, .slice Ao20 y169.length co20] rfl (by (try simp only [List.map_toArray, List.map_cons, List.map_nil]); first | done | rfl | (simp only [List.length_drop, List.length_take]; rfl)) ?_; (with_reducible refine (capnpref01_Same.calls kj3 _ _ l1 _ _ y169 true _ ?side1 ?side2 ?side3 ?side4 A14.out).mono ?_); (case side1 => repeat (first | exact (Kd.C_below HR1.out (by repeat (first | (with_reducible first | exact HB.out | apply below_alloc | apply pw_below_drewN | apply below_drew1) | exact HB.out))) | (with_reducible refine Kd.C_alloc ?_ _) | (with_reducible refine Kd.C_drewN ?_ _) | (with_reducible refine Kd.C_drew ?_))); (case side2 => exact HC1.out); (case side3 => repeat (first | exact (Kd.R_reads' HO171.out).2.2 | (with_reducible refine Kd.C_alloc ?_ _) | (with_reducible refine Kd.C_drewN ?_ _) | (with_reducible refine Kd.C_drew ?_))); (case side4 => exact (Kd.R_reads' HO171.out).2.1); rintro e w' ⟨rfl, ⟨nd, rfl⟩⟩; refine ⟨_, rfl, ?_⟩))
            (try simp only [Act.put, List.setIfInBounds_toArray, List.set_cons_zero, List.set_cons_succ])
            go_cut [] (fun wc => ∃ (kq : Nat), Aside0 (capnplaw20_TagbyteKeeps.j2 kq a2 = some r) ∧ Aside0 (kq ≤ kj3) ∧ Aside0 (Below w.heap.size w wc))
            case first =>
              have H := HC16.out
              clear HC16
              by_cases c21 : t174 = true
              · subst c21
                have H1 : (if t173 < 0 then (capnplaw20_TagbyteKeeps.j1 kj3 a0 a2 y169 t172 t173 true) else (capnplaw20_TagbyteKeeps.j1 kj3 a0 a2 y169 t172 t173 (decide (t173 > (l1.length : Int))))) = some r := by rw [if_pos rfl] at H; exact H
                clear H
                have H := H1
                clear H1
                have HC22 := Aside0.mk H
                clear H
                go_upto_region 8 with (fail)
                go_cut [49] (fun v49 wc => ∃ (kq : Nat) (x49_21 : Bool), v49 = .bool x49_21 ∧ Aside0 (capnplaw20_TagbyteKeeps.j1 kq a0 a2 y169 t172 t173 x49_21 = some r) ∧ Aside0 (kq ≤ kj3) ∧ Aside0 (Kd.R (Kd.int .u8) 5 wc w.heap.size (fun _ => True) (.slice Ao20 y169.length co20) y169) ∧ Aside0 (Below w.heap.size w wc))
                case first =>
                  have H := HC22.out
                  clear HC22
                  by_cases c23 : t173 < 0
                  · rw [if_pos c23] at H
                    have c23b0 : decide (t173 < 0) = true := decide_eq_true c23
                    clear c23
                    (first | rw [c23b0] | (simp only [i64_w, i32_w]; rw [c23b0]) | skip)
                    have H' := Aside0.mk H
                    clear H
                    go_wp2
                    go_meet
                    case rel => exact ⟨_, (true), (by first | rfl | (simp; done) | (simp [*]; done)), H', ⟨by have := HJ3.out; first | omega | exact Nat.le_refl _⟩, ⟨by (with_reducible repeat (first | apply Kd.R_alloc | apply Kd.R_drewN | apply Kd.R_drew)); exact HO171.out⟩, ⟨by repeat (first | (with_reducible first | exact HB.out | apply below_alloc | apply pw_below_drewN | apply below_drew1) | exact HB.out)⟩⟩
                  · rw [if_neg c23] at H
                    have c23b0 : decide (t173 < 0) = false := decide_eq_false c23
                    clear c23
                    (first | rw [c23b0] | (simp only [i64_w, i32_w]; rw [c23b0]) | skip)
                    have H' := Aside0.mk H
                    clear H
                    go_wp2
                    go_meet
                    case rel => exact ⟨_, (decide (t173 > (l1.length : Int))), (by first | rfl | (simp; done) | (simp [*]; done)), H', ⟨by have := HJ3.out; first | omega | exact Nat.le_refl _⟩, ⟨by (with_reducible repeat (first | apply Kd.R_alloc | apply Kd.R_drewN | apply Kd.R_drew)); exact HO171.out⟩, ⟨by repeat (first | (with_reducible first | exact HB.out | apply below_alloc | apply pw_below_drewN | apply below_drew1) | exact HB.out)⟩⟩
                case rest =>
                  clear HC22
                  try clear c1
                  try clear c2
                  try clear p2
                  try clear c6
                  try clear c7
                  try clear c9
                  try clear c12
                  try clear c14
                  try clear c15
                  try clear c19
                  try clear c21
                  try clear c23
                  try clear c23b0
                  try clear p2
                  obtain ⟨kq, x49_21, rfl, HA, HJ21, HO_7, HB⟩ := hcut
                  cases kq with
                  | zero => exact absurd HA.out (by simp [capnplaw20_TagbyteKeeps.j1])
                  | succ kj21 =>
                    have H := HA.out
                    clear HA
                    simp only [capnplaw20_TagbyteKeeps.j1] at H
                    by_cases c24 : x49_21 = true
                    · subst c24
                      have H1 : (some false) = some r := by rw [if_pos rfl] at H; exact H
                      clear H
                      have H := H1
                      clear H1
                      obtain rfl := Option.some.inj H
                      go_wp2
                      go_ret
                      exact ⟨by first | rfl | (simp [errW_none, errW_some] <;> rfl) | (simp [*, errW_none, errW_some] <;> rfl), by repeat (first | (with_reducible first | exact HB.out | apply below_alloc | apply pw_below_drewN | apply below_drew1) | exact HB.out)⟩
                    · replace c24 := Bool.eq_false_iff.mpr c24
                      subst c24
                      have H1 : (if 0 ≤ t173 then (if t173 ≤ (y169.length : Int) then ((tagbyte_Expand.f kj21 a0 (y169.take (t173 : Int).toNat)).bind fun bt180 => (if bt180.2.2 = true then (if bt180.2.1 = t173 then (if bt180.1 = t172 then (capnplaw20_TagbyteKeeps.j2 kj21 a2) else (some false)) else (some false)) else (some false))) else (none)) else (none)) = some r := by rw [if_neg (show ¬ (false = true) by decide)] at H; exact H
                      clear H
                      have H := H1
                      clear H1
                      by_cases c25 : 0 ≤ t173
                      · rw [if_pos c25] at H
                        have c25b0 := eq_true c25
                        have c25b1 : decide (0 ≤ t173) = true := decide_eq_true c25
                        clear c25
                        by_cases c26 : t173 ≤ (y169.length : Int)
                        · rw [if_pos c26] at H
                          have c26b0 := eq_true c26
                          have c26b1 : decide (t173 ≤ (y169.length : Int)) = true := decide_eq_true c26
                          clear c26
                          obtain ⟨y176, hy176⟩ : ∃ y_ : List Int, y_ = (y169.take (t173 : Int).toNat) := ⟨_, rfl⟩
                          replace H : ((tagbyte_Expand.f kj21 a0 y176).bind fun bt180 => (if bt180.2.2 = true then (if bt180.2.1 = t173 then (if bt180.1 = t172 then (capnplaw20_TagbyteKeeps.j2 kj21 a2) else (some false)) else (some false)) else (some false))) = some r := by first | (rw [hy176]; with_reducible exact H) | (have H2_ := (Option.bind_some _ _).symm.trans H; rw [hy176]; with_reducible exact H2_) | (have H2_ := (Option.bind_some _ _).symm.trans H; with_reducible exact H2_) | with_reducible exact H | (rw [hy176]; exact H) | exact H
                          have Ny176 := Aside0.mk hy176
                          clear hy176
                          replace H := Option.bind_eq_some_iff.mp H
                          obtain ⟨⟨t180, t181, t182⟩, A270, H⟩ := H
                          replace H : (if t182 = true then (if t181 = t173 then (if t180 = t172 then (capnplaw20_TagbyteKeeps.j2 kj21 a2) else (some false)) else (some false)) else (some false)) = some r := H
                          have A27 := Aside0.mk A270
                          clear A270
                          by_cases c28 : t182 = true
                          · subst c28
                            have H1 : (if t181 = t173 then (if t180 = t172 then (capnplaw20_TagbyteKeeps.j2 kj21 a2) else (some false)) else (some false)) = some r := by rw [if_pos rfl] at H; exact H
                            clear H
                            have H := H1
                            clear H1
                            by_cases c29 : t181 = t173
                            · rw [if_pos c29] at H
                              have c29b0 : (t181 == t173) = true := beq_iff_eq.mpr c29
                              have c29b1 : (t181 != t173) = false := bne_eq_false_iff_eq.mpr c29
                              clear c29
                              by_cases c30 : t180 = t172
                              · rw [if_pos c30] at H
                                have c30b0 : (t180 == t172) = true := beq_iff_eq.mpr c30
                                have c30b1 : (t180 != t172) = false := bne_eq_false_iff_eq.mpr c30
                                clear c30
                                have H' := Aside0.mk H
                                clear H
                                have q31 : (t173 : Int) ≤ ((y169.length : Int) : Int) := of_decide_eq_true (by first | (with_reducible assumption) | assumption)
                                obtain ⟨i031, hi031, _, hsz31, _⟩ := info_parts info5
                                have hroom31 : y169.length ≤ co20 := (Kd.R_reads' HO_7.out).2.1
                                have hC31 : Kd.C (Kd.int .u8) _ Ao20 y169.length y169 := (Kd.R_reads' HO_7.out).2.2
                                have hcut31 := cut_to (P := Try.prog) 23 5 .i64 Try.underlying23 hi031 Ao20 y169.length co20 t173 (of_decide_eq_true (by first | (with_reducible assumption) | assumption)) q31 hroom31
                                have hr31 := Kd.C_take (m := (t173 : Int).toNat) hC31 (by omega)
                                have hy31 : y176.length = (t173 : Int).toNat := (by rw [Ny176.out, List.length_take]; omega)
                                rw [← Ny176.out] at hr31
                                rw [← hy31] at hcut31
                                have HR179 := Aside0.mk hr31
                                have HC179 := Aside0.mk (show y176.length ≤ co20 from by omega)
                                clear hr31 hC31 hroom31 hi031 hsz31
                                have KY31 := Aside0.mk hy31
                                clear hy31
                                have KL31 := Aside0.mk (show (t173 : Int).toNat ≤ y169.length from by omega)
                                replace q31 := eq_true q31
                                go_wp2_with (first | ((with_reducible refine gate_callee (f := 15) rfl ?_); refine goesL_ (some 55) rfl rfl Try.func15 (by kernel_rfl) rfl #[.int .u8 a0, .slice Ao20 y176.length co20] rfl (by (try simp only [List.map_toArray, List.map_cons, List.map_nil]); first | done | rfl | (simp only [List.length_drop, List.length_take]; rfl)) ?_; (with_reducible refine (tagbyte_Expand.calls kj21 a0 _ _ y176 t180 t181 true _ ?side1 ?side2 A27.out).mono ?_); (case side1 => repeat (first | exact (by repeat (first | (with_reducible exact HR179.out) | (with_reducible refine Kd.C_alloc ?_ _) | (with_reducible refine Kd.C_drewN ?_ _) | (with_reducible refine Kd.C_drew ?_) | exact HR179.out)) | (with_reducible refine Kd.C_alloc ?_ _) | (with_reducible refine Kd.C_drewN ?_ _) | (with_reducible refine Kd.C_drew ?_))); (case side2 => exact HC179.out); rintro e w' ⟨rfl, ⟨nd, rfl⟩⟩; refine ⟨_, rfl, ?_⟩))
                                go_meet
                                case rel => exact ⟨_, H', ⟨by have := HJ3.out; have := HJ21.out; first | omega | exact Nat.le_refl _⟩, ⟨by repeat (first | (with_reducible first | exact HB.out | apply below_alloc | apply pw_below_drewN | apply below_drew1) | exact HB.out)⟩⟩
                              · rw [if_neg c30] at H
                                have c30b0 : (t180 == t172) = false := beq_eq_false_iff_ne.mpr c30
                                have c30b1 : (t180 != t172) = true := bne_iff_ne.mpr c30
                                obtain rfl := Option.some.inj H
                                have q32 : (t173 : Int) ≤ ((y169.length : Int) : Int) := of_decide_eq_true (by first | (with_reducible assumption) | assumption)
                                obtain ⟨i032, hi032, _, hsz32, _⟩ := info_parts info5
                                have hroom32 : y169.length ≤ co20 := (Kd.R_reads' HO_7.out).2.1
                                have hC32 : Kd.C (Kd.int .u8) _ Ao20 y169.length y169 := (Kd.R_reads' HO_7.out).2.2
                                have hcut32 := cut_to (P := Try.prog) 23 5 .i64 Try.underlying23 hi032 Ao20 y169.length co20 t173 (of_decide_eq_true (by first | (with_reducible assumption) | assumption)) q32 hroom32
                                have hr32 := Kd.C_take (m := (t173 : Int).toNat) hC32 (by omega)
                                have hy32 : y176.length = (t173 : Int).toNat := (by rw [Ny176.out, List.length_take]; omega)
                                rw [← Ny176.out] at hr32
                                rw [← hy32] at hcut32
                                have HR179 := Aside0.mk hr32
                                have HC179 := Aside0.mk (show y176.length ≤ co20 from by omega)
                                clear hr32 hC32 hroom32 hi032 hsz32
                                have KY32 := Aside0.mk hy32
                                clear hy32
                                have KL32 := Aside0.mk (show (t173 : Int).toNat ≤ y169.length from by omega)
                                replace q32 := eq_true q32
                                go_wp2_with (first | ((with_reducible refine gate_callee (f := 15) rfl ?_); refine goesL_ (some 55) rfl rfl Try.func15 (by kernel_rfl) rfl #[.int .u8 a0, .slice Ao20 y176.length co20] rfl (by (try simp only [List.map_toArray, List.map_cons, List.map_nil]); first | done | rfl | (simp only [List.length_drop, List.length_take]; rfl)) ?_; (with_reducible refine (tagbyte_Expand.calls kj21 a0 _ _ y176 t180 t181 true _ ?side1 ?side2 A27.out).mono ?_); (case side1 => repeat (first | exact (by repeat (first | (with_reducible exact HR179.out) | (with_reducible refine Kd.C_alloc ?_ _) | (with_reducible refine Kd.C_drewN ?_ _) | (with_reducible refine Kd.C_drew ?_) | exact HR179.out)) | (with_reducible refine Kd.C_alloc ?_ _) | (with_reducible refine Kd.C_drewN ?_ _) | (with_reducible refine Kd.C_drew ?_))); (case side2 => exact HC179.out); rintro e w' ⟨rfl, ⟨nd, rfl⟩⟩; refine ⟨_, rfl, ?_⟩))
                                go_ret
                                exact ⟨by first | rfl | (simp [errW_none, errW_some] <;> rfl) | (simp [*, errW_none, errW_some] <;> rfl), by repeat (first | (with_reducible first | exact HB.out | apply below_alloc | apply pw_below_drewN | apply below_drew1) | exact HB.out)⟩
                            · rw [if_neg c29] at H
                              have c29b0 : (t181 == t173) = false := beq_eq_false_iff_ne.mpr c29
                              have c29b1 : (t181 != t173) = true := bne_iff_ne.mpr c29
                              obtain rfl := Option.some.inj H
                              have q33 : (t173 : Int) ≤ ((y169.length : Int) : Int) := of_decide_eq_true (by first | (with_reducible assumption) | assumption)
                              obtain ⟨i033, hi033, _, hsz33, _⟩ := info_parts info5
                              have hroom33 : y169.length ≤ co20 := (Kd.R_reads' HO_7.out).2.1
                              have hC33 : Kd.C (Kd.int .u8) _ Ao20 y169.length y169 := (Kd.R_reads' HO_7.out).2.2
                              have hcut33 := cut_to (P := Try.prog) 23 5 .i64 Try.underlying23 hi033 Ao20 y169.length co20 t173 (of_decide_eq_true (by first | (with_reducible assumption) | assumption)) q33 hroom33
                              have hr33 := Kd.C_take (m := (t173 : Int).toNat) hC33 (by omega)
                              have hy33 : y176.length = (t173 : Int).toNat := (by rw [Ny176.out, List.length_take]; omega)
                              rw [← Ny176.out] at hr33
                              rw [← hy33] at hcut33
                              have HR179 := Aside0.mk hr33
                              have HC179 := Aside0.mk (show y176.length ≤ co20 from by omega)
                              clear hr33 hC33 hroom33 hi033 hsz33
                              have KY33 := Aside0.mk hy33
                              clear hy33
                              have KL33 := Aside0.mk (show (t173 : Int).toNat ≤ y169.length from by omega)
                              replace q33 := eq_true q33
                              go_wp2_with (first | ((with_reducible refine gate_callee (f := 15) rfl ?_); refine goesL_ (some 55) rfl rfl Try.func15 (by kernel_rfl) rfl #[.int .u8 a0, .slice Ao20 y176.length co20] rfl (by (try simp only [List.map_toArray, List.map_cons, List.map_nil]); first | done | rfl | (simp only [List.length_drop, List.length_take]; rfl)) ?_; (with_reducible refine (tagbyte_Expand.calls kj21 a0 _ _ y176 t180 t181 true _ ?side1 ?side2 A27.out).mono ?_); (case side1 => repeat (first | exact (by repeat (first | (with_reducible exact HR179.out) | (with_reducible refine Kd.C_alloc ?_ _) | (with_reducible refine Kd.C_drewN ?_ _) | (with_reducible refine Kd.C_drew ?_) | exact HR179.out)) | (with_reducible refine Kd.C_alloc ?_ _) | (with_reducible refine Kd.C_drewN ?_ _) | (with_reducible refine Kd.C_drew ?_))); (case side2 => exact HC179.out); rintro e w' ⟨rfl, ⟨nd, rfl⟩⟩; refine ⟨_, rfl, ?_⟩))
                              go_ret
                              exact ⟨by first | rfl | (simp [errW_none, errW_some] <;> rfl) | (simp [*, errW_none, errW_some] <;> rfl), by repeat (first | (with_reducible first | exact HB.out | apply below_alloc | apply pw_below_drewN | apply below_drew1) | exact HB.out)⟩
                          · replace c28 := Bool.eq_false_iff.mpr c28
                            subst c28
                            have H1 : (some false) = some r := by rw [if_neg (show ¬ (false = true) by decide)] at H; exact H
                            clear H
                            have H := H1
                            clear H1
                            obtain rfl := Option.some.inj H
                            have q34 : (t173 : Int) ≤ ((y169.length : Int) : Int) := of_decide_eq_true (by first | (with_reducible assumption) | assumption)
                            obtain ⟨i034, hi034, _, hsz34, _⟩ := info_parts info5
                            have hroom34 : y169.length ≤ co20 := (Kd.R_reads' HO_7.out).2.1
                            have hC34 : Kd.C (Kd.int .u8) _ Ao20 y169.length y169 := (Kd.R_reads' HO_7.out).2.2
                            have hcut34 := cut_to (P := Try.prog) 23 5 .i64 Try.underlying23 hi034 Ao20 y169.length co20 t173 (of_decide_eq_true (by first | (with_reducible assumption) | assumption)) q34 hroom34
                            have hr34 := Kd.C_take (m := (t173 : Int).toNat) hC34 (by omega)
                            have hy34 : y176.length = (t173 : Int).toNat := (by rw [Ny176.out, List.length_take]; omega)
                            rw [← Ny176.out] at hr34
                            rw [← hy34] at hcut34
                            have HR179 := Aside0.mk hr34
                            have HC179 := Aside0.mk (show y176.length ≤ co20 from by omega)
                            clear hr34 hC34 hroom34 hi034 hsz34
                            have KY34 := Aside0.mk hy34
                            clear hy34
                            have KL34 := Aside0.mk (show (t173 : Int).toNat ≤ y169.length from by omega)
                            replace q34 := eq_true q34
                            go_wp2_with (first | ((with_reducible refine gate_callee (f := 15) rfl ?_); refine goesL_ (some 55) rfl rfl Try.func15 (by kernel_rfl) rfl #[.int .u8 a0, .slice Ao20 y176.length co20] rfl (by (try simp only [List.map_toArray, List.map_cons, List.map_nil]); first | done | rfl | (simp only [List.length_drop, List.length_take]; rfl)) ?_; (with_reducible refine (tagbyte_Expand.calls kj21 a0 _ _ y176 t180 t181 false _ ?side1 ?side2 A27.out).mono ?_); (case side1 => repeat (first | exact (by repeat (first | (with_reducible exact HR179.out) | (with_reducible refine Kd.C_alloc ?_ _) | (with_reducible refine Kd.C_drewN ?_ _) | (with_reducible refine Kd.C_drew ?_) | exact HR179.out)) | (with_reducible refine Kd.C_alloc ?_ _) | (with_reducible refine Kd.C_drewN ?_ _) | (with_reducible refine Kd.C_drew ?_))); (case side2 => exact HC179.out); rintro e w' ⟨rfl, ⟨nd, rfl⟩⟩; refine ⟨_, rfl, ?_⟩))
                            go_ret
                            exact ⟨by first | rfl | (simp [errW_none, errW_some] <;> rfl) | (simp [*, errW_none, errW_some] <;> rfl), by repeat (first | (with_reducible first | exact HB.out | apply below_alloc | apply pw_below_drewN | apply below_drew1) | exact HB.out)⟩
                        · rw [if_neg c26] at H
                          exact absurd H (by simp)
                      · rw [if_neg c25] at H
                        exact absurd H (by simp)
              · replace c21 := Bool.eq_false_iff.mpr c21
                subst c21
                have H1 : (capnplaw20_TagbyteKeeps.j2 kj3 a2) = some r := by rw [if_neg (show ¬ (false = true) by decide)] at H; exact H
                clear H
                have H := H1
                clear H1
                have H' := Aside0.mk H
                clear H
                go_wp2
                go_meet
                case rel => exact ⟨_, H', ⟨by have := HJ3.out; first | omega | exact Nat.le_refl _⟩, ⟨by repeat (first | (with_reducible first | exact HB.out | apply below_alloc | apply pw_below_drewN | apply below_drew1) | exact HB.out)⟩⟩
            case rest =>
              clear HC16
              try clear c1
              try clear c2
              try clear p2
              try clear c3
              try clear q3
              try clear c6
              try clear c7
              try clear c9
              try clear c12
              try clear c14
              try clear c15
              try clear c19
              try clear c21
              try clear c23
              try clear c23b0
              try clear c24
              try clear c25
              try clear c25b0
              try clear c25b1
              try clear c26
              try clear c26b0
              try clear c26b1
              try clear c28
              try clear c29
              try clear c29b0
              try clear c29b1
              try clear c30
              try clear c30b0
              try clear c30b1
              try clear q31
              try clear q32
              try clear q33
              try clear q34
              try clear p2
              try clear q31
              try clear q32
              try clear q33
              try clear q34
              obtain ⟨kq, HA, HJ15, HB⟩ := hcut
              cases kq with
              | zero => exact absurd HA.out (by simp [capnplaw20_TagbyteKeeps.j2])
              | succ kj15 =>
                have H := HA.out
                clear HA
                simp only [capnplaw20_TagbyteKeeps.j2] at H
                replace H := Option.bind_eq_some_iff.mp H
                obtain ⟨t183, A350, H⟩ := H
                replace H : (capnplaw20_TagbyteKeeps.l0 kj15 a2 t183 0) = some r := H
                have A35 := Aside0.mk A350
                clear A350
                have H' := Aside0.mk H
                clear H
                go_wp2_with (first | ((with_reducible refine gate_callee (f := 20) rfl ?_); refine goesL_ (some 72) rfl rfl Try.func20 (by kernel_rfl) rfl #[.int .u64 a2] rfl (by (try simp only [List.map_toArray, List.map_cons, List.map_nil]); first | done | rfl | (simp only [List.length_drop, List.length_take]; rfl)) ?_; (with_reducible refine (tagbyte_Bytes.calls kj15 a2 t183 _ A35.out).mono ?_); rintro e w36 ⟨v184, rfl, ho0, hb⟩; refine ⟨_, rfl, ?_⟩; have n0_ := Aside0.mk (Kd.R_lower ho0 (below_size (by repeat (first | (with_reducible first | exact HB.out | apply below_alloc | apply pw_below_drewN | apply below_drew1) | exact HB.out)))); have n1_ := Aside0.mk (below_step (by repeat (first | (with_reducible first | exact HB.out | apply below_alloc | apply pw_below_drewN | apply below_drew1) | exact HB.out)) hb); clear HB; have HO185 := n0_; have HB := n1_; clear n0_ n1_; (try clear hb); (try clear hb2); (try clear hk); (try clear hi); (try clear ho0)))
                go_loopg [15] kj15 (fun kq v15 w' => ∃ (x14_3 : List Int) (x15_3 : Int), v15 = .int .i64 x15_3 ∧ Aside0 (capnplaw20_TagbyteKeeps.l0 kq a2 x14_3 x15_3 = some r) ∧ Aside0 (kq ≤ kj15) ∧ Aside0 (Kd.R (Kd.int .u8) 5 w' w.heap.size (fun _ => True) v184 x14_3) ∧ Aside0 (Below w.heap.size w w'))
                case atStart => exact ⟨(t183), (0), (by first | rfl | (simp; done) | (simp [*]; done)), H', ⟨Nat.le_refl _⟩, ⟨by (with_reducible repeat (first | apply Kd.R_alloc | apply Kd.R_drewN | apply Kd.R_drew)); exact HO185.out⟩, ⟨by repeat (first | (with_reducible first | exact HB.out | apply below_alloc | apply pw_below_drewN | apply below_drew1) | exact HB.out)⟩⟩
                case round =>
                  clear H'
                  try clear c1
                  try clear c2
                  try clear p2
                  try clear c3
                  try clear q3
                  try clear c6
                  try clear c7
                  try clear c9
                  try clear c12
                  try clear c14
                  try clear c15
                  try clear c19
                  try clear c20
                  try clear c21
                  try clear c23
                  try clear c23b0
                  try clear c24
                  try clear c25
                  try clear c25b0
                  try clear c25b1
                  try clear c26
                  try clear c26b0
                  try clear c26b1
                  try clear c28
                  try clear c29
                  try clear c29b0
                  try clear c29b1
                  try clear c30
                  try clear c30b0
                  try clear c30b1
                  try clear q31
                  try clear q32
                  try clear q33
                  try clear q34
                  try clear p2
                  try clear q3
                  try clear q31
                  try clear q32
                  try clear q33
                  try clear q34
                  obtain ⟨x14_3, x15_3, rfl, HA, HK3, HO_14, HB⟩ := hrel
                  cases gk with
                  | zero => exact absurd HA.out (by simp [capnplaw20_TagbyteKeeps.l0])
                  | succ k3 =>
                    have H := HA.out
                    clear HA
                    simp only [capnplaw20_TagbyteKeeps.l0] at H
                    by_cases c37 : x15_3 < (x14_3.length : Int)
                    · rw [if_pos c37] at H
                      have c37b0 : decide (x15_3 < (x14_3.length : Int)) = true := decide_eq_true c37
                      clear c37
                      by_cases c38 : 0 ≤ x15_3
                      · rw [if_pos c38] at H
                        have c38b0 : decide (0 ≤ x15_3) = true := decide_eq_true c38
                        clear c38
                        obtain ⟨y186, hy186⟩ : ∃ y_ : List Int, y_ = (x14_3.set (x15_3 : Int).toNat 0) := ⟨_, rfl⟩
                        replace H : (capnplaw20_TagbyteKeeps.l0 k3 a2 y186 (wrap64 (x15_3 + 1))) = some r := by first | (rw [hy186]; with_reducible exact H) | (have H2_ := (Option.bind_some _ _).symm.trans H; rw [hy186]; with_reducible exact H2_) | (have H2_ := (Option.bind_some _ _).symm.trans H; with_reducible exact H2_) | with_reducible exact H | (rw [hy186]; exact H) | exact H
                        have Ny186 := Aside0.mk hy186
                        clear hy186
                        have H' := Aside0.mk H
                        clear H
                        obtain ⟨Ao40, co40, eo40⟩ := Kd.R_slice HO_14.out
                        subst eo40
                        have p39 : 0 ≤ (x15_3 : Int) := of_decide_eq_true (by first | (with_reducible assumption) | assumption)
                        have q39 : (x15_3 : Int) < ((x14_3.length : Int) : Int) := of_decide_eq_true (by first | (with_reducible assumption) | assumption)
                        obtain ⟨go39, co39, eo39, gb39, gl39, cl39, HG39⟩ := Kd.R_form HO_14.out (by omega)
                        (first | cases eo39 | (injection eo39 with ea_ en_ ec_; (first | subst ea_ | (injection ea_ with ea_; subst ea_)); subst ec_; clear en_))
                        have GB39 := Aside0.mk gb39
                        have GG39 := Aside0.mk HG39
                        clear gb39 gl39 HG39
                        obtain ⟨hx39_0, hf39_0⟩ := Kd.R_celln 0 HO_14.out (x15_3 : Int) p39 q39
                        replace p39 := eq_true p39
                        replace q39 := eq_true q39
                        have HP41 := Kd.R_putg HO_14.out (x15_3 : Int) 0
                        go_wp2_with (first | ((with_reducible refine gate_store (t := 5) (p := 81) rfl ?_); refine store_event (t := 5) (p := 81) (v := ?vo_w42) (w1 := (wr.setCell ⟨go39, (x15_3 : Int).toNat, none⟩ (.int .u8 0))) ?hg ?ho ?hn ?hr ?_; (case ho => rfl); (case hg => rfl); (case hn => rfl); (case hr => first | (go_simp; done) | (go_simp; rfl)); intro w42 hw; have hg : wr.grownBy w42 (some go39) := (by rw [hw]; exact HP41.2); have hp_ : Kd.R (Kd.int .u8) 5 w42 w.heap.size (fun _ => True) (.slice (some ⟨go39, 0, none⟩) x14_3.length co40) y186 := (by rw [hw, Ny186.out]; exact HP41.1); clear HP41; have n0_ := Aside0.mk (hp_); have n1_ := Aside0.mk ((by rw [hw]; exact below_set (HB.out) GB39.out : Below w.heap.size w w42)); clear HO_14; clear HB; have HO_14 := n0_; have HB := n1_; clear n0_ n1_; clear hg hw hp_))
                        go_roundg k3
                        case measure => have := HJ3.out; have := HJ15.out; have := HK3.out; omega
                        case rel => exact ⟨(y186), (wrap64 (x15_3 + 1)), (by first | rfl | (simp; done) | (simp [*]; done)), H', ⟨by have := HJ3.out; have := HJ15.out; have := HK3.out; omega⟩, ⟨by (with_reducible repeat (first | apply Kd.R_alloc | apply Kd.R_drewN | apply Kd.R_drew)); exact HO_14.out⟩, ⟨by repeat (first | (with_reducible first | exact HB.out | apply below_alloc | apply pw_below_drewN | apply below_drew1) | exact HB.out)⟩⟩
                      · rw [if_neg c38] at H
                        exact absurd H (by simp)
                    · rw [if_neg c37] at H
                      have c37b0 : decide (x15_3 < (x14_3.length : Int)) = false := decide_eq_false c37
                      clear c37
                      replace H := Option.bind_eq_some_iff.mp H
                      obtain ⟨t187, A430, H⟩ := H
                      replace H : ((tagbyte_Bytes.f k3 a2).bind fun t188 => ((tagbyte_Expand.f k3 t187 t188).bind fun bt191 => (some (bt191.1 == a2)))) = some r := H
                      have A43 := Aside0.mk A430
                      clear A430
                      replace H := Option.bind_eq_some_iff.mp H
                      obtain ⟨t188, A440, H⟩ := H
                      replace H : ((tagbyte_Expand.f k3 t187 t188).bind fun bt191 => (some (bt191.1 == a2))) = some r := H
                      have A44 := Aside0.mk A440
                      clear A440
                      replace H := Option.bind_eq_some_iff.mp H
                      obtain ⟨⟨t191, t192, t193⟩, A450, H⟩ := H
                      replace H : (some (t191 == a2)) = some r := H
                      have A45 := Aside0.mk A450
                      clear A450
                      obtain rfl := Option.some.inj H
                      obtain ⟨Ao46, co46, eo46⟩ := Kd.R_slice HO_14.out
                      subst eo46
                      go_wp2_with (first | ((with_reducible refine gate_callee (f := 17) rfl ?_); refine goesL_ (some 84) rfl rfl Try.func17 (by kernel_rfl) rfl #[.int .u64 a2] rfl (by (try simp only [List.map_toArray, List.map_cons, List.map_nil]); first | done | rfl | (simp only [List.length_drop, List.length_take]; rfl)) ?_; (with_reducible refine (tagbyte_Of.calls k3 a2 t187 _ A43.out).mono ?_); rintro e w47 ⟨rfl, hb⟩; refine ⟨_, rfl, ?_⟩; have n0_ := Aside0.mk (Kd.R_below (by (with_reducible repeat (first | apply Kd.R_alloc | apply Kd.R_drewN | apply Kd.R_drew)); exact HO_14.out) hb); have n1_ := Aside0.mk (below_step (by repeat (first | (with_reducible first | exact HB.out | apply below_alloc | apply pw_below_drewN | apply below_drew1) | exact HB.out)) hb); clear HO_14; clear HB; have HO_14 := n0_; have HB := n1_; clear n0_ n1_; (try clear hb); (try clear hb2); (try clear hk); (try clear hi)) | ((with_reducible refine gate_callee (f := 20) rfl ?_); refine goesL_ (some 86) rfl rfl Try.func20 (by kernel_rfl) rfl #[.int .u64 a2] rfl (by (try simp only [List.map_toArray, List.map_cons, List.map_nil]); first | done | rfl | (simp only [List.length_drop, List.length_take]; rfl)) ?_; (with_reducible refine (tagbyte_Bytes.calls k3 a2 t188 _ A44.out).mono ?_); rintro e w48 ⟨v189, rfl, ho0, hb⟩; refine ⟨_, rfl, ?_⟩; have n0_ := Aside0.mk (Kd.R_elder' (by (with_reducible repeat (first | apply Kd.R_alloc | apply Kd.R_drewN | apply Kd.R_drew)); exact HO_14.out) (Kd.R_base ho0) hb); have n1_ := Aside0.mk (Kd.R_lower (Kd.R_new' ho0 (Kd.R_lt (by (with_reducible repeat (first | apply Kd.R_alloc | apply Kd.R_drewN | apply Kd.R_drew)); exact HO_14.out))) (below_size (by repeat (first | (with_reducible first | exact HB.out | apply below_alloc | apply pw_below_drewN | apply below_drew1) | exact HB.out)))); have n2_ := Aside0.mk (below_step (by repeat (first | (with_reducible first | exact HB.out | apply below_alloc | apply pw_below_drewN | apply below_drew1) | exact HB.out)) hb); clear HO_14; clear HB; have HO_14 := n0_; have HO190 := n1_; have HB := n2_; clear n0_ n1_ n2_; (try clear hb); (try clear hb2); (try clear hk); (try clear hi); (try clear ho0); obtain ⟨Ao49, co49, eo49⟩ := Kd.R_slice HO190.out; subst eo49) | ((with_reducible refine gate_callee (f := 15) rfl ?_); refine goesL_ (some 87) rfl rfl Try.func15 (by kernel_rfl) rfl #[.int .u8 t187, .slice Ao49 t188.length co49] rfl (by (try simp only [List.map_toArray, List.map_cons, List.map_nil]); first | done | rfl | (simp only [List.length_drop, List.length_take]; rfl)) ?_; (with_reducible refine (tagbyte_Expand.calls k3 t187 _ _ t188 t191 t192 t193 _ ?side1 ?side2 A45.out).mono ?_); (case side1 => repeat (first | exact (Kd.R_reads' HO190.out).2.2 | (with_reducible refine Kd.C_alloc ?_ _) | (with_reducible refine Kd.C_drewN ?_ _) | (with_reducible refine Kd.C_drew ?_))); (case side2 => exact (Kd.R_reads' HO190.out).2.1); rintro e w' ⟨rfl, ⟨nd, rfl⟩⟩; refine ⟨_, rfl, ?_⟩))
                      go_ret
                      exact ⟨by first | rfl | (simp [errW_none, errW_some] <;> rfl) | (simp [*, errW_none, errW_some] <;> rfl), by repeat (first | (with_reducible first | exact HB.out | apply below_alloc | apply pw_below_drewN | apply below_drew1) | exact HB.out)⟩
          · replace c15 := Bool.eq_false_iff.mpr c15
            subst c15
            have H1 : (some false) = some r := by rw [if_neg (show ¬ (false = true) by decide)] at H; exact H
            clear H
            have H := H1
            clear H1
            obtain rfl := Option.some.inj H
            go_wp2_with (first | ((with_reducible refine gate_dst (N := 27) rfl ?_); (try (refine gate_guard (by rfl) ?_; dsimp only)); refine Kd.R_lit (Kd.int .u8) _ 5 ?hg (N := 27) ?hd (xs := ([] : List Int)) (inner := []) (ok := fun _ => True) (okp := fun _ => True) ?hr ?hp (fun _ hk => hk) trivial (Below.refl _ _) (Nat.le_refl _) (by simp) ?_; (case hd => rfl); (case hg => rfl); (case hr => first | (go_simp; done) | (go_simp; rfl)); (case hp => exact (Reps.none _ _)); intro v167 w50 ho51 hb hg_ hnew_; clear hg_ hnew_; (first | rw [← Ny166.out] at ho51 | (simp only [Int.reduceToNat] at ho51; rw [← Ny166.out] at ho51)); have n0_ := Aside0.mk (Kd.R_lower ho51 (below_size (by repeat (first | (with_reducible first | exact HB.out | apply below_alloc | apply pw_below_drewN | apply below_drew1) | exact HB.out)))); have n1_ := Aside0.mk (below_step (by repeat (first | (with_reducible first | exact HB.out | apply below_alloc | apply pw_below_drewN | apply below_drew1) | exact HB.out)) hb); clear HB; have HO168 := n0_; have HB := n1_; clear n0_ n1_; clear hb ho51) | ((with_reducible refine gate_builtin (b := .append) (xs := #[.tmp 27, .tmp 28]) rfl ?_); (try (refine gate_guard (by rfl) ?_; dsimp only)); at_builtin; refine Kd.R_append_rows (Kd.int .u8) (w0 := w) w.heap.size rfl (.tmp 27) (.tmp 28) 23 5 (.int .u8 0) 1 rfl Try.underlying23 info5 rfl (by decide) (by omega) v167 y166 l1 _ _ _ (fun _ => True) (fun _ => False) rfl rfl ?aO ?aR (fun _ _ h => h) (fun _ h => h.elim) ?aF ?aB ?aS ?aL ?_; (case aR => repeat (first | exact (Kd.C_below HR1.out HB.out) | (with_reducible refine Kd.C_alloc ?_ _) | (with_reducible refine Kd.C_drewN ?_ _) | (with_reducible refine Kd.C_drew ?_))); (case aB => exact (by repeat (first | (with_reducible first | exact HB.out | apply below_alloc | apply pw_below_drewN | apply below_drew1) | exact HB.out))); (case aF => exact (fun _ _ => trivial)); (case aO => exact (by (with_reducible repeat (first | apply Kd.R_alloc | apply Kd.R_drewN | apply Kd.R_drew)); exact HO168.out)); (case aS => exact (below_size (by repeat (first | (with_reducible first | exact HB.out | apply below_alloc | apply pw_below_drewN | apply below_drew1) | exact HB.out)))); (case aL => have := LMc12.out; omega); intro v170 w52 ho hb hg hat; rw [← Ny169.out] at ho; have n0_ := Aside0.mk (hb); have n1_ := Aside0.mk (ho); clear HB; clear HO168; have HB := n0_; have HO171 := n1_; clear n0_ n1_; clear ho hb hg hat) | ((with_reducible refine gate_callee (f := 15) rfl ?_); refine goesL_ (some 33) rfl rfl Try.func15 (by kernel_rfl) rfl #[.int .u8 a0, .slice A1 l1.length c1] rfl (by (try simp only [List.map_toArray, List.map_cons, List.map_nil]); first | done | rfl | (simp only [List.length_drop, List.length_take]; rfl)) ?_; (with_reducible refine (tagbyte_Expand.calls kj3 a0 _ _ l1 t172 t173 t174 _ ?side1 ?side2 A13.out).mono ?_); (case side1 => repeat (first | exact (Kd.C_below HR1.out HB.out) | (with_reducible refine Kd.C_alloc ?_ _) | (with_reducible refine Kd.C_drewN ?_ _) | (with_reducible refine Kd.C_drew ?_))); (case side2 => exact HC1.out); rintro e w' ⟨rfl, ⟨nd, rfl⟩⟩; refine ⟨_, rfl, ?_⟩; obtain ⟨Ao53, co53, eo53⟩ := Kd.R_slice HO171.out; subst eo53) | ((with_reducible refine gate_callee (f := 19) rfl ?_); refine goesL_ (some 39) rfl rfl Try.func19 (by kernel_rfl) rfl #[.slice A1 l1.length c1, .slice Ao53 y169.length co53] rfl (by (try simp only [List.map_toArray, List.map_cons, List.map_nil]); first | done | rfl | (simp only [List.length_drop, List.length_take]; rfl)) ?_; (with_reducible refine (capnpref01_Same.calls kj3 _ _ l1 _ _ y169 false _ ?side1 ?side2 ?side3 ?side4 A14.out).mono ?_); (case side1 => repeat (first | exact (Kd.C_below HR1.out (by repeat (first | (with_reducible first | exact HB.out | apply below_alloc | apply pw_below_drewN | apply below_drew1) | exact HB.out))) | (with_reducible refine Kd.C_alloc ?_ _) | (with_reducible refine Kd.C_drewN ?_ _) | (with_reducible refine Kd.C_drew ?_))); (case side2 => exact HC1.out); (case side3 => repeat (first | exact (Kd.R_reads' HO171.out).2.2 | (with_reducible refine Kd.C_alloc ?_ _) | (with_reducible refine Kd.C_drewN ?_ _) | (with_reducible refine Kd.C_drew ?_))); (case side4 => exact (Kd.R_reads' HO171.out).2.1); rintro e w' ⟨rfl, ⟨nd, rfl⟩⟩; refine ⟨_, rfl, ?_⟩))
            go_ret
            exact ⟨by first | rfl | (simp [errW_none, errW_some] <;> rfl) | (simp [*, errW_none, errW_some] <;> rfl), by repeat (first | (with_reducible first | exact HB.out | apply below_alloc | apply pw_below_drewN | apply below_drew1) | exact HB.out)⟩
        · rw [if_neg c12] at H
          exact absurd H (by simp)

/-- THE ONE PURE STATEMENT of capnplaw20_TagbyteKeeps: yours. -/
def capnplaw20_TagbyteKeeps.Pure : Prop := ∀ (a0 : Int) (l1 : List Int) (a2 : Int), (Lit.int .u8 a0).wf = true → l1.length ≤ maxLen → l1.length * 1 ≤ 140737488351232 → (∀ x ∈ l1, (Lit.int .u8 x).wf = true) → (Lit.int .u64 a2).wf = true → ∃ k, capnplaw20_TagbyteKeeps.f k a0 l1 a2 = some true
theorem capnplaw20_TagbyteKeeps.walk (P : capnplaw20_TagbyteKeeps.Pure) (a0 : Int) (a1 : Option Addr) (len1 cap1 : Nat) (z1 : List Int) (a2 : Int) (w : World) (w0 : (Lit.int .u8 a0).wf = true) (w1 : (a1 = none ∧ len1 = 0 ∧ cap1 = 0 ∧ z1 = []) ∨ ∃ x, a1 = some x ∧ len1 ≤ cap1 ∧ cap1 ≤ maxLen ∧ z1.length = cap1 ∧ (∀ i, i < z1.length → w.cell? (x.add i) = some (.int .u8 (z1.getD i 0))) ∧ ∀ n ∈ z1, (Lit.int .u8 n).wf = true) (y1 : len1 * 1 ≤ 140737488351232) (w2 : (Lit.int .u64 a2).wf = true) :
    Calls Try.prog 7 #[.int .u8 a0, .slice a1 len1 cap1, .int .u64 a2] w fun e w' => e = .returned (.bool true) ∧ Below w.heap.size w w' := by
  obtain ⟨l1, rfl, hr1, hm1, hw1, hc1⟩ := ReadsInt.ofRowC w1
  obtain ⟨k, h⟩ := P a0 l1 a2 w0 hm1 y1 hw1 w2
  refine (capnplaw20_TagbyteKeeps.calls k a0 _ _ l1 a2 true w (Kd.C_of_reads (d := (0 : Int)) (h1 := fun _ => rfl) hr1) hc1 h).mono ?_
  rintro e w' ⟨rfl, hd⟩
  exact ⟨rfl, hd⟩

end Go.Proofs.Ytamcadegencfbaa.PTagbyteKeeps
