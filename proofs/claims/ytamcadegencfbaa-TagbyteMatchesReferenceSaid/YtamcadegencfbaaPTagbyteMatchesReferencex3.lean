/- Written by myprint.py, a program of this session: printed functions of a law, and the proofs that the Go code comes to them. -/
import Derived.Test.YtamcadegencfbaaPTagbyteMatchesReferencex0
import Derived.Test.YtamcadegencfbaaPTagbyteMatchesReferencex1
import Derived.Test.YtamcadegencfbaaPTagbyteMatchesReferencex2
namespace Go.Proofs.Ytamcadegencfbaa.PTagbyteMatchesReference
open Go.RowKit Go.Proofs.YtamcadegencfbaaW.PrintWords Go.Proofs.YtamcadegencfbaaW.PrintLast Go.Proofs.YtamcadegencfbaaW.PrintMore
attribute [local go_sem] max2_int min2_int max_two min_two max_three min_three max_four min_four   -- for this text's walks alone
set_option linter.unusedVariables false
set_option linter.unusedSimpArgs false

/-! ### capnpref01_Bytes: function 37 -/
mutual
def capnpref01_Bytes.l0 : Nat → List Int → List Int → Int → Option (List Int)
  | 0, _, _, _ => none
  | k + 1, x0, x3, x4 => if x4 < (x0.length : Int) then (if 0 ≤ x4 then (capnpref01_Bytes.l1 k x0 x3 x4 (rd x0 x4) 0) else (none)) else (some x3)
def capnpref01_Bytes.l1 : Nat → List Int → List Int → Int → Int → Int → Option (List Int)
  | 0, _, _, _, _, _ => none
  | k + 1, x0, x3, x4, x5, x6 => if x6 < 8 then (if x3.length < 140737488355328 then (capnpref01_Bytes.l1 k x0 (x3 ++ [(Int.tmod x5 256) % 256]) x4 (IntKind.u64.wrap (Int.tdiv x5 256)) (wrap64 (x6 + 1))) else (none)) else (capnpref01_Bytes.l0 k x0 x3 (wrap64 (x4 + 1)))
end
def capnpref01_Bytes.f (k : Nat) (l0 : List Int) : Option (List Int) := capnpref01_Bytes.l0 k l0 ([] : List Int) 0
theorem capnpref01_Bytes.mono_l : ∀ k, (∀ y0 y1 y2, LeO (capnpref01_Bytes.l0 k y0 y1 y2) (capnpref01_Bytes.l0 (k + 1) y0 y1 y2)) ∧ (∀ y0 y1 y2 y3 y4, LeO (capnpref01_Bytes.l1 k y0 y1 y2 y3 y4) (capnpref01_Bytes.l1 (k + 1) y0 y1 y2 y3 y4))
  | 0 => ⟨fun _ _ _ r h => by simp [capnpref01_Bytes.l0] at h, fun _ _ _ _ _ r h => by simp [capnpref01_Bytes.l1] at h⟩
  | k + 1 => by
    obtain ⟨ih0, ih1⟩ := capnpref01_Bytes.mono_l k
    refine ⟨?_, ?_⟩
    · intro y0 y1 y2
      unfold capnpref01_Bytes.l0
      repeat' first
      | (with_reducible exact ih0 _ _ _)
      | (with_reducible exact ih1 _ _ _ _ _)
      | (with_reducible exact LeO.refl _)
      | (with_reducible exact LeO.none _)
      | (with_reducible refine LeO.ite ?_ ?_)
      | (with_reducible refine LeO.bind ?_ (fun _ => ?_))
      | exact ih0 _ _ _
      | exact ih1 _ _ _ _ _
      | exact LeO.none _
      | refine LeO.ite ?_ ?_
      | refine LeO.bind ?_ (fun _ => ?_)
    · intro y0 y1 y2 y3 y4
      unfold capnpref01_Bytes.l1
      repeat' first
      | (with_reducible exact ih0 _ _ _)
      | (with_reducible exact ih1 _ _ _ _ _)
      | (with_reducible exact LeO.refl _)
      | (with_reducible exact LeO.none _)
      | (with_reducible refine LeO.ite ?_ ?_)
      | (with_reducible refine LeO.bind ?_ (fun _ => ?_))
      | exact ih0 _ _ _
      | exact ih1 _ _ _ _ _
      | exact LeO.none _
      | refine LeO.ite ?_ ?_
      | refine LeO.bind ?_ (fun _ => ?_)
theorem capnpref01_Bytes.mono : ∀ a0 k, LeO (capnpref01_Bytes.f k a0) (capnpref01_Bytes.f (k + 1) a0) := by
  intro a0 k
  obtain ⟨ih0, ih1⟩ := capnpref01_Bytes.mono_l k
  unfold capnpref01_Bytes.f
  repeat' first
      | (with_reducible exact ih0 _ _ _)
      | (with_reducible exact ih1 _ _ _ _ _)
      | (with_reducible exact LeO.refl _)
      | (with_reducible exact LeO.none _)
      | (with_reducible refine LeO.ite ?_ ?_)
      | (with_reducible refine LeO.bind ?_ (fun _ => ?_))
      | exact ih0 _ _ _
      | exact ih1 _ _ _ _ _
      | exact LeO.none _
      | refine LeO.ite ?_ ?_
      | refine LeO.bind ?_ (fun _ => ?_)
set_option maxHeartbeats 8000000 in
set_option maxRecDepth 100000 in
theorem capnpref01_Bytes.calls (k : Nat) (A0 : Option Addr) (c0 : Nat) (l0 : List Int) (r : List Int) (w : World) (hr0 : Kd.C (Kd.int .u64) w A0 l0.length l0) (hc0 : l0.length ≤ c0) (h : capnpref01_Bytes.f k l0 = some r) :
    Calls Try.prog 37 #[.slice A0 l0.length c0] w fun e w' => ∃ v0_ : Value, e = .returned (v0_) ∧ Kd.R (Kd.int .u8) 5 w' w.heap.size (fun _ => True) v0_ r ∧ Below w.heap.size w w' := by
  have HR0 := Aside0.mk hr0
  have HC0 := Aside0.mk hc0
  clear hr0 hc0
  have HB := Aside0.mk (Below.refl w.heap.size w)
  have H : (capnpref01_Bytes.l0 k l0 ([] : List Int) 0) = some r := h
  clear h
  have H' := Aside0.mk H
  clear H
  go_enter Try.func37, Try.ntmps37
  go_wp2
  go_loopg [3, 4] k (fun kq v3 v4 w' => ∃ (x3_1 : List Int) (x4_1 : Int), v4 = .int .i64 x4_1 ∧ Aside0 (capnpref01_Bytes.l0 kq l0 x3_1 x4_1 = some r) ∧ Aside0 (kq ≤ k) ∧ Aside0 (Kd.R (Kd.int .u8) 5 w' w.heap.size (fun _ => True) v3 x3_1) ∧ Aside0 (Below w.heap.size w w'))
  case atStart => exact ⟨(([] : List Int)), (0), (by first | rfl | (simp; done) | (simp [*]; done)), H', ⟨Nat.le_refl _⟩, ⟨by first | exact Kd.R_nil _ _ _ _ _ | exact Kd.N_nil _ _ _ _ _ | exact Kd.V_nil _ _ _ _ _ | exact Kd.Q_nil _ _ _ _ _ | exact Kd.S_nil _ _ _ _ _⟩, ⟨by repeat (first | (with_reducible first | exact HB.out | apply below_alloc | apply pw_below_drewN | apply below_drew1) | exact HB.out)⟩⟩
  case round =>
    clear H'
    obtain ⟨x3_1, x4_1, rfl, HA, HK1, HO_3, HB⟩ := hrel
    cases gk with
    | zero => exact absurd HA.out (by simp [capnpref01_Bytes.l0])
    | succ k1 =>
      have H := HA.out
      clear HA
      simp only [capnpref01_Bytes.l0] at H
      by_cases c2 : x4_1 < (l0.length : Int)
      · rw [if_pos c2] at H
        have c2b0 : decide (x4_1 < (l0.length : Int)) = true := decide_eq_true c2
        clear c2
        by_cases c3 : 0 ≤ x4_1
        · rw [if_pos c3] at H
          have c3b0 : decide (0 ≤ x4_1) = true := decide_eq_true c3
          clear c3
          have H' := Aside0.mk H
          clear H
          have p175 : 0 ≤ (x4_1 : Int) := of_decide_eq_true (by first | (with_reducible assumption) | assumption)
          have q175 : x4_1 < (l0.length : Int) := of_decide_eq_true (by first | (with_reducible assumption) | assumption)
          obtain ⟨ad175, e175, hx175_0⟩ := Kd.at_int HR0.out x4_1 p175 q175
          cases e175
          replace hx175_0 := (HB.out.cell (World.block_lt_of_cell? w _ hx175_0)).trans hx175_0
          replace p175 := eq_true p175
          replace q175 := eq_true q175
          go_wp2
          go_loopg [3, 5, 6] k1 (fun kq v3 v5 v6 w' => ∃ (x3_2 : List Int) (x5_2 : Int) (x6_2 : Int), v5 = .int .u64 x5_2 ∧ v6 = .int .i64 x6_2 ∧ Aside0 (capnpref01_Bytes.l1 kq l0 x3_2 x4_1 x5_2 x6_2 = some r) ∧ Aside0 (kq ≤ k1) ∧ Aside0 (Kd.R (Kd.int .u8) 5 w' w.heap.size (fun _ => True) v3 x3_2) ∧ Aside0 (Below w.heap.size w w'))
          case atStart => exact ⟨(x3_1), (rd l0 x4_1), (0), (by first | rfl | (simp; done) | (simp [*]; done)), (by first | rfl | (simp; done) | (simp [*]; done)), H', ⟨Nat.le_refl _⟩, ⟨by (with_reducible repeat (first | apply Kd.R_alloc | apply Kd.R_drewN | apply Kd.R_drew)); exact HO_3.out⟩, ⟨by repeat (first | (with_reducible first | exact HB.out | apply below_alloc | apply pw_below_drewN | apply below_drew1) | exact HB.out)⟩⟩
          case round =>
            clear H'
            try clear p1
            try clear q1
            try clear hx1
            try clear c2
            try clear c2b0
            try clear p2
            try clear c3
            try clear c3b0
            try clear hx175_0
            try clear p175
            try clear q175
            obtain ⟨x3_2, x5_2, x6_2, rfl, rfl, HA, HK2, HO_3, HB⟩ := hrel
            cases gk with
            | zero => exact absurd HA.out (by simp [capnpref01_Bytes.l1])
            | succ k2 =>
              have H := HA.out
              clear HA
              simp only [capnpref01_Bytes.l1] at H
              by_cases c4 : x6_2 < 8
              · rw [if_pos c4] at H
                have c4b0 : decide (x6_2 < 8) = true := decide_eq_true c4
                clear c4
                by_cases c5 : x3_2.length < 140737488355328
                · rw [if_pos c5] at H
                  have LMc5 := Aside0.mk c5
                  clear c5
                  obtain ⟨y176, hy176⟩ : ∃ y_ : List Int, y_ = (x3_2 ++ [(Int.tmod x5_2 256) % 256]) := ⟨_, rfl⟩
                  replace H : (capnpref01_Bytes.l1 k2 l0 y176 x4_1 (IntKind.u64.wrap (Int.tdiv x5_2 256)) (wrap64 (x6_2 + 1))) = some r := by first | (rw [hy176]; with_reducible exact H) | (have H2_ := (Option.bind_some _ _).symm.trans H; rw [hy176]; with_reducible exact H2_) | (have H2_ := (Option.bind_some _ _).symm.trans H; with_reducible exact H2_) | with_reducible exact H | (rw [hy176]; exact H) | exact H
                  have Ny176 := Aside0.mk hy176
                  clear hy176
                  have H' := Aside0.mk H
                  clear H
                  go_wp2_with (first | ((with_reducible refine gate_builtin (b := .append) (xs := #[.tmp 21, .tmp 25]) rfl ?_); at_builtin; refine Kd.R_append (Kd.int .u8) (w0 := w) w.heap.size rfl (.tmp 21) (.tmp 25) 23 5 (.int .u8 0) 1 rfl Try.underlying23 info5 rfl (by decide) (by omega) u3 x3_2 ((Int.tmod x5_2 256) % 256) [.int .u8 ((Int.tmod x5_2 256) % 256)] (fun _ => True) (fun _ => False) rfl rfl ?aP (fun _ hk => hk.elim) ?aF ?aO ?aB ?aS ?aL ?_; (case aP => exact rfl); (case aB => exact (by repeat (first | (with_reducible first | exact HB.out | apply below_alloc | apply pw_below_drewN | apply below_drew1) | exact HB.out))); (case aF => exact (fun _ _ => trivial)); (case aO => exact (by (with_reducible repeat (first | apply Kd.R_alloc | apply Kd.R_drewN | apply Kd.R_drew)); exact HO_3.out)); (case aS => exact (below_size (by repeat (first | (with_reducible first | exact HB.out | apply below_alloc | apply pw_below_drewN | apply below_drew1) | exact HB.out)))); (case aL => have := LMc5.out; omega); intro v177 w6 ho hb hg hat; rw [← Ny176.out] at ho; have n0_ := Aside0.mk (hb); have n1_ := Aside0.mk (ho); clear HB; clear HO_3; have HB := n0_; have HO178 := n1_; clear n0_ n1_; clear ho hb hg hat))
                  go_roundg k2
                  case measure => have := HK1.out; have := HK2.out; omega
                  case rel => exact ⟨(y176), (IntKind.u64.wrap (Int.tdiv x5_2 256)), (wrap64 (x6_2 + 1)), (by first | rfl | (simp; done) | (simp [*]; done)), (by first | rfl | (simp; done) | (simp [*]; done)), H', ⟨by have := HK1.out; have := HK2.out; omega⟩, ⟨by (with_reducible repeat (first | apply Kd.R_alloc | apply Kd.R_drewN | apply Kd.R_drew)); exact HO178.out⟩, ⟨by repeat (first | (with_reducible first | exact HB.out | apply below_alloc | apply pw_below_drewN | apply below_drew1) | exact HB.out)⟩⟩
                · rw [if_neg c5] at H
                  exact absurd H (by simp)
              · rw [if_neg c4] at H
                have c4b0 : decide (x6_2 < 8) = false := decide_eq_false c4
                clear c4
                have H' := Aside0.mk H
                clear H
                go_wp2
                go_roundg k2
                case measure => have := HK1.out; have := HK2.out; omega
                case rel => exact ⟨(x3_2), (wrap64 (x4_1 + 1)), (by first | rfl | (simp; done) | (simp [*]; done)), H', ⟨by have := HK1.out; have := HK2.out; omega⟩, ⟨by (with_reducible repeat (first | apply Kd.R_alloc | apply Kd.R_drewN | apply Kd.R_drew)); exact HO_3.out⟩, ⟨by repeat (first | (with_reducible first | exact HB.out | apply below_alloc | apply pw_below_drewN | apply below_drew1) | exact HB.out)⟩⟩
        · rw [if_neg c3] at H
          exact absurd H (by simp)
      · rw [if_neg c2] at H
        have c2b0 : decide (x4_1 < (l0.length : Int)) = false := decide_eq_false c2
        clear c2
        obtain rfl := Option.some.inj H
        go_wp2
        go_ret
        exact ⟨_, by first | rfl | (simp [errW_none, errW_some] <;> rfl) | (simp [*, errW_none, errW_some] <;> rfl), by (with_reducible repeat (first | apply Kd.R_alloc | apply Kd.R_drewN | apply Kd.R_drew)); exact HO_3.out, by repeat (first | (with_reducible first | exact HB.out | apply below_alloc | apply pw_below_drewN | apply below_drew1) | exact HB.out)⟩

/-! ### capnpref20_Of: function 18 -/
def capnpref20_Of.l0 : Nat → List Int → Int → Int → Int → Option (Int)
  | 0, _, _, _, _ => none
  | k + 1, x3, x4, x5, x6 => if x6 < 8 then (if 0 ≤ x6 then (if x6 < (x3.length : Int) then (if (rd x3 x6) = 0 then (capnpref20_Of.l0 k x3 x4 (wrap64 (x5 * 2)) (wrap64 (x6 + 1))) else (capnpref20_Of.l0 k x3 (wrap64 (x4 + x5)) (wrap64 (x5 * 2)) (wrap64 (x6 + 1)))) else (none)) else (none)) else (some ((x4) % 256))
def capnpref20_Of.f (k : Nat) (a0 : Int) : Option (Int) := (capnpref01_Bytes.f k (([a0] : List Int))).bind fun t182 => (capnpref20_Of.l0 k t182 0 1 0)
theorem capnpref20_Of.mono_l : ∀ k, (∀ y0 y1 y2 y3, LeO (capnpref20_Of.l0 k y0 y1 y2 y3) (capnpref20_Of.l0 (k + 1) y0 y1 y2 y3))
  | 0 => fun _ _ _ _ r h => by simp [capnpref20_Of.l0] at h
  | k + 1 => by
    have ih0 := capnpref20_Of.mono_l k
    · intro y0 y1 y2 y3
      unfold capnpref20_Of.l0
      repeat' first
      | (with_reducible exact ih0 _ _ _ _)
      | (with_reducible exact capnpref01_Bytes.mono _ _)
      | (with_reducible exact LeO.refl _)
      | (with_reducible exact LeO.none _)
      | (with_reducible refine LeO.ite ?_ ?_)
      | (with_reducible refine LeO.bind ?_ (fun _ => ?_))
      | exact ih0 _ _ _ _
      | exact capnpref01_Bytes.mono _ _
      | exact LeO.none _
      | refine LeO.ite ?_ ?_
      | refine LeO.bind ?_ (fun _ => ?_)
theorem capnpref20_Of.mono : ∀ a0 k, LeO (capnpref20_Of.f k a0) (capnpref20_Of.f (k + 1) a0) := by
  intro a0 k
  have ih0 := capnpref20_Of.mono_l k
  unfold capnpref20_Of.f
  repeat' first
      | (with_reducible exact ih0 _ _ _ _)
      | (with_reducible exact capnpref01_Bytes.mono _ _)
      | (with_reducible exact LeO.refl _)
      | (with_reducible exact LeO.none _)
      | (with_reducible refine LeO.ite ?_ ?_)
      | (with_reducible refine LeO.bind ?_ (fun _ => ?_))
      | exact ih0 _ _ _ _
      | exact capnpref01_Bytes.mono _ _
      | exact LeO.none _
      | refine LeO.ite ?_ ?_
      | refine LeO.bind ?_ (fun _ => ?_)
set_option maxHeartbeats 8000000 in
set_option maxRecDepth 100000 in
theorem capnpref20_Of.calls (k : Nat) (a0 : Int) (r : Int) (w : World) (h : capnpref20_Of.f k a0 = some r) :
    Calls Try.prog 18 #[.int .u64 a0] w fun e w' => e = .returned (.int .u8 r) ∧ Below w.heap.size w w' := by
  have HB := Aside0.mk (Below.refl w.heap.size w)
  have H : ((capnpref01_Bytes.f k (([a0] : List Int))).bind fun t182 => (capnpref20_Of.l0 k t182 0 1 0)) = some r := h
  clear h
  obtain ⟨y179, hy179⟩ : ∃ y_ : List Int, y_ = (([a0] : List Int)) := ⟨_, rfl⟩
  replace H : ((capnpref01_Bytes.f k y179).bind fun t182 => (capnpref20_Of.l0 k t182 0 1 0)) = some r := by first | (rw [hy179]; with_reducible exact H) | (have H2_ := (Option.bind_some _ _).symm.trans H; rw [hy179]; with_reducible exact H2_) | (have H2_ := (Option.bind_some _ _).symm.trans H; with_reducible exact H2_) | with_reducible exact H | (rw [hy179]; exact H) | exact H
  have Ny179 := Aside0.mk hy179
  clear hy179
  replace H := Option.bind_eq_some_iff.mp H
  obtain ⟨t182, A20, H⟩ := H
  replace H : (capnpref20_Of.l0 k t182 0 1 0) = some r := H
  have A2 := Aside0.mk A20
  clear A20
  have H' := Aside0.mk H
  clear H
  go_enter Try.func18, Try.ntmps18
  go_wp2_with (first | ((with_reducible refine gate_dst (N := 8) rfl ?_); refine Kd.R_lit (Kd.int .u64) _ 22 ?hg (N := 8) ?hd (xs := ([a0] : List Int)) (inner := [.int .u64 a0]) (ok := fun _ => True) (okp := fun _ => True) ?hr ?hp (fun _ hk => hk) trivial (Below.refl _ _) (Nat.le_refl _) (by simp) ?_; (case hd => rfl); (case hg => rfl); (case hr => first | (go_simp; done) | (go_simp; rfl)); (case hp => exact (Reps.one (show Kd.M (Kd.int .u64) _ _ _ a0 [.int .u64 a0] from rfl) (Reps.none _ _))); intro v180 w3 ho4 hb hg_ hnew_; clear hg_ hnew_; (first | rw [← Ny179.out] at ho4 | (simp only [Int.reduceToNat] at ho4; rw [← Ny179.out] at ho4)); have n0_ := Aside0.mk (Kd.R_lower ho4 (below_size (by repeat (first | (with_reducible first | exact HB.out | apply below_alloc | apply pw_below_drewN | apply below_drew1) | exact HB.out)))); have n1_ := Aside0.mk (below_step (by repeat (first | (with_reducible first | exact HB.out | apply below_alloc | apply pw_below_drewN | apply below_drew1) | exact HB.out)) hb); clear HB; have HO181 := n0_; have HB := n1_; clear n0_ n1_; clear hb ho4; obtain ⟨Ao5, co5, eo5⟩ := Kd.R_slice HO181.out; subst eo5) | ((with_reducible refine gate_callee (f := 37) rfl ?_); refine goesL_ (some 9) rfl rfl Try.func37 (by kernel_rfl) rfl #[.slice Ao5 y179.length co5] rfl (by (try simp only [List.map_toArray, List.map_cons, List.map_nil]); first | done | rfl | (simp only [List.length_drop, List.length_take]; rfl)) ?_; (with_reducible refine (capnpref01_Bytes.calls k _ _ y179 t182 _ ?side1 ?side2 A2.out).mono ?_); (case side1 => repeat (first | exact (Kd.R_reads' HO181.out).2.2 | (with_reducible refine Kd.C_alloc ?_ _) | (with_reducible refine Kd.C_drewN ?_ _) | (with_reducible refine Kd.C_drew ?_))); (case side2 => exact (Kd.R_reads' HO181.out).2.1); rintro e w6 ⟨v183, rfl, ho0, hb⟩; refine ⟨_, rfl, ?_⟩; have n0_ := Aside0.mk (Kd.R_below (by (with_reducible repeat (first | apply Kd.R_alloc | apply Kd.R_drewN | apply Kd.R_drew)); exact HO181.out) hb); have n1_ := Aside0.mk (Kd.R_lower ho0 (below_size (by repeat (first | (with_reducible first | exact HB.out | apply below_alloc | apply pw_below_drewN | apply below_drew1) | exact HB.out)))); have n2_ := Aside0.mk (below_step (by repeat (first | (with_reducible first | exact HB.out | apply below_alloc | apply pw_below_drewN | apply below_drew1) | exact HB.out)) hb); clear HO181; clear HB; have HO181 := n0_; have HO184 := n1_; have HB := n2_; clear n0_ n1_ n2_; (try clear hb); (try clear hb2); (try clear hk); (try clear hi); (try clear ho0)))
  go_loopg [4, 5, 6] k (fun kq v4 v5 v6 w' => ∃ (x4_1 : Int) (x5_1 : Int) (x6_1 : Int), v4 = .int .i64 x4_1 ∧ v5 = .int .i64 x5_1 ∧ v6 = .int .i64 x6_1 ∧ Aside0 (capnpref20_Of.l0 kq t182 x4_1 x5_1 x6_1 = some r) ∧ Aside0 (kq ≤ k) ∧ Aside0 (Kd.R (Kd.int .u8) 5 w' w.heap.size (fun _ => True) v183 t182) ∧ Aside0 (Below w.heap.size w w'))
  case atStart => exact ⟨(0), (1), (0), (by first | rfl | (simp; done) | (simp [*]; done)), (by first | rfl | (simp; done) | (simp [*]; done)), (by first | rfl | (simp; done) | (simp [*]; done)), H', ⟨Nat.le_refl _⟩, ⟨by (with_reducible repeat (first | apply Kd.R_alloc | apply Kd.R_drewN | apply Kd.R_drew)); exact HO184.out⟩, ⟨by repeat (first | (with_reducible first | exact HB.out | apply below_alloc | apply pw_below_drewN | apply below_drew1) | exact HB.out)⟩⟩
  case round =>
    clear H'
    try clear c1
    try clear p2
    try clear c3
    obtain ⟨x4_1, x5_1, x6_1, rfl, rfl, rfl, HA, HK1, HO_3, HB⟩ := hrel
    cases gk with
    | zero => exact absurd HA.out (by simp [capnpref20_Of.l0])
    | succ k1 =>
      have H := HA.out
      clear HA
      simp only [capnpref20_Of.l0] at H
      by_cases c7 : x6_1 < 8
      · rw [if_pos c7] at H
        have c7b0 : decide (x6_1 < 8) = true := decide_eq_true c7
        clear c7
        by_cases c8 : 0 ≤ x6_1
        · rw [if_pos c8] at H
          have c8b0 : decide (0 ≤ x6_1) = true := decide_eq_true c8
          clear c8
          by_cases c9 : x6_1 < (t182.length : Int)
          · rw [if_pos c9] at H
            have c9b0 : decide (x6_1 < (t182.length : Int)) = true := decide_eq_true c9
            clear c9
            by_cases c10 : (rd t182 x6_1) = 0
            · rw [if_pos c10] at H
              have c10b0 : ((rd t182 x6_1) == 0) = true := beq_iff_eq.mpr c10
              have c10b1 : ((rd t182 x6_1) != 0) = false := bne_eq_false_iff_eq.mpr c10
              clear c10
              have H' := Aside0.mk H
              clear H
              obtain ⟨Ao11, co11, eo11⟩ := Kd.R_slice HO_3.out
              subst eo11
              have p185 : 0 ≤ (x6_1 : Int) := of_decide_eq_true (by first | (with_reducible assumption) | assumption)
              have q185 : x6_1 < (t182.length : Int) := of_decide_eq_true (by first | (with_reducible assumption) | assumption)
              obtain ⟨ad185, e185, hx185_0⟩ := Kd.at_int (Kd.R_reads' HO_3.out).2.2 x6_1 p185 q185
              cases e185
              replace p185 := eq_true p185
              replace q185 := eq_true q185
              go_wp2
              go_roundg k1
              case measure => have := HK1.out; omega
              case rel => exact ⟨(x4_1), (wrap64 (x5_1 * 2)), (wrap64 (x6_1 + 1)), (by first | rfl | (simp; done) | (simp [*]; done)), (by first | rfl | (simp; done) | (simp [*]; done)), (by first | rfl | (simp; done) | (simp [*]; done)), H', ⟨by have := HK1.out; omega⟩, ⟨by (with_reducible repeat (first | apply Kd.R_alloc | apply Kd.R_drewN | apply Kd.R_drew)); exact HO_3.out⟩, ⟨by repeat (first | (with_reducible first | exact HB.out | apply below_alloc | apply pw_below_drewN | apply below_drew1) | exact HB.out)⟩⟩
            · rw [if_neg c10] at H
              have c10b0 : ((rd t182 x6_1) == 0) = false := beq_eq_false_iff_ne.mpr c10
              have c10b1 : ((rd t182 x6_1) != 0) = true := bne_iff_ne.mpr c10
              have H' := Aside0.mk H
              clear H
              obtain ⟨Ao12, co12, eo12⟩ := Kd.R_slice HO_3.out
              subst eo12
              have p185 : 0 ≤ (x6_1 : Int) := of_decide_eq_true (by first | (with_reducible assumption) | assumption)
              have q185 : x6_1 < (t182.length : Int) := of_decide_eq_true (by first | (with_reducible assumption) | assumption)
              obtain ⟨ad185, e185, hx185_0⟩ := Kd.at_int (Kd.R_reads' HO_3.out).2.2 x6_1 p185 q185
              cases e185
              replace p185 := eq_true p185
              replace q185 := eq_true q185
              go_wp2
              go_roundg k1
              case measure => have := HK1.out; omega
              case rel => exact ⟨(wrap64 (x4_1 + x5_1)), (wrap64 (x5_1 * 2)), (wrap64 (x6_1 + 1)), (by first | rfl | (simp; done) | (simp [*]; done)), (by first | rfl | (simp; done) | (simp [*]; done)), (by first | rfl | (simp; done) | (simp [*]; done)), H', ⟨by have := HK1.out; omega⟩, ⟨by (with_reducible repeat (first | apply Kd.R_alloc | apply Kd.R_drewN | apply Kd.R_drew)); exact HO_3.out⟩, ⟨by repeat (first | (with_reducible first | exact HB.out | apply below_alloc | apply pw_below_drewN | apply below_drew1) | exact HB.out)⟩⟩
          · rw [if_neg c9] at H
            exact absurd H (by simp)
        · rw [if_neg c8] at H
          exact absurd H (by simp)
      · rw [if_neg c7] at H
        have c7b0 : decide (x6_1 < 8) = false := decide_eq_false c7
        clear c7
        obtain rfl := Option.some.inj H
        go_wp2
        go_ret
        exact ⟨by first | rfl | (simp [errW_none, errW_some] <;> rfl) | (simp [*, errW_none, errW_some] <;> rfl), by repeat (first | (with_reducible first | exact HB.out | apply below_alloc | apply pw_below_drewN | apply below_drew1) | exact HB.out)⟩

/-! ### capnpref20_Bytes: function 21 -/
def capnpref20_Bytes.l0 : Nat → List Int → List Int → Int → Option (List Int)
  | 0, _, _, _ => none
  | k + 1, x3, x4, x5 => if x5 < 8 then (if 0 ≤ x5 then (if x5 < (x3.length : Int) then (if (rd x3 x5) = 0 then (capnpref20_Bytes.l0 k x3 x4 (wrap64 (x5 + 1))) else (if x4.length < 140737488355328 then (capnpref20_Bytes.l0 k x3 (x4 ++ [rd x3 x5]) (wrap64 (x5 + 1))) else (none))) else (none)) else (none)) else (some x4)
def capnpref20_Bytes.f (k : Nat) (a0 : Int) : Option (List Int) := (capnpref01_Bytes.f k (([a0] : List Int))).bind fun t189 => (capnpref20_Bytes.l0 k t189 ([] : List Int) 0)
theorem capnpref20_Bytes.mono_l : ∀ k, (∀ y0 y1 y2, LeO (capnpref20_Bytes.l0 k y0 y1 y2) (capnpref20_Bytes.l0 (k + 1) y0 y1 y2))
  | 0 => fun _ _ _ r h => by simp [capnpref20_Bytes.l0] at h
  | k + 1 => by
    have ih0 := capnpref20_Bytes.mono_l k
    · intro y0 y1 y2
      unfold capnpref20_Bytes.l0
      repeat' first
      | (with_reducible exact ih0 _ _ _)
      | (with_reducible exact capnpref01_Bytes.mono _ _)
      | (with_reducible exact LeO.refl _)
      | (with_reducible exact LeO.none _)
      | (with_reducible refine LeO.ite ?_ ?_)
      | (with_reducible refine LeO.bind ?_ (fun _ => ?_))
      | exact ih0 _ _ _
      | exact capnpref01_Bytes.mono _ _
      | exact LeO.none _
      | refine LeO.ite ?_ ?_
      | refine LeO.bind ?_ (fun _ => ?_)
theorem capnpref20_Bytes.mono : ∀ a0 k, LeO (capnpref20_Bytes.f k a0) (capnpref20_Bytes.f (k + 1) a0) := by
  intro a0 k
  have ih0 := capnpref20_Bytes.mono_l k
  unfold capnpref20_Bytes.f
  repeat' first
      | (with_reducible exact ih0 _ _ _)
      | (with_reducible exact capnpref01_Bytes.mono _ _)
      | (with_reducible exact LeO.refl _)
      | (with_reducible exact LeO.none _)
      | (with_reducible refine LeO.ite ?_ ?_)
      | (with_reducible refine LeO.bind ?_ (fun _ => ?_))
      | exact ih0 _ _ _
      | exact capnpref01_Bytes.mono _ _
      | exact LeO.none _
      | refine LeO.ite ?_ ?_
      | refine LeO.bind ?_ (fun _ => ?_)
set_option maxHeartbeats 8000000 in
set_option maxRecDepth 100000 in
theorem capnpref20_Bytes.calls (k : Nat) (a0 : Int) (r : List Int) (w : World) (h : capnpref20_Bytes.f k a0 = some r) :
    Calls Try.prog 21 #[.int .u64 a0] w fun e w' => ∃ v0_ : Value, e = .returned (v0_) ∧ Kd.R (Kd.int .u8) 5 w' w.heap.size (fun _ => True) v0_ r ∧ Below w.heap.size w w' := by
  have HB := Aside0.mk (Below.refl w.heap.size w)
  have H : ((capnpref01_Bytes.f k (([a0] : List Int))).bind fun t189 => (capnpref20_Bytes.l0 k t189 ([] : List Int) 0)) = some r := h
  clear h
  obtain ⟨y186, hy186⟩ : ∃ y_ : List Int, y_ = (([a0] : List Int)) := ⟨_, rfl⟩
  replace H : ((capnpref01_Bytes.f k y186).bind fun t189 => (capnpref20_Bytes.l0 k t189 ([] : List Int) 0)) = some r := by first | (rw [hy186]; with_reducible exact H) | (have H2_ := (Option.bind_some _ _).symm.trans H; rw [hy186]; with_reducible exact H2_) | (have H2_ := (Option.bind_some _ _).symm.trans H; with_reducible exact H2_) | with_reducible exact H | (rw [hy186]; exact H) | exact H
  have Ny186 := Aside0.mk hy186
  clear hy186
  replace H := Option.bind_eq_some_iff.mp H
  obtain ⟨t189, A20, H⟩ := H
  replace H : (capnpref20_Bytes.l0 k t189 ([] : List Int) 0) = some r := H
  have A2 := Aside0.mk A20
  clear A20
  have H' := Aside0.mk H
  clear H
  go_enter Try.func21, Try.ntmps21
  go_wp2_with (first | ((with_reducible refine gate_dst (N := 7) rfl ?_); refine Kd.R_lit (Kd.int .u64) _ 22 ?hg (N := 7) ?hd (xs := ([a0] : List Int)) (inner := [.int .u64 a0]) (ok := fun _ => True) (okp := fun _ => True) ?hr ?hp (fun _ hk => hk) trivial (Below.refl _ _) (Nat.le_refl _) (by simp) ?_; (case hd => rfl); (case hg => rfl); (case hr => first | (go_simp; done) | (go_simp; rfl)); (case hp => exact (Reps.one (show Kd.M (Kd.int .u64) _ _ _ a0 [.int .u64 a0] from rfl) (Reps.none _ _))); intro v187 w3 ho4 hb hg_ hnew_; clear hg_ hnew_; (first | rw [← Ny186.out] at ho4 | (simp only [Int.reduceToNat] at ho4; rw [← Ny186.out] at ho4)); have n0_ := Aside0.mk (Kd.R_lower ho4 (below_size (by repeat (first | (with_reducible first | exact HB.out | apply below_alloc | apply pw_below_drewN | apply below_drew1) | exact HB.out)))); have n1_ := Aside0.mk (below_step (by repeat (first | (with_reducible first | exact HB.out | apply below_alloc | apply pw_below_drewN | apply below_drew1) | exact HB.out)) hb); clear HB; have HO188 := n0_; have HB := n1_; clear n0_ n1_; clear hb ho4; obtain ⟨Ao5, co5, eo5⟩ := Kd.R_slice HO188.out; subst eo5) | ((with_reducible refine gate_callee (f := 37) rfl ?_); refine goesL_ (some 8) rfl rfl Try.func37 (by kernel_rfl) rfl #[.slice Ao5 y186.length co5] rfl (by (try simp only [List.map_toArray, List.map_cons, List.map_nil]); first | done | rfl | (simp only [List.length_drop, List.length_take]; rfl)) ?_; (with_reducible refine (capnpref01_Bytes.calls k _ _ y186 t189 _ ?side1 ?side2 A2.out).mono ?_); (case side1 => repeat (first | exact (Kd.R_reads' HO188.out).2.2 | (with_reducible refine Kd.C_alloc ?_ _) | (with_reducible refine Kd.C_drewN ?_ _) | (with_reducible refine Kd.C_drew ?_))); (case side2 => exact (Kd.R_reads' HO188.out).2.1); rintro e w6 ⟨v190, rfl, ho0, hb⟩; refine ⟨_, rfl, ?_⟩; have n0_ := Aside0.mk (Kd.R_below (by (with_reducible repeat (first | apply Kd.R_alloc | apply Kd.R_drewN | apply Kd.R_drew)); exact HO188.out) hb); have n1_ := Aside0.mk (Kd.R_lower ho0 (below_size (by repeat (first | (with_reducible first | exact HB.out | apply below_alloc | apply pw_below_drewN | apply below_drew1) | exact HB.out)))); have n2_ := Aside0.mk (below_step (by repeat (first | (with_reducible first | exact HB.out | apply below_alloc | apply pw_below_drewN | apply below_drew1) | exact HB.out)) hb); clear HO188; clear HB; have HO188 := n0_; have HO191 := n1_; have HB := n2_; clear n0_ n1_ n2_; (try clear hb); (try clear hb2); (try clear hk); (try clear hi); (try clear ho0)))
  go_loopg [4, 5] k (fun kq v4 v5 w' => ∃ (x4_1 : List Int) (x5_1 : Int), v5 = .int .i64 x5_1 ∧ Aside0 (capnpref20_Bytes.l0 kq t189 x4_1 x5_1 = some r) ∧ Aside0 (kq ≤ k) ∧ Aside0 (Kd.R (Kd.int .u8) 5 w' w.heap.size (fun k_ => some k_ ≠ (v4 : Value).ownBlock) v190 t189) ∧ Aside0 (Kd.R (Kd.int .u8) 5 w' w.heap.size (fun k_ => some k_ ≠ (v190 : Value).ownBlock) v4 x4_1) ∧ Aside0 (Below w.heap.size w w'))
  case atStart => exact ⟨(([] : List Int)), (0), (by first | rfl | (simp; done) | (simp [*]; done)), H', ⟨Nat.le_refl _⟩, ⟨by (with_reducible repeat (first | apply Kd.R_alloc | apply Kd.R_drewN | apply Kd.R_drew)); exact Kd.R_mono HO191.out (fun _ hk => (by simp [Value.ownBlock]))⟩, ⟨by first | exact Kd.R_nil _ _ _ _ _ | exact Kd.N_nil _ _ _ _ _ | exact Kd.V_nil _ _ _ _ _ | exact Kd.Q_nil _ _ _ _ _ | exact Kd.S_nil _ _ _ _ _⟩, ⟨by repeat (first | (with_reducible first | exact HB.out | apply below_alloc | apply pw_below_drewN | apply below_drew1) | exact HB.out)⟩⟩
  case round =>
    clear H'
    try clear c2
    try clear p2
    try clear c3
    obtain ⟨x4_1, x5_1, rfl, HA, HK1, HO_3, HO_4, HB⟩ := hrel
    cases gk with
    | zero => exact absurd HA.out (by simp [capnpref20_Bytes.l0])
    | succ k1 =>
      have H := HA.out
      clear HA
      simp only [capnpref20_Bytes.l0] at H
      by_cases c7 : x5_1 < 8
      · rw [if_pos c7] at H
        have c7b0 : decide (x5_1 < 8) = true := decide_eq_true c7
        clear c7
        by_cases c8 : 0 ≤ x5_1
        · rw [if_pos c8] at H
          have c8b0 : decide (0 ≤ x5_1) = true := decide_eq_true c8
          clear c8
          by_cases c9 : x5_1 < (t189.length : Int)
          · rw [if_pos c9] at H
            have c9b0 : decide (x5_1 < (t189.length : Int)) = true := decide_eq_true c9
            clear c9
            by_cases c10 : (rd t189 x5_1) = 0
            · rw [if_pos c10] at H
              have c10b0 : ((rd t189 x5_1) == 0) = true := beq_iff_eq.mpr c10
              have c10b1 : ((rd t189 x5_1) != 0) = false := bne_eq_false_iff_eq.mpr c10
              clear c10
              have H' := Aside0.mk H
              clear H
              obtain ⟨Ao11, co11, eo11⟩ := Kd.R_slice HO_3.out
              subst eo11
              have p192 : 0 ≤ (x5_1 : Int) := of_decide_eq_true (by first | (with_reducible assumption) | assumption)
              have q192 : x5_1 < (t189.length : Int) := of_decide_eq_true (by first | (with_reducible assumption) | assumption)
              obtain ⟨ad192, e192, hx192_0⟩ := Kd.at_int (Kd.R_reads' HO_3.out).2.2 x5_1 p192 q192
              cases e192
              replace p192 := eq_true p192
              replace q192 := eq_true q192
              go_wp2
              go_roundg k1
              case measure => have := HK1.out; omega
              case rel => exact ⟨(x4_1), (wrap64 (x5_1 + 1)), (by first | rfl | (simp; done) | (simp [*]; done)), H', ⟨by have := HK1.out; omega⟩, ⟨by (with_reducible repeat (first | apply Kd.R_alloc | apply Kd.R_drewN | apply Kd.R_drew)); exact HO_3.out⟩, ⟨by (with_reducible repeat (first | apply Kd.R_alloc | apply Kd.R_drewN | apply Kd.R_drew)); exact HO_4.out⟩, ⟨by repeat (first | (with_reducible first | exact HB.out | apply below_alloc | apply pw_below_drewN | apply below_drew1) | exact HB.out)⟩⟩
            · rw [if_neg c10] at H
              have c10b0 : ((rd t189 x5_1) == 0) = false := beq_eq_false_iff_ne.mpr c10
              have c10b1 : ((rd t189 x5_1) != 0) = true := bne_iff_ne.mpr c10
              by_cases c12 : x4_1.length < 140737488355328
              · rw [if_pos c12] at H
                have LMc12 := Aside0.mk c12
                clear c12
                obtain ⟨y194, hy194⟩ : ∃ y_ : List Int, y_ = (x4_1 ++ [rd t189 x5_1]) := ⟨_, rfl⟩
                replace H : (capnpref20_Bytes.l0 k1 t189 y194 (wrap64 (x5_1 + 1))) = some r := by first | (rw [hy194]; with_reducible exact H) | (have H2_ := (Option.bind_some _ _).symm.trans H; rw [hy194]; with_reducible exact H2_) | (have H2_ := (Option.bind_some _ _).symm.trans H; with_reducible exact H2_) | with_reducible exact H | (rw [hy194]; exact H) | exact H
                have Ny194 := Aside0.mk hy194
                clear hy194
                have H' := Aside0.mk H
                clear H
                obtain ⟨Ao13, co13, eo13⟩ := Kd.R_slice HO_3.out
                subst eo13
                have p192 : 0 ≤ (x5_1 : Int) := of_decide_eq_true (by first | (with_reducible assumption) | assumption)
                have q192 : x5_1 < (t189.length : Int) := of_decide_eq_true (by first | (with_reducible assumption) | assumption)
                obtain ⟨ad192, e192, hx192_0⟩ := Kd.at_int (Kd.R_reads' HO_3.out).2.2 x5_1 p192 q192
                cases e192
                replace p192 := eq_true p192
                replace q192 := eq_true q192
                have p193 : 0 ≤ (x5_1 : Int) := of_decide_eq_true (by first | (with_reducible assumption) | assumption)
                have q193 : x5_1 < (t189.length : Int) := of_decide_eq_true (by first | (with_reducible assumption) | assumption)
                obtain ⟨ad193, e193, hx193_0⟩ := Kd.at_int (Kd.R_reads' HO_3.out).2.2 x5_1 p193 q193
                obtain rfl : ad192 = ad193 := (by injection e193)
                replace p193 := eq_true p193
                replace q193 := eq_true q193
                go_wp2_with (first | ((with_reducible refine gate_builtin (b := .append) (xs := #[.tmp 18, .tmp 23]) rfl ?_); at_builtin; refine Kd.R_append (Kd.int .u8) (w0 := w) w.heap.size rfl (.tmp 18) (.tmp 23) 23 5 (.int .u8 0) 1 rfl Try.underlying23 info5 rfl (by decide) (by omega) u4 x4_1 (rd t189 x5_1) [.int .u8 (rd t189 x5_1)] (fun k_ => some k_ ≠ (.slice (some ad192) t189.length co13 : Value).ownBlock) (fun _ => False) rfl rfl ?aP (fun _ hk => hk.elim) ?aF ?aO ?aB ?aS ?aL ?_; (case aP => exact rfl); (case aB => exact (by repeat (first | (with_reducible first | exact HB.out | apply below_alloc | apply pw_below_drewN | apply below_drew1) | exact HB.out))); (case aF => exact (fun k_ hk => Kd.fresh' (Kd.R_lt (by (with_reducible repeat (first | apply Kd.R_alloc | apply Kd.R_drewN | apply Kd.R_drew)); exact HO_3.out)) k_ hk)); (case aO => exact (by (with_reducible repeat (first | apply Kd.R_alloc | apply Kd.R_drewN | apply Kd.R_drew)); exact HO_4.out)); (case aS => exact (below_size (by repeat (first | (with_reducible first | exact HB.out | apply below_alloc | apply pw_below_drewN | apply below_drew1) | exact HB.out)))); (case aL => have := LMc12.out; omega); intro v195 w14 ho hb hg hat; rw [← Ny194.out] at ho; have n0_ := Aside0.mk (Kd.R_after (ok := (fun _ => True)) (by (with_reducible repeat (first | apply Kd.R_alloc | apply Kd.R_drewN | apply Kd.R_drew)); exact Kd.R_mono HO_3.out (fun _ hk => ⟨trivial, hk⟩)) hg hat); have n1_ := Aside0.mk (hb); have n2_ := Aside0.mk (ho); clear HO_3; clear HB; clear HO_4; have HO_3 := n0_; have HB := n1_; have HO196 := n2_; clear n0_ n1_ n2_; clear ho hb hg hat))
                go_roundg k1
                case measure => have := HK1.out; omega
                case rel => exact ⟨(y194), (wrap64 (x5_1 + 1)), (by first | rfl | (simp; done) | (simp [*]; done)), H', ⟨by have := HK1.out; omega⟩, ⟨by (with_reducible repeat (first | apply Kd.R_alloc | apply Kd.R_drewN | apply Kd.R_drew)); exact Kd.R_mono HO_3.out (fun _ hk => hk.2)⟩, ⟨by (with_reducible repeat (first | apply Kd.R_alloc | apply Kd.R_drewN | apply Kd.R_drew)); exact HO196.out⟩, ⟨by repeat (first | (with_reducible first | exact HB.out | apply below_alloc | apply pw_below_drewN | apply below_drew1) | exact HB.out)⟩⟩
              · rw [if_neg c12] at H
                exact absurd H (by simp)
          · rw [if_neg c9] at H
            exact absurd H (by simp)
        · rw [if_neg c8] at H
          exact absurd H (by simp)
      · rw [if_neg c7] at H
        have c7b0 : decide (x5_1 < 8) = false := decide_eq_false c7
        clear c7
        obtain rfl := Option.some.inj H
        go_wp2
        go_ret
        exact ⟨_, by first | rfl | (simp [errW_none, errW_some] <;> rfl) | (simp [*, errW_none, errW_some] <;> rfl), by (with_reducible repeat (first | apply Kd.R_alloc | apply Kd.R_drewN | apply Kd.R_drew)); exact Kd.R_mono HO_4.out (fun _ hk => trivial), by repeat (first | (with_reducible first | exact HB.out | apply below_alloc | apply pw_below_drewN | apply below_drew1) | exact HB.out)⟩

/-! ### capnpref20_Dense: function 25 -/
def capnpref20_Dense.f (k : Nat) (a0 : Int) : Option (Bool) := (capnpref20_Bytes.f k a0).bind fun t197 => (some (decide ((t197.length : Int) ≥ 7)))
theorem capnpref20_Dense.mono : ∀ a0 k, LeO (capnpref20_Dense.f k a0) (capnpref20_Dense.f (k + 1) a0) := by
  intro a0 k
  unfold capnpref20_Dense.f
  repeat' first
      | (with_reducible exact capnpref20_Bytes.mono _ _)
      | (with_reducible exact LeO.refl _)
      | (with_reducible exact LeO.none _)
      | (with_reducible refine LeO.ite ?_ ?_)
      | (with_reducible refine LeO.bind ?_ (fun _ => ?_))
      | exact capnpref20_Bytes.mono _ _
      | exact LeO.none _
      | refine LeO.ite ?_ ?_
      | refine LeO.bind ?_ (fun _ => ?_)
set_option maxHeartbeats 8000000 in
set_option maxRecDepth 100000 in
theorem capnpref20_Dense.calls (k : Nat) (a0 : Int) (r : Bool) (w : World) (h : capnpref20_Dense.f k a0 = some r) :
    Calls Try.prog 25 #[.int .u64 a0] w fun e w' => e = .returned (.bool r) ∧ Below w.heap.size w w' := by
  have HB := Aside0.mk (Below.refl w.heap.size w)
  have H : ((capnpref20_Bytes.f k a0).bind fun t197 => (some (decide ((t197.length : Int) ≥ 7)))) = some r := h
  clear h
  replace H := Option.bind_eq_some_iff.mp H
  obtain ⟨t197, A20, H⟩ := H
  replace H : (some (decide ((t197.length : Int) ≥ 7))) = some r := H
  have A2 := Aside0.mk A20
  clear A20
  obtain rfl := Option.some.inj H
  go_enter Try.func25, Try.ntmps25
  go_wp2_with (first | ((with_reducible refine gate_callee (f := 21) rfl ?_); refine goesL_ (some 4) rfl rfl Try.func21 (by kernel_rfl) rfl #[.int .u64 a0] rfl (by (try simp only [List.map_toArray, List.map_cons, List.map_nil]); first | done | rfl | (simp only [List.length_drop, List.length_take]; rfl)) ?_; (with_reducible refine (capnpref20_Bytes.calls k a0 t197 _ A2.out).mono ?_); rintro e w3 ⟨v198, rfl, ho0, hb⟩; refine ⟨_, rfl, ?_⟩; have n0_ := Aside0.mk (Kd.R_lower ho0 (below_size (by repeat (first | (with_reducible first | exact HB.out | apply below_alloc | apply pw_below_drewN | apply below_drew1) | exact HB.out)))); have n1_ := Aside0.mk (below_step (by repeat (first | (with_reducible first | exact HB.out | apply below_alloc | apply pw_below_drewN | apply below_drew1) | exact HB.out)) hb); clear HB; have HO199 := n0_; have HB := n1_; clear n0_ n1_; (try clear hb); (try clear hb2); (try clear hk); (try clear hi); (try clear ho0); obtain ⟨Ao4, co4, eo4⟩ := Kd.R_slice HO199.out; subst eo4))
  go_ret
  exact ⟨by first | rfl | (simp [errW_none, errW_some] <;> rfl) | (simp [*, errW_none, errW_some] <;> rfl), by repeat (first | (with_reducible first | exact HB.out | apply below_alloc | apply pw_below_drewN | apply below_drew1) | exact HB.out)⟩

/-! ### capnplaw20_TagbyteMatchesReference: function 3 -/
def capnplaw20_TagbyteMatchesReference.j0 : Nat → Int → Int → List Int → Bool → Option (Bool)
  | 0, _, _, _, _ => none
  | k + 1, x0, x1, x2, x19 => if x19 = true then ((capnplaw20_awake.f k).bind fun t201 => (some t201)) else ((tagbyte_Expand.f k x1 x2).bind fun bt202 => ((capnpref20_Expand.f k x1 x2).bind fun bt205 => ((tagbyte_Of.f k x0).bind fun t208 => ((capnpref20_Of.f k x0).bind fun t209 => (if t208 = t209 then ((tagbyte_Bytes.f k x0).bind fun t210 => ((capnpref20_Bytes.f k x0).bind fun t213 => ((capnpref01_Same.f k t210 t213).bind fun t216 => (if t216 = true then ((tagbyte_Ones.f x1).bind fun t217 => ((capnpref20_Ones.f k x1).bind fun t218 => (if t217 = t218 then ((tagbyte_Dense.f k x0).bind fun t219 => ((capnpref20_Dense.f k x0).bind fun t220 => (if (t219 == t220) = true then (if bt202.1 = bt205.1 then (if bt202.2.1 = bt205.2.1 then (some (bt202.2.2 == bt205.2.2)) else (none)) else (none)) else (none)))) else (none)))) else (none))))) else (none))))))
def capnplaw20_TagbyteMatchesReference.f (k : Nat) (a0 : Int) (a1 : Int) (l2 : List Int) : Option (Bool) := (capnplaw20_awake.f k).bind fun t200 => (if t200 = true then (capnplaw20_TagbyteMatchesReference.j0 k a0 a1 l2 (decide ((l2.length : Int) > 1000))) else (capnplaw20_TagbyteMatchesReference.j0 k a0 a1 l2 true))
theorem capnplaw20_TagbyteMatchesReference.mono_l : ∀ k, (∀ y0 y1 y2 y3, LeO (capnplaw20_TagbyteMatchesReference.j0 k y0 y1 y2 y3) (capnplaw20_TagbyteMatchesReference.j0 (k + 1) y0 y1 y2 y3))
  | 0 => fun _ _ _ _ r h => by simp [capnplaw20_TagbyteMatchesReference.j0] at h
  | k + 1 => by
    have ih0 := capnplaw20_TagbyteMatchesReference.mono_l k
    · intro y0 y1 y2 y3
      unfold capnplaw20_TagbyteMatchesReference.j0
      repeat' first
      | (with_reducible exact ih0 _ _ _ _)
      | (with_reducible exact capnplaw20_awake.mono _)
      | (with_reducible exact capnpref01_Same.mono _ _ _)
      | (with_reducible exact capnpref20_Bytes.mono _ _)
      | (with_reducible exact capnpref20_Dense.mono _ _)
      | (with_reducible exact capnpref20_Expand.mono _ _ _)
      | (with_reducible exact capnpref20_Of.mono _ _)
      | (with_reducible exact capnpref20_Ones.mono _ _)
      | (with_reducible exact tagbyte_Bytes.mono _ _)
      | (with_reducible exact tagbyte_Dense.mono _ _)
      | (with_reducible exact tagbyte_Expand.mono _ _ _)
      | (with_reducible exact tagbyte_Of.mono _ _)
      | (with_reducible exact LeO.refl _)
      | (with_reducible exact LeO.none _)
      | (with_reducible refine LeO.ite ?_ ?_)
      | (with_reducible refine LeO.bind ?_ (fun _ => ?_))
      | exact ih0 _ _ _ _
      | exact capnplaw20_awake.mono _
      | exact capnpref01_Same.mono _ _ _
      | exact capnpref20_Bytes.mono _ _
      | exact capnpref20_Dense.mono _ _
      | exact capnpref20_Expand.mono _ _ _
      | exact capnpref20_Of.mono _ _
      | exact capnpref20_Ones.mono _ _
      | exact tagbyte_Bytes.mono _ _
      | exact tagbyte_Dense.mono _ _
      | exact tagbyte_Expand.mono _ _ _
      | exact tagbyte_Of.mono _ _
      | exact LeO.none _
      | refine LeO.ite ?_ ?_
      | refine LeO.bind ?_ (fun _ => ?_)
theorem capnplaw20_TagbyteMatchesReference.mono : ∀ a0 a1 a2 k, LeO (capnplaw20_TagbyteMatchesReference.f k a0 a1 a2) (capnplaw20_TagbyteMatchesReference.f (k + 1) a0 a1 a2) := by
  intro a0 a1 a2 k
  have ih0 := capnplaw20_TagbyteMatchesReference.mono_l k
  unfold capnplaw20_TagbyteMatchesReference.f
  repeat' first
      | (with_reducible exact ih0 _ _ _ _)
      | (with_reducible exact capnplaw20_awake.mono _)
      | (with_reducible exact capnpref01_Same.mono _ _ _)
      | (with_reducible exact capnpref20_Bytes.mono _ _)
      | (with_reducible exact capnpref20_Dense.mono _ _)
      | (with_reducible exact capnpref20_Expand.mono _ _ _)
      | (with_reducible exact capnpref20_Of.mono _ _)
      | (with_reducible exact capnpref20_Ones.mono _ _)
      | (with_reducible exact tagbyte_Bytes.mono _ _)
      | (with_reducible exact tagbyte_Dense.mono _ _)
      | (with_reducible exact tagbyte_Expand.mono _ _ _)
      | (with_reducible exact tagbyte_Of.mono _ _)
      | (with_reducible exact LeO.refl _)
      | (with_reducible exact LeO.none _)
      | (with_reducible refine LeO.ite ?_ ?_)
      | (with_reducible refine LeO.bind ?_ (fun _ => ?_))
      | exact ih0 _ _ _ _
      | exact capnplaw20_awake.mono _
      | exact capnpref01_Same.mono _ _ _
      | exact capnpref20_Bytes.mono _ _
      | exact capnpref20_Dense.mono _ _
      | exact capnpref20_Expand.mono _ _ _
      | exact capnpref20_Of.mono _ _
      | exact capnpref20_Ones.mono _ _
      | exact tagbyte_Bytes.mono _ _
      | exact tagbyte_Dense.mono _ _
      | exact tagbyte_Expand.mono _ _ _
      | exact tagbyte_Of.mono _ _
      | exact LeO.none _
      | refine LeO.ite ?_ ?_
      | refine LeO.bind ?_ (fun _ => ?_)
set_option maxHeartbeats 8000000 in
set_option maxRecDepth 100000 in
theorem capnplaw20_TagbyteMatchesReference.calls (k : Nat) (a0 : Int) (a1 : Int) (A2 : Option Addr) (c2 : Nat) (l2 : List Int) (r : Bool) (w : World) (hr2 : Kd.C (Kd.int .u8) w A2 l2.length l2) (hc2 : l2.length ≤ c2) (h : capnplaw20_TagbyteMatchesReference.f k a0 a1 l2 = some r) :
    Calls Try.prog 3 #[.int .u64 a0, .int .u8 a1, .slice A2 l2.length c2] w fun e w' => e = .returned (.bool r) ∧ Below w.heap.size w w' := by
  have HR2 := Aside0.mk hr2
  have HC2 := Aside0.mk hc2
  clear hr2 hc2
  have HB := Aside0.mk (Below.refl w.heap.size w)
  have H : ((capnplaw20_awake.f k).bind fun t200 => (if t200 = true then (capnplaw20_TagbyteMatchesReference.j0 k a0 a1 l2 (decide ((l2.length : Int) > 1000))) else (capnplaw20_TagbyteMatchesReference.j0 k a0 a1 l2 true))) = some r := h
  clear h
  have HC4 := Aside0.mk H
  clear H
  go_enter Try.func3, Try.ntmps3
  go_upto_region 1 with (fail)
  go_cut [19] (fun v19 wc => ∃ (kq : Nat) (x19_3 : Bool), v19 = .bool x19_3 ∧ Aside0 (capnplaw20_TagbyteMatchesReference.j0 kq a0 a1 l2 x19_3 = some r) ∧ Aside0 (kq ≤ k) ∧ Aside0 (Below w.heap.size w wc))
  case first =>
    have H := HC4.out
    clear HC4
    replace H := Option.bind_eq_some_iff.mp H
    obtain ⟨t200, A50, H⟩ := H
    replace H : (if t200 = true then (capnplaw20_TagbyteMatchesReference.j0 k a0 a1 l2 (decide ((l2.length : Int) > 1000))) else (capnplaw20_TagbyteMatchesReference.j0 k a0 a1 l2 true)) = some r := H
    have A5 := Aside0.mk A50
    clear A50
    by_cases c6 : t200 = true
    · subst c6
      have H1 : (capnplaw20_TagbyteMatchesReference.j0 k a0 a1 l2 (decide ((l2.length : Int) > 1000))) = some r := by rw [if_pos rfl] at H; exact H
      clear H
      have H := H1
      clear H1
      have H' := Aside0.mk H
      clear H
      go_wp2_with (first | ((with_reducible refine gate_callee (f := 14) rfl ?_); refine goesL_ (some 13) rfl rfl Try.func14 (by kernel_rfl) rfl #[] rfl (by (try simp only [List.map_toArray, List.map_cons, List.map_nil]); first | done | rfl | (simp only [List.length_drop, List.length_take]; rfl)) ?_; (with_reducible refine (capnplaw20_awake.calls k  true _ A5.out).mono ?_); rintro e w7 ⟨rfl, hb⟩; refine ⟨_, rfl, ?_⟩; have n0_ := Aside0.mk (below_step (by repeat (first | (with_reducible first | exact HB.out | apply below_alloc | apply pw_below_drewN | apply below_drew1) | exact HB.out)) hb); clear HB; have HB := n0_; clear n0_; (try clear hb); (try clear hb2); (try clear hk); (try clear hi)))
      go_meet
      case rel => exact ⟨_, (decide ((l2.length : Int) > 1000)), (by first | rfl | (simp; done) | (simp [*]; done)), H', ⟨by first | omega | exact Nat.le_refl _⟩, ⟨by repeat (first | (with_reducible first | exact HB.out | apply below_alloc | apply pw_below_drewN | apply below_drew1) | exact HB.out)⟩⟩
    · replace c6 := Bool.eq_false_iff.mpr c6
      subst c6
      have H1 : (capnplaw20_TagbyteMatchesReference.j0 k a0 a1 l2 true) = some r := by rw [if_neg (show ¬ (false = true) by decide)] at H; exact H
      clear H
      have H := H1
      clear H1
      have H' := Aside0.mk H
      clear H
      go_wp2_with (first | ((with_reducible refine gate_callee (f := 14) rfl ?_); refine goesL_ (some 13) rfl rfl Try.func14 (by kernel_rfl) rfl #[] rfl (by (try simp only [List.map_toArray, List.map_cons, List.map_nil]); first | done | rfl | (simp only [List.length_drop, List.length_take]; rfl)) ?_; (with_reducible refine (capnplaw20_awake.calls k  false _ A5.out).mono ?_); rintro e w8 ⟨rfl, hb⟩; refine ⟨_, rfl, ?_⟩; have n0_ := Aside0.mk (below_step (by repeat (first | (with_reducible first | exact HB.out | apply below_alloc | apply pw_below_drewN | apply below_drew1) | exact HB.out)) hb); clear HB; have HB := n0_; clear n0_; (try clear hb); (try clear hb2); (try clear hk); (try clear hi)))
      go_meet
      case rel => exact ⟨_, (true), (by first | rfl | (simp; done) | (simp [*]; done)), H', ⟨by first | omega | exact Nat.le_refl _⟩, ⟨by repeat (first | (with_reducible first | exact HB.out | apply below_alloc | apply pw_below_drewN | apply below_drew1) | exact HB.out)⟩⟩
  case rest =>
    clear HC4
    try clear c1
    try clear c2
    try clear p2
    try clear c3
    try clear c6
    obtain ⟨kq, x19_3, rfl, HA, HJ3, HB⟩ := hcut
    cases kq with
    | zero => exact absurd HA.out (by simp [capnplaw20_TagbyteMatchesReference.j0])
    | succ kj3 =>
      have H := HA.out
      clear HA
      simp only [capnplaw20_TagbyteMatchesReference.j0] at H
      by_cases c9 : x19_3 = true
      · subst c9
        have H1 : ((capnplaw20_awake.f kj3).bind fun t201 => (some t201)) = some r := by rw [if_pos rfl] at H; exact H
        clear H
        have H := H1
        clear H1
        replace H := Option.bind_eq_some_iff.mp H
        obtain ⟨t201, A100, H⟩ := H
        replace H : (some t201) = some r := H
        have A10 := Aside0.mk A100
        clear A100
        obtain rfl := Option.some.inj H
        go_wp2_with (first | ((with_reducible refine gate_callee (f := 14) rfl ?_); refine goesL_ (some 20) rfl rfl Try.func14 (by kernel_rfl) rfl #[] rfl (by (try simp only [List.map_toArray, List.map_cons, List.map_nil]); first | done | rfl | (simp only [List.length_drop, List.length_take]; rfl)) ?_; (with_reducible refine (capnplaw20_awake.calls kj3  t201 _ A10.out).mono ?_); rintro e w11 ⟨rfl, hb⟩; refine ⟨_, rfl, ?_⟩; have n0_ := Aside0.mk (below_step (by repeat (first | (with_reducible first | exact HB.out | apply below_alloc | apply pw_below_drewN | apply below_drew1) | exact HB.out)) hb); clear HB; have HB := n0_; clear n0_; (try clear hb); (try clear hb2); (try clear hk); (try clear hi)))
        go_ret
        exact ⟨by first | rfl | (simp [errW_none, errW_some] <;> rfl) | (simp [*, errW_none, errW_some] <;> rfl), by repeat (first | (with_reducible first | exact HB.out | apply below_alloc | apply pw_below_drewN | apply below_drew1) | exact HB.out)⟩
      · replace c9 := Bool.eq_false_iff.mpr c9
        subst c9
        have H1 : ((tagbyte_Expand.f kj3 a1 l2).bind fun bt202 => ((capnpref20_Expand.f kj3 a1 l2).bind fun bt205 => ((tagbyte_Of.f kj3 a0).bind fun t208 => ((capnpref20_Of.f kj3 a0).bind fun t209 => (if t208 = t209 then ((tagbyte_Bytes.f kj3 a0).bind fun t210 => ((capnpref20_Bytes.f kj3 a0).bind fun t213 => ((capnpref01_Same.f kj3 t210 t213).bind fun t216 => (if t216 = true then ((tagbyte_Ones.f a1).bind fun t217 => ((capnpref20_Ones.f kj3 a1).bind fun t218 => (if t217 = t218 then ((tagbyte_Dense.f kj3 a0).bind fun t219 => ((capnpref20_Dense.f kj3 a0).bind fun t220 => (if (t219 == t220) = true then (if bt202.1 = bt205.1 then (if bt202.2.1 = bt205.2.1 then (some (bt202.2.2 == bt205.2.2)) else (none)) else (none)) else (none)))) else (none)))) else (none))))) else (none)))))) = some r := by rw [if_neg (show ¬ (false = true) by decide)] at H; exact H
        clear H
        have H := H1
        clear H1
        replace H := Option.bind_eq_some_iff.mp H
        obtain ⟨⟨t202, t203, t204⟩, A120, H⟩ := H
        replace H : ((capnpref20_Expand.f kj3 a1 l2).bind fun bt205 => ((tagbyte_Of.f kj3 a0).bind fun t208 => ((capnpref20_Of.f kj3 a0).bind fun t209 => (if t208 = t209 then ((tagbyte_Bytes.f kj3 a0).bind fun t210 => ((capnpref20_Bytes.f kj3 a0).bind fun t213 => ((capnpref01_Same.f kj3 t210 t213).bind fun t216 => (if t216 = true then ((tagbyte_Ones.f a1).bind fun t217 => ((capnpref20_Ones.f kj3 a1).bind fun t218 => (if t217 = t218 then ((tagbyte_Dense.f kj3 a0).bind fun t219 => ((capnpref20_Dense.f kj3 a0).bind fun t220 => (if (t219 == t220) = true then (if t202 = bt205.1 then (if t203 = bt205.2.1 then (some (t204 == bt205.2.2)) else (none)) else (none)) else (none)))) else (none)))) else (none))))) else (none))))) = some r := H
        have A12 := Aside0.mk A120
        clear A120
        replace H := Option.bind_eq_some_iff.mp H
        obtain ⟨⟨t205, t206, t207⟩, A130, H⟩ := H
        replace H : ((tagbyte_Of.f kj3 a0).bind fun t208 => ((capnpref20_Of.f kj3 a0).bind fun t209 => (if t208 = t209 then ((tagbyte_Bytes.f kj3 a0).bind fun t210 => ((capnpref20_Bytes.f kj3 a0).bind fun t213 => ((capnpref01_Same.f kj3 t210 t213).bind fun t216 => (if t216 = true then ((tagbyte_Ones.f a1).bind fun t217 => ((capnpref20_Ones.f kj3 a1).bind fun t218 => (if t217 = t218 then ((tagbyte_Dense.f kj3 a0).bind fun t219 => ((capnpref20_Dense.f kj3 a0).bind fun t220 => (if (t219 == t220) = true then (if t202 = t205 then (if t203 = t206 then (some (t204 == t207)) else (none)) else (none)) else (none)))) else (none)))) else (none))))) else (none)))) = some r := H
        have A13 := Aside0.mk A130
        clear A130
        replace H := Option.bind_eq_some_iff.mp H
        obtain ⟨t208, A140, H⟩ := H
        replace H : ((capnpref20_Of.f kj3 a0).bind fun t209 => (if t208 = t209 then ((tagbyte_Bytes.f kj3 a0).bind fun t210 => ((capnpref20_Bytes.f kj3 a0).bind fun t213 => ((capnpref01_Same.f kj3 t210 t213).bind fun t216 => (if t216 = true then ((tagbyte_Ones.f a1).bind fun t217 => ((capnpref20_Ones.f kj3 a1).bind fun t218 => (if t217 = t218 then ((tagbyte_Dense.f kj3 a0).bind fun t219 => ((capnpref20_Dense.f kj3 a0).bind fun t220 => (if (t219 == t220) = true then (if t202 = t205 then (if t203 = t206 then (some (t204 == t207)) else (none)) else (none)) else (none)))) else (none)))) else (none))))) else (none))) = some r := H
        have A14 := Aside0.mk A140
        clear A140
        replace H := Option.bind_eq_some_iff.mp H
        obtain ⟨t209, A150, H⟩ := H
        replace H : (if t208 = t209 then ((tagbyte_Bytes.f kj3 a0).bind fun t210 => ((capnpref20_Bytes.f kj3 a0).bind fun t213 => ((capnpref01_Same.f kj3 t210 t213).bind fun t216 => (if t216 = true then ((tagbyte_Ones.f a1).bind fun t217 => ((capnpref20_Ones.f kj3 a1).bind fun t218 => (if t217 = t218 then ((tagbyte_Dense.f kj3 a0).bind fun t219 => ((capnpref20_Dense.f kj3 a0).bind fun t220 => (if (t219 == t220) = true then (if t202 = t205 then (if t203 = t206 then (some (t204 == t207)) else (none)) else (none)) else (none)))) else (none)))) else (none))))) else (none)) = some r := H
        have A15 := Aside0.mk A150
        clear A150
        by_cases c16 : t208 = t209
        · rw [if_pos c16] at H
          have c16b0 : (t208 == t209) = true := beq_iff_eq.mpr c16
          have c16b1 : (t208 != t209) = false := bne_eq_false_iff_eq.mpr c16
          clear c16
          replace H := Option.bind_eq_some_iff.mp H
          obtain ⟨t210, A170, H⟩ := H
          replace H : ((capnpref20_Bytes.f kj3 a0).bind fun t213 => ((capnpref01_Same.f kj3 t210 t213).bind fun t216 => (if t216 = true then ((tagbyte_Ones.f a1).bind fun t217 => ((capnpref20_Ones.f kj3 a1).bind fun t218 => (if t217 = t218 then ((tagbyte_Dense.f kj3 a0).bind fun t219 => ((capnpref20_Dense.f kj3 a0).bind fun t220 => (if (t219 == t220) = true then (if t202 = t205 then (if t203 = t206 then (some (t204 == t207)) else (none)) else (none)) else (none)))) else (none)))) else (none)))) = some r := H
          have A17 := Aside0.mk A170
          clear A170
          replace H := Option.bind_eq_some_iff.mp H
          obtain ⟨t213, A180, H⟩ := H
          replace H : ((capnpref01_Same.f kj3 t210 t213).bind fun t216 => (if t216 = true then ((tagbyte_Ones.f a1).bind fun t217 => ((capnpref20_Ones.f kj3 a1).bind fun t218 => (if t217 = t218 then ((tagbyte_Dense.f kj3 a0).bind fun t219 => ((capnpref20_Dense.f kj3 a0).bind fun t220 => (if (t219 == t220) = true then (if t202 = t205 then (if t203 = t206 then (some (t204 == t207)) else (none)) else (none)) else (none)))) else (none)))) else (none))) = some r := H
          have A18 := Aside0.mk A180
          clear A180
          replace H := Option.bind_eq_some_iff.mp H
          obtain ⟨t216, A190, H⟩ := H
          replace H : (if t216 = true then ((tagbyte_Ones.f a1).bind fun t217 => ((capnpref20_Ones.f kj3 a1).bind fun t218 => (if t217 = t218 then ((tagbyte_Dense.f kj3 a0).bind fun t219 => ((capnpref20_Dense.f kj3 a0).bind fun t220 => (if (t219 == t220) = true then (if t202 = t205 then (if t203 = t206 then (some (t204 == t207)) else (none)) else (none)) else (none)))) else (none)))) else (none)) = some r := H
          have A19 := Aside0.mk A190
          clear A190
          by_cases c20 : t216 = true
          · subst c20
            have H1 : ((tagbyte_Ones.f a1).bind fun t217 => ((capnpref20_Ones.f kj3 a1).bind fun t218 => (if t217 = t218 then ((tagbyte_Dense.f kj3 a0).bind fun t219 => ((capnpref20_Dense.f kj3 a0).bind fun t220 => (if (t219 == t220) = true then (if t202 = t205 then (if t203 = t206 then (some (t204 == t207)) else (none)) else (none)) else (none)))) else (none)))) = some r := by rw [if_pos rfl] at H; exact H
            clear H
            have H := H1
            clear H1
            replace H := Option.bind_eq_some_iff.mp H
            obtain ⟨t217, A210, H⟩ := H
            replace H : ((capnpref20_Ones.f kj3 a1).bind fun t218 => (if t217 = t218 then ((tagbyte_Dense.f kj3 a0).bind fun t219 => ((capnpref20_Dense.f kj3 a0).bind fun t220 => (if (t219 == t220) = true then (if t202 = t205 then (if t203 = t206 then (some (t204 == t207)) else (none)) else (none)) else (none)))) else (none))) = some r := H
            have A21 := Aside0.mk A210
            clear A210
            replace H := Option.bind_eq_some_iff.mp H
            obtain ⟨t218, A220, H⟩ := H
            replace H : (if t217 = t218 then ((tagbyte_Dense.f kj3 a0).bind fun t219 => ((capnpref20_Dense.f kj3 a0).bind fun t220 => (if (t219 == t220) = true then (if t202 = t205 then (if t203 = t206 then (some (t204 == t207)) else (none)) else (none)) else (none)))) else (none)) = some r := H
            have A22 := Aside0.mk A220
            clear A220
            by_cases c23 : t217 = t218
            · rw [if_pos c23] at H
              have c23b0 : (t217 == t218) = true := beq_iff_eq.mpr c23
              have c23b1 : (t217 != t218) = false := bne_eq_false_iff_eq.mpr c23
              clear c23
              replace H := Option.bind_eq_some_iff.mp H
              obtain ⟨t219, A240, H⟩ := H
              replace H : ((capnpref20_Dense.f kj3 a0).bind fun t220 => (if (t219 == t220) = true then (if t202 = t205 then (if t203 = t206 then (some (t204 == t207)) else (none)) else (none)) else (none))) = some r := H
              have A24 := Aside0.mk A240
              clear A240
              replace H := Option.bind_eq_some_iff.mp H
              obtain ⟨t220, A250, H⟩ := H
              replace H : (if (t219 == t220) = true then (if t202 = t205 then (if t203 = t206 then (some (t204 == t207)) else (none)) else (none)) else (none)) = some r := H
              have A25 := Aside0.mk A250
              clear A250
              by_cases c26 : (t219 == t220) = true
              · rw [if_pos c26] at H
                have c26b0 : (t219 == t220) = true := c26
                (try (have c26b1 : decide (t219 = t220) = true := by simpa using c26))
                (try (have c26b2 : (t219 == t220) = true := by simpa using c26))
                clear c26
                by_cases c27 : t202 = t205
                · rw [if_pos c27] at H
                  have c27b0 : (t202 == t205) = true := beq_iff_eq.mpr c27
                  have c27b1 : (t202 != t205) = false := bne_eq_false_iff_eq.mpr c27
                  clear c27
                  by_cases c28 : t203 = t206
                  · rw [if_pos c28] at H
                    have c28b0 : (t203 == t206) = true := beq_iff_eq.mpr c28
                    have c28b1 : (t203 != t206) = false := bne_eq_false_iff_eq.mpr c28
                    clear c28
                    obtain rfl := Option.some.inj H
                    go_wp2_with (first | ((with_reducible refine gate_callee (f := 15) rfl ?_); refine goesL_ (some 24) rfl rfl Try.func15 (by kernel_rfl) rfl #[.int .u8 a1, .slice A2 l2.length c2] rfl (by (try simp only [List.map_toArray, List.map_cons, List.map_nil]); first | done | rfl | (simp only [List.length_drop, List.length_take]; rfl)) ?_; (with_reducible refine (tagbyte_Expand.calls kj3 a1 _ _ l2 t202 t203 t204 _ ?side1 ?side2 A12.out).mono ?_); (case side1 => repeat (first | exact (Kd.C_below HR2.out HB.out) | (with_reducible refine Kd.C_alloc ?_ _) | (with_reducible refine Kd.C_drewN ?_ _) | (with_reducible refine Kd.C_drew ?_))); (case side2 => exact HC2.out); rintro e w' ⟨rfl, ⟨nd, rfl⟩⟩; refine ⟨_, rfl, ?_⟩) | ((with_reducible refine gate_callee (f := 16) rfl ?_); refine goesL_ (some 31) rfl rfl Try.func16 (by kernel_rfl) rfl #[.int .u8 a1, .slice A2 l2.length c2] rfl (by (try simp only [List.map_toArray, List.map_cons, List.map_nil]); first | done | rfl | (simp only [List.length_drop, List.length_take]; rfl)) ?_; (with_reducible refine (capnpref20_Expand.calls kj3 a1 _ _ l2 t205 t206 t207 _ ?side1 ?side2 A13.out).mono ?_); (case side1 => repeat (first | exact (Kd.C_below HR2.out (by repeat (first | (with_reducible first | exact HB.out | apply below_alloc | apply pw_below_drewN | apply below_drew1) | exact HB.out))) | (with_reducible refine Kd.C_alloc ?_ _) | (with_reducible refine Kd.C_drewN ?_ _) | (with_reducible refine Kd.C_drew ?_))); (case side2 => exact HC2.out); rintro e w29 ⟨rfl, hb⟩; refine ⟨_, rfl, ?_⟩; have n0_ := Aside0.mk (below_step (by repeat (first | (with_reducible first | exact HB.out | apply below_alloc | apply pw_below_drewN | apply below_drew1) | exact HB.out)) hb); clear HB; have HB := n0_; clear n0_; (try clear hb); (try clear hb2); (try clear hk); (try clear hi)) | ((with_reducible refine gate_callee (f := 17) rfl ?_); refine goesL_ (some 36) rfl rfl Try.func17 (by kernel_rfl) rfl #[.int .u64 a0] rfl (by (try simp only [List.map_toArray, List.map_cons, List.map_nil]); first | done | rfl | (simp only [List.length_drop, List.length_take]; rfl)) ?_; (with_reducible refine (tagbyte_Of.calls kj3 a0 t208 _ A14.out).mono ?_); rintro e w30 ⟨rfl, hb⟩; refine ⟨_, rfl, ?_⟩; have n0_ := Aside0.mk (below_step (by repeat (first | (with_reducible first | exact HB.out | apply below_alloc | apply pw_below_drewN | apply below_drew1) | exact HB.out)) hb); clear HB; have HB := n0_; clear n0_; (try clear hb); (try clear hb2); (try clear hk); (try clear hi)) | ((with_reducible refine gate_callee (f := 18) rfl ?_); refine goesL_ (some 38) rfl rfl Try.func18 (by kernel_rfl) rfl #[.int .u64 a0] rfl (by (try simp only [List.map_toArray, List.map_cons, List.map_nil]); first | done | rfl | (simp only [List.length_drop, List.length_take]; rfl)) ?_; (with_reducible refine (capnpref20_Of.calls kj3 a0 t209 _ A15.out).mono ?_); rintro e w31 ⟨rfl, hb⟩; refine ⟨_, rfl, ?_⟩; have n0_ := Aside0.mk (below_step (by repeat (first | (with_reducible first | exact HB.out | apply below_alloc | apply pw_below_drewN | apply below_drew1) | exact HB.out)) hb); clear HB; have HB := n0_; clear n0_; (try clear hb); (try clear hb2); (try clear hk); (try clear hi)) | (go_at_call 20; (with_reducible refine (tagbyte_Bytes.calls kj3 a0 t210 _ A17.out).mono ?_); rintro e w32 ⟨v211, rfl, ho0, hb⟩; have n0_ := Aside0.mk (Kd.R_lower ho0 (below_size (by repeat (first | (with_reducible first | exact HB.out | apply below_alloc | apply pw_below_drewN | apply below_drew1) | exact HB.out)))); have n1_ := Aside0.mk (below_step (by repeat (first | (with_reducible first | exact HB.out | apply below_alloc | apply pw_below_drewN | apply below_drew1) | exact HB.out)) hb); clear HB; have HO212 := n0_; have HB := n1_; clear n0_ n1_; (try clear hb); (try clear hb2); (try clear hk); (try clear hi); (try clear ho0)) | (go_at_call 21; (with_reducible refine (capnpref20_Bytes.calls kj3 a0 t213 _ A18.out).mono ?_); rintro e w33 ⟨v214, rfl, ho0, hb⟩; have n0_ := Aside0.mk (Kd.R_elder' (by (with_reducible repeat (first | apply Kd.R_alloc | apply Kd.R_drewN | apply Kd.R_drew)); exact HO212.out) (Kd.R_base ho0) hb); have n1_ := Aside0.mk (Kd.R_lower (Kd.R_new' ho0 (Kd.R_lt (by (with_reducible repeat (first | apply Kd.R_alloc | apply Kd.R_drewN | apply Kd.R_drew)); exact HO212.out))) (below_size (by repeat (first | (with_reducible first | exact HB.out | apply below_alloc | apply pw_below_drewN | apply below_drew1) | exact HB.out)))); have n2_ := Aside0.mk (below_step (by repeat (first | (with_reducible first | exact HB.out | apply below_alloc | apply pw_below_drewN | apply below_drew1) | exact HB.out)) hb); clear HO212; clear HB; have HO212 := n0_; have HO215 := n1_; have HB := n2_; clear n0_ n1_ n2_; (try clear hb); (try clear hb2); (try clear hk); (try clear hi); (try clear ho0); obtain ⟨Ao34, co34, eo34⟩ := Kd.R_slice HO212.out; subst eo34; obtain ⟨Ao35, co35, eo35⟩ := Kd.R_slice HO215.out; subst eo35) | (go_at_call 19; (with_reducible refine (capnpref01_Same.calls kj3 _ _ t210 _ _ t213 true _ ?side1 ?side2 ?side3 ?side4 A19.out).mono ?_); (case side1 => repeat (first | exact (Kd.R_reads' HO212.out).2.2 | (with_reducible refine Kd.C_alloc ?_ _) | (with_reducible refine Kd.C_drewN ?_ _) | (with_reducible refine Kd.C_drew ?_))); (case side2 => exact (Kd.R_reads' HO212.out).2.1); (case side3 => repeat (first | exact (Kd.R_reads' HO215.out).2.2 | (with_reducible refine Kd.C_alloc ?_ _) | (with_reducible refine Kd.C_drewN ?_ _) | (with_reducible refine Kd.C_drew ?_))); (case side4 => exact (Kd.R_reads' HO215.out).2.1); rintro e w' ⟨rfl, ⟨nd, rfl⟩⟩) | (go_at_call 22; (with_reducible refine (tagbyte_Ones.calls a1 t217 _ A21.out).mono ?_); rintro e w' ⟨rfl, ⟨nd, rfl⟩⟩) | (go_at_call 23; (with_reducible refine (capnpref20_Ones.calls kj3 a1 t218 _ A22.out).mono ?_); rintro e w' ⟨rfl, ⟨nd, rfl⟩⟩) | (go_at_call 24; (with_reducible refine (tagbyte_Dense.calls kj3 a0 t219 _ A24.out).mono ?_); rintro e w36 ⟨rfl, hb⟩; have n0_ := Aside0.mk (Kd.R_below (by (with_reducible repeat (first | apply Kd.R_alloc | apply Kd.R_drewN | apply Kd.R_drew)); exact HO212.out) hb); have n1_ := Aside0.mk (Kd.R_below (by (with_reducible repeat (first | apply Kd.R_alloc | apply Kd.R_drewN | apply Kd.R_drew)); exact HO215.out) hb); have n2_ := Aside0.mk (below_step (by repeat (first | (with_reducible first | exact HB.out | apply below_alloc | apply pw_below_drewN | apply below_drew1) | exact HB.out)) hb); clear HO212; clear HO215; clear HB; have HO212 := n0_; have HO215 := n1_; have HB := n2_; clear n0_ n1_ n2_; (try clear hb); (try clear hb2); (try clear hk); (try clear hi)) | (go_at_call 25; (with_reducible refine (capnpref20_Dense.calls kj3 a0 t220 _ A25.out).mono ?_); rintro e w37 ⟨rfl, hb⟩; have n0_ := Aside0.mk (Kd.R_below (by (with_reducible repeat (first | apply Kd.R_alloc | apply Kd.R_drewN | apply Kd.R_drew)); exact HO212.out) hb); have n1_ := Aside0.mk (Kd.R_below (by (with_reducible repeat (first | apply Kd.R_alloc | apply Kd.R_drewN | apply Kd.R_drew)); exact HO215.out) hb); have n2_ := Aside0.mk (below_step (by repeat (first | (with_reducible first | exact HB.out | apply below_alloc | apply pw_below_drewN | apply below_drew1) | exact HB.out)) hb); clear HO212; clear HO215; clear HB; have HO212 := n0_; have HO215 := n1_; have HB := n2_; clear n0_ n1_ n2_; (try clear hb); (try clear hb2); (try clear hk); (try clear hi)))
                    go_ret
                    exact ⟨by first | rfl | (simp [errW_none, errW_some] <;> rfl) | (simp [*, errW_none, errW_some] <;> rfl), by repeat (first | (with_reducible first | exact HB.out | apply below_alloc | apply pw_below_drewN | apply below_drew1) | exact HB.out)⟩
                  · rw [if_neg c28] at H
                    exact absurd H (by simp)
                · rw [if_neg c27] at H
                  exact absurd H (by simp)
              · rw [if_neg c26] at H
                exact absurd H (by simp)
            · rw [if_neg c23] at H
              exact absurd H (by simp)
          · replace c20 := Bool.eq_false_iff.mpr c20
            subst c20
            have H1 : (none) = some r := by rw [if_neg (show ¬ (false = true) by decide)] at H; exact H
            clear H
            have H := H1
            clear H1
            exact absurd H (by simp)
        · rw [if_neg c16] at H
          exact absurd H (by simp)

/-- THE ONE PURE STATEMENT of capnplaw20_TagbyteMatchesReference: yours. -/
def capnplaw20_TagbyteMatchesReference.Pure : Prop := ∀ (a0 : Int) (a1 : Int) (l2 : List Int), (Lit.int .u64 a0).wf = true → (Lit.int .u8 a1).wf = true → l2.length ≤ maxLen → l2.length * 1 ≤ 140737488351232 → (∀ x ∈ l2, (Lit.int .u8 x).wf = true) → ∃ k, capnplaw20_TagbyteMatchesReference.f k a0 a1 l2 = some true
theorem capnplaw20_TagbyteMatchesReference.walk (P : capnplaw20_TagbyteMatchesReference.Pure) (a0 : Int) (a1 : Int) (a2 : Option Addr) (len2 cap2 : Nat) (z2 : List Int) (w : World) (w0 : (Lit.int .u64 a0).wf = true) (w1 : (Lit.int .u8 a1).wf = true) (w2 : (a2 = none ∧ len2 = 0 ∧ cap2 = 0 ∧ z2 = []) ∨ ∃ x, a2 = some x ∧ len2 ≤ cap2 ∧ cap2 ≤ maxLen ∧ z2.length = cap2 ∧ (∀ i, i < z2.length → w.cell? (x.add i) = some (.int .u8 (z2.getD i 0))) ∧ ∀ n ∈ z2, (Lit.int .u8 n).wf = true) (y2 : len2 * 1 ≤ 140737488351232) :
    Calls Try.prog 3 #[.int .u64 a0, .int .u8 a1, .slice a2 len2 cap2] w fun e w' => e = .returned (.bool true) ∧ Below w.heap.size w w' := by
  obtain ⟨l2, rfl, hr2, hm2, hw2, hc2⟩ := ReadsInt.ofRowC w2
  obtain ⟨k, h⟩ := P a0 a1 l2 w0 w1 hm2 y2 hw2
  refine (capnplaw20_TagbyteMatchesReference.calls k a0 a1 _ _ l2 true w (Kd.C_of_reads (d := (0 : Int)) (h1 := fun _ => rfl) hr2) hc2 h).mono ?_
  rintro e w' ⟨rfl, hd⟩
  exact ⟨rfl, hd⟩

end Go.Proofs.Ytamcadegencfbaa.PTagbyteMatchesReference
