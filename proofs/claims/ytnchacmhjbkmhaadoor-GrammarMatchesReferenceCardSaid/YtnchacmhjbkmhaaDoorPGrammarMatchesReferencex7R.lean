/- (Halved.) Written by myprint.py, a program of this session: printed functions of a law, and the proofs that the Go code comes to them. -/
import Derived.Test.YtnchacmhjbkmhaaDoorXShortR
import Derived.Test.YtnchacmhjbkmhaaDoorPGrammarMatchesReferencex0R
import Derived.Test.YtnchacmhjbkmhaaDoorPGrammarMatchesReferencex6R
namespace Go.Proofs.YtnchacmhjbkmhaaDoor.PGrammarMatchesReference
open Go.RowKit Go.Proofs.YtnchacmhjbkmhaaDoorW.PrintWords Go.Proofs.YtnchacmhjbkmhaaDoorW.PrintLast Go.Proofs.YtnchacmhjbkmhaaDoorW.PrintMore
open Go.Proofs.YtnchacmhjbkmhaaDoor.PUnBase
open Go.Proofs.YtnchacmhjbkmhaaDoor.POfBase (tagbyte_Of.f tagbyte_Of.calls tagbyte_Of.mono tagbyte_Of.mono_l)
attribute [local go_sem] max2_int min2_int max_two min_two max_three min_three max_four min_four   -- for this text's walks alone
set_option linter.unusedVariables false
set_option linter.unusedSimpArgs false
set_option maxHeartbeats 8000000
set_option maxRecDepth 100000
mutual
def capnpref23_Groups.l0 : Nat → List Int → List (S34) → Int → Int → Option ((List (S34)) × Bool)
 | 0, _, _, _, _ => none
 | k + 1, x0, x4, x5, x6 => if x5 < (x0.length : Int) then (if 0 ≤ x5 then ((capnpref20_Ones.f k (rd x0 x5)).bind fun t279 => (if (rd x0 x5) = 0 then (capnpref23_Groups.j1 k x0 x4 (wrap64 ((wrap64 (x5 + 1)) + t279)) x6 true (rd x0 x5) x5 0 x6 1) else (capnpref23_Groups.j1 k x0 x4 (wrap64 ((wrap64 (x5 + 1)) + t279)) x6 ((rd x0 x5) == 255) (rd x0 x5) x5 0 x6 1))) else (none)) else (some (x4, true))
def capnpref23_Groups.j1 : Nat → List Int → List (S34) → Int → Int → Bool → Int → Int → Int → Int → Int → Option ((List (S34)) × Bool)
 | 0, _, _, _, _, _, _, _, _, _, _ => none
 | k + 1, x0, x4, x5, x6, x34, x278000, x278001, x278002, x278003, x278004 => if x34 = true then (if x5 ≥ (x0.length : Int) then (some (([] : List (S34)), false)) else (if 0 ≤ x5 then (if x5 < (x0.length : Int) then (if x278000 = 255 then (if (wrap64 ((wrap64 (x5 + 1)) + (wrap64 (8 * (wrap64 ((wrap64 (1 + (wrap64 (rd x0 x5)))) - 1)))))) > (x0.length : Int) then (some (([] : List (S34)), false)) else (if x4.length < 3518437208883 then (capnpref23_Groups.l0 k x0 (x4 ++ [(⟨x278000, x278001, wrap64 ((wrap64 (x5 + 1)) + (wrap64 (8 * (wrap64 ((wrap64 (1 + (wrap64 (rd x0 x5)))) - 1))))), x278003, wrap64 (1 + (wrap64 (rd x0 x5)))⟩ : S34)]) (wrap64 ((wrap64 (x5 + 1)) + (wrap64 (8 * (wrap64 ((wrap64 (1 + (wrap64 (rd x0 x5)))) - 1)))))) (wrap64 (x6 + (wrap64 (1 + (wrap64 (rd x0 x5))))))) else (none))) else (if (wrap64 (x5 + 1)) > (x0.length : Int) then (some (([] : List (S34)), false)) else (if x4.length < 3518437208883 then (capnpref23_Groups.l0 k x0 (x4 ++ [(⟨x278000, x278001, wrap64 (x5 + 1), x278003, wrap64 (1 + (wrap64 (rd x0 x5)))⟩ : S34)]) (wrap64 (x5 + 1)) (wrap64 (x6 + (wrap64 (1 + (wrap64 (rd x0 x5))))))) else (none)))) else (none)) else (none))) else (if x5 > (x0.length : Int) then (some (([] : List (S34)), false)) else (if x4.length < 3518437208883 then (capnpref23_Groups.l0 k x0 (x4 ++ [(⟨x278000, x278001, x5, x278003, x278004⟩ : S34)]) x5 (wrap64 (x6 + x278004))) else (none)))
end
def capnpref23_Groups.f (k : Nat) (l0 : List Int) : Option ((List (S34)) × Bool) := capnpref23_Groups.l0 k l0 ([] : List (S34)) 0 0
theorem capnpref23_Groups.mono_l : ∀ k, (∀ y0 y1 y2 y3, LeO (capnpref23_Groups.l0 k y0 y1 y2 y3) (capnpref23_Groups.l0 (k + 1) y0 y1 y2 y3)) ∧ (∀ y0 y1 y2 y3 y4 y5 y6 y7 y8 y9, LeO (capnpref23_Groups.j1 k y0 y1 y2 y3 y4 y5 y6 y7 y8 y9) (capnpref23_Groups.j1 (k + 1) y0 y1 y2 y3 y4 y5 y6 y7 y8 y9))
 | 0 => ⟨fun _ _ _ _ r h => by simp [capnpref23_Groups.l0] at h, fun _ _ _ _ _ _ _ _ _ _ r h => by simp [capnpref23_Groups.j1] at h⟩
 | k + 1 => by
  obtain ⟨ih0, ih1⟩ := capnpref23_Groups.mono_l k
  refine ⟨?_, ?_⟩
  ·intro y0 y1 y2 y3
   unfold capnpref23_Groups.l0
   repeat' first
   | (with_reducible exact ih0 _ _ _ _)
   | (with_reducible exact ih1 _ _ _ _ _ _ _ _ _ _)
   | (with_reducible exact capnpref20_Ones.mono _ _)
   | (with_reducible exact LeO.refl _)
   | (with_reducible exact LeO.none _)
   | (with_reducible refine LeO.ite ?_ ?_)
   | (with_reducible refine LeO.bind ?_ (fun _ => ?_))
   | exact ih0 _ _ _ _
   | exact ih1 _ _ _ _ _ _ _ _ _ _
   | exact capnpref20_Ones.mono _ _
   | exact LeO.none _
   | refine LeO.ite ?_ ?_
   | refine LeO.bind ?_ (fun _ => ?_)
  ·intro y0 y1 y2 y3 y4 y5 y6 y7 y8 y9
   unfold capnpref23_Groups.j1
   repeat' first
   | (with_reducible exact ih0 _ _ _ _)
   | (with_reducible exact ih1 _ _ _ _ _ _ _ _ _ _)
   | (with_reducible exact capnpref20_Ones.mono _ _)
   | (with_reducible exact LeO.refl _)
   | (with_reducible exact LeO.none _)
   | (with_reducible refine LeO.ite ?_ ?_)
   | (with_reducible refine LeO.bind ?_ (fun _ => ?_))
   | exact ih0 _ _ _ _
   | exact ih1 _ _ _ _ _ _ _ _ _ _
   | exact capnpref20_Ones.mono _ _
   | exact LeO.none _
   | refine LeO.ite ?_ ?_
   | refine LeO.bind ?_ (fun _ => ?_)
theorem capnpref23_Groups.mono : ∀ a0 k, LeO (capnpref23_Groups.f k a0) (capnpref23_Groups.f (k + 1) a0) := by
 intro a0 k
 obtain ⟨ih0, ih1⟩ := capnpref23_Groups.mono_l k
 unfold capnpref23_Groups.f
 repeat' first
   | (with_reducible exact ih0 _ _ _ _)
   | (with_reducible exact ih1 _ _ _ _ _ _ _ _ _ _)
   | (with_reducible exact capnpref20_Ones.mono _ _)
   | (with_reducible exact LeO.refl _)
   | (with_reducible exact LeO.none _)
   | (with_reducible refine LeO.ite ?_ ?_)
   | (with_reducible refine LeO.bind ?_ (fun _ => ?_))
   | exact ih0 _ _ _ _
   | exact ih1 _ _ _ _ _ _ _ _ _ _
   | exact capnpref20_Ones.mono _ _
   | exact LeO.none _
   | refine LeO.ite ?_ ?_
   | refine LeO.bind ?_ (fun _ => ?_)
theorem capnpref23_Groups.calls (k : Nat) (A0 : Option Addr) (c0 : Nat) (l0 : List Int) (r1 : List (S34)) (r2 : Bool) (w : World) (hr0 : Kd.C (Kd.int .u8) w A0 l0.length l0) (hc0 : l0.length ≤ c0) (h : capnpref23_Groups.f k l0 = some (r1, r2)) :
  Calls Tryd.prog 11 #[.slice A0 l0.length c0] w fun e w' => ∃ v0_ : Value, e = .returned (.tuple #[v0_, .bool r2]) ∧ Kd.R k34 34 w' w.heap.size (fun _ => True) v0_ r1 ∧ Below w.heap.size w w' := by
 have hu34 := Tryd.underlying34
 have HR0 := Aside0.mk hr0
 have HC0 := Aside0.mk hc0
 clear hr0 hc0
 have HB := Aside0.mk (Below.refl w.heap.size w)
 have H : (capnpref23_Groups.l0 k l0 ([] : List (S34)) 0 0) = some (r1, r2) := h
 clear h
 have H' := Aside0.mk H
 clear H
 go_enter Tryd.func11, Tryd.ntmps11
 go_wp2
 go_loopg [4, 5, 6] k (fun kq v4 v5 v6 w' => ∃ (x4_1 : List (S34)) (x5_1 : Int) (x6_1 : Int), v5 = .int .i64 x5_1 ∧ v6 = .int .i64 x6_1 ∧ Aside0 (capnpref23_Groups.l0 kq l0 x4_1 x5_1 x6_1 = some (r1, r2)) ∧ Aside0 (kq ≤ k) ∧ Aside0 (Kd.R k34 34 w' w.heap.size (fun _ => True) v4 x4_1) ∧ Aside0 (Below w.heap.size w w'))
 case atStart => exact ⟨(([] : List (S34))), (0), (0), (by first | rfl | (simp; done) | (simp [*]; done)), (by first | rfl | (simp; done) | (simp [*]; done)), H', ⟨Nat.le_refl _⟩, ⟨by first | exact Kd.R_nil _ _ _ _ _ | exact Kd.N_nil _ _ _ _ _ | exact Kd.V_nil _ _ _ _ _ | exact Kd.Q_nil _ _ _ _ _ | exact Kd.S_nil _ _ _ _ _⟩, ⟨pB⟩⟩
 case round =>
  clear H'
  try clear c1
  obtain ⟨x4_1, x5_1, x6_1, rfl, rfl, HA, HK1, HO_4, HB⟩ := hrel
  cases gk with
  | zero => exact absurd HA.out (by simp [capnpref23_Groups.l0])
  | succ k1 =>
   have H := HA.out
   clear HA
   simp only [capnpref23_Groups.l0] at H
   by_cases c2 : x5_1 < (l0.length : Int)
   ·rw [if_pos c2] at H
    have c2b0 : decide (x5_1 < (l0.length : Int)) = true := decide_eq_true c2
    clear c2
    by_cases c3 : 0 ≤ x5_1
    ·rw [if_pos c3] at H
     have c3b0 : decide (0 ≤ x5_1) = true := decide_eq_true c3
     clear c3
     replace H := Option.bind_eq_some_iff.mp H
     obtain ⟨t279, A40, H⟩ := H
     replace H : (if (rd l0 x5_1) = 0 then (capnpref23_Groups.j1 k1 l0 x4_1 (wrap64 ((wrap64 (x5_1 + 1)) + t279)) x6_1 true (rd l0 x5_1) x5_1 0 x6_1 1) else (capnpref23_Groups.j1 k1 l0 x4_1 (wrap64 ((wrap64 (x5_1 + 1)) + t279)) x6_1 ((rd l0 x5_1) == 255) (rd l0 x5_1) x5_1 0 x6_1 1)) = some (r1, r2) := H
     have A4 := Aside0.mk A40
     clear A40
     have HC5 := Aside0.mk H
     clear H
     have p276 : 0 ≤ (x5_1 : Int) := of_decide_eq_true pA
     have q276 : x5_1 < (l0.length : Int) := of_decide_eq_true pA
     obtain ⟨ad276, e276, hx276_0⟩ := Kd.at_int HR0.out x5_1 p276 q276
     cases e276
     replace hx276_0 := (HB.out.cell (World.block_lt_of_cell? w _ hx276_0)).trans hx276_0
     replace p276 := eq_true p276
     replace q276 := eq_true q276
     go_upto_region 7 with (first | ((with_reducible refine gate_dst (N := 7) rfl ?_); refine box_event ?hg (N := 7) ?hd (cs := #[.int .u8 0, .int .i64 0, .int .i64 0, .int .i64 0, .int .i64 0]) (t := 34) ?hr ?_; (case hd => rfl); (case hg => rfl); (case hr => first | (go_simp; done) | (go_simp; rfl)); intro gb277 hg w6 hbox hb; have n0_ := Aside0.mk (Kd.R_below (Kd.R_elderB (pR HO_4) gb277 (Nat.le_of_eq hg.symm)) hb); have n1_ := Aside0.mk (below_step pB hb); have n2_ := Aside0.mk (hbox); have n3_ := Aside0.mk ((by rw [hg]; exact (below_size pB) : w.heap.size ≤ gb277)); have n4_ := Aside0.mk ((by rw [hg]; exact (below_size pB) : w.heap.size ≤ gb277)); clear HO_4; clear HB; have HO_4 := n0_; have HB := n1_; have BK277 := n2_; have GW277 := n3_; have GE277 := n4_; clear n0_ n1_ n2_ n3_ n4_; clear hb hbox hg; have hcz7_0 : w6.cell? ⟨gb277, 0, none⟩ = some (.int .u8 0) := (blk_cell BK277.out 0).trans rfl; have hcz7_1 : w6.cell? ⟨gb277, 1, none⟩ = some (.int .i64 0) := (blk_cell BK277.out 1).trans rfl; have hcz7_2 : w6.cell? ⟨gb277, 2, none⟩ = some (.int .i64 0) := (blk_cell BK277.out 2).trans rfl; have hcz7_3 : w6.cell? ⟨gb277, 3, none⟩ = some (.int .i64 0) := (blk_cell BK277.out 3).trans rfl; have hcz7_4 : w6.cell? ⟨gb277, 4, none⟩ = some (.int .i64 0) := (blk_cell BK277.out 4).trans rfl; have hfz7_0 := blk_frozen BK277.out 0; have hfz7_1 := blk_frozen BK277.out 1; have hfz7_2 := blk_frozen BK277.out 2; have hfz7_3 := blk_frozen BK277.out 3; have hfz7_4 := blk_frozen BK277.out 4; have p278 : 0 ≤ (x5_1 : Int) := of_decide_eq_true pA; have q278 : x5_1 < (l0.length : Int) := of_decide_eq_true pA; obtain ⟨ad278, e278, hx278_0⟩ := Kd.at_int HR0.out x5_1 p278 q278; obtain rfl : ad276 = ad278 := (by injection e278); have hn278_0 : ad276.block ≠ gb277 := Nat.ne_of_lt (Nat.lt_of_lt_of_le (by have := World.block_lt_of_cell? _ _ hx278_0; first | rwa [add_block] at this | exact this) GW277.out); have hn278_1 : ad276.block ≠ gb277 := Nat.ne_of_lt (Nat.lt_of_lt_of_le (by have := World.block_lt_of_cell? _ _ hx278_0; first | rwa [add_block] at this | exact this) GW277.out); have hn278_2 : ad276.block ≠ gb277 := Nat.ne_of_lt (Nat.lt_of_lt_of_le (by have := World.block_lt_of_cell? _ _ hx278_0; first | rwa [add_block] at this | exact this) GW277.out); have hn278_3 : ad276.block ≠ gb277 := Nat.ne_of_lt (Nat.lt_of_lt_of_le (by have := World.block_lt_of_cell? _ _ hx278_0; first | rwa [add_block] at this | exact this) GW277.out); have hn278_4 : ad276.block ≠ gb277 := Nat.ne_of_lt (Nat.lt_of_lt_of_le (by have := World.block_lt_of_cell? _ _ hx278_0; first | rwa [add_block] at this | exact this) GW277.out); replace hx278_0 := (HB.out.cell (World.block_lt_of_cell? w _ hx278_0)).trans hx278_0; replace hx278_0 := (cell_far (p := ⟨gb277, 0, none⟩) (by first | (rw [add_block]; exact hn278_0) | (show (Addr.add _ _).block ≠ _; rw [add_block]; exact hn278_0) | exact hn278_0) (.int .u8 (rd l0 x5_1))).trans hx278_0; replace hx278_0 := (cell_far (p := ⟨gb277, 1, none⟩) (by first | (rw [add_block]; exact hn278_1) | (show (Addr.add _ _).block ≠ _; rw [add_block]; exact hn278_1) | exact hn278_1) (.int .i64 x5_1)).trans hx278_0; replace hx278_0 := (cell_far (p := ⟨gb277, 2, none⟩) (by first | (rw [add_block]; exact hn278_2) | (show (Addr.add _ _).block ≠ _; rw [add_block]; exact hn278_2) | exact hn278_2) (.int .i64 0)).trans hx278_0; replace hx278_0 := (cell_far (p := ⟨gb277, 3, none⟩) (by first | (rw [add_block]; exact hn278_3) | (show (Addr.add _ _).block ≠ _; rw [add_block]; exact hn278_3) | exact hn278_3) (.int .i64 x6_1)).trans hx278_0; replace hx278_0 := (cell_far (p := ⟨gb277, 4, none⟩) (by first | (rw [add_block]; exact hn278_4) | (show (Addr.add _ _).block ≠ _; rw [add_block]; exact hn278_4) | exact hn278_4) (.int .i64 1)).trans hx278_0; clear hn278_0; clear hn278_1; clear hn278_2; clear hn278_3; clear hn278_4; replace p278 := eq_true p278; replace q278 := eq_true q278) | ((with_reducible refine gate_callee (f := 28) rfl ?_); refine goesL_ (some 25) rfl rfl Tryd.func28 (by kernel_rfl) rfl #[.int .u8 (rd l0 x5_1)] rfl pM ?_; (with_reducible refine (capnpref20_Ones.calls k1 (rd l0 x5_1) t279 _ A4.out).mono ?_); rintro e w' ⟨rfl, ⟨nd, rfl⟩⟩; refine ⟨_, rfl, ?_⟩))
     (try simp only [Act.put, List.setIfInBounds_toArray, List.set_cons_zero, List.set_cons_succ])
     go_cut [34] (fun v34 wc => ∃ (kq : Nat) (x34_4 : Bool), v34 = .bool x34_4 ∧ Aside0 (capnpref23_Groups.j1 kq l0 x4_1 (wrap64 ((wrap64 (x5_1 + 1)) + t279)) x6_1 x34_4 (rd l0 x5_1) x5_1 0 x6_1 1 = some (r1, r2)) ∧ Aside0 (kq ≤ k1) ∧ Aside0 (Kd.R k34 34 wc w.heap.size (fun k_ => k_ ≠ gb277) u4 x4_1) ∧ Aside0 (wc.heap[gb277]? = some (.cells #[.int .u8 (rd l0 x5_1), .int .i64 x5_1, .int .i64 0, .int .i64 x6_1, .int .i64 1] 34 (0, 0))) ∧ Aside0 (Below w.heap.size w wc))
     case first =>
      have H := HC5.out
      clear HC5
      by_cases c8 : (rd l0 x5_1) = 0
      ·rw [if_pos c8] at H
       have c8b0 : ((rd l0 x5_1) == 0) = true := beq_iff_eq.mpr c8
       have c8b1 : ((rd l0 x5_1) != 0) = false := bne_eq_false_iff_eq.mpr c8
       clear c8
       (first | rw [c8b0] | (simp only [i64_w, i32_w]; rw [c8b0]) | skip)
       have H' := Aside0.mk H
       clear H
       have hcz9_0 : w6.cell? ⟨gb277, 0, none⟩ = some (.int .u8 0) := (blk_cell BK277.out 0).trans rfl
       have hcz9_1 : w6.cell? ⟨gb277, 1, none⟩ = some (.int .i64 0) := (blk_cell BK277.out 1).trans rfl
       have hcz9_2 : w6.cell? ⟨gb277, 2, none⟩ = some (.int .i64 0) := (blk_cell BK277.out 2).trans rfl
       have hcz9_3 : w6.cell? ⟨gb277, 3, none⟩ = some (.int .i64 0) := (blk_cell BK277.out 3).trans rfl
       have hcz9_4 : w6.cell? ⟨gb277, 4, none⟩ = some (.int .i64 0) := (blk_cell BK277.out 4).trans rfl
       have hfz9_0 := blk_frozen BK277.out 0
       have hfz9_1 := blk_frozen BK277.out 1
       have hfz9_2 := blk_frozen BK277.out 2
       have hfz9_3 := blk_frozen BK277.out 3
       have hfz9_4 := blk_frozen BK277.out 4
       go_wp2
       go_meet
       case rel => exact ⟨_, (true), (by first | rfl | (simp; done) | (simp [*]; done)), H', ⟨by have := HK1.out; first | omega | exact Nat.le_refl _⟩, ⟨by (with_reducible repeat (first | apply Kd.R_alloc | apply Kd.R_drewN | apply Kd.R_drew)); exact Kd.R_mono (Kd.R_far (p := ⟨gb277, 4, none⟩) (Kd.R_far (p := ⟨gb277, 3, none⟩) (Kd.R_far (p := ⟨gb277, 2, none⟩) (Kd.R_far (p := ⟨gb277, 1, none⟩) (Kd.R_far (p := ⟨gb277, 0, none⟩) (Kd.R_mono HO_4.out (fun k_ hk => (⟨hk, hk.2⟩ : _ ∧ k_ ≠ gb277))) (fun _ hk => hk.2) (.int .u8 (rd l0 x5_1))) (fun _ hk => hk.2) (.int .i64 x5_1)) (fun _ hk => hk.2) (.int .i64 0)) (fun _ hk => hk.2) (.int .i64 x6_1)) (fun _ hk => hk.2) (.int .i64 1)) (fun _ hk => hk.1.2)⟩, ⟨by (with_reducible repeat (first | refine blk_drewN ?_ _ | refine blk_drew ?_ | refine blk_alloc ?_ _)); refine blk_put (cs := #[.int .u8 (rd l0 x5_1), .int .i64 x5_1, .int .i64 0, .int .i64 x6_1, .int .i64 0]) ?_ 4 _ rfl; (with_reducible repeat (first | refine blk_drewN ?_ _ | refine blk_drew ?_ | refine blk_alloc ?_ _)); refine blk_put (cs := #[.int .u8 (rd l0 x5_1), .int .i64 x5_1, .int .i64 0, .int .i64 0, .int .i64 0]) ?_ 3 _ rfl; (with_reducible repeat (first | refine blk_drewN ?_ _ | refine blk_drew ?_ | refine blk_alloc ?_ _)); refine blk_put (cs := #[.int .u8 (rd l0 x5_1), .int .i64 x5_1, .int .i64 0, .int .i64 0, .int .i64 0]) ?_ 2 _ rfl; (with_reducible repeat (first | refine blk_drewN ?_ _ | refine blk_drew ?_ | refine blk_alloc ?_ _)); refine blk_put (cs := #[.int .u8 (rd l0 x5_1), .int .i64 0, .int .i64 0, .int .i64 0, .int .i64 0]) ?_ 1 _ rfl; (with_reducible repeat (first | refine blk_drewN ?_ _ | refine blk_drew ?_ | refine blk_alloc ?_ _)); refine blk_put (cs := #[.int .u8 0, .int .i64 0, .int .i64 0, .int .i64 0, .int .i64 0]) ?_ 0 _ rfl; (with_reducible repeat (first | refine blk_drewN ?_ _ | refine blk_drew ?_ | refine blk_alloc ?_ _)); exact BK277.out⟩, ⟨by repeat (first | (with_reducible first | exact HB.out | apply below_alloc | apply pw_below_drewN | apply below_drew1 | refine below_set ?_ GE277.out) | exact HB.out)⟩⟩
      ·rw [if_neg c8] at H
       have c8b0 : ((rd l0 x5_1) == 0) = false := beq_eq_false_iff_ne.mpr c8
       have c8b1 : ((rd l0 x5_1) != 0) = true := bne_iff_ne.mpr c8
       (first | rw [c8b0] | (simp only [i64_w, i32_w]; rw [c8b0]) | skip)
       have H' := Aside0.mk H
       clear H
       have hcz10_0 : w6.cell? ⟨gb277, 0, none⟩ = some (.int .u8 0) := (blk_cell BK277.out 0).trans rfl
       have hcz10_1 : w6.cell? ⟨gb277, 1, none⟩ = some (.int .i64 0) := (blk_cell BK277.out 1).trans rfl
       have hcz10_2 : w6.cell? ⟨gb277, 2, none⟩ = some (.int .i64 0) := (blk_cell BK277.out 2).trans rfl
       have hcz10_3 : w6.cell? ⟨gb277, 3, none⟩ = some (.int .i64 0) := (blk_cell BK277.out 3).trans rfl
       have hcz10_4 : w6.cell? ⟨gb277, 4, none⟩ = some (.int .i64 0) := (blk_cell BK277.out 4).trans rfl
       have hfz10_0 := blk_frozen BK277.out 0
       have hfz10_1 := blk_frozen BK277.out 1
       have hfz10_2 := blk_frozen BK277.out 2
       have hfz10_3 := blk_frozen BK277.out 3
       have hfz10_4 := blk_frozen BK277.out 4
       go_wp2
       go_meet
       case rel => exact ⟨_, (((rd l0 x5_1) == 255)), (by first | rfl | (simp; done) | (simp [*]; done)), H', ⟨by have := HK1.out; first | omega | exact Nat.le_refl _⟩, ⟨by (with_reducible repeat (first | apply Kd.R_alloc | apply Kd.R_drewN | apply Kd.R_drew)); exact Kd.R_mono (Kd.R_far (p := ⟨gb277, 4, none⟩) (Kd.R_far (p := ⟨gb277, 3, none⟩) (Kd.R_far (p := ⟨gb277, 2, none⟩) (Kd.R_far (p := ⟨gb277, 1, none⟩) (Kd.R_far (p := ⟨gb277, 0, none⟩) (Kd.R_mono HO_4.out (fun k_ hk => (⟨hk, hk.2⟩ : _ ∧ k_ ≠ gb277))) (fun _ hk => hk.2) (.int .u8 (rd l0 x5_1))) (fun _ hk => hk.2) (.int .i64 x5_1)) (fun _ hk => hk.2) (.int .i64 0)) (fun _ hk => hk.2) (.int .i64 x6_1)) (fun _ hk => hk.2) (.int .i64 1)) (fun _ hk => hk.1.2)⟩, ⟨by (with_reducible repeat (first | refine blk_drewN ?_ _ | refine blk_drew ?_ | refine blk_alloc ?_ _)); refine blk_put (cs := #[.int .u8 (rd l0 x5_1), .int .i64 x5_1, .int .i64 0, .int .i64 x6_1, .int .i64 0]) ?_ 4 _ rfl; (with_reducible repeat (first | refine blk_drewN ?_ _ | refine blk_drew ?_ | refine blk_alloc ?_ _)); refine blk_put (cs := #[.int .u8 (rd l0 x5_1), .int .i64 x5_1, .int .i64 0, .int .i64 0, .int .i64 0]) ?_ 3 _ rfl; (with_reducible repeat (first | refine blk_drewN ?_ _ | refine blk_drew ?_ | refine blk_alloc ?_ _)); refine blk_put (cs := #[.int .u8 (rd l0 x5_1), .int .i64 x5_1, .int .i64 0, .int .i64 0, .int .i64 0]) ?_ 2 _ rfl; (with_reducible repeat (first | refine blk_drewN ?_ _ | refine blk_drew ?_ | refine blk_alloc ?_ _)); refine blk_put (cs := #[.int .u8 (rd l0 x5_1), .int .i64 0, .int .i64 0, .int .i64 0, .int .i64 0]) ?_ 1 _ rfl; (with_reducible repeat (first | refine blk_drewN ?_ _ | refine blk_drew ?_ | refine blk_alloc ?_ _)); refine blk_put (cs := #[.int .u8 0, .int .i64 0, .int .i64 0, .int .i64 0, .int .i64 0]) ?_ 0 _ rfl; (with_reducible repeat (first | refine blk_drewN ?_ _ | refine blk_drew ?_ | refine blk_alloc ?_ _)); exact BK277.out⟩, ⟨by repeat (first | (with_reducible first | exact HB.out | apply below_alloc | apply pw_below_drewN | apply below_drew1 | refine below_set ?_ GE277.out) | exact HB.out)⟩⟩
     case rest =>
      clear HC5
      try clear c1
      try clear c2
      try clear c2b0
      try clear p2
      try clear q2
      try clear hx2
      try clear c3
      try clear c3b0
      try clear p6
      try clear c8
      try clear c8b0
      try clear c8b1
      try clear hcz10_0
      try clear hcz10_1
      try clear hcz10_2
      try clear hcz10_3
      try clear hcz10_4
      try clear hcz7_0
      try clear hcz7_1
      try clear hcz7_2
      try clear hcz7_3
      try clear hcz7_4
      try clear hcz9_0
      try clear hcz9_1
      try clear hcz9_2
      try clear hcz9_3
      try clear hcz9_4
      try clear hfz10_0
      try clear hfz10_1
      try clear hfz10_2
      try clear hfz10_3
      try clear hfz10_4
      try clear hfz7_0
      try clear hfz7_1
      try clear hfz7_2
      try clear hfz7_3
      try clear hfz7_4
      try clear hfz9_0
      try clear hfz9_1
      try clear hfz9_2
      try clear hfz9_3
      try clear hfz9_4
      try clear hx276_0
      try clear hx278_0
      try clear p276
      try clear p278
      try clear q276
      try clear q278
      obtain ⟨kq, x34_4, rfl, HA, HJ4, HO_4, BK277, HB⟩ := hcut
      cases kq with
      | zero => exact absurd HA.out (by simp [capnpref23_Groups.j1])
      | succ kj4 =>
       have H := HA.out
       clear HA
       simp only [capnpref23_Groups.j1] at H
       by_cases c11 : x34_4 = true
       ·subst c11
        have H1 : (if (wrap64 ((wrap64 (x5_1 + 1)) + t279)) ≥ (l0.length : Int) then (some (([] : List (S34)), false)) else (if 0 ≤ (wrap64 ((wrap64 (x5_1 + 1)) + t279)) then (if (wrap64 ((wrap64 (x5_1 + 1)) + t279)) < (l0.length : Int) then (if (rd l0 x5_1) = 255 then (if (wrap64 ((wrap64 ((wrap64 ((wrap64 (x5_1 + 1)) + t279)) + 1)) + (wrap64 (8 * (wrap64 ((wrap64 (1 + (wrap64 (rd l0 (wrap64 ((wrap64 (x5_1 + 1)) + t279)))))) - 1)))))) > (l0.length : Int) then (some (([] : List (S34)), false)) else (if x4_1.length < 3518437208883 then (capnpref23_Groups.l0 kj4 l0 (x4_1 ++ [(⟨(rd l0 x5_1), x5_1, wrap64 ((wrap64 ((wrap64 ((wrap64 (x5_1 + 1)) + t279)) + 1)) + (wrap64 (8 * (wrap64 ((wrap64 (1 + (wrap64 (rd l0 (wrap64 ((wrap64 (x5_1 + 1)) + t279)))))) - 1))))), x6_1, wrap64 (1 + (wrap64 (rd l0 (wrap64 ((wrap64 (x5_1 + 1)) + t279)))))⟩ : S34)]) (wrap64 ((wrap64 ((wrap64 ((wrap64 (x5_1 + 1)) + t279)) + 1)) + (wrap64 (8 * (wrap64 ((wrap64 (1 + (wrap64 (rd l0 (wrap64 ((wrap64 (x5_1 + 1)) + t279)))))) - 1)))))) (wrap64 (x6_1 + (wrap64 (1 + (wrap64 (rd l0 (wrap64 ((wrap64 (x5_1 + 1)) + t279))))))))) else (none))) else (if (wrap64 ((wrap64 ((wrap64 (x5_1 + 1)) + t279)) + 1)) > (l0.length : Int) then (some (([] : List (S34)), false)) else (if x4_1.length < 3518437208883 then (capnpref23_Groups.l0 kj4 l0 (x4_1 ++ [(⟨(rd l0 x5_1), x5_1, wrap64 ((wrap64 ((wrap64 (x5_1 + 1)) + t279)) + 1), x6_1, wrap64 (1 + (wrap64 (rd l0 (wrap64 ((wrap64 (x5_1 + 1)) + t279)))))⟩ : S34)]) (wrap64 ((wrap64 ((wrap64 (x5_1 + 1)) + t279)) + 1)) (wrap64 (x6_1 + (wrap64 (1 + (wrap64 (rd l0 (wrap64 ((wrap64 (x5_1 + 1)) + t279))))))))) else (none)))) else (none)) else (none))) = some (r1, r2) := by rw [if_pos rfl] at H; exact H
        clear H
        have H := H1
        clear H1
        by_cases c12 : (wrap64 ((wrap64 (x5_1 + 1)) + t279)) ≥ (l0.length : Int)
        ·rw [if_pos c12] at H
         have c12b0 : decide ((l0.length : Int) ≤ (wrap64 ((wrap64 (x5_1 + 1)) + t279))) = true := decide_eq_true c12
         clear c12
         simp only [Option.some.injEq, Prod.mk.injEq] at H
         obtain ⟨rfl, rfl⟩ := H
         go_wp2
         go_ret2
         exact ⟨_, by first | rfl | (simp [errW_none, errW_some] <;> rfl) | (simp [*, errW_none, errW_some] <;> rfl), by first | exact Kd.R_nil _ _ _ _ _ | exact Kd.N_nil _ _ _ _ _ | exact Kd.V_nil _ _ _ _ _ | exact Kd.Q_nil _ _ _ _ _ | exact Kd.S_nil _ _ _ _ _, by repeat (first | (with_reducible first | exact HB.out | apply below_alloc | apply pw_below_drewN | apply below_drew1 | refine below_set ?_ GE277.out) | exact HB.out)⟩
        ·rw [if_neg c12] at H
         have c12b0 : decide ((l0.length : Int) ≤ (wrap64 ((wrap64 (x5_1 + 1)) + t279))) = false := decide_eq_false c12
         clear c12
         obtain ⟨ji13, hji13⟩ : ∃ j_ : Int, (wrap64 ((wrap64 (x5_1 + 1)) + t279)) = j_ := ⟨_, rfl⟩
         replace H : (if 0 ≤ (ji13) then (if (ji13) < (l0.length : Int) then (if (rd l0 x5_1) = 255 then (if (wrap64 ((wrap64 ((ji13) + 1)) + (wrap64 (8 * (wrap64 ((wrap64 (1 + (wrap64 (rd l0 (ji13))))) - 1)))))) > (l0.length : Int) then (some (([] : List (S34)), false)) else (if x4_1.length < 3518437208883 then (capnpref23_Groups.l0 kj4 l0 (x4_1 ++ [(⟨(rd l0 x5_1), x5_1, wrap64 ((wrap64 ((ji13) + 1)) + (wrap64 (8 * (wrap64 ((wrap64 (1 + (wrap64 (rd l0 (ji13))))) - 1))))), x6_1, wrap64 (1 + (wrap64 (rd l0 (ji13))))⟩ : S34)]) (wrap64 ((wrap64 ((ji13) + 1)) + (wrap64 (8 * (wrap64 ((wrap64 (1 + (wrap64 (rd l0 (ji13))))) - 1)))))) (wrap64 (x6_1 + (wrap64 (1 + (wrap64 (rd l0 (ji13)))))))) else (none))) else (if (wrap64 ((ji13) + 1)) > (l0.length : Int) then (some (([] : List (S34)), false)) else (if x4_1.length < 3518437208883 then (capnpref23_Groups.l0 kj4 l0 (x4_1 ++ [(⟨(rd l0 x5_1), x5_1, wrap64 ((ji13) + 1), x6_1, wrap64 (1 + (wrap64 (rd l0 (ji13))))⟩ : S34)]) (wrap64 ((ji13) + 1)) (wrap64 (x6_1 + (wrap64 (1 + (wrap64 (rd l0 (ji13)))))))) else (none)))) else (none)) else (none)) = some (r1, r2) := by first | (rw [hji13] at H; exact H) | (simp only [hji13] at H ⊢; exact H)
         (try rw [hji13] at c12b0)
         have hji13w : (IntKind.i64.wrap ((wrap64 (x5_1 + 1)) + t279)) = ji13 := (i64_w _).trans hji13
         by_cases c14 : 0 ≤ (ji13)
         ·rw [if_pos c14] at H
          have c14b0 : decide (0 ≤ (ji13)) = true := decide_eq_true c14
          clear c14
          by_cases c15 : (ji13) < (l0.length : Int)
          ·rw [if_pos c15] at H
           have c15b0 : decide ((ji13) < (l0.length : Int)) = true := decide_eq_true c15
           clear c15
           by_cases c16 : (rd l0 x5_1) = 255
           ·rw [if_pos c16] at H
            have c16b0 : ((rd l0 x5_1) == 255) = true := beq_iff_eq.mpr c16
            have c16b1 : ((rd l0 x5_1) != 255) = false := bne_eq_false_iff_eq.mpr c16
            clear c16
            by_cases c17 : (wrap64 ((wrap64 ((ji13) + 1)) + (wrap64 (8 * (wrap64 ((wrap64 (1 + (wrap64 (rd l0 (ji13))))) - 1)))))) > (l0.length : Int)
            ·rw [if_pos c17] at H
             have c17b0 : decide ((l0.length : Int) < (wrap64 ((wrap64 ((ji13) + 1)) + (wrap64 (8 * (wrap64 ((wrap64 (1 + (wrap64 (rd l0 (ji13))))) - 1))))))) = true := decide_eq_true c17
             clear c17
             simp only [Option.some.injEq, Prod.mk.injEq] at H
             obtain ⟨rfl, rfl⟩ := H
             have p280 : 0 ≤ ((ji13) : Int) := of_decide_eq_true pA
             have q280 : (ji13) < (l0.length : Int) := of_decide_eq_true pA
             obtain ⟨ad280, e280, hx280_0⟩ := Kd.at_int HR0.out (ji13) p280 q280
             obtain rfl : ad276 = ad280 := (by injection e280)
             replace hx280_0 := (HB.out.cell (World.block_lt_of_cell? w _ hx280_0)).trans hx280_0
             replace p280 := eq_true p280
             replace q280 := eq_true q280
             have hcz18_0 : wc.cell? ⟨gb277, 0, none⟩ = some (.int .u8 (rd l0 x5_1)) := (blk_cell BK277.out 0).trans rfl
             have hcz18_1 : wc.cell? ⟨gb277, 1, none⟩ = some (.int .i64 x5_1) := (blk_cell BK277.out 1).trans rfl
             have hcz18_2 : wc.cell? ⟨gb277, 2, none⟩ = some (.int .i64 0) := (blk_cell BK277.out 2).trans rfl
             have hcz18_3 : wc.cell? ⟨gb277, 3, none⟩ = some (.int .i64 x6_1) := (blk_cell BK277.out 3).trans rfl
             have hcz18_4 : wc.cell? ⟨gb277, 4, none⟩ = some (.int .i64 1) := (blk_cell BK277.out 4).trans rfl
             have hfz18_0 := blk_frozen BK277.out 0
             have hfz18_1 := blk_frozen BK277.out 1
             have hfz18_2 := blk_frozen BK277.out 2
             have hfz18_3 := blk_frozen BK277.out 3
             have hfz18_4 := blk_frozen BK277.out 4
             go_wp2
             go_ret2
             exact ⟨_, by first | rfl | (simp [errW_none, errW_some] <;> rfl) | (simp only [← hji13]; first | rfl | (simp [errW_none, errW_some] <;> rfl)) | (simp [*, errW_none, errW_some] <;> rfl), by first | exact Kd.R_nil _ _ _ _ _ | exact Kd.N_nil _ _ _ _ _ | exact Kd.V_nil _ _ _ _ _ | exact Kd.Q_nil _ _ _ _ _ | exact Kd.S_nil _ _ _ _ _, by repeat (first | (with_reducible first | exact HB.out | apply below_alloc | apply pw_below_drewN | apply below_drew1 | refine below_set ?_ GE277.out) | exact HB.out)⟩
            ·rw [if_neg c17] at H
             have c17b0 : decide ((l0.length : Int) < (wrap64 ((wrap64 ((ji13) + 1)) + (wrap64 (8 * (wrap64 ((wrap64 (1 + (wrap64 (rd l0 (ji13))))) - 1))))))) = false := decide_eq_false c17
             clear c17
             by_cases c19 : x4_1.length < 3518437208883
             ·rw [if_pos c19] at H
              have LMc19 := Aside0.mk c19
              clear c19
              obtain ⟨y281, hy281⟩ : ∃ y_ : List (S34), y_ = (x4_1 ++ [(⟨(rd l0 x5_1), x5_1, wrap64 ((wrap64 ((ji13) + 1)) + (wrap64 (8 * (wrap64 ((wrap64 (1 + (wrap64 (rd l0 (ji13))))) - 1))))), x6_1, wrap64 (1 + (wrap64 (rd l0 (ji13))))⟩ : S34)]) := ⟨_, rfl⟩
              replace H : (capnpref23_Groups.l0 kj4 l0 y281 (wrap64 ((wrap64 ((ji13) + 1)) + (wrap64 (8 * (wrap64 ((wrap64 (1 + (wrap64 (rd l0 (ji13))))) - 1)))))) (wrap64 (x6_1 + (wrap64 (1 + (wrap64 (rd l0 (ji13)))))))) = some (r1, r2) := by first | (rw [hy281]; with_reducible exact H) | (have H2_ := (Option.bind_some _ _).symm.trans H; rw [hy281]; with_reducible exact H2_) | (have H2_ := (Option.bind_some _ _).symm.trans H; with_reducible exact H2_) | with_reducible exact H | (rw [hy281]; exact H) | exact H
              have Ny281 := Aside0.mk hy281
              clear hy281
              have H' := Aside0.mk H
              clear H
              have p280 : 0 ≤ ((ji13) : Int) := of_decide_eq_true pA
              have q280 : (ji13) < (l0.length : Int) := of_decide_eq_true pA
              obtain ⟨ad280, e280, hx280_0⟩ := Kd.at_int HR0.out (ji13) p280 q280
              obtain rfl : ad276 = ad280 := (by injection e280)
              replace hx280_0 := (HB.out.cell (World.block_lt_of_cell? w _ hx280_0)).trans hx280_0
              replace p280 := eq_true p280
              replace q280 := eq_true q280
              have hcz20_0 : wc.cell? ⟨gb277, 0, none⟩ = some (.int .u8 (rd l0 x5_1)) := (blk_cell BK277.out 0).trans rfl
              have hcz20_1 : wc.cell? ⟨gb277, 1, none⟩ = some (.int .i64 x5_1) := (blk_cell BK277.out 1).trans rfl
              have hcz20_2 : wc.cell? ⟨gb277, 2, none⟩ = some (.int .i64 0) := (blk_cell BK277.out 2).trans rfl
              have hcz20_3 : wc.cell? ⟨gb277, 3, none⟩ = some (.int .i64 x6_1) := (blk_cell BK277.out 3).trans rfl
              have hcz20_4 : wc.cell? ⟨gb277, 4, none⟩ = some (.int .i64 1) := (blk_cell BK277.out 4).trans rfl
              have hfz20_0 := blk_frozen BK277.out 0
              have hfz20_1 := blk_frozen BK277.out 1
              have hfz20_2 := blk_frozen BK277.out 2
              have hfz20_3 := blk_frozen BK277.out 3
              have hfz20_4 := blk_frozen BK277.out 4
              go_wp2_with (first | ((with_reducible refine gate_builtin (b := .append) (xs := #[.tmp 67, .tmp 69]) rfl ?_); at_builtin; refine Kd.R_append k34 (w0 := w) w.heap.size rfl (.tmp 67) (.tmp 69) 29 34 (.agg #[(.int .u8 0), (.int .i64 0), (.int .i64 0), (.int .i64 0), (.int .i64 0)]) 40 rfl Tryd.underlying29 info34 rfl (by decide) (by omega) u4 x4_1 (⟨(rd l0 x5_1), x5_1, wrap64 ((wrap64 ((ji13) + 1)) + (wrap64 (8 * (wrap64 ((wrap64 (1 + (wrap64 (rd l0 (ji13))))) - 1))))), x6_1, wrap64 (1 + (wrap64 (rd l0 (ji13))))⟩ : S34) [.int .u8 (rd l0 x5_1), .int .i64 x5_1, .int .i64 (wrap64 ((wrap64 ((ji13) + 1)) + (wrap64 (8 * (wrap64 ((wrap64 (1 + (wrap64 (rd l0 (ji13))))) - 1)))))), .int .i64 x6_1, .int .i64 (wrap64 (1 + (wrap64 (rd l0 (ji13)))))] (fun k_ => k_ ≠ gb277) (fun _ => False) rfl (by first | (go_simp; done) | (go_simp; rfl)) ?aP (fun _ hk => hk.elim) ?aF ?aO ?aB ?aS ?aL ?_; (case aP => exact k34_mkM _ _ _ (⟨(rd l0 x5_1), x5_1, wrap64 ((wrap64 ((ji13) + 1)) + (wrap64 (8 * (wrap64 ((wrap64 (1 + (wrap64 (rd l0 (ji13))))) - 1))))), x6_1, wrap64 (1 + (wrap64 (rd l0 (ji13))))⟩ : S34)); (case aB => exact (by repeat (first | (with_reducible first | exact HB.out | apply below_alloc | apply pw_below_drewN | apply below_drew1 | refine below_set ?_ GE277.out) | exact HB.out))); (case aF => exact (fun k_ hk => Kd.freshB (g := gb277) (o := .cells #[.int .u8 (rd l0 x5_1), .int .i64 x5_1, .int .i64 (wrap64 ((wrap64 ((ji13) + 1)) + (wrap64 (8 * (wrap64 ((wrap64 (1 + (wrap64 (rd l0 (ji13))))) - 1)))))), .int .i64 x6_1, .int .i64 (wrap64 (1 + (wrap64 (rd l0 (ji13)))))] 34 (0, 0)) (by (with_reducible repeat (first | refine blk_drewN ?_ _ | refine blk_drew ?_ | refine blk_alloc ?_ _)); refine blk_put (cs := #[.int .u8 (rd l0 x5_1), .int .i64 x5_1, .int .i64 0, .int .i64 x6_1, .int .i64 (wrap64 (1 + (wrap64 (rd l0 (ji13)))))]) ?_ 2 _ rfl; (with_reducible repeat (first | refine blk_drewN ?_ _ | refine blk_drew ?_ | refine blk_alloc ?_ _)); refine blk_put (cs := #[.int .u8 (rd l0 x5_1), .int .i64 x5_1, .int .i64 0, .int .i64 x6_1, .int .i64 1]) ?_ 4 _ rfl; (with_reducible repeat (first | refine blk_drewN ?_ _ | refine blk_drew ?_ | refine blk_alloc ?_ _)); exact BK277.out) k_ hk)); (case aO => exact (by (with_reducible repeat (first | apply Kd.R_alloc | apply Kd.R_drewN | apply Kd.R_drew)); exact Kd.R_mono (Kd.R_far (p := ⟨gb277, 2, none⟩) (Kd.R_far (p := ⟨gb277, 4, none⟩) (Kd.R_mono HO_4.out (fun k_ hk => (⟨hk, hk⟩ : _ ∧ k_ ≠ gb277))) (fun _ hk => hk.2) (.int .i64 (wrap64 (1 + (wrap64 (rd l0 (ji13))))))) (fun _ hk => hk.2) (.int .i64 (wrap64 ((wrap64 ((ji13) + 1)) + (wrap64 (8 * (wrap64 ((wrap64 (1 + (wrap64 (rd l0 (ji13))))) - 1)))))))) (fun _ hk => hk.1))); (case aS => exact (below_size (by repeat (first | (with_reducible first | exact HB.out | apply below_alloc | apply pw_below_drewN | apply below_drew1 | refine below_set ?_ GE277.out) | exact HB.out)))); (case aL => have := LMc19.out; omega); intro v282 w21 ho hb hg hat; rw [← Ny281.out] at ho; have n0_ := Aside0.mk (blk_grown (g := gb277) (o := .cells #[.int .u8 (rd l0 x5_1), .int .i64 x5_1, .int .i64 (wrap64 ((wrap64 ((ji13) + 1)) + (wrap64 (8 * (wrap64 ((wrap64 (1 + (wrap64 (rd l0 (ji13))))) - 1)))))), .int .i64 x6_1, .int .i64 (wrap64 (1 + (wrap64 (rd l0 (ji13)))))] 34 (0, 0)) (by (with_reducible repeat (first | refine blk_drewN ?_ _ | refine blk_drew ?_ | refine blk_alloc ?_ _)); refine blk_put (cs := #[.int .u8 (rd l0 x5_1), .int .i64 x5_1, .int .i64 0, .int .i64 x6_1, .int .i64 (wrap64 (1 + (wrap64 (rd l0 (ji13)))))]) ?_ 2 _ rfl; (with_reducible repeat (first | refine blk_drewN ?_ _ | refine blk_drew ?_ | refine blk_alloc ?_ _)); refine blk_put (cs := #[.int .u8 (rd l0 x5_1), .int .i64 x5_1, .int .i64 0, .int .i64 x6_1, .int .i64 1]) ?_ 4 _ rfl; (with_reducible repeat (first | refine blk_drewN ?_ _ | refine blk_drew ?_ | refine blk_alloc ?_ _)); exact BK277.out) hg (Kd.R_away HO_4.out (fun _ hk => hk))); have n1_ := Aside0.mk (hb); have n2_ := Aside0.mk (ho); clear BK277; clear HB; clear HO_4; have BK277 := n0_; have HB := n1_; have HO283 := n2_; clear n0_ n1_ n2_; clear ho hb hg hat))
              go_roundg kj4
              case measure => have := HK1.out; have := HJ4.out; omega
              case rel => exact ⟨(y281), (wrap64 ((wrap64 ((ji13) + 1)) + (wrap64 (8 * (wrap64 ((wrap64 (1 + (wrap64 (rd l0 (ji13))))) - 1)))))), (wrap64 (x6_1 + (wrap64 (1 + (wrap64 (rd l0 (ji13))))))), (by first | rfl | (simp; done) | (simp only [← hji13] <;> (first | rfl | simp)) | (simp [*]; done)), (by first | rfl | (simp; done) | (simp only [← hji13] <;> (first | rfl | simp)) | (simp [*]; done)), H', ⟨by have := HK1.out; have := HJ4.out; omega⟩, ⟨by (with_reducible repeat (first | apply Kd.R_alloc | apply Kd.R_drewN | apply Kd.R_drew)); exact Kd.R_mono HO283.out (fun _ hk => trivial)⟩, ⟨by repeat (first | (with_reducible first | exact HB.out | apply below_alloc | apply pw_below_drewN | apply below_drew1 | refine below_set ?_ GE277.out) | exact HB.out)⟩⟩
             ·rw [if_neg c19] at H
              exact absurd H (by simp)
           ·rw [if_neg c16] at H
            have c16b0 : ((rd l0 x5_1) == 255) = false := beq_eq_false_iff_ne.mpr c16
            have c16b1 : ((rd l0 x5_1) != 255) = true := bne_iff_ne.mpr c16
            by_cases c22 : (wrap64 ((ji13) + 1)) > (l0.length : Int)
            ·rw [if_pos c22] at H
             have c22b0 : decide ((l0.length : Int) < (wrap64 ((ji13) + 1))) = true := decide_eq_true c22
             clear c22
             simp only [Option.some.injEq, Prod.mk.injEq] at H
             obtain ⟨rfl, rfl⟩ := H
             have p280 : 0 ≤ ((ji13) : Int) := of_decide_eq_true pA
             have q280 : (ji13) < (l0.length : Int) := of_decide_eq_true pA
             obtain ⟨ad280, e280, hx280_0⟩ := Kd.at_int HR0.out (ji13) p280 q280
             obtain rfl : ad276 = ad280 := (by injection e280)
             replace hx280_0 := (HB.out.cell (World.block_lt_of_cell? w _ hx280_0)).trans hx280_0
             replace p280 := eq_true p280
             replace q280 := eq_true q280
             have hcz23_0 : wc.cell? ⟨gb277, 0, none⟩ = some (.int .u8 (rd l0 x5_1)) := (blk_cell BK277.out 0).trans rfl
             have hcz23_1 : wc.cell? ⟨gb277, 1, none⟩ = some (.int .i64 x5_1) := (blk_cell BK277.out 1).trans rfl
             have hcz23_2 : wc.cell? ⟨gb277, 2, none⟩ = some (.int .i64 0) := (blk_cell BK277.out 2).trans rfl
             have hcz23_3 : wc.cell? ⟨gb277, 3, none⟩ = some (.int .i64 x6_1) := (blk_cell BK277.out 3).trans rfl
             have hcz23_4 : wc.cell? ⟨gb277, 4, none⟩ = some (.int .i64 1) := (blk_cell BK277.out 4).trans rfl
             have hfz23_0 := blk_frozen BK277.out 0
             have hfz23_1 := blk_frozen BK277.out 1
             have hfz23_2 := blk_frozen BK277.out 2
             have hfz23_3 := blk_frozen BK277.out 3
             have hfz23_4 := blk_frozen BK277.out 4
             go_wp2
             go_ret2
             exact ⟨_, by first | rfl | (simp [errW_none, errW_some] <;> rfl) | (simp only [← hji13]; first | rfl | (simp [errW_none, errW_some] <;> rfl)) | (simp [*, errW_none, errW_some] <;> rfl), by first | exact Kd.R_nil _ _ _ _ _ | exact Kd.N_nil _ _ _ _ _ | exact Kd.V_nil _ _ _ _ _ | exact Kd.Q_nil _ _ _ _ _ | exact Kd.S_nil _ _ _ _ _, by repeat (first | (with_reducible first | exact HB.out | apply below_alloc | apply pw_below_drewN | apply below_drew1 | refine below_set ?_ GE277.out) | exact HB.out)⟩
            ·rw [if_neg c22] at H
             have c22b0 : decide ((l0.length : Int) < (wrap64 ((ji13) + 1))) = false := decide_eq_false c22
             clear c22
             by_cases c24 : x4_1.length < 3518437208883
             ·rw [if_pos c24] at H
              have LMc24 := Aside0.mk c24
              clear c24
              obtain ⟨y284, hy284⟩ : ∃ y_ : List (S34), y_ = (x4_1 ++ [(⟨(rd l0 x5_1), x5_1, wrap64 ((ji13) + 1), x6_1, wrap64 (1 + (wrap64 (rd l0 (ji13))))⟩ : S34)]) := ⟨_, rfl⟩
              replace H : (capnpref23_Groups.l0 kj4 l0 y284 (wrap64 ((ji13) + 1)) (wrap64 (x6_1 + (wrap64 (1 + (wrap64 (rd l0 (ji13)))))))) = some (r1, r2) := by first | (rw [hy284]; with_reducible exact H) | (have H2_ := (Option.bind_some _ _).symm.trans H; rw [hy284]; with_reducible exact H2_) | (have H2_ := (Option.bind_some _ _).symm.trans H; with_reducible exact H2_) | with_reducible exact H | (rw [hy284]; exact H) | exact H
              have Ny284 := Aside0.mk hy284
              clear hy284
              have H' := Aside0.mk H
              clear H
              have p280 : 0 ≤ ((ji13) : Int) := of_decide_eq_true pA
              have q280 : (ji13) < (l0.length : Int) := of_decide_eq_true pA
              obtain ⟨ad280, e280, hx280_0⟩ := Kd.at_int HR0.out (ji13) p280 q280
              obtain rfl : ad276 = ad280 := (by injection e280)
              replace hx280_0 := (HB.out.cell (World.block_lt_of_cell? w _ hx280_0)).trans hx280_0
              replace p280 := eq_true p280
              replace q280 := eq_true q280
              have hcz25_0 : wc.cell? ⟨gb277, 0, none⟩ = some (.int .u8 (rd l0 x5_1)) := (blk_cell BK277.out 0).trans rfl
              have hcz25_1 : wc.cell? ⟨gb277, 1, none⟩ = some (.int .i64 x5_1) := (blk_cell BK277.out 1).trans rfl
              have hcz25_2 : wc.cell? ⟨gb277, 2, none⟩ = some (.int .i64 0) := (blk_cell BK277.out 2).trans rfl
              have hcz25_3 : wc.cell? ⟨gb277, 3, none⟩ = some (.int .i64 x6_1) := (blk_cell BK277.out 3).trans rfl
              have hcz25_4 : wc.cell? ⟨gb277, 4, none⟩ = some (.int .i64 1) := (blk_cell BK277.out 4).trans rfl
              have hfz25_0 := blk_frozen BK277.out 0
              have hfz25_1 := blk_frozen BK277.out 1
              have hfz25_2 := blk_frozen BK277.out 2
              have hfz25_3 := blk_frozen BK277.out 3
              have hfz25_4 := blk_frozen BK277.out 4
              go_wp2_with (first | ((with_reducible refine gate_builtin (b := .append) (xs := #[.tmp 67, .tmp 69]) rfl ?_); at_builtin; refine Kd.R_append k34 (w0 := w) w.heap.size rfl (.tmp 67) (.tmp 69) 29 34 (.agg #[(.int .u8 0), (.int .i64 0), (.int .i64 0), (.int .i64 0), (.int .i64 0)]) 40 rfl Tryd.underlying29 info34 rfl (by decide) (by omega) u4 x4_1 (⟨(rd l0 x5_1), x5_1, wrap64 ((ji13) + 1), x6_1, wrap64 (1 + (wrap64 (rd l0 (ji13))))⟩ : S34) [.int .u8 (rd l0 x5_1), .int .i64 x5_1, .int .i64 (wrap64 ((ji13) + 1)), .int .i64 x6_1, .int .i64 (wrap64 (1 + (wrap64 (rd l0 (ji13)))))] (fun k_ => k_ ≠ gb277) (fun _ => False) rfl (by first | (go_simp; done) | (go_simp; rfl)) ?aP (fun _ hk => hk.elim) ?aF ?aO ?aB ?aS ?aL ?_; (case aP => exact k34_mkM _ _ _ (⟨(rd l0 x5_1), x5_1, wrap64 ((ji13) + 1), x6_1, wrap64 (1 + (wrap64 (rd l0 (ji13))))⟩ : S34)); (case aB => exact (by repeat (first | (with_reducible first | exact HB.out | apply below_alloc | apply pw_below_drewN | apply below_drew1 | refine below_set ?_ GE277.out) | exact HB.out))); (case aF => exact (fun k_ hk => Kd.freshB (g := gb277) (o := .cells #[.int .u8 (rd l0 x5_1), .int .i64 x5_1, .int .i64 (wrap64 ((ji13) + 1)), .int .i64 x6_1, .int .i64 (wrap64 (1 + (wrap64 (rd l0 (ji13)))))] 34 (0, 0)) (by (with_reducible repeat (first | refine blk_drewN ?_ _ | refine blk_drew ?_ | refine blk_alloc ?_ _)); refine blk_put (cs := #[.int .u8 (rd l0 x5_1), .int .i64 x5_1, .int .i64 0, .int .i64 x6_1, .int .i64 (wrap64 (1 + (wrap64 (rd l0 (ji13)))))]) ?_ 2 _ rfl; (with_reducible repeat (first | refine blk_drewN ?_ _ | refine blk_drew ?_ | refine blk_alloc ?_ _)); refine blk_put (cs := #[.int .u8 (rd l0 x5_1), .int .i64 x5_1, .int .i64 0, .int .i64 x6_1, .int .i64 1]) ?_ 4 _ rfl; (with_reducible repeat (first | refine blk_drewN ?_ _ | refine blk_drew ?_ | refine blk_alloc ?_ _)); exact BK277.out) k_ hk)); (case aO => exact (by (with_reducible repeat (first | apply Kd.R_alloc | apply Kd.R_drewN | apply Kd.R_drew)); exact Kd.R_mono (Kd.R_far (p := ⟨gb277, 2, none⟩) (Kd.R_far (p := ⟨gb277, 4, none⟩) (Kd.R_mono HO_4.out (fun k_ hk => (⟨hk, hk⟩ : _ ∧ k_ ≠ gb277))) (fun _ hk => hk.2) (.int .i64 (wrap64 (1 + (wrap64 (rd l0 (ji13))))))) (fun _ hk => hk.2) (.int .i64 (wrap64 ((ji13) + 1)))) (fun _ hk => hk.1))); (case aS => exact (below_size (by repeat (first | (with_reducible first | exact HB.out | apply below_alloc | apply pw_below_drewN | apply below_drew1 | refine below_set ?_ GE277.out) | exact HB.out)))); (case aL => have := LMc24.out; omega); intro v285 w26 ho hb hg hat; rw [← Ny284.out] at ho; have n0_ := Aside0.mk (blk_grown (g := gb277) (o := .cells #[.int .u8 (rd l0 x5_1), .int .i64 x5_1, .int .i64 (wrap64 ((ji13) + 1)), .int .i64 x6_1, .int .i64 (wrap64 (1 + (wrap64 (rd l0 (ji13)))))] 34 (0, 0)) (by (with_reducible repeat (first | refine blk_drewN ?_ _ | refine blk_drew ?_ | refine blk_alloc ?_ _)); refine blk_put (cs := #[.int .u8 (rd l0 x5_1), .int .i64 x5_1, .int .i64 0, .int .i64 x6_1, .int .i64 (wrap64 (1 + (wrap64 (rd l0 (ji13)))))]) ?_ 2 _ rfl; (with_reducible repeat (first | refine blk_drewN ?_ _ | refine blk_drew ?_ | refine blk_alloc ?_ _)); refine blk_put (cs := #[.int .u8 (rd l0 x5_1), .int .i64 x5_1, .int .i64 0, .int .i64 x6_1, .int .i64 1]) ?_ 4 _ rfl; (with_reducible repeat (first | refine blk_drewN ?_ _ | refine blk_drew ?_ | refine blk_alloc ?_ _)); exact BK277.out) hg (Kd.R_away HO_4.out (fun _ hk => hk))); have n1_ := Aside0.mk (hb); have n2_ := Aside0.mk (ho); clear BK277; clear HB; clear HO_4; have BK277 := n0_; have HB := n1_; have HO286 := n2_; clear n0_ n1_ n2_; clear ho hb hg hat))
              go_roundg kj4
              case measure => have := HK1.out; have := HJ4.out; omega
              case rel => exact ⟨(y284), (wrap64 ((ji13) + 1)), (wrap64 (x6_1 + (wrap64 (1 + (wrap64 (rd l0 (ji13))))))), (by first | rfl | (simp; done) | (simp only [← hji13] <;> (first | rfl | simp)) | (simp [*]; done)), (by first | rfl | (simp; done) | (simp only [← hji13] <;> (first | rfl | simp)) | (simp [*]; done)), H', ⟨by have := HK1.out; have := HJ4.out; omega⟩, ⟨by (with_reducible repeat (first | apply Kd.R_alloc | apply Kd.R_drewN | apply Kd.R_drew)); exact Kd.R_mono HO286.out (fun _ hk => trivial)⟩, ⟨by repeat (first | (with_reducible first | exact HB.out | apply below_alloc | apply pw_below_drewN | apply below_drew1 | refine below_set ?_ GE277.out) | exact HB.out)⟩⟩
             ·rw [if_neg c24] at H
              exact absurd H (by simp)
          ·rw [if_neg c15] at H
           exact absurd H (by simp)
         ·rw [if_neg c14] at H
          exact absurd H (by simp)
       ·replace c11 := Bool.eq_false_iff.mpr c11
        subst c11
        have H1 : (if (wrap64 ((wrap64 (x5_1 + 1)) + t279)) > (l0.length : Int) then (some (([] : List (S34)), false)) else (if x4_1.length < 3518437208883 then (capnpref23_Groups.l0 kj4 l0 (x4_1 ++ [(⟨(rd l0 x5_1), x5_1, (wrap64 ((wrap64 (x5_1 + 1)) + t279)), x6_1, 1⟩ : S34)]) (wrap64 ((wrap64 (x5_1 + 1)) + t279)) (wrap64 (x6_1 + 1))) else (none))) = some (r1, r2) := by rw [if_neg (show ¬ (false = true) by decide)] at H; exact H
        clear H
        have H := H1
        clear H1
        by_cases c27 : (wrap64 ((wrap64 (x5_1 + 1)) + t279)) > (l0.length : Int)
        ·rw [if_pos c27] at H
         have c27b0 : decide ((l0.length : Int) < (wrap64 ((wrap64 (x5_1 + 1)) + t279))) = true := decide_eq_true c27
         clear c27
         simp only [Option.some.injEq, Prod.mk.injEq] at H
         obtain ⟨rfl, rfl⟩ := H
         go_wp2
         go_ret2
         exact ⟨_, by first | rfl | (simp [errW_none, errW_some] <;> rfl) | (simp [*, errW_none, errW_some] <;> rfl), by first | exact Kd.R_nil _ _ _ _ _ | exact Kd.N_nil _ _ _ _ _ | exact Kd.V_nil _ _ _ _ _ | exact Kd.Q_nil _ _ _ _ _ | exact Kd.S_nil _ _ _ _ _, by repeat (first | (with_reducible first | exact HB.out | apply below_alloc | apply pw_below_drewN | apply below_drew1 | refine below_set ?_ GE277.out) | exact HB.out)⟩
        ·rw [if_neg c27] at H
         have c27b0 : decide ((l0.length : Int) < (wrap64 ((wrap64 (x5_1 + 1)) + t279))) = false := decide_eq_false c27
         clear c27
         by_cases c28 : x4_1.length < 3518437208883
         ·rw [if_pos c28] at H
          have LMc28 := Aside0.mk c28
          clear c28
          obtain ⟨y287, hy287⟩ : ∃ y_ : List (S34), y_ = (x4_1 ++ [(⟨(rd l0 x5_1), x5_1, (wrap64 ((wrap64 (x5_1 + 1)) + t279)), x6_1, 1⟩ : S34)]) := ⟨_, rfl⟩
          replace H : (capnpref23_Groups.l0 kj4 l0 y287 (wrap64 ((wrap64 (x5_1 + 1)) + t279)) (wrap64 (x6_1 + 1))) = some (r1, r2) := by first | (rw [hy287]; with_reducible exact H) | (have H2_ := (Option.bind_some _ _).symm.trans H; rw [hy287]; with_reducible exact H2_) | (have H2_ := (Option.bind_some _ _).symm.trans H; with_reducible exact H2_) | with_reducible exact H | (rw [hy287]; exact H) | exact H
          have Ny287 := Aside0.mk hy287
          clear hy287
          have H' := Aside0.mk H
          clear H
          have hcz29_0 : wc.cell? ⟨gb277, 0, none⟩ = some (.int .u8 (rd l0 x5_1)) := (blk_cell BK277.out 0).trans rfl
          have hcz29_1 : wc.cell? ⟨gb277, 1, none⟩ = some (.int .i64 x5_1) := (blk_cell BK277.out 1).trans rfl
          have hcz29_2 : wc.cell? ⟨gb277, 2, none⟩ = some (.int .i64 0) := (blk_cell BK277.out 2).trans rfl
          have hcz29_3 : wc.cell? ⟨gb277, 3, none⟩ = some (.int .i64 x6_1) := (blk_cell BK277.out 3).trans rfl
          have hcz29_4 : wc.cell? ⟨gb277, 4, none⟩ = some (.int .i64 1) := (blk_cell BK277.out 4).trans rfl
          have hfz29_0 := blk_frozen BK277.out 0
          have hfz29_1 := blk_frozen BK277.out 1
          have hfz29_2 := blk_frozen BK277.out 2
          have hfz29_3 := blk_frozen BK277.out 3
          have hfz29_4 := blk_frozen BK277.out 4
          go_wp2_with (first | ((with_reducible refine gate_builtin (b := .append) (xs := #[.tmp 67, .tmp 69]) rfl ?_); at_builtin; refine Kd.R_append k34 (w0 := w) w.heap.size rfl (.tmp 67) (.tmp 69) 29 34 (.agg #[(.int .u8 0), (.int .i64 0), (.int .i64 0), (.int .i64 0), (.int .i64 0)]) 40 rfl Tryd.underlying29 info34 rfl (by decide) (by omega) u4 x4_1 (⟨(rd l0 x5_1), x5_1, (wrap64 ((wrap64 (x5_1 + 1)) + t279)), x6_1, 1⟩ : S34) [.int .u8 (rd l0 x5_1), .int .i64 x5_1, .int .i64 (wrap64 ((wrap64 (x5_1 + 1)) + t279)), .int .i64 x6_1, .int .i64 1] (fun k_ => k_ ≠ gb277) (fun _ => False) rfl (by first | (go_simp; done) | (go_simp; rfl)) ?aP (fun _ hk => hk.elim) ?aF ?aO ?aB ?aS ?aL ?_; (case aP => exact k34_mkM _ _ _ (⟨(rd l0 x5_1), x5_1, (wrap64 ((wrap64 (x5_1 + 1)) + t279)), x6_1, 1⟩ : S34)); (case aB => exact (by repeat (first | (with_reducible first | exact HB.out | apply below_alloc | apply pw_below_drewN | apply below_drew1 | refine below_set ?_ GE277.out) | exact HB.out))); (case aF => exact (fun k_ hk => Kd.freshB (g := gb277) (o := .cells #[.int .u8 (rd l0 x5_1), .int .i64 x5_1, .int .i64 (wrap64 ((wrap64 (x5_1 + 1)) + t279)), .int .i64 x6_1, .int .i64 1] 34 (0, 0)) (by (with_reducible repeat (first | refine blk_drewN ?_ _ | refine blk_drew ?_ | refine blk_alloc ?_ _)); refine blk_put (cs := #[.int .u8 (rd l0 x5_1), .int .i64 x5_1, .int .i64 0, .int .i64 x6_1, .int .i64 1]) ?_ 2 _ rfl; (with_reducible repeat (first | refine blk_drewN ?_ _ | refine blk_drew ?_ | refine blk_alloc ?_ _)); exact BK277.out) k_ hk)); (case aO => exact (by (with_reducible repeat (first | apply Kd.R_alloc | apply Kd.R_drewN | apply Kd.R_drew)); exact Kd.R_mono (Kd.R_far (p := ⟨gb277, 2, none⟩) (Kd.R_mono HO_4.out (fun k_ hk => (⟨hk, hk⟩ : _ ∧ k_ ≠ gb277))) (fun _ hk => hk.2) (.int .i64 (wrap64 ((wrap64 (x5_1 + 1)) + t279)))) (fun _ hk => hk.1))); (case aS => exact (below_size (by repeat (first | (with_reducible first | exact HB.out | apply below_alloc | apply pw_below_drewN | apply below_drew1 | refine below_set ?_ GE277.out) | exact HB.out)))); (case aL => have := LMc28.out; omega); intro v288 w30 ho hb hg hat; rw [← Ny287.out] at ho; have n0_ := Aside0.mk (blk_grown (g := gb277) (o := .cells #[.int .u8 (rd l0 x5_1), .int .i64 x5_1, .int .i64 (wrap64 ((wrap64 (x5_1 + 1)) + t279)), .int .i64 x6_1, .int .i64 1] 34 (0, 0)) (by (with_reducible repeat (first | refine blk_drewN ?_ _ | refine blk_drew ?_ | refine blk_alloc ?_ _)); refine blk_put (cs := #[.int .u8 (rd l0 x5_1), .int .i64 x5_1, .int .i64 0, .int .i64 x6_1, .int .i64 1]) ?_ 2 _ rfl; (with_reducible repeat (first | refine blk_drewN ?_ _ | refine blk_drew ?_ | refine blk_alloc ?_ _)); exact BK277.out) hg (Kd.R_away HO_4.out (fun _ hk => hk))); have n1_ := Aside0.mk (hb); have n2_ := Aside0.mk (ho); clear BK277; clear HB; clear HO_4; have BK277 := n0_; have HB := n1_; have HO289 := n2_; clear n0_ n1_ n2_; clear ho hb hg hat))
          go_roundg kj4
          case measure => have := HK1.out; have := HJ4.out; omega
          case rel => exact ⟨(y287), ((wrap64 ((wrap64 (x5_1 + 1)) + t279))), (wrap64 (x6_1 + 1)), (by first | rfl | (simp; done) | (simp [*]; done)), (by first | rfl | (simp; done) | (simp [*]; done)), H', ⟨by have := HK1.out; have := HJ4.out; omega⟩, ⟨by (with_reducible repeat (first | apply Kd.R_alloc | apply Kd.R_drewN | apply Kd.R_drew)); exact Kd.R_mono HO289.out (fun _ hk => trivial)⟩, ⟨by repeat (first | (with_reducible first | exact HB.out | apply below_alloc | apply pw_below_drewN | apply below_drew1 | refine below_set ?_ GE277.out) | exact HB.out)⟩⟩
         ·rw [if_neg c28] at H
          exact absurd H (by simp)
    ·rw [if_neg c3] at H
     exact absurd H (by simp)
   ·rw [if_neg c2] at H
    have c2b0 : decide (x5_1 < (l0.length : Int)) = false := decide_eq_false c2
    clear c2
    simp only [Option.some.injEq, Prod.mk.injEq] at H
    obtain ⟨rfl, rfl⟩ := H
    go_wp2
    go_ret2
    exact ⟨_, by first | rfl | (simp [errW_none, errW_some] <;> rfl) | (simp [*, errW_none, errW_some] <;> rfl), by (with_reducible repeat (first | apply Kd.R_alloc | apply Kd.R_drewN | apply Kd.R_drew)); exact HO_4.out, pB⟩
def capnpref23_Equal.l0 : Nat → List Int → List Int → Int → Option (Bool)
 | 0, _, _, _ => none
 | k + 1, x0, x1, x5 => if x5 < (x0.length : Int) then (if 0 ≤ x5 then (if x5 < (x1.length : Int) then (if (rd x0 x5) = (rd x1 x5) then (capnpref23_Equal.l0 k x0 x1 (wrap64 (x5 + 1))) else (some false)) else (none)) else (none)) else (some true)
def capnpref23_Equal.f (k : Nat) (l0 : List Int) (l1 : List Int) : Option (Bool) := if (l0.length : Int) = (l1.length : Int) then (capnpref23_Equal.l0 k l0 l1 0) else (some false)
theorem capnpref23_Equal.mono_l : ∀ k, (∀ y0 y1 y2, LeO (capnpref23_Equal.l0 k y0 y1 y2) (capnpref23_Equal.l0 (k + 1) y0 y1 y2))
 | 0 => fun _ _ _ r h => by simp [capnpref23_Equal.l0] at h
 | k + 1 => by
  have ih0 := capnpref23_Equal.mono_l k
  ·intro y0 y1 y2
   unfold capnpref23_Equal.l0
   repeat' first
   | (with_reducible exact ih0 _ _ _)
   | (with_reducible exact LeO.refl _)
   | (with_reducible exact LeO.none _)
   | (with_reducible refine LeO.ite ?_ ?_)
   | (with_reducible refine LeO.bind ?_ (fun _ => ?_))
   | exact ih0 _ _ _
   | exact LeO.none _
   | refine LeO.ite ?_ ?_
   | refine LeO.bind ?_ (fun _ => ?_)
theorem capnpref23_Equal.mono : ∀ a0 a1 k, LeO (capnpref23_Equal.f k a0 a1) (capnpref23_Equal.f (k + 1) a0 a1) := by
 intro a0 a1 k
 have ih0 := capnpref23_Equal.mono_l k
 unfold capnpref23_Equal.f
 repeat' first
   | (with_reducible exact ih0 _ _ _)
   | (with_reducible exact LeO.refl _)
   | (with_reducible exact LeO.none _)
   | (with_reducible refine LeO.ite ?_ ?_)
   | (with_reducible refine LeO.bind ?_ (fun _ => ?_))
   | exact ih0 _ _ _
   | exact LeO.none _
   | refine LeO.ite ?_ ?_
   | refine LeO.bind ?_ (fun _ => ?_)
theorem capnpref23_Equal.calls (k : Nat) (A0 : Option Addr) (c0 : Nat) (l0 : List Int) (A1 : Option Addr) (c1 : Nat) (l1 : List Int) (r : Bool) (w : World) (hr0 : Kd.C (Kd.int .u64) w A0 l0.length l0) (hc0 : l0.length ≤ c0) (hr1 : Kd.C (Kd.int .u64) w A1 l1.length l1) (hc1 : l1.length ≤ c1) (h : capnpref23_Equal.f k l0 l1 = some r) :
  Calls Tryd.prog 21 #[.slice A0 l0.length c0, .slice A1 l1.length c1] w fun e w' => e = .returned (.bool r) ∧ Drawn0 w w' := by
 have HR0 := Aside0.mk hr0
 have HC0 := Aside0.mk hc0
 clear hr0 hc0
 have HR1 := Aside0.mk hr1
 have HC1 := Aside0.mk hc1
 clear hr1 hc1
 have H : (if (l0.length : Int) = (l1.length : Int) then (capnpref23_Equal.l0 k l0 l1 0) else (some false)) = some r := h
 clear h
 by_cases c3 : (l0.length : Int) = (l1.length : Int)
 ·rw [if_pos c3] at H
  have c3b0 : ((l0.length : Int) == (l1.length : Int)) = true := beq_iff_eq.mpr c3
  have c3b1 : ((l0.length : Int) != (l1.length : Int)) = false := bne_eq_false_iff_eq.mpr c3
  have c3b2 : (l0.length == l1.length) = true := by first | simpa using c3 | (simp at c3 ⊢; omega)
  clear c3
  have H' := Aside0.mk H
  clear H
  go_enter Tryd.func21, Tryd.ntmps21
  go_wp2
  repeat (go_quiet (fail); try go_wp2)
  go_loopg [5] k (fun kq v5 w' => ∃ (x5_1 : Int), v5 = .int .i64 x5_1 ∧ Aside0 (capnpref23_Equal.l0 kq l0 l1 x5_1 = some r) ∧ Aside0 (kq ≤ k) ∧ Drawn0 w w')
  case atStart => exact ⟨(0), (by first | rfl | (simp; done) | (simp [*]; done)), H', ⟨Nat.le_refl _⟩, by repeat (first | exact Drawn0.refl _ | apply Drawn0.step)⟩
  case round =>
   clear H'
   try clear c1
   try clear c2
   try clear p2
   try clear c3
   try clear c3b0
   try clear c3b1
   try clear c3b2
   obtain ⟨x5_1, rfl, HA, HK1, ⟨m1, rfl⟩⟩ := hrel
   cases gk with
   | zero => exact absurd HA.out (by simp [capnpref23_Equal.l0])
   | succ k1 =>
    have H := HA.out
    clear HA
    simp only [capnpref23_Equal.l0] at H
    by_cases c4 : x5_1 < (l0.length : Int)
    ·rw [if_pos c4] at H
     have c4b0 : decide (x5_1 < (l0.length : Int)) = true := decide_eq_true c4
     clear c4
     by_cases c5 : 0 ≤ x5_1
     ·rw [if_pos c5] at H
      have c5b0 : decide (0 ≤ x5_1) = true := decide_eq_true c5
      clear c5
      by_cases c6 : x5_1 < (l1.length : Int)
      ·rw [if_pos c6] at H
       have c6b0 : decide (x5_1 < (l1.length : Int)) = true := decide_eq_true c6
       clear c6
       by_cases c7 : (rd l0 x5_1) = (rd l1 x5_1)
       ·rw [if_pos c7] at H
        have c7b0 : ((rd l0 x5_1) == (rd l1 x5_1)) = true := beq_iff_eq.mpr c7
        have c7b1 : ((rd l0 x5_1) != (rd l1 x5_1)) = false := bne_eq_false_iff_eq.mpr c7
        clear c7
        have H' := Aside0.mk H
        clear H
        have p290 : 0 ≤ (x5_1 : Int) := of_decide_eq_true pA
        have q290 : x5_1 < (l0.length : Int) := of_decide_eq_true pA
        obtain ⟨ad290, e290, hx290_0⟩ := Kd.at_int HR0.out x5_1 p290 q290
        cases e290
        replace p290 := eq_true p290
        replace q290 := eq_true q290
        have p291 : 0 ≤ (x5_1 : Int) := of_decide_eq_true pA
        have q291 : x5_1 < (l1.length : Int) := of_decide_eq_true pA
        obtain ⟨ad291, e291, hx291_0⟩ := Kd.at_int HR1.out x5_1 p291 q291
        cases e291
        replace p291 := eq_true p291
        replace q291 := eq_true q291
        go_wp2
        repeat (go_quiet (fail); try go_wp2)
        go_roundg k1
        case measure => have := HK1.out; omega
        case rel => exact ⟨(wrap64 (x5_1 + 1)), (by first | rfl | (simp; done) | (simp [*]; done)), H', ⟨by have := HK1.out; omega⟩, by repeat (first | exact Drawn0.refl _ | apply Drawn0.step)⟩
       ·rw [if_neg c7] at H
        have c7b0 : ((rd l0 x5_1) == (rd l1 x5_1)) = false := beq_eq_false_iff_ne.mpr c7
        have c7b1 : ((rd l0 x5_1) != (rd l1 x5_1)) = true := bne_iff_ne.mpr c7
        obtain rfl := Option.some.inj H
        have p290 : 0 ≤ (x5_1 : Int) := of_decide_eq_true pA
        have q290 : x5_1 < (l0.length : Int) := of_decide_eq_true pA
        obtain ⟨ad290, e290, hx290_0⟩ := Kd.at_int HR0.out x5_1 p290 q290
        cases e290
        replace p290 := eq_true p290
        replace q290 := eq_true q290
        have p291 : 0 ≤ (x5_1 : Int) := of_decide_eq_true pA
        have q291 : x5_1 < (l1.length : Int) := of_decide_eq_true pA
        obtain ⟨ad291, e291, hx291_0⟩ := Kd.at_int HR1.out x5_1 p291 q291
        cases e291
        replace p291 := eq_true p291
        replace q291 := eq_true q291
        go_wp2
        repeat (go_quiet (fail); try go_wp2)
        go_ret
        exact ⟨by first | rfl | (simp; done) | (simp [*]; done), by repeat (first | exact Drawn0.refl _ | apply Drawn0.step)⟩
      ·rw [if_neg c6] at H
       exact absurd H (by simp)
     ·rw [if_neg c5] at H
      exact absurd H (by simp)
    ·rw [if_neg c4] at H
     have c4b0 : decide (x5_1 < (l0.length : Int)) = false := decide_eq_false c4
     clear c4
     obtain rfl := Option.some.inj H
     go_wp2
     repeat (go_quiet (fail); try go_wp2)
     go_ret
     exact ⟨by first | rfl | (simp; done) | (simp [*]; done), by repeat (first | exact Drawn0.refl _ | apply Drawn0.step)⟩
 ·rw [if_neg c3] at H
  have c3b0 : ((l0.length : Int) == (l1.length : Int)) = false := beq_eq_false_iff_ne.mpr c3
  have c3b1 : ((l0.length : Int) != (l1.length : Int)) = true := bne_iff_ne.mpr c3
  have c3b2 : (l0.length == l1.length) = false := by first | simpa using c3 | (simp at c3 ⊢; omega)
  obtain rfl := Option.some.inj H
  go_enter Tryd.func21, Tryd.ntmps21
  go_wp2
  repeat (go_quiet (fail); try go_wp2)
  go_ret
  exact ⟨by first | rfl | (simp; done) | (simp [*]; done), by repeat (first | exact Drawn0.refl _ | apply Drawn0.step)⟩
mutual
def capnpref01_Get.j0 : Nat → List Int → Int → Bool → Option (Int × Bool)
 | 0, _, _, _ => none
 | k + 1, x0, x1, x17 => if x17 = true then (some (0, false)) else (capnpref01_Get.l0 k x0 x1 0 7)
def capnpref01_Get.l0 : Nat → List Int → Int → Int → Int → Option (Int × Bool)
 | 0, _, _, _, _ => none
 | k + 1, x0, x1, x6, x7 => if x7 ≥ 0 then (if 0 ≤ (wrap64 ((wrap64 (8 * x1)) + x7)) then (if (wrap64 ((wrap64 (8 * x1)) + x7)) < (x0.length : Int) then (capnpref01_Get.l0 k x0 x1 (IntKind.u64.wrap ((IntKind.u64.wrap (x6 * 256)) + (IntKind.u64.wrap (rd x0 (wrap64 ((wrap64 (8 * x1)) + x7)))))) (wrap64 (x7 - 1))) else (none)) else (none)) else (some (x6, true))
end
def capnpref01_Get.f (k : Nat) (l0 : List Int) (a1 : Int) : Option (Int × Bool) := if a1 < 0 then (capnpref01_Get.j0 k l0 a1 true) else (capnpref01_Get.j0 k l0 a1 (decide (a1 > (wrap64 ((wrap64 ((l0.length : Int) / 8)) - 1)))))
theorem capnpref01_Get.mono_l : ∀ k, (∀ y0 y1 y2, LeO (capnpref01_Get.j0 k y0 y1 y2) (capnpref01_Get.j0 (k + 1) y0 y1 y2)) ∧ (∀ y0 y1 y2 y3, LeO (capnpref01_Get.l0 k y0 y1 y2 y3) (capnpref01_Get.l0 (k + 1) y0 y1 y2 y3))
 | 0 => ⟨fun _ _ _ r h => by simp [capnpref01_Get.j0] at h, fun _ _ _ _ r h => by simp [capnpref01_Get.l0] at h⟩
 | k + 1 => by
  obtain ⟨ih0, ih1⟩ := capnpref01_Get.mono_l k
  refine ⟨?_, ?_⟩
  ·intro y0 y1 y2
   unfold capnpref01_Get.j0
   repeat' first
   | (with_reducible exact ih0 _ _ _)
   | (with_reducible exact ih1 _ _ _ _)
   | (with_reducible exact LeO.refl _)
   | (with_reducible exact LeO.none _)
   | (with_reducible refine LeO.ite ?_ ?_)
   | (with_reducible refine LeO.bind ?_ (fun _ => ?_))
   | exact ih0 _ _ _
   | exact ih1 _ _ _ _
   | exact LeO.none _
   | refine LeO.ite ?_ ?_
   | refine LeO.bind ?_ (fun _ => ?_)
  ·intro y0 y1 y2 y3
   unfold capnpref01_Get.l0
   repeat' first
   | (with_reducible exact ih0 _ _ _)
   | (with_reducible exact ih1 _ _ _ _)
   | (with_reducible exact LeO.refl _)
   | (with_reducible exact LeO.none _)
   | (with_reducible refine LeO.ite ?_ ?_)
   | (with_reducible refine LeO.bind ?_ (fun _ => ?_))
   | exact ih0 _ _ _
   | exact ih1 _ _ _ _
   | exact LeO.none _
   | refine LeO.ite ?_ ?_
   | refine LeO.bind ?_ (fun _ => ?_)
theorem capnpref01_Get.mono : ∀ a0 a1 k, LeO (capnpref01_Get.f k a0 a1) (capnpref01_Get.f (k + 1) a0 a1) := by
 intro a0 a1 k
 obtain ⟨ih0, ih1⟩ := capnpref01_Get.mono_l k
 unfold capnpref01_Get.f
 repeat' first
   | (with_reducible exact ih0 _ _ _)
   | (with_reducible exact ih1 _ _ _ _)
   | (with_reducible exact LeO.refl _)
   | (with_reducible exact LeO.none _)
   | (with_reducible refine LeO.ite ?_ ?_)
   | (with_reducible refine LeO.bind ?_ (fun _ => ?_))
   | exact ih0 _ _ _
   | exact ih1 _ _ _ _
   | exact LeO.none _
   | refine LeO.ite ?_ ?_
   | refine LeO.bind ?_ (fun _ => ?_)
theorem capnpref01_Get.calls (k : Nat) (A0 : Option Addr) (c0 : Nat) (l0 : List Int) (a1 : Int) (r1 : Int) (r2 : Bool) (w : World) (hr0 : Kd.C (Kd.int .u8) w A0 l0.length l0) (hc0 : l0.length ≤ c0) (h : capnpref01_Get.f k l0 a1 = some (r1, r2)) :
  Calls Tryd.prog 39 #[.slice A0 l0.length c0, .int .i64 a1] w fun e w' => e = .returned (.tuple #[.int .u64 r1, .bool r2]) ∧ Drawn0 w w' := by
 have HR0 := Aside0.mk hr0
 have HC0 := Aside0.mk hc0
 clear hr0 hc0
 have H : (if a1 < 0 then (capnpref01_Get.j0 k l0 a1 true) else (capnpref01_Get.j0 k l0 a1 (decide (a1 > (wrap64 ((wrap64 ((l0.length : Int) / 8)) - 1)))))) = some (r1, r2) := h
 clear h
 have HC3 := Aside0.mk H
 clear H
 go_enter Tryd.func39, Tryd.ntmps39
 go_upto_region 1 with (fail)
 go_cut [17] (fun v17 wc => ∃ (kq : Nat) (x17_2 : Bool), v17 = .bool x17_2 ∧ Aside0 (capnpref01_Get.j0 kq l0 a1 x17_2 = some (r1, r2)) ∧ Aside0 (kq ≤ k) ∧ Drawn0 w wc)
 case first =>
  have H := HC3.out
  clear HC3
  by_cases c4 : a1 < 0
  ·rw [if_pos c4] at H
   have c4b0 : decide (a1 < 0) = true := decide_eq_true c4
   clear c4
   (first | rw [c4b0] | (simp only [i64_w, i32_w]; rw [c4b0]) | skip)
   have H' := Aside0.mk H
   clear H
   go_wp2
   go_meet
   case rel => exact ⟨_, (true), (by first | rfl | (simp; done) | (simp [*]; done)), H', ⟨by first | omega | exact Nat.le_refl _⟩, by repeat (first | exact Drawn0.refl _ | apply Drawn0.step)⟩
  ·rw [if_neg c4] at H
   have c4b0 : decide (a1 < 0) = false := decide_eq_false c4
   clear c4
   (first | rw [c4b0] | (simp only [i64_w, i32_w]; rw [c4b0]) | skip)
   have H' := Aside0.mk H
   clear H
   go_wp2
   go_meet
   case rel => exact ⟨_, (decide (a1 > (wrap64 ((wrap64 ((l0.length : Int) / 8)) - 1)))), (by first | rfl | (simp; done) | (simp [*]; done)), H', ⟨by first | omega | exact Nat.le_refl _⟩, by repeat (first | exact Drawn0.refl _ | apply Drawn0.step)⟩
 case rest =>
  clear HC3
  try clear p2
  try clear c3
  try clear c4
  try clear c4b0
  obtain ⟨kq, x17_2, rfl, HA, HJ2, ⟨mc2, rfl⟩⟩ := hcut
  cases kq with
  | zero => exact absurd HA.out (by simp [capnpref01_Get.j0])
  | succ kj2 =>
   have H := HA.out
   clear HA
   simp only [capnpref01_Get.j0] at H
   by_cases c5 : x17_2 = true
   ·subst c5
    have H1 : (some (0, false)) = some (r1, r2) := by rw [if_pos rfl] at H; exact H
    clear H
    have H := H1
    clear H1
    simp only [Option.some.injEq, Prod.mk.injEq] at H
    obtain ⟨rfl, rfl⟩ := H
    go_wp2
    go_ret2
    exact ⟨by first | rfl | (simp; done) | (simp [*]; done), by repeat (first | exact Drawn0.refl _ | apply Drawn0.step)⟩
   ·replace c5 := Bool.eq_false_iff.mpr c5
    subst c5
    have H1 : (capnpref01_Get.l0 kj2 l0 a1 0 7) = some (r1, r2) := by rw [if_neg (show ¬ (false = true) by decide)] at H; exact H
    clear H
    have H := H1
    clear H1
    have H' := Aside0.mk H
    clear H
    go_wp2
    go_loopg [6, 7] kj2 (fun kq v6 v7 w' => ∃ (x6_2 : Int) (x7_2 : Int), v6 = .int .u64 x6_2 ∧ v7 = .int .i64 x7_2 ∧ Aside0 (capnpref01_Get.l0 kq l0 a1 x6_2 x7_2 = some (r1, r2)) ∧ Aside0 (kq ≤ kj2) ∧ Drawn0 w w')
    case atStart => exact ⟨(0), (7), (by first | rfl | (simp; done) | (simp [*]; done)), (by first | rfl | (simp; done) | (simp [*]; done)), H', ⟨Nat.le_refl _⟩, by repeat (first | exact Drawn0.refl _ | apply Drawn0.step)⟩
    case round =>
     clear H'
     try clear c2
     try clear p2
     try clear c3
     try clear c4
     try clear c4b0
     try clear c5
     try clear p2
     obtain ⟨x6_2, x7_2, rfl, rfl, HA, HK2, ⟨m2, rfl⟩⟩ := hrel
     cases gk with
     | zero => exact absurd HA.out (by simp [capnpref01_Get.l0])
     | succ k2 =>
      have H := HA.out
      clear HA
      simp only [capnpref01_Get.l0] at H
      by_cases c6 : x7_2 ≥ 0
      ·rw [if_pos c6] at H
       have c6b0 : decide (0 ≤ x7_2) = true := decide_eq_true c6
       clear c6
       obtain ⟨ji7, hji7⟩ : ∃ j_ : Int, (wrap64 ((wrap64 (8 * a1)) + x7_2)) = j_ := ⟨_, rfl⟩
       replace H : (if 0 ≤ (ji7) then (if (ji7) < (l0.length : Int) then (capnpref01_Get.l0 k2 l0 a1 (IntKind.u64.wrap ((IntKind.u64.wrap (x6_2 * 256)) + (IntKind.u64.wrap (rd l0 (ji7))))) (wrap64 (x7_2 - 1))) else (none)) else (none)) = some (r1, r2) := by first | (rw [hji7] at H; exact H) | (simp only [hji7] at H ⊢; exact H)
       have hji7w : (IntKind.i64.wrap ((wrap64 (8 * a1)) + x7_2)) = ji7 := (i64_w _).trans hji7
       by_cases c8 : 0 ≤ (ji7)
       ·rw [if_pos c8] at H
        have c8b0 : decide (0 ≤ (ji7)) = true := decide_eq_true c8
        clear c8
        by_cases c9 : (ji7) < (l0.length : Int)
        ·rw [if_pos c9] at H
         have c9b0 : decide ((ji7) < (l0.length : Int)) = true := decide_eq_true c9
         clear c9
         have H' := Aside0.mk H
         clear H
         have p292 : 0 ≤ ((ji7) : Int) := of_decide_eq_true pA
         have q292 : (ji7) < (l0.length : Int) := of_decide_eq_true pA
         obtain ⟨ad292, e292, hx292_0⟩ := Kd.at_int HR0.out (ji7) p292 q292
         cases e292
         replace p292 := eq_true p292
         replace q292 := eq_true q292
         go_wp2
         (first | go_roundg k2 | ((try subst hji7); go_roundg k2))
         case measure => have := HJ2.out; have := HK2.out; omega
         case rel => exact ⟨(IntKind.u64.wrap ((IntKind.u64.wrap (x6_2 * 256)) + (IntKind.u64.wrap (rd l0 (ji7))))), (wrap64 (x7_2 - 1)), (by first | rfl | (simp; done) | (simp only [← hji7] <;> (first | rfl | simp)) | (simp [*]; done)), (by first | rfl | (simp; done) | (simp [*]; done)), H', ⟨by have := HJ2.out; have := HK2.out; omega⟩, by repeat (first | exact Drawn0.refl _ | apply Drawn0.step)⟩
        ·rw [if_neg c9] at H
         exact absurd H (by simp)
       ·rw [if_neg c8] at H
        exact absurd H (by simp)
      ·rw [if_neg c6] at H
       have c6b0 : decide (0 ≤ x7_2) = false := decide_eq_false c6
       clear c6
       simp only [Option.some.injEq, Prod.mk.injEq] at H
       obtain ⟨rfl, rfl⟩ := H
       go_wp2
       go_ret2
       exact ⟨by first | rfl | (simp; done) | (simp [*]; done), by repeat (first | exact Drawn0.refl _ | apply Drawn0.step)⟩
end Go.Proofs.YtnchacmhjbkmhaaDoor.PGrammarMatchesReference
