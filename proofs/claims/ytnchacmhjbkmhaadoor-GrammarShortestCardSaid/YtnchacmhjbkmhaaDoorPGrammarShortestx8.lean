/- (Halved.) Written by myprint.py, a program of this session: printed functions of a law, and the proofs that the Go code comes to them. -/
import Derived.Test.YtnchacmhjbkmhaaDoorPGrammarShortestx0
import Derived.Test.YtnchacmhjbkmhaaDoorPGrammarShortestx3
import Derived.Test.YtnchacmhjbkmhaaDoorPGrammarShortestx6
import Derived.Test.YtnchacmhjbkmhaaDoorPGrammarShortestx7
namespace Go.Proofs.YtnchacmhjbkmhaaDoor.PGrammarShortest
open Go.RowKit Go.Proofs.YtnchacmhjbkmhaaDoorW.PrintWords Go.Proofs.YtnchacmhjbkmhaaDoorW.PrintLast Go.Proofs.YtnchacmhjbkmhaaDoorW.PrintMore
attribute [local go_sem] max2_int min2_int max_two min_two max_three min_three max_four min_four   -- for this text's walks alone
set_option linter.unusedVariables false
set_option linter.unusedSimpArgs false

/-! ### capnplaw23_GrammarShortest: function 7 -/
mutual
def capnplaw23_GrammarShortest.j0 : Nat → List Int → List Int → List Int → List Int → Bool → Option (Bool)
 | 0, _, _, _, _, _ => none
 | k + 1, x0, x1, x2, x3, x34 => if x34 = true then ((capnplaw23_awake.f k).bind fun t314 => (some t314)) else ((capnpref23_Accepts.f k x1 x0).bind fun t315 => (if t315 = true then ((capnpref23_Accepts.f k x3 x2).bind fun t316 => (capnplaw23_GrammarShortest.j1 k x0 x1 x2 x3 (!t316))) else (capnplaw23_GrammarShortest.j1 k x0 x1 x2 x3 true)))
def capnplaw23_GrammarShortest.j1 : Nat → List Int → List Int → List Int → List Int → Bool → Option (Bool)
 | 0, _, _, _, _, _ => none
 | k + 1, x0, x1, x2, x3, x45 => if x45 = true then (some true) else ((some (([] : List Int) : List Int)).bind fun y317 => (if y317.length + x0.length < 17592186044416 then ((some (y317 ++ x0 : List Int)).bind fun y320 => (if y320.length + x2.length < 17592186044416 then ((some (y320 ++ x2 : List Int)).bind fun y323 => ((grammar_Shortest.f y323).bind fun t326 => ((grammar_Shortest.f x0).bind fun t327 => ((grammar_Shortest.f x2).bind fun t328 => ((some (([] : List Int) : List Int)).bind fun y329 => (if y329.length + x1.length < 140737488355328 then ((some (y329 ++ x1 : List Int)).bind fun y332 => (if y332.length + x3.length < 140737488355328 then ((grammar_Accepts.f k (y332 ++ x3) y323).bind fun t338 => (if t338 = true then (if t327 ≤ (x1.length : Int) then (if t328 ≤ (x3.length : Int) then (if t326 ≤ (wrap64 (t327 + t328)) then (if t326 ≥ t327 then (some (decide (t326 ≥ t328))) else (none)) else (none)) else (none)) else (none)) else (none))) else (none))) else (none))))))) else (none))) else (none)))
end
def capnplaw23_GrammarShortest.f (k : Nat) (l0 : List Int) (l1 : List Int) (l2 : List Int) (l3 : List Int) : Option (Bool) := (capnplaw23_awake.f k).bind fun t313 => (if t313 = true then (if (l0.length : Int) > 300 then (capnplaw23_GrammarShortest.j0 k l0 l1 l2 l3 true) else (if (l2.length : Int) > 300 then (capnplaw23_GrammarShortest.j0 k l0 l1 l2 l3 true) else (if (l1.length : Int) > 4000 then (capnplaw23_GrammarShortest.j0 k l0 l1 l2 l3 true) else (capnplaw23_GrammarShortest.j0 k l0 l1 l2 l3 (decide ((l3.length : Int) > 4000)))))) else (capnplaw23_GrammarShortest.j0 k l0 l1 l2 l3 true))
theorem capnplaw23_GrammarShortest.mono_l : ∀ k, (∀ y0 y1 y2 y3 y4, LeO (capnplaw23_GrammarShortest.j0 k y0 y1 y2 y3 y4) (capnplaw23_GrammarShortest.j0 (k + 1) y0 y1 y2 y3 y4)) ∧ (∀ y0 y1 y2 y3 y4, LeO (capnplaw23_GrammarShortest.j1 k y0 y1 y2 y3 y4) (capnplaw23_GrammarShortest.j1 (k + 1) y0 y1 y2 y3 y4))
 | 0 => ⟨fun _ _ _ _ _ r h => by simp [capnplaw23_GrammarShortest.j0] at h, fun _ _ _ _ _ r h => by simp [capnplaw23_GrammarShortest.j1] at h⟩
 | k + 1 => by
  obtain ⟨ih0, ih1⟩ := capnplaw23_GrammarShortest.mono_l k
  refine ⟨?_, ?_⟩
  ·intro y0 y1 y2 y3 y4
   unfold capnplaw23_GrammarShortest.j0
   repeat' first
   | (with_reducible exact ih0 _ _ _ _ _)
   | (with_reducible exact ih1 _ _ _ _ _)
   | (with_reducible exact capnplaw23_awake.mono _)
   | (with_reducible exact capnpref23_Accepts.mono _ _ _)
   | (with_reducible exact grammar_Accepts.mono _ _ _)
   | (with_reducible exact LeO.refl _)
   | (with_reducible exact LeO.none _)
   | (with_reducible refine LeO.ite ?_ ?_)
   | (with_reducible refine LeO.bind ?_ (fun _ => ?_))
   | exact ih0 _ _ _ _ _
   | exact ih1 _ _ _ _ _
   | exact capnplaw23_awake.mono _
   | exact capnpref23_Accepts.mono _ _ _
   | exact grammar_Accepts.mono _ _ _
   | exact LeO.none _
   | refine LeO.ite ?_ ?_
   | refine LeO.bind ?_ (fun _ => ?_)
  ·intro y0 y1 y2 y3 y4
   unfold capnplaw23_GrammarShortest.j1
   repeat' first
   | (with_reducible exact ih0 _ _ _ _ _)
   | (with_reducible exact ih1 _ _ _ _ _)
   | (with_reducible exact capnplaw23_awake.mono _)
   | (with_reducible exact capnpref23_Accepts.mono _ _ _)
   | (with_reducible exact grammar_Accepts.mono _ _ _)
   | (with_reducible exact LeO.refl _)
   | (with_reducible exact LeO.none _)
   | (with_reducible refine LeO.ite ?_ ?_)
   | (with_reducible refine LeO.bind ?_ (fun _ => ?_))
   | exact ih0 _ _ _ _ _
   | exact ih1 _ _ _ _ _
   | exact capnplaw23_awake.mono _
   | exact capnpref23_Accepts.mono _ _ _
   | exact grammar_Accepts.mono _ _ _
   | exact LeO.none _
   | refine LeO.ite ?_ ?_
   | refine LeO.bind ?_ (fun _ => ?_)
theorem capnplaw23_GrammarShortest.mono : ∀ a0 a1 a2 a3 k, LeO (capnplaw23_GrammarShortest.f k a0 a1 a2 a3) (capnplaw23_GrammarShortest.f (k + 1) a0 a1 a2 a3) := by
 intro a0 a1 a2 a3 k
 obtain ⟨ih0, ih1⟩ := capnplaw23_GrammarShortest.mono_l k
 unfold capnplaw23_GrammarShortest.f
 repeat' first
   | (with_reducible exact ih0 _ _ _ _ _)
   | (with_reducible exact ih1 _ _ _ _ _)
   | (with_reducible exact capnplaw23_awake.mono _)
   | (with_reducible exact capnpref23_Accepts.mono _ _ _)
   | (with_reducible exact grammar_Accepts.mono _ _ _)
   | (with_reducible exact LeO.refl _)
   | (with_reducible exact LeO.none _)
   | (with_reducible refine LeO.ite ?_ ?_)
   | (with_reducible refine LeO.bind ?_ (fun _ => ?_))
   | exact ih0 _ _ _ _ _
   | exact ih1 _ _ _ _ _
   | exact capnplaw23_awake.mono _
   | exact capnpref23_Accepts.mono _ _ _
   | exact grammar_Accepts.mono _ _ _
   | exact LeO.none _
   | refine LeO.ite ?_ ?_
   | refine LeO.bind ?_ (fun _ => ?_)
set_option maxHeartbeats 8000000 in
set_option maxRecDepth 100000 in
theorem capnplaw23_GrammarShortest.calls (k : Nat) (A0 : Option Addr) (c0 : Nat) (l0 : List Int) (A1 : Option Addr) (c1 : Nat) (l1 : List Int) (A2 : Option Addr) (c2 : Nat) (l2 : List Int) (A3 : Option Addr) (c3 : Nat) (l3 : List Int) (r : Bool) (w : World) (hr0 : Kd.C (Kd.int .u64) w A0 l0.length l0) (hc0 : l0.length ≤ c0) (hr1 : Kd.C (Kd.int .u8) w A1 l1.length l1) (hc1 : l1.length ≤ c1) (hr2 : Kd.C (Kd.int .u64) w A2 l2.length l2) (hc2 : l2.length ≤ c2) (hr3 : Kd.C (Kd.int .u8) w A3 l3.length l3) (hc3 : l3.length ≤ c3) (h : capnplaw23_GrammarShortest.f k l0 l1 l2 l3 = some r) {aL aT : Addr} (hL : Go.Proofs.YtnchacmhjbkmhaaDoor.Un.LaidU w aL aT) :
  Calls Tryd.prog 7 #[.slice A0 l0.length c0, .slice A1 l1.length c1, .slice A2 l2.length c2, .slice A3 l3.length c3] w fun e w' => e = .returned (.bool r) ∧ Below w.heap.size w w' := by
 have HL := Aside0.mk hL
 clear hL
 have HR0 := Aside0.mk hr0
 have HC0 := Aside0.mk hc0
 clear hr0 hc0
 have HR1 := Aside0.mk hr1
 have HC1 := Aside0.mk hc1
 clear hr1 hc1
 have HR2 := Aside0.mk hr2
 have HC2 := Aside0.mk hc2
 clear hr2 hc2
 have HR3 := Aside0.mk hr3
 have HC3 := Aside0.mk hc3
 clear hr3 hc3
 have HB := Aside0.mk (Below.refl w.heap.size w)
 have H : ((capnplaw23_awake.f k).bind fun t313 => (if t313 = true then (if (l0.length : Int) > 300 then (capnplaw23_GrammarShortest.j0 k l0 l1 l2 l3 true) else (if (l2.length : Int) > 300 then (capnplaw23_GrammarShortest.j0 k l0 l1 l2 l3 true) else (if (l1.length : Int) > 4000 then (capnplaw23_GrammarShortest.j0 k l0 l1 l2 l3 true) else (capnplaw23_GrammarShortest.j0 k l0 l1 l2 l3 (decide ((l3.length : Int) > 4000)))))) else (capnplaw23_GrammarShortest.j0 k l0 l1 l2 l3 true))) = some r := h
 clear h
 have HC5 := Aside0.mk H
 clear H
 go_enter Tryd.func7, Tryd.ntmps7
 try simp only [List.append_eq, List.cons_append, List.nil_append]
 go_upto_region 1 with (fail)
 go_cut [34] (fun v34 wc => ∃ (kq : Nat) (x34_4 : Bool), v34 = .bool x34_4 ∧ Aside0 (capnplaw23_GrammarShortest.j0 kq l0 l1 l2 l3 x34_4 = some r) ∧ Aside0 (kq ≤ k) ∧ Aside0 (Below w.heap.size w wc))
 case first =>
  have H := HC5.out
  clear HC5
  replace H := Option.bind_eq_some_iff.mp H
  obtain ⟨t313, A60, H⟩ := H
  replace H : (if t313 = true then (if (l0.length : Int) > 300 then (capnplaw23_GrammarShortest.j0 k l0 l1 l2 l3 true) else (if (l2.length : Int) > 300 then (capnplaw23_GrammarShortest.j0 k l0 l1 l2 l3 true) else (if (l1.length : Int) > 4000 then (capnplaw23_GrammarShortest.j0 k l0 l1 l2 l3 true) else (capnplaw23_GrammarShortest.j0 k l0 l1 l2 l3 (decide ((l3.length : Int) > 4000)))))) else (capnplaw23_GrammarShortest.j0 k l0 l1 l2 l3 true)) = some r := H
  have A6 := Aside0.mk A60
  clear A60
  by_cases c7 : t313 = true
  ·subst c7
   have H1 : (if (l0.length : Int) > 300 then (capnplaw23_GrammarShortest.j0 k l0 l1 l2 l3 true) else (if (l2.length : Int) > 300 then (capnplaw23_GrammarShortest.j0 k l0 l1 l2 l3 true) else (if (l1.length : Int) > 4000 then (capnplaw23_GrammarShortest.j0 k l0 l1 l2 l3 true) else (capnplaw23_GrammarShortest.j0 k l0 l1 l2 l3 (decide ((l3.length : Int) > 4000)))))) = some r := by rw [if_pos rfl] at H; exact H
   clear H
   have H := H1
   clear H1
   by_cases c8 : (l0.length : Int) > 300
   ·rw [if_pos c8] at H
    have c8b0 : decide (300 < (l0.length : Int)) = true := decide_eq_true c8
    have c8b1 : decide (300 < l0.length) = true := decide_eq_true (by omega)
    clear c8
    (first | rw [c8b0] | (simp only [i64_w, i32_w]; rw [c8b0]) | skip)
    have H' := Aside0.mk H
    clear H
    go_wp2_with (first | ((with_reducible refine gate_callee (f := 9) rfl ?_); refine goesL_ (some 13) rfl rfl Tryd.func9 (by kernel_rfl) rfl #[] rfl (by (try simp only [List.map_toArray, List.map_cons, List.map_nil]); first | done | rfl | (simp only [List.length_drop, List.length_take]; rfl)) ?_; (with_reducible refine (capnplaw23_awake.calls k  true _ A6.out (Go.Proofs.YtnchacmhjbkmhaaDoor.Un.LaidU.below HL.out (by repeat (first | (with_reducible first | exact HB.out | apply below_alloc | apply pw_below_drewN | apply below_drew1) | exact HB.out)))).mono ?_); rintro e w9 ⟨rfl, hb⟩; refine ⟨_, rfl, ?_⟩; have n0_ := Aside0.mk (below_step (by repeat (first | (with_reducible first | exact HB.out | apply below_alloc | apply pw_below_drewN | apply below_drew1) | exact HB.out)) hb); clear HB; have HB := n0_; clear n0_; (try clear hb); (try clear hb2); (try clear hk); (try clear hi)))
    go_meet
    case rel => exact ⟨_, (true), (by first | rfl | (simp; done) | (simp [*]; done)), H', ⟨by first | omega | exact Nat.le_refl _⟩, ⟨by repeat (first | (with_reducible first | exact HB.out | apply below_alloc | apply pw_below_drewN | apply below_drew1) | exact HB.out)⟩⟩
   ·rw [if_neg c8] at H
    have c8b0 : decide (300 < (l0.length : Int)) = false := decide_eq_false c8
    have c8b1 : decide (300 < l0.length) = false := decide_eq_false (by omega)
    clear c8
    (first | rw [c8b0] | (simp only [i64_w, i32_w]; rw [c8b0]) | skip)
    by_cases c10 : (l2.length : Int) > 300
    ·rw [if_pos c10] at H
     have c10b0 : decide (300 < (l2.length : Int)) = true := decide_eq_true c10
     have c10b1 : decide (300 < l2.length) = true := decide_eq_true (by omega)
     clear c10
     have H' := Aside0.mk H
     clear H
     go_wp2_with (first | ((with_reducible refine gate_callee (f := 9) rfl ?_); refine goesL_ (some 13) rfl rfl Tryd.func9 (by kernel_rfl) rfl #[] rfl (by (try simp only [List.map_toArray, List.map_cons, List.map_nil]); first | done | rfl | (simp only [List.length_drop, List.length_take]; rfl)) ?_; (with_reducible refine (capnplaw23_awake.calls k  true _ A6.out (Go.Proofs.YtnchacmhjbkmhaaDoor.Un.LaidU.below HL.out (by repeat (first | (with_reducible first | exact HB.out | apply below_alloc | apply pw_below_drewN | apply below_drew1) | exact HB.out)))).mono ?_); rintro e w11 ⟨rfl, hb⟩; refine ⟨_, rfl, ?_⟩; have n0_ := Aside0.mk (below_step (by repeat (first | (with_reducible first | exact HB.out | apply below_alloc | apply pw_below_drewN | apply below_drew1) | exact HB.out)) hb); clear HB; have HB := n0_; clear n0_; (try clear hb); (try clear hb2); (try clear hk); (try clear hi)))
     go_meet
     case rel => exact ⟨_, (true), (by first | rfl | (simp; done) | (simp [*]; done)), H', ⟨by first | omega | exact Nat.le_refl _⟩, ⟨by repeat (first | (with_reducible first | exact HB.out | apply below_alloc | apply pw_below_drewN | apply below_drew1) | exact HB.out)⟩⟩
    ·rw [if_neg c10] at H
     have c10b0 : decide (300 < (l2.length : Int)) = false := decide_eq_false c10
     have c10b1 : decide (300 < l2.length) = false := decide_eq_false (by omega)
     clear c10
     by_cases c12 : (l1.length : Int) > 4000
     ·rw [if_pos c12] at H
      have c12b0 : decide (4000 < (l1.length : Int)) = true := decide_eq_true c12
      have c12b1 : decide (4000 < l1.length) = true := decide_eq_true (by omega)
      clear c12
      have H' := Aside0.mk H
      clear H
      go_wp2_with (first | ((with_reducible refine gate_callee (f := 9) rfl ?_); refine goesL_ (some 13) rfl rfl Tryd.func9 (by kernel_rfl) rfl #[] rfl (by (try simp only [List.map_toArray, List.map_cons, List.map_nil]); first | done | rfl | (simp only [List.length_drop, List.length_take]; rfl)) ?_; (with_reducible refine (capnplaw23_awake.calls k  true _ A6.out (Go.Proofs.YtnchacmhjbkmhaaDoor.Un.LaidU.below HL.out (by repeat (first | (with_reducible first | exact HB.out | apply below_alloc | apply pw_below_drewN | apply below_drew1) | exact HB.out)))).mono ?_); rintro e w13 ⟨rfl, hb⟩; refine ⟨_, rfl, ?_⟩; have n0_ := Aside0.mk (below_step (by repeat (first | (with_reducible first | exact HB.out | apply below_alloc | apply pw_below_drewN | apply below_drew1) | exact HB.out)) hb); clear HB; have HB := n0_; clear n0_; (try clear hb); (try clear hb2); (try clear hk); (try clear hi)))
      go_meet
      case rel => exact ⟨_, (true), (by first | rfl | (simp; done) | (simp [*]; done)), H', ⟨by first | omega | exact Nat.le_refl _⟩, ⟨by repeat (first | (with_reducible first | exact HB.out | apply below_alloc | apply pw_below_drewN | apply below_drew1) | exact HB.out)⟩⟩
     ·rw [if_neg c12] at H
      have c12b0 : decide (4000 < (l1.length : Int)) = false := decide_eq_false c12
      have c12b1 : decide (4000 < l1.length) = false := decide_eq_false (by omega)
      clear c12
      have H' := Aside0.mk H
      clear H
      go_wp2_with (first | ((with_reducible refine gate_callee (f := 9) rfl ?_); refine goesL_ (some 13) rfl rfl Tryd.func9 (by kernel_rfl) rfl #[] rfl (by (try simp only [List.map_toArray, List.map_cons, List.map_nil]); first | done | rfl | (simp only [List.length_drop, List.length_take]; rfl)) ?_; (with_reducible refine (capnplaw23_awake.calls k  true _ A6.out (Go.Proofs.YtnchacmhjbkmhaaDoor.Un.LaidU.below HL.out (by repeat (first | (with_reducible first | exact HB.out | apply below_alloc | apply pw_below_drewN | apply below_drew1) | exact HB.out)))).mono ?_); rintro e w14 ⟨rfl, hb⟩; refine ⟨_, rfl, ?_⟩; have n0_ := Aside0.mk (below_step (by repeat (first | (with_reducible first | exact HB.out | apply below_alloc | apply pw_below_drewN | apply below_drew1) | exact HB.out)) hb); clear HB; have HB := n0_; clear n0_; (try clear hb); (try clear hb2); (try clear hk); (try clear hi)))
      go_meet
      case rel => exact ⟨_, (decide ((l3.length : Int) > 4000)), (by first | rfl | (simp; done) | (simp [*]; done)), H', ⟨by first | omega | exact Nat.le_refl _⟩, ⟨by repeat (first | (with_reducible first | exact HB.out | apply below_alloc | apply pw_below_drewN | apply below_drew1) | exact HB.out)⟩⟩
  ·replace c7 := Bool.eq_false_iff.mpr c7
   subst c7
   have H1 : (capnplaw23_GrammarShortest.j0 k l0 l1 l2 l3 true) = some r := by rw [if_neg (show ¬ (false = true) by decide)] at H; exact H
   clear H
   have H := H1
   clear H1
   have H' := Aside0.mk H
   clear H
   go_wp2_with (first | ((with_reducible refine gate_callee (f := 9) rfl ?_); refine goesL_ (some 13) rfl rfl Tryd.func9 (by kernel_rfl) rfl #[] rfl (by (try simp only [List.map_toArray, List.map_cons, List.map_nil]); first | done | rfl | (simp only [List.length_drop, List.length_take]; rfl)) ?_; (with_reducible refine (capnplaw23_awake.calls k  false _ A6.out (Go.Proofs.YtnchacmhjbkmhaaDoor.Un.LaidU.below HL.out (by repeat (first | (with_reducible first | exact HB.out | apply below_alloc | apply pw_below_drewN | apply below_drew1) | exact HB.out)))).mono ?_); rintro e w15 ⟨rfl, hb⟩; refine ⟨_, rfl, ?_⟩; have n0_ := Aside0.mk (below_step (by repeat (first | (with_reducible first | exact HB.out | apply below_alloc | apply pw_below_drewN | apply below_drew1) | exact HB.out)) hb); clear HB; have HB := n0_; clear n0_; (try clear hb); (try clear hb2); (try clear hk); (try clear hi)))
   go_meet
   case rel => exact ⟨_, (true), (by first | rfl | (simp; done) | (simp [*]; done)), H', ⟨by first | omega | exact Nat.le_refl _⟩, ⟨by repeat (first | (with_reducible first | exact HB.out | apply below_alloc | apply pw_below_drewN | apply below_drew1) | exact HB.out)⟩⟩
 case rest =>
  clear HC5
  try clear c1
  try clear c2
  try clear p2
  try clear c3
  try clear c7
  try clear c8
  try clear c8b0
  try clear c8b1
  try clear c9
  try clear c10
  try clear c10b0
  try clear c10b1
  try clear c12
  try clear c12b0
  try clear c12b1
  obtain ⟨kq, x34_4, rfl, HA, HJ4, HB⟩ := hcut
  cases kq with
  | zero => exact absurd HA.out (by simp [capnplaw23_GrammarShortest.j0])
  | succ kj4 =>
   have H := HA.out
   clear HA
   simp only [capnplaw23_GrammarShortest.j0] at H
   by_cases c16 : x34_4 = true
   ·subst c16
    have H1 : ((capnplaw23_awake.f kj4).bind fun t314 => (some t314)) = some r := by rw [if_pos rfl] at H; exact H
    clear H
    have H := H1
    clear H1
    replace H := Option.bind_eq_some_iff.mp H
    obtain ⟨t314, A170, H⟩ := H
    replace H : (some t314) = some r := H
    have A17 := Aside0.mk A170
    clear A170
    obtain rfl := Option.some.inj H
    go_wp2_with (first | ((with_reducible refine gate_callee (f := 9) rfl ?_); refine goesL_ (some 35) rfl rfl Tryd.func9 (by kernel_rfl) rfl #[] rfl (by (try simp only [List.map_toArray, List.map_cons, List.map_nil]); first | done | rfl | (simp only [List.length_drop, List.length_take]; rfl)) ?_; (with_reducible refine (capnplaw23_awake.calls kj4  t314 _ A17.out (Go.Proofs.YtnchacmhjbkmhaaDoor.Un.LaidU.below HL.out (by repeat (first | (with_reducible first | exact HB.out | apply below_alloc | apply pw_below_drewN | apply below_drew1) | exact HB.out)))).mono ?_); rintro e w18 ⟨rfl, hb⟩; refine ⟨_, rfl, ?_⟩; have n0_ := Aside0.mk (below_step (by repeat (first | (with_reducible first | exact HB.out | apply below_alloc | apply pw_below_drewN | apply below_drew1) | exact HB.out)) hb); clear HB; have HB := n0_; clear n0_; (try clear hb); (try clear hb2); (try clear hk); (try clear hi)))
    go_ret
    exact ⟨by first | rfl | (simp [errW_none, errW_some] <;> rfl) | (simp [*, errW_none, errW_some] <;> rfl), by repeat (first | (with_reducible first | exact HB.out | apply below_alloc | apply pw_below_drewN | apply below_drew1) | exact HB.out)⟩
   ·replace c16 := Bool.eq_false_iff.mpr c16
    subst c16
    have H1 : ((capnpref23_Accepts.f kj4 l1 l0).bind fun t315 => (if t315 = true then ((capnpref23_Accepts.f kj4 l3 l2).bind fun t316 => (capnplaw23_GrammarShortest.j1 kj4 l0 l1 l2 l3 (!t316))) else (capnplaw23_GrammarShortest.j1 kj4 l0 l1 l2 l3 true))) = some r := by rw [if_neg (show ¬ (false = true) by decide)] at H; exact H
    clear H
    have H := H1
    clear H1
    have HC19 := Aside0.mk H
    clear H
    go_upto_region 3 with (fail)
    go_cut [45] (fun v45 wc => ∃ (kq : Nat) (x45_18 : Bool), v45 = .bool x45_18 ∧ Aside0 (capnplaw23_GrammarShortest.j1 kq l0 l1 l2 l3 x45_18 = some r) ∧ Aside0 (kq ≤ kj4) ∧ Aside0 (Below w.heap.size w wc))
    case first =>
     have H := HC19.out
     clear HC19
     replace H := Option.bind_eq_some_iff.mp H
     obtain ⟨t315, A200, H⟩ := H
     replace H : (if t315 = true then ((capnpref23_Accepts.f kj4 l3 l2).bind fun t316 => (capnplaw23_GrammarShortest.j1 kj4 l0 l1 l2 l3 (!t316))) else (capnplaw23_GrammarShortest.j1 kj4 l0 l1 l2 l3 true)) = some r := H
     have A20 := Aside0.mk A200
     clear A200
     by_cases c21 : t315 = true
     ·subst c21
      have H1 : ((capnpref23_Accepts.f kj4 l3 l2).bind fun t316 => (capnplaw23_GrammarShortest.j1 kj4 l0 l1 l2 l3 (!t316))) = some r := by rw [if_pos rfl] at H; exact H
      clear H
      have H := H1
      clear H1
      replace H := Option.bind_eq_some_iff.mp H
      obtain ⟨t316, A220, H⟩ := H
      replace H : (capnplaw23_GrammarShortest.j1 kj4 l0 l1 l2 l3 (!t316)) = some r := H
      have A22 := Aside0.mk A220
      clear A220
      have H' := Aside0.mk H
      clear H
      go_wp2_with (first | ((with_reducible refine gate_callee (f := 13) rfl ?_); refine goesL_ (some 38) rfl rfl Tryd.func13 (by kernel_rfl) rfl #[.slice A1 l1.length c1, .slice A0 l0.length c0] rfl (by (try simp only [List.map_toArray, List.map_cons, List.map_nil]); first | done | rfl | (simp only [List.length_drop, List.length_take]; rfl)) ?_; (with_reducible refine (capnpref23_Accepts.calls kj4 _ _ l1 _ _ l0 true _ ?side1 ?side2 ?side3 ?side4 A20.out).mono ?_); (case side1 => repeat (first | exact (Kd.C_below HR1.out HB.out) | (with_reducible refine Kd.C_alloc ?_ _) | (with_reducible refine Kd.C_drewN ?_ _) | (with_reducible refine Kd.C_drew ?_))); (case side2 => exact HC1.out); (case side3 => repeat (first | exact (Kd.C_below HR0.out HB.out) | (with_reducible refine Kd.C_alloc ?_ _) | (with_reducible refine Kd.C_drewN ?_ _) | (with_reducible refine Kd.C_drew ?_))); (case side4 => exact HC0.out); rintro e w23 ⟨rfl, hb⟩; refine ⟨_, rfl, ?_⟩; have n0_ := Aside0.mk (below_step (by repeat (first | (with_reducible first | exact HB.out | apply below_alloc | apply pw_below_drewN | apply below_drew1) | exact HB.out)) hb); clear HB; have HB := n0_; clear n0_; (try clear hb); (try clear hb2); (try clear hk); (try clear hi)) | (go_at_call 13; (with_reducible refine (capnpref23_Accepts.calls kj4 _ _ l3 _ _ l2 t316 _ ?side1 ?side2 ?side3 ?side4 A22.out).mono ?_); (case side1 => repeat (first | exact (Kd.C_below HR3.out HB.out) | (with_reducible refine Kd.C_alloc ?_ _) | (with_reducible refine Kd.C_drewN ?_ _) | (with_reducible refine Kd.C_drew ?_))); (case side2 => exact HC3.out); (case side3 => repeat (first | exact (Kd.C_below HR2.out HB.out) | (with_reducible refine Kd.C_alloc ?_ _) | (with_reducible refine Kd.C_drewN ?_ _) | (with_reducible refine Kd.C_drew ?_))); (case side4 => exact HC2.out); rintro e w24 ⟨rfl, hb⟩; have n0_ := Aside0.mk (below_step (by repeat (first | (with_reducible first | exact HB.out | apply below_alloc | apply pw_below_drewN | apply below_drew1) | exact HB.out)) hb); clear HB; have HB := n0_; clear n0_; (try clear hb); (try clear hb2); (try clear hk); (try clear hi)))
      go_meet
      case rel => exact ⟨_, (!t316), (by first | rfl | (simp; done) | (simp [*]; done)), H', ⟨by have := HJ4.out; first | omega | exact Nat.le_refl _⟩, ⟨by repeat (first | (with_reducible first | exact HB.out | apply below_alloc | apply pw_below_drewN | apply below_drew1) | exact HB.out)⟩⟩
     ·replace c21 := Bool.eq_false_iff.mpr c21
      subst c21
      have H1 : (capnplaw23_GrammarShortest.j1 kj4 l0 l1 l2 l3 true) = some r := by rw [if_neg (show ¬ (false = true) by decide)] at H; exact H
      clear H
      have H := H1
      clear H1
      have H' := Aside0.mk H
      clear H
      go_wp2_with (first | ((with_reducible refine gate_callee (f := 13) rfl ?_); refine goesL_ (some 38) rfl rfl Tryd.func13 (by kernel_rfl) rfl #[.slice A1 l1.length c1, .slice A0 l0.length c0] rfl (by (try simp only [List.map_toArray, List.map_cons, List.map_nil]); first | done | rfl | (simp only [List.length_drop, List.length_take]; rfl)) ?_; (with_reducible refine (capnpref23_Accepts.calls kj4 _ _ l1 _ _ l0 false _ ?side1 ?side2 ?side3 ?side4 A20.out).mono ?_); (case side1 => repeat (first | exact (Kd.C_below HR1.out HB.out) | (with_reducible refine Kd.C_alloc ?_ _) | (with_reducible refine Kd.C_drewN ?_ _) | (with_reducible refine Kd.C_drew ?_))); (case side2 => exact HC1.out); (case side3 => repeat (first | exact (Kd.C_below HR0.out HB.out) | (with_reducible refine Kd.C_alloc ?_ _) | (with_reducible refine Kd.C_drewN ?_ _) | (with_reducible refine Kd.C_drew ?_))); (case side4 => exact HC0.out); rintro e w25 ⟨rfl, hb⟩; refine ⟨_, rfl, ?_⟩; have n0_ := Aside0.mk (below_step (by repeat (first | (with_reducible first | exact HB.out | apply below_alloc | apply pw_below_drewN | apply below_drew1) | exact HB.out)) hb); clear HB; have HB := n0_; clear n0_; (try clear hb); (try clear hb2); (try clear hk); (try clear hi)))
      go_meet
      case rel => exact ⟨_, (true), (by first | rfl | (simp; done) | (simp [*]; done)), H', ⟨by have := HJ4.out; first | omega | exact Nat.le_refl _⟩, ⟨by repeat (first | (with_reducible first | exact HB.out | apply below_alloc | apply pw_below_drewN | apply below_drew1) | exact HB.out)⟩⟩
    case rest =>
     clear HC19
     try clear c1
     try clear c2
     try clear p2
     try clear c3
     try clear c7
     try clear c8
     try clear c8b0
     try clear c8b1
     try clear c9
     try clear c10
     try clear c10b0
     try clear c10b1
     try clear c12
     try clear c12b0
     try clear c12b1
     try clear c13
     try clear c16
     try clear c21
     try clear p2
     obtain ⟨kq, x45_18, rfl, HA, HJ18, HB⟩ := hcut
     cases kq with
     | zero => exact absurd HA.out (by simp [capnplaw23_GrammarShortest.j1])
     | succ kj18 =>
      have H := HA.out
      clear HA
      simp only [capnplaw23_GrammarShortest.j1] at H
      by_cases c26 : x45_18 = true
      ·subst c26
       have H1 : (some true) = some r := by rw [if_pos rfl] at H; exact H
       clear H
       have H := H1
       clear H1
       obtain rfl := Option.some.inj H
       go_wp2
       go_ret
       exact ⟨by first | rfl | (simp [errW_none, errW_some] <;> rfl) | (simp [*, errW_none, errW_some] <;> rfl), by repeat (first | (with_reducible first | exact HB.out | apply below_alloc | apply pw_below_drewN | apply below_drew1) | exact HB.out)⟩
      ·replace c26 := Bool.eq_false_iff.mpr c26
       subst c26
       have H1 : ((some (([] : List Int) : List Int)).bind fun y317 => (if y317.length + l0.length < 17592186044416 then ((some (y317 ++ l0 : List Int)).bind fun y320 => (if y320.length + l2.length < 17592186044416 then ((some (y320 ++ l2 : List Int)).bind fun y323 => ((grammar_Shortest.f y323).bind fun t326 => ((grammar_Shortest.f l0).bind fun t327 => ((grammar_Shortest.f l2).bind fun t328 => ((some (([] : List Int) : List Int)).bind fun y329 => (if y329.length + l1.length < 140737488355328 then ((some (y329 ++ l1 : List Int)).bind fun y332 => (if y332.length + l3.length < 140737488355328 then ((grammar_Accepts.f kj18 (y332 ++ l3) y323).bind fun t338 => (if t338 = true then (if t327 ≤ (l1.length : Int) then (if t328 ≤ (l3.length : Int) then (if t326 ≤ (wrap64 (t327 + t328)) then (if t326 ≥ t327 then (some (decide (t326 ≥ t328))) else (none)) else (none)) else (none)) else (none)) else (none))) else (none))) else (none))))))) else (none))) else (none))) = some r := by rw [if_neg (show ¬ (false = true) by decide)] at H; exact H
       clear H
       have H := H1
       clear H1
       obtain ⟨y317, hy317⟩ : ∃ y_ : List Int, y_ = (([] : List Int)) := ⟨_, rfl⟩
       replace H : (if y317.length + l0.length < 17592186044416 then ((some (y317 ++ l0 : List Int)).bind fun y320 => (if y320.length + l2.length < 17592186044416 then ((some (y320 ++ l2 : List Int)).bind fun y323 => ((grammar_Shortest.f y323).bind fun t326 => ((grammar_Shortest.f l0).bind fun t327 => ((grammar_Shortest.f l2).bind fun t328 => ((some (([] : List Int) : List Int)).bind fun y329 => (if y329.length + l1.length < 140737488355328 then ((some (y329 ++ l1 : List Int)).bind fun y332 => (if y332.length + l3.length < 140737488355328 then ((grammar_Accepts.f kj18 (y332 ++ l3) y323).bind fun t338 => (if t338 = true then (if t327 ≤ (l1.length : Int) then (if t328 ≤ (l3.length : Int) then (if t326 ≤ (wrap64 (t327 + t328)) then (if t326 ≥ t327 then (some (decide (t326 ≥ t328))) else (none)) else (none)) else (none)) else (none)) else (none))) else (none))) else (none))))))) else (none))) else (none)) = some r := by first | (rw [hy317]; with_reducible exact H) | (have H2_ := (Option.bind_some _ _).symm.trans H; rw [hy317]; with_reducible exact H2_) | (have H2_ := (Option.bind_some _ _).symm.trans H; with_reducible exact H2_) | with_reducible exact H | (rw [hy317]; exact H) | exact H
       have Ny317 := Aside0.mk hy317
       clear hy317
       by_cases c27 : y317.length + l0.length < 17592186044416
       ·rw [if_pos c27] at H
        have LMc27 := Aside0.mk c27
        clear c27
        obtain ⟨y320, hy320⟩ : ∃ y_ : List Int, y_ = (y317 ++ l0) := ⟨_, rfl⟩
        replace H : (if y320.length + l2.length < 17592186044416 then ((some (y320 ++ l2 : List Int)).bind fun y323 => ((grammar_Shortest.f y323).bind fun t326 => ((grammar_Shortest.f l0).bind fun t327 => ((grammar_Shortest.f l2).bind fun t328 => ((some (([] : List Int) : List Int)).bind fun y329 => (if y329.length + l1.length < 140737488355328 then ((some (y329 ++ l1 : List Int)).bind fun y332 => (if y332.length + l3.length < 140737488355328 then ((grammar_Accepts.f kj18 (y332 ++ l3) y323).bind fun t338 => (if t338 = true then (if t327 ≤ (l1.length : Int) then (if t328 ≤ (l3.length : Int) then (if t326 ≤ (wrap64 (t327 + t328)) then (if t326 ≥ t327 then (some (decide (t326 ≥ t328))) else (none)) else (none)) else (none)) else (none)) else (none))) else (none))) else (none))))))) else (none)) = some r := by first | (rw [hy320]; with_reducible exact H) | (have H2_ := (Option.bind_some _ _).symm.trans H; rw [hy320]; with_reducible exact H2_) | (have H2_ := (Option.bind_some _ _).symm.trans H; with_reducible exact H2_) | with_reducible exact H | (rw [hy320]; exact H) | exact H
        have Ny320 := Aside0.mk hy320
        clear hy320
        by_cases c28 : y320.length + l2.length < 17592186044416
        ·rw [if_pos c28] at H
         have LMc28 := Aside0.mk c28
         clear c28
         obtain ⟨y323, hy323⟩ : ∃ y_ : List Int, y_ = (y320 ++ l2) := ⟨_, rfl⟩
         replace H : ((grammar_Shortest.f y323).bind fun t326 => ((grammar_Shortest.f l0).bind fun t327 => ((grammar_Shortest.f l2).bind fun t328 => ((some (([] : List Int) : List Int)).bind fun y329 => (if y329.length + l1.length < 140737488355328 then ((some (y329 ++ l1 : List Int)).bind fun y332 => (if y332.length + l3.length < 140737488355328 then ((grammar_Accepts.f kj18 (y332 ++ l3) y323).bind fun t338 => (if t338 = true then (if t327 ≤ (l1.length : Int) then (if t328 ≤ (l3.length : Int) then (if t326 ≤ (wrap64 (t327 + t328)) then (if t326 ≥ t327 then (some (decide (t326 ≥ t328))) else (none)) else (none)) else (none)) else (none)) else (none))) else (none))) else (none)))))) = some r := by first | (rw [hy323]; with_reducible exact H) | (have H2_ := (Option.bind_some _ _).symm.trans H; rw [hy323]; with_reducible exact H2_) | (have H2_ := (Option.bind_some _ _).symm.trans H; with_reducible exact H2_) | with_reducible exact H | (rw [hy323]; exact H) | exact H
         have Ny323 := Aside0.mk hy323
         clear hy323
         replace H := Option.bind_eq_some_iff.mp H
         obtain ⟨t326, A290, H⟩ := H
         replace H : ((grammar_Shortest.f l0).bind fun t327 => ((grammar_Shortest.f l2).bind fun t328 => ((some (([] : List Int) : List Int)).bind fun y329 => (if y329.length + l1.length < 140737488355328 then ((some (y329 ++ l1 : List Int)).bind fun y332 => (if y332.length + l3.length < 140737488355328 then ((grammar_Accepts.f kj18 (y332 ++ l3) y323).bind fun t338 => (if t338 = true then (if t327 ≤ (l1.length : Int) then (if t328 ≤ (l3.length : Int) then (if t326 ≤ (wrap64 (t327 + t328)) then (if t326 ≥ t327 then (some (decide (t326 ≥ t328))) else (none)) else (none)) else (none)) else (none)) else (none))) else (none))) else (none))))) = some r := H
         have A29 := Aside0.mk A290
         clear A290
         replace H := Option.bind_eq_some_iff.mp H
         obtain ⟨t327, A300, H⟩ := H
         replace H : ((grammar_Shortest.f l2).bind fun t328 => ((some (([] : List Int) : List Int)).bind fun y329 => (if y329.length + l1.length < 140737488355328 then ((some (y329 ++ l1 : List Int)).bind fun y332 => (if y332.length + l3.length < 140737488355328 then ((grammar_Accepts.f kj18 (y332 ++ l3) y323).bind fun t338 => (if t338 = true then (if t327 ≤ (l1.length : Int) then (if t328 ≤ (l3.length : Int) then (if t326 ≤ (wrap64 (t327 + t328)) then (if t326 ≥ t327 then (some (decide (t326 ≥ t328))) else (none)) else (none)) else (none)) else (none)) else (none))) else (none))) else (none)))) = some r := H
         have A30 := Aside0.mk A300
         clear A300
         replace H := Option.bind_eq_some_iff.mp H
         obtain ⟨t328, A310, H⟩ := H
         replace H : ((some (([] : List Int) : List Int)).bind fun y329 => (if y329.length + l1.length < 140737488355328 then ((some (y329 ++ l1 : List Int)).bind fun y332 => (if y332.length + l3.length < 140737488355328 then ((grammar_Accepts.f kj18 (y332 ++ l3) y323).bind fun t338 => (if t338 = true then (if t327 ≤ (l1.length : Int) then (if t328 ≤ (l3.length : Int) then (if t326 ≤ (wrap64 (t327 + t328)) then (if t326 ≥ t327 then (some (decide (t326 ≥ t328))) else (none)) else (none)) else (none)) else (none)) else (none))) else (none))) else (none))) = some r := H
         have A31 := Aside0.mk A310
         clear A310
         obtain ⟨y329, hy329⟩ : ∃ y_ : List Int, y_ = (([] : List Int)) := ⟨_, rfl⟩
         replace H : (if y329.length + l1.length < 140737488355328 then ((some (y329 ++ l1 : List Int)).bind fun y332 => (if y332.length + l3.length < 140737488355328 then ((grammar_Accepts.f kj18 (y332 ++ l3) y323).bind fun t338 => (if t338 = true then (if t327 ≤ (l1.length : Int) then (if t328 ≤ (l3.length : Int) then (if t326 ≤ (wrap64 (t327 + t328)) then (if t326 ≥ t327 then (some (decide (t326 ≥ t328))) else (none)) else (none)) else (none)) else (none)) else (none))) else (none))) else (none)) = some r := by first | (rw [hy329]; with_reducible exact H) | (have H2_ := (Option.bind_some _ _).symm.trans H; rw [hy329]; with_reducible exact H2_) | (have H2_ := (Option.bind_some _ _).symm.trans H; with_reducible exact H2_) | with_reducible exact H | (rw [hy329]; exact H) | exact H
         have Ny329 := Aside0.mk hy329
         clear hy329
         by_cases c32 : y329.length + l1.length < 140737488355328
         ·rw [if_pos c32] at H
          have LMc32 := Aside0.mk c32
          clear c32
          obtain ⟨y332, hy332⟩ : ∃ y_ : List Int, y_ = (y329 ++ l1) := ⟨_, rfl⟩
          replace H : (if y332.length + l3.length < 140737488355328 then ((grammar_Accepts.f kj18 (y332 ++ l3) y323).bind fun t338 => (if t338 = true then (if t327 ≤ (l1.length : Int) then (if t328 ≤ (l3.length : Int) then (if t326 ≤ (wrap64 (t327 + t328)) then (if t326 ≥ t327 then (some (decide (t326 ≥ t328))) else (none)) else (none)) else (none)) else (none)) else (none))) else (none)) = some r := by first | (rw [hy332]; with_reducible exact H) | (have H2_ := (Option.bind_some _ _).symm.trans H; rw [hy332]; with_reducible exact H2_) | (have H2_ := (Option.bind_some _ _).symm.trans H; with_reducible exact H2_) | with_reducible exact H | (rw [hy332]; exact H) | exact H
          have Ny332 := Aside0.mk hy332
          clear hy332
          by_cases c33 : y332.length + l3.length < 140737488355328
          ·rw [if_pos c33] at H
           have LMc33 := Aside0.mk c33
           clear c33
           obtain ⟨y335, hy335⟩ : ∃ y_ : List Int, y_ = (y332 ++ l3) := ⟨_, rfl⟩
           replace H : ((grammar_Accepts.f kj18 y335 y323).bind fun t338 => (if t338 = true then (if t327 ≤ (l1.length : Int) then (if t328 ≤ (l3.length : Int) then (if t326 ≤ (wrap64 (t327 + t328)) then (if t326 ≥ t327 then (some (decide (t326 ≥ t328))) else (none)) else (none)) else (none)) else (none)) else (none))) = some r := by first | (rw [hy335]; with_reducible exact H) | (have H2_ := (Option.bind_some _ _).symm.trans H; rw [hy335]; with_reducible exact H2_) | (have H2_ := (Option.bind_some _ _).symm.trans H; with_reducible exact H2_) | with_reducible exact H | (rw [hy335]; exact H) | exact H
           have Ny335 := Aside0.mk hy335
           clear hy335
           replace H := Option.bind_eq_some_iff.mp H
           obtain ⟨t338, A340, H⟩ := H
           replace H : (if t338 = true then (if t327 ≤ (l1.length : Int) then (if t328 ≤ (l3.length : Int) then (if t326 ≤ (wrap64 (t327 + t328)) then (if t326 ≥ t327 then (some (decide (t326 ≥ t328))) else (none)) else (none)) else (none)) else (none)) else (none)) = some r := H
           have A34 := Aside0.mk A340
           clear A340
           by_cases c35 : t338 = true
           ·subst c35
            have H1 : (if t327 ≤ (l1.length : Int) then (if t328 ≤ (l3.length : Int) then (if t326 ≤ (wrap64 (t327 + t328)) then (if t326 ≥ t327 then (some (decide (t326 ≥ t328))) else (none)) else (none)) else (none)) else (none)) = some r := by rw [if_pos rfl] at H; exact H
            clear H
            have H := H1
            clear H1
            by_cases c36 : t327 ≤ (l1.length : Int)
            ·rw [if_pos c36] at H
             have c36b0 : decide (t327 ≤ (l1.length : Int)) = true := decide_eq_true c36
             clear c36
             by_cases c37 : t328 ≤ (l3.length : Int)
             ·rw [if_pos c37] at H
              have c37b0 : decide (t328 ≤ (l3.length : Int)) = true := decide_eq_true c37
              clear c37
              by_cases c38 : t326 ≤ (wrap64 (t327 + t328))
              ·rw [if_pos c38] at H
               have c38b0 : decide (t326 ≤ (wrap64 (t327 + t328))) = true := decide_eq_true c38
               clear c38
               by_cases c39 : t326 ≥ t327
               ·rw [if_pos c39] at H
                have c39b0 : decide (t327 ≤ t326) = true := decide_eq_true c39
                clear c39
                obtain rfl := Option.some.inj H
                go_wp2_with (first | ((with_reducible refine gate_dst (N := 46) rfl ?_); (try (refine gate_guard (by rfl) ?_; dsimp only)); refine Kd.R_lit (Kd.int .u64) _ 37 ?hg (N := 46) ?hd (xs := ([] : List Int)) (inner := []) (ok := fun _ => True) (okp := fun _ => True) ?hr ?hp (fun _ hk => hk) trivial (Below.refl _ _) (Nat.le_refl _) (by simp) ?_; (case hd => rfl); (case hg => rfl); (case hr => first | (go_simp; done) | (go_simp; rfl)); (case hp => exact (Reps.none _ _)); intro v318 w40 ho41 hb hg_ hnew_; clear hg_ hnew_; (first | rw [← Ny317.out] at ho41 | (simp only [Int.reduceToNat] at ho41; rw [← Ny317.out] at ho41)); have n0_ := Aside0.mk (Kd.R_lower ho41 (below_size (by repeat (first | (with_reducible first | exact HB.out | apply below_alloc | apply pw_below_drewN | apply below_drew1) | exact HB.out)))); have n1_ := Aside0.mk (below_step (by repeat (first | (with_reducible first | exact HB.out | apply below_alloc | apply pw_below_drewN | apply below_drew1) | exact HB.out)) hb); clear HB; have HO319 := n0_; have HB := n1_; clear n0_ n1_; clear hb ho41) | ((with_reducible refine gate_builtin (b := .append) (xs := #[.tmp 46, .tmp 47]) rfl ?_); (try (refine gate_guard (by rfl) ?_; dsimp only)); at_builtin; refine Kd.R_append_rows (Kd.int .u64) (w0 := w) w.heap.size rfl (.tmp 46) (.tmp 47) 23 37 (.int .u64 0) 8 rfl Tryd.underlying23 info37 rfl (by decide) (by omega) v318 y317 l0 _ _ _ (fun _ => True) (fun _ => False) rfl rfl ?aO ?aR (fun _ _ h => h) (fun _ h => h.elim) ?aF ?aB ?aS ?aL ?_; (case aR => repeat (first | exact (Kd.C_below HR0.out HB.out) | (with_reducible refine Kd.C_alloc ?_ _) | (with_reducible refine Kd.C_drewN ?_ _) | (with_reducible refine Kd.C_drew ?_))); (case aB => exact (by repeat (first | (with_reducible first | exact HB.out | apply below_alloc | apply pw_below_drewN | apply below_drew1) | exact HB.out))); (case aF => exact (fun _ _ => trivial)); (case aO => exact (by (with_reducible repeat (first | apply Kd.R_alloc | apply Kd.R_drewN | apply Kd.R_drew)); exact HO319.out)); (case aS => exact (below_size (by repeat (first | (with_reducible first | exact HB.out | apply below_alloc | apply pw_below_drewN | apply below_drew1) | exact HB.out)))); (case aL => have := LMc27.out; omega); intro v321 w42 ho hb hg hat; rw [← Ny320.out] at ho; have n0_ := Aside0.mk (hb); have n1_ := Aside0.mk (ho); clear HB; clear HO319; have HB := n0_; have HO322 := n1_; clear n0_ n1_; clear ho hb hg hat) | ((with_reducible refine gate_builtin (b := .append) (xs := #[.tmp 48, .tmp 49]) rfl ?_); (try (refine gate_guard (by rfl) ?_; dsimp only)); at_builtin; refine Kd.R_append_rows (Kd.int .u64) (w0 := w) w.heap.size rfl (.tmp 48) (.tmp 49) 23 37 (.int .u64 0) 8 rfl Tryd.underlying23 info37 rfl (by decide) (by omega) v321 y320 l2 _ _ _ (fun _ => True) (fun _ => False) rfl rfl ?aO ?aR (fun _ _ h => h) (fun _ h => h.elim) ?aF ?aB ?aS ?aL ?_; (case aR => repeat (first | exact (Kd.C_below HR2.out HB.out) | (with_reducible refine Kd.C_alloc ?_ _) | (with_reducible refine Kd.C_drewN ?_ _) | (with_reducible refine Kd.C_drew ?_))); (case aB => exact (by repeat (first | (with_reducible first | exact HB.out | apply below_alloc | apply pw_below_drewN | apply below_drew1) | exact HB.out))); (case aF => exact (fun _ _ => trivial)); (case aO => exact (by (with_reducible repeat (first | apply Kd.R_alloc | apply Kd.R_drewN | apply Kd.R_drew)); exact HO322.out)); (case aS => exact (below_size (by repeat (first | (with_reducible first | exact HB.out | apply below_alloc | apply pw_below_drewN | apply below_drew1) | exact HB.out)))); (case aL => have := LMc28.out; omega); intro v324 w43 ho hb hg hat; rw [← Ny323.out] at ho; have n0_ := Aside0.mk (hb); have n1_ := Aside0.mk (ho); clear HB; clear HO322; have HB := n0_; have HO325 := n1_; clear n0_ n1_; clear ho hb hg hat; obtain ⟨Ao44, co44, eo44⟩ := Kd.R_slice HO325.out; subst eo44) | ((with_reducible refine gate_callee (f := 18) rfl ?_); refine goesL_ (some 52) rfl rfl Tryd.func18 (by kernel_rfl) rfl #[.slice Ao44 y323.length co44] rfl (by (try simp only [List.map_toArray, List.map_cons, List.map_nil]); first | done | rfl | (simp only [List.length_drop, List.length_take]; rfl)) ?_; (with_reducible refine (grammar_Shortest.calls _ _ y323 t326 _ ?side1 ?side2 A29.out).mono ?_); (case side1 => repeat (first | exact (Kd.R_reads' HO325.out).2.2 | (with_reducible refine Kd.C_alloc ?_ _) | (with_reducible refine Kd.C_drewN ?_ _) | (with_reducible refine Kd.C_drew ?_))); (case side2 => exact (Kd.R_reads' HO325.out).2.1); rintro e w45 ⟨rfl, hb⟩; refine ⟨_, rfl, ?_⟩; have n0_ := Aside0.mk (Kd.R_below (by (with_reducible repeat (first | apply Kd.R_alloc | apply Kd.R_drewN | apply Kd.R_drew)); exact HO325.out) hb); have n1_ := Aside0.mk (below_step (by repeat (first | (with_reducible first | exact HB.out | apply below_alloc | apply pw_below_drewN | apply below_drew1) | exact HB.out)) hb); clear HO325; clear HB; have HO325 := n0_; have HB := n1_; clear n0_ n1_; (try clear hb); (try clear hb2); (try clear hk); (try clear hi)) | ((with_reducible refine gate_callee (f := 18) rfl ?_); refine goesL_ (some 54) rfl rfl Tryd.func18 (by kernel_rfl) rfl #[.slice A0 l0.length c0] rfl (by (try simp only [List.map_toArray, List.map_cons, List.map_nil]); first | done | rfl | (simp only [List.length_drop, List.length_take]; rfl)) ?_; (with_reducible refine (grammar_Shortest.calls _ _ l0 t327 _ ?side1 ?side2 A30.out).mono ?_); (case side1 => repeat (first | exact (Kd.C_below HR0.out HB.out) | (with_reducible refine Kd.C_alloc ?_ _) | (with_reducible refine Kd.C_drewN ?_ _) | (with_reducible refine Kd.C_drew ?_))); (case side2 => exact HC0.out); rintro e w46 ⟨rfl, hb⟩; refine ⟨_, rfl, ?_⟩; have n0_ := Aside0.mk (Kd.R_below (by (with_reducible repeat (first | apply Kd.R_alloc | apply Kd.R_drewN | apply Kd.R_drew)); exact HO325.out) hb); have n1_ := Aside0.mk (below_step (by repeat (first | (with_reducible first | exact HB.out | apply below_alloc | apply pw_below_drewN | apply below_drew1) | exact HB.out)) hb); clear HO325; clear HB; have HO325 := n0_; have HB := n1_; clear n0_ n1_; (try clear hb); (try clear hb2); (try clear hk); (try clear hi)) | ((with_reducible refine gate_callee (f := 18) rfl ?_); refine goesL_ (some 56) rfl rfl Tryd.func18 (by kernel_rfl) rfl #[.slice A2 l2.length c2] rfl (by (try simp only [List.map_toArray, List.map_cons, List.map_nil]); first | done | rfl | (simp only [List.length_drop, List.length_take]; rfl)) ?_; (with_reducible refine (grammar_Shortest.calls _ _ l2 t328 _ ?side1 ?side2 A31.out).mono ?_); (case side1 => repeat (first | exact (Kd.C_below HR2.out HB.out) | (with_reducible refine Kd.C_alloc ?_ _) | (with_reducible refine Kd.C_drewN ?_ _) | (with_reducible refine Kd.C_drew ?_))); (case side2 => exact HC2.out); rintro e w47 ⟨rfl, hb⟩; refine ⟨_, rfl, ?_⟩; have n0_ := Aside0.mk (Kd.R_below (by (with_reducible repeat (first | apply Kd.R_alloc | apply Kd.R_drewN | apply Kd.R_drew)); exact HO325.out) hb); have n1_ := Aside0.mk (below_step (by repeat (first | (with_reducible first | exact HB.out | apply below_alloc | apply pw_below_drewN | apply below_drew1) | exact HB.out)) hb); clear HO325; clear HB; have HO325 := n0_; have HB := n1_; clear n0_ n1_; (try clear hb); (try clear hb2); (try clear hk); (try clear hi)) | ((with_reducible refine gate_dst (N := 57) rfl ?_); (try (refine gate_guard (by rfl) ?_; dsimp only)); refine Kd.R_lit (Kd.int .u8) _ 5 ?hg (N := 57) ?hd (xs := ([] : List Int)) (inner := []) (ok := fun _ => True) (okp := fun _ => True) ?hr ?hp (fun _ hk => hk) trivial (Below.refl _ _) (Nat.le_refl _) (by simp) ?_; (case hd => rfl); (case hg => rfl); (case hr => first | (go_simp; done) | (go_simp; rfl)); (case hp => exact (Reps.none _ _)); intro v330 w48 ho49 hb hg_ hnew_; clear hg_ hnew_; (first | rw [← Ny329.out] at ho49 | (simp only [Int.reduceToNat] at ho49; rw [← Ny329.out] at ho49)); have n0_ := Aside0.mk (Kd.R_below (by (with_reducible repeat (first | apply Kd.R_alloc | apply Kd.R_drewN | apply Kd.R_drew)); exact HO325.out) hb); have n1_ := Aside0.mk (Kd.R_lower ho49 (below_size (by repeat (first | (with_reducible first | exact HB.out | apply below_alloc | apply pw_below_drewN | apply below_drew1) | exact HB.out)))); have n2_ := Aside0.mk (below_step (by repeat (first | (with_reducible first | exact HB.out | apply below_alloc | apply pw_below_drewN | apply below_drew1) | exact HB.out)) hb); clear HO325; clear HB; have HO325 := n0_; have HO331 := n1_; have HB := n2_; clear n0_ n1_ n2_; clear hb ho49) | ((with_reducible refine gate_builtin (b := .append) (xs := #[.tmp 57, .tmp 58]) rfl ?_); (try (refine gate_guard (by rfl) ?_; dsimp only)); at_builtin; refine Kd.R_append_rows (Kd.int .u8) (w0 := w) w.heap.size rfl (.tmp 57) (.tmp 58) 22 5 (.int .u8 0) 1 rfl Tryd.underlying22 info5 rfl (by decide) (by omega) v330 y329 l1 _ _ _ (fun _ => True) (fun _ => False) rfl rfl ?aO ?aR (fun _ _ h => h) (fun _ h => h.elim) ?aF ?aB ?aS ?aL ?_; (case aR => repeat (first | exact (Kd.C_below HR1.out HB.out) | (with_reducible refine Kd.C_alloc ?_ _) | (with_reducible refine Kd.C_drewN ?_ _) | (with_reducible refine Kd.C_drew ?_))); (case aB => exact (by repeat (first | (with_reducible first | exact HB.out | apply below_alloc | apply pw_below_drewN | apply below_drew1) | exact HB.out))); (case aF => exact (fun _ _ => trivial)); (case aO => exact (by (with_reducible repeat (first | apply Kd.R_alloc | apply Kd.R_drewN | apply Kd.R_drew)); exact HO331.out)); (case aS => exact (below_size (by repeat (first | (with_reducible first | exact HB.out | apply below_alloc | apply pw_below_drewN | apply below_drew1) | exact HB.out)))); (case aL => have := LMc32.out; omega); intro v333 w50 ho hb hg hat; rw [← Ny332.out] at ho; have n0_ := Aside0.mk (Kd.R_over' (by (with_reducible repeat (first | apply Kd.R_alloc | apply Kd.R_drewN | apply Kd.R_drew)); exact HO325.out) (Kd.R_typed (by (with_reducible repeat (first | apply Kd.R_alloc | apply Kd.R_drewN | apply Kd.R_drew)); exact HO331.out)) (by decide) hg); have n1_ := Aside0.mk (hb); have n2_ := Aside0.mk (ho); clear HO325; clear HB; clear HO331; have HO325 := n0_; have HB := n1_; have HO334 := n2_; clear n0_ n1_ n2_; clear ho hb hg hat) | ((with_reducible refine gate_builtin (b := .append) (xs := #[.tmp 59, .tmp 60]) rfl ?_); (try (refine gate_guard (by rfl) ?_; dsimp only)); at_builtin; refine Kd.R_append_rows (Kd.int .u8) (w0 := w) w.heap.size rfl (.tmp 59) (.tmp 60) 22 5 (.int .u8 0) 1 rfl Tryd.underlying22 info5 rfl (by decide) (by omega) v333 y332 l3 _ _ _ (fun _ => True) (fun _ => False) rfl rfl ?aO ?aR (fun _ _ h => h) (fun _ h => h.elim) ?aF ?aB ?aS ?aL ?_; (case aR => repeat (first | exact (Kd.C_below HR3.out HB.out) | (with_reducible refine Kd.C_alloc ?_ _) | (with_reducible refine Kd.C_drewN ?_ _) | (with_reducible refine Kd.C_drew ?_))); (case aB => exact (by repeat (first | (with_reducible first | exact HB.out | apply below_alloc | apply pw_below_drewN | apply below_drew1) | exact HB.out))); (case aF => exact (fun _ _ => trivial)); (case aO => exact (by (with_reducible repeat (first | apply Kd.R_alloc | apply Kd.R_drewN | apply Kd.R_drew)); exact HO334.out)); (case aS => exact (below_size (by repeat (first | (with_reducible first | exact HB.out | apply below_alloc | apply pw_below_drewN | apply below_drew1) | exact HB.out)))); (case aL => have := LMc33.out; omega); intro v336 w51 ho hb hg hat; rw [← Ny335.out] at ho; have n0_ := Aside0.mk (Kd.R_over' (by (with_reducible repeat (first | apply Kd.R_alloc | apply Kd.R_drewN | apply Kd.R_drew)); exact HO325.out) (Kd.R_typed (by (with_reducible repeat (first | apply Kd.R_alloc | apply Kd.R_drewN | apply Kd.R_drew)); exact HO334.out)) (by decide) hg); have n1_ := Aside0.mk (hb); have n2_ := Aside0.mk (ho); clear HO325; clear HB; clear HO334; have HO325 := n0_; have HB := n1_; have HO337 := n2_; clear n0_ n1_ n2_; clear ho hb hg hat; obtain ⟨Ao52, co52, eo52⟩ := Kd.R_slice HO337.out; subst eo52) | ((with_reducible refine gate_callee (f := 12) rfl ?_); refine goesL_ (some 63) rfl rfl Tryd.func12 (by kernel_rfl) rfl #[.slice Ao52 y335.length co52, .slice Ao44 y323.length co44] rfl (by (try simp only [List.map_toArray, List.map_cons, List.map_nil]); first | done | rfl | (simp only [List.length_drop, List.length_take]; rfl)) ?_; (with_reducible refine (grammar_Accepts.calls kj18 _ _ y335 _ _ y323 true _ ?side1 ?side2 ?side3 ?side4 A34.out (Go.Proofs.YtnchacmhjbkmhaaDoor.Un.LaidU.below HL.out (by repeat (first | (with_reducible first | exact HB.out | apply below_alloc | apply pw_below_drewN | apply below_drew1) | exact HB.out)))).mono ?_); (case side1 => repeat (first | exact (Kd.R_reads' HO337.out).2.2 | (with_reducible refine Kd.C_alloc ?_ _) | (with_reducible refine Kd.C_drewN ?_ _) | (with_reducible refine Kd.C_drew ?_))); (case side2 => exact (Kd.R_reads' HO337.out).2.1); (case side3 => repeat (first | exact (Kd.R_reads' HO325.out).2.2 | (with_reducible refine Kd.C_alloc ?_ _) | (with_reducible refine Kd.C_drewN ?_ _) | (with_reducible refine Kd.C_drew ?_))); (case side4 => exact (Kd.R_reads' HO325.out).2.1); rintro e w53 ⟨rfl, hb⟩; refine ⟨_, rfl, ?_⟩; have n0_ := Aside0.mk (Kd.R_below (by (with_reducible repeat (first | apply Kd.R_alloc | apply Kd.R_drewN | apply Kd.R_drew)); exact HO325.out) hb); have n1_ := Aside0.mk (Kd.R_below (by (with_reducible repeat (first | apply Kd.R_alloc | apply Kd.R_drewN | apply Kd.R_drew)); exact HO337.out) hb); have n2_ := Aside0.mk (below_step (by repeat (first | (with_reducible first | exact HB.out | apply below_alloc | apply pw_below_drewN | apply below_drew1) | exact HB.out)) hb); clear HO325; clear HO337; clear HB; have HO325 := n0_; have HO337 := n1_; have HB := n2_; clear n0_ n1_ n2_; (try clear hb); (try clear hb2); (try clear hk); (try clear hi)))
                go_ret
                exact ⟨by first | rfl | (simp [errW_none, errW_some] <;> rfl) | (simp [*, errW_none, errW_some] <;> rfl), by repeat (first | (with_reducible first | exact HB.out | apply below_alloc | apply pw_below_drewN | apply below_drew1) | exact HB.out)⟩
               ·rw [if_neg c39] at H
                exact absurd H (by simp)
              ·rw [if_neg c38] at H
               exact absurd H (by simp)
             ·rw [if_neg c37] at H
              exact absurd H (by simp)
            ·rw [if_neg c36] at H
             exact absurd H (by simp)
           ·replace c35 := Bool.eq_false_iff.mpr c35
            subst c35
            have H1 : (none) = some r := by rw [if_neg (show ¬ (false = true) by decide)] at H; exact H
            clear H
            have H := H1
            clear H1
            exact absurd H (by simp)
          ·rw [if_neg c33] at H
           exact absurd H (by simp)
         ·rw [if_neg c32] at H
          exact absurd H (by simp)
        ·rw [if_neg c28] at H
         exact absurd H (by simp)
       ·rw [if_neg c27] at H
        exact absurd H (by simp)

/-- THE ONE PURE STATEMENT of capnplaw23_GrammarShortest: yours. -/
def capnplaw23_GrammarShortest.Pure : Prop := ∀ (l0 : List Int) (l1 : List Int) (l2 : List Int) (l3 : List Int), l0.length ≤ maxLen → l0.length * 8 ≤ 140737488351232 → (∀ x ∈ l0, (Lit.int .u64 x).wf = true) → l1.length ≤ maxLen → l1.length * 1 ≤ 140737488351232 → (∀ x ∈ l1, (Lit.int .u8 x).wf = true) → l2.length ≤ maxLen → l2.length * 8 ≤ 140737488351232 → (∀ x ∈ l2, (Lit.int .u64 x).wf = true) → l3.length ≤ maxLen → l3.length * 1 ≤ 140737488351232 → (∀ x ∈ l3, (Lit.int .u8 x).wf = true) → ∃ k, capnplaw23_GrammarShortest.f k l0 l1 l2 l3 = some true
theorem capnplaw23_GrammarShortest.walk (P : capnplaw23_GrammarShortest.Pure) (a0 : Option Addr) (len0 cap0 : Nat) (z0 : List Int) (a1 : Option Addr) (len1 cap1 : Nat) (z1 : List Int) (a2 : Option Addr) (len2 cap2 : Nat) (z2 : List Int) (a3 : Option Addr) (len3 cap3 : Nat) (z3 : List Int) (w : World) (w0 : (a0 = none ∧ len0 = 0 ∧ cap0 = 0 ∧ z0 = []) ∨ ∃ x, a0 = some x ∧ len0 ≤ cap0 ∧ cap0 ≤ maxLen ∧ z0.length = cap0 ∧ (∀ i, i < z0.length → w.cell? (x.add i) = some (.int .u64 (z0.getD i 0))) ∧ ∀ n ∈ z0, (Lit.int .u64 n).wf = true) (y0 : len0 * 8 ≤ 140737488351232) (w1 : (a1 = none ∧ len1 = 0 ∧ cap1 = 0 ∧ z1 = []) ∨ ∃ x, a1 = some x ∧ len1 ≤ cap1 ∧ cap1 ≤ maxLen ∧ z1.length = cap1 ∧ (∀ i, i < z1.length → w.cell? (x.add i) = some (.int .u8 (z1.getD i 0))) ∧ ∀ n ∈ z1, (Lit.int .u8 n).wf = true) (y1 : len1 * 1 ≤ 140737488351232) (w2 : (a2 = none ∧ len2 = 0 ∧ cap2 = 0 ∧ z2 = []) ∨ ∃ x, a2 = some x ∧ len2 ≤ cap2 ∧ cap2 ≤ maxLen ∧ z2.length = cap2 ∧ (∀ i, i < z2.length → w.cell? (x.add i) = some (.int .u64 (z2.getD i 0))) ∧ ∀ n ∈ z2, (Lit.int .u64 n).wf = true) (y2 : len2 * 8 ≤ 140737488351232) (w3 : (a3 = none ∧ len3 = 0 ∧ cap3 = 0 ∧ z3 = []) ∨ ∃ x, a3 = some x ∧ len3 ≤ cap3 ∧ cap3 ≤ maxLen ∧ z3.length = cap3 ∧ (∀ i, i < z3.length → w.cell? (x.add i) = some (.int .u8 (z3.getD i 0))) ∧ ∀ n ∈ z3, (Lit.int .u8 n).wf = true) (y3 : len3 * 1 ≤ 140737488351232) {aL aT : Addr} (hL : Go.Proofs.YtnchacmhjbkmhaaDoor.Un.LaidU w aL aT) :
  Calls Tryd.prog 7 #[.slice a0 len0 cap0, .slice a1 len1 cap1, .slice a2 len2 cap2, .slice a3 len3 cap3] w fun e w' => e = .returned (.bool true) ∧ Below w.heap.size w w' := by
 obtain ⟨l0, rfl, hr0, hm0, hw0, hc0⟩ := ReadsInt.ofRowC w0
 obtain ⟨l1, rfl, hr1, hm1, hw1, hc1⟩ := ReadsInt.ofRowC w1
 obtain ⟨l2, rfl, hr2, hm2, hw2, hc2⟩ := ReadsInt.ofRowC w2
 obtain ⟨l3, rfl, hr3, hm3, hw3, hc3⟩ := ReadsInt.ofRowC w3
 obtain ⟨k, h⟩ := P l0 l1 l2 l3 hm0 y0 hw0 hm1 y1 hw1 hm2 y2 hw2 hm3 y3 hw3
 refine (capnplaw23_GrammarShortest.calls k _ _ l0 _ _ l1 _ _ l2 _ _ l3 true w (Kd.C_of_reads (d := (0 : Int)) (h1 := fun _ => rfl) hr0) hc0 (Kd.C_of_reads (d := (0 : Int)) (h1 := fun _ => rfl) hr1) hc1 (Kd.C_of_reads (d := (0 : Int)) (h1 := fun _ => rfl) hr2) hc2 (Kd.C_of_reads (d := (0 : Int)) (h1 := fun _ => rfl) hr3) hc3 h hL).mono ?_
 rintro e w' ⟨rfl, hd⟩
 exact ⟨rfl, hd⟩

end Go.Proofs.YtnchacmhjbkmhaaDoor.PGrammarShortest
