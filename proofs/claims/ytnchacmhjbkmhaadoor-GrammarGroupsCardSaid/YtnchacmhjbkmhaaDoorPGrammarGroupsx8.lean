/- (Halved.) Written by myprint.py, a program of this session: printed functions of a law, and the proofs that the Go code comes to them. -/
import Derived.Test.YtnchacmhjbkmhaaDoorPGrammarGroupsx0
import Derived.Test.YtnchacmhjbkmhaaDoorPGrammarGroupsx2
import Derived.Test.YtnchacmhjbkmhaaDoorPGrammarGroupsx6
import Derived.Test.YtnchacmhjbkmhaaDoorPGrammarGroupsx7
namespace Go.Proofs.YtnchacmhjbkmhaaDoor.PGrammarGroups
open Go.RowKit Go.Proofs.YtnchacmhjbkmhaaDoorW.PrintWords Go.Proofs.YtnchacmhjbkmhaaDoorW.PrintLast Go.Proofs.YtnchacmhjbkmhaaDoorW.PrintMore
attribute [local go_sem] max2_int min2_int max_two min_two max_three min_three max_four min_four   -- for this text's walks alone
set_option linter.unusedVariables false
set_option linter.unusedSimpArgs false

/-! ### capnplaw23_GrammarGroups: function 5 -/
mutual
def capnplaw23_GrammarGroups.j0 : Nat → List Int → Bool → Option (Bool)
 | 0, _, _ => none
 | k + 1, x0, x18 => if x18 = true then ((capnplaw23_awake.f k).bind fun t309 => (some t309)) else ((capnpref22_Decodable.f k x0).bind fun bt310 => ((grammar_Groups.f k x0).bind fun bt314 => (if bt310.2 = true then (if bt314.2 = 10 then (some ((bt314.1.length : Int) == 0)) else (none)) else (capnplaw23_GrammarGroups.l0 k x0 bt310.1 bt314.1 bt314.2 0 0 0))))
def capnplaw23_GrammarGroups.l0 : Nat → List Int → List Int → List (S33) → Int → Int → Int → Int → Option (Bool)
 | 0, _, _, _, _, _, _, _ => none
 | k + 1, x0, x3, x5, x6, x7, x8, x9 => if x9 < (x5.length : Int) then (if 0 ≤ x9 then (if ((rd_T33 x5 x9).f1) = x7 then (if ((rd_T33 x5 x9).f2) ≤ x7 then (capnplaw23_GrammarGroups.j2 k x0 x3 x5 x6 x7 x8 x9 true) else (if ((rd_T33 x5 x9).f2) > (x0.length : Int) then (capnplaw23_GrammarGroups.j2 k x0 x3 x5 x6 x7 x8 x9 true) else (if ((rd_T33 x5 x9).f3) = x8 then (if ((rd_T33 x5 x9).f4) < 1 then (capnplaw23_GrammarGroups.j2 k x0 x3 x5 x6 x7 x8 x9 true) else (if (wrap64 (x8 + ((rd_T33 x5 x9).f4))) > (x3.length : Int) then (capnplaw23_GrammarGroups.j2 k x0 x3 x5 x6 x7 x8 x9 true) else (if 0 ≤ x7 then (if x7 < (x0.length : Int) then (capnplaw23_GrammarGroups.j2 k x0 x3 x5 x6 x7 x8 x9 (((rd_T33 x5 x9).f0) != (rd x0 x7))) else (none)) else (none)))) else (capnplaw23_GrammarGroups.j2 k x0 x3 x5 x6 x7 x8 x9 true)))) else (capnplaw23_GrammarGroups.j2 k x0 x3 x5 x6 x7 x8 x9 true)) else (none)) else (if x6 = 0 then (if x7 = (x0.length : Int) then (some (x8 == (x3.length : Int))) else (none)) else (none))
def capnplaw23_GrammarGroups.j2 : Nat → List Int → List Int → List (S33) → Int → Int → Int → Int → Bool → Option (Bool)
 | 0, _, _, _, _, _, _, _, _ => none
 | k + 1, x0, x3, x5, x6, x7, x8, x9, x110 => if x110 = true then (some false) else (if 0 ≤ x9 then (if x9 < (x5.length : Int) then (if 0 ≤ x7 then (if x7 ≤ ((rd_T33 x5 x9).f2) then (if ((rd_T33 x5 x9).f2) ≤ (x0.length : Int) then ((capnpref22_Decodable.f k ((x0.take (((rd_T33 x5 x9).f2) : Int).toNat).drop (x7 : Int).toNat)).bind fun bt328 => (if bt328.2 = true then (some false) else (if 0 ≤ x8 then (if x8 ≤ (wrap64 (x8 + ((rd_T33 x5 x9).f4))) then (if (wrap64 (x8 + ((rd_T33 x5 x9).f4))) ≤ (x3.length : Int) then ((capnpref23_Equal.f k bt328.1 ((x3.take ((wrap64 (x8 + ((rd_T33 x5 x9).f4))) : Int).toNat).drop (x8 : Int).toNat)).bind fun t337 => (if t337 = true then (capnplaw23_GrammarGroups.l0 k x0 x3 x5 x6 ((rd_T33 x5 x9).f2) (wrap64 (x8 + ((rd_T33 x5 x9).f4))) (wrap64 (x9 + 1))) else (some false))) else (none)) else (none)) else (none)))) else (none)) else (none)) else (none)) else (none)) else (none))
end
def capnplaw23_GrammarGroups.f (k : Nat) (l0 : List Int) : Option (Bool) := (capnplaw23_awake.f k).bind fun t308 => (if t308 = true then (capnplaw23_GrammarGroups.j0 k l0 (decide ((l0.length : Int) > 300))) else (capnplaw23_GrammarGroups.j0 k l0 true))
theorem capnplaw23_GrammarGroups.mono_l : ∀ k, (∀ y0 y1, LeO (capnplaw23_GrammarGroups.j0 k y0 y1) (capnplaw23_GrammarGroups.j0 (k + 1) y0 y1)) ∧ (∀ y0 y1 y2 y3 y4 y5 y6, LeO (capnplaw23_GrammarGroups.l0 k y0 y1 y2 y3 y4 y5 y6) (capnplaw23_GrammarGroups.l0 (k + 1) y0 y1 y2 y3 y4 y5 y6)) ∧ (∀ y0 y1 y2 y3 y4 y5 y6 y7, LeO (capnplaw23_GrammarGroups.j2 k y0 y1 y2 y3 y4 y5 y6 y7) (capnplaw23_GrammarGroups.j2 (k + 1) y0 y1 y2 y3 y4 y5 y6 y7))
 | 0 => ⟨fun _ _ r h => by simp [capnplaw23_GrammarGroups.j0] at h, fun _ _ _ _ _ _ _ r h => by simp [capnplaw23_GrammarGroups.l0] at h, fun _ _ _ _ _ _ _ _ r h => by simp [capnplaw23_GrammarGroups.j2] at h⟩
 | k + 1 => by
  obtain ⟨ih0, ih1, ih2⟩ := capnplaw23_GrammarGroups.mono_l k
  refine ⟨?_, ?_, ?_⟩
  ·intro y0 y1
   unfold capnplaw23_GrammarGroups.j0
   repeat' first
   | (with_reducible exact ih0 _ _)
   | (with_reducible exact ih1 _ _ _ _ _ _ _)
   | (with_reducible exact ih2 _ _ _ _ _ _ _ _)
   | (with_reducible exact capnplaw23_awake.mono _)
   | (with_reducible exact capnpref22_Decodable.mono _ _)
   | (with_reducible exact capnpref23_Equal.mono _ _ _)
   | (with_reducible exact grammar_Groups.mono _ _)
   | (with_reducible exact LeO.refl _)
   | (with_reducible exact LeO.none _)
   | (with_reducible refine LeO.ite ?_ ?_)
   | (with_reducible refine LeO.bind ?_ (fun _ => ?_))
   | exact ih0 _ _
   | exact ih1 _ _ _ _ _ _ _
   | exact ih2 _ _ _ _ _ _ _ _
   | exact capnplaw23_awake.mono _
   | exact capnpref22_Decodable.mono _ _
   | exact capnpref23_Equal.mono _ _ _
   | exact grammar_Groups.mono _ _
   | exact LeO.none _
   | refine LeO.ite ?_ ?_
   | refine LeO.bind ?_ (fun _ => ?_)
  ·intro y0 y1 y2 y3 y4 y5 y6
   unfold capnplaw23_GrammarGroups.l0
   repeat' first
   | (with_reducible exact ih0 _ _)
   | (with_reducible exact ih1 _ _ _ _ _ _ _)
   | (with_reducible exact ih2 _ _ _ _ _ _ _ _)
   | (with_reducible exact capnplaw23_awake.mono _)
   | (with_reducible exact capnpref22_Decodable.mono _ _)
   | (with_reducible exact capnpref23_Equal.mono _ _ _)
   | (with_reducible exact grammar_Groups.mono _ _)
   | (with_reducible exact LeO.refl _)
   | (with_reducible exact LeO.none _)
   | (with_reducible refine LeO.ite ?_ ?_)
   | (with_reducible refine LeO.bind ?_ (fun _ => ?_))
   | exact ih0 _ _
   | exact ih1 _ _ _ _ _ _ _
   | exact ih2 _ _ _ _ _ _ _ _
   | exact capnplaw23_awake.mono _
   | exact capnpref22_Decodable.mono _ _
   | exact capnpref23_Equal.mono _ _ _
   | exact grammar_Groups.mono _ _
   | exact LeO.none _
   | refine LeO.ite ?_ ?_
   | refine LeO.bind ?_ (fun _ => ?_)
  ·intro y0 y1 y2 y3 y4 y5 y6 y7
   unfold capnplaw23_GrammarGroups.j2
   repeat' first
   | (with_reducible exact ih0 _ _)
   | (with_reducible exact ih1 _ _ _ _ _ _ _)
   | (with_reducible exact ih2 _ _ _ _ _ _ _ _)
   | (with_reducible exact capnplaw23_awake.mono _)
   | (with_reducible exact capnpref22_Decodable.mono _ _)
   | (with_reducible exact capnpref23_Equal.mono _ _ _)
   | (with_reducible exact grammar_Groups.mono _ _)
   | (with_reducible exact LeO.refl _)
   | (with_reducible exact LeO.none _)
   | (with_reducible refine LeO.ite ?_ ?_)
   | (with_reducible refine LeO.bind ?_ (fun _ => ?_))
   | exact ih0 _ _
   | exact ih1 _ _ _ _ _ _ _
   | exact ih2 _ _ _ _ _ _ _ _
   | exact capnplaw23_awake.mono _
   | exact capnpref22_Decodable.mono _ _
   | exact capnpref23_Equal.mono _ _ _
   | exact grammar_Groups.mono _ _
   | exact LeO.none _
   | refine LeO.ite ?_ ?_
   | refine LeO.bind ?_ (fun _ => ?_)
theorem capnplaw23_GrammarGroups.mono : ∀ a0 k, LeO (capnplaw23_GrammarGroups.f k a0) (capnplaw23_GrammarGroups.f (k + 1) a0) := by
 intro a0 k
 obtain ⟨ih0, ih1, ih2⟩ := capnplaw23_GrammarGroups.mono_l k
 unfold capnplaw23_GrammarGroups.f
 repeat' first
   | (with_reducible exact ih0 _ _)
   | (with_reducible exact ih1 _ _ _ _ _ _ _)
   | (with_reducible exact ih2 _ _ _ _ _ _ _ _)
   | (with_reducible exact capnplaw23_awake.mono _)
   | (with_reducible exact capnpref22_Decodable.mono _ _)
   | (with_reducible exact capnpref23_Equal.mono _ _ _)
   | (with_reducible exact grammar_Groups.mono _ _)
   | (with_reducible exact LeO.refl _)
   | (with_reducible exact LeO.none _)
   | (with_reducible refine LeO.ite ?_ ?_)
   | (with_reducible refine LeO.bind ?_ (fun _ => ?_))
   | exact ih0 _ _
   | exact ih1 _ _ _ _ _ _ _
   | exact ih2 _ _ _ _ _ _ _ _
   | exact capnplaw23_awake.mono _
   | exact capnpref22_Decodable.mono _ _
   | exact capnpref23_Equal.mono _ _ _
   | exact grammar_Groups.mono _ _
   | exact LeO.none _
   | refine LeO.ite ?_ ?_
   | refine LeO.bind ?_ (fun _ => ?_)
set_option maxHeartbeats 8000000 in
set_option maxRecDepth 100000 in
theorem capnplaw23_GrammarGroups.calls (k : Nat) (A0 : Option Addr) (c0 : Nat) (l0 : List Int) (r : Bool) (w : World) (hr0 : Kd.C (Kd.int .u8) w A0 l0.length l0) (hc0 : l0.length ≤ c0) (h : capnplaw23_GrammarGroups.f k l0 = some r) {aL aT : Addr} (hL : Go.Proofs.YtnchacmhjbkmhaaDoor.Un.LaidU w aL aT) :
  Calls Tryd.prog 5 #[.slice A0 l0.length c0] w fun e w' => e = .returned (.bool r) ∧ Below w.heap.size w w' := by
 have HL := Aside0.mk hL
 clear hL
 have HR0 := Aside0.mk hr0
 have HC0 := Aside0.mk hc0
 clear hr0 hc0
 have HB := Aside0.mk (Below.refl w.heap.size w)
 have H : ((capnplaw23_awake.f k).bind fun t308 => (if t308 = true then (capnplaw23_GrammarGroups.j0 k l0 (decide ((l0.length : Int) > 300))) else (capnplaw23_GrammarGroups.j0 k l0 true))) = some r := h
 clear h
 have HC2 := Aside0.mk H
 clear H
 go_enter Tryd.func5, Tryd.ntmps5
 try simp only [List.append_eq, List.cons_append, List.nil_append]
 go_upto_region 1 with (fail)
 repeat (go_quiet (fail); go_upto_region 1 with (fail))
 go_cut [18] (fun v18 wc => ∃ (kq : Nat) (x18_1 : Bool), v18 = .bool x18_1 ∧ Aside0 (capnplaw23_GrammarGroups.j0 kq l0 x18_1 = some r) ∧ Aside0 (kq ≤ k) ∧ Aside0 (Below w.heap.size w wc))
 case first =>
  have H := HC2.out
  clear HC2
  replace H := Option.bind_eq_some_iff.mp H
  obtain ⟨t308, A30, H⟩ := H
  replace H : (if t308 = true then (capnplaw23_GrammarGroups.j0 k l0 (decide ((l0.length : Int) > 300))) else (capnplaw23_GrammarGroups.j0 k l0 true)) = some r := H
  have A3 := Aside0.mk A30
  clear A30
  by_cases c4 : t308 = true
  ·subst c4
   have H1 : (capnplaw23_GrammarGroups.j0 k l0 (decide ((l0.length : Int) > 300))) = some r := by rw [if_pos rfl] at H; exact H
   clear H
   have H := H1
   clear H1
   have H' := Aside0.mk H
   clear H
   go_wp2_with (first | (go_at_call 9; (with_reducible refine (capnplaw23_awake.calls k  true _ A3.out (Go.Proofs.YtnchacmhjbkmhaaDoor.Un.LaidU.below HL.out (by repeat (first | (with_reducible first | exact HB.out | apply below_alloc | apply pw_below_drewN | apply below_drew1) | exact HB.out)))).mono ?_); rintro e w5 ⟨rfl, hb⟩; have n0_ := Aside0.mk (below_step (by repeat (first | (with_reducible first | exact HB.out | apply below_alloc | apply pw_below_drewN | apply below_drew1) | exact HB.out)) hb); clear HB; have HB := n0_; clear n0_; (try clear hb); (try clear hb2); (try clear hk); (try clear hi)))
   repeat (go_quiet (first | (go_at_call 9; (with_reducible refine (capnplaw23_awake.calls k  true _ A3.out (Go.Proofs.YtnchacmhjbkmhaaDoor.Un.LaidU.below HL.out (by repeat (first | (with_reducible first | exact HB.out | apply below_alloc | apply pw_below_drewN | apply below_drew1) | exact HB.out)))).mono ?_); rintro e w5 ⟨rfl, hb⟩; have n0_ := Aside0.mk (below_step (by repeat (first | (with_reducible first | exact HB.out | apply below_alloc | apply pw_below_drewN | apply below_drew1) | exact HB.out)) hb); clear HB; have HB := n0_; clear n0_; (try clear hb); (try clear hb2); (try clear hk); (try clear hi))); try go_wp2_with (first | (go_at_call 9; (with_reducible refine (capnplaw23_awake.calls k  true _ A3.out (Go.Proofs.YtnchacmhjbkmhaaDoor.Un.LaidU.below HL.out (by repeat (first | (with_reducible first | exact HB.out | apply below_alloc | apply pw_below_drewN | apply below_drew1) | exact HB.out)))).mono ?_); rintro e w5 ⟨rfl, hb⟩; have n0_ := Aside0.mk (below_step (by repeat (first | (with_reducible first | exact HB.out | apply below_alloc | apply pw_below_drewN | apply below_drew1) | exact HB.out)) hb); clear HB; have HB := n0_; clear n0_; (try clear hb); (try clear hb2); (try clear hk); (try clear hi))))
   go_meet
   case rel => exact ⟨_, (decide ((l0.length : Int) > 300)), (by first | rfl | (simp; done) | (simp [*]; done)), H', ⟨by first | omega | exact Nat.le_refl _⟩, ⟨by repeat (first | (with_reducible first | exact HB.out | apply below_alloc | apply pw_below_drewN | apply below_drew1) | exact HB.out)⟩⟩
  ·replace c4 := Bool.eq_false_iff.mpr c4
   subst c4
   have H1 : (capnplaw23_GrammarGroups.j0 k l0 true) = some r := by rw [if_neg (show ¬ (false = true) by decide)] at H; exact H
   clear H
   have H := H1
   clear H1
   have H' := Aside0.mk H
   clear H
   go_wp2_with (first | (go_at_call 9; (with_reducible refine (capnplaw23_awake.calls k  false _ A3.out (Go.Proofs.YtnchacmhjbkmhaaDoor.Un.LaidU.below HL.out (by repeat (first | (with_reducible first | exact HB.out | apply below_alloc | apply pw_below_drewN | apply below_drew1) | exact HB.out)))).mono ?_); rintro e w6 ⟨rfl, hb⟩; have n0_ := Aside0.mk (below_step (by repeat (first | (with_reducible first | exact HB.out | apply below_alloc | apply pw_below_drewN | apply below_drew1) | exact HB.out)) hb); clear HB; have HB := n0_; clear n0_; (try clear hb); (try clear hb2); (try clear hk); (try clear hi)))
   repeat (go_quiet (first | (go_at_call 9; (with_reducible refine (capnplaw23_awake.calls k  false _ A3.out (Go.Proofs.YtnchacmhjbkmhaaDoor.Un.LaidU.below HL.out (by repeat (first | (with_reducible first | exact HB.out | apply below_alloc | apply pw_below_drewN | apply below_drew1) | exact HB.out)))).mono ?_); rintro e w6 ⟨rfl, hb⟩; have n0_ := Aside0.mk (below_step (by repeat (first | (with_reducible first | exact HB.out | apply below_alloc | apply pw_below_drewN | apply below_drew1) | exact HB.out)) hb); clear HB; have HB := n0_; clear n0_; (try clear hb); (try clear hb2); (try clear hk); (try clear hi))); try go_wp2_with (first | (go_at_call 9; (with_reducible refine (capnplaw23_awake.calls k  false _ A3.out (Go.Proofs.YtnchacmhjbkmhaaDoor.Un.LaidU.below HL.out (by repeat (first | (with_reducible first | exact HB.out | apply below_alloc | apply pw_below_drewN | apply below_drew1) | exact HB.out)))).mono ?_); rintro e w6 ⟨rfl, hb⟩; have n0_ := Aside0.mk (below_step (by repeat (first | (with_reducible first | exact HB.out | apply below_alloc | apply pw_below_drewN | apply below_drew1) | exact HB.out)) hb); clear HB; have HB := n0_; clear n0_; (try clear hb); (try clear hb2); (try clear hk); (try clear hi))))
   go_meet
   case rel => exact ⟨_, (true), (by first | rfl | (simp; done) | (simp [*]; done)), H', ⟨by first | omega | exact Nat.le_refl _⟩, ⟨by repeat (first | (with_reducible first | exact HB.out | apply below_alloc | apply pw_below_drewN | apply below_drew1) | exact HB.out)⟩⟩
 case rest =>
  clear HC2
  try clear p2
  try clear c4
  try clear c5
  obtain ⟨kq, x18_1, rfl, HA, HJ1, HB⟩ := hcut
  cases kq with
  | zero => exact absurd HA.out (by simp [capnplaw23_GrammarGroups.j0])
  | succ kj1 =>
   have H := HA.out
   clear HA
   simp only [capnplaw23_GrammarGroups.j0] at H
   by_cases c7 : x18_1 = true
   ·subst c7
    have H1 : ((capnplaw23_awake.f kj1).bind fun t309 => (some t309)) = some r := by rw [if_pos rfl] at H; exact H
    clear H
    have H := H1
    clear H1
    replace H := Option.bind_eq_some_iff.mp H
    obtain ⟨t309, A80, H⟩ := H
    replace H : (some t309) = some r := H
    have A8 := Aside0.mk A80
    clear A80
    obtain rfl := Option.some.inj H
    go_wp2_with (first | (go_at_call 9; (with_reducible refine (capnplaw23_awake.calls kj1  t309 _ A8.out (Go.Proofs.YtnchacmhjbkmhaaDoor.Un.LaidU.below HL.out (by repeat (first | (with_reducible first | exact HB.out | apply below_alloc | apply pw_below_drewN | apply below_drew1) | exact HB.out)))).mono ?_); rintro e w9 ⟨rfl, hb⟩; have n0_ := Aside0.mk (below_step (by repeat (first | (with_reducible first | exact HB.out | apply below_alloc | apply pw_below_drewN | apply below_drew1) | exact HB.out)) hb); clear HB; have HB := n0_; clear n0_; (try clear hb); (try clear hb2); (try clear hk); (try clear hi)))
    repeat (go_quiet (first | (go_at_call 9; (with_reducible refine (capnplaw23_awake.calls kj1  t309 _ A8.out (Go.Proofs.YtnchacmhjbkmhaaDoor.Un.LaidU.below HL.out (by repeat (first | (with_reducible first | exact HB.out | apply below_alloc | apply pw_below_drewN | apply below_drew1) | exact HB.out)))).mono ?_); rintro e w9 ⟨rfl, hb⟩; have n0_ := Aside0.mk (below_step (by repeat (first | (with_reducible first | exact HB.out | apply below_alloc | apply pw_below_drewN | apply below_drew1) | exact HB.out)) hb); clear HB; have HB := n0_; clear n0_; (try clear hb); (try clear hb2); (try clear hk); (try clear hi))); try go_wp2_with (first | (go_at_call 9; (with_reducible refine (capnplaw23_awake.calls kj1  t309 _ A8.out (Go.Proofs.YtnchacmhjbkmhaaDoor.Un.LaidU.below HL.out (by repeat (first | (with_reducible first | exact HB.out | apply below_alloc | apply pw_below_drewN | apply below_drew1) | exact HB.out)))).mono ?_); rintro e w9 ⟨rfl, hb⟩; have n0_ := Aside0.mk (below_step (by repeat (first | (with_reducible first | exact HB.out | apply below_alloc | apply pw_below_drewN | apply below_drew1) | exact HB.out)) hb); clear HB; have HB := n0_; clear n0_; (try clear hb); (try clear hb2); (try clear hk); (try clear hi))))
    go_ret
    exact ⟨by first | rfl | (simp [errW_none, errW_some] <;> rfl) | (simp [*, errW_none, errW_some] <;> rfl), by repeat (first | (with_reducible first | exact HB.out | apply below_alloc | apply pw_below_drewN | apply below_drew1) | exact HB.out)⟩
   ·replace c7 := Bool.eq_false_iff.mpr c7
    subst c7
    have H1 : ((capnpref22_Decodable.f kj1 l0).bind fun bt310 => ((grammar_Groups.f kj1 l0).bind fun bt314 => (if bt310.2 = true then (if bt314.2 = 10 then (some ((bt314.1.length : Int) == 0)) else (none)) else (capnplaw23_GrammarGroups.l0 kj1 l0 bt310.1 bt314.1 bt314.2 0 0 0)))) = some r := by rw [if_neg (show ¬ (false = true) by decide)] at H; exact H
    clear H
    have H := H1
    clear H1
    replace H := Option.bind_eq_some_iff.mp H
    obtain ⟨⟨t310, t311⟩, A100, H⟩ := H
    replace H : ((grammar_Groups.f kj1 l0).bind fun bt314 => (if t311 = true then (if bt314.2 = 10 then (some ((bt314.1.length : Int) == 0)) else (none)) else (capnplaw23_GrammarGroups.l0 kj1 l0 t310 bt314.1 bt314.2 0 0 0))) = some r := H
    have A10 := Aside0.mk A100
    clear A100
    replace H := Option.bind_eq_some_iff.mp H
    obtain ⟨⟨t314, t315⟩, A110, H⟩ := H
    replace H : (if t311 = true then (if t315 = 10 then (some ((t314.length : Int) == 0)) else (none)) else (capnplaw23_GrammarGroups.l0 kj1 l0 t310 t314 t315 0 0 0)) = some r := H
    have A11 := Aside0.mk A110
    clear A110
    by_cases c12 : t311 = true
    ·subst c12
     have H1 : (if t315 = 10 then (some ((t314.length : Int) == 0)) else (none)) = some r := by rw [if_pos rfl] at H; exact H
     clear H
     have H := H1
     clear H1
     by_cases c13 : t315 = 10
     ·rw [if_pos c13] at H
      have c13b0 : (t315 == 10) = true := beq_iff_eq.mpr c13
      have c13b1 : (t315 != 10) = false := bne_eq_false_iff_eq.mpr c13
      clear c13
      obtain rfl := Option.some.inj H
      go_wp2_with (first | (go_at_call 22; (with_reducible refine (capnpref22_Decodable.calls kj1 _ _ l0 t310 true _ ?side1 ?side2 A10.out).mono ?_); (case side1 => repeat (first | exact (Kd.C_below HR0.out HB.out) | (with_reducible refine Kd.C_alloc ?_ _) | (with_reducible refine Kd.C_drewN ?_ _) | (with_reducible refine Kd.C_drew ?_))); (case side2 => exact HC0.out); rintro e w14 ⟨v312, rfl, ho0, hb⟩; have n0_ := Aside0.mk (Kd.R_lower ho0 (below_size (by repeat (first | (with_reducible first | exact HB.out | apply below_alloc | apply pw_below_drewN | apply below_drew1) | exact HB.out)))); have n1_ := Aside0.mk (below_step (by repeat (first | (with_reducible first | exact HB.out | apply below_alloc | apply pw_below_drewN | apply below_drew1) | exact HB.out)) hb); clear HB; have HO313 := n0_; have HB := n1_; clear n0_ n1_; (try clear hb); (try clear hb2); (try clear hk); (try clear hi); (try clear ho0)) | (go_at_call 10; (with_reducible refine (grammar_Groups.calls kj1 _ _ l0 t314 t315 _ ?side1 ?side2 A11.out).mono ?_); (case side1 => repeat (first | exact (Kd.C_below HR0.out HB.out) | (with_reducible refine Kd.C_alloc ?_ _) | (with_reducible refine Kd.C_drewN ?_ _) | (with_reducible refine Kd.C_drew ?_))); (case side2 => exact HC0.out); rintro e w15 ⟨v316, rfl, ho0, hb⟩; have n0_ := Aside0.mk (Kd.R_below (by (with_reducible repeat (first | apply Kd.R_alloc | apply Kd.R_drewN | apply Kd.R_drew)); exact HO313.out) hb); have n1_ := Aside0.mk (Kd.R_lower ho0 (below_size (by repeat (first | (with_reducible first | exact HB.out | apply below_alloc | apply pw_below_drewN | apply below_drew1) | exact HB.out)))); have n2_ := Aside0.mk (below_step (by repeat (first | (with_reducible first | exact HB.out | apply below_alloc | apply pw_below_drewN | apply below_drew1) | exact HB.out)) hb); clear HO313; clear HB; have HO313 := n0_; have HO317 := n1_; have HB := n2_; clear n0_ n1_ n2_; (try clear hb); (try clear hb2); (try clear hk); (try clear hi); (try clear ho0); obtain ⟨Ao16, co16, eo16⟩ := Kd.R_slice HO317.out; subst eo16))
      repeat (go_quiet (first | (go_at_call 22; (with_reducible refine (capnpref22_Decodable.calls kj1 _ _ l0 t310 true _ ?side1 ?side2 A10.out).mono ?_); (case side1 => repeat (first | exact (Kd.C_below HR0.out HB.out) | (with_reducible refine Kd.C_alloc ?_ _) | (with_reducible refine Kd.C_drewN ?_ _) | (with_reducible refine Kd.C_drew ?_))); (case side2 => exact HC0.out); rintro e w14 ⟨v312, rfl, ho0, hb⟩; have n0_ := Aside0.mk (Kd.R_lower ho0 (below_size (by repeat (first | (with_reducible first | exact HB.out | apply below_alloc | apply pw_below_drewN | apply below_drew1) | exact HB.out)))); have n1_ := Aside0.mk (below_step (by repeat (first | (with_reducible first | exact HB.out | apply below_alloc | apply pw_below_drewN | apply below_drew1) | exact HB.out)) hb); clear HB; have HO313 := n0_; have HB := n1_; clear n0_ n1_; (try clear hb); (try clear hb2); (try clear hk); (try clear hi); (try clear ho0)) | (go_at_call 10; (with_reducible refine (grammar_Groups.calls kj1 _ _ l0 t314 t315 _ ?side1 ?side2 A11.out).mono ?_); (case side1 => repeat (first | exact (Kd.C_below HR0.out HB.out) | (with_reducible refine Kd.C_alloc ?_ _) | (with_reducible refine Kd.C_drewN ?_ _) | (with_reducible refine Kd.C_drew ?_))); (case side2 => exact HC0.out); rintro e w15 ⟨v316, rfl, ho0, hb⟩; have n0_ := Aside0.mk (Kd.R_below (by (with_reducible repeat (first | apply Kd.R_alloc | apply Kd.R_drewN | apply Kd.R_drew)); exact HO313.out) hb); have n1_ := Aside0.mk (Kd.R_lower ho0 (below_size (by repeat (first | (with_reducible first | exact HB.out | apply below_alloc | apply pw_below_drewN | apply below_drew1) | exact HB.out)))); have n2_ := Aside0.mk (below_step (by repeat (first | (with_reducible first | exact HB.out | apply below_alloc | apply pw_below_drewN | apply below_drew1) | exact HB.out)) hb); clear HO313; clear HB; have HO313 := n0_; have HO317 := n1_; have HB := n2_; clear n0_ n1_ n2_; (try clear hb); (try clear hb2); (try clear hk); (try clear hi); (try clear ho0); obtain ⟨Ao16, co16, eo16⟩ := Kd.R_slice HO317.out; subst eo16)); try go_wp2_with (first | (go_at_call 22; (with_reducible refine (capnpref22_Decodable.calls kj1 _ _ l0 t310 true _ ?side1 ?side2 A10.out).mono ?_); (case side1 => repeat (first | exact (Kd.C_below HR0.out HB.out) | (with_reducible refine Kd.C_alloc ?_ _) | (with_reducible refine Kd.C_drewN ?_ _) | (with_reducible refine Kd.C_drew ?_))); (case side2 => exact HC0.out); rintro e w14 ⟨v312, rfl, ho0, hb⟩; have n0_ := Aside0.mk (Kd.R_lower ho0 (below_size (by repeat (first | (with_reducible first | exact HB.out | apply below_alloc | apply pw_below_drewN | apply below_drew1) | exact HB.out)))); have n1_ := Aside0.mk (below_step (by repeat (first | (with_reducible first | exact HB.out | apply below_alloc | apply pw_below_drewN | apply below_drew1) | exact HB.out)) hb); clear HB; have HO313 := n0_; have HB := n1_; clear n0_ n1_; (try clear hb); (try clear hb2); (try clear hk); (try clear hi); (try clear ho0)) | (go_at_call 10; (with_reducible refine (grammar_Groups.calls kj1 _ _ l0 t314 t315 _ ?side1 ?side2 A11.out).mono ?_); (case side1 => repeat (first | exact (Kd.C_below HR0.out HB.out) | (with_reducible refine Kd.C_alloc ?_ _) | (with_reducible refine Kd.C_drewN ?_ _) | (with_reducible refine Kd.C_drew ?_))); (case side2 => exact HC0.out); rintro e w15 ⟨v316, rfl, ho0, hb⟩; have n0_ := Aside0.mk (Kd.R_below (by (with_reducible repeat (first | apply Kd.R_alloc | apply Kd.R_drewN | apply Kd.R_drew)); exact HO313.out) hb); have n1_ := Aside0.mk (Kd.R_lower ho0 (below_size (by repeat (first | (with_reducible first | exact HB.out | apply below_alloc | apply pw_below_drewN | apply below_drew1) | exact HB.out)))); have n2_ := Aside0.mk (below_step (by repeat (first | (with_reducible first | exact HB.out | apply below_alloc | apply pw_below_drewN | apply below_drew1) | exact HB.out)) hb); clear HO313; clear HB; have HO313 := n0_; have HO317 := n1_; have HB := n2_; clear n0_ n1_ n2_; (try clear hb); (try clear hb2); (try clear hk); (try clear hi); (try clear ho0); obtain ⟨Ao16, co16, eo16⟩ := Kd.R_slice HO317.out; subst eo16)))
      go_ret
      exact ⟨by first | rfl | (simp [errW_none, errW_some] <;> rfl) | (simp [*, errW_none, errW_some] <;> rfl), by repeat (first | (with_reducible first | exact HB.out | apply below_alloc | apply pw_below_drewN | apply below_drew1) | exact HB.out)⟩
     ·rw [if_neg c13] at H
      exact absurd H (by simp)
    ·replace c12 := Bool.eq_false_iff.mpr c12
     subst c12
     have H1 : (capnplaw23_GrammarGroups.l0 kj1 l0 t310 t314 t315 0 0 0) = some r := by rw [if_neg (show ¬ (false = true) by decide)] at H; exact H
     clear H
     have H := H1
     clear H1
     have H' := Aside0.mk H
     clear H
     go_wp2_with (first | (go_at_call 22; (with_reducible refine (capnpref22_Decodable.calls kj1 _ _ l0 t310 false _ ?side1 ?side2 A10.out).mono ?_); (case side1 => repeat (first | exact (Kd.C_below HR0.out HB.out) | (with_reducible refine Kd.C_alloc ?_ _) | (with_reducible refine Kd.C_drewN ?_ _) | (with_reducible refine Kd.C_drew ?_))); (case side2 => exact HC0.out); rintro e w17 ⟨v312, rfl, ho0, hb⟩; have n0_ := Aside0.mk (Kd.R_lower ho0 (below_size (by repeat (first | (with_reducible first | exact HB.out | apply below_alloc | apply pw_below_drewN | apply below_drew1) | exact HB.out)))); have n1_ := Aside0.mk (below_step (by repeat (first | (with_reducible first | exact HB.out | apply below_alloc | apply pw_below_drewN | apply below_drew1) | exact HB.out)) hb); clear HB; have HO313 := n0_; have HB := n1_; clear n0_ n1_; (try clear hb); (try clear hb2); (try clear hk); (try clear hi); (try clear ho0)) | (go_at_call 10; (with_reducible refine (grammar_Groups.calls kj1 _ _ l0 t314 t315 _ ?side1 ?side2 A11.out).mono ?_); (case side1 => repeat (first | exact (Kd.C_below HR0.out HB.out) | (with_reducible refine Kd.C_alloc ?_ _) | (with_reducible refine Kd.C_drewN ?_ _) | (with_reducible refine Kd.C_drew ?_))); (case side2 => exact HC0.out); rintro e w18 ⟨v316, rfl, ho0, hb⟩; have n0_ := Aside0.mk (Kd.R_below (by (with_reducible repeat (first | apply Kd.R_alloc | apply Kd.R_drewN | apply Kd.R_drew)); exact HO313.out) hb); have n1_ := Aside0.mk (Kd.R_lower ho0 (below_size (by repeat (first | (with_reducible first | exact HB.out | apply below_alloc | apply pw_below_drewN | apply below_drew1) | exact HB.out)))); have n2_ := Aside0.mk (below_step (by repeat (first | (with_reducible first | exact HB.out | apply below_alloc | apply pw_below_drewN | apply below_drew1) | exact HB.out)) hb); clear HO313; clear HB; have HO313 := n0_; have HO317 := n1_; have HB := n2_; clear n0_ n1_ n2_; (try clear hb); (try clear hb2); (try clear hk); (try clear hi); (try clear ho0)))
     repeat (go_quiet (first | (go_at_call 22; (with_reducible refine (capnpref22_Decodable.calls kj1 _ _ l0 t310 false _ ?side1 ?side2 A10.out).mono ?_); (case side1 => repeat (first | exact (Kd.C_below HR0.out HB.out) | (with_reducible refine Kd.C_alloc ?_ _) | (with_reducible refine Kd.C_drewN ?_ _) | (with_reducible refine Kd.C_drew ?_))); (case side2 => exact HC0.out); rintro e w17 ⟨v312, rfl, ho0, hb⟩; have n0_ := Aside0.mk (Kd.R_lower ho0 (below_size (by repeat (first | (with_reducible first | exact HB.out | apply below_alloc | apply pw_below_drewN | apply below_drew1) | exact HB.out)))); have n1_ := Aside0.mk (below_step (by repeat (first | (with_reducible first | exact HB.out | apply below_alloc | apply pw_below_drewN | apply below_drew1) | exact HB.out)) hb); clear HB; have HO313 := n0_; have HB := n1_; clear n0_ n1_; (try clear hb); (try clear hb2); (try clear hk); (try clear hi); (try clear ho0)) | (go_at_call 10; (with_reducible refine (grammar_Groups.calls kj1 _ _ l0 t314 t315 _ ?side1 ?side2 A11.out).mono ?_); (case side1 => repeat (first | exact (Kd.C_below HR0.out HB.out) | (with_reducible refine Kd.C_alloc ?_ _) | (with_reducible refine Kd.C_drewN ?_ _) | (with_reducible refine Kd.C_drew ?_))); (case side2 => exact HC0.out); rintro e w18 ⟨v316, rfl, ho0, hb⟩; have n0_ := Aside0.mk (Kd.R_below (by (with_reducible repeat (first | apply Kd.R_alloc | apply Kd.R_drewN | apply Kd.R_drew)); exact HO313.out) hb); have n1_ := Aside0.mk (Kd.R_lower ho0 (below_size (by repeat (first | (with_reducible first | exact HB.out | apply below_alloc | apply pw_below_drewN | apply below_drew1) | exact HB.out)))); have n2_ := Aside0.mk (below_step (by repeat (first | (with_reducible first | exact HB.out | apply below_alloc | apply pw_below_drewN | apply below_drew1) | exact HB.out)) hb); clear HO313; clear HB; have HO313 := n0_; have HO317 := n1_; have HB := n2_; clear n0_ n1_ n2_; (try clear hb); (try clear hb2); (try clear hk); (try clear hi); (try clear ho0))); try go_wp2_with (first | (go_at_call 22; (with_reducible refine (capnpref22_Decodable.calls kj1 _ _ l0 t310 false _ ?side1 ?side2 A10.out).mono ?_); (case side1 => repeat (first | exact (Kd.C_below HR0.out HB.out) | (with_reducible refine Kd.C_alloc ?_ _) | (with_reducible refine Kd.C_drewN ?_ _) | (with_reducible refine Kd.C_drew ?_))); (case side2 => exact HC0.out); rintro e w17 ⟨v312, rfl, ho0, hb⟩; have n0_ := Aside0.mk (Kd.R_lower ho0 (below_size (by repeat (first | (with_reducible first | exact HB.out | apply below_alloc | apply pw_below_drewN | apply below_drew1) | exact HB.out)))); have n1_ := Aside0.mk (below_step (by repeat (first | (with_reducible first | exact HB.out | apply below_alloc | apply pw_below_drewN | apply below_drew1) | exact HB.out)) hb); clear HB; have HO313 := n0_; have HB := n1_; clear n0_ n1_; (try clear hb); (try clear hb2); (try clear hk); (try clear hi); (try clear ho0)) | (go_at_call 10; (with_reducible refine (grammar_Groups.calls kj1 _ _ l0 t314 t315 _ ?side1 ?side2 A11.out).mono ?_); (case side1 => repeat (first | exact (Kd.C_below HR0.out HB.out) | (with_reducible refine Kd.C_alloc ?_ _) | (with_reducible refine Kd.C_drewN ?_ _) | (with_reducible refine Kd.C_drew ?_))); (case side2 => exact HC0.out); rintro e w18 ⟨v316, rfl, ho0, hb⟩; have n0_ := Aside0.mk (Kd.R_below (by (with_reducible repeat (first | apply Kd.R_alloc | apply Kd.R_drewN | apply Kd.R_drew)); exact HO313.out) hb); have n1_ := Aside0.mk (Kd.R_lower ho0 (below_size (by repeat (first | (with_reducible first | exact HB.out | apply below_alloc | apply pw_below_drewN | apply below_drew1) | exact HB.out)))); have n2_ := Aside0.mk (below_step (by repeat (first | (with_reducible first | exact HB.out | apply below_alloc | apply pw_below_drewN | apply below_drew1) | exact HB.out)) hb); clear HO313; clear HB; have HO313 := n0_; have HO317 := n1_; have HB := n2_; clear n0_ n1_ n2_; (try clear hb); (try clear hb2); (try clear hk); (try clear hi); (try clear ho0))))
     go_loopg [7, 8, 9] kj1 (fun kq v7 v8 v9 w' => ∃ (x7_2 : Int) (x8_2 : Int) (x9_2 : Int), v7 = .int .i64 x7_2 ∧ v8 = .int .i64 x8_2 ∧ v9 = .int .i64 x9_2 ∧ Aside0 (capnplaw23_GrammarGroups.l0 kq l0 t310 t314 t315 x7_2 x8_2 x9_2 = some r) ∧ Aside0 (kq ≤ kj1) ∧ Aside0 (Kd.R (Kd.int .u64) 37 w' w.heap.size (fun _ => True) v312 t310) ∧ Aside0 (Kd.R k33 33 w' w.heap.size (fun _ => True) v316 t314) ∧ Aside0 (Below w.heap.size w w'))
     case atStart => exact ⟨(0), (0), (0), (by first | rfl | (simp; done) | (simp [*]; done)), (by first | rfl | (simp; done) | (simp [*]; done)), (by first | rfl | (simp; done) | (simp [*]; done)), H', ⟨Nat.le_refl _⟩, ⟨by (with_reducible repeat (first | apply Kd.R_alloc | apply Kd.R_drewN | apply Kd.R_drew)); exact HO313.out⟩, ⟨by (with_reducible repeat (first | apply Kd.R_alloc | apply Kd.R_drewN | apply Kd.R_drew)); exact HO317.out⟩, ⟨by repeat (first | (with_reducible first | exact HB.out | apply below_alloc | apply pw_below_drewN | apply below_drew1) | exact HB.out)⟩⟩
     case round =>
      clear H'
      try clear c1
      try clear p2
      try clear c4
      try clear c5
      try clear c7
      try clear c12
      try clear c13
      try clear c13b0
      try clear c13b1
      try clear p2
      obtain ⟨x7_2, x8_2, x9_2, rfl, rfl, rfl, HA, HK2, HO_3, HO_5, HB⟩ := hrel
      cases gk with
      | zero => exact absurd HA.out (by simp [capnplaw23_GrammarGroups.l0])
      | succ k2 =>
       have H := HA.out
       clear HA
       simp only [capnplaw23_GrammarGroups.l0] at H
       by_cases c19 : x9_2 < (t314.length : Int)
       ·rw [if_pos c19] at H
        have c19b0 : decide (x9_2 < (t314.length : Int)) = true := decide_eq_true c19
        clear c19
        have HC20 := Aside0.mk H
        clear H
        obtain ⟨Ao21, co21, eo21⟩ := Kd.R_slice HO_5.out
        subst eo21
        go_upto_region 12 with (fail)
        repeat (go_quiet (fail); go_upto_region 12 with (fail))
        go_cut [110] (fun v110 wc => ∃ (kq : Nat) (x110_19 : Bool), v110 = .bool x110_19 ∧ Aside0 (capnplaw23_GrammarGroups.j2 kq l0 t310 t314 t315 x7_2 x8_2 x9_2 x110_19 = some r) ∧ Aside0 (kq ≤ k2) ∧ Aside0 (Kd.R (Kd.int .u64) 37 wc w.heap.size (fun _ => True) v312 t310) ∧ Aside0 (Kd.R k33 33 wc w.heap.size (fun _ => True) (.slice Ao21 t314.length co21) t314) ∧ Aside0 (Below w.heap.size w wc))
        case first =>
         have H := HC20.out
         clear HC20
         by_cases c22 : 0 ≤ x9_2
         ·rw [if_pos c22] at H
          have c22b0 : decide (0 ≤ x9_2) = true := decide_eq_true c22
          clear c22
          (first | rw [c22b0] | (simp only [i64_w, i32_w]; rw [c22b0]) | skip)
          by_cases c23 : ((rd_T33 t314 x9_2).f1) = x7_2
          ·rw [if_pos c23] at H
           have c23b0 : (((rd_T33 t314 x9_2).f1) == x7_2) = true := beq_iff_eq.mpr c23
           have c23b1 : (((rd_T33 t314 x9_2).f1) != x7_2) = false := bne_eq_false_iff_eq.mpr c23
           clear c23
           by_cases c24 : ((rd_T33 t314 x9_2).f2) ≤ x7_2
           ·rw [if_pos c24] at H
            have c24b0 : decide (((rd_T33 t314 x9_2).f2) ≤ x7_2) = true := decide_eq_true c24
            clear c24
            have H' := Aside0.mk H
            clear H
            have p318 : 0 ≤ (x9_2 : Int) := of_decide_eq_true (by first | (with_reducible assumption) | assumption)
            have q318 : x9_2 < (t314.length : Int) := of_decide_eq_true (by first | (with_reducible assumption) | assumption)
            obtain ⟨ad318, e318, hx318_0, hx318_1, hx318_2, hx318_3, hx318_4⟩ := at_T33 (Kd.R_reads' HO_5.out).2.2 x9_2 p318 q318
            cases e318
            replace p318 := eq_true p318
            replace q318 := eq_true q318
            have p319 : 0 ≤ (x9_2 : Int) := of_decide_eq_true (by first | (with_reducible assumption) | assumption)
            have q319 : x9_2 < (t314.length : Int) := of_decide_eq_true (by first | (with_reducible assumption) | assumption)
            obtain ⟨ad319, e319, hx319_0, hx319_1, hx319_2, hx319_3, hx319_4⟩ := at_T33 (Kd.R_reads' HO_5.out).2.2 x9_2 p319 q319
            obtain rfl : ad318 = ad319 := (by injection e319)
            replace p319 := eq_true p319
            replace q319 := eq_true q319
            go_wp2
            repeat (go_quiet (fail); try go_wp2)
            go_meet
            case rel => exact ⟨_, (true), (by first | rfl | (simp; done) | (simp [*]; done)), H', ⟨by have := HJ1.out; have := HK2.out; first | omega | exact Nat.le_refl _⟩, ⟨by (with_reducible repeat (first | apply Kd.R_alloc | apply Kd.R_drewN | apply Kd.R_drew)); exact HO_3.out⟩, ⟨by (with_reducible repeat (first | apply Kd.R_alloc | apply Kd.R_drewN | apply Kd.R_drew)); exact HO_5.out⟩, ⟨by repeat (first | (with_reducible first | exact HB.out | apply below_alloc | apply pw_below_drewN | apply below_drew1) | exact HB.out)⟩⟩
           ·rw [if_neg c24] at H
            have c24b0 : decide (((rd_T33 t314 x9_2).f2) ≤ x7_2) = false := decide_eq_false c24
            clear c24
            by_cases c25 : ((rd_T33 t314 x9_2).f2) > (l0.length : Int)
            ·rw [if_pos c25] at H
             have c25b0 : decide ((l0.length : Int) < ((rd_T33 t314 x9_2).f2)) = true := decide_eq_true c25
             clear c25
             have H' := Aside0.mk H
             clear H
             have p318 : 0 ≤ (x9_2 : Int) := of_decide_eq_true (by first | (with_reducible assumption) | assumption)
             have q318 : x9_2 < (t314.length : Int) := of_decide_eq_true (by first | (with_reducible assumption) | assumption)
             obtain ⟨ad318, e318, hx318_0, hx318_1, hx318_2, hx318_3, hx318_4⟩ := at_T33 (Kd.R_reads' HO_5.out).2.2 x9_2 p318 q318
             cases e318
             replace p318 := eq_true p318
             replace q318 := eq_true q318
             have p319 : 0 ≤ (x9_2 : Int) := of_decide_eq_true (by first | (with_reducible assumption) | assumption)
             have q319 : x9_2 < (t314.length : Int) := of_decide_eq_true (by first | (with_reducible assumption) | assumption)
             obtain ⟨ad319, e319, hx319_0, hx319_1, hx319_2, hx319_3, hx319_4⟩ := at_T33 (Kd.R_reads' HO_5.out).2.2 x9_2 p319 q319
             obtain rfl : ad318 = ad319 := (by injection e319)
             replace p319 := eq_true p319
             replace q319 := eq_true q319
             have p320 : 0 ≤ (x9_2 : Int) := of_decide_eq_true (by first | (with_reducible assumption) | assumption)
             have q320 : x9_2 < (t314.length : Int) := of_decide_eq_true (by first | (with_reducible assumption) | assumption)
             obtain ⟨ad320, e320, hx320_0, hx320_1, hx320_2, hx320_3, hx320_4⟩ := at_T33 (Kd.R_reads' HO_5.out).2.2 x9_2 p320 q320
             obtain rfl : ad318 = ad320 := (by injection e320)
             replace p320 := eq_true p320
             replace q320 := eq_true q320
             go_wp2
             repeat (go_quiet (fail); try go_wp2)
             go_meet
             case rel => exact ⟨_, (true), (by first | rfl | (simp; done) | (simp [*]; done)), H', ⟨by have := HJ1.out; have := HK2.out; first | omega | exact Nat.le_refl _⟩, ⟨by (with_reducible repeat (first | apply Kd.R_alloc | apply Kd.R_drewN | apply Kd.R_drew)); exact HO_3.out⟩, ⟨by (with_reducible repeat (first | apply Kd.R_alloc | apply Kd.R_drewN | apply Kd.R_drew)); exact HO_5.out⟩, ⟨by repeat (first | (with_reducible first | exact HB.out | apply below_alloc | apply pw_below_drewN | apply below_drew1) | exact HB.out)⟩⟩
            ·rw [if_neg c25] at H
             have c25b0 : decide ((l0.length : Int) < ((rd_T33 t314 x9_2).f2)) = false := decide_eq_false c25
             clear c25
             by_cases c26 : ((rd_T33 t314 x9_2).f3) = x8_2
             ·rw [if_pos c26] at H
              have c26b0 : (((rd_T33 t314 x9_2).f3) == x8_2) = true := beq_iff_eq.mpr c26
              have c26b1 : (((rd_T33 t314 x9_2).f3) != x8_2) = false := bne_eq_false_iff_eq.mpr c26
              clear c26
              by_cases c27 : ((rd_T33 t314 x9_2).f4) < 1
              ·rw [if_pos c27] at H
               have c27b0 : decide (((rd_T33 t314 x9_2).f4) < 1) = true := decide_eq_true c27
               clear c27
               have H' := Aside0.mk H
               clear H
               have p318 : 0 ≤ (x9_2 : Int) := of_decide_eq_true (by first | (with_reducible assumption) | assumption)
               have q318 : x9_2 < (t314.length : Int) := of_decide_eq_true (by first | (with_reducible assumption) | assumption)
               obtain ⟨ad318, e318, hx318_0, hx318_1, hx318_2, hx318_3, hx318_4⟩ := at_T33 (Kd.R_reads' HO_5.out).2.2 x9_2 p318 q318
               cases e318
               replace p318 := eq_true p318
               replace q318 := eq_true q318
               have p319 : 0 ≤ (x9_2 : Int) := of_decide_eq_true (by first | (with_reducible assumption) | assumption)
               have q319 : x9_2 < (t314.length : Int) := of_decide_eq_true (by first | (with_reducible assumption) | assumption)
               obtain ⟨ad319, e319, hx319_0, hx319_1, hx319_2, hx319_3, hx319_4⟩ := at_T33 (Kd.R_reads' HO_5.out).2.2 x9_2 p319 q319
               obtain rfl : ad318 = ad319 := (by injection e319)
               replace p319 := eq_true p319
               replace q319 := eq_true q319
               have p320 : 0 ≤ (x9_2 : Int) := of_decide_eq_true (by first | (with_reducible assumption) | assumption)
               have q320 : x9_2 < (t314.length : Int) := of_decide_eq_true (by first | (with_reducible assumption) | assumption)
               obtain ⟨ad320, e320, hx320_0, hx320_1, hx320_2, hx320_3, hx320_4⟩ := at_T33 (Kd.R_reads' HO_5.out).2.2 x9_2 p320 q320
               obtain rfl : ad318 = ad320 := (by injection e320)
               replace p320 := eq_true p320
               replace q320 := eq_true q320
               have p321 : 0 ≤ (x9_2 : Int) := of_decide_eq_true (by first | (with_reducible assumption) | assumption)
               have q321 : x9_2 < (t314.length : Int) := of_decide_eq_true (by first | (with_reducible assumption) | assumption)
               obtain ⟨ad321, e321, hx321_0, hx321_1, hx321_2, hx321_3, hx321_4⟩ := at_T33 (Kd.R_reads' HO_5.out).2.2 x9_2 p321 q321
               obtain rfl : ad318 = ad321 := (by injection e321)
               replace p321 := eq_true p321
               replace q321 := eq_true q321
               have p322 : 0 ≤ (x9_2 : Int) := of_decide_eq_true (by first | (with_reducible assumption) | assumption)
               have q322 : x9_2 < (t314.length : Int) := of_decide_eq_true (by first | (with_reducible assumption) | assumption)
               obtain ⟨ad322, e322, hx322_0, hx322_1, hx322_2, hx322_3, hx322_4⟩ := at_T33 (Kd.R_reads' HO_5.out).2.2 x9_2 p322 q322
               obtain rfl : ad318 = ad322 := (by injection e322)
               replace p322 := eq_true p322
               replace q322 := eq_true q322
               go_wp2
               repeat (go_quiet (fail); try go_wp2)
               go_meet
               case rel => exact ⟨_, (true), (by first | rfl | (simp; done) | (simp [*]; done)), H', ⟨by have := HJ1.out; have := HK2.out; first | omega | exact Nat.le_refl _⟩, ⟨by (with_reducible repeat (first | apply Kd.R_alloc | apply Kd.R_drewN | apply Kd.R_drew)); exact HO_3.out⟩, ⟨by (with_reducible repeat (first | apply Kd.R_alloc | apply Kd.R_drewN | apply Kd.R_drew)); exact HO_5.out⟩, ⟨by repeat (first | (with_reducible first | exact HB.out | apply below_alloc | apply pw_below_drewN | apply below_drew1) | exact HB.out)⟩⟩
              ·rw [if_neg c27] at H
               have c27b0 : decide (((rd_T33 t314 x9_2).f4) < 1) = false := decide_eq_false c27
               clear c27
               by_cases c28 : (wrap64 (x8_2 + ((rd_T33 t314 x9_2).f4))) > (t310.length : Int)
               ·rw [if_pos c28] at H
                have c28b0 : decide ((t310.length : Int) < (wrap64 (x8_2 + ((rd_T33 t314 x9_2).f4)))) = true := decide_eq_true c28
                clear c28
                have H' := Aside0.mk H
                clear H
                have p318 : 0 ≤ (x9_2 : Int) := of_decide_eq_true (by first | (with_reducible assumption) | assumption)
                have q318 : x9_2 < (t314.length : Int) := of_decide_eq_true (by first | (with_reducible assumption) | assumption)
                obtain ⟨ad318, e318, hx318_0, hx318_1, hx318_2, hx318_3, hx318_4⟩ := at_T33 (Kd.R_reads' HO_5.out).2.2 x9_2 p318 q318
                cases e318
                replace p318 := eq_true p318
                replace q318 := eq_true q318
                have p319 : 0 ≤ (x9_2 : Int) := of_decide_eq_true (by first | (with_reducible assumption) | assumption)
                have q319 : x9_2 < (t314.length : Int) := of_decide_eq_true (by first | (with_reducible assumption) | assumption)
                obtain ⟨ad319, e319, hx319_0, hx319_1, hx319_2, hx319_3, hx319_4⟩ := at_T33 (Kd.R_reads' HO_5.out).2.2 x9_2 p319 q319
                obtain rfl : ad318 = ad319 := (by injection e319)
                replace p319 := eq_true p319
                replace q319 := eq_true q319
                have p320 : 0 ≤ (x9_2 : Int) := of_decide_eq_true (by first | (with_reducible assumption) | assumption)
                have q320 : x9_2 < (t314.length : Int) := of_decide_eq_true (by first | (with_reducible assumption) | assumption)
                obtain ⟨ad320, e320, hx320_0, hx320_1, hx320_2, hx320_3, hx320_4⟩ := at_T33 (Kd.R_reads' HO_5.out).2.2 x9_2 p320 q320
                obtain rfl : ad318 = ad320 := (by injection e320)
                replace p320 := eq_true p320
                replace q320 := eq_true q320
                have p321 : 0 ≤ (x9_2 : Int) := of_decide_eq_true (by first | (with_reducible assumption) | assumption)
                have q321 : x9_2 < (t314.length : Int) := of_decide_eq_true (by first | (with_reducible assumption) | assumption)
                obtain ⟨ad321, e321, hx321_0, hx321_1, hx321_2, hx321_3, hx321_4⟩ := at_T33 (Kd.R_reads' HO_5.out).2.2 x9_2 p321 q321
                obtain rfl : ad318 = ad321 := (by injection e321)
                replace p321 := eq_true p321
                replace q321 := eq_true q321
                have p322 : 0 ≤ (x9_2 : Int) := of_decide_eq_true (by first | (with_reducible assumption) | assumption)
                have q322 : x9_2 < (t314.length : Int) := of_decide_eq_true (by first | (with_reducible assumption) | assumption)
                obtain ⟨ad322, e322, hx322_0, hx322_1, hx322_2, hx322_3, hx322_4⟩ := at_T33 (Kd.R_reads' HO_5.out).2.2 x9_2 p322 q322
                obtain rfl : ad318 = ad322 := (by injection e322)
                replace p322 := eq_true p322
                replace q322 := eq_true q322
                have p323 : 0 ≤ (x9_2 : Int) := of_decide_eq_true (by first | (with_reducible assumption) | assumption)
                have q323 : x9_2 < (t314.length : Int) := of_decide_eq_true (by first | (with_reducible assumption) | assumption)
                obtain ⟨ad323, e323, hx323_0, hx323_1, hx323_2, hx323_3, hx323_4⟩ := at_T33 (Kd.R_reads' HO_5.out).2.2 x9_2 p323 q323
                obtain rfl : ad318 = ad323 := (by injection e323)
                replace p323 := eq_true p323
                replace q323 := eq_true q323
                obtain ⟨Ao29, co29, eo29⟩ := Kd.R_slice HO_3.out
                subst eo29
                go_wp2
                repeat (go_quiet (fail); try go_wp2)
                go_meet
                case rel => exact ⟨_, (true), (by first | rfl | (simp; done) | (simp [*]; done)), H', ⟨by have := HJ1.out; have := HK2.out; first | omega | exact Nat.le_refl _⟩, ⟨by (with_reducible repeat (first | apply Kd.R_alloc | apply Kd.R_drewN | apply Kd.R_drew)); exact HO_3.out⟩, ⟨by (with_reducible repeat (first | apply Kd.R_alloc | apply Kd.R_drewN | apply Kd.R_drew)); exact HO_5.out⟩, ⟨by repeat (first | (with_reducible first | exact HB.out | apply below_alloc | apply pw_below_drewN | apply below_drew1) | exact HB.out)⟩⟩
               ·rw [if_neg c28] at H
                have c28b0 : decide ((t310.length : Int) < (wrap64 (x8_2 + ((rd_T33 t314 x9_2).f4)))) = false := decide_eq_false c28
                clear c28
                by_cases c30 : 0 ≤ x7_2
                ·rw [if_pos c30] at H
                 have c30b0 : decide (0 ≤ x7_2) = true := decide_eq_true c30
                 clear c30
                 by_cases c31 : x7_2 < (l0.length : Int)
                 ·rw [if_pos c31] at H
                  have c31b0 : decide (x7_2 < (l0.length : Int)) = true := decide_eq_true c31
                  clear c31
                  have H' := Aside0.mk H
                  clear H
                  have p318 : 0 ≤ (x9_2 : Int) := of_decide_eq_true (by first | (with_reducible assumption) | assumption)
                  have q318 : x9_2 < (t314.length : Int) := of_decide_eq_true (by first | (with_reducible assumption) | assumption)
                  obtain ⟨ad318, e318, hx318_0, hx318_1, hx318_2, hx318_3, hx318_4⟩ := at_T33 (Kd.R_reads' HO_5.out).2.2 x9_2 p318 q318
                  cases e318
                  replace p318 := eq_true p318
                  replace q318 := eq_true q318
                  have p319 : 0 ≤ (x9_2 : Int) := of_decide_eq_true (by first | (with_reducible assumption) | assumption)
                  have q319 : x9_2 < (t314.length : Int) := of_decide_eq_true (by first | (with_reducible assumption) | assumption)
                  obtain ⟨ad319, e319, hx319_0, hx319_1, hx319_2, hx319_3, hx319_4⟩ := at_T33 (Kd.R_reads' HO_5.out).2.2 x9_2 p319 q319
                  obtain rfl : ad318 = ad319 := (by injection e319)
                  replace p319 := eq_true p319
                  replace q319 := eq_true q319
                  have p320 : 0 ≤ (x9_2 : Int) := of_decide_eq_true (by first | (with_reducible assumption) | assumption)
                  have q320 : x9_2 < (t314.length : Int) := of_decide_eq_true (by first | (with_reducible assumption) | assumption)
                  obtain ⟨ad320, e320, hx320_0, hx320_1, hx320_2, hx320_3, hx320_4⟩ := at_T33 (Kd.R_reads' HO_5.out).2.2 x9_2 p320 q320
                  obtain rfl : ad318 = ad320 := (by injection e320)
                  replace p320 := eq_true p320
                  replace q320 := eq_true q320
                  have p321 : 0 ≤ (x9_2 : Int) := of_decide_eq_true (by first | (with_reducible assumption) | assumption)
                  have q321 : x9_2 < (t314.length : Int) := of_decide_eq_true (by first | (with_reducible assumption) | assumption)
                  obtain ⟨ad321, e321, hx321_0, hx321_1, hx321_2, hx321_3, hx321_4⟩ := at_T33 (Kd.R_reads' HO_5.out).2.2 x9_2 p321 q321
                  obtain rfl : ad318 = ad321 := (by injection e321)
                  replace p321 := eq_true p321
                  replace q321 := eq_true q321
                  have p322 : 0 ≤ (x9_2 : Int) := of_decide_eq_true (by first | (with_reducible assumption) | assumption)
                  have q322 : x9_2 < (t314.length : Int) := of_decide_eq_true (by first | (with_reducible assumption) | assumption)
                  obtain ⟨ad322, e322, hx322_0, hx322_1, hx322_2, hx322_3, hx322_4⟩ := at_T33 (Kd.R_reads' HO_5.out).2.2 x9_2 p322 q322
                  obtain rfl : ad318 = ad322 := (by injection e322)
                  replace p322 := eq_true p322
                  replace q322 := eq_true q322
                  have p323 : 0 ≤ (x9_2 : Int) := of_decide_eq_true (by first | (with_reducible assumption) | assumption)
                  have q323 : x9_2 < (t314.length : Int) := of_decide_eq_true (by first | (with_reducible assumption) | assumption)
                  obtain ⟨ad323, e323, hx323_0, hx323_1, hx323_2, hx323_3, hx323_4⟩ := at_T33 (Kd.R_reads' HO_5.out).2.2 x9_2 p323 q323
                  obtain rfl : ad318 = ad323 := (by injection e323)
                  replace p323 := eq_true p323
                  replace q323 := eq_true q323
                  obtain ⟨Ao32, co32, eo32⟩ := Kd.R_slice HO_3.out
                  subst eo32
                  have p324 : 0 ≤ (x9_2 : Int) := of_decide_eq_true (by first | (with_reducible assumption) | assumption)
                  have q324 : x9_2 < (t314.length : Int) := of_decide_eq_true (by first | (with_reducible assumption) | assumption)
                  obtain ⟨ad324, e324, hx324_0, hx324_1, hx324_2, hx324_3, hx324_4⟩ := at_T33 (Kd.R_reads' HO_5.out).2.2 x9_2 p324 q324
                  obtain rfl : ad318 = ad324 := (by injection e324)
                  replace p324 := eq_true p324
                  replace q324 := eq_true q324
                  have p325 : 0 ≤ (x7_2 : Int) := of_decide_eq_true (by first | (with_reducible assumption) | assumption)
                  have q325 : x7_2 < (l0.length : Int) := of_decide_eq_true (by first | (with_reducible assumption) | assumption)
                  obtain ⟨ad325, e325, hx325_0⟩ := Kd.at_int HR0.out x7_2 p325 q325
                  cases e325
                  replace hx325_0 := (HB.out.cell (World.block_lt_of_cell? w _ hx325_0)).trans hx325_0
                  replace p325 := eq_true p325
                  replace q325 := eq_true q325
                  go_wp2
                  repeat (go_quiet (fail); try go_wp2)
                  go_meet
                  case rel => exact ⟨_, ((((rd_T33 t314 x9_2).f0) != (rd l0 x7_2))), (by first | rfl | (simp; done) | (simp [*]; done)), H', ⟨by have := HJ1.out; have := HK2.out; first | omega | exact Nat.le_refl _⟩, ⟨by (with_reducible repeat (first | apply Kd.R_alloc | apply Kd.R_drewN | apply Kd.R_drew)); exact HO_3.out⟩, ⟨by (with_reducible repeat (first | apply Kd.R_alloc | apply Kd.R_drewN | apply Kd.R_drew)); exact HO_5.out⟩, ⟨by repeat (first | (with_reducible first | exact HB.out | apply below_alloc | apply pw_below_drewN | apply below_drew1) | exact HB.out)⟩⟩
                 ·rw [if_neg c31] at H
                  exact absurd H (by simp)
                ·rw [if_neg c30] at H
                 exact absurd H (by simp)
             ·rw [if_neg c26] at H
              have c26b0 : (((rd_T33 t314 x9_2).f3) == x8_2) = false := beq_eq_false_iff_ne.mpr c26
              have c26b1 : (((rd_T33 t314 x9_2).f3) != x8_2) = true := bne_iff_ne.mpr c26
              have H' := Aside0.mk H
              clear H
              have p318 : 0 ≤ (x9_2 : Int) := of_decide_eq_true (by first | (with_reducible assumption) | assumption)
              have q318 : x9_2 < (t314.length : Int) := of_decide_eq_true (by first | (with_reducible assumption) | assumption)
              obtain ⟨ad318, e318, hx318_0, hx318_1, hx318_2, hx318_3, hx318_4⟩ := at_T33 (Kd.R_reads' HO_5.out).2.2 x9_2 p318 q318
              cases e318
              replace p318 := eq_true p318
              replace q318 := eq_true q318
              have p319 : 0 ≤ (x9_2 : Int) := of_decide_eq_true (by first | (with_reducible assumption) | assumption)
              have q319 : x9_2 < (t314.length : Int) := of_decide_eq_true (by first | (with_reducible assumption) | assumption)
              obtain ⟨ad319, e319, hx319_0, hx319_1, hx319_2, hx319_3, hx319_4⟩ := at_T33 (Kd.R_reads' HO_5.out).2.2 x9_2 p319 q319
              obtain rfl : ad318 = ad319 := (by injection e319)
              replace p319 := eq_true p319
              replace q319 := eq_true q319
              have p320 : 0 ≤ (x9_2 : Int) := of_decide_eq_true (by first | (with_reducible assumption) | assumption)
              have q320 : x9_2 < (t314.length : Int) := of_decide_eq_true (by first | (with_reducible assumption) | assumption)
              obtain ⟨ad320, e320, hx320_0, hx320_1, hx320_2, hx320_3, hx320_4⟩ := at_T33 (Kd.R_reads' HO_5.out).2.2 x9_2 p320 q320
              obtain rfl : ad318 = ad320 := (by injection e320)
              replace p320 := eq_true p320
              replace q320 := eq_true q320
              have p321 : 0 ≤ (x9_2 : Int) := of_decide_eq_true (by first | (with_reducible assumption) | assumption)
              have q321 : x9_2 < (t314.length : Int) := of_decide_eq_true (by first | (with_reducible assumption) | assumption)
              obtain ⟨ad321, e321, hx321_0, hx321_1, hx321_2, hx321_3, hx321_4⟩ := at_T33 (Kd.R_reads' HO_5.out).2.2 x9_2 p321 q321
              obtain rfl : ad318 = ad321 := (by injection e321)
              replace p321 := eq_true p321
              replace q321 := eq_true q321
              go_wp2
              repeat (go_quiet (fail); try go_wp2)
              go_meet
              case rel => exact ⟨_, (true), (by first | rfl | (simp; done) | (simp [*]; done)), H', ⟨by have := HJ1.out; have := HK2.out; first | omega | exact Nat.le_refl _⟩, ⟨by (with_reducible repeat (first | apply Kd.R_alloc | apply Kd.R_drewN | apply Kd.R_drew)); exact HO_3.out⟩, ⟨by (with_reducible repeat (first | apply Kd.R_alloc | apply Kd.R_drewN | apply Kd.R_drew)); exact HO_5.out⟩, ⟨by repeat (first | (with_reducible first | exact HB.out | apply below_alloc | apply pw_below_drewN | apply below_drew1) | exact HB.out)⟩⟩
          ·rw [if_neg c23] at H
           have c23b0 : (((rd_T33 t314 x9_2).f1) == x7_2) = false := beq_eq_false_iff_ne.mpr c23
           have c23b1 : (((rd_T33 t314 x9_2).f1) != x7_2) = true := bne_iff_ne.mpr c23
           have H' := Aside0.mk H
           clear H
           have p318 : 0 ≤ (x9_2 : Int) := of_decide_eq_true (by first | (with_reducible assumption) | assumption)
           have q318 : x9_2 < (t314.length : Int) := of_decide_eq_true (by first | (with_reducible assumption) | assumption)
           obtain ⟨ad318, e318, hx318_0, hx318_1, hx318_2, hx318_3, hx318_4⟩ := at_T33 (Kd.R_reads' HO_5.out).2.2 x9_2 p318 q318
           cases e318
           replace p318 := eq_true p318
           replace q318 := eq_true q318
           go_wp2
           repeat (go_quiet (fail); try go_wp2)
           go_meet
           case rel => exact ⟨_, (true), (by first | rfl | (simp; done) | (simp [*]; done)), H', ⟨by have := HJ1.out; have := HK2.out; first | omega | exact Nat.le_refl _⟩, ⟨by (with_reducible repeat (first | apply Kd.R_alloc | apply Kd.R_drewN | apply Kd.R_drew)); exact HO_3.out⟩, ⟨by (with_reducible repeat (first | apply Kd.R_alloc | apply Kd.R_drewN | apply Kd.R_drew)); exact HO_5.out⟩, ⟨by repeat (first | (with_reducible first | exact HB.out | apply below_alloc | apply pw_below_drewN | apply below_drew1) | exact HB.out)⟩⟩
         ·rw [if_neg c22] at H
          exact absurd H (by simp)
        case rest =>
         clear HC20
         try clear c1
         try clear c2
         try clear p2
         try clear c3
         try clear p3
         try clear q3
         try clear hx3
         try clear c4
         try clear c5
         try clear p6
         try clear c7
         try clear c12
         try clear c13
         try clear c13b0
         try clear c13b1
         try clear c19
         try clear c19b0
         try clear c22
         try clear c22b0
         try clear c23
         try clear c23b0
         try clear c23b1
         try clear c24
         try clear c24b0
         try clear c25
         try clear c25b0
         try clear c26
         try clear c26b0
         try clear c26b1
         try clear c27
         try clear c27b0
         try clear c28
         try clear c28b0
         try clear c30
         try clear c30b0
         try clear c31
         try clear c31b0
         try clear p31
         try clear q31
         try clear hx31
         try clear p32
         try clear q32
         try clear hx32
         try clear hx318_0
         try clear hx318_1
         try clear hx318_2
         try clear hx318_3
         try clear hx318_4
         try clear hx319_0
         try clear hx319_1
         try clear hx319_2
         try clear hx319_3
         try clear hx319_4
         try clear hx320_0
         try clear hx320_1
         try clear hx320_2
         try clear hx320_3
         try clear hx320_4
         try clear hx321_0
         try clear hx321_1
         try clear hx321_2
         try clear hx321_3
         try clear hx321_4
         try clear hx322_0
         try clear hx322_1
         try clear hx322_2
         try clear hx322_3
         try clear hx322_4
         try clear hx323_0
         try clear hx323_1
         try clear hx323_2
         try clear hx323_3
         try clear hx323_4
         try clear hx324_0
         try clear hx324_1
         try clear hx324_2
         try clear hx324_3
         try clear hx324_4
         try clear hx325_0
         try clear p2
         try clear p318
         try clear p319
         try clear p320
         try clear p321
         try clear p322
         try clear p323
         try clear p324
         try clear p325
         try clear q318
         try clear q319
         try clear q320
         try clear q321
         try clear q322
         try clear q323
         try clear q324
         try clear q325
         obtain ⟨kq, x110_19, rfl, HA, HJ19, HO_3, HO_5, HB⟩ := hcut
         cases kq with
         | zero => exact absurd HA.out (by simp [capnplaw23_GrammarGroups.j2])
         | succ kj19 =>
          have H := HA.out
          clear HA
          simp only [capnplaw23_GrammarGroups.j2] at H
          by_cases c33 : x110_19 = true
          ·subst c33
           have H1 : (some false) = some r := by rw [if_pos rfl] at H; exact H
           clear H
           have H := H1
           clear H1
           obtain rfl := Option.some.inj H
           go_wp2
           repeat (go_quiet (fail); try go_wp2)
           go_ret
           exact ⟨by first | rfl | (simp [errW_none, errW_some] <;> rfl) | (simp [*, errW_none, errW_some] <;> rfl), by repeat (first | (with_reducible first | exact HB.out | apply below_alloc | apply pw_below_drewN | apply below_drew1) | exact HB.out)⟩
          ·replace c33 := Bool.eq_false_iff.mpr c33
           subst c33
           have H1 : (if 0 ≤ x9_2 then (if x9_2 < (t314.length : Int) then (if 0 ≤ x7_2 then (if x7_2 ≤ ((rd_T33 t314 x9_2).f2) then (if ((rd_T33 t314 x9_2).f2) ≤ (l0.length : Int) then ((capnpref22_Decodable.f kj19 ((l0.take (((rd_T33 t314 x9_2).f2) : Int).toNat).drop (x7_2 : Int).toNat)).bind fun bt328 => (if bt328.2 = true then (some false) else (if 0 ≤ x8_2 then (if x8_2 ≤ (wrap64 (x8_2 + ((rd_T33 t314 x9_2).f4))) then (if (wrap64 (x8_2 + ((rd_T33 t314 x9_2).f4))) ≤ (t310.length : Int) then ((capnpref23_Equal.f kj19 bt328.1 ((t310.take ((wrap64 (x8_2 + ((rd_T33 t314 x9_2).f4))) : Int).toNat).drop (x8_2 : Int).toNat)).bind fun t337 => (if t337 = true then (capnplaw23_GrammarGroups.l0 kj19 l0 t310 t314 t315 ((rd_T33 t314 x9_2).f2) (wrap64 (x8_2 + ((rd_T33 t314 x9_2).f4))) (wrap64 (x9_2 + 1))) else (some false))) else (none)) else (none)) else (none)))) else (none)) else (none)) else (none)) else (none)) else (none)) = some r := by rw [if_neg (show ¬ (false = true) by decide)] at H; exact H
           clear H
           have H := H1
           clear H1
           by_cases c34 : 0 ≤ x9_2
           ·rw [if_pos c34] at H
            have c34b0 : decide (0 ≤ x9_2) = true := decide_eq_true c34
            clear c34
            by_cases c35 : x9_2 < (t314.length : Int)
            ·rw [if_pos c35] at H
             have c35b0 : decide (x9_2 < (t314.length : Int)) = true := decide_eq_true c35
             clear c35
             by_cases c36 : 0 ≤ x7_2
             ·rw [if_pos c36] at H
              have c36b0 := eq_true c36
              have c36b1 : decide (0 ≤ x7_2) = true := decide_eq_true c36
              clear c36
              by_cases c37 : x7_2 ≤ ((rd_T33 t314 x9_2).f2)
              ·rw [if_pos c37] at H
               have c37b0 := eq_true c37
               have c37b1 : decide (x7_2 ≤ ((rd_T33 t314 x9_2).f2)) = true := decide_eq_true c37
               clear c37
               by_cases c38 : ((rd_T33 t314 x9_2).f2) ≤ (l0.length : Int)
               ·rw [if_pos c38] at H
                have c38b0 := eq_true c38
                have c38b1 : decide (((rd_T33 t314 x9_2).f2) ≤ (l0.length : Int)) = true := decide_eq_true c38
                clear c38
                replace H := Option.bind_eq_some_iff.mp H
                obtain ⟨⟨t328, t329⟩, A390, H⟩ := H
                replace H : (if t329 = true then (some false) else (if 0 ≤ x8_2 then (if x8_2 ≤ (wrap64 (x8_2 + ((rd_T33 t314 x9_2).f4))) then (if (wrap64 (x8_2 + ((rd_T33 t314 x9_2).f4))) ≤ (t310.length : Int) then ((capnpref23_Equal.f kj19 t328 ((t310.take ((wrap64 (x8_2 + ((rd_T33 t314 x9_2).f4))) : Int).toNat).drop (x8_2 : Int).toNat)).bind fun t337 => (if t337 = true then (capnplaw23_GrammarGroups.l0 kj19 l0 t310 t314 t315 ((rd_T33 t314 x9_2).f2) (wrap64 (x8_2 + ((rd_T33 t314 x9_2).f4))) (wrap64 (x9_2 + 1))) else (some false))) else (none)) else (none)) else (none))) = some r := H
                have A39 := Aside0.mk A390
                clear A390
                by_cases c40 : t329 = true
                ·subst c40
                 have H1 : (some false) = some r := by rw [if_pos rfl] at H; exact H
                 clear H
                 have H := H1
                 clear H1
                 obtain rfl := Option.some.inj H
                 have p326 : 0 ≤ (x9_2 : Int) := of_decide_eq_true (by first | (with_reducible assumption) | assumption)
                 have q326 : x9_2 < (t314.length : Int) := of_decide_eq_true (by first | (with_reducible assumption) | assumption)
                 obtain ⟨ad326, e326, hx326_0, hx326_1, hx326_2, hx326_3, hx326_4⟩ := at_T33 (Kd.R_reads' HO_5.out).2.2 x9_2 p326 q326
                 cases e326
                 replace p326 := eq_true p326
                 replace q326 := eq_true q326
                 obtain ⟨i041, hi041, _, hsz41, _⟩ := info_parts info5
                 obtain ⟨A41, hcut41, hA41, hC41⟩ := print_mid_of (P := Tryd.prog) (Value.int .u8) 0 22 5 .i64 .i64 Tryd.underlying22 hi041 hsz41 A0 c0 l0 x7_2 ((rd_T33 t314 x9_2).f2) (of_decide_eq_true (by first | (with_reducible assumption) | assumption)) (by first | omega | exact of_decide_eq_true (by first | (with_reducible assumption) | assumption)) (of_decide_eq_true (by first | (with_reducible assumption) | assumption)) HC0.out
                 obtain ⟨nq41, HNQ41, hcutq41⟩ := Go.Proofs.YtnchacmhjbkmhaaDoor.Un.cut_hide hcut41
                 clear hcut41
                 have HR327 := Aside0.mk (Kd.C_of_reads (h1 := fun _ => rfl) (hA41 _ (Kd.reads_of_C HR0.out)))
                 have HC327 := Aside0.mk hC41
                 clear hA41 hC41 hi041 hsz41
                 go_wp2_with (first | (go_at_call 22; (try rw [HNQ41.out]); (with_reducible refine (capnpref22_Decodable.calls kj19 _ _ ((l0.take (((rd_T33 t314 x9_2).f2) : Int).toNat).drop (x7_2 : Int).toNat) t328 true _ ?side1 ?side2 A39.out).mono ?_); (case side1 => repeat (first | exact (Kd.C_below HR327.out HB.out) | (with_reducible refine Kd.C_alloc ?_ _) | (with_reducible refine Kd.C_drewN ?_ _) | (with_reducible refine Kd.C_drew ?_))); (case side2 => exact HC327.out); rintro e w42 ⟨v330, rfl, ho0, hb⟩; have n0_ := Aside0.mk (Kd.R_elder' (by (with_reducible repeat (first | apply Kd.R_alloc | apply Kd.R_drewN | apply Kd.R_drew)); exact HO_3.out) (Kd.R_base ho0) hb); have n1_ := Aside0.mk (Kd.R_below (by (with_reducible repeat (first | apply Kd.R_alloc | apply Kd.R_drewN | apply Kd.R_drew)); exact HO_5.out) hb); have n2_ := Aside0.mk (Kd.R_lower (Kd.R_new' ho0 (Kd.R_lt (by (with_reducible repeat (first | apply Kd.R_alloc | apply Kd.R_drewN | apply Kd.R_drew)); exact HO_3.out))) (below_size (by repeat (first | (with_reducible first | exact HB.out | apply below_alloc | apply pw_below_drewN | apply below_drew1) | exact HB.out)))); have n3_ := Aside0.mk (below_step (by repeat (first | (with_reducible first | exact HB.out | apply below_alloc | apply pw_below_drewN | apply below_drew1) | exact HB.out)) hb); clear HO_3; clear HO_5; clear HB; have HO_3 := n0_; have HO_5 := n1_; have HO331 := n2_; have HB := n3_; clear n0_ n1_ n2_ n3_; (try clear hb); (try clear hb2); (try clear hk); (try clear hi); (try clear ho0)))
                 repeat (go_quiet (first | (go_at_call 22; (try rw [HNQ41.out]); (with_reducible refine (capnpref22_Decodable.calls kj19 _ _ ((l0.take (((rd_T33 t314 x9_2).f2) : Int).toNat).drop (x7_2 : Int).toNat) t328 true _ ?side1 ?side2 A39.out).mono ?_); (case side1 => repeat (first | exact (Kd.C_below HR327.out HB.out) | (with_reducible refine Kd.C_alloc ?_ _) | (with_reducible refine Kd.C_drewN ?_ _) | (with_reducible refine Kd.C_drew ?_))); (case side2 => exact HC327.out); rintro e w42 ⟨v330, rfl, ho0, hb⟩; have n0_ := Aside0.mk (Kd.R_elder' (by (with_reducible repeat (first | apply Kd.R_alloc | apply Kd.R_drewN | apply Kd.R_drew)); exact HO_3.out) (Kd.R_base ho0) hb); have n1_ := Aside0.mk (Kd.R_below (by (with_reducible repeat (first | apply Kd.R_alloc | apply Kd.R_drewN | apply Kd.R_drew)); exact HO_5.out) hb); have n2_ := Aside0.mk (Kd.R_lower (Kd.R_new' ho0 (Kd.R_lt (by (with_reducible repeat (first | apply Kd.R_alloc | apply Kd.R_drewN | apply Kd.R_drew)); exact HO_3.out))) (below_size (by repeat (first | (with_reducible first | exact HB.out | apply below_alloc | apply pw_below_drewN | apply below_drew1) | exact HB.out)))); have n3_ := Aside0.mk (below_step (by repeat (first | (with_reducible first | exact HB.out | apply below_alloc | apply pw_below_drewN | apply below_drew1) | exact HB.out)) hb); clear HO_3; clear HO_5; clear HB; have HO_3 := n0_; have HO_5 := n1_; have HO331 := n2_; have HB := n3_; clear n0_ n1_ n2_ n3_; (try clear hb); (try clear hb2); (try clear hk); (try clear hi); (try clear ho0))); try go_wp2_with (first | (go_at_call 22; (try rw [HNQ41.out]); (with_reducible refine (capnpref22_Decodable.calls kj19 _ _ ((l0.take (((rd_T33 t314 x9_2).f2) : Int).toNat).drop (x7_2 : Int).toNat) t328 true _ ?side1 ?side2 A39.out).mono ?_); (case side1 => repeat (first | exact (Kd.C_below HR327.out HB.out) | (with_reducible refine Kd.C_alloc ?_ _) | (with_reducible refine Kd.C_drewN ?_ _) | (with_reducible refine Kd.C_drew ?_))); (case side2 => exact HC327.out); rintro e w42 ⟨v330, rfl, ho0, hb⟩; have n0_ := Aside0.mk (Kd.R_elder' (by (with_reducible repeat (first | apply Kd.R_alloc | apply Kd.R_drewN | apply Kd.R_drew)); exact HO_3.out) (Kd.R_base ho0) hb); have n1_ := Aside0.mk (Kd.R_below (by (with_reducible repeat (first | apply Kd.R_alloc | apply Kd.R_drewN | apply Kd.R_drew)); exact HO_5.out) hb); have n2_ := Aside0.mk (Kd.R_lower (Kd.R_new' ho0 (Kd.R_lt (by (with_reducible repeat (first | apply Kd.R_alloc | apply Kd.R_drewN | apply Kd.R_drew)); exact HO_3.out))) (below_size (by repeat (first | (with_reducible first | exact HB.out | apply below_alloc | apply pw_below_drewN | apply below_drew1) | exact HB.out)))); have n3_ := Aside0.mk (below_step (by repeat (first | (with_reducible first | exact HB.out | apply below_alloc | apply pw_below_drewN | apply below_drew1) | exact HB.out)) hb); clear HO_3; clear HO_5; clear HB; have HO_3 := n0_; have HO_5 := n1_; have HO331 := n2_; have HB := n3_; clear n0_ n1_ n2_ n3_; (try clear hb); (try clear hb2); (try clear hk); (try clear hi); (try clear ho0))))
                 go_ret
                 exact ⟨by first | rfl | (simp [errW_none, errW_some] <;> rfl) | (simp [*, errW_none, errW_some] <;> rfl), by repeat (first | (with_reducible first | exact HB.out | apply below_alloc | apply pw_below_drewN | apply below_drew1) | exact HB.out)⟩
                ·replace c40 := Bool.eq_false_iff.mpr c40
                 subst c40
                 have H1 : (if 0 ≤ x8_2 then (if x8_2 ≤ (wrap64 (x8_2 + ((rd_T33 t314 x9_2).f4))) then (if (wrap64 (x8_2 + ((rd_T33 t314 x9_2).f4))) ≤ (t310.length : Int) then ((capnpref23_Equal.f kj19 t328 ((t310.take ((wrap64 (x8_2 + ((rd_T33 t314 x9_2).f4))) : Int).toNat).drop (x8_2 : Int).toNat)).bind fun t337 => (if t337 = true then (capnplaw23_GrammarGroups.l0 kj19 l0 t310 t314 t315 ((rd_T33 t314 x9_2).f2) (wrap64 (x8_2 + ((rd_T33 t314 x9_2).f4))) (wrap64 (x9_2 + 1))) else (some false))) else (none)) else (none)) else (none)) = some r := by rw [if_neg (show ¬ (false = true) by decide)] at H; exact H
                 clear H
                 have H := H1
                 clear H1
                 by_cases c43 : 0 ≤ x8_2
                 ·rw [if_pos c43] at H
                  have c43b0 := eq_true c43
                  have c43b1 : decide (0 ≤ x8_2) = true := decide_eq_true c43
                  clear c43
                  by_cases c44 : x8_2 ≤ (wrap64 (x8_2 + ((rd_T33 t314 x9_2).f4)))
                  ·rw [if_pos c44] at H
                   have c44b0 := eq_true c44
                   have c44b1 : decide (x8_2 ≤ (wrap64 (x8_2 + ((rd_T33 t314 x9_2).f4)))) = true := decide_eq_true c44
                   by_cases c45 : (wrap64 (x8_2 + ((rd_T33 t314 x9_2).f4))) ≤ (t310.length : Int)
                   ·rw [if_pos c45] at H
                    have c45b0 := eq_true c45
                    have c45b1 : decide ((wrap64 (x8_2 + ((rd_T33 t314 x9_2).f4))) ≤ (t310.length : Int)) = true := decide_eq_true c45
                    obtain ⟨y333, hy333⟩ : ∃ y_ : List Int, y_ = ((t310.take ((wrap64 (x8_2 + ((rd_T33 t314 x9_2).f4))) : Int).toNat).drop (x8_2 : Int).toNat) := ⟨_, rfl⟩
                    replace H : ((capnpref23_Equal.f kj19 t328 y333).bind fun t337 => (if t337 = true then (capnplaw23_GrammarGroups.l0 kj19 l0 t310 t314 t315 ((rd_T33 t314 x9_2).f2) (wrap64 (x8_2 + ((rd_T33 t314 x9_2).f4))) (wrap64 (x9_2 + 1))) else (some false))) = some r := by first | (rw [hy333]; with_reducible exact H) | (have H2_ := (Option.bind_some _ _).symm.trans H; rw [hy333]; with_reducible exact H2_) | (have H2_ := (Option.bind_some _ _).symm.trans H; with_reducible exact H2_) | with_reducible exact H | (rw [hy333]; exact H) | exact H
                    have Ny333 := Aside0.mk hy333
                    clear hy333
                    replace H := Option.bind_eq_some_iff.mp H
                    obtain ⟨t337, A460, H⟩ := H
                    replace H : (if t337 = true then (capnplaw23_GrammarGroups.l0 kj19 l0 t310 t314 t315 ((rd_T33 t314 x9_2).f2) (wrap64 (x8_2 + ((rd_T33 t314 x9_2).f4))) (wrap64 (x9_2 + 1))) else (some false)) = some r := H
                    have A46 := Aside0.mk A460
                    clear A460
                    by_cases c47 : t337 = true
                    ·subst c47
                     have H1 : (capnplaw23_GrammarGroups.l0 kj19 l0 t310 t314 t315 ((rd_T33 t314 x9_2).f2) (wrap64 (x8_2 + ((rd_T33 t314 x9_2).f4))) (wrap64 (x9_2 + 1))) = some r := by rw [if_pos rfl] at H; exact H
                     clear H
                     have H := H1
                     clear H1
                     have H' := Aside0.mk H
                     clear H
                     have p326 : 0 ≤ (x9_2 : Int) := of_decide_eq_true (by first | (with_reducible assumption) | assumption)
                     have q326 : x9_2 < (t314.length : Int) := of_decide_eq_true (by first | (with_reducible assumption) | assumption)
                     obtain ⟨ad326, e326, hx326_0, hx326_1, hx326_2, hx326_3, hx326_4⟩ := at_T33 (Kd.R_reads' HO_5.out).2.2 x9_2 p326 q326
                     cases e326
                     replace p326 := eq_true p326
                     replace q326 := eq_true q326
                     obtain ⟨i048, hi048, _, hsz48, _⟩ := info_parts info5
                     obtain ⟨A48, hcut48, hA48, hC48⟩ := print_mid_of (P := Tryd.prog) (Value.int .u8) 0 22 5 .i64 .i64 Tryd.underlying22 hi048 hsz48 A0 c0 l0 x7_2 ((rd_T33 t314 x9_2).f2) (of_decide_eq_true (by first | (with_reducible assumption) | assumption)) (by first | omega | exact of_decide_eq_true (by first | (with_reducible assumption) | assumption)) (of_decide_eq_true (by first | (with_reducible assumption) | assumption)) HC0.out
                     obtain ⟨nq48, HNQ48, hcutq48⟩ := Go.Proofs.YtnchacmhjbkmhaaDoor.Un.cut_hide hcut48
                     clear hcut48
                     have HR327 := Aside0.mk (Kd.C_of_reads (h1 := fun _ => rfl) (hA48 _ (Kd.reads_of_C HR0.out)))
                     have HC327 := Aside0.mk hC48
                     clear hA48 hC48 hi048 hsz48
                     go_wp2_with (first | (go_at_call 22; (try rw [HNQ41.out]); (try rw [HNQ48.out]); (with_reducible refine (capnpref22_Decodable.calls kj19 _ _ ((l0.take (((rd_T33 t314 x9_2).f2) : Int).toNat).drop (x7_2 : Int).toNat) t328 false _ ?side1 ?side2 A39.out).mono ?_); (case side1 => repeat (first | exact (Kd.C_below HR327.out HB.out) | (with_reducible refine Kd.C_alloc ?_ _) | (with_reducible refine Kd.C_drewN ?_ _) | (with_reducible refine Kd.C_drew ?_))); (case side2 => exact HC327.out); rintro e w49 ⟨v330, rfl, ho0, hb⟩; have n0_ := Aside0.mk (Kd.R_elder' (by (with_reducible repeat (first | apply Kd.R_alloc | apply Kd.R_drewN | apply Kd.R_drew)); exact HO_3.out) (Kd.R_base ho0) hb); have n1_ := Aside0.mk (Kd.R_below (by (with_reducible repeat (first | apply Kd.R_alloc | apply Kd.R_drewN | apply Kd.R_drew)); exact HO_5.out) hb); have n2_ := Aside0.mk (Kd.R_lower (Kd.R_new' ho0 (Kd.R_lt (by (with_reducible repeat (first | apply Kd.R_alloc | apply Kd.R_drewN | apply Kd.R_drew)); exact HO_3.out))) (below_size (by repeat (first | (with_reducible first | exact HB.out | apply below_alloc | apply pw_below_drewN | apply below_drew1) | exact HB.out)))); have n3_ := Aside0.mk (below_step (by repeat (first | (with_reducible first | exact HB.out | apply below_alloc | apply pw_below_drewN | apply below_drew1) | exact HB.out)) hb); clear HO_3; clear HO_5; clear HB; have HO_3 := n0_; have HO_5 := n1_; have HO331 := n2_; have HB := n3_; clear n0_ n1_ n2_ n3_; (try clear hb); (try clear hb2); (try clear hk); (try clear hi); (try clear ho0); have p332 : 0 ≤ (x9_2 : Int) := of_decide_eq_true (by first | (with_reducible assumption) | assumption); have q332 : x9_2 < (t314.length : Int) := of_decide_eq_true (by first | (with_reducible assumption) | assumption); obtain ⟨ad332, e332, hx332_0, hx332_1, hx332_2, hx332_3, hx332_4⟩ := at_T33 (Kd.R_reads' HO_5.out).2.2 x9_2 p332 q332; obtain rfl : ad326 = ad332 := (by injection e332); replace p332 := eq_true p332; replace q332 := eq_true q332; obtain ⟨Ao51, co51, eo51⟩ := Kd.R_slice HO_3.out; subst eo51; have q50 : ((wrap64 (x8_2 + ((rd_T33 t314 x9_2).f4))) : Int) ≤ ((t310.length : Int) : Int) := of_decide_eq_true (by first | (with_reducible assumption) | assumption); obtain ⟨i050, hi050, _, hsz50, _⟩ := info_parts info37; have hroom50 : t310.length ≤ co51 := (Kd.R_reads' HO_3.out).2.1; have hC50 : Kd.C (Kd.int .u64) _ Ao51 t310.length t310 := (Kd.R_reads' HO_3.out).2.2; have ql50 : (x8_2 : Int) ≤ ((wrap64 (x8_2 + ((rd_T33 t314 x9_2).f4))) : Int) := of_decide_eq_true (by first | (with_reducible assumption) | assumption); have q050 : (0 : Int) ≤ (x8_2 : Int) := of_decide_eq_true (by first | (with_reducible assumption) | assumption); have hcut50 := cut_mid (P := Tryd.prog) 23 37 .i64 .i64 Tryd.underlying23 hi050 1 hsz50 Ao51 t310.length co51 x8_2 (wrap64 (x8_2 + ((rd_T33 t314 x9_2).f4))) q050 ql50 q50 hroom50; have hr50 := Kd.C_mid (lo := (x8_2 : Int).toNat) (hi := ((wrap64 (x8_2 + ((rd_T33 t314 x9_2).f4))) : Int).toNat) (c := co51) hC50 (by omega) (by omega) hroom50; obtain ⟨A50, hA50⟩ : ∃ A1, A1 = (if co51 = (x8_2 : Int).toNat then Ao51 else (Ao51 : Option Addr).map (·.add ((x8_2 : Int).toNat * 1))) := ⟨_, rfl⟩; obtain ⟨c50, hc50⟩ : ∃ c1, c1 = co51 - (x8_2 : Int).toNat := ⟨_, rfl⟩; have hy50 : y333.length = ((wrap64 (x8_2 + ((rd_T33 t314 x9_2).f4))) : Int).toNat - (x8_2 : Int).toNat := (by rw [Ny333.out, List.length_drop, List.length_take] <;> omega); rw [show ((t310).take ((wrap64 (x8_2 + ((rd_T33 t314 x9_2).f4))) : Int).toNat).drop (x8_2 : Int).toNat = y333 from Ny333.out.symm] at hr50; replace hr50 : Kd.C (Kd.int .u64) _ A50 y333.length y333 := (by rw [hA50]; exact hr50); rw [← hy50, ← hA50, ← hc50] at hcut50; have HR336 := Aside0.mk hr50; have HC336 := Aside0.mk (show y333.length ≤ c50 from by rw [hy50, hc50]; exact Nat.sub_le_sub_right (Nat.le_trans (by omega) hroom50) _); clear hr50 hC50 hroom50 hi050 hsz50 hc50; have KY50 := Aside0.mk hy50; have KA50 := Aside0.mk hA50; clear hy50 hA50; have KL50 := Aside0.mk (show ((wrap64 (x8_2 + ((rd_T33 t314 x9_2).f4))) : Int).toNat ≤ t310.length from by omega); have KM50 := Aside0.mk (show (x8_2 : Int).toNat ≤ ((wrap64 (x8_2 + ((rd_T33 t314 x9_2).f4))) : Int).toNat from by omega); replace q50 := eq_true q50; obtain ⟨Ao52, co52, eo52⟩ := Kd.R_slice HO331.out; subst eo52) | (go_at_call 21; (try rw [HNQ41.out]); (try rw [HNQ48.out]); (with_reducible refine (capnpref23_Equal.calls kj19 _ _ t328 _ _ y333 true _ ?side1 ?side2 ?side3 ?side4 A46.out).mono ?_); (case side1 => repeat (first | exact (Kd.R_reads' HO331.out).2.2 | (with_reducible refine Kd.C_alloc ?_ _) | (with_reducible refine Kd.C_drewN ?_ _) | (with_reducible refine Kd.C_drew ?_))); (case side2 => exact (Kd.R_reads' HO331.out).2.1); (case side3 => repeat (first | exact (by repeat (first | (with_reducible exact HR336.out) | (with_reducible refine Kd.C_alloc ?_ _) | (with_reducible refine Kd.C_drewN ?_ _) | (with_reducible refine Kd.C_drew ?_) | exact HR336.out)) | (with_reducible refine Kd.C_alloc ?_ _) | (with_reducible refine Kd.C_drewN ?_ _) | (with_reducible refine Kd.C_drew ?_))); (case side4 => exact HC336.out); rintro e w' ⟨rfl, ⟨nd, rfl⟩⟩; (try first | exact ⟨rfl, _, World.drewN_drewN _ _ _⟩ | exact ⟨rfl, _, Eq.trans (World.drewN_drewN _ _ _) (congrArg (World.drewN _) (Nat.add_assoc _ _ _))⟩); have p338 : 0 ≤ (x9_2 : Int) := of_decide_eq_true (by first | (with_reducible assumption) | assumption); have q338 : x9_2 < (t314.length : Int) := of_decide_eq_true (by first | (with_reducible assumption) | assumption); obtain ⟨ad338, e338, hx338_0, hx338_1, hx338_2, hx338_3, hx338_4⟩ := at_T33 (Kd.R_reads' HO_5.out).2.2 x9_2 p338 q338; obtain rfl : ad326 = ad338 := (by injection e338); replace p338 := eq_true p338; replace q338 := eq_true q338; have p339 : 0 ≤ (x9_2 : Int) := of_decide_eq_true (by first | (with_reducible assumption) | assumption); have q339 : x9_2 < (t314.length : Int) := of_decide_eq_true (by first | (with_reducible assumption) | assumption); obtain ⟨ad339, e339, hx339_0, hx339_1, hx339_2, hx339_3, hx339_4⟩ := at_T33 (Kd.R_reads' HO_5.out).2.2 x9_2 p339 q339; obtain rfl : ad326 = ad339 := (by injection e339); replace p339 := eq_true p339; replace q339 := eq_true q339))
                     repeat (go_quiet (first | (go_at_call 22; (try rw [HNQ41.out]); (try rw [HNQ48.out]); (with_reducible refine (capnpref22_Decodable.calls kj19 _ _ ((l0.take (((rd_T33 t314 x9_2).f2) : Int).toNat).drop (x7_2 : Int).toNat) t328 false _ ?side1 ?side2 A39.out).mono ?_); (case side1 => repeat (first | exact (Kd.C_below HR327.out HB.out) | (with_reducible refine Kd.C_alloc ?_ _) | (with_reducible refine Kd.C_drewN ?_ _) | (with_reducible refine Kd.C_drew ?_))); (case side2 => exact HC327.out); rintro e w49 ⟨v330, rfl, ho0, hb⟩; have n0_ := Aside0.mk (Kd.R_elder' (by (with_reducible repeat (first | apply Kd.R_alloc | apply Kd.R_drewN | apply Kd.R_drew)); exact HO_3.out) (Kd.R_base ho0) hb); have n1_ := Aside0.mk (Kd.R_below (by (with_reducible repeat (first | apply Kd.R_alloc | apply Kd.R_drewN | apply Kd.R_drew)); exact HO_5.out) hb); have n2_ := Aside0.mk (Kd.R_lower (Kd.R_new' ho0 (Kd.R_lt (by (with_reducible repeat (first | apply Kd.R_alloc | apply Kd.R_drewN | apply Kd.R_drew)); exact HO_3.out))) (below_size (by repeat (first | (with_reducible first | exact HB.out | apply below_alloc | apply pw_below_drewN | apply below_drew1) | exact HB.out)))); have n3_ := Aside0.mk (below_step (by repeat (first | (with_reducible first | exact HB.out | apply below_alloc | apply pw_below_drewN | apply below_drew1) | exact HB.out)) hb); clear HO_3; clear HO_5; clear HB; have HO_3 := n0_; have HO_5 := n1_; have HO331 := n2_; have HB := n3_; clear n0_ n1_ n2_ n3_; (try clear hb); (try clear hb2); (try clear hk); (try clear hi); (try clear ho0); have p332 : 0 ≤ (x9_2 : Int) := of_decide_eq_true (by first | (with_reducible assumption) | assumption); have q332 : x9_2 < (t314.length : Int) := of_decide_eq_true (by first | (with_reducible assumption) | assumption); obtain ⟨ad332, e332, hx332_0, hx332_1, hx332_2, hx332_3, hx332_4⟩ := at_T33 (Kd.R_reads' HO_5.out).2.2 x9_2 p332 q332; obtain rfl : ad326 = ad332 := (by injection e332); replace p332 := eq_true p332; replace q332 := eq_true q332; obtain ⟨Ao51, co51, eo51⟩ := Kd.R_slice HO_3.out; subst eo51; have q50 : ((wrap64 (x8_2 + ((rd_T33 t314 x9_2).f4))) : Int) ≤ ((t310.length : Int) : Int) := of_decide_eq_true (by first | (with_reducible assumption) | assumption); obtain ⟨i050, hi050, _, hsz50, _⟩ := info_parts info37; have hroom50 : t310.length ≤ co51 := (Kd.R_reads' HO_3.out).2.1; have hC50 : Kd.C (Kd.int .u64) _ Ao51 t310.length t310 := (Kd.R_reads' HO_3.out).2.2; have ql50 : (x8_2 : Int) ≤ ((wrap64 (x8_2 + ((rd_T33 t314 x9_2).f4))) : Int) := of_decide_eq_true (by first | (with_reducible assumption) | assumption); have q050 : (0 : Int) ≤ (x8_2 : Int) := of_decide_eq_true (by first | (with_reducible assumption) | assumption); have hcut50 := cut_mid (P := Tryd.prog) 23 37 .i64 .i64 Tryd.underlying23 hi050 1 hsz50 Ao51 t310.length co51 x8_2 (wrap64 (x8_2 + ((rd_T33 t314 x9_2).f4))) q050 ql50 q50 hroom50; have hr50 := Kd.C_mid (lo := (x8_2 : Int).toNat) (hi := ((wrap64 (x8_2 + ((rd_T33 t314 x9_2).f4))) : Int).toNat) (c := co51) hC50 (by omega) (by omega) hroom50; obtain ⟨A50, hA50⟩ : ∃ A1, A1 = (if co51 = (x8_2 : Int).toNat then Ao51 else (Ao51 : Option Addr).map (·.add ((x8_2 : Int).toNat * 1))) := ⟨_, rfl⟩; obtain ⟨c50, hc50⟩ : ∃ c1, c1 = co51 - (x8_2 : Int).toNat := ⟨_, rfl⟩; have hy50 : y333.length = ((wrap64 (x8_2 + ((rd_T33 t314 x9_2).f4))) : Int).toNat - (x8_2 : Int).toNat := (by rw [Ny333.out, List.length_drop, List.length_take] <;> omega); rw [show ((t310).take ((wrap64 (x8_2 + ((rd_T33 t314 x9_2).f4))) : Int).toNat).drop (x8_2 : Int).toNat = y333 from Ny333.out.symm] at hr50; replace hr50 : Kd.C (Kd.int .u64) _ A50 y333.length y333 := (by rw [hA50]; exact hr50); rw [← hy50, ← hA50, ← hc50] at hcut50; have HR336 := Aside0.mk hr50; have HC336 := Aside0.mk (show y333.length ≤ c50 from by rw [hy50, hc50]; exact Nat.sub_le_sub_right (Nat.le_trans (by omega) hroom50) _); clear hr50 hC50 hroom50 hi050 hsz50 hc50; have KY50 := Aside0.mk hy50; have KA50 := Aside0.mk hA50; clear hy50 hA50; have KL50 := Aside0.mk (show ((wrap64 (x8_2 + ((rd_T33 t314 x9_2).f4))) : Int).toNat ≤ t310.length from by omega); have KM50 := Aside0.mk (show (x8_2 : Int).toNat ≤ ((wrap64 (x8_2 + ((rd_T33 t314 x9_2).f4))) : Int).toNat from by omega); replace q50 := eq_true q50; obtain ⟨Ao52, co52, eo52⟩ := Kd.R_slice HO331.out; subst eo52) | (go_at_call 21; (try rw [HNQ41.out]); (try rw [HNQ48.out]); (with_reducible refine (capnpref23_Equal.calls kj19 _ _ t328 _ _ y333 true _ ?side1 ?side2 ?side3 ?side4 A46.out).mono ?_); (case side1 => repeat (first | exact (Kd.R_reads' HO331.out).2.2 | (with_reducible refine Kd.C_alloc ?_ _) | (with_reducible refine Kd.C_drewN ?_ _) | (with_reducible refine Kd.C_drew ?_))); (case side2 => exact (Kd.R_reads' HO331.out).2.1); (case side3 => repeat (first | exact (by repeat (first | (with_reducible exact HR336.out) | (with_reducible refine Kd.C_alloc ?_ _) | (with_reducible refine Kd.C_drewN ?_ _) | (with_reducible refine Kd.C_drew ?_) | exact HR336.out)) | (with_reducible refine Kd.C_alloc ?_ _) | (with_reducible refine Kd.C_drewN ?_ _) | (with_reducible refine Kd.C_drew ?_))); (case side4 => exact HC336.out); rintro e w' ⟨rfl, ⟨nd, rfl⟩⟩; (try first | exact ⟨rfl, _, World.drewN_drewN _ _ _⟩ | exact ⟨rfl, _, Eq.trans (World.drewN_drewN _ _ _) (congrArg (World.drewN _) (Nat.add_assoc _ _ _))⟩); have p338 : 0 ≤ (x9_2 : Int) := of_decide_eq_true (by first | (with_reducible assumption) | assumption); have q338 : x9_2 < (t314.length : Int) := of_decide_eq_true (by first | (with_reducible assumption) | assumption); obtain ⟨ad338, e338, hx338_0, hx338_1, hx338_2, hx338_3, hx338_4⟩ := at_T33 (Kd.R_reads' HO_5.out).2.2 x9_2 p338 q338; obtain rfl : ad326 = ad338 := (by injection e338); replace p338 := eq_true p338; replace q338 := eq_true q338; have p339 : 0 ≤ (x9_2 : Int) := of_decide_eq_true (by first | (with_reducible assumption) | assumption); have q339 : x9_2 < (t314.length : Int) := of_decide_eq_true (by first | (with_reducible assumption) | assumption); obtain ⟨ad339, e339, hx339_0, hx339_1, hx339_2, hx339_3, hx339_4⟩ := at_T33 (Kd.R_reads' HO_5.out).2.2 x9_2 p339 q339; obtain rfl : ad326 = ad339 := (by injection e339); replace p339 := eq_true p339; replace q339 := eq_true q339)); try go_wp2_with (first | (go_at_call 22; (try rw [HNQ41.out]); (try rw [HNQ48.out]); (with_reducible refine (capnpref22_Decodable.calls kj19 _ _ ((l0.take (((rd_T33 t314 x9_2).f2) : Int).toNat).drop (x7_2 : Int).toNat) t328 false _ ?side1 ?side2 A39.out).mono ?_); (case side1 => repeat (first | exact (Kd.C_below HR327.out HB.out) | (with_reducible refine Kd.C_alloc ?_ _) | (with_reducible refine Kd.C_drewN ?_ _) | (with_reducible refine Kd.C_drew ?_))); (case side2 => exact HC327.out); rintro e w49 ⟨v330, rfl, ho0, hb⟩; have n0_ := Aside0.mk (Kd.R_elder' (by (with_reducible repeat (first | apply Kd.R_alloc | apply Kd.R_drewN | apply Kd.R_drew)); exact HO_3.out) (Kd.R_base ho0) hb); have n1_ := Aside0.mk (Kd.R_below (by (with_reducible repeat (first | apply Kd.R_alloc | apply Kd.R_drewN | apply Kd.R_drew)); exact HO_5.out) hb); have n2_ := Aside0.mk (Kd.R_lower (Kd.R_new' ho0 (Kd.R_lt (by (with_reducible repeat (first | apply Kd.R_alloc | apply Kd.R_drewN | apply Kd.R_drew)); exact HO_3.out))) (below_size (by repeat (first | (with_reducible first | exact HB.out | apply below_alloc | apply pw_below_drewN | apply below_drew1) | exact HB.out)))); have n3_ := Aside0.mk (below_step (by repeat (first | (with_reducible first | exact HB.out | apply below_alloc | apply pw_below_drewN | apply below_drew1) | exact HB.out)) hb); clear HO_3; clear HO_5; clear HB; have HO_3 := n0_; have HO_5 := n1_; have HO331 := n2_; have HB := n3_; clear n0_ n1_ n2_ n3_; (try clear hb); (try clear hb2); (try clear hk); (try clear hi); (try clear ho0); have p332 : 0 ≤ (x9_2 : Int) := of_decide_eq_true (by first | (with_reducible assumption) | assumption); have q332 : x9_2 < (t314.length : Int) := of_decide_eq_true (by first | (with_reducible assumption) | assumption); obtain ⟨ad332, e332, hx332_0, hx332_1, hx332_2, hx332_3, hx332_4⟩ := at_T33 (Kd.R_reads' HO_5.out).2.2 x9_2 p332 q332; obtain rfl : ad326 = ad332 := (by injection e332); replace p332 := eq_true p332; replace q332 := eq_true q332; obtain ⟨Ao51, co51, eo51⟩ := Kd.R_slice HO_3.out; subst eo51; have q50 : ((wrap64 (x8_2 + ((rd_T33 t314 x9_2).f4))) : Int) ≤ ((t310.length : Int) : Int) := of_decide_eq_true (by first | (with_reducible assumption) | assumption); obtain ⟨i050, hi050, _, hsz50, _⟩ := info_parts info37; have hroom50 : t310.length ≤ co51 := (Kd.R_reads' HO_3.out).2.1; have hC50 : Kd.C (Kd.int .u64) _ Ao51 t310.length t310 := (Kd.R_reads' HO_3.out).2.2; have ql50 : (x8_2 : Int) ≤ ((wrap64 (x8_2 + ((rd_T33 t314 x9_2).f4))) : Int) := of_decide_eq_true (by first | (with_reducible assumption) | assumption); have q050 : (0 : Int) ≤ (x8_2 : Int) := of_decide_eq_true (by first | (with_reducible assumption) | assumption); have hcut50 := cut_mid (P := Tryd.prog) 23 37 .i64 .i64 Tryd.underlying23 hi050 1 hsz50 Ao51 t310.length co51 x8_2 (wrap64 (x8_2 + ((rd_T33 t314 x9_2).f4))) q050 ql50 q50 hroom50; have hr50 := Kd.C_mid (lo := (x8_2 : Int).toNat) (hi := ((wrap64 (x8_2 + ((rd_T33 t314 x9_2).f4))) : Int).toNat) (c := co51) hC50 (by omega) (by omega) hroom50; obtain ⟨A50, hA50⟩ : ∃ A1, A1 = (if co51 = (x8_2 : Int).toNat then Ao51 else (Ao51 : Option Addr).map (·.add ((x8_2 : Int).toNat * 1))) := ⟨_, rfl⟩; obtain ⟨c50, hc50⟩ : ∃ c1, c1 = co51 - (x8_2 : Int).toNat := ⟨_, rfl⟩; have hy50 : y333.length = ((wrap64 (x8_2 + ((rd_T33 t314 x9_2).f4))) : Int).toNat - (x8_2 : Int).toNat := (by rw [Ny333.out, List.length_drop, List.length_take] <;> omega); rw [show ((t310).take ((wrap64 (x8_2 + ((rd_T33 t314 x9_2).f4))) : Int).toNat).drop (x8_2 : Int).toNat = y333 from Ny333.out.symm] at hr50; replace hr50 : Kd.C (Kd.int .u64) _ A50 y333.length y333 := (by rw [hA50]; exact hr50); rw [← hy50, ← hA50, ← hc50] at hcut50; have HR336 := Aside0.mk hr50; have HC336 := Aside0.mk (show y333.length ≤ c50 from by rw [hy50, hc50]; exact Nat.sub_le_sub_right (Nat.le_trans (by omega) hroom50) _); clear hr50 hC50 hroom50 hi050 hsz50 hc50; have KY50 := Aside0.mk hy50; have KA50 := Aside0.mk hA50; clear hy50 hA50; have KL50 := Aside0.mk (show ((wrap64 (x8_2 + ((rd_T33 t314 x9_2).f4))) : Int).toNat ≤ t310.length from by omega); have KM50 := Aside0.mk (show (x8_2 : Int).toNat ≤ ((wrap64 (x8_2 + ((rd_T33 t314 x9_2).f4))) : Int).toNat from by omega); replace q50 := eq_true q50; obtain ⟨Ao52, co52, eo52⟩ := Kd.R_slice HO331.out; subst eo52) | (go_at_call 21; (try rw [HNQ41.out]); (try rw [HNQ48.out]); (with_reducible refine (capnpref23_Equal.calls kj19 _ _ t328 _ _ y333 true _ ?side1 ?side2 ?side3 ?side4 A46.out).mono ?_); (case side1 => repeat (first | exact (Kd.R_reads' HO331.out).2.2 | (with_reducible refine Kd.C_alloc ?_ _) | (with_reducible refine Kd.C_drewN ?_ _) | (with_reducible refine Kd.C_drew ?_))); (case side2 => exact (Kd.R_reads' HO331.out).2.1); (case side3 => repeat (first | exact (by repeat (first | (with_reducible exact HR336.out) | (with_reducible refine Kd.C_alloc ?_ _) | (with_reducible refine Kd.C_drewN ?_ _) | (with_reducible refine Kd.C_drew ?_) | exact HR336.out)) | (with_reducible refine Kd.C_alloc ?_ _) | (with_reducible refine Kd.C_drewN ?_ _) | (with_reducible refine Kd.C_drew ?_))); (case side4 => exact HC336.out); rintro e w' ⟨rfl, ⟨nd, rfl⟩⟩; (try first | exact ⟨rfl, _, World.drewN_drewN _ _ _⟩ | exact ⟨rfl, _, Eq.trans (World.drewN_drewN _ _ _) (congrArg (World.drewN _) (Nat.add_assoc _ _ _))⟩); have p338 : 0 ≤ (x9_2 : Int) := of_decide_eq_true (by first | (with_reducible assumption) | assumption); have q338 : x9_2 < (t314.length : Int) := of_decide_eq_true (by first | (with_reducible assumption) | assumption); obtain ⟨ad338, e338, hx338_0, hx338_1, hx338_2, hx338_3, hx338_4⟩ := at_T33 (Kd.R_reads' HO_5.out).2.2 x9_2 p338 q338; obtain rfl : ad326 = ad338 := (by injection e338); replace p338 := eq_true p338; replace q338 := eq_true q338; have p339 : 0 ≤ (x9_2 : Int) := of_decide_eq_true (by first | (with_reducible assumption) | assumption); have q339 : x9_2 < (t314.length : Int) := of_decide_eq_true (by first | (with_reducible assumption) | assumption); obtain ⟨ad339, e339, hx339_0, hx339_1, hx339_2, hx339_3, hx339_4⟩ := at_T33 (Kd.R_reads' HO_5.out).2.2 x9_2 p339 q339; obtain rfl : ad326 = ad339 := (by injection e339); replace p339 := eq_true p339; replace q339 := eq_true q339)))
                     go_roundg kj19
                     case measure => have := HJ1.out; have := HK2.out; have := HJ19.out; omega
                     case rel => exact ⟨((rd_T33 t314 x9_2).f2), (wrap64 (x8_2 + ((rd_T33 t314 x9_2).f4))), (wrap64 (x9_2 + 1)), (by first | rfl | (simp; done) | (simp [*]; done)), (by first | rfl | (simp; done) | (simp [*]; done)), (by first | rfl | (simp; done) | (simp [*]; done)), H', ⟨by have := HJ1.out; have := HK2.out; have := HJ19.out; omega⟩, ⟨by (with_reducible repeat (first | apply Kd.R_alloc | apply Kd.R_drewN | apply Kd.R_drew)); exact Kd.R_mono HO_3.out (fun _ hk => trivial)⟩, ⟨by (with_reducible repeat (first | apply Kd.R_alloc | apply Kd.R_drewN | apply Kd.R_drew)); exact HO_5.out⟩, ⟨by repeat (first | (with_reducible first | exact HB.out | apply below_alloc | apply pw_below_drewN | apply below_drew1) | exact HB.out)⟩⟩
                    ·replace c47 := Bool.eq_false_iff.mpr c47
                     subst c47
                     have H1 : (some false) = some r := by rw [if_neg (show ¬ (false = true) by decide)] at H; exact H
                     clear H
                     have H := H1
                     clear H1
                     obtain rfl := Option.some.inj H
                     have p326 : 0 ≤ (x9_2 : Int) := of_decide_eq_true (by first | (with_reducible assumption) | assumption)
                     have q326 : x9_2 < (t314.length : Int) := of_decide_eq_true (by first | (with_reducible assumption) | assumption)
                     obtain ⟨ad326, e326, hx326_0, hx326_1, hx326_2, hx326_3, hx326_4⟩ := at_T33 (Kd.R_reads' HO_5.out).2.2 x9_2 p326 q326
                     cases e326
                     replace p326 := eq_true p326
                     replace q326 := eq_true q326
                     obtain ⟨i053, hi053, _, hsz53, _⟩ := info_parts info5
                     obtain ⟨A53, hcut53, hA53, hC53⟩ := print_mid_of (P := Tryd.prog) (Value.int .u8) 0 22 5 .i64 .i64 Tryd.underlying22 hi053 hsz53 A0 c0 l0 x7_2 ((rd_T33 t314 x9_2).f2) (of_decide_eq_true (by first | (with_reducible assumption) | assumption)) (by first | omega | exact of_decide_eq_true (by first | (with_reducible assumption) | assumption)) (of_decide_eq_true (by first | (with_reducible assumption) | assumption)) HC0.out
                     obtain ⟨nq53, HNQ53, hcutq53⟩ := Go.Proofs.YtnchacmhjbkmhaaDoor.Un.cut_hide hcut53
                     clear hcut53
                     have HR327 := Aside0.mk (Kd.C_of_reads (h1 := fun _ => rfl) (hA53 _ (Kd.reads_of_C HR0.out)))
                     have HC327 := Aside0.mk hC53
                     clear hA53 hC53 hi053 hsz53
                     go_wp2_with (first | (go_at_call 22; (try rw [HNQ48.out]); (try rw [HNQ53.out]); (with_reducible refine (capnpref22_Decodable.calls kj19 _ _ ((l0.take (((rd_T33 t314 x9_2).f2) : Int).toNat).drop (x7_2 : Int).toNat) t328 false _ ?side1 ?side2 A39.out).mono ?_); (case side1 => repeat (first | exact (Kd.C_below HR327.out HB.out) | (with_reducible refine Kd.C_alloc ?_ _) | (with_reducible refine Kd.C_drewN ?_ _) | (with_reducible refine Kd.C_drew ?_))); (case side2 => exact HC327.out); rintro e w54 ⟨v330, rfl, ho0, hb⟩; have n0_ := Aside0.mk (Kd.R_elder' (by (with_reducible repeat (first | apply Kd.R_alloc | apply Kd.R_drewN | apply Kd.R_drew)); exact HO_3.out) (Kd.R_base ho0) hb); have n1_ := Aside0.mk (Kd.R_below (by (with_reducible repeat (first | apply Kd.R_alloc | apply Kd.R_drewN | apply Kd.R_drew)); exact HO_5.out) hb); have n2_ := Aside0.mk (Kd.R_lower (Kd.R_new' ho0 (Kd.R_lt (by (with_reducible repeat (first | apply Kd.R_alloc | apply Kd.R_drewN | apply Kd.R_drew)); exact HO_3.out))) (below_size (by repeat (first | (with_reducible first | exact HB.out | apply below_alloc | apply pw_below_drewN | apply below_drew1) | exact HB.out)))); have n3_ := Aside0.mk (below_step (by repeat (first | (with_reducible first | exact HB.out | apply below_alloc | apply pw_below_drewN | apply below_drew1) | exact HB.out)) hb); clear HO_3; clear HO_5; clear HB; have HO_3 := n0_; have HO_5 := n1_; have HO331 := n2_; have HB := n3_; clear n0_ n1_ n2_ n3_; (try clear hb); (try clear hb2); (try clear hk); (try clear hi); (try clear ho0); have p332 : 0 ≤ (x9_2 : Int) := of_decide_eq_true (by first | (with_reducible assumption) | assumption); have q332 : x9_2 < (t314.length : Int) := of_decide_eq_true (by first | (with_reducible assumption) | assumption); obtain ⟨ad332, e332, hx332_0, hx332_1, hx332_2, hx332_3, hx332_4⟩ := at_T33 (Kd.R_reads' HO_5.out).2.2 x9_2 p332 q332; obtain rfl : ad326 = ad332 := (by injection e332); replace p332 := eq_true p332; replace q332 := eq_true q332; obtain ⟨Ao56, co56, eo56⟩ := Kd.R_slice HO_3.out; subst eo56; have q55 : ((wrap64 (x8_2 + ((rd_T33 t314 x9_2).f4))) : Int) ≤ ((t310.length : Int) : Int) := of_decide_eq_true (by first | (with_reducible assumption) | assumption); obtain ⟨i055, hi055, _, hsz55, _⟩ := info_parts info37; have hroom55 : t310.length ≤ co56 := (Kd.R_reads' HO_3.out).2.1; have hC55 : Kd.C (Kd.int .u64) _ Ao56 t310.length t310 := (Kd.R_reads' HO_3.out).2.2; have ql55 : (x8_2 : Int) ≤ ((wrap64 (x8_2 + ((rd_T33 t314 x9_2).f4))) : Int) := of_decide_eq_true (by first | (with_reducible assumption) | assumption); have q055 : (0 : Int) ≤ (x8_2 : Int) := of_decide_eq_true (by first | (with_reducible assumption) | assumption); have hcut55 := cut_mid (P := Tryd.prog) 23 37 .i64 .i64 Tryd.underlying23 hi055 1 hsz55 Ao56 t310.length co56 x8_2 (wrap64 (x8_2 + ((rd_T33 t314 x9_2).f4))) q055 ql55 q55 hroom55; have hr55 := Kd.C_mid (lo := (x8_2 : Int).toNat) (hi := ((wrap64 (x8_2 + ((rd_T33 t314 x9_2).f4))) : Int).toNat) (c := co56) hC55 (by omega) (by omega) hroom55; obtain ⟨A55, hA55⟩ : ∃ A1, A1 = (if co56 = (x8_2 : Int).toNat then Ao56 else (Ao56 : Option Addr).map (·.add ((x8_2 : Int).toNat * 1))) := ⟨_, rfl⟩; obtain ⟨c55, hc55⟩ : ∃ c1, c1 = co56 - (x8_2 : Int).toNat := ⟨_, rfl⟩; have hy55 : y333.length = ((wrap64 (x8_2 + ((rd_T33 t314 x9_2).f4))) : Int).toNat - (x8_2 : Int).toNat := (by rw [Ny333.out, List.length_drop, List.length_take] <;> omega); rw [show ((t310).take ((wrap64 (x8_2 + ((rd_T33 t314 x9_2).f4))) : Int).toNat).drop (x8_2 : Int).toNat = y333 from Ny333.out.symm] at hr55; replace hr55 : Kd.C (Kd.int .u64) _ A55 y333.length y333 := (by rw [hA55]; exact hr55); rw [← hy55, ← hA55, ← hc55] at hcut55; have HR336 := Aside0.mk hr55; have HC336 := Aside0.mk (show y333.length ≤ c55 from by rw [hy55, hc55]; exact Nat.sub_le_sub_right (Nat.le_trans (by omega) hroom55) _); clear hr55 hC55 hroom55 hi055 hsz55 hc55; have KY55 := Aside0.mk hy55; have KA55 := Aside0.mk hA55; clear hy55 hA55; have KL55 := Aside0.mk (show ((wrap64 (x8_2 + ((rd_T33 t314 x9_2).f4))) : Int).toNat ≤ t310.length from by omega); have KM55 := Aside0.mk (show (x8_2 : Int).toNat ≤ ((wrap64 (x8_2 + ((rd_T33 t314 x9_2).f4))) : Int).toNat from by omega); replace q55 := eq_true q55; obtain ⟨Ao57, co57, eo57⟩ := Kd.R_slice HO331.out; subst eo57) | (go_at_call 21; (try rw [HNQ48.out]); (try rw [HNQ53.out]); (with_reducible refine (capnpref23_Equal.calls kj19 _ _ t328 _ _ y333 false _ ?side1 ?side2 ?side3 ?side4 A46.out).mono ?_); (case side1 => repeat (first | exact (Kd.R_reads' HO331.out).2.2 | (with_reducible refine Kd.C_alloc ?_ _) | (with_reducible refine Kd.C_drewN ?_ _) | (with_reducible refine Kd.C_drew ?_))); (case side2 => exact (Kd.R_reads' HO331.out).2.1); (case side3 => repeat (first | exact (by repeat (first | (with_reducible exact HR336.out) | (with_reducible refine Kd.C_alloc ?_ _) | (with_reducible refine Kd.C_drewN ?_ _) | (with_reducible refine Kd.C_drew ?_) | exact HR336.out)) | (with_reducible refine Kd.C_alloc ?_ _) | (with_reducible refine Kd.C_drewN ?_ _) | (with_reducible refine Kd.C_drew ?_))); (case side4 => exact HC336.out); rintro e w' ⟨rfl, ⟨nd, rfl⟩⟩; (try first | exact ⟨rfl, _, World.drewN_drewN _ _ _⟩ | exact ⟨rfl, _, Eq.trans (World.drewN_drewN _ _ _) (congrArg (World.drewN _) (Nat.add_assoc _ _ _))⟩)))
                     repeat (go_quiet (first | (go_at_call 22; (try rw [HNQ48.out]); (try rw [HNQ53.out]); (with_reducible refine (capnpref22_Decodable.calls kj19 _ _ ((l0.take (((rd_T33 t314 x9_2).f2) : Int).toNat).drop (x7_2 : Int).toNat) t328 false _ ?side1 ?side2 A39.out).mono ?_); (case side1 => repeat (first | exact (Kd.C_below HR327.out HB.out) | (with_reducible refine Kd.C_alloc ?_ _) | (with_reducible refine Kd.C_drewN ?_ _) | (with_reducible refine Kd.C_drew ?_))); (case side2 => exact HC327.out); rintro e w54 ⟨v330, rfl, ho0, hb⟩; have n0_ := Aside0.mk (Kd.R_elder' (by (with_reducible repeat (first | apply Kd.R_alloc | apply Kd.R_drewN | apply Kd.R_drew)); exact HO_3.out) (Kd.R_base ho0) hb); have n1_ := Aside0.mk (Kd.R_below (by (with_reducible repeat (first | apply Kd.R_alloc | apply Kd.R_drewN | apply Kd.R_drew)); exact HO_5.out) hb); have n2_ := Aside0.mk (Kd.R_lower (Kd.R_new' ho0 (Kd.R_lt (by (with_reducible repeat (first | apply Kd.R_alloc | apply Kd.R_drewN | apply Kd.R_drew)); exact HO_3.out))) (below_size (by repeat (first | (with_reducible first | exact HB.out | apply below_alloc | apply pw_below_drewN | apply below_drew1) | exact HB.out)))); have n3_ := Aside0.mk (below_step (by repeat (first | (with_reducible first | exact HB.out | apply below_alloc | apply pw_below_drewN | apply below_drew1) | exact HB.out)) hb); clear HO_3; clear HO_5; clear HB; have HO_3 := n0_; have HO_5 := n1_; have HO331 := n2_; have HB := n3_; clear n0_ n1_ n2_ n3_; (try clear hb); (try clear hb2); (try clear hk); (try clear hi); (try clear ho0); have p332 : 0 ≤ (x9_2 : Int) := of_decide_eq_true (by first | (with_reducible assumption) | assumption); have q332 : x9_2 < (t314.length : Int) := of_decide_eq_true (by first | (with_reducible assumption) | assumption); obtain ⟨ad332, e332, hx332_0, hx332_1, hx332_2, hx332_3, hx332_4⟩ := at_T33 (Kd.R_reads' HO_5.out).2.2 x9_2 p332 q332; obtain rfl : ad326 = ad332 := (by injection e332); replace p332 := eq_true p332; replace q332 := eq_true q332; obtain ⟨Ao56, co56, eo56⟩ := Kd.R_slice HO_3.out; subst eo56; have q55 : ((wrap64 (x8_2 + ((rd_T33 t314 x9_2).f4))) : Int) ≤ ((t310.length : Int) : Int) := of_decide_eq_true (by first | (with_reducible assumption) | assumption); obtain ⟨i055, hi055, _, hsz55, _⟩ := info_parts info37; have hroom55 : t310.length ≤ co56 := (Kd.R_reads' HO_3.out).2.1; have hC55 : Kd.C (Kd.int .u64) _ Ao56 t310.length t310 := (Kd.R_reads' HO_3.out).2.2; have ql55 : (x8_2 : Int) ≤ ((wrap64 (x8_2 + ((rd_T33 t314 x9_2).f4))) : Int) := of_decide_eq_true (by first | (with_reducible assumption) | assumption); have q055 : (0 : Int) ≤ (x8_2 : Int) := of_decide_eq_true (by first | (with_reducible assumption) | assumption); have hcut55 := cut_mid (P := Tryd.prog) 23 37 .i64 .i64 Tryd.underlying23 hi055 1 hsz55 Ao56 t310.length co56 x8_2 (wrap64 (x8_2 + ((rd_T33 t314 x9_2).f4))) q055 ql55 q55 hroom55; have hr55 := Kd.C_mid (lo := (x8_2 : Int).toNat) (hi := ((wrap64 (x8_2 + ((rd_T33 t314 x9_2).f4))) : Int).toNat) (c := co56) hC55 (by omega) (by omega) hroom55; obtain ⟨A55, hA55⟩ : ∃ A1, A1 = (if co56 = (x8_2 : Int).toNat then Ao56 else (Ao56 : Option Addr).map (·.add ((x8_2 : Int).toNat * 1))) := ⟨_, rfl⟩; obtain ⟨c55, hc55⟩ : ∃ c1, c1 = co56 - (x8_2 : Int).toNat := ⟨_, rfl⟩; have hy55 : y333.length = ((wrap64 (x8_2 + ((rd_T33 t314 x9_2).f4))) : Int).toNat - (x8_2 : Int).toNat := (by rw [Ny333.out, List.length_drop, List.length_take] <;> omega); rw [show ((t310).take ((wrap64 (x8_2 + ((rd_T33 t314 x9_2).f4))) : Int).toNat).drop (x8_2 : Int).toNat = y333 from Ny333.out.symm] at hr55; replace hr55 : Kd.C (Kd.int .u64) _ A55 y333.length y333 := (by rw [hA55]; exact hr55); rw [← hy55, ← hA55, ← hc55] at hcut55; have HR336 := Aside0.mk hr55; have HC336 := Aside0.mk (show y333.length ≤ c55 from by rw [hy55, hc55]; exact Nat.sub_le_sub_right (Nat.le_trans (by omega) hroom55) _); clear hr55 hC55 hroom55 hi055 hsz55 hc55; have KY55 := Aside0.mk hy55; have KA55 := Aside0.mk hA55; clear hy55 hA55; have KL55 := Aside0.mk (show ((wrap64 (x8_2 + ((rd_T33 t314 x9_2).f4))) : Int).toNat ≤ t310.length from by omega); have KM55 := Aside0.mk (show (x8_2 : Int).toNat ≤ ((wrap64 (x8_2 + ((rd_T33 t314 x9_2).f4))) : Int).toNat from by omega); replace q55 := eq_true q55; obtain ⟨Ao57, co57, eo57⟩ := Kd.R_slice HO331.out; subst eo57) | (go_at_call 21; (try rw [HNQ48.out]); (try rw [HNQ53.out]); (with_reducible refine (capnpref23_Equal.calls kj19 _ _ t328 _ _ y333 false _ ?side1 ?side2 ?side3 ?side4 A46.out).mono ?_); (case side1 => repeat (first | exact (Kd.R_reads' HO331.out).2.2 | (with_reducible refine Kd.C_alloc ?_ _) | (with_reducible refine Kd.C_drewN ?_ _) | (with_reducible refine Kd.C_drew ?_))); (case side2 => exact (Kd.R_reads' HO331.out).2.1); (case side3 => repeat (first | exact (by repeat (first | (with_reducible exact HR336.out) | (with_reducible refine Kd.C_alloc ?_ _) | (with_reducible refine Kd.C_drewN ?_ _) | (with_reducible refine Kd.C_drew ?_) | exact HR336.out)) | (with_reducible refine Kd.C_alloc ?_ _) | (with_reducible refine Kd.C_drewN ?_ _) | (with_reducible refine Kd.C_drew ?_))); (case side4 => exact HC336.out); rintro e w' ⟨rfl, ⟨nd, rfl⟩⟩; (try first | exact ⟨rfl, _, World.drewN_drewN _ _ _⟩ | exact ⟨rfl, _, Eq.trans (World.drewN_drewN _ _ _) (congrArg (World.drewN _) (Nat.add_assoc _ _ _))⟩))); try go_wp2_with (first | (go_at_call 22; (try rw [HNQ48.out]); (try rw [HNQ53.out]); (with_reducible refine (capnpref22_Decodable.calls kj19 _ _ ((l0.take (((rd_T33 t314 x9_2).f2) : Int).toNat).drop (x7_2 : Int).toNat) t328 false _ ?side1 ?side2 A39.out).mono ?_); (case side1 => repeat (first | exact (Kd.C_below HR327.out HB.out) | (with_reducible refine Kd.C_alloc ?_ _) | (with_reducible refine Kd.C_drewN ?_ _) | (with_reducible refine Kd.C_drew ?_))); (case side2 => exact HC327.out); rintro e w54 ⟨v330, rfl, ho0, hb⟩; have n0_ := Aside0.mk (Kd.R_elder' (by (with_reducible repeat (first | apply Kd.R_alloc | apply Kd.R_drewN | apply Kd.R_drew)); exact HO_3.out) (Kd.R_base ho0) hb); have n1_ := Aside0.mk (Kd.R_below (by (with_reducible repeat (first | apply Kd.R_alloc | apply Kd.R_drewN | apply Kd.R_drew)); exact HO_5.out) hb); have n2_ := Aside0.mk (Kd.R_lower (Kd.R_new' ho0 (Kd.R_lt (by (with_reducible repeat (first | apply Kd.R_alloc | apply Kd.R_drewN | apply Kd.R_drew)); exact HO_3.out))) (below_size (by repeat (first | (with_reducible first | exact HB.out | apply below_alloc | apply pw_below_drewN | apply below_drew1) | exact HB.out)))); have n3_ := Aside0.mk (below_step (by repeat (first | (with_reducible first | exact HB.out | apply below_alloc | apply pw_below_drewN | apply below_drew1) | exact HB.out)) hb); clear HO_3; clear HO_5; clear HB; have HO_3 := n0_; have HO_5 := n1_; have HO331 := n2_; have HB := n3_; clear n0_ n1_ n2_ n3_; (try clear hb); (try clear hb2); (try clear hk); (try clear hi); (try clear ho0); have p332 : 0 ≤ (x9_2 : Int) := of_decide_eq_true (by first | (with_reducible assumption) | assumption); have q332 : x9_2 < (t314.length : Int) := of_decide_eq_true (by first | (with_reducible assumption) | assumption); obtain ⟨ad332, e332, hx332_0, hx332_1, hx332_2, hx332_3, hx332_4⟩ := at_T33 (Kd.R_reads' HO_5.out).2.2 x9_2 p332 q332; obtain rfl : ad326 = ad332 := (by injection e332); replace p332 := eq_true p332; replace q332 := eq_true q332; obtain ⟨Ao56, co56, eo56⟩ := Kd.R_slice HO_3.out; subst eo56; have q55 : ((wrap64 (x8_2 + ((rd_T33 t314 x9_2).f4))) : Int) ≤ ((t310.length : Int) : Int) := of_decide_eq_true (by first | (with_reducible assumption) | assumption); obtain ⟨i055, hi055, _, hsz55, _⟩ := info_parts info37; have hroom55 : t310.length ≤ co56 := (Kd.R_reads' HO_3.out).2.1; have hC55 : Kd.C (Kd.int .u64) _ Ao56 t310.length t310 := (Kd.R_reads' HO_3.out).2.2; have ql55 : (x8_2 : Int) ≤ ((wrap64 (x8_2 + ((rd_T33 t314 x9_2).f4))) : Int) := of_decide_eq_true (by first | (with_reducible assumption) | assumption); have q055 : (0 : Int) ≤ (x8_2 : Int) := of_decide_eq_true (by first | (with_reducible assumption) | assumption); have hcut55 := cut_mid (P := Tryd.prog) 23 37 .i64 .i64 Tryd.underlying23 hi055 1 hsz55 Ao56 t310.length co56 x8_2 (wrap64 (x8_2 + ((rd_T33 t314 x9_2).f4))) q055 ql55 q55 hroom55; have hr55 := Kd.C_mid (lo := (x8_2 : Int).toNat) (hi := ((wrap64 (x8_2 + ((rd_T33 t314 x9_2).f4))) : Int).toNat) (c := co56) hC55 (by omega) (by omega) hroom55; obtain ⟨A55, hA55⟩ : ∃ A1, A1 = (if co56 = (x8_2 : Int).toNat then Ao56 else (Ao56 : Option Addr).map (·.add ((x8_2 : Int).toNat * 1))) := ⟨_, rfl⟩; obtain ⟨c55, hc55⟩ : ∃ c1, c1 = co56 - (x8_2 : Int).toNat := ⟨_, rfl⟩; have hy55 : y333.length = ((wrap64 (x8_2 + ((rd_T33 t314 x9_2).f4))) : Int).toNat - (x8_2 : Int).toNat := (by rw [Ny333.out, List.length_drop, List.length_take] <;> omega); rw [show ((t310).take ((wrap64 (x8_2 + ((rd_T33 t314 x9_2).f4))) : Int).toNat).drop (x8_2 : Int).toNat = y333 from Ny333.out.symm] at hr55; replace hr55 : Kd.C (Kd.int .u64) _ A55 y333.length y333 := (by rw [hA55]; exact hr55); rw [← hy55, ← hA55, ← hc55] at hcut55; have HR336 := Aside0.mk hr55; have HC336 := Aside0.mk (show y333.length ≤ c55 from by rw [hy55, hc55]; exact Nat.sub_le_sub_right (Nat.le_trans (by omega) hroom55) _); clear hr55 hC55 hroom55 hi055 hsz55 hc55; have KY55 := Aside0.mk hy55; have KA55 := Aside0.mk hA55; clear hy55 hA55; have KL55 := Aside0.mk (show ((wrap64 (x8_2 + ((rd_T33 t314 x9_2).f4))) : Int).toNat ≤ t310.length from by omega); have KM55 := Aside0.mk (show (x8_2 : Int).toNat ≤ ((wrap64 (x8_2 + ((rd_T33 t314 x9_2).f4))) : Int).toNat from by omega); replace q55 := eq_true q55; obtain ⟨Ao57, co57, eo57⟩ := Kd.R_slice HO331.out; subst eo57) | (go_at_call 21; (try rw [HNQ48.out]); (try rw [HNQ53.out]); (with_reducible refine (capnpref23_Equal.calls kj19 _ _ t328 _ _ y333 false _ ?side1 ?side2 ?side3 ?side4 A46.out).mono ?_); (case side1 => repeat (first | exact (Kd.R_reads' HO331.out).2.2 | (with_reducible refine Kd.C_alloc ?_ _) | (with_reducible refine Kd.C_drewN ?_ _) | (with_reducible refine Kd.C_drew ?_))); (case side2 => exact (Kd.R_reads' HO331.out).2.1); (case side3 => repeat (first | exact (by repeat (first | (with_reducible exact HR336.out) | (with_reducible refine Kd.C_alloc ?_ _) | (with_reducible refine Kd.C_drewN ?_ _) | (with_reducible refine Kd.C_drew ?_) | exact HR336.out)) | (with_reducible refine Kd.C_alloc ?_ _) | (with_reducible refine Kd.C_drewN ?_ _) | (with_reducible refine Kd.C_drew ?_))); (case side4 => exact HC336.out); rintro e w' ⟨rfl, ⟨nd, rfl⟩⟩; (try first | exact ⟨rfl, _, World.drewN_drewN _ _ _⟩ | exact ⟨rfl, _, Eq.trans (World.drewN_drewN _ _ _) (congrArg (World.drewN _) (Nat.add_assoc _ _ _))⟩))))
                     go_ret
                     exact ⟨by first | rfl | (simp [errW_none, errW_some] <;> rfl) | (simp [*, errW_none, errW_some] <;> rfl), by repeat (first | (with_reducible first | exact HB.out | apply below_alloc | apply pw_below_drewN | apply below_drew1) | exact HB.out)⟩
                   ·rw [if_neg c45] at H
                    exact absurd H (by simp)
                  ·rw [if_neg c44] at H
                   exact absurd H (by simp)
                 ·rw [if_neg c43] at H
                  exact absurd H (by simp)
               ·rw [if_neg c38] at H
                exact absurd H (by simp)
              ·rw [if_neg c37] at H
               exact absurd H (by simp)
             ·rw [if_neg c36] at H
              exact absurd H (by simp)
            ·rw [if_neg c35] at H
             exact absurd H (by simp)
           ·rw [if_neg c34] at H
            exact absurd H (by simp)
       ·rw [if_neg c19] at H
        have c19b0 : decide (x9_2 < (t314.length : Int)) = false := decide_eq_false c19
        clear c19
        by_cases c58 : t315 = 0
        ·rw [if_pos c58] at H
         have c58b0 : (t315 == 0) = true := beq_iff_eq.mpr c58
         have c58b1 : (t315 != 0) = false := bne_eq_false_iff_eq.mpr c58
         clear c58
         by_cases c59 : x7_2 = (l0.length : Int)
         ·rw [if_pos c59] at H
          have c59b0 : (x7_2 == (l0.length : Int)) = true := beq_iff_eq.mpr c59
          have c59b1 : (x7_2 != (l0.length : Int)) = false := bne_eq_false_iff_eq.mpr c59
          clear c59
          obtain rfl := Option.some.inj H
          obtain ⟨Ao60, co60, eo60⟩ := Kd.R_slice HO_5.out
          subst eo60
          obtain ⟨Ao61, co61, eo61⟩ := Kd.R_slice HO_3.out
          subst eo61
          go_wp2
          repeat (go_quiet (fail); try go_wp2)
          go_ret
          exact ⟨by first | rfl | (simp [errW_none, errW_some] <;> rfl) | (simp [*, errW_none, errW_some] <;> rfl), by repeat (first | (with_reducible first | exact HB.out | apply below_alloc | apply pw_below_drewN | apply below_drew1) | exact HB.out)⟩
         ·rw [if_neg c59] at H
          exact absurd H (by simp)
        ·rw [if_neg c58] at H
         exact absurd H (by simp)

/-- THE ONE PURE STATEMENT of capnplaw23_GrammarGroups: yours. -/
def capnplaw23_GrammarGroups.Pure : Prop := ∀ (l0 : List Int), l0.length ≤ maxLen → l0.length * 1 ≤ 140737488351232 → (∀ x ∈ l0, (Lit.int .u8 x).wf = true) → ∃ k, capnplaw23_GrammarGroups.f k l0 = some true
theorem capnplaw23_GrammarGroups.walk (P : capnplaw23_GrammarGroups.Pure) (a0 : Option Addr) (len0 cap0 : Nat) (z0 : List Int) (w : World) (w0 : (a0 = none ∧ len0 = 0 ∧ cap0 = 0 ∧ z0 = []) ∨ ∃ x, a0 = some x ∧ len0 ≤ cap0 ∧ cap0 ≤ maxLen ∧ z0.length = cap0 ∧ (∀ i, i < z0.length → w.cell? (x.add i) = some (.int .u8 (z0.getD i 0))) ∧ ∀ n ∈ z0, (Lit.int .u8 n).wf = true) (y0 : len0 * 1 ≤ 140737488351232) {aL aT : Addr} (hL : Go.Proofs.YtnchacmhjbkmhaaDoor.Un.LaidU w aL aT) :
  Calls Tryd.prog 5 #[.slice a0 len0 cap0] w fun e w' => e = .returned (.bool true) ∧ Below w.heap.size w w' := by
 obtain ⟨l0, rfl, hr0, hm0, hw0, hc0⟩ := ReadsInt.ofRowC w0
 obtain ⟨k, h⟩ := P l0 hm0 y0 hw0
 refine (capnplaw23_GrammarGroups.calls k _ _ l0 true w (Kd.C_of_reads (d := (0 : Int)) (h1 := fun _ => rfl) hr0) hc0 h hL).mono ?_
 rintro e w' ⟨rfl, hd⟩
 exact ⟨rfl, hd⟩

end Go.Proofs.YtnchacmhjbkmhaaDoor.PGrammarGroups
