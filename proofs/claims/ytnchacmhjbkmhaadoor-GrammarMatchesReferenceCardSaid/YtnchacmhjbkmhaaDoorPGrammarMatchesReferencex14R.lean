/- (Halved.) Written by myprint.py, a program of this session: printed functions of a law, and the proofs that the Go code comes to them. -/
import Derived.Test.YtnchacmhjbkmhaaDoorXShortR
import Derived.Test.YtnchacmhjbkmhaaDoorPGrammarMatchesReferencex0R
import Derived.Test.YtnchacmhjbkmhaaDoorPGrammarMatchesReferencex1R
import Derived.Test.YtnchacmhjbkmhaaDoorPGrammarMatchesReferencex2R
import Derived.Test.YtnchacmhjbkmhaaDoorPGrammarMatchesReferencex3R
import Derived.Test.YtnchacmhjbkmhaaDoorPGrammarMatchesReferencex6R
import Derived.Test.YtnchacmhjbkmhaaDoorPGrammarMatchesReferencex7R
import Derived.Test.YtnchacmhjbkmhaaDoorPGrammarMatchesReferencex8R
import Derived.Test.YtnchacmhjbkmhaaDoorPGrammarMatchesReferencex11R
import Derived.Test.YtnchacmhjbkmhaaDoorPGrammarMatchesReferencex12R
import Derived.Test.YtnchacmhjbkmhaaDoorPGrammarMatchesReferencex13R
namespace Go.Proofs.YtnchacmhjbkmhaaDoor.PGrammarMatchesReference
open Go.RowKit Go.Proofs.YtnchacmhjbkmhaaDoorW.PrintWords Go.Proofs.YtnchacmhjbkmhaaDoorW.PrintLast Go.Proofs.YtnchacmhjbkmhaaDoorW.PrintMore
open Go.Proofs.YtnchacmhjbkmhaaDoor.PUnBase
open Go.Proofs.YtnchacmhjbkmhaaDoor.POfBase (tagbyte_Of.f tagbyte_Of.calls tagbyte_Of.mono tagbyte_Of.mono_l)
attribute [local go_sem] max2_int min2_int max_two min_two max_three min_three max_four min_four   -- for this text's walks alone
set_option linter.unusedVariables false
set_option linter.unusedSimpArgs false
attribute [local go_sem high] eqA33
mutual
def capnplaw23_GrammarMatchesReference.j0 : Nat → List Int → List Int → Bool → Option (Bool)
 | 0, _, _, _ => none
 | k + 1, x0, x1, x21 => if x21 = true then ((capnplaw23_awake.f k).bind fun t466 => (some t466)) else ((grammar_Groups.f k x0).bind fun bt467 => ((capnpref23_Groups.f k x0).bind fun bt471 => (if (bt471.2 != (bt467.2 == 0)) = true then (capnplaw23_GrammarMatchesReference.j1 k x0 x1 bt467.1 bt471.1 true) else (if bt471.2 = true then (capnplaw23_GrammarMatchesReference.j1 k x0 x1 bt467.1 bt471.1 ((bt467.1.length : Int) != (bt471.1.length : Int))) else (if bt467.2 = 10 then (capnplaw23_GrammarMatchesReference.j1 k x0 x1 bt467.1 bt471.1 ((bt467.1.length : Int) != (bt471.1.length : Int))) else (capnplaw23_GrammarMatchesReference.j1 k x0 x1 bt467.1 bt471.1 true))))))
def capnplaw23_GrammarMatchesReference.j1 : Nat → List Int → List Int → List (S33) → List (S34) → Bool → Option (Bool)
 | 0, _, _, _, _, _ => none
 | k + 1, x0, x1, x5, x7, x51 => if x51 = true then (some false) else (capnplaw23_GrammarMatchesReference.l0 k x0 x1 x5 x7 0)
def capnplaw23_GrammarMatchesReference.l0 : Nat → List Int → List Int → List (S33) → List (S34) → Int → Option (Bool)
 | 0, _, _, _, _, _ => none
 | k + 1, x0, x1, x5, x7, x9 => if x9 < (x5.length : Int) then (if 0 ≤ x9 then (if x9 < (x7.length : Int) then (if (!(((rd_T33 x5 x9).f0) == ((rd_T34 x7 x9).f0)) || (!(((rd_T33 x5 x9).f1) == ((rd_T34 x7 x9).f1)) || (!(((rd_T33 x5 x9).f2) == ((rd_T34 x7 x9).f2)) || (!(((rd_T33 x5 x9).f3) == ((rd_T34 x7 x9).f3)) || (!(((rd_T33 x5 x9).f4) == ((rd_T34 x7 x9).f4))))))) = true then (some false) else (capnplaw23_GrammarMatchesReference.l0 k x0 x1 x5 x7 (wrap64 (x9 + 1)))) else (none)) else (none)) else ((grammar_Accepts.f k x0 x1).bind fun t481 => ((capnpref23_Accepts.f k x0 x1).bind fun t482 => (if (t481 == t482) = true then ((grammar_Canonical.f k x0).bind fun t483 => ((capnpref23_Canonical.f k x0).bind fun t484 => (if (t483 == t484) = true then ((grammar_Ways.f x1).bind fun t485 => ((capnpref23_Ways.f k x1).bind fun t486 => (if t485 = t486 then ((grammar_Shortest.f x1).bind fun t487 => ((capnpref23_Shortest.f k x1).bind fun t488 => (some (t487 == t488)))) else (none)))) else (none)))) else (none))))
end
def capnplaw23_GrammarMatchesReference.f (k : Nat) (l0 : List Int) (l1 : List Int) : Option (Bool) := (capnplaw23_awake.f k).bind fun t465 => (if t465 = true then (if (l0.length : Int) > 300 then (capnplaw23_GrammarMatchesReference.j0 k l0 l1 true) else (capnplaw23_GrammarMatchesReference.j0 k l0 l1 (decide ((l1.length : Int) > 300)))) else (capnplaw23_GrammarMatchesReference.j0 k l0 l1 true))
theorem capnplaw23_GrammarMatchesReference.mono_l : ∀ k, (∀ y0 y1 y2, LeO (capnplaw23_GrammarMatchesReference.j0 k y0 y1 y2) (capnplaw23_GrammarMatchesReference.j0 (k + 1) y0 y1 y2)) ∧ (∀ y0 y1 y2 y3 y4, LeO (capnplaw23_GrammarMatchesReference.j1 k y0 y1 y2 y3 y4) (capnplaw23_GrammarMatchesReference.j1 (k + 1) y0 y1 y2 y3 y4)) ∧ (∀ y0 y1 y2 y3 y4, LeO (capnplaw23_GrammarMatchesReference.l0 k y0 y1 y2 y3 y4) (capnplaw23_GrammarMatchesReference.l0 (k + 1) y0 y1 y2 y3 y4))
 | 0 => ⟨fun _ _ _ r h => by simp [capnplaw23_GrammarMatchesReference.j0] at h, fun _ _ _ _ _ r h => by simp [capnplaw23_GrammarMatchesReference.j1] at h, fun _ _ _ _ _ r h => by simp [capnplaw23_GrammarMatchesReference.l0] at h⟩
 | k + 1 => by
  obtain ⟨ih0, ih1, ih2⟩ := capnplaw23_GrammarMatchesReference.mono_l k
  refine ⟨?_, ?_, ?_⟩
  ·intro y0 y1 y2
   unfold capnplaw23_GrammarMatchesReference.j0
   repeat' first
   | (with_reducible exact ih0 _ _ _)
   | (with_reducible exact ih1 _ _ _ _ _)
   | (with_reducible exact ih2 _ _ _ _ _)
   | (with_reducible exact capnplaw23_awake.mono _)
   | (with_reducible exact capnpref23_Accepts.mono _ _ _)
   | (with_reducible exact capnpref23_Canonical.mono _ _)
   | (with_reducible exact capnpref23_Groups.mono _ _)
   | (with_reducible exact capnpref23_Shortest.mono _ _)
   | (with_reducible exact capnpref23_Ways.mono _ _)
   | (with_reducible exact grammar_Accepts.mono _ _ _)
   | (with_reducible exact grammar_Canonical.mono _ _)
   | (with_reducible exact grammar_Groups.mono _ _)
   | (with_reducible exact LeO.refl _)
   | (with_reducible exact LeO.none _)
   | (with_reducible refine LeO.ite ?_ ?_)
   | (with_reducible refine LeO.bind ?_ (fun _ => ?_))
   | exact ih0 _ _ _
   | exact ih1 _ _ _ _ _
   | exact ih2 _ _ _ _ _
   | exact capnplaw23_awake.mono _
   | exact capnpref23_Accepts.mono _ _ _
   | exact capnpref23_Canonical.mono _ _
   | exact capnpref23_Groups.mono _ _
   | exact capnpref23_Shortest.mono _ _
   | exact capnpref23_Ways.mono _ _
   | exact grammar_Accepts.mono _ _ _
   | exact grammar_Canonical.mono _ _
   | exact grammar_Groups.mono _ _
   | exact LeO.none _
   | refine LeO.ite ?_ ?_
   | refine LeO.bind ?_ (fun _ => ?_)
  ·intro y0 y1 y2 y3 y4
   unfold capnplaw23_GrammarMatchesReference.j1
   repeat' first
   | (with_reducible exact ih0 _ _ _)
   | (with_reducible exact ih1 _ _ _ _ _)
   | (with_reducible exact ih2 _ _ _ _ _)
   | (with_reducible exact capnplaw23_awake.mono _)
   | (with_reducible exact capnpref23_Accepts.mono _ _ _)
   | (with_reducible exact capnpref23_Canonical.mono _ _)
   | (with_reducible exact capnpref23_Groups.mono _ _)
   | (with_reducible exact capnpref23_Shortest.mono _ _)
   | (with_reducible exact capnpref23_Ways.mono _ _)
   | (with_reducible exact grammar_Accepts.mono _ _ _)
   | (with_reducible exact grammar_Canonical.mono _ _)
   | (with_reducible exact grammar_Groups.mono _ _)
   | (with_reducible exact LeO.refl _)
   | (with_reducible exact LeO.none _)
   | (with_reducible refine LeO.ite ?_ ?_)
   | (with_reducible refine LeO.bind ?_ (fun _ => ?_))
   | exact ih0 _ _ _
   | exact ih1 _ _ _ _ _
   | exact ih2 _ _ _ _ _
   | exact capnplaw23_awake.mono _
   | exact capnpref23_Accepts.mono _ _ _
   | exact capnpref23_Canonical.mono _ _
   | exact capnpref23_Groups.mono _ _
   | exact capnpref23_Shortest.mono _ _
   | exact capnpref23_Ways.mono _ _
   | exact grammar_Accepts.mono _ _ _
   | exact grammar_Canonical.mono _ _
   | exact grammar_Groups.mono _ _
   | exact LeO.none _
   | refine LeO.ite ?_ ?_
   | refine LeO.bind ?_ (fun _ => ?_)
  ·intro y0 y1 y2 y3 y4
   unfold capnplaw23_GrammarMatchesReference.l0
   repeat' first
   | (with_reducible exact ih0 _ _ _)
   | (with_reducible exact ih1 _ _ _ _ _)
   | (with_reducible exact ih2 _ _ _ _ _)
   | (with_reducible exact capnplaw23_awake.mono _)
   | (with_reducible exact capnpref23_Accepts.mono _ _ _)
   | (with_reducible exact capnpref23_Canonical.mono _ _)
   | (with_reducible exact capnpref23_Groups.mono _ _)
   | (with_reducible exact capnpref23_Shortest.mono _ _)
   | (with_reducible exact capnpref23_Ways.mono _ _)
   | (with_reducible exact grammar_Accepts.mono _ _ _)
   | (with_reducible exact grammar_Canonical.mono _ _)
   | (with_reducible exact grammar_Groups.mono _ _)
   | (with_reducible exact LeO.refl _)
   | (with_reducible exact LeO.none _)
   | (with_reducible refine LeO.ite ?_ ?_)
   | (with_reducible refine LeO.bind ?_ (fun _ => ?_))
   | exact ih0 _ _ _
   | exact ih1 _ _ _ _ _
   | exact ih2 _ _ _ _ _
   | exact capnplaw23_awake.mono _
   | exact capnpref23_Accepts.mono _ _ _
   | exact capnpref23_Canonical.mono _ _
   | exact capnpref23_Groups.mono _ _
   | exact capnpref23_Shortest.mono _ _
   | exact capnpref23_Ways.mono _ _
   | exact grammar_Accepts.mono _ _ _
   | exact grammar_Canonical.mono _ _
   | exact grammar_Groups.mono _ _
   | exact LeO.none _
   | refine LeO.ite ?_ ?_
   | refine LeO.bind ?_ (fun _ => ?_)
theorem capnplaw23_GrammarMatchesReference.mono : ∀ a0 a1 k, LeO (capnplaw23_GrammarMatchesReference.f k a0 a1) (capnplaw23_GrammarMatchesReference.f (k + 1) a0 a1) := by
 intro a0 a1 k
 obtain ⟨ih0, ih1, ih2⟩ := capnplaw23_GrammarMatchesReference.mono_l k
 unfold capnplaw23_GrammarMatchesReference.f
 repeat' first
   | (with_reducible exact ih0 _ _ _)
   | (with_reducible exact ih1 _ _ _ _ _)
   | (with_reducible exact ih2 _ _ _ _ _)
   | (with_reducible exact capnplaw23_awake.mono _)
   | (with_reducible exact capnpref23_Accepts.mono _ _ _)
   | (with_reducible exact capnpref23_Canonical.mono _ _)
   | (with_reducible exact capnpref23_Groups.mono _ _)
   | (with_reducible exact capnpref23_Shortest.mono _ _)
   | (with_reducible exact capnpref23_Ways.mono _ _)
   | (with_reducible exact grammar_Accepts.mono _ _ _)
   | (with_reducible exact grammar_Canonical.mono _ _)
   | (with_reducible exact grammar_Groups.mono _ _)
   | (with_reducible exact LeO.refl _)
   | (with_reducible exact LeO.none _)
   | (with_reducible refine LeO.ite ?_ ?_)
   | (with_reducible refine LeO.bind ?_ (fun _ => ?_))
   | exact ih0 _ _ _
   | exact ih1 _ _ _ _ _
   | exact ih2 _ _ _ _ _
   | exact capnplaw23_awake.mono _
   | exact capnpref23_Accepts.mono _ _ _
   | exact capnpref23_Canonical.mono _ _
   | exact capnpref23_Groups.mono _ _
   | exact capnpref23_Shortest.mono _ _
   | exact capnpref23_Ways.mono _ _
   | exact grammar_Accepts.mono _ _ _
   | exact grammar_Canonical.mono _ _
   | exact grammar_Groups.mono _ _
   | exact LeO.none _
   | refine LeO.ite ?_ ?_
   | refine LeO.bind ?_ (fun _ => ?_)
set_option maxHeartbeats 8000000 in
set_option maxRecDepth 100000 in
theorem capnplaw23_GrammarMatchesReference.calls (k : Nat) (A0 : Option Addr) (c0 : Nat) (l0 : List Int) (A1 : Option Addr) (c1 : Nat) (l1 : List Int) (r : Bool) (w : World) (hr0 : Kd.C (Kd.int .u8) w A0 l0.length l0) (hc0 : l0.length ≤ c0) (hr1 : Kd.C (Kd.int .u64) w A1 l1.length l1) (hc1 : l1.length ≤ c1) (h : capnplaw23_GrammarMatchesReference.f k l0 l1 = some r) {aL aT : Addr} (hL : Go.Proofs.YtnchacmhjbkmhaaDoor.Un.LaidU w aL aT) :
  Calls Tryd.prog 3 #[.slice A0 l0.length c0, .slice A1 l1.length c1] w fun e w' => e = .returned (.bool r) ∧ Below w.heap.size w w' := by
 have HL := Aside0.mk hL
 clear hL
 have hu33 := Tryd.underlying33
 have HR0 := Aside0.mk hr0
 have HC0 := Aside0.mk hc0
 clear hr0 hc0
 have HR1 := Aside0.mk hr1
 have HC1 := Aside0.mk hc1
 clear hr1 hc1
 have HB := Aside0.mk (Below.refl w.heap.size w)
 have H : ((capnplaw23_awake.f k).bind fun t465 => (if t465 = true then (if (l0.length : Int) > 300 then (capnplaw23_GrammarMatchesReference.j0 k l0 l1 true) else (capnplaw23_GrammarMatchesReference.j0 k l0 l1 (decide ((l1.length : Int) > 300)))) else (capnplaw23_GrammarMatchesReference.j0 k l0 l1 true))) = some r := h
 clear h
 have HC3 := Aside0.mk H
 clear H
 go_enter Tryd.func3, Tryd.ntmps3
 try simp only [List.append_eq, List.cons_append, List.nil_append]
 go_upto_region 1 with (fail)
 repeat (go_quiet (fail); go_upto_region 1 with (fail))
 go_cut [21] (fun v21 wc => ∃ (kq : Nat) (x21_2 : Bool), v21 = .bool x21_2 ∧ Aside0 (capnplaw23_GrammarMatchesReference.j0 kq l0 l1 x21_2 = some r) ∧ Aside0 (kq ≤ k) ∧ Aside0 (Below w.heap.size w wc))
 case first =>
  have H := HC3.out
  clear HC3
  replace H := Option.bind_eq_some_iff.mp H
  obtain ⟨t465, A40, H⟩ := H
  replace H : (if t465 = true then (if (l0.length : Int) > 300 then (capnplaw23_GrammarMatchesReference.j0 k l0 l1 true) else (capnplaw23_GrammarMatchesReference.j0 k l0 l1 (decide ((l1.length : Int) > 300)))) else (capnplaw23_GrammarMatchesReference.j0 k l0 l1 true)) = some r := H
  have A4 := Aside0.mk A40
  clear A40
  by_cases c5 : t465 = true
  ·subst c5
   have H1 : (if (l0.length : Int) > 300 then (capnplaw23_GrammarMatchesReference.j0 k l0 l1 true) else (capnplaw23_GrammarMatchesReference.j0 k l0 l1 (decide ((l1.length : Int) > 300)))) = some r := by rw [if_pos rfl] at H; exact H
   clear H
   have H := H1
   clear H1
   by_cases c6 : (l0.length : Int) > 300
   ·rw [if_pos c6] at H
    have c6b0 : decide (300 < (l0.length : Int)) = true := decide_eq_true c6
    have c6b1 : decide (300 < l0.length) = true := decide_eq_true (by omega)
    clear c6
    (first | rw [c6b0] | (simp only [i64_w, i32_w]; rw [c6b0]) | skip)
    have H' := Aside0.mk H
    clear H
    go_wp2_with (first | (go_at_call 9; (with_reducible refine (capnplaw23_awake.calls k  true _ A4.out (Go.Proofs.YtnchacmhjbkmhaaDoor.Un.LaidU.below HL.out pB)).mono ?_); rintro e w7 ⟨rfl, hb⟩; have n0_ := Aside0.mk (below_step pB hb); clear HB; have HB := n0_; clear n0_; (try clear hb); (try clear hb2); (try clear hk); (try clear hi)))
    repeat (go_quiet (first | (go_at_call 9; (with_reducible refine (capnplaw23_awake.calls k  true _ A4.out (Go.Proofs.YtnchacmhjbkmhaaDoor.Un.LaidU.below HL.out pB)).mono ?_); rintro e w7 ⟨rfl, hb⟩; have n0_ := Aside0.mk (below_step pB hb); clear HB; have HB := n0_; clear n0_; (try clear hb); (try clear hb2); (try clear hk); (try clear hi))); try go_wp2_with (first | (go_at_call 9; (with_reducible refine (capnplaw23_awake.calls k  true _ A4.out (Go.Proofs.YtnchacmhjbkmhaaDoor.Un.LaidU.below HL.out pB)).mono ?_); rintro e w7 ⟨rfl, hb⟩; have n0_ := Aside0.mk (below_step pB hb); clear HB; have HB := n0_; clear n0_; (try clear hb); (try clear hb2); (try clear hk); (try clear hi))))
    go_meet
    case rel => exact ⟨_, (true), (by first | rfl | (simp; done) | (simp [*]; done)), H', ⟨by first | omega | exact Nat.le_refl _⟩, ⟨pB⟩⟩
   ·rw [if_neg c6] at H
    have c6b0 : decide (300 < (l0.length : Int)) = false := decide_eq_false c6
    have c6b1 : decide (300 < l0.length) = false := decide_eq_false (by omega)
    clear c6
    (first | rw [c6b0] | (simp only [i64_w, i32_w]; rw [c6b0]) | skip)
    have H' := Aside0.mk H
    clear H
    go_wp2_with (first | (go_at_call 9; (with_reducible refine (capnplaw23_awake.calls k  true _ A4.out (Go.Proofs.YtnchacmhjbkmhaaDoor.Un.LaidU.below HL.out pB)).mono ?_); rintro e w8 ⟨rfl, hb⟩; have n0_ := Aside0.mk (below_step pB hb); clear HB; have HB := n0_; clear n0_; (try clear hb); (try clear hb2); (try clear hk); (try clear hi)))
    repeat (go_quiet (first | (go_at_call 9; (with_reducible refine (capnplaw23_awake.calls k  true _ A4.out (Go.Proofs.YtnchacmhjbkmhaaDoor.Un.LaidU.below HL.out pB)).mono ?_); rintro e w8 ⟨rfl, hb⟩; have n0_ := Aside0.mk (below_step pB hb); clear HB; have HB := n0_; clear n0_; (try clear hb); (try clear hb2); (try clear hk); (try clear hi))); try go_wp2_with (first | (go_at_call 9; (with_reducible refine (capnplaw23_awake.calls k  true _ A4.out (Go.Proofs.YtnchacmhjbkmhaaDoor.Un.LaidU.below HL.out pB)).mono ?_); rintro e w8 ⟨rfl, hb⟩; have n0_ := Aside0.mk (below_step pB hb); clear HB; have HB := n0_; clear n0_; (try clear hb); (try clear hb2); (try clear hk); (try clear hi))))
    go_meet
    case rel => exact ⟨_, (decide ((l1.length : Int) > 300)), (by first | rfl | (simp; done) | (simp [*]; done)), H', ⟨by first | omega | exact Nat.le_refl _⟩, ⟨pB⟩⟩
  ·replace c5 := Bool.eq_false_iff.mpr c5
   subst c5
   have H1 : (capnplaw23_GrammarMatchesReference.j0 k l0 l1 true) = some r := by rw [if_neg (show ¬ (false = true) by decide)] at H; exact H
   clear H
   have H := H1
   clear H1
   have H' := Aside0.mk H
   clear H
   go_wp2_with (first | (go_at_call 9; (with_reducible refine (capnplaw23_awake.calls k  false _ A4.out (Go.Proofs.YtnchacmhjbkmhaaDoor.Un.LaidU.below HL.out pB)).mono ?_); rintro e w9 ⟨rfl, hb⟩; have n0_ := Aside0.mk (below_step pB hb); clear HB; have HB := n0_; clear n0_; (try clear hb); (try clear hb2); (try clear hk); (try clear hi)))
   repeat (go_quiet (first | (go_at_call 9; (with_reducible refine (capnplaw23_awake.calls k  false _ A4.out (Go.Proofs.YtnchacmhjbkmhaaDoor.Un.LaidU.below HL.out pB)).mono ?_); rintro e w9 ⟨rfl, hb⟩; have n0_ := Aside0.mk (below_step pB hb); clear HB; have HB := n0_; clear n0_; (try clear hb); (try clear hb2); (try clear hk); (try clear hi))); try go_wp2_with (first | (go_at_call 9; (with_reducible refine (capnplaw23_awake.calls k  false _ A4.out (Go.Proofs.YtnchacmhjbkmhaaDoor.Un.LaidU.below HL.out pB)).mono ?_); rintro e w9 ⟨rfl, hb⟩; have n0_ := Aside0.mk (below_step pB hb); clear HB; have HB := n0_; clear n0_; (try clear hb); (try clear hb2); (try clear hk); (try clear hi))))
   go_meet
   case rel => exact ⟨_, (true), (by first | rfl | (simp; done) | (simp [*]; done)), H', ⟨by first | omega | exact Nat.le_refl _⟩, ⟨pB⟩⟩
 case rest =>
  clear HC3
  try clear c1
  try clear p2
  try clear c3
  try clear c5
  try clear c6
  try clear c6b0
  try clear c6b1
  obtain ⟨kq, x21_2, rfl, HA, HJ2, HB⟩ := hcut
  cases kq with
  | zero => exact absurd HA.out (by simp [capnplaw23_GrammarMatchesReference.j0])
  | succ kj2 =>
   have H := HA.out
   clear HA
   simp only [capnplaw23_GrammarMatchesReference.j0] at H
   by_cases c10 : x21_2 = true
   ·subst c10
    have H1 : ((capnplaw23_awake.f kj2).bind fun t466 => (some t466)) = some r := by rw [if_pos rfl] at H; exact H
    clear H
    have H := H1
    clear H1
    replace H := Option.bind_eq_some_iff.mp H
    obtain ⟨t466, A110, H⟩ := H
    replace H : (some t466) = some r := H
    have A11 := Aside0.mk A110
    clear A110
    obtain rfl := Option.some.inj H
    go_wp2_with (first | (go_at_call 9; (with_reducible refine (capnplaw23_awake.calls kj2  t466 _ A11.out (Go.Proofs.YtnchacmhjbkmhaaDoor.Un.LaidU.below HL.out pB)).mono ?_); rintro e w12 ⟨rfl, hb⟩; have n0_ := Aside0.mk (below_step pB hb); clear HB; have HB := n0_; clear n0_; (try clear hb); (try clear hb2); (try clear hk); (try clear hi)))
    repeat (go_quiet (first | (go_at_call 9; (with_reducible refine (capnplaw23_awake.calls kj2  t466 _ A11.out (Go.Proofs.YtnchacmhjbkmhaaDoor.Un.LaidU.below HL.out pB)).mono ?_); rintro e w12 ⟨rfl, hb⟩; have n0_ := Aside0.mk (below_step pB hb); clear HB; have HB := n0_; clear n0_; (try clear hb); (try clear hb2); (try clear hk); (try clear hi))); try go_wp2_with (first | (go_at_call 9; (with_reducible refine (capnplaw23_awake.calls kj2  t466 _ A11.out (Go.Proofs.YtnchacmhjbkmhaaDoor.Un.LaidU.below HL.out pB)).mono ?_); rintro e w12 ⟨rfl, hb⟩; have n0_ := Aside0.mk (below_step pB hb); clear HB; have HB := n0_; clear n0_; (try clear hb); (try clear hb2); (try clear hk); (try clear hi))))
    go_ret
    exact ⟨by first | rfl | (simp [errW_none, errW_some] <;> rfl) | (simp [*, errW_none, errW_some] <;> rfl), pB⟩
   ·replace c10 := Bool.eq_false_iff.mpr c10
    subst c10
    have H1 : ((grammar_Groups.f kj2 l0).bind fun bt467 => ((capnpref23_Groups.f kj2 l0).bind fun bt471 => (if (bt471.2 != (bt467.2 == 0)) = true then (capnplaw23_GrammarMatchesReference.j1 kj2 l0 l1 bt467.1 bt471.1 true) else (if bt471.2 = true then (capnplaw23_GrammarMatchesReference.j1 kj2 l0 l1 bt467.1 bt471.1 ((bt467.1.length : Int) != (bt471.1.length : Int))) else (if bt467.2 = 10 then (capnplaw23_GrammarMatchesReference.j1 kj2 l0 l1 bt467.1 bt471.1 ((bt467.1.length : Int) != (bt471.1.length : Int))) else (capnplaw23_GrammarMatchesReference.j1 kj2 l0 l1 bt467.1 bt471.1 true)))))) = some r := by rw [if_neg (show ¬ (false = true) by decide)] at H; exact H
    clear H
    have H := H1
    clear H1
    replace H := Option.bind_eq_some_iff.mp H
    obtain ⟨⟨t467, t468⟩, A130, H⟩ := H
    replace H : ((capnpref23_Groups.f kj2 l0).bind fun bt471 => (if (bt471.2 != (t468 == 0)) = true then (capnplaw23_GrammarMatchesReference.j1 kj2 l0 l1 t467 bt471.1 true) else (if bt471.2 = true then (capnplaw23_GrammarMatchesReference.j1 kj2 l0 l1 t467 bt471.1 ((t467.length : Int) != (bt471.1.length : Int))) else (if t468 = 10 then (capnplaw23_GrammarMatchesReference.j1 kj2 l0 l1 t467 bt471.1 ((t467.length : Int) != (bt471.1.length : Int))) else (capnplaw23_GrammarMatchesReference.j1 kj2 l0 l1 t467 bt471.1 true))))) = some r := H
    have A13 := Aside0.mk A130
    clear A130
    replace H := Option.bind_eq_some_iff.mp H
    obtain ⟨⟨t471, t472⟩, A140, H⟩ := H
    replace H : (if (t472 != (t468 == 0)) = true then (capnplaw23_GrammarMatchesReference.j1 kj2 l0 l1 t467 t471 true) else (if t472 = true then (capnplaw23_GrammarMatchesReference.j1 kj2 l0 l1 t467 t471 ((t467.length : Int) != (t471.length : Int))) else (if t468 = 10 then (capnplaw23_GrammarMatchesReference.j1 kj2 l0 l1 t467 t471 ((t467.length : Int) != (t471.length : Int))) else (capnplaw23_GrammarMatchesReference.j1 kj2 l0 l1 t467 t471 true)))) = some r := H
    have A14 := Aside0.mk A140
    clear A140
    have HC15 := Aside0.mk H
    clear H
    go_upto_region 5 with (first | (go_at_call 10; (with_reducible refine (grammar_Groups.calls kj2 _ _ l0 t467 t468 _ ?side1 ?side2 A13.out).mono ?_); (case side1 => repeat (first | exact (Kd.C_below HR0.out HB.out) | (with_reducible refine Kd.C_alloc ?_ _) | (with_reducible refine Kd.C_drewN ?_ _) | (with_reducible refine Kd.C_drew ?_))); (case side2 => exact HC0.out); rintro e w16 ⟨v469, rfl, ho0, hb⟩; have n0_ := Aside0.mk (Kd.R_lower ho0 (below_size pB)); have n1_ := Aside0.mk (below_step pB hb); clear HB; have HO470 := n0_; have HB := n1_; clear n0_ n1_; (try clear hb); (try clear hb2); (try clear hk); (try clear hi); (try clear ho0)) | (go_at_call 11; (with_reducible refine (capnpref23_Groups.calls kj2 _ _ l0 t471 t472 _ ?side1 ?side2 A14.out).mono ?_); (case side1 => repeat (first | exact (Kd.C_below HR0.out HB.out) | (with_reducible refine Kd.C_alloc ?_ _) | (with_reducible refine Kd.C_drewN ?_ _) | (with_reducible refine Kd.C_drew ?_))); (case side2 => exact HC0.out); rintro e w17 ⟨v473, rfl, ho0, hb⟩; have n0_ := Aside0.mk (Kd.R_below (pR HO470) hb); have n1_ := Aside0.mk (Kd.R_lower ho0 (below_size pB)); have n2_ := Aside0.mk (below_step pB hb); clear HO470; clear HB; have HO470 := n0_; have HO474 := n1_; have HB := n2_; clear n0_ n1_ n2_; (try clear hb); (try clear hb2); (try clear hk); (try clear hi); (try clear ho0)))
    repeat (go_quiet (first | (go_at_call 10; (with_reducible refine (grammar_Groups.calls kj2 _ _ l0 t467 t468 _ ?side1 ?side2 A13.out).mono ?_); (case side1 => repeat (first | exact (Kd.C_below HR0.out HB.out) | (with_reducible refine Kd.C_alloc ?_ _) | (with_reducible refine Kd.C_drewN ?_ _) | (with_reducible refine Kd.C_drew ?_))); (case side2 => exact HC0.out); rintro e w16 ⟨v469, rfl, ho0, hb⟩; have n0_ := Aside0.mk (Kd.R_lower ho0 (below_size pB)); have n1_ := Aside0.mk (below_step pB hb); clear HB; have HO470 := n0_; have HB := n1_; clear n0_ n1_; (try clear hb); (try clear hb2); (try clear hk); (try clear hi); (try clear ho0)) | (go_at_call 11; (with_reducible refine (capnpref23_Groups.calls kj2 _ _ l0 t471 t472 _ ?side1 ?side2 A14.out).mono ?_); (case side1 => repeat (first | exact (Kd.C_below HR0.out HB.out) | (with_reducible refine Kd.C_alloc ?_ _) | (with_reducible refine Kd.C_drewN ?_ _) | (with_reducible refine Kd.C_drew ?_))); (case side2 => exact HC0.out); rintro e w17 ⟨v473, rfl, ho0, hb⟩; have n0_ := Aside0.mk (Kd.R_below (pR HO470) hb); have n1_ := Aside0.mk (Kd.R_lower ho0 (below_size pB)); have n2_ := Aside0.mk (below_step pB hb); clear HO470; clear HB; have HO470 := n0_; have HO474 := n1_; have HB := n2_; clear n0_ n1_ n2_; (try clear hb); (try clear hb2); (try clear hk); (try clear hi); (try clear ho0))); go_upto_region 5 with (first | (go_at_call 10; (with_reducible refine (grammar_Groups.calls kj2 _ _ l0 t467 t468 _ ?side1 ?side2 A13.out).mono ?_); (case side1 => repeat (first | exact (Kd.C_below HR0.out HB.out) | (with_reducible refine Kd.C_alloc ?_ _) | (with_reducible refine Kd.C_drewN ?_ _) | (with_reducible refine Kd.C_drew ?_))); (case side2 => exact HC0.out); rintro e w16 ⟨v469, rfl, ho0, hb⟩; have n0_ := Aside0.mk (Kd.R_lower ho0 (below_size pB)); have n1_ := Aside0.mk (below_step pB hb); clear HB; have HO470 := n0_; have HB := n1_; clear n0_ n1_; (try clear hb); (try clear hb2); (try clear hk); (try clear hi); (try clear ho0)) | (go_at_call 11; (with_reducible refine (capnpref23_Groups.calls kj2 _ _ l0 t471 t472 _ ?side1 ?side2 A14.out).mono ?_); (case side1 => repeat (first | exact (Kd.C_below HR0.out HB.out) | (with_reducible refine Kd.C_alloc ?_ _) | (with_reducible refine Kd.C_drewN ?_ _) | (with_reducible refine Kd.C_drew ?_))); (case side2 => exact HC0.out); rintro e w17 ⟨v473, rfl, ho0, hb⟩; have n0_ := Aside0.mk (Kd.R_below (pR HO470) hb); have n1_ := Aside0.mk (Kd.R_lower ho0 (below_size pB)); have n2_ := Aside0.mk (below_step pB hb); clear HO470; clear HB; have HO470 := n0_; have HO474 := n1_; have HB := n2_; clear n0_ n1_ n2_; (try clear hb); (try clear hb2); (try clear hk); (try clear hi); (try clear ho0))))
    (try simp only [Act.put, List.setIfInBounds_toArray, List.set_cons_zero, List.set_cons_succ])
    go_cut [51] (fun v51 wc => ∃ (kq : Nat) (x51_14 : Bool), v51 = .bool x51_14 ∧ Aside0 (capnplaw23_GrammarMatchesReference.j1 kq l0 l1 t467 t471 x51_14 = some r) ∧ Aside0 (kq ≤ kj2) ∧ Aside0 (Kd.R k33 33 wc w.heap.size (fun _ => True) v469 t467) ∧ Aside0 (Kd.R k34 34 wc w.heap.size (fun _ => True) v473 t471) ∧ Aside0 (Below w.heap.size w wc))
    case first =>
     have H := HC15.out
     clear HC15
     by_cases c18 : (t472 != (t468 == 0)) = true
     ·rw [if_pos c18] at H
      have c18b0 : (t472 != (t468 == 0)) = true := c18
      (try (have c18b1 : decide (t472 = (t468 == 0)) = false := by simpa using c18))
      (try (have c18b2 : (t472 == (t468 == 0)) = false := by simpa using c18))
      (try (have c18b3 : ¬ (t472 = (t468 == 0)) := by simpa using c18))
      clear c18
      (first | rw [c18b0] | (simp only [i64_w, i32_w]; rw [c18b0]) | skip)
      have H' := Aside0.mk H
      clear H
      go_wp2
      repeat (go_quiet (fail); try go_wp2)
      go_meet
      case rel => exact ⟨_, (true), (by first | rfl | (simp; done) | (simp [*]; done)), H', ⟨by have := HJ2.out; first | omega | exact Nat.le_refl _⟩, ⟨pR HO470⟩, ⟨pR HO474⟩, ⟨pB⟩⟩
     ·rw [if_neg c18] at H
      have c18b0 : (t472 != (t468 == 0)) = false := by simpa using c18
      (try (have c18b1 : decide (t472 = (t468 == 0)) = true := by simpa using c18))
      (try (have c18b2 : (t472 == (t468 == 0)) = true := by simpa using c18))
      clear c18
      (first | rw [c18b0] | (simp only [i64_w, i32_w]; rw [c18b0]) | skip)
      by_cases c19 : t472 = true
      ·subst c19
       have H1 : (capnplaw23_GrammarMatchesReference.j1 kj2 l0 l1 t467 t471 ((t467.length : Int) != (t471.length : Int))) = some r := by rw [if_pos rfl] at H; exact H
       clear H
       have H := H1
       clear H1
       have H' := Aside0.mk H
       clear H
       obtain ⟨Ao20, co20, eo20⟩ := Kd.R_slice HO470.out
       subst eo20
       obtain ⟨Ao21, co21, eo21⟩ := Kd.R_slice HO474.out
       subst eo21
       go_wp2
       repeat (go_quiet (fail); try go_wp2)
       go_meet
       case rel => exact ⟨_, (((t467.length : Int) != (t471.length : Int))), (by first | rfl | (simp; done) | (simp [*]; done)), H', ⟨by have := HJ2.out; first | omega | exact Nat.le_refl _⟩, ⟨pR HO470⟩, ⟨pR HO474⟩, ⟨pB⟩⟩
      ·replace c19 := Bool.eq_false_iff.mpr c19
       subst c19
       have H1 : (if t468 = 10 then (capnplaw23_GrammarMatchesReference.j1 kj2 l0 l1 t467 t471 ((t467.length : Int) != (t471.length : Int))) else (capnplaw23_GrammarMatchesReference.j1 kj2 l0 l1 t467 t471 true)) = some r := by rw [if_neg (show ¬ (false = true) by decide)] at H; exact H
       clear H
       have H := H1
       clear H1
       by_cases c22 : t468 = 10
       ·rw [if_pos c22] at H
        have c22b0 : (t468 == 10) = true := beq_iff_eq.mpr c22
        have c22b1 : (t468 != 10) = false := bne_eq_false_iff_eq.mpr c22
        clear c22
        have H' := Aside0.mk H
        clear H
        obtain ⟨Ao23, co23, eo23⟩ := Kd.R_slice HO470.out
        subst eo23
        obtain ⟨Ao24, co24, eo24⟩ := Kd.R_slice HO474.out
        subst eo24
        go_wp2
        repeat (go_quiet (fail); try go_wp2)
        go_meet
        case rel => exact ⟨_, (((t467.length : Int) != (t471.length : Int))), (by first | rfl | (simp; done) | (simp [*]; done)), H', ⟨by have := HJ2.out; first | omega | exact Nat.le_refl _⟩, ⟨pR HO470⟩, ⟨pR HO474⟩, ⟨pB⟩⟩
       ·rw [if_neg c22] at H
        have c22b0 : (t468 == 10) = false := beq_eq_false_iff_ne.mpr c22
        have c22b1 : (t468 != 10) = true := bne_iff_ne.mpr c22
        have H' := Aside0.mk H
        clear H
        go_wp2
        repeat (go_quiet (fail); try go_wp2)
        go_meet
        case rel => exact ⟨_, (true), (by first | rfl | (simp; done) | (simp [*]; done)), H', ⟨by have := HJ2.out; first | omega | exact Nat.le_refl _⟩, ⟨pR HO470⟩, ⟨pR HO474⟩, ⟨pB⟩⟩
    case rest =>
     clear HC15
     try clear c1
     try clear c2
     try clear p2
     try clear c3
     try clear c5
     try clear c6
     try clear c6b0
     try clear c6b1
     try clear c10
     try clear c18
     try clear c18b0
     try clear c18b1
     try clear c18b2
     try clear c19
     try clear c22
     try clear c22b0
     try clear c22b1
     try clear p2
     obtain ⟨kq, x51_14, rfl, HA, HJ14, HO_5, HO_7, HB⟩ := hcut
     cases kq with
     | zero => exact absurd HA.out (by simp [capnplaw23_GrammarMatchesReference.j1])
     | succ kj14 =>
      have H := HA.out
      clear HA
      simp only [capnplaw23_GrammarMatchesReference.j1] at H
      by_cases c25 : x51_14 = true
      ·subst c25
       have H1 : (some false) = some r := by rw [if_pos rfl] at H; exact H
       clear H
       have H := H1
       clear H1
       obtain rfl := Option.some.inj H
       go_wp2
       repeat (go_quiet (fail); try go_wp2)
       go_ret
       exact ⟨by first | rfl | (simp [errW_none, errW_some] <;> rfl) | (simp [*, errW_none, errW_some] <;> rfl), pB⟩
      ·replace c25 := Bool.eq_false_iff.mpr c25
       subst c25
       have H1 : (capnplaw23_GrammarMatchesReference.l0 kj14 l0 l1 t467 t471 0) = some r := by rw [if_neg (show ¬ (false = true) by decide)] at H; exact H
       clear H
       have H := H1
       clear H1
       have H' := Aside0.mk H
       clear H
       go_wp2
       repeat (go_quiet (fail); try go_wp2)
       go_loopg [9] kj14 (fun kq v9 w' => ∃ (x9_3 : Int), v9 = .int .i64 x9_3 ∧ Aside0 (capnplaw23_GrammarMatchesReference.l0 kq l0 l1 t467 t471 x9_3 = some r) ∧ Aside0 (kq ≤ kj14) ∧ Aside0 (Kd.R k33 33 w' w.heap.size (fun _ => True) v469 t467) ∧ Aside0 (Kd.R k34 34 w' w.heap.size (fun _ => True) v473 t471) ∧ Aside0 (Below w.heap.size w w'))
       case atStart => exact ⟨(0), (by first | rfl | (simp; done) | (simp [*]; done)), H', ⟨Nat.le_refl _⟩, ⟨pR HO_5⟩, ⟨pR HO_7⟩, ⟨pB⟩⟩
       case round =>
        clear H'
        try clear c1
        try clear c2
        try clear p2
        try clear c3
        try clear c5
        try clear c6
        try clear c6b0
        try clear c6b1
        try clear c10
        try clear c18
        try clear c18b0
        try clear c18b1
        try clear c18b2
        try clear c19
        try clear c22
        try clear c22b0
        try clear c22b1
        try clear c25
        try clear p2
        obtain ⟨x9_3, rfl, HA, HK3, HO_5, HO_7, HB⟩ := hrel
        cases gk with
        | zero => exact absurd HA.out (by simp [capnplaw23_GrammarMatchesReference.l0])
        | succ k3 =>
         have H := HA.out
         clear HA
         simp only [capnplaw23_GrammarMatchesReference.l0] at H
         by_cases c26 : x9_3 < (t467.length : Int)
         ·rw [if_pos c26] at H
          have c26b0 : decide (x9_3 < (t467.length : Int)) = true := decide_eq_true c26
          clear c26
          by_cases c27 : 0 ≤ x9_3
          ·rw [if_pos c27] at H
           have c27b0 : decide (0 ≤ x9_3) = true := decide_eq_true c27
           clear c27
           by_cases c28 : x9_3 < (t471.length : Int)
           ·rw [if_pos c28] at H
            have c28b0 : decide (x9_3 < (t471.length : Int)) = true := decide_eq_true c28
            clear c28
            by_cases c29 : (!(((rd_T33 t467 x9_3).f0) == ((rd_T34 t471 x9_3).f0)) || (!(((rd_T33 t467 x9_3).f1) == ((rd_T34 t471 x9_3).f1)) || (!(((rd_T33 t467 x9_3).f2) == ((rd_T34 t471 x9_3).f2)) || (!(((rd_T33 t467 x9_3).f3) == ((rd_T34 t471 x9_3).f3)) || (!(((rd_T33 t467 x9_3).f4) == ((rd_T34 t471 x9_3).f4))))))) = true
            ·rw [if_pos c29] at H
             have c29b0 : (!(((rd_T33 t467 x9_3).f0) == ((rd_T34 t471 x9_3).f0)) || (!(((rd_T33 t467 x9_3).f1) == ((rd_T34 t471 x9_3).f1)) || (!(((rd_T33 t467 x9_3).f2) == ((rd_T34 t471 x9_3).f2)) || (!(((rd_T33 t467 x9_3).f3) == ((rd_T34 t471 x9_3).f3)) || (!(((rd_T33 t467 x9_3).f4) == ((rd_T34 t471 x9_3).f4))))))) = true := c29
             clear c29
             obtain rfl := Option.some.inj H
             obtain ⟨Ao30, co30, eo30⟩ := Kd.R_slice HO_5.out
             subst eo30
             have p475 : 0 ≤ (x9_3 : Int) := of_decide_eq_true pA
             have q475 : x9_3 < (t467.length : Int) := of_decide_eq_true pA
             try (obtain ⟨Aq_, cq_, eq_⟩ := Kd.R_slice HO_5.out; subst eq_)
             obtain ⟨ad475, e475, hx475_0, hx475_1, hx475_2, hx475_3, hx475_4⟩ := at_T33 (Kd.R_reads' HO_5.out).2.2 x9_3 p475 q475
             cases e475
             replace p475 := eq_true p475
             replace q475 := eq_true q475
             obtain ⟨Ao31, co31, eo31⟩ := Kd.R_slice HO_7.out
             subst eo31
             have p476 : 0 ≤ (x9_3 : Int) := of_decide_eq_true pA
             have q476 : x9_3 < (t471.length : Int) := of_decide_eq_true pA
             try (obtain ⟨Aq_, cq_, eq_⟩ := Kd.R_slice HO_7.out; subst eq_)
             obtain ⟨ad476, e476, hx476_0, hx476_1, hx476_2, hx476_3, hx476_4⟩ := at_T34 (Kd.R_reads' HO_7.out).2.2 x9_3 p476 q476
             cases e476
             replace p476 := eq_true p476
             replace q476 := eq_true q476
             have p477 : 0 ≤ (x9_3 : Int) := of_decide_eq_true pA
             have q477 : x9_3 < (t471.length : Int) := of_decide_eq_true pA
             try (obtain ⟨Aq_, cq_, eq_⟩ := Kd.R_slice HO_7.out; subst eq_)
             obtain ⟨ad477, e477, hx477_0, hx477_1, hx477_2, hx477_3, hx477_4⟩ := at_T34 (Kd.R_reads' HO_7.out).2.2 x9_3 p477 q477
             obtain rfl : ad476 = ad477 := (by injection e477)
             replace p477 := eq_true p477
             replace q477 := eq_true q477
             have p478 : 0 ≤ (x9_3 : Int) := of_decide_eq_true pA
             have q478 : x9_3 < (t471.length : Int) := of_decide_eq_true pA
             try (obtain ⟨Aq_, cq_, eq_⟩ := Kd.R_slice HO_7.out; subst eq_)
             obtain ⟨ad478, e478, hx478_0, hx478_1, hx478_2, hx478_3, hx478_4⟩ := at_T34 (Kd.R_reads' HO_7.out).2.2 x9_3 p478 q478
             obtain rfl : ad476 = ad478 := (by injection e478)
             replace p478 := eq_true p478
             replace q478 := eq_true q478
             have p479 : 0 ≤ (x9_3 : Int) := of_decide_eq_true pA
             have q479 : x9_3 < (t471.length : Int) := of_decide_eq_true pA
             try (obtain ⟨Aq_, cq_, eq_⟩ := Kd.R_slice HO_7.out; subst eq_)
             obtain ⟨ad479, e479, hx479_0, hx479_1, hx479_2, hx479_3, hx479_4⟩ := at_T34 (Kd.R_reads' HO_7.out).2.2 x9_3 p479 q479
             obtain rfl : ad476 = ad479 := (by injection e479)
             replace p479 := eq_true p479
             replace q479 := eq_true q479
             have p480 : 0 ≤ (x9_3 : Int) := of_decide_eq_true pA
             have q480 : x9_3 < (t471.length : Int) := of_decide_eq_true pA
             try (obtain ⟨Aq_, cq_, eq_⟩ := Kd.R_slice HO_7.out; subst eq_)
             obtain ⟨ad480, e480, hx480_0, hx480_1, hx480_2, hx480_3, hx480_4⟩ := at_T34 (Kd.R_reads' HO_7.out).2.2 x9_3 p480 q480
             obtain rfl : ad476 = ad480 := (by injection e480)
             replace p480 := eq_true p480
             replace q480 := eq_true q480
             go_wp2
             repeat (go_quiet (fail); try go_wp2)
             go_ret
             exact ⟨by first | rfl | (simp [errW_none, errW_some] <;> rfl) | (simp [*, errW_none, errW_some] <;> rfl), pB⟩
            ·rw [if_neg c29] at H
             have c29b0 : (!(((rd_T33 t467 x9_3).f0) == ((rd_T34 t471 x9_3).f0)) || (!(((rd_T33 t467 x9_3).f1) == ((rd_T34 t471 x9_3).f1)) || (!(((rd_T33 t467 x9_3).f2) == ((rd_T34 t471 x9_3).f2)) || (!(((rd_T33 t467 x9_3).f3) == ((rd_T34 t471 x9_3).f3)) || (!(((rd_T33 t467 x9_3).f4) == ((rd_T34 t471 x9_3).f4))))))) = false := by simpa using c29
             clear c29
             have H' := Aside0.mk H
             clear H
             obtain ⟨Ao32, co32, eo32⟩ := Kd.R_slice HO_5.out
             subst eo32
             have p475 : 0 ≤ (x9_3 : Int) := of_decide_eq_true pA
             have q475 : x9_3 < (t467.length : Int) := of_decide_eq_true pA
             try (obtain ⟨Aq_, cq_, eq_⟩ := Kd.R_slice HO_5.out; subst eq_)
             obtain ⟨ad475, e475, hx475_0, hx475_1, hx475_2, hx475_3, hx475_4⟩ := at_T33 (Kd.R_reads' HO_5.out).2.2 x9_3 p475 q475
             cases e475
             replace p475 := eq_true p475
             replace q475 := eq_true q475
             obtain ⟨Ao33, co33, eo33⟩ := Kd.R_slice HO_7.out
             subst eo33
             have p476 : 0 ≤ (x9_3 : Int) := of_decide_eq_true pA
             have q476 : x9_3 < (t471.length : Int) := of_decide_eq_true pA
             try (obtain ⟨Aq_, cq_, eq_⟩ := Kd.R_slice HO_7.out; subst eq_)
             obtain ⟨ad476, e476, hx476_0, hx476_1, hx476_2, hx476_3, hx476_4⟩ := at_T34 (Kd.R_reads' HO_7.out).2.2 x9_3 p476 q476
             cases e476
             replace p476 := eq_true p476
             replace q476 := eq_true q476
             have p477 : 0 ≤ (x9_3 : Int) := of_decide_eq_true pA
             have q477 : x9_3 < (t471.length : Int) := of_decide_eq_true pA
             try (obtain ⟨Aq_, cq_, eq_⟩ := Kd.R_slice HO_7.out; subst eq_)
             obtain ⟨ad477, e477, hx477_0, hx477_1, hx477_2, hx477_3, hx477_4⟩ := at_T34 (Kd.R_reads' HO_7.out).2.2 x9_3 p477 q477
             obtain rfl : ad476 = ad477 := (by injection e477)
             replace p477 := eq_true p477
             replace q477 := eq_true q477
             have p478 : 0 ≤ (x9_3 : Int) := of_decide_eq_true pA
             have q478 : x9_3 < (t471.length : Int) := of_decide_eq_true pA
             try (obtain ⟨Aq_, cq_, eq_⟩ := Kd.R_slice HO_7.out; subst eq_)
             obtain ⟨ad478, e478, hx478_0, hx478_1, hx478_2, hx478_3, hx478_4⟩ := at_T34 (Kd.R_reads' HO_7.out).2.2 x9_3 p478 q478
             obtain rfl : ad476 = ad478 := (by injection e478)
             replace p478 := eq_true p478
             replace q478 := eq_true q478
             have p479 : 0 ≤ (x9_3 : Int) := of_decide_eq_true pA
             have q479 : x9_3 < (t471.length : Int) := of_decide_eq_true pA
             try (obtain ⟨Aq_, cq_, eq_⟩ := Kd.R_slice HO_7.out; subst eq_)
             obtain ⟨ad479, e479, hx479_0, hx479_1, hx479_2, hx479_3, hx479_4⟩ := at_T34 (Kd.R_reads' HO_7.out).2.2 x9_3 p479 q479
             obtain rfl : ad476 = ad479 := (by injection e479)
             replace p479 := eq_true p479
             replace q479 := eq_true q479
             have p480 : 0 ≤ (x9_3 : Int) := of_decide_eq_true pA
             have q480 : x9_3 < (t471.length : Int) := of_decide_eq_true pA
             try (obtain ⟨Aq_, cq_, eq_⟩ := Kd.R_slice HO_7.out; subst eq_)
             obtain ⟨ad480, e480, hx480_0, hx480_1, hx480_2, hx480_3, hx480_4⟩ := at_T34 (Kd.R_reads' HO_7.out).2.2 x9_3 p480 q480
             obtain rfl : ad476 = ad480 := (by injection e480)
             replace p480 := eq_true p480
             replace q480 := eq_true q480
             go_wp2
             repeat (go_quiet (fail); try go_wp2)
             go_roundg k3
             case measure => have := HJ2.out; have := HJ14.out; have := HK3.out; omega
             case rel => exact ⟨(wrap64 (x9_3 + 1)), (by first | rfl | (simp; done) | (simp [*]; done)), H', ⟨by have := HJ2.out; have := HJ14.out; have := HK3.out; omega⟩, ⟨pR HO_5⟩, ⟨pR HO_7⟩, ⟨pB⟩⟩
           ·rw [if_neg c28] at H
            exact absurd H (by simp)
          ·rw [if_neg c27] at H
           exact absurd H (by simp)
         ·rw [if_neg c26] at H
          have c26b0 : decide (x9_3 < (t467.length : Int)) = false := decide_eq_false c26
          clear c26
          replace H := Option.bind_eq_some_iff.mp H
          obtain ⟨t481, A340, H⟩ := H
          replace H : ((capnpref23_Accepts.f k3 l0 l1).bind fun t482 => (if (t481 == t482) = true then ((grammar_Canonical.f k3 l0).bind fun t483 => ((capnpref23_Canonical.f k3 l0).bind fun t484 => (if (t483 == t484) = true then ((grammar_Ways.f l1).bind fun t485 => ((capnpref23_Ways.f k3 l1).bind fun t486 => (if t485 = t486 then ((grammar_Shortest.f l1).bind fun t487 => ((capnpref23_Shortest.f k3 l1).bind fun t488 => (some (t487 == t488)))) else (none)))) else (none)))) else (none))) = some r := H
          have A34 := Aside0.mk A340
          clear A340
          replace H := Option.bind_eq_some_iff.mp H
          obtain ⟨t482, A350, H⟩ := H
          replace H : (if (t481 == t482) = true then ((grammar_Canonical.f k3 l0).bind fun t483 => ((capnpref23_Canonical.f k3 l0).bind fun t484 => (if (t483 == t484) = true then ((grammar_Ways.f l1).bind fun t485 => ((capnpref23_Ways.f k3 l1).bind fun t486 => (if t485 = t486 then ((grammar_Shortest.f l1).bind fun t487 => ((capnpref23_Shortest.f k3 l1).bind fun t488 => (some (t487 == t488)))) else (none)))) else (none)))) else (none)) = some r := H
          have A35 := Aside0.mk A350
          clear A350
          by_cases c36 : (t481 == t482) = true
          ·rw [if_pos c36] at H
           have c36b0 : (t481 == t482) = true := c36
           (try (have c36b1 : decide (t481 = t482) = true := by simpa using c36))
           (try (have c36b2 : (t481 == t482) = true := by simpa using c36))
           clear c36
           replace H := Option.bind_eq_some_iff.mp H
           obtain ⟨t483, A370, H⟩ := H
           replace H : ((capnpref23_Canonical.f k3 l0).bind fun t484 => (if (t483 == t484) = true then ((grammar_Ways.f l1).bind fun t485 => ((capnpref23_Ways.f k3 l1).bind fun t486 => (if t485 = t486 then ((grammar_Shortest.f l1).bind fun t487 => ((capnpref23_Shortest.f k3 l1).bind fun t488 => (some (t487 == t488)))) else (none)))) else (none))) = some r := H
           have A37 := Aside0.mk A370
           clear A370
           replace H := Option.bind_eq_some_iff.mp H
           obtain ⟨t484, A380, H⟩ := H
           replace H : (if (t483 == t484) = true then ((grammar_Ways.f l1).bind fun t485 => ((capnpref23_Ways.f k3 l1).bind fun t486 => (if t485 = t486 then ((grammar_Shortest.f l1).bind fun t487 => ((capnpref23_Shortest.f k3 l1).bind fun t488 => (some (t487 == t488)))) else (none)))) else (none)) = some r := H
           have A38 := Aside0.mk A380
           clear A380
           by_cases c39 : (t483 == t484) = true
           ·rw [if_pos c39] at H
            have c39b0 : (t483 == t484) = true := c39
            (try (have c39b1 : decide (t483 = t484) = true := by simpa using c39))
            (try (have c39b2 : (t483 == t484) = true := by simpa using c39))
            clear c39
            replace H := Option.bind_eq_some_iff.mp H
            obtain ⟨t485, A400, H⟩ := H
            replace H : ((capnpref23_Ways.f k3 l1).bind fun t486 => (if t485 = t486 then ((grammar_Shortest.f l1).bind fun t487 => ((capnpref23_Shortest.f k3 l1).bind fun t488 => (some (t487 == t488)))) else (none))) = some r := H
            have A40 := Aside0.mk A400
            clear A400
            replace H := Option.bind_eq_some_iff.mp H
            obtain ⟨t486, A410, H⟩ := H
            replace H : (if t485 = t486 then ((grammar_Shortest.f l1).bind fun t487 => ((capnpref23_Shortest.f k3 l1).bind fun t488 => (some (t487 == t488)))) else (none)) = some r := H
            have A41 := Aside0.mk A410
            clear A410
            by_cases c42 : t485 = t486
            ·rw [if_pos c42] at H
             have c42b0 : (t485 == t486) = true := beq_iff_eq.mpr c42
             have c42b1 : (t485 != t486) = false := bne_eq_false_iff_eq.mpr c42
             clear c42
             replace H := Option.bind_eq_some_iff.mp H
             obtain ⟨t487, A430, H⟩ := H
             replace H : ((capnpref23_Shortest.f k3 l1).bind fun t488 => (some (t487 == t488))) = some r := H
             have A43 := Aside0.mk A430
             clear A430
             replace H := Option.bind_eq_some_iff.mp H
             obtain ⟨t488, A440, H⟩ := H
             replace H : (some (t487 == t488)) = some r := H
             have A44 := Aside0.mk A440
             clear A440
             obtain rfl := Option.some.inj H
             obtain ⟨Ao45, co45, eo45⟩ := Kd.R_slice HO_5.out
             subst eo45
             go_wp2_with (first | (go_at_call 12; (with_reducible refine (grammar_Accepts.calls k3 _ _ l0 _ _ l1 t481 _ ?side1 ?side2 ?side3 ?side4 A34.out (Go.Proofs.YtnchacmhjbkmhaaDoor.Un.LaidU.below HL.out pB)).mono ?_); (case side1 => repeat (first | exact (Kd.C_below HR0.out HB.out) | (with_reducible refine Kd.C_alloc ?_ _) | (with_reducible refine Kd.C_drewN ?_ _) | (with_reducible refine Kd.C_drew ?_))); (case side2 => exact HC0.out); (case side3 => repeat (first | exact (Kd.C_below HR1.out HB.out) | (with_reducible refine Kd.C_alloc ?_ _) | (with_reducible refine Kd.C_drewN ?_ _) | (with_reducible refine Kd.C_drew ?_))); (case side4 => exact HC1.out); rintro e w46 ⟨rfl, hb⟩; have n0_ := Aside0.mk (Kd.R_below (pR HO_5) hb); have n1_ := Aside0.mk (Kd.R_below (pR HO_7) hb); have n2_ := Aside0.mk (below_step pB hb); clear HO_5; clear HO_7; clear HB; have HO_5 := n0_; have HO_7 := n1_; have HB := n2_; clear n0_ n1_ n2_; (try clear hb); (try clear hb2); (try clear hk); (try clear hi)) | (go_at_call 13; (with_reducible refine (capnpref23_Accepts.calls k3 _ _ l0 _ _ l1 t482 _ ?side1 ?side2 ?side3 ?side4 A35.out).mono ?_); (case side1 => repeat (first | exact (Kd.C_below HR0.out HB.out) | (with_reducible refine Kd.C_alloc ?_ _) | (with_reducible refine Kd.C_drewN ?_ _) | (with_reducible refine Kd.C_drew ?_))); (case side2 => exact HC0.out); (case side3 => repeat (first | exact (Kd.C_below HR1.out HB.out) | (with_reducible refine Kd.C_alloc ?_ _) | (with_reducible refine Kd.C_drewN ?_ _) | (with_reducible refine Kd.C_drew ?_))); (case side4 => exact HC1.out); rintro e w47 ⟨rfl, hb⟩; have n0_ := Aside0.mk (Kd.R_below (pR HO_5) hb); have n1_ := Aside0.mk (Kd.R_below (pR HO_7) hb); have n2_ := Aside0.mk (below_step pB hb); clear HO_5; clear HO_7; clear HB; have HO_5 := n0_; have HO_7 := n1_; have HB := n2_; clear n0_ n1_ n2_; (try clear hb); (try clear hb2); (try clear hk); (try clear hi)) | (go_at_call 14; (with_reducible refine (grammar_Canonical.calls k3 _ _ l0 t483 _ ?side1 ?side2 A37.out (Go.Proofs.YtnchacmhjbkmhaaDoor.Un.LaidU.below HL.out pB)).mono ?_); (case side1 => repeat (first | exact (Kd.C_below HR0.out HB.out) | (with_reducible refine Kd.C_alloc ?_ _) | (with_reducible refine Kd.C_drewN ?_ _) | (with_reducible refine Kd.C_drew ?_))); (case side2 => exact HC0.out); rintro e w48 ⟨rfl, hb⟩; have n0_ := Aside0.mk (Kd.R_below (pR HO_5) hb); have n1_ := Aside0.mk (Kd.R_below (pR HO_7) hb); have n2_ := Aside0.mk (below_step pB hb); clear HO_5; clear HO_7; clear HB; have HO_5 := n0_; have HO_7 := n1_; have HB := n2_; clear n0_ n1_ n2_; (try clear hb); (try clear hb2); (try clear hk); (try clear hi)) | (go_at_call 15; (with_reducible refine (capnpref23_Canonical.calls k3 _ _ l0 t484 _ ?side1 ?side2 A38.out).mono ?_); (case side1 => repeat (first | exact (Kd.C_below HR0.out HB.out) | (with_reducible refine Kd.C_alloc ?_ _) | (with_reducible refine Kd.C_drewN ?_ _) | (with_reducible refine Kd.C_drew ?_))); (case side2 => exact HC0.out); rintro e w49 ⟨rfl, hb⟩; have n0_ := Aside0.mk (Kd.R_below (pR HO_5) hb); have n1_ := Aside0.mk (Kd.R_below (pR HO_7) hb); have n2_ := Aside0.mk (below_step pB hb); clear HO_5; clear HO_7; clear HB; have HO_5 := n0_; have HO_7 := n1_; have HB := n2_; clear n0_ n1_ n2_; (try clear hb); (try clear hb2); (try clear hk); (try clear hi)) | (go_at_call 16; (with_reducible refine (grammar_Ways.calls _ _ l1 t485 _ ?side1 ?side2 A40.out).mono ?_); (case side1 => repeat (first | exact (Kd.C_below HR1.out HB.out) | (with_reducible refine Kd.C_alloc ?_ _) | (with_reducible refine Kd.C_drewN ?_ _) | (with_reducible refine Kd.C_drew ?_))); (case side2 => exact HC1.out); rintro e w50 ⟨rfl, hb⟩; have n0_ := Aside0.mk (Kd.R_below (pR HO_5) hb); have n1_ := Aside0.mk (Kd.R_below (pR HO_7) hb); have n2_ := Aside0.mk (below_step pB hb); clear HO_5; clear HO_7; clear HB; have HO_5 := n0_; have HO_7 := n1_; have HB := n2_; clear n0_ n1_ n2_; (try clear hb); (try clear hb2); (try clear hk); (try clear hi)) | (go_at_call 17; (with_reducible refine (capnpref23_Ways.calls k3 _ _ l1 t486 _ ?side1 ?side2 A41.out).mono ?_); (case side1 => repeat (first | exact (Kd.C_below HR1.out HB.out) | (with_reducible refine Kd.C_alloc ?_ _) | (with_reducible refine Kd.C_drewN ?_ _) | (with_reducible refine Kd.C_drew ?_))); (case side2 => exact HC1.out); rintro e w51 ⟨rfl, hb⟩; have n0_ := Aside0.mk (Kd.R_below (pR HO_5) hb); have n1_ := Aside0.mk (Kd.R_below (pR HO_7) hb); have n2_ := Aside0.mk (below_step pB hb); clear HO_5; clear HO_7; clear HB; have HO_5 := n0_; have HO_7 := n1_; have HB := n2_; clear n0_ n1_ n2_; (try clear hb); (try clear hb2); (try clear hk); (try clear hi)) | (go_at_call 18; (with_reducible refine (grammar_Shortest.calls _ _ l1 t487 _ ?side1 ?side2 A43.out).mono ?_); (case side1 => repeat (first | exact (Kd.C_below HR1.out HB.out) | (with_reducible refine Kd.C_alloc ?_ _) | (with_reducible refine Kd.C_drewN ?_ _) | (with_reducible refine Kd.C_drew ?_))); (case side2 => exact HC1.out); rintro e w52 ⟨rfl, hb⟩; have n0_ := Aside0.mk (Kd.R_below (pR HO_5) hb); have n1_ := Aside0.mk (Kd.R_below (pR HO_7) hb); have n2_ := Aside0.mk (below_step pB hb); clear HO_5; clear HO_7; clear HB; have HO_5 := n0_; have HO_7 := n1_; have HB := n2_; clear n0_ n1_ n2_; (try clear hb); (try clear hb2); (try clear hk); (try clear hi)) | (go_at_call 19; (with_reducible refine (capnpref23_Shortest.calls k3 _ _ l1 t488 _ ?side1 ?side2 A44.out).mono ?_); (case side1 => repeat (first | exact (Kd.C_below HR1.out HB.out) | (with_reducible refine Kd.C_alloc ?_ _) | (with_reducible refine Kd.C_drewN ?_ _) | (with_reducible refine Kd.C_drew ?_))); (case side2 => exact HC1.out); rintro e w53 ⟨rfl, hb⟩; have n0_ := Aside0.mk (Kd.R_below (pR HO_5) hb); have n1_ := Aside0.mk (Kd.R_below (pR HO_7) hb); have n2_ := Aside0.mk (below_step pB hb); clear HO_5; clear HO_7; clear HB; have HO_5 := n0_; have HO_7 := n1_; have HB := n2_; clear n0_ n1_ n2_; (try clear hb); (try clear hb2); (try clear hk); (try clear hi)))
             repeat (go_quiet (first | (go_at_call 12; (with_reducible refine (grammar_Accepts.calls k3 _ _ l0 _ _ l1 t481 _ ?side1 ?side2 ?side3 ?side4 A34.out (Go.Proofs.YtnchacmhjbkmhaaDoor.Un.LaidU.below HL.out pB)).mono ?_); (case side1 => repeat (first | exact (Kd.C_below HR0.out HB.out) | (with_reducible refine Kd.C_alloc ?_ _) | (with_reducible refine Kd.C_drewN ?_ _) | (with_reducible refine Kd.C_drew ?_))); (case side2 => exact HC0.out); (case side3 => repeat (first | exact (Kd.C_below HR1.out HB.out) | (with_reducible refine Kd.C_alloc ?_ _) | (with_reducible refine Kd.C_drewN ?_ _) | (with_reducible refine Kd.C_drew ?_))); (case side4 => exact HC1.out); rintro e w46 ⟨rfl, hb⟩; have n0_ := Aside0.mk (Kd.R_below (pR HO_5) hb); have n1_ := Aside0.mk (Kd.R_below (pR HO_7) hb); have n2_ := Aside0.mk (below_step pB hb); clear HO_5; clear HO_7; clear HB; have HO_5 := n0_; have HO_7 := n1_; have HB := n2_; clear n0_ n1_ n2_; (try clear hb); (try clear hb2); (try clear hk); (try clear hi)) | (go_at_call 13; (with_reducible refine (capnpref23_Accepts.calls k3 _ _ l0 _ _ l1 t482 _ ?side1 ?side2 ?side3 ?side4 A35.out).mono ?_); (case side1 => repeat (first | exact (Kd.C_below HR0.out HB.out) | (with_reducible refine Kd.C_alloc ?_ _) | (with_reducible refine Kd.C_drewN ?_ _) | (with_reducible refine Kd.C_drew ?_))); (case side2 => exact HC0.out); (case side3 => repeat (first | exact (Kd.C_below HR1.out HB.out) | (with_reducible refine Kd.C_alloc ?_ _) | (with_reducible refine Kd.C_drewN ?_ _) | (with_reducible refine Kd.C_drew ?_))); (case side4 => exact HC1.out); rintro e w47 ⟨rfl, hb⟩; have n0_ := Aside0.mk (Kd.R_below (pR HO_5) hb); have n1_ := Aside0.mk (Kd.R_below (pR HO_7) hb); have n2_ := Aside0.mk (below_step pB hb); clear HO_5; clear HO_7; clear HB; have HO_5 := n0_; have HO_7 := n1_; have HB := n2_; clear n0_ n1_ n2_; (try clear hb); (try clear hb2); (try clear hk); (try clear hi)) | (go_at_call 14; (with_reducible refine (grammar_Canonical.calls k3 _ _ l0 t483 _ ?side1 ?side2 A37.out (Go.Proofs.YtnchacmhjbkmhaaDoor.Un.LaidU.below HL.out pB)).mono ?_); (case side1 => repeat (first | exact (Kd.C_below HR0.out HB.out) | (with_reducible refine Kd.C_alloc ?_ _) | (with_reducible refine Kd.C_drewN ?_ _) | (with_reducible refine Kd.C_drew ?_))); (case side2 => exact HC0.out); rintro e w48 ⟨rfl, hb⟩; have n0_ := Aside0.mk (Kd.R_below (pR HO_5) hb); have n1_ := Aside0.mk (Kd.R_below (pR HO_7) hb); have n2_ := Aside0.mk (below_step pB hb); clear HO_5; clear HO_7; clear HB; have HO_5 := n0_; have HO_7 := n1_; have HB := n2_; clear n0_ n1_ n2_; (try clear hb); (try clear hb2); (try clear hk); (try clear hi)) | (go_at_call 15; (with_reducible refine (capnpref23_Canonical.calls k3 _ _ l0 t484 _ ?side1 ?side2 A38.out).mono ?_); (case side1 => repeat (first | exact (Kd.C_below HR0.out HB.out) | (with_reducible refine Kd.C_alloc ?_ _) | (with_reducible refine Kd.C_drewN ?_ _) | (with_reducible refine Kd.C_drew ?_))); (case side2 => exact HC0.out); rintro e w49 ⟨rfl, hb⟩; have n0_ := Aside0.mk (Kd.R_below (pR HO_5) hb); have n1_ := Aside0.mk (Kd.R_below (pR HO_7) hb); have n2_ := Aside0.mk (below_step pB hb); clear HO_5; clear HO_7; clear HB; have HO_5 := n0_; have HO_7 := n1_; have HB := n2_; clear n0_ n1_ n2_; (try clear hb); (try clear hb2); (try clear hk); (try clear hi)) | (go_at_call 16; (with_reducible refine (grammar_Ways.calls _ _ l1 t485 _ ?side1 ?side2 A40.out).mono ?_); (case side1 => repeat (first | exact (Kd.C_below HR1.out HB.out) | (with_reducible refine Kd.C_alloc ?_ _) | (with_reducible refine Kd.C_drewN ?_ _) | (with_reducible refine Kd.C_drew ?_))); (case side2 => exact HC1.out); rintro e w50 ⟨rfl, hb⟩; have n0_ := Aside0.mk (Kd.R_below (pR HO_5) hb); have n1_ := Aside0.mk (Kd.R_below (pR HO_7) hb); have n2_ := Aside0.mk (below_step pB hb); clear HO_5; clear HO_7; clear HB; have HO_5 := n0_; have HO_7 := n1_; have HB := n2_; clear n0_ n1_ n2_; (try clear hb); (try clear hb2); (try clear hk); (try clear hi)) | (go_at_call 17; (with_reducible refine (capnpref23_Ways.calls k3 _ _ l1 t486 _ ?side1 ?side2 A41.out).mono ?_); (case side1 => repeat (first | exact (Kd.C_below HR1.out HB.out) | (with_reducible refine Kd.C_alloc ?_ _) | (with_reducible refine Kd.C_drewN ?_ _) | (with_reducible refine Kd.C_drew ?_))); (case side2 => exact HC1.out); rintro e w51 ⟨rfl, hb⟩; have n0_ := Aside0.mk (Kd.R_below (pR HO_5) hb); have n1_ := Aside0.mk (Kd.R_below (pR HO_7) hb); have n2_ := Aside0.mk (below_step pB hb); clear HO_5; clear HO_7; clear HB; have HO_5 := n0_; have HO_7 := n1_; have HB := n2_; clear n0_ n1_ n2_; (try clear hb); (try clear hb2); (try clear hk); (try clear hi)) | (go_at_call 18; (with_reducible refine (grammar_Shortest.calls _ _ l1 t487 _ ?side1 ?side2 A43.out).mono ?_); (case side1 => repeat (first | exact (Kd.C_below HR1.out HB.out) | (with_reducible refine Kd.C_alloc ?_ _) | (with_reducible refine Kd.C_drewN ?_ _) | (with_reducible refine Kd.C_drew ?_))); (case side2 => exact HC1.out); rintro e w52 ⟨rfl, hb⟩; have n0_ := Aside0.mk (Kd.R_below (pR HO_5) hb); have n1_ := Aside0.mk (Kd.R_below (pR HO_7) hb); have n2_ := Aside0.mk (below_step pB hb); clear HO_5; clear HO_7; clear HB; have HO_5 := n0_; have HO_7 := n1_; have HB := n2_; clear n0_ n1_ n2_; (try clear hb); (try clear hb2); (try clear hk); (try clear hi)) | (go_at_call 19; (with_reducible refine (capnpref23_Shortest.calls k3 _ _ l1 t488 _ ?side1 ?side2 A44.out).mono ?_); (case side1 => repeat (first | exact (Kd.C_below HR1.out HB.out) | (with_reducible refine Kd.C_alloc ?_ _) | (with_reducible refine Kd.C_drewN ?_ _) | (with_reducible refine Kd.C_drew ?_))); (case side2 => exact HC1.out); rintro e w53 ⟨rfl, hb⟩; have n0_ := Aside0.mk (Kd.R_below (pR HO_5) hb); have n1_ := Aside0.mk (Kd.R_below (pR HO_7) hb); have n2_ := Aside0.mk (below_step pB hb); clear HO_5; clear HO_7; clear HB; have HO_5 := n0_; have HO_7 := n1_; have HB := n2_; clear n0_ n1_ n2_; (try clear hb); (try clear hb2); (try clear hk); (try clear hi))); try go_wp2_with (first | (go_at_call 12; (with_reducible refine (grammar_Accepts.calls k3 _ _ l0 _ _ l1 t481 _ ?side1 ?side2 ?side3 ?side4 A34.out (Go.Proofs.YtnchacmhjbkmhaaDoor.Un.LaidU.below HL.out pB)).mono ?_); (case side1 => repeat (first | exact (Kd.C_below HR0.out HB.out) | (with_reducible refine Kd.C_alloc ?_ _) | (with_reducible refine Kd.C_drewN ?_ _) | (with_reducible refine Kd.C_drew ?_))); (case side2 => exact HC0.out); (case side3 => repeat (first | exact (Kd.C_below HR1.out HB.out) | (with_reducible refine Kd.C_alloc ?_ _) | (with_reducible refine Kd.C_drewN ?_ _) | (with_reducible refine Kd.C_drew ?_))); (case side4 => exact HC1.out); rintro e w46 ⟨rfl, hb⟩; have n0_ := Aside0.mk (Kd.R_below (pR HO_5) hb); have n1_ := Aside0.mk (Kd.R_below (pR HO_7) hb); have n2_ := Aside0.mk (below_step pB hb); clear HO_5; clear HO_7; clear HB; have HO_5 := n0_; have HO_7 := n1_; have HB := n2_; clear n0_ n1_ n2_; (try clear hb); (try clear hb2); (try clear hk); (try clear hi)) | (go_at_call 13; (with_reducible refine (capnpref23_Accepts.calls k3 _ _ l0 _ _ l1 t482 _ ?side1 ?side2 ?side3 ?side4 A35.out).mono ?_); (case side1 => repeat (first | exact (Kd.C_below HR0.out HB.out) | (with_reducible refine Kd.C_alloc ?_ _) | (with_reducible refine Kd.C_drewN ?_ _) | (with_reducible refine Kd.C_drew ?_))); (case side2 => exact HC0.out); (case side3 => repeat (first | exact (Kd.C_below HR1.out HB.out) | (with_reducible refine Kd.C_alloc ?_ _) | (with_reducible refine Kd.C_drewN ?_ _) | (with_reducible refine Kd.C_drew ?_))); (case side4 => exact HC1.out); rintro e w47 ⟨rfl, hb⟩; have n0_ := Aside0.mk (Kd.R_below (pR HO_5) hb); have n1_ := Aside0.mk (Kd.R_below (pR HO_7) hb); have n2_ := Aside0.mk (below_step pB hb); clear HO_5; clear HO_7; clear HB; have HO_5 := n0_; have HO_7 := n1_; have HB := n2_; clear n0_ n1_ n2_; (try clear hb); (try clear hb2); (try clear hk); (try clear hi)) | (go_at_call 14; (with_reducible refine (grammar_Canonical.calls k3 _ _ l0 t483 _ ?side1 ?side2 A37.out (Go.Proofs.YtnchacmhjbkmhaaDoor.Un.LaidU.below HL.out pB)).mono ?_); (case side1 => repeat (first | exact (Kd.C_below HR0.out HB.out) | (with_reducible refine Kd.C_alloc ?_ _) | (with_reducible refine Kd.C_drewN ?_ _) | (with_reducible refine Kd.C_drew ?_))); (case side2 => exact HC0.out); rintro e w48 ⟨rfl, hb⟩; have n0_ := Aside0.mk (Kd.R_below (pR HO_5) hb); have n1_ := Aside0.mk (Kd.R_below (pR HO_7) hb); have n2_ := Aside0.mk (below_step pB hb); clear HO_5; clear HO_7; clear HB; have HO_5 := n0_; have HO_7 := n1_; have HB := n2_; clear n0_ n1_ n2_; (try clear hb); (try clear hb2); (try clear hk); (try clear hi)) | (go_at_call 15; (with_reducible refine (capnpref23_Canonical.calls k3 _ _ l0 t484 _ ?side1 ?side2 A38.out).mono ?_); (case side1 => repeat (first | exact (Kd.C_below HR0.out HB.out) | (with_reducible refine Kd.C_alloc ?_ _) | (with_reducible refine Kd.C_drewN ?_ _) | (with_reducible refine Kd.C_drew ?_))); (case side2 => exact HC0.out); rintro e w49 ⟨rfl, hb⟩; have n0_ := Aside0.mk (Kd.R_below (pR HO_5) hb); have n1_ := Aside0.mk (Kd.R_below (pR HO_7) hb); have n2_ := Aside0.mk (below_step pB hb); clear HO_5; clear HO_7; clear HB; have HO_5 := n0_; have HO_7 := n1_; have HB := n2_; clear n0_ n1_ n2_; (try clear hb); (try clear hb2); (try clear hk); (try clear hi)) | (go_at_call 16; (with_reducible refine (grammar_Ways.calls _ _ l1 t485 _ ?side1 ?side2 A40.out).mono ?_); (case side1 => repeat (first | exact (Kd.C_below HR1.out HB.out) | (with_reducible refine Kd.C_alloc ?_ _) | (with_reducible refine Kd.C_drewN ?_ _) | (with_reducible refine Kd.C_drew ?_))); (case side2 => exact HC1.out); rintro e w50 ⟨rfl, hb⟩; have n0_ := Aside0.mk (Kd.R_below (pR HO_5) hb); have n1_ := Aside0.mk (Kd.R_below (pR HO_7) hb); have n2_ := Aside0.mk (below_step pB hb); clear HO_5; clear HO_7; clear HB; have HO_5 := n0_; have HO_7 := n1_; have HB := n2_; clear n0_ n1_ n2_; (try clear hb); (try clear hb2); (try clear hk); (try clear hi)) | (go_at_call 17; (with_reducible refine (capnpref23_Ways.calls k3 _ _ l1 t486 _ ?side1 ?side2 A41.out).mono ?_); (case side1 => repeat (first | exact (Kd.C_below HR1.out HB.out) | (with_reducible refine Kd.C_alloc ?_ _) | (with_reducible refine Kd.C_drewN ?_ _) | (with_reducible refine Kd.C_drew ?_))); (case side2 => exact HC1.out); rintro e w51 ⟨rfl, hb⟩; have n0_ := Aside0.mk (Kd.R_below (pR HO_5) hb); have n1_ := Aside0.mk (Kd.R_below (pR HO_7) hb); have n2_ := Aside0.mk (below_step pB hb); clear HO_5; clear HO_7; clear HB; have HO_5 := n0_; have HO_7 := n1_; have HB := n2_; clear n0_ n1_ n2_; (try clear hb); (try clear hb2); (try clear hk); (try clear hi)) | (go_at_call 18; (with_reducible refine (grammar_Shortest.calls _ _ l1 t487 _ ?side1 ?side2 A43.out).mono ?_); (case side1 => repeat (first | exact (Kd.C_below HR1.out HB.out) | (with_reducible refine Kd.C_alloc ?_ _) | (with_reducible refine Kd.C_drewN ?_ _) | (with_reducible refine Kd.C_drew ?_))); (case side2 => exact HC1.out); rintro e w52 ⟨rfl, hb⟩; have n0_ := Aside0.mk (Kd.R_below (pR HO_5) hb); have n1_ := Aside0.mk (Kd.R_below (pR HO_7) hb); have n2_ := Aside0.mk (below_step pB hb); clear HO_5; clear HO_7; clear HB; have HO_5 := n0_; have HO_7 := n1_; have HB := n2_; clear n0_ n1_ n2_; (try clear hb); (try clear hb2); (try clear hk); (try clear hi)) | (go_at_call 19; (with_reducible refine (capnpref23_Shortest.calls k3 _ _ l1 t488 _ ?side1 ?side2 A44.out).mono ?_); (case side1 => repeat (first | exact (Kd.C_below HR1.out HB.out) | (with_reducible refine Kd.C_alloc ?_ _) | (with_reducible refine Kd.C_drewN ?_ _) | (with_reducible refine Kd.C_drew ?_))); (case side2 => exact HC1.out); rintro e w53 ⟨rfl, hb⟩; have n0_ := Aside0.mk (Kd.R_below (pR HO_5) hb); have n1_ := Aside0.mk (Kd.R_below (pR HO_7) hb); have n2_ := Aside0.mk (below_step pB hb); clear HO_5; clear HO_7; clear HB; have HO_5 := n0_; have HO_7 := n1_; have HB := n2_; clear n0_ n1_ n2_; (try clear hb); (try clear hb2); (try clear hk); (try clear hi))))
             go_ret
             exact ⟨by first | rfl | (simp [errW_none, errW_some] <;> rfl) | (simp [*, errW_none, errW_some] <;> rfl), pB⟩
            ·rw [if_neg c42] at H
             exact absurd H (by simp)
           ·rw [if_neg c39] at H
            exact absurd H (by simp)
          ·rw [if_neg c36] at H
           exact absurd H (by simp)
def capnplaw23_GrammarMatchesReference.Pure : Prop := ∀ (l0 : List Int) (l1 : List Int), l0.length ≤ maxLen → l0.length * 1 ≤ 140737488351232 → (∀ x ∈ l0, (Lit.int .u8 x).wf = true) → l1.length ≤ maxLen → l1.length * 8 ≤ 140737488351232 → (∀ x ∈ l1, (Lit.int .u64 x).wf = true) → ∃ k, capnplaw23_GrammarMatchesReference.f k l0 l1 = some true
theorem capnplaw23_GrammarMatchesReference.walk (P : capnplaw23_GrammarMatchesReference.Pure) (a0 : Option Addr) (len0 cap0 : Nat) (z0 : List Int) (a1 : Option Addr) (len1 cap1 : Nat) (z1 : List Int) (w : World) (w0 : (a0 = none ∧ len0 = 0 ∧ cap0 = 0 ∧ z0 = []) ∨ ∃ x, a0 = some x ∧ len0 ≤ cap0 ∧ cap0 ≤ maxLen ∧ z0.length = cap0 ∧ (∀ i, i < z0.length → w.cell? (x.add i) = some (.int .u8 (z0.getD i 0))) ∧ ∀ n ∈ z0, (Lit.int .u8 n).wf = true) (y0 : len0 * 1 ≤ 140737488351232) (w1 : (a1 = none ∧ len1 = 0 ∧ cap1 = 0 ∧ z1 = []) ∨ ∃ x, a1 = some x ∧ len1 ≤ cap1 ∧ cap1 ≤ maxLen ∧ z1.length = cap1 ∧ (∀ i, i < z1.length → w.cell? (x.add i) = some (.int .u64 (z1.getD i 0))) ∧ ∀ n ∈ z1, (Lit.int .u64 n).wf = true) (y1 : len1 * 8 ≤ 140737488351232) {aL aT : Addr} (hL : Go.Proofs.YtnchacmhjbkmhaaDoor.Un.LaidU w aL aT) :
  Calls Tryd.prog 3 #[.slice a0 len0 cap0, .slice a1 len1 cap1] w fun e w' => e = .returned (.bool true) ∧ Below w.heap.size w w' := by
 obtain ⟨l0, rfl, hr0, hm0, hw0, hc0⟩ := ReadsInt.ofRowC w0
 obtain ⟨l1, rfl, hr1, hm1, hw1, hc1⟩ := ReadsInt.ofRowC w1
 obtain ⟨k, h⟩ := P l0 l1 hm0 y0 hw0 hm1 y1 hw1
 refine (capnplaw23_GrammarMatchesReference.calls k _ _ l0 _ _ l1 true w (Kd.C_of_reads (d := (0 : Int)) (h1 := fun _ => rfl) hr0) hc0 (Kd.C_of_reads (d := (0 : Int)) (h1 := fun _ => rfl) hr1) hc1 h hL).mono ?_
 rintro e w' ⟨rfl, hd⟩
 exact ⟨rfl, hd⟩
end Go.Proofs.YtnchacmhjbkmhaaDoor.PGrammarMatchesReference
