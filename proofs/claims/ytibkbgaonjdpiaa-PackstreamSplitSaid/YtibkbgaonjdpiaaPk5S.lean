/- Package packstream, walked by hand: the writer's word. -/
import Derived.Test.YtibkbgaonjdpiaaPk4S
namespace Go.Proofs.Ytibkbgaonjdpiaa.Ps
open Go Go.RowKit Go.Proofs.Ytibkbgaonjdpiaa Go.Proofs.Ytibkbgaonjdpiaa.M Go.Proofs.Ytibkbgaonjdpiaa.PPaBase Go.Proofs.Ytibkbgaonjdpiaa.QPaBase Go.Proofs.YtibkbgaonjdpiaaW.PrintWords Go.Proofs.YtibkbgaonjdpiaaW.PrintLast Go.Proofs.YtibkbgaonjdpiaaW.PrintMore
set_option linter.unusedVariables false
set_option linter.unusedSimpArgs false
set_option maxHeartbeats 1000000
set_option maxRecDepth 100000
abbrev SB := Int × List Int × List Int
def beginB (s : SB) (x : Int) : SB := if ofS x = 0 then (1, s.2.1, s.2.2) else if ofS x = 255 then (s.1, bytesS [x], s.2.2) else (s.1, s.2.1, s.2.2 ++ [ofS x] ++ nzS x)
def flushB (s : SB) : SB := (0, [], s.2.2 ++ openB s.1 s.2.1)
def takeB (s : SB) (x : Int) : SB := if 0 < s.1 ∧ x = 0 then (s.1 + 1, s.2.1, s.2.2) else if 0 < s.2.1.length ∧ denseS x = true then (s.1, s.2.1 ++ bytesS [x], s.2.2) else beginB (flushB s) x
def wordB (s : SB) (x : Int) : SB := if 255 < (takeB s x).1 ∨ 2040 < (takeB s x).2.1.length then flushB (takeB s x) else takeB s x
theorem begin_calls {W0 w : World} {g : Nat} {S : Nat → Prop} {ob : Nat → Obj} {vP : Value} {z x : Int} {r o : List Int} (hd : Wr W0 w g S ob vP z r o) (hol : o.length ≤ 70368744177664) :
    Calls Try.prog 36 #[.pointer (some ⟨g, 0, none⟩), .int .u64 x] w fun e w' => e = .returned (.tuple #[]) ∧ Wr W0 w' g S ob vP (beginB (z, r, o) x).1 (beginB (z, r, o) x).2.1 (beginB (z, r, o) x).2.2 := by
  unfold beginB
  by_cases h : ofS x = 0
  · rw [if_pos h]; exact begin_zero hd h
  · rw [if_neg h]
    by_cases h2 : ofS x = 255
    · rw [if_pos h2]; exact begin_full hd h2
    · rw [if_neg h2]; exact begin_tag hd h h2 hol
theorem beginB_small (o : List Int) (x : Int) : (beginB (0, [], o) x).1 ≤ 1 ∧ (beginB (0, [], o) x).2.1.length ≤ 8 := by
  unfold beginB
  split
  · exact ⟨Int.le_refl 1, Nat.zero_le 8⟩
  · split
    · exact ⟨show (0 : Int) ≤ 1 by decide, show (bytesS [x]).length ≤ 8 by rw [bytesS_length]; exact Nat.le_refl 8⟩
    · exact ⟨show (0 : Int) ≤ 1 by decide, Nat.zero_le 8⟩
theorem word_zero_flush {W0 w : World} {g : Nat} {S : Nat → Prop} {ob : Nat → Obj} {vP : Value} {z x : Int} {r o : List Int} (hd : Wr W0 w g S ob vP z r o) (hz : 0 < z) (hz2 : z ≤ 255) (hx0 : x = 0) (hrl : r.length ≤ 2040) (hf : 255 < z + 1) {y : List Int} (hx : openF (z + 1) r = some y) (hyl : y.length ≤ 4096) (hol : o.length ≤ 70368744177664) :
    Calls Try.prog 23 #[.pointer (some ⟨g, 0, none⟩), .int .u64 x] w fun e w' => e = .returned (.tuple #[]) ∧ Wr W0 w' g S ob vP 0 [] (o ++ y) := by
  have d1a : decide (z > 0) = true := decide_eq_true (by omega)
  have d1b : decide (0 < z) = true := decide_eq_true (by omega)
  have d2 : (x == 0) = true := by rw [beq_iff_eq]; assumption
  have d3a : decide (z + 1 > 255) = true := decide_eq_true (by omega)
  have d3b : decide (255 < z + 1) = true := decide_eq_true (by omega)
  have d4a : decide ((r.length : Int) > 2040) = false := decide_eq_false (by omega)
  have d4b : decide (2040 < (r.length : Int)) = false := decide_eq_false (by omega)
  have d5a : decide (r.length > 2040) = false := decide_eq_false (by omega)
  have d5b : decide (2040 < r.length) = false := decide_eq_false (by omega)
  have e1 : wrap64 (z + 1) = z + 1 := w64 (by omega) (by omega)
  have HX := Aside0.mk hx
  have HYL := Aside0.mk hyl
  have HOL := Aside0.mk hol
  clear hx hyl hol
  clear hz hz2 hx0 hrl hf
  obtain ⟨⟨vR, vO, hblk, hr, ho⟩, hbel, hg, hkb, hbg⟩ := hd
  obtain ⟨A', c', rfl, hc', hCO⟩ := Kd.R_reads ho
  obtain ⟨A2, c2, rfl, hc2, hCR⟩ := Kd.R_reads hr
  have f0 := (blk_cell hblk 0).trans rfl
  have z0 := blk_frozen hblk 0
  have f1 := (blk_cell hblk 1).trans rfl
  have z1 := blk_frozen hblk 1
  have f2 := (blk_cell hblk 2).trans rfl
  have z2 := blk_frozen hblk 2
  have f3 := (blk_cell hblk 3).trans rfl
  have z3 := blk_frozen hblk 3
  have HB := Aside0.mk hbel
  have HBLK := Aside0.mk hblk
  have HR := Aside0.mk hr
  have HO := Aside0.mk ho
  have HG := Aside0.mk hg
  have HKB := Aside0.mk hkb
  have HBG := Aside0.mk hbg
  have HC := Aside0.mk hc'
  have HC2 := Aside0.mk hc2
  have HCR := Aside0.mk hCR
  clear hblk hr ho hbel hg hc' hc2 hCO hCR hkb hbg
  go_enter Try.func23, Try.ntmps23
  go_wp2_with (first
    | (go_at_call 35; refine (flush_calls (W0 := W0) (S := S) (ob := ob) (vP := vP) (z := z + 1) (r := r) (o := o) (x := y) ?_ HX.out HYL.out HOL.out).mono ?_; exact Wr.of (w := w) HR.out HO.out (by repeat (with_reducible first | exact SameB.refl _ _ | apply SameB.drewN | apply SameB.drew | apply SameB.set)) (by repeat (with_reducible first | exact HB.out | apply below_drew1 | apply pw_below_drewN | refine below_set ?_ HG.out)) HG.out HKB.out HBG.out (by (repeat (with_reducible first | refine blk_drew ?_ | refine blk_drewN ?_ _ | apply blk_put)); (with_reducible exact HBLK.out); all_goals rfl); rintro e w9 ⟨rfl, hd9⟩; have HD9 := Aside0.mk hd9; clear hd9))
  (try simp only [Exit.inBlock, Exit.then])
  (first | refine bodyPost_ret (results_none rfl _ _ _) rfl ?_ | refine bodyPost_end (results_none rfl _ _ _) rfl ?_)
  exact ⟨rfl, HD9.out⟩
theorem word_zero {W0 w : World} {g : Nat} {S : Nat → Prop} {ob : Nat → Obj} {vP : Value} {z x : Int} {r o : List Int} (hd : Wr W0 w g S ob vP z r o) (hz : 0 < z) (hz2 : z ≤ 255) (hx0 : x = 0) (hrl : r.length ≤ 2040) (hf : ¬ 255 < z + 1) :
    Calls Try.prog 23 #[.pointer (some ⟨g, 0, none⟩), .int .u64 x] w fun e w' => e = .returned (.tuple #[]) ∧ Wr W0 w' g S ob vP (z + 1) r o := by
  have d1a : decide (z > 0) = true := decide_eq_true (by omega)
  have d1b : decide (0 < z) = true := decide_eq_true (by omega)
  have d2 : (x == 0) = true := by rw [beq_iff_eq]; assumption
  have d3a : decide (z + 1 > 255) = false := decide_eq_false (by omega)
  have d3b : decide (255 < z + 1) = false := decide_eq_false (by omega)
  have d4a : decide ((r.length : Int) > 2040) = false := decide_eq_false (by omega)
  have d4b : decide (2040 < (r.length : Int)) = false := decide_eq_false (by omega)
  have d5a : decide (r.length > 2040) = false := decide_eq_false (by omega)
  have d5b : decide (2040 < r.length) = false := decide_eq_false (by omega)
  have e1 : wrap64 (z + 1) = z + 1 := w64 (by omega) (by omega)
  clear hz hz2 hx0 hrl hf
  obtain ⟨⟨vR, vO, hblk, hr, ho⟩, hbel, hg, hkb, hbg⟩ := hd
  obtain ⟨A', c', rfl, hc', hCO⟩ := Kd.R_reads ho
  obtain ⟨A2, c2, rfl, hc2, hCR⟩ := Kd.R_reads hr
  have f0 := (blk_cell hblk 0).trans rfl
  have z0 := blk_frozen hblk 0
  have f1 := (blk_cell hblk 1).trans rfl
  have z1 := blk_frozen hblk 1
  have f2 := (blk_cell hblk 2).trans rfl
  have z2 := blk_frozen hblk 2
  have f3 := (blk_cell hblk 3).trans rfl
  have z3 := blk_frozen hblk 3
  have HB := Aside0.mk hbel
  have HBLK := Aside0.mk hblk
  have HR := Aside0.mk hr
  have HO := Aside0.mk ho
  have HG := Aside0.mk hg
  have HKB := Aside0.mk hkb
  have HBG := Aside0.mk hbg
  have HC := Aside0.mk hc'
  have HC2 := Aside0.mk hc2
  have HCR := Aside0.mk hCR
  clear hblk hr ho hbel hg hc' hc2 hCO hCR hkb hbg
  go_enter Try.func23, Try.ntmps23
  go_wp2
  (try simp only [Exit.inBlock, Exit.then])
  (first | refine bodyPost_ret (results_none rfl _ _ _) rfl ?_ | refine bodyPost_end (results_none rfl _ _ _) rfl ?_)
  exact ⟨rfl, Wr.of (w := w) HR.out HO.out (by repeat (with_reducible first | exact SameB.refl _ _ | apply SameB.drewN | apply SameB.drew | apply SameB.set)) (by repeat (with_reducible first | exact HB.out | apply below_drew1 | apply pw_below_drewN | refine below_set ?_ HG.out)) HG.out HKB.out HBG.out (by (repeat (with_reducible first | refine blk_drew ?_ | refine blk_drewN ?_ _ | apply blk_put)); (with_reducible exact HBLK.out); all_goals rfl)⟩
theorem word_new0 {W0 w : World} {g : Nat} {S : Nat → Prop} {ob : Nat → Obj} {vP : Value} {z x : Int} {r o : List Int} (hd : Wr W0 w g S ob vP z r o) (hz : z = 0) (hr0 : r.length = 0) {y : List Int} (hx : openF z r = some y) (hyl : y.length ≤ 4096) (hol : o.length + 4096 ≤ 70368744177664) :
    Calls Try.prog 23 #[.pointer (some ⟨g, 0, none⟩), .int .u64 x] w fun e w' => e = .returned (.tuple #[]) ∧ Wr W0 w' g S ob vP (beginB (0, [], o ++ y) x).1 (beginB (0, [], o ++ y) x).2.1 (beginB (0, [], o ++ y) x).2.2 := by
  have d1a : decide (z > 0) = false := decide_eq_false (by omega)
  have d1b : decide (0 < z) = false := decide_eq_false (by omega)
  have d4a : decide ((r.length : Int) > 0) = false := decide_eq_false (by omega)
  have d4b : decide (0 < (r.length : Int)) = false := decide_eq_false (by omega)
  have d5a : decide (r.length > 0) = false := decide_eq_false (by omega)
  have d5b : decide (0 < r.length) = false := decide_eq_false (by omega)
  have HX := Aside0.mk hx
  have HYL := Aside0.mk hyl
  have HOL := Aside0.mk (show o.length ≤ 70368744177664 by omega)
  have HOY := Aside0.mk (show (o ++ y).length ≤ 70368744177664 by rw [List.length_append]; omega)
  clear hx hyl hol hz hr0
  obtain ⟨⟨vR, vO, hblk, hr, ho⟩, hbel, hg, hkb, hbg⟩ := hd
  obtain ⟨A', c', rfl, hc', hCO⟩ := Kd.R_reads ho
  obtain ⟨A2, c2, rfl, hc2, hCR⟩ := Kd.R_reads hr
  have f0 := (blk_cell hblk 0).trans rfl
  have z0 := blk_frozen hblk 0
  have f1 := (blk_cell hblk 1).trans rfl
  have z1 := blk_frozen hblk 1
  have f2 := (blk_cell hblk 2).trans rfl
  have z2 := blk_frozen hblk 2
  have f3 := (blk_cell hblk 3).trans rfl
  have z3 := blk_frozen hblk 3
  have HB := Aside0.mk hbel
  have HBLK := Aside0.mk hblk
  have HR := Aside0.mk hr
  have HO := Aside0.mk ho
  have HG := Aside0.mk hg
  have HKB := Aside0.mk hkb
  have HBG := Aside0.mk hbg
  have HC := Aside0.mk hc'
  have HC2 := Aside0.mk hc2
  have HCR := Aside0.mk hCR
  clear hblk hr ho hbel hg hc' hc2 hCO hCR hkb hbg
  go_enter Try.func23, Try.ntmps23
  go_wp2_with (first
    | (go_at_call 35; refine (flush_calls (W0 := W0) (S := S) (ob := ob) (vP := vP) (z := z) (r := r) (o := o) (x := y) ?_ HX.out HYL.out HOL.out).mono ?_; exact Wr.of (w := w) HR.out HO.out (by repeat (with_reducible first | exact SameB.refl _ _ | apply SameB.drewN | apply SameB.drew | apply SameB.set)) (by repeat (with_reducible first | exact HB.out | apply below_drew1 | apply pw_below_drewN | refine below_set ?_ HG.out)) HG.out HKB.out HBG.out (by (repeat (with_reducible first | refine blk_drew ?_ | refine blk_drewN ?_ _ | apply blk_put)); (with_reducible exact HBLK.out); all_goals rfl); rintro e w9 ⟨rfl, hd9⟩; have HD9 := Aside0.mk hd9; clear hd9)
    | (go_at_call 36; refine (begin_calls (x := x) HD9.out HOY.out).mono ?_; rintro e w10 ⟨rfl, hd10⟩; have HS := Aside0.mk (beginB_small (o ++ y) x); have HD10 := Aside0.mk hd10; obtain ⟨⟨vR3, vO3, hblk3, hr3, _⟩, _, _, _, _⟩ := hd10; obtain ⟨A7, c7, e7, _, _⟩ := Kd.R_reads hr3; obtain ⟨zz, hzz⟩ : ∃ zz : Int, zz = (beginB (0, [], o ++ y) x).1 := ⟨_, rfl⟩; obtain ⟨nn, hnn⟩ : ∃ nn : Nat, nn = (beginB (0, [], o ++ y) x).2.1.length := ⟨_, rfl⟩; rw [← hnn] at e7; subst e7; rw [← hzz] at hblk3; have q1 : decide (zz > 255) = false := decide_eq_false (by have := HS.out; omega); have q2 : decide (255 < zz) = false := decide_eq_false (by have := HS.out; omega); have q3 : decide ((nn : Int) > 2040) = false := decide_eq_false (by have := HS.out; omega); have q4 : decide (2040 < nn) = false := decide_eq_false (by have := HS.out; omega); have q5 := (blk_cell hblk3 1).trans rfl; have q6 := (blk_cell hblk3 2).trans rfl; clear hblk3 hr3 hzz hnn))
  (try simp only [Exit.inBlock, Exit.then])
  (first | refine bodyPost_ret (results_none rfl _ _ _) rfl ?_ | refine bodyPost_end (results_none rfl _ _ _) rfl ?_)
  exact ⟨rfl, HD10.out⟩
theorem word_new1 {W0 w : World} {g : Nat} {S : Nat → Prop} {ob : Nat → Obj} {vP : Value} {z x : Int} {r o : List Int} (hd : Wr W0 w g S ob vP z r o) (hz : z = 0) (hr0 : 0 < r.length) (hdn : denseS x = false) {y : List Int} (hx : openF z r = some y) (hyl : y.length ≤ 4096) (hol : o.length + 4096 ≤ 70368744177664) :
    Calls Try.prog 23 #[.pointer (some ⟨g, 0, none⟩), .int .u64 x] w fun e w' => e = .returned (.tuple #[]) ∧ Wr W0 w' g S ob vP (beginB (0, [], o ++ y) x).1 (beginB (0, [], o ++ y) x).2.1 (beginB (0, [], o ++ y) x).2.2 := by
  have d1a : decide (z > 0) = false := decide_eq_false (by omega)
  have d1b : decide (0 < z) = false := decide_eq_false (by omega)
  have d4a : decide ((r.length : Int) > 0) = true := decide_eq_true (by omega)
  have d4b : decide (0 < (r.length : Int)) = true := decide_eq_true (by omega)
  have d5a : decide (r.length > 0) = true := decide_eq_true (by omega)
  have d5b : decide (0 < r.length) = true := decide_eq_true (by omega)
  have d6 : decide (7 ≤ (nzS x).length) = false := hdn
  clear hdn
  have HX := Aside0.mk hx
  have HYL := Aside0.mk hyl
  have HOL := Aside0.mk (show o.length ≤ 70368744177664 by omega)
  have HOY := Aside0.mk (show (o ++ y).length ≤ 70368744177664 by rw [List.length_append]; omega)
  clear hx hyl hol hz hr0
  obtain ⟨⟨vR, vO, hblk, hr, ho⟩, hbel, hg, hkb, hbg⟩ := hd
  obtain ⟨A', c', rfl, hc', hCO⟩ := Kd.R_reads ho
  obtain ⟨A2, c2, rfl, hc2, hCR⟩ := Kd.R_reads hr
  have f0 := (blk_cell hblk 0).trans rfl
  have z0 := blk_frozen hblk 0
  have f1 := (blk_cell hblk 1).trans rfl
  have z1 := blk_frozen hblk 1
  have f2 := (blk_cell hblk 2).trans rfl
  have z2 := blk_frozen hblk 2
  have f3 := (blk_cell hblk 3).trans rfl
  have z3 := blk_frozen hblk 3
  have HB := Aside0.mk hbel
  have HBLK := Aside0.mk hblk
  have HR := Aside0.mk hr
  have HO := Aside0.mk ho
  have HG := Aside0.mk hg
  have HKB := Aside0.mk hkb
  have HBG := Aside0.mk hbg
  have HC := Aside0.mk hc'
  have HC2 := Aside0.mk hc2
  have HCR := Aside0.mk hCR
  clear hblk hr ho hbel hg hc' hc2 hCO hCR hkb hbg
  obtain ⟨kt, hkt⟩ := Ev.rounds (tagDense x)
  have HKT := Aside0.mk hkt
  clear hkt
  go_enter Try.func23, Try.ntmps23
  go_wp2_with (first
    | (go_at_call 26; refine (tagbyte_Dense.calls kt x (decide (7 ≤ (nzS x).length)) _ HKT.out).mono ?_; rintro e w1 ⟨rfl, hb1⟩; have HB1 := Aside0.mk (HB.out.trans (hb1.mono HB.out.size)); have HO1 := Aside0.mk (Kd.R_below HO.out hb1); have HR1 := Aside0.mk (Kd.R_below HR.out hb1); have HBLK1 := Aside0.mk (blk_below HBLK.out hb1); have HKB1 := Aside0.mk (kb_below HKB.out hb1); have k10 := (blk_cell HBLK1.out 0).trans rfl; have j10 := blk_frozen HBLK1.out 0; have k11 := (blk_cell HBLK1.out 1).trans rfl; have j11 := blk_frozen HBLK1.out 1; have k12 := (blk_cell HBLK1.out 2).trans rfl; have j12 := blk_frozen HBLK1.out 2; have k13 := (blk_cell HBLK1.out 3).trans rfl; have j13 := blk_frozen HBLK1.out 3; clear hb1)
    | (go_at_call 35; refine (flush_calls (W0 := W0) (S := S) (ob := ob) (vP := vP) (z := z) (r := r) (o := o) (x := y) ?_ HX.out HYL.out HOL.out).mono ?_; exact Wr.of (w := w1) HR1.out HO1.out (by repeat (with_reducible first | exact SameB.refl _ _ | apply SameB.drewN | apply SameB.drew | apply SameB.set)) (by repeat (with_reducible first | exact HB1.out | apply below_drew1 | apply pw_below_drewN | refine below_set ?_ HG.out)) HG.out HKB1.out HBG.out (by (repeat (with_reducible first | refine blk_drew ?_ | refine blk_drewN ?_ _ | apply blk_put)); (with_reducible exact HBLK1.out); all_goals rfl); rintro e w9 ⟨rfl, hd9⟩; have HD9 := Aside0.mk hd9; clear hd9)
    | (go_at_call 36; refine (begin_calls (x := x) HD9.out HOY.out).mono ?_; rintro e w10 ⟨rfl, hd10⟩; have HS := Aside0.mk (beginB_small (o ++ y) x); have HD10 := Aside0.mk hd10; obtain ⟨⟨vR3, vO3, hblk3, hr3, _⟩, _, _, _, _⟩ := hd10; obtain ⟨A7, c7, e7, _, _⟩ := Kd.R_reads hr3; obtain ⟨zz, hzz⟩ : ∃ zz : Int, zz = (beginB (0, [], o ++ y) x).1 := ⟨_, rfl⟩; obtain ⟨nn, hnn⟩ : ∃ nn : Nat, nn = (beginB (0, [], o ++ y) x).2.1.length := ⟨_, rfl⟩; rw [← hnn] at e7; subst e7; rw [← hzz] at hblk3; have q1 : decide (zz > 255) = false := decide_eq_false (by have := HS.out; omega); have q2 : decide (255 < zz) = false := decide_eq_false (by have := HS.out; omega); have q3 : decide ((nn : Int) > 2040) = false := decide_eq_false (by have := HS.out; omega); have q4 : decide (2040 < nn) = false := decide_eq_false (by have := HS.out; omega); have q5 := (blk_cell hblk3 1).trans rfl; have q6 := (blk_cell hblk3 2).trans rfl; clear hblk3 hr3 hzz hnn))
  (try simp only [Exit.inBlock, Exit.then])
  (first | refine bodyPost_ret (results_none rfl _ _ _) rfl ?_ | refine bodyPost_end (results_none rfl _ _ _) rfl ?_)
  exact ⟨rfl, HD10.out⟩
theorem word_new2 {W0 w : World} {g : Nat} {S : Nat → Prop} {ob : Nat → Obj} {vP : Value} {z x : Int} {r o : List Int} (hd : Wr W0 w g S ob vP z r o) (hz : 0 < z) (hx0 : x ≠ 0) (hr0 : r.length = 0) {y : List Int} (hx : openF z r = some y) (hyl : y.length ≤ 4096) (hol : o.length + 4096 ≤ 70368744177664) :
    Calls Try.prog 23 #[.pointer (some ⟨g, 0, none⟩), .int .u64 x] w fun e w' => e = .returned (.tuple #[]) ∧ Wr W0 w' g S ob vP (beginB (0, [], o ++ y) x).1 (beginB (0, [], o ++ y) x).2.1 (beginB (0, [], o ++ y) x).2.2 := by
  have d1a : decide (z > 0) = true := decide_eq_true (by omega)
  have d1b : decide (0 < z) = true := decide_eq_true (by omega)
  have d2 : (x == 0) = false := by rw [beq_eq_false_iff_ne]; assumption
  have d4a : decide ((r.length : Int) > 0) = false := decide_eq_false (by omega)
  have d4b : decide (0 < (r.length : Int)) = false := decide_eq_false (by omega)
  have d5a : decide (r.length > 0) = false := decide_eq_false (by omega)
  have d5b : decide (0 < r.length) = false := decide_eq_false (by omega)
  clear hx0
  have HX := Aside0.mk hx
  have HYL := Aside0.mk hyl
  have HOL := Aside0.mk (show o.length ≤ 70368744177664 by omega)
  have HOY := Aside0.mk (show (o ++ y).length ≤ 70368744177664 by rw [List.length_append]; omega)
  clear hx hyl hol hz hr0
  obtain ⟨⟨vR, vO, hblk, hr, ho⟩, hbel, hg, hkb, hbg⟩ := hd
  obtain ⟨A', c', rfl, hc', hCO⟩ := Kd.R_reads ho
  obtain ⟨A2, c2, rfl, hc2, hCR⟩ := Kd.R_reads hr
  have f0 := (blk_cell hblk 0).trans rfl
  have z0 := blk_frozen hblk 0
  have f1 := (blk_cell hblk 1).trans rfl
  have z1 := blk_frozen hblk 1
  have f2 := (blk_cell hblk 2).trans rfl
  have z2 := blk_frozen hblk 2
  have f3 := (blk_cell hblk 3).trans rfl
  have z3 := blk_frozen hblk 3
  have HB := Aside0.mk hbel
  have HBLK := Aside0.mk hblk
  have HR := Aside0.mk hr
  have HO := Aside0.mk ho
  have HG := Aside0.mk hg
  have HKB := Aside0.mk hkb
  have HBG := Aside0.mk hbg
  have HC := Aside0.mk hc'
  have HC2 := Aside0.mk hc2
  have HCR := Aside0.mk hCR
  clear hblk hr ho hbel hg hc' hc2 hCO hCR hkb hbg
  go_enter Try.func23, Try.ntmps23
  go_wp2_with (first
    | (go_at_call 35; refine (flush_calls (W0 := W0) (S := S) (ob := ob) (vP := vP) (z := z) (r := r) (o := o) (x := y) ?_ HX.out HYL.out HOL.out).mono ?_; exact Wr.of (w := w) HR.out HO.out (by repeat (with_reducible first | exact SameB.refl _ _ | apply SameB.drewN | apply SameB.drew | apply SameB.set)) (by repeat (with_reducible first | exact HB.out | apply below_drew1 | apply pw_below_drewN | refine below_set ?_ HG.out)) HG.out HKB.out HBG.out (by (repeat (with_reducible first | refine blk_drew ?_ | refine blk_drewN ?_ _ | apply blk_put)); (with_reducible exact HBLK.out); all_goals rfl); rintro e w9 ⟨rfl, hd9⟩; have HD9 := Aside0.mk hd9; clear hd9)
    | (go_at_call 36; refine (begin_calls (x := x) HD9.out HOY.out).mono ?_; rintro e w10 ⟨rfl, hd10⟩; have HS := Aside0.mk (beginB_small (o ++ y) x); have HD10 := Aside0.mk hd10; obtain ⟨⟨vR3, vO3, hblk3, hr3, _⟩, _, _, _, _⟩ := hd10; obtain ⟨A7, c7, e7, _, _⟩ := Kd.R_reads hr3; obtain ⟨zz, hzz⟩ : ∃ zz : Int, zz = (beginB (0, [], o ++ y) x).1 := ⟨_, rfl⟩; obtain ⟨nn, hnn⟩ : ∃ nn : Nat, nn = (beginB (0, [], o ++ y) x).2.1.length := ⟨_, rfl⟩; rw [← hnn] at e7; subst e7; rw [← hzz] at hblk3; have q1 : decide (zz > 255) = false := decide_eq_false (by have := HS.out; omega); have q2 : decide (255 < zz) = false := decide_eq_false (by have := HS.out; omega); have q3 : decide ((nn : Int) > 2040) = false := decide_eq_false (by have := HS.out; omega); have q4 : decide (2040 < nn) = false := decide_eq_false (by have := HS.out; omega); have q5 := (blk_cell hblk3 1).trans rfl; have q6 := (blk_cell hblk3 2).trans rfl; clear hblk3 hr3 hzz hnn))
  (try simp only [Exit.inBlock, Exit.then])
  (first | refine bodyPost_ret (results_none rfl _ _ _) rfl ?_ | refine bodyPost_end (results_none rfl _ _ _) rfl ?_)
  exact ⟨rfl, HD10.out⟩
theorem word_run_flush {W0 w : World} {g : Nat} {S : Nat → Prop} {ob : Nat → Obj} {vP : Value} {z x : Int} {r o : List Int} (hd : Wr W0 w g S ob vP z r o) (hz : z = 0) (hr0 : 0 < r.length) (hdn : denseS x = true) (hrl : r.length ≤ 2040) (hf : 2040 < r.length + 8) {y : List Int} (hx : openF z (r ++ bytesS [x]) = some y) (hyl : y.length ≤ 4096) (hol : o.length ≤ 70368744177664) :
    Calls Try.prog 23 #[.pointer (some ⟨g, 0, none⟩), .int .u64 x] w fun e w' => e = .returned (.tuple #[]) ∧ Wr W0 w' g S ob vP 0 [] (o ++ y) := by
  have d1a : decide (z > 0) = false := decide_eq_false (by omega)
  have d1b : decide (0 < z) = false := decide_eq_false (by omega)
  have d4a : decide ((r.length : Int) > 0) = true := decide_eq_true (by omega)
  have d4b : decide (0 < (r.length : Int)) = true := decide_eq_true (by omega)
  have d5a : decide (r.length > 0) = true := decide_eq_true (by omega)
  have d5b : decide (0 < r.length) = true := decide_eq_true (by omega)
  have d7a : decide (z > 255) = false := decide_eq_false (by omega)
  have d7b : decide (255 < z) = false := decide_eq_false (by omega)
  have d6 : decide (7 ≤ (nzS x).length) = true := hdn
  have HX := Aside0.mk hx
  have HYL := Aside0.mk hyl
  have HOL := Aside0.mk hol
  clear hx hyl hol
  have HRL := Aside0.mk (And.intro hrl hf)
  clear hz hr0 hdn
  obtain ⟨⟨vR, vO, hblk, hr, ho⟩, hbel, hg, hkb, hbg⟩ := hd
  obtain ⟨A', c', rfl, hc', hCO⟩ := Kd.R_reads ho
  obtain ⟨A2, c2, rfl, hc2, hCR⟩ := Kd.R_reads hr
  have f0 := (blk_cell hblk 0).trans rfl
  have z0 := blk_frozen hblk 0
  have f1 := (blk_cell hblk 1).trans rfl
  have z1 := blk_frozen hblk 1
  have f2 := (blk_cell hblk 2).trans rfl
  have z2 := blk_frozen hblk 2
  have f3 := (blk_cell hblk 3).trans rfl
  have z3 := blk_frozen hblk 3
  have HB := Aside0.mk hbel
  have HBLK := Aside0.mk hblk
  have HR := Aside0.mk hr
  have HO := Aside0.mk ho
  have HG := Aside0.mk hg
  have HKB := Aside0.mk hkb
  have HBG := Aside0.mk hbg
  have HC := Aside0.mk hc'
  have HC2 := Aside0.mk hc2
  have HCR := Aside0.mk hCR
  clear hblk hr ho hbel hg hc' hc2 hCO hCR hkb hbg
  obtain ⟨kt, hkt⟩ := Ev.rounds (tagDense x)
  have HKT := Aside0.mk hkt
  clear hkt
  obtain ⟨kb, hkw⟩ := Ev.rounds (wordBytes [x] (by simp))
  have HKW := Aside0.mk hkw
  clear hkw
  go_enter Try.func23, Try.ntmps23
  go_wp2_with (first
    | (go_at_call 26; refine (tagbyte_Dense.calls kt x (decide (7 ≤ (nzS x).length)) _ HKT.out).mono ?_; rintro e w1 ⟨rfl, hb1⟩; have HB1 := Aside0.mk (HB.out.trans (hb1.mono HB.out.size)); have HO1 := Aside0.mk (Kd.R_below HO.out hb1); have HR1 := Aside0.mk (Kd.R_below HR.out hb1); have HBLK1 := Aside0.mk (blk_below HBLK.out hb1); have HKB1 := Aside0.mk (kb_below HKB.out hb1); have k10 := (blk_cell HBLK1.out 0).trans rfl; have j10 := blk_frozen HBLK1.out 0; have k11 := (blk_cell HBLK1.out 1).trans rfl; have j11 := blk_frozen HBLK1.out 1; have k12 := (blk_cell HBLK1.out 2).trans rfl; have j12 := blk_frozen HBLK1.out 2; have k13 := (blk_cell HBLK1.out 3).trans rfl; have j13 := blk_frozen HBLK1.out 3; have hlt1 : g < w1.heap.size := blk_lt HBLK1.out; have hgne1 : ¬ g = w1.heap.size := (by omega); clear hb1))
  go_region_law (first
    | (refine goes_ Try.func34 (by kernel_rfl) rfl #[.slice (some ⟨w1.heap.size, 0, none⟩) 1 1] (by rfl) rfl rfl (by first | rfl | simp [Act.eval, Act.put]) ?_
       refine (word_Bytes.calls kb _ 1 [x] (bytesS [x]) _ ?_ (Nat.le_refl 1) HKW.out).mono ?_
       exact Kd.C_drew (C_one w1 x 53)
       rintro e w2 ⟨v2, rfl, hv2, hb2⟩
       refine ⟨_, rfl, ?_⟩
       obtain ⟨A3, c3, rfl, hlc2, hC2⟩ := Kd.R_reads hv2
       have HCC2 := Aside0.mk hC2
       have HB2 := Aside0.mk ((HB1.out.alloc HB1.out.size _).drew.trans (hb2.mono (HB1.out.alloc HB1.out.size _).drew.size))
       have HR2 := Aside0.mk (Kd.R_below (Kd.R_drew (Kd.R_alloc HR1.out _)) hb2)
       have HO2 := Aside0.mk (Kd.R_below (Kd.R_drew (Kd.R_alloc HO1.out _)) hb2)
       have HBLK2 := Aside0.mk (blk_below (blk_drew (blk_alloc HBLK1.out _)) hb2)
       have HKB2 := Aside0.mk (kb_below (w := World.drew _) (kb_alloc _ HKB1.out) hb2)
       have y0 := (blk_cell HBLK2.out 2).trans rfl
       clear hC2 hb2 hv2 hlc2)
    | (refine Kd.R_append_rows_step (Kd.int .u8) (w0 := W0) W0.heap.size (by rfl) (.tmp 46) (.tmp 49) 22 5 (.int .u8 0) 1 rfl Try.underlying22 info5 rfl (by decide) (by omega) (.slice A2 r.length c2) r (bytesS [x]) A3 (bytesS [x]).length c3 (fun k => (k ≠ g ∧ ¬ S k) ∧ some k ≠ (Value.slice A' o.length c').ownBlock) (fun _ => False) rfl rfl HR2.out HCC2.out (fun _ _ h => h) (fun _ hk => hk.elim) ?hF HB2.out HB2.out.size ?hL ?_
       case hF => exact fun k hk => ⟨⟨fun e => by have := blk_lt HBLK2.out; omega, fun e => by have := blk_lt (HKB2.out k e); omega⟩, fun e => by have := Kd.R_lt HO2.out k e.symm; omega⟩
       case hL => have := HRL.out; rw [bytesS_length]; simp only [List.length_cons, List.length_nil]; omega
       intro v3 w3 hr3 hb3 hg3 hat3
       have HO3 := Aside0.mk (Kd.R_after HO2.out hg3 hat3)
       obtain ⟨A4, c4, e3⟩ := Kd.R_slice hr3
       obtain ⟨nn, hnn⟩ : ∃ nn : Nat, nn = (r ++ bytesS [x]).length := ⟨_, rfl⟩
       rw [← hnn] at e3
       subst e3
       have q0 : nn = r.length + 8 := by rw [hnn, List.length_append, bytesS_length]; rfl
       have q3 : decide ((nn : Int) > 2040) = true := decide_eq_true (by omega)
       have q4 : decide (2040 < nn) = true := decide_eq_true (by omega)
       clear q0
       have HNN := Aside0.mk hnn
       have HB3 := Aside0.mk hb3
       have HR3 := Aside0.mk hr3
       have HKB3 := Aside0.mk (kb_grown HKB2.out hg3 (fun b hb e => (HR2.out.1 b e.symm).1.2 hb))
       have HBLK3 := Aside0.mk ((hg3.block g (blk_lt HBLK2.out) (fun e => (HR2.out.1 g e.symm).1.1 rfl)).trans HBLK2.out)
       have k30 := (blk_cell HBLK3.out 0).trans rfl
       have j30 := blk_frozen HBLK3.out 0
       have k31 := (blk_cell HBLK3.out 1).trans rfl
       have j31 := blk_frozen HBLK3.out 1
       have k32 := (blk_cell HBLK3.out 2).trans rfl
       have j32 := blk_frozen HBLK3.out 2
       have k33 := (blk_cell HBLK3.out 3).trans rfl
       have j33 := blk_frozen HBLK3.out 3
       clear hr3 hb3 hg3 hat3 hnn))
  all_goals (try go_wp2_with (first
    | (go_at_call 35; refine (flush_calls (W0 := W0) (S := S) (ob := ob) (vP := vP) (z := z) (r := r ++ bytesS [x]) (o := o) (x := y) ?_ HX.out HYL.out HOL.out).mono ?_; exact Wr.of (w := w3) HR3.out HO3.out (by repeat (with_reducible first | exact SameB.refl _ _ | apply SameB.drewN | apply SameB.drew | apply SameB.set)) (by repeat (with_reducible first | exact HB3.out | apply below_drew1 | apply pw_below_drewN | refine below_set ?_ HG.out)) HG.out HKB3.out HBG.out (by (repeat (with_reducible first | refine blk_drew ?_ | refine blk_drewN ?_ _ | apply blk_put)); (with_reducible exact HBLK3.out); all_goals rfl); rintro e w9 ⟨rfl, hd9⟩; have HD9 := Aside0.mk hd9; clear hd9)))
  all_goals (
    (try simp only [Exit.inBlock, Exit.then])
    (first | refine bodyPost_ret (results_none rfl _ _ _) rfl ?_ | refine bodyPost_end (results_none rfl _ _ _) rfl ?_)
    exact ⟨rfl, HD9.out⟩)
theorem word_run {W0 w : World} {g : Nat} {S : Nat → Prop} {ob : Nat → Obj} {vP : Value} {z x : Int} {r o : List Int} (hd : Wr W0 w g S ob vP z r o) (hz : z = 0) (hr0 : 0 < r.length) (hdn : denseS x = true) (hrl : r.length ≤ 2040) (hf : ¬ 2040 < r.length + 8) :
    Calls Try.prog 23 #[.pointer (some ⟨g, 0, none⟩), .int .u64 x] w fun e w' => e = .returned (.tuple #[]) ∧ Wr W0 w' g S ob vP z (r ++ bytesS [x]) o := by
  have d1a : decide (z > 0) = false := decide_eq_false (by omega)
  have d1b : decide (0 < z) = false := decide_eq_false (by omega)
  have d4a : decide ((r.length : Int) > 0) = true := decide_eq_true (by omega)
  have d4b : decide (0 < (r.length : Int)) = true := decide_eq_true (by omega)
  have d5a : decide (r.length > 0) = true := decide_eq_true (by omega)
  have d5b : decide (0 < r.length) = true := decide_eq_true (by omega)
  have d7a : decide (z > 255) = false := decide_eq_false (by omega)
  have d7b : decide (255 < z) = false := decide_eq_false (by omega)
  have d6 : decide (7 ≤ (nzS x).length) = true := hdn
  have HRL := Aside0.mk (And.intro hrl hf)
  clear hz hr0 hdn
  obtain ⟨⟨vR, vO, hblk, hr, ho⟩, hbel, hg, hkb, hbg⟩ := hd
  obtain ⟨A', c', rfl, hc', hCO⟩ := Kd.R_reads ho
  obtain ⟨A2, c2, rfl, hc2, hCR⟩ := Kd.R_reads hr
  have f0 := (blk_cell hblk 0).trans rfl
  have z0 := blk_frozen hblk 0
  have f1 := (blk_cell hblk 1).trans rfl
  have z1 := blk_frozen hblk 1
  have f2 := (blk_cell hblk 2).trans rfl
  have z2 := blk_frozen hblk 2
  have f3 := (blk_cell hblk 3).trans rfl
  have z3 := blk_frozen hblk 3
  have HB := Aside0.mk hbel
  have HBLK := Aside0.mk hblk
  have HR := Aside0.mk hr
  have HO := Aside0.mk ho
  have HG := Aside0.mk hg
  have HKB := Aside0.mk hkb
  have HBG := Aside0.mk hbg
  have HC := Aside0.mk hc'
  have HC2 := Aside0.mk hc2
  have HCR := Aside0.mk hCR
  clear hblk hr ho hbel hg hc' hc2 hCO hCR hkb hbg
  obtain ⟨kt, hkt⟩ := Ev.rounds (tagDense x)
  have HKT := Aside0.mk hkt
  clear hkt
  obtain ⟨kb, hkw⟩ := Ev.rounds (wordBytes [x] (by simp))
  have HKW := Aside0.mk hkw
  clear hkw
  go_enter Try.func23, Try.ntmps23
  go_wp2_with (first
    | (go_at_call 26; refine (tagbyte_Dense.calls kt x (decide (7 ≤ (nzS x).length)) _ HKT.out).mono ?_; rintro e w1 ⟨rfl, hb1⟩; have HB1 := Aside0.mk (HB.out.trans (hb1.mono HB.out.size)); have HO1 := Aside0.mk (Kd.R_below HO.out hb1); have HR1 := Aside0.mk (Kd.R_below HR.out hb1); have HBLK1 := Aside0.mk (blk_below HBLK.out hb1); have HKB1 := Aside0.mk (kb_below HKB.out hb1); have k10 := (blk_cell HBLK1.out 0).trans rfl; have j10 := blk_frozen HBLK1.out 0; have k11 := (blk_cell HBLK1.out 1).trans rfl; have j11 := blk_frozen HBLK1.out 1; have k12 := (blk_cell HBLK1.out 2).trans rfl; have j12 := blk_frozen HBLK1.out 2; have k13 := (blk_cell HBLK1.out 3).trans rfl; have j13 := blk_frozen HBLK1.out 3; have hlt1 : g < w1.heap.size := blk_lt HBLK1.out; have hgne1 : ¬ g = w1.heap.size := (by omega); clear hb1))
  go_region_law (first
    | (refine goes_ Try.func34 (by kernel_rfl) rfl #[.slice (some ⟨w1.heap.size, 0, none⟩) 1 1] (by rfl) rfl rfl (by first | rfl | simp [Act.eval, Act.put]) ?_
       refine (word_Bytes.calls kb _ 1 [x] (bytesS [x]) _ ?_ (Nat.le_refl 1) HKW.out).mono ?_
       exact Kd.C_drew (C_one w1 x 53)
       rintro e w2 ⟨v2, rfl, hv2, hb2⟩
       refine ⟨_, rfl, ?_⟩
       obtain ⟨A3, c3, rfl, hlc2, hC2⟩ := Kd.R_reads hv2
       have HCC2 := Aside0.mk hC2
       have HB2 := Aside0.mk ((HB1.out.alloc HB1.out.size _).drew.trans (hb2.mono (HB1.out.alloc HB1.out.size _).drew.size))
       have HR2 := Aside0.mk (Kd.R_below (Kd.R_drew (Kd.R_alloc HR1.out _)) hb2)
       have HO2 := Aside0.mk (Kd.R_below (Kd.R_drew (Kd.R_alloc HO1.out _)) hb2)
       have HBLK2 := Aside0.mk (blk_below (blk_drew (blk_alloc HBLK1.out _)) hb2)
       have HKB2 := Aside0.mk (kb_below (w := World.drew _) (kb_alloc _ HKB1.out) hb2)
       have y0 := (blk_cell HBLK2.out 2).trans rfl
       clear hC2 hb2 hv2 hlc2)
    | (refine Kd.R_append_rows_step (Kd.int .u8) (w0 := W0) W0.heap.size (by rfl) (.tmp 46) (.tmp 49) 22 5 (.int .u8 0) 1 rfl Try.underlying22 info5 rfl (by decide) (by omega) (.slice A2 r.length c2) r (bytesS [x]) A3 (bytesS [x]).length c3 (fun k => (k ≠ g ∧ ¬ S k) ∧ some k ≠ (Value.slice A' o.length c').ownBlock) (fun _ => False) rfl rfl HR2.out HCC2.out (fun _ _ h => h) (fun _ hk => hk.elim) ?hF HB2.out HB2.out.size ?hL ?_
       case hF => exact fun k hk => ⟨⟨fun e => by have := blk_lt HBLK2.out; omega, fun e => by have := blk_lt (HKB2.out k e); omega⟩, fun e => by have := Kd.R_lt HO2.out k e.symm; omega⟩
       case hL => have := HRL.out; rw [bytesS_length]; simp only [List.length_cons, List.length_nil]; omega
       intro v3 w3 hr3 hb3 hg3 hat3
       have HO3 := Aside0.mk (Kd.R_after HO2.out hg3 hat3)
       obtain ⟨A4, c4, e3⟩ := Kd.R_slice hr3
       obtain ⟨nn, hnn⟩ : ∃ nn : Nat, nn = (r ++ bytesS [x]).length := ⟨_, rfl⟩
       rw [← hnn] at e3
       subst e3
       have q0 : nn = r.length + 8 := by rw [hnn, List.length_append, bytesS_length]; rfl
       have q3 : decide ((nn : Int) > 2040) = false := decide_eq_false (by omega)
       have q4 : decide (2040 < nn) = false := decide_eq_false (by omega)
       clear q0
       have HNN := Aside0.mk hnn
       have HB3 := Aside0.mk hb3
       have HR3 := Aside0.mk hr3
       have HKB3 := Aside0.mk (kb_grown HKB2.out hg3 (fun b hb e => (HR2.out.1 b e.symm).1.2 hb))
       have HBLK3 := Aside0.mk ((hg3.block g (blk_lt HBLK2.out) (fun e => (HR2.out.1 g e.symm).1.1 rfl)).trans HBLK2.out)
       have k30 := (blk_cell HBLK3.out 0).trans rfl
       have j30 := blk_frozen HBLK3.out 0
       have k31 := (blk_cell HBLK3.out 1).trans rfl
       have j31 := blk_frozen HBLK3.out 1
       have k32 := (blk_cell HBLK3.out 2).trans rfl
       have j32 := blk_frozen HBLK3.out 2
       have k33 := (blk_cell HBLK3.out 3).trans rfl
       have j33 := blk_frozen HBLK3.out 3
       clear hr3 hb3 hg3 hat3 hnn))
  all_goals (try go_wp2)
  all_goals (
    (try simp only [Exit.inBlock, Exit.then])
    (first | refine bodyPost_ret (results_none rfl _ _ _) rfl ?_ | refine bodyPost_end (results_none rfl _ _ _) rfl ?_)
    exact ⟨rfl, Wr.of (w := w3) HR3.out HO3.out (by repeat (with_reducible first | exact SameB.refl _ _ | apply SameB.drewN | apply SameB.drew | apply SameB.set)) (by repeat (with_reducible first | exact HB3.out | apply below_drew1 | apply pw_below_drewN | refine below_set ?_ HG.out)) HG.out HKB3.out HBG.out (by (repeat (with_reducible first | refine blk_drew ?_ | refine blk_drewN ?_ _ | apply blk_put)); (with_reducible exact HBLK3.out); all_goals rfl)⟩)
end Go.Proofs.Ytibkbgaonjdpiaa.Ps
