/- The reader of package unpackstream, part 2: finish, tagged, literal. -/
import Derived.Test.YtpffoecblcfndaaDoorRdrR
namespace Go.Proofs.YtpffoecblcfndaaDoor.Us
open Go Go.RowKit Go.Proofs.YtpffoecblcfndaaDoor Go.Proofs.YtpffoecblcfndaaDoor.M Go.Proofs.YtpffoecblcfndaaDoor.PUnBase Go.Proofs.YtpffoecblcfndaaDoor.QUnBase Go.Proofs.YtpffoecblcfndaaDoorW.PrintWords Go.Proofs.YtpffoecblcfndaaDoorW.PrintLast Go.Proofs.YtpffoecblcfndaaDoorW.PrintMore
set_option linter.unusedVariables false
set_option linter.unusedSimpArgs false
set_option maxHeartbeats 1000000
set_option maxRecDepth 100000
theorem finish_calls {W0 w : World} {g : Nat} {u : U} {o : List Int} {lim t s : Int} (hd : Rd W0 w g u o lim) (hn0 : 0 ≤ u.done) (hn : u.done ≤ 1152921504606846976) (hol : o.length ≤ 70368744177664) (ht0 : 0 ≤ t) (ht1 : t < 256) (hB : IsB u.word) (hi : u.word.length ≤ 140737488355328) (h : onesS t ≤ u.word.length) :
    Calls Tryd.prog 54 #[.pointer (some ⟨g, 0, none⟩), .int .u8 t, .int .i64 s] w fun e w' => e = .returned (.tuple #[]) ∧ Rd W0 w' g (finishU lim (u, o) t s).1 (finishU lim (u, o) t s).2 lim := by
  obtain ⟨kb, hkb⟩ := Ev.rounds (tagExpand t u.word ht0 ht1 hB hi)
  rw [if_pos h] at hkb
  have hx := expS_range (t := t) hB
  have HX := Aside0.mk hx
  have HKB := Aside0.mk hkb
  have HN := Aside0.mk (And.intro hn0 (And.intro hn hol))
  have HIN := Aside0.mk hd
  unfold finishU
  obtain ⟨⟨vW, vO, hblk, hw, ho⟩, hbel, hg⟩ := hd
  obtain ⟨A', c', rfl, hc', _⟩ := Kd.R_reads ho
  obtain ⟨A2, c2, rfl, hc2, hCW⟩ := Kd.R_reads hw
  have f0 := (blk_cell hblk 0).trans rfl
  have f1 := (blk_cell hblk 1).trans rfl
  have f2 := (blk_cell hblk 2).trans rfl
  have f3 := (blk_cell hblk 3).trans rfl
  have f4 := (blk_cell hblk 4).trans rfl
  have f5 := (blk_cell hblk 5).trans rfl
  have f6 := (blk_cell hblk 6).trans rfl
  have f7 := (blk_cell hblk 7).trans rfl
  have z0 := blk_frozen hblk 0
  have z1 := blk_frozen hblk 1
  have z2 := blk_frozen hblk 2
  have z3 := blk_frozen hblk 3
  have z4 := blk_frozen hblk 4
  have z5 := blk_frozen hblk 5
  have z6 := blk_frozen hblk 6
  have z7 := blk_frozen hblk 7
  have HCW := Aside0.mk hCW
  have HB := Aside0.mk hbel
  have HBLK := Aside0.mk hblk
  have HW := Aside0.mk hw
  have HO := Aside0.mk ho
  have HG := Aside0.mk hg
  have HC := Aside0.mk hc'
  have HC2 := Aside0.mk hc2
  clear hblk hw ho hbel hg hc' hc2
  clear hkb hx hCW hn0 hn hol hB hi
  go_enter Tryd.func54, Tryd.ntmps54
  go_wp2_with (first
    | (go_at_call 56; refine (tagbyte_Expand.calls kb t A2 c2 u.word _ _ _ _ HCW.out HC2.out HKB.out).mono ?_; rintro e w1 ⟨rfl, ⟨nd, rfl⟩⟩)
    | (go_at_call 55; refine (emit_calls (W0 := W0) (u := { u with st := s, tag := 0, word := [] }) (o := o) (lim := lim) ?_ HN.out.1 HN.out.2.1 HN.out.2.2 HX.out.1 HX.out.2).mono ?_; exact Rd.of_nil (w := w) rfl (fun k hk => hk.1) HO.out (by repeat (with_reducible first | exact SameB.refl _ _ | apply SameB.drewN | apply SameB.drew | apply SameB.set)) (by repeat (with_reducible first | exact HB.out | apply below_drew1 | apply pw_below_drewN | refine below_set ?_ HG.out)) HG.out (by (repeat (with_reducible first | refine blk_drew ?_ | refine blk_drewN ?_ _ | apply blk_put)); (with_reducible exact HBLK.out); all_goals rfl); rintro e w2 ⟨rfl, hd2⟩; have HD2 := Aside0.mk hd2; clear hd2))
  (try simp only [Exit.inBlock, Exit.then])
  (first | refine bodyPost_ret (results_none rfl _ _ _) rfl ?_ | refine bodyPost_end (results_none rfl _ _ _) rfl ?_)
  exact ⟨rfl, HD2.out⟩
theorem tagged_short {W0 w : World} {g : Nat} {u : U} {o : List Int} {lim c : Int} (hd : Rd W0 w g u o lim) (h0 : 0 ≤ c) (h1 : c < 256) (hi : u.word.length ≤ 140737488355320) (ht0 : 0 ≤ u.tag) (ht1 : u.tag < 256) (h : (u.word.length : Int) + 1 < onesS u.tag) :
    Calls Tryd.prog 51 #[.pointer (some ⟨g, 0, none⟩), .int .u8 c] w fun e w' => e = .returned (.tuple #[]) ∧ Rd W0 w' g ((({ u with word := u.word ++ [c] }, o) : UO)).1 ((({ u with word := u.word ++ [c] }, o) : UO)).2 lim := by
  have hon := tagOnes ht0 ht1
  obtain ⟨on, hone⟩ : ∃ on, on = onesS u.tag := ⟨_, rfl⟩
  rw [← hone] at hon
  have HON := Aside0.mk hon
  rw [← hone] at h
  have d1 : decide (((u.word.length + 1 : Nat) : Int) < (on : Int)) = true := decide_eq_true (by omega)
  have d2 : (((u.word.length + 1 : Nat) : Int) < (on : Int)) = True := eq_true (by omega)
  obtain ⟨⟨vW, vO, hblk, hw, ho⟩, hbel, hg⟩ := hd
  obtain ⟨A', c', rfl, hc', _⟩ := Kd.R_reads ho
  obtain ⟨A2, c2, rfl, hc2, _⟩ := Kd.R_reads hw
  have f0 := (blk_cell hblk 0).trans rfl
  have f1 := (blk_cell hblk 1).trans rfl
  have f2 := (blk_cell hblk 2).trans rfl
  have f3 := (blk_cell hblk 3).trans rfl
  have f4 := (blk_cell hblk 4).trans rfl
  have f5 := (blk_cell hblk 5).trans rfl
  have f6 := (blk_cell hblk 6).trans rfl
  have f7 := (blk_cell hblk 7).trans rfl
  have z0 := blk_frozen hblk 0
  have z1 := blk_frozen hblk 1
  have z2 := blk_frozen hblk 2
  have z3 := blk_frozen hblk 3
  have z4 := blk_frozen hblk 4
  have z5 := blk_frozen hblk 5
  have z6 := blk_frozen hblk 6
  have z7 := blk_frozen hblk 7
  have HBA := Aside0.mk hbel
  have HBLKA := Aside0.mk hblk
  have HWA := Aside0.mk hw
  have HOA := Aside0.mk ho
  have HWL := Aside0.mk hi
  have HB := Aside0.mk hbel
  have HBLK := Aside0.mk hblk
  have HW := Aside0.mk hw
  have HO := Aside0.mk ho
  have HG := Aside0.mk hg
  have HC := Aside0.mk hc'
  have HC2 := Aside0.mk hc2
  clear hblk hw ho hbel hg hc' hc2
  clear hon hi
  go_enter Tryd.func51, Tryd.ntmps51
  go_wp2_with (first | ((with_reducible refine gate_builtin (b := .append) (xs := #[.tmp 9, .tmp 11]) rfl ?_); at_builtin; refine Kd.R_append (Kd.int .u8) (w0 := W0) W0.heap.size rfl (.tmp 9) (.tmp 11) 22 5 (.int .u8 0) 1 rfl Tryd.underlying22 info5 rfl (by decide) (by omega) (.slice A2 u.word.length c2) u.word c [.int .u8 c] (fun k => k ≠ g ∧ some k ≠ (Value.slice A' o.length c').ownBlock) (fun _ => False) rfl rfl ?aP (fun _ hk => hk.elim) ?aF ?aO ?aB ?aS ?aL ?_; (case aP => exact rfl); (case aF => exact fun k hk => ⟨fun e => by have := blk_lt HBLKA.out; omega, fun e => by have := Kd.R_lt HOA.out k e.symm; omega⟩); (case aO => exact HWA.out); (case aB => exact HBA.out); (case aS => exact HBA.out.size); (case aL => have := HWL.out; omega); intro v3 w3 ho hb hg hat; have HO3 := Aside0.mk (Kd.R_after (Kd.R_mono HOA.out (fun k hk => ⟨hk.1, hk.2⟩)) hg hat); obtain ⟨A4, c4, e3⟩ := Kd.R_slice ho; subst e3; have HB3 := Aside0.mk hb; have HW3 := Aside0.mk ho; have HBLK3 := Aside0.mk ((hg.block g (blk_lt HBLKA.out) (fun e => (HWA.out.1 g e.symm).1 rfl)).trans HBLKA.out); have k0 := (blk_cell HBLK3.out 0).trans rfl; have k1 := (blk_cell HBLK3.out 1).trans rfl; have k2 := (blk_cell HBLK3.out 2).trans rfl; have k3 := (blk_cell HBLK3.out 3).trans rfl; have kz2 := blk_frozen HBLK3.out 2; have kz3 := blk_frozen HBLK3.out 3; clear ho hb hg hat))
  go_region_law (first | (refine goes_ Tryd.func31 (by kernel_rfl) rfl #[.int .u8 u.tag] (by rfl) rfl rfl (by first | rfl | simp [Act.eval, Act.put]) ?_; refine (tagbyte_Ones.calls u.tag _ _ HON.out).mono ?_; rintro e w4 ⟨rfl, ⟨nd, rfl⟩⟩; refine ⟨_, rfl, ?_⟩))
  all_goals (try go_wp2)
  all_goals (
    (try simp only [Exit.inBlock, Exit.then])
    (first | refine bodyPost_ret (results_none rfl _ _ _) rfl ?_ | refine bodyPost_end (results_none rfl _ _ _) rfl ?_)
    refine ⟨rfl, ?_⟩
    exact (by rw [show u.word.length + 1 = (u.word ++ [c]).length by simp]; exact Rd.of (w := w3) HW3.out HO3.out (by repeat (with_reducible first | exact SameB.refl _ _ | apply SameB.drewN | apply SameB.drew | apply SameB.set)) (by repeat (with_reducible first | exact HB3.out | apply below_drew1 | apply pw_below_drewN | refine below_set ?_ HG.out)) HG.out (by (repeat (with_reducible first | refine blk_drew ?_ | refine blk_drewN ?_ _ | apply blk_put)); (with_reducible exact HBLK3.out); all_goals rfl)))
theorem tagged_full {W0 w : World} {g : Nat} {u : U} {o : List Int} {lim c : Int} (hd : Rd W0 w g u o lim) (h0 : 0 ≤ c) (h1 : c < 256) (hi : u.word.length ≤ 140737488355320) (ht0 : 0 ≤ u.tag) (ht1 : u.tag < 256) (hn0 : 0 ≤ u.done) (hn : u.done ≤ 1152921504606846976) (hol : o.length ≤ 70368744177664) (hB : IsB u.word) (h : ¬ (u.word.length : Int) + 1 < onesS u.tag) (ht : u.tag = 255) :
    Calls Tryd.prog 51 #[.pointer (some ⟨g, 0, none⟩), .int .u8 c] w fun e w' => e = .returned (.tuple #[]) ∧ Rd W0 w' g (finishU lim ({ u with word := u.word ++ [c] }, o) u.tag 3).1 (finishU lim ({ u with word := u.word ++ [c] }, o) u.tag 3).2 lim := by
  have hon := tagOnes ht0 ht1
  obtain ⟨on, hone⟩ : ∃ on, on = onesS u.tag := ⟨_, rfl⟩
  rw [← hone] at hon
  have HON := Aside0.mk hon
  have HF := Aside0.mk (show onesS u.tag ≤ (u.word ++ [c]).length by simp; omega)
  have HN := Aside0.mk (And.intro hn0 (And.intro hn hol))
  have HT := Aside0.mk (And.intro ht0 ht1)
  have HBY := Aside0.mk (show IsB (u.word ++ [c]) from hB.append (IsB.cons h0 h1 IsB.nil))
  have HLE := Aside0.mk (show (u.word ++ [c]).length ≤ 140737488355328 by simp; omega)
  rw [← hone] at h
  have d1 : decide (((u.word.length + 1 : Nat) : Int) < (on : Int)) = false := decide_eq_false (by omega)
  have d2 : (((u.word.length + 1 : Nat) : Int) < (on : Int)) = False := eq_false (by omega)
  have d4 : (u.tag == 255) = true := by rw [beq_iff_eq]; exact ht
  clear ht hB hn0 hn hol
  obtain ⟨⟨vW, vO, hblk, hw, ho⟩, hbel, hg⟩ := hd
  obtain ⟨A', c', rfl, hc', _⟩ := Kd.R_reads ho
  obtain ⟨A2, c2, rfl, hc2, _⟩ := Kd.R_reads hw
  have f0 := (blk_cell hblk 0).trans rfl
  have f1 := (blk_cell hblk 1).trans rfl
  have f2 := (blk_cell hblk 2).trans rfl
  have f3 := (blk_cell hblk 3).trans rfl
  have f4 := (blk_cell hblk 4).trans rfl
  have f5 := (blk_cell hblk 5).trans rfl
  have f6 := (blk_cell hblk 6).trans rfl
  have f7 := (blk_cell hblk 7).trans rfl
  have z0 := blk_frozen hblk 0
  have z1 := blk_frozen hblk 1
  have z2 := blk_frozen hblk 2
  have z3 := blk_frozen hblk 3
  have z4 := blk_frozen hblk 4
  have z5 := blk_frozen hblk 5
  have z6 := blk_frozen hblk 6
  have z7 := blk_frozen hblk 7
  have HBA := Aside0.mk hbel
  have HBLKA := Aside0.mk hblk
  have HWA := Aside0.mk hw
  have HOA := Aside0.mk ho
  have HWL := Aside0.mk hi
  have HB := Aside0.mk hbel
  have HBLK := Aside0.mk hblk
  have HW := Aside0.mk hw
  have HO := Aside0.mk ho
  have HG := Aside0.mk hg
  have HC := Aside0.mk hc'
  have HC2 := Aside0.mk hc2
  clear hblk hw ho hbel hg hc' hc2
  clear hon hi
  go_enter Tryd.func51, Tryd.ntmps51
  go_wp2_with (first | ((with_reducible refine gate_builtin (b := .append) (xs := #[.tmp 9, .tmp 11]) rfl ?_); at_builtin; refine Kd.R_append (Kd.int .u8) (w0 := W0) W0.heap.size rfl (.tmp 9) (.tmp 11) 22 5 (.int .u8 0) 1 rfl Tryd.underlying22 info5 rfl (by decide) (by omega) (.slice A2 u.word.length c2) u.word c [.int .u8 c] (fun k => k ≠ g ∧ some k ≠ (Value.slice A' o.length c').ownBlock) (fun _ => False) rfl rfl ?aP (fun _ hk => hk.elim) ?aF ?aO ?aB ?aS ?aL ?_; (case aP => exact rfl); (case aF => exact fun k hk => ⟨fun e => by have := blk_lt HBLKA.out; omega, fun e => by have := Kd.R_lt HOA.out k e.symm; omega⟩); (case aO => exact HWA.out); (case aB => exact HBA.out); (case aS => exact HBA.out.size); (case aL => have := HWL.out; omega); intro v3 w3 ho hb hg hat; have HO3 := Aside0.mk (Kd.R_after (Kd.R_mono HOA.out (fun k hk => ⟨hk.1, hk.2⟩)) hg hat); obtain ⟨A4, c4, e3⟩ := Kd.R_slice ho; subst e3; have HB3 := Aside0.mk hb; have HW3 := Aside0.mk ho; have HBLK3 := Aside0.mk ((hg.block g (blk_lt HBLKA.out) (fun e => (HWA.out.1 g e.symm).1 rfl)).trans HBLKA.out); have k0 := (blk_cell HBLK3.out 0).trans rfl; have k1 := (blk_cell HBLK3.out 1).trans rfl; have k2 := (blk_cell HBLK3.out 2).trans rfl; have k3 := (blk_cell HBLK3.out 3).trans rfl; have kz2 := blk_frozen HBLK3.out 2; have kz3 := blk_frozen HBLK3.out 3; clear ho hb hg hat))
  go_region_law (first | (refine goes_ Tryd.func31 (by kernel_rfl) rfl #[.int .u8 u.tag] (by rfl) rfl rfl (by first | rfl | simp [Act.eval, Act.put]) ?_; refine (tagbyte_Ones.calls u.tag _ _ HON.out).mono ?_; rintro e w4 ⟨rfl, ⟨nd, rfl⟩⟩; refine ⟨_, rfl, ?_⟩))
  all_goals (
    go_wp2_with (first | (go_at_call 54; refine (finish_calls (W0 := W0) (u := { u with word := u.word ++ [c] }) (o := o) (lim := lim) (t := u.tag) (s := 3) ?_ HN.out.1 HN.out.2.1 HN.out.2.2 HT.out.1 HT.out.2 HBY.out HLE.out HF.out).mono ?_; exact (by rw [show u.word.length + 1 = (u.word ++ [c]).length by simp]; exact Rd.of (w := w3) HW3.out HO3.out (by repeat (with_reducible first | exact SameB.refl _ _ | apply SameB.drewN | apply SameB.drew | apply SameB.set)) (by repeat (with_reducible first | exact HB3.out | apply below_drew1 | apply pw_below_drewN | refine below_set ?_ HG.out)) HG.out (by (repeat (with_reducible first | refine blk_drew ?_ | refine blk_drewN ?_ _ | apply blk_put)); (with_reducible exact HBLK3.out); all_goals rfl)); rintro e w5 ⟨rfl, hd5⟩; have HD5 := Aside0.mk hd5; clear hd5))
    (try simp only [Exit.inBlock, Exit.then])
    (first | refine bodyPost_ret (results_none rfl _ _ _) rfl ?_ | refine bodyPost_end (results_none rfl _ _ _) rfl ?_)
    exact ⟨rfl, HD5.out⟩)
theorem tagged_other {W0 w : World} {g : Nat} {u : U} {o : List Int} {lim c : Int} (hd : Rd W0 w g u o lim) (h0 : 0 ≤ c) (h1 : c < 256) (hi : u.word.length ≤ 140737488355320) (ht0 : 0 ≤ u.tag) (ht1 : u.tag < 256) (hn0 : 0 ≤ u.done) (hn : u.done ≤ 1152921504606846976) (hol : o.length ≤ 70368744177664) (hB : IsB u.word) (h : ¬ (u.word.length : Int) + 1 < onesS u.tag) (ht : u.tag ≠ 255) :
    Calls Tryd.prog 51 #[.pointer (some ⟨g, 0, none⟩), .int .u8 c] w fun e w' => e = .returned (.tuple #[]) ∧ Rd W0 w' g (finishU lim ({ u with word := u.word ++ [c] }, o) u.tag 0).1 (finishU lim ({ u with word := u.word ++ [c] }, o) u.tag 0).2 lim := by
  have hon := tagOnes ht0 ht1
  obtain ⟨on, hone⟩ : ∃ on, on = onesS u.tag := ⟨_, rfl⟩
  rw [← hone] at hon
  have HON := Aside0.mk hon
  have HF := Aside0.mk (show onesS u.tag ≤ (u.word ++ [c]).length by simp; omega)
  have HN := Aside0.mk (And.intro hn0 (And.intro hn hol))
  have HT := Aside0.mk (And.intro ht0 ht1)
  have HBY := Aside0.mk (show IsB (u.word ++ [c]) from hB.append (IsB.cons h0 h1 IsB.nil))
  have HLE := Aside0.mk (show (u.word ++ [c]).length ≤ 140737488355328 by simp; omega)
  rw [← hone] at h
  have d1 : decide (((u.word.length + 1 : Nat) : Int) < (on : Int)) = false := decide_eq_false (by omega)
  have d2 : (((u.word.length + 1 : Nat) : Int) < (on : Int)) = False := eq_false (by omega)
  have d4 : (u.tag == 255) = false := by rw [beq_eq_false_iff_ne]; exact ht
  clear ht hB hn0 hn hol
  obtain ⟨⟨vW, vO, hblk, hw, ho⟩, hbel, hg⟩ := hd
  obtain ⟨A', c', rfl, hc', _⟩ := Kd.R_reads ho
  obtain ⟨A2, c2, rfl, hc2, _⟩ := Kd.R_reads hw
  have f0 := (blk_cell hblk 0).trans rfl
  have f1 := (blk_cell hblk 1).trans rfl
  have f2 := (blk_cell hblk 2).trans rfl
  have f3 := (blk_cell hblk 3).trans rfl
  have f4 := (blk_cell hblk 4).trans rfl
  have f5 := (blk_cell hblk 5).trans rfl
  have f6 := (blk_cell hblk 6).trans rfl
  have f7 := (blk_cell hblk 7).trans rfl
  have z0 := blk_frozen hblk 0
  have z1 := blk_frozen hblk 1
  have z2 := blk_frozen hblk 2
  have z3 := blk_frozen hblk 3
  have z4 := blk_frozen hblk 4
  have z5 := blk_frozen hblk 5
  have z6 := blk_frozen hblk 6
  have z7 := blk_frozen hblk 7
  have HBA := Aside0.mk hbel
  have HBLKA := Aside0.mk hblk
  have HWA := Aside0.mk hw
  have HOA := Aside0.mk ho
  have HWL := Aside0.mk hi
  have HB := Aside0.mk hbel
  have HBLK := Aside0.mk hblk
  have HW := Aside0.mk hw
  have HO := Aside0.mk ho
  have HG := Aside0.mk hg
  have HC := Aside0.mk hc'
  have HC2 := Aside0.mk hc2
  clear hblk hw ho hbel hg hc' hc2
  clear hon hi
  go_enter Tryd.func51, Tryd.ntmps51
  go_wp2_with (first | ((with_reducible refine gate_builtin (b := .append) (xs := #[.tmp 9, .tmp 11]) rfl ?_); at_builtin; refine Kd.R_append (Kd.int .u8) (w0 := W0) W0.heap.size rfl (.tmp 9) (.tmp 11) 22 5 (.int .u8 0) 1 rfl Tryd.underlying22 info5 rfl (by decide) (by omega) (.slice A2 u.word.length c2) u.word c [.int .u8 c] (fun k => k ≠ g ∧ some k ≠ (Value.slice A' o.length c').ownBlock) (fun _ => False) rfl rfl ?aP (fun _ hk => hk.elim) ?aF ?aO ?aB ?aS ?aL ?_; (case aP => exact rfl); (case aF => exact fun k hk => ⟨fun e => by have := blk_lt HBLKA.out; omega, fun e => by have := Kd.R_lt HOA.out k e.symm; omega⟩); (case aO => exact HWA.out); (case aB => exact HBA.out); (case aS => exact HBA.out.size); (case aL => have := HWL.out; omega); intro v3 w3 ho hb hg hat; have HO3 := Aside0.mk (Kd.R_after (Kd.R_mono HOA.out (fun k hk => ⟨hk.1, hk.2⟩)) hg hat); obtain ⟨A4, c4, e3⟩ := Kd.R_slice ho; subst e3; have HB3 := Aside0.mk hb; have HW3 := Aside0.mk ho; have HBLK3 := Aside0.mk ((hg.block g (blk_lt HBLKA.out) (fun e => (HWA.out.1 g e.symm).1 rfl)).trans HBLKA.out); have k0 := (blk_cell HBLK3.out 0).trans rfl; have k1 := (blk_cell HBLK3.out 1).trans rfl; have k2 := (blk_cell HBLK3.out 2).trans rfl; have k3 := (blk_cell HBLK3.out 3).trans rfl; have kz2 := blk_frozen HBLK3.out 2; have kz3 := blk_frozen HBLK3.out 3; clear ho hb hg hat))
  go_region_law (first | (refine goes_ Tryd.func31 (by kernel_rfl) rfl #[.int .u8 u.tag] (by rfl) rfl rfl (by first | rfl | simp [Act.eval, Act.put]) ?_; refine (tagbyte_Ones.calls u.tag _ _ HON.out).mono ?_; rintro e w4 ⟨rfl, ⟨nd, rfl⟩⟩; refine ⟨_, rfl, ?_⟩))
  all_goals (
    go_wp2_with (first | (go_at_call 54; refine (finish_calls (W0 := W0) (u := { u with word := u.word ++ [c] }) (o := o) (lim := lim) (t := u.tag) (s := 0) ?_ HN.out.1 HN.out.2.1 HN.out.2.2 HT.out.1 HT.out.2 HBY.out HLE.out HF.out).mono ?_; exact (by rw [show u.word.length + 1 = (u.word ++ [c]).length by simp]; exact Rd.of (w := w3) HW3.out HO3.out (by repeat (with_reducible first | exact SameB.refl _ _ | apply SameB.drewN | apply SameB.drew | apply SameB.set)) (by repeat (with_reducible first | exact HB3.out | apply below_drew1 | apply pw_below_drewN | refine below_set ?_ HG.out)) HG.out (by (repeat (with_reducible first | refine blk_drew ?_ | refine blk_drewN ?_ _ | apply blk_put)); (with_reducible exact HBLK3.out); all_goals rfl)); rintro e w5 ⟨rfl, hd5⟩; have HD5 := Aside0.mk hd5; clear hd5))
    (try simp only [Exit.inBlock, Exit.then])
    (first | refine bodyPost_ret (results_none rfl _ _ _) rfl ?_ | refine bodyPost_end (results_none rfl _ _ _) rfl ?_)
    exact ⟨rfl, HD5.out⟩)
end Go.Proofs.YtpffoecblcfndaaDoor.Us
