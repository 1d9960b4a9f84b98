/- The reader of package unpackstream, part 3: literal, zeros. -/
import Derived.Test.YtpffoecblcfndaaDoorRdr2R
namespace Go.Proofs.YtpffoecblcfndaaDoor.Us
open Go Go.RowKit Go.Proofs.YtpffoecblcfndaaDoor Go.Proofs.YtpffoecblcfndaaDoor.M Go.Proofs.YtpffoecblcfndaaDoor.PUnBase Go.Proofs.YtpffoecblcfndaaDoor.QUnBase Go.Proofs.YtpffoecblcfndaaDoorW.PrintWords Go.Proofs.YtpffoecblcfndaaDoorW.PrintLast Go.Proofs.YtpffoecblcfndaaDoorW.PrintMore
set_option linter.unusedVariables false
set_option linter.unusedSimpArgs false
set_option maxHeartbeats 1000000
set_option maxRecDepth 100000
theorem literal_short {W0 w : World} {g : Nat} {u : U} {o : List Int} {lim c : Int} (hd : Rd W0 w g u o lim) (h0 : 0 ≤ c) (h1 : c < 256) (hi : u.word.length ≤ 140737488355320) (h : (u.word.length : Int) + 1 < 8) :
    Calls Tryd.prog 53 #[.pointer (some ⟨g, 0, none⟩), .int .u8 c] w fun e w' => e = .returned (.tuple #[]) ∧ Rd W0 w' g ((({ u with word := u.word ++ [c] }, o) : UO)).1 ((({ u with word := u.word ++ [c] }, o) : UO)).2 lim := by
  have d1 : decide (((u.word.length + 1 : Nat) : Int) < 8) = true := decide_eq_true (by omega)
  have d2 : (((u.word.length + 1 : Nat) : Int) < 8) = True := eq_true (by omega)
  obtain ⟨⟨vW, vO, hblk, hw, ho⟩, hbel, hg⟩ := hd
  obtain ⟨A', c', rfl, hc', _⟩ := Kd.R_reads ho
  obtain ⟨A2, c2, rfl, hc2, _⟩ := Kd.R_reads hw
  have f0 := (blk_cell hblk 0).trans rfl
  have f1 := (blk_cell hblk 1).trans rfl
  have f2 := (blk_cell hblk 2).trans rfl
  have f3 := (blk_cell hblk 3).trans rfl
  have f4 := (blk_cell hblk 4).trans rfl
  have f5 := (blk_cell hblk 5).trans rfl
  have f6 := (blk_cell hblk 6).trans rfl
  have f7 := (blk_cell hblk 7).trans rfl
  have z0 := blk_frozen hblk 0
  have z1 := blk_frozen hblk 1
  have z2 := blk_frozen hblk 2
  have z3 := blk_frozen hblk 3
  have z4 := blk_frozen hblk 4
  have z5 := blk_frozen hblk 5
  have z6 := blk_frozen hblk 6
  have z7 := blk_frozen hblk 7
  have HBA := Aside0.mk hbel
  have HBLKA := Aside0.mk hblk
  have HWA := Aside0.mk hw
  have HOA := Aside0.mk ho
  have HWL := Aside0.mk hi
  have HB := Aside0.mk hbel
  have HBLK := Aside0.mk hblk
  have HW := Aside0.mk hw
  have HO := Aside0.mk ho
  have HG := Aside0.mk hg
  have HC := Aside0.mk hc'
  have HC2 := Aside0.mk hc2
  clear hblk hw ho hbel hg hc' hc2
  clear hi
  go_enter Tryd.func53, Tryd.ntmps53
  go_wp2_with (first | ((with_reducible refine gate_builtin (b := .append) (xs := #[.tmp 9, .tmp 11]) rfl ?_); at_builtin; refine Kd.R_append (Kd.int .u8) (w0 := W0) W0.heap.size rfl (.tmp 9) (.tmp 11) 22 5 (.int .u8 0) 1 rfl Tryd.underlying22 info5 rfl (by decide) (by omega) (.slice A2 u.word.length c2) u.word c [.int .u8 c] (fun k => k ≠ g ∧ some k ≠ (Value.slice A' o.length c').ownBlock) (fun _ => False) rfl rfl ?aP (fun _ hk => hk.elim) ?aF ?aO ?aB ?aS ?aL ?_; (case aP => exact rfl); (case aF => exact fun k hk => ⟨fun e => by have := blk_lt HBLKA.out; omega, fun e => by have := Kd.R_lt HOA.out k e.symm; omega⟩); (case aO => exact HWA.out); (case aB => exact HBA.out); (case aS => exact HBA.out.size); (case aL => have := HWL.out; omega); intro v3 w3 ho hb hg hat; have HO3 := Aside0.mk (Kd.R_after (Kd.R_mono HOA.out (fun k hk => ⟨hk.1, hk.2⟩)) hg hat); obtain ⟨A4, c4, e3⟩ := Kd.R_slice ho; subst e3; have HB3 := Aside0.mk hb; have HW3 := Aside0.mk ho; have HBLK3 := Aside0.mk ((hg.block g (blk_lt HBLKA.out) (fun e => (HWA.out.1 g e.symm).1 rfl)).trans HBLKA.out); have k0 := (blk_cell HBLK3.out 0).trans rfl; have k1 := (blk_cell HBLK3.out 1).trans rfl; have k2 := (blk_cell HBLK3.out 2).trans rfl; have k3 := (blk_cell HBLK3.out 3).trans rfl; have kz2 := blk_frozen HBLK3.out 2; have kz3 := blk_frozen HBLK3.out 3; clear ho hb hg hat))
  (try simp only [Exit.inBlock, Exit.then])
  (first | refine bodyPost_ret (results_none rfl _ _ _) rfl ?_ | refine bodyPost_end (results_none rfl _ _ _) rfl ?_)
  refine ⟨rfl, ?_⟩
  exact (by rw [show u.word.length + 1 = (u.word ++ [c]).length by simp]; exact Rd.of (w := w3) HW3.out HO3.out (by repeat (with_reducible first | exact SameB.refl _ _ | apply SameB.drewN | apply SameB.drew | apply SameB.set)) (by repeat (with_reducible first | exact HB3.out | apply below_drew1 | apply pw_below_drewN | refine below_set ?_ HG.out)) HG.out (by (repeat (with_reducible first | refine blk_drew ?_ | refine blk_drewN ?_ _ | apply blk_put)); (with_reducible exact HBLK3.out); all_goals rfl))
theorem literal_more {W0 w : World} {g : Nat} {u : U} {o : List Int} {lim c : Int} (hd : Rd W0 w g u o lim) (h0 : 0 ≤ c) (h1 : c < 256) (hi : u.word.length ≤ 140737488355320) (hn0 : 0 ≤ u.done) (hn : u.done ≤ 1152921504606846976) (hol : o.length ≤ 70368744177664) (hB : IsB u.word) (hl0 : 0 < u.left) (hl1 : u.left ≤ 255) (h : ¬ (u.word.length : Int) + 1 < 8) (ht : 1 < u.left) :
    Calls Tryd.prog 53 #[.pointer (some ⟨g, 0, none⟩), .int .u8 c] w fun e w' => e = .returned (.tuple #[]) ∧ Rd W0 w' g (finishU lim ({ u with word := u.word ++ [c], left := u.left - 1 }, o) 255 4).1 (finishU lim ({ u with word := u.word ++ [c], left := u.left - 1 }, o) 255 4).2 lim := by
  have HF := Aside0.mk (show onesS 255 ≤ (u.word ++ [c]).length by rw [onesS_255]; simp; omega)
  have HN := Aside0.mk (And.intro hn0 (And.intro hn hol))
  have HT := Aside0.mk (show (0 : Int) ≤ 255 ∧ (255 : Int) < 256 from by decide)
  have HBY := Aside0.mk (show IsB (u.word ++ [c]) from hB.append (IsB.cons h0 h1 IsB.nil))
  have HLE := Aside0.mk (show (u.word ++ [c]).length ≤ 140737488355328 by simp; omega)
  have d1 : decide (((u.word.length + 1 : Nat) : Int) < 8) = false := decide_eq_false (by omega)
  have d2 : (((u.word.length + 1 : Nat) : Int) < 8) = False := eq_false (by omega)
  have d4 : decide (u.left - 1 > 0) = true := decide_eq_true (by omega)
  have d5 : decide (0 < u.left - 1) = true := decide_eq_true (by omega)
  clear hB hn0 hn hol
  obtain ⟨⟨vW, vO, hblk, hw, ho⟩, hbel, hg⟩ := hd
  obtain ⟨A', c', rfl, hc', _⟩ := Kd.R_reads ho
  obtain ⟨A2, c2, rfl, hc2, _⟩ := Kd.R_reads hw
  have f0 := (blk_cell hblk 0).trans rfl
  have f1 := (blk_cell hblk 1).trans rfl
  have f2 := (blk_cell hblk 2).trans rfl
  have f3 := (blk_cell hblk 3).trans rfl
  have f4 := (blk_cell hblk 4).trans rfl
  have f5 := (blk_cell hblk 5).trans rfl
  have f6 := (blk_cell hblk 6).trans rfl
  have f7 := (blk_cell hblk 7).trans rfl
  have z0 := blk_frozen hblk 0
  have z1 := blk_frozen hblk 1
  have z2 := blk_frozen hblk 2
  have z3 := blk_frozen hblk 3
  have z4 := blk_frozen hblk 4
  have z5 := blk_frozen hblk 5
  have z6 := blk_frozen hblk 6
  have z7 := blk_frozen hblk 7
  have HBA := Aside0.mk hbel
  have HBLKA := Aside0.mk hblk
  have HWA := Aside0.mk hw
  have HOA := Aside0.mk ho
  have HWL := Aside0.mk hi
  have HB := Aside0.mk hbel
  have HBLK := Aside0.mk hblk
  have HW := Aside0.mk hw
  have HO := Aside0.mk ho
  have HG := Aside0.mk hg
  have HC := Aside0.mk hc'
  have HC2 := Aside0.mk hc2
  clear hblk hw ho hbel hg hc' hc2
  clear hi
  go_enter Tryd.func53, Tryd.ntmps53
  go_wp2_with (first | ((with_reducible refine gate_builtin (b := .append) (xs := #[.tmp 9, .tmp 11]) rfl ?_); at_builtin; refine Kd.R_append (Kd.int .u8) (w0 := W0) W0.heap.size rfl (.tmp 9) (.tmp 11) 22 5 (.int .u8 0) 1 rfl Tryd.underlying22 info5 rfl (by decide) (by omega) (.slice A2 u.word.length c2) u.word c [.int .u8 c] (fun k => k ≠ g ∧ some k ≠ (Value.slice A' o.length c').ownBlock) (fun _ => False) rfl rfl ?aP (fun _ hk => hk.elim) ?aF ?aO ?aB ?aS ?aL ?_; (case aP => exact rfl); (case aF => exact fun k hk => ⟨fun e => by have := blk_lt HBLKA.out; omega, fun e => by have := Kd.R_lt HOA.out k e.symm; omega⟩); (case aO => exact HWA.out); (case aB => exact HBA.out); (case aS => exact HBA.out.size); (case aL => have := HWL.out; omega); intro v3 w3 ho hb hg hat; have HO3 := Aside0.mk (Kd.R_after (Kd.R_mono HOA.out (fun k hk => ⟨hk.1, hk.2⟩)) hg hat); obtain ⟨A4, c4, e3⟩ := Kd.R_slice ho; subst e3; have HB3 := Aside0.mk hb; have HW3 := Aside0.mk ho; have HBLK3 := Aside0.mk ((hg.block g (blk_lt HBLKA.out) (fun e => (HWA.out.1 g e.symm).1 rfl)).trans HBLKA.out); have k0 := (blk_cell HBLK3.out 0).trans rfl; have k1 := (blk_cell HBLK3.out 1).trans rfl; have k2 := (blk_cell HBLK3.out 2).trans rfl; have k3 := (blk_cell HBLK3.out 3).trans rfl; have kz2 := blk_frozen HBLK3.out 2; have kz3 := blk_frozen HBLK3.out 3; clear ho hb hg hat) | (go_at_call 54; refine (finish_calls (W0 := W0) (u := { u with word := u.word ++ [c], left := u.left - 1 }) (o := o) (lim := lim) (t := 255) (s := 4) ?_ HN.out.1 HN.out.2.1 HN.out.2.2 HT.out.1 HT.out.2 HBY.out HLE.out HF.out).mono ?_; exact (by rw [show u.word.length + 1 = (u.word ++ [c]).length by simp]; exact Rd.of (w := w3) HW3.out HO3.out (by repeat (with_reducible first | exact SameB.refl _ _ | apply SameB.drewN | apply SameB.drew | apply SameB.set)) (by repeat (with_reducible first | exact HB3.out | apply below_drew1 | apply pw_below_drewN | refine below_set ?_ HG.out)) HG.out (by (repeat (with_reducible first | refine blk_drew ?_ | refine blk_drewN ?_ _ | apply blk_put)); (with_reducible exact HBLK3.out); all_goals rfl)); rintro e w5 ⟨rfl, hd5⟩; have HD5 := Aside0.mk hd5; clear hd5))
  (try simp only [Exit.inBlock, Exit.then])
  (first | refine bodyPost_ret (results_none rfl _ _ _) rfl ?_ | refine bodyPost_end (results_none rfl _ _ _) rfl ?_)
  exact ⟨rfl, HD5.out⟩
theorem literal_last {W0 w : World} {g : Nat} {u : U} {o : List Int} {lim c : Int} (hd : Rd W0 w g u o lim) (h0 : 0 ≤ c) (h1 : c < 256) (hi : u.word.length ≤ 140737488355320) (hn0 : 0 ≤ u.done) (hn : u.done ≤ 1152921504606846976) (hol : o.length ≤ 70368744177664) (hB : IsB u.word) (hl0 : 0 < u.left) (hl1 : u.left ≤ 255) (h : ¬ (u.word.length : Int) + 1 < 8) (ht : ¬ 1 < u.left) :
    Calls Tryd.prog 53 #[.pointer (some ⟨g, 0, none⟩), .int .u8 c] w fun e w' => e = .returned (.tuple #[]) ∧ Rd W0 w' g (finishU lim ({ u with word := u.word ++ [c], left := u.left - 1 }, o) 255 0).1 (finishU lim ({ u with word := u.word ++ [c], left := u.left - 1 }, o) 255 0).2 lim := by
  have HF := Aside0.mk (show onesS 255 ≤ (u.word ++ [c]).length by rw [onesS_255]; simp; omega)
  have HN := Aside0.mk (And.intro hn0 (And.intro hn hol))
  have HT := Aside0.mk (show (0 : Int) ≤ 255 ∧ (255 : Int) < 256 from by decide)
  have HBY := Aside0.mk (show IsB (u.word ++ [c]) from hB.append (IsB.cons h0 h1 IsB.nil))
  have HLE := Aside0.mk (show (u.word ++ [c]).length ≤ 140737488355328 by simp; omega)
  have d1 : decide (((u.word.length + 1 : Nat) : Int) < 8) = false := decide_eq_false (by omega)
  have d2 : (((u.word.length + 1 : Nat) : Int) < 8) = False := eq_false (by omega)
  have d4 : decide (u.left - 1 > 0) = false := decide_eq_false (by omega)
  have d5 : decide (0 < u.left - 1) = false := decide_eq_false (by omega)
  clear hB hn0 hn hol
  obtain ⟨⟨vW, vO, hblk, hw, ho⟩, hbel, hg⟩ := hd
  obtain ⟨A', c', rfl, hc', _⟩ := Kd.R_reads ho
  obtain ⟨A2, c2, rfl, hc2, _⟩ := Kd.R_reads hw
  have f0 := (blk_cell hblk 0).trans rfl
  have f1 := (blk_cell hblk 1).trans rfl
  have f2 := (blk_cell hblk 2).trans rfl
  have f3 := (blk_cell hblk 3).trans rfl
  have f4 := (blk_cell hblk 4).trans rfl
  have f5 := (blk_cell hblk 5).trans rfl
  have f6 := (blk_cell hblk 6).trans rfl
  have f7 := (blk_cell hblk 7).trans rfl
  have z0 := blk_frozen hblk 0
  have z1 := blk_frozen hblk 1
  have z2 := blk_frozen hblk 2
  have z3 := blk_frozen hblk 3
  have z4 := blk_frozen hblk 4
  have z5 := blk_frozen hblk 5
  have z6 := blk_frozen hblk 6
  have z7 := blk_frozen hblk 7
  have HBA := Aside0.mk hbel
  have HBLKA := Aside0.mk hblk
  have HWA := Aside0.mk hw
  have HOA := Aside0.mk ho
  have HWL := Aside0.mk hi
  have HB := Aside0.mk hbel
  have HBLK := Aside0.mk hblk
  have HW := Aside0.mk hw
  have HO := Aside0.mk ho
  have HG := Aside0.mk hg
  have HC := Aside0.mk hc'
  have HC2 := Aside0.mk hc2
  clear hblk hw ho hbel hg hc' hc2
  clear hi
  go_enter Tryd.func53, Tryd.ntmps53
  go_wp2_with (first | ((with_reducible refine gate_builtin (b := .append) (xs := #[.tmp 9, .tmp 11]) rfl ?_); at_builtin; refine Kd.R_append (Kd.int .u8) (w0 := W0) W0.heap.size rfl (.tmp 9) (.tmp 11) 22 5 (.int .u8 0) 1 rfl Tryd.underlying22 info5 rfl (by decide) (by omega) (.slice A2 u.word.length c2) u.word c [.int .u8 c] (fun k => k ≠ g ∧ some k ≠ (Value.slice A' o.length c').ownBlock) (fun _ => False) rfl rfl ?aP (fun _ hk => hk.elim) ?aF ?aO ?aB ?aS ?aL ?_; (case aP => exact rfl); (case aF => exact fun k hk => ⟨fun e => by have := blk_lt HBLKA.out; omega, fun e => by have := Kd.R_lt HOA.out k e.symm; omega⟩); (case aO => exact HWA.out); (case aB => exact HBA.out); (case aS => exact HBA.out.size); (case aL => have := HWL.out; omega); intro v3 w3 ho hb hg hat; have HO3 := Aside0.mk (Kd.R_after (Kd.R_mono HOA.out (fun k hk => ⟨hk.1, hk.2⟩)) hg hat); obtain ⟨A4, c4, e3⟩ := Kd.R_slice ho; subst e3; have HB3 := Aside0.mk hb; have HW3 := Aside0.mk ho; have HBLK3 := Aside0.mk ((hg.block g (blk_lt HBLKA.out) (fun e => (HWA.out.1 g e.symm).1 rfl)).trans HBLKA.out); have k0 := (blk_cell HBLK3.out 0).trans rfl; have k1 := (blk_cell HBLK3.out 1).trans rfl; have k2 := (blk_cell HBLK3.out 2).trans rfl; have k3 := (blk_cell HBLK3.out 3).trans rfl; have kz2 := blk_frozen HBLK3.out 2; have kz3 := blk_frozen HBLK3.out 3; clear ho hb hg hat) | (go_at_call 54; refine (finish_calls (W0 := W0) (u := { u with word := u.word ++ [c], left := u.left - 1 }) (o := o) (lim := lim) (t := 255) (s := 0) ?_ HN.out.1 HN.out.2.1 HN.out.2.2 HT.out.1 HT.out.2 HBY.out HLE.out HF.out).mono ?_; exact (by rw [show u.word.length + 1 = (u.word ++ [c]).length by simp]; exact Rd.of (w := w3) HW3.out HO3.out (by repeat (with_reducible first | exact SameB.refl _ _ | apply SameB.drewN | apply SameB.drew | apply SameB.set)) (by repeat (with_reducible first | exact HB3.out | apply below_drew1 | apply pw_below_drewN | refine below_set ?_ HG.out)) HG.out (by (repeat (with_reducible first | refine blk_drew ?_ | refine blk_drewN ?_ _ | apply blk_put)); (with_reducible exact HBLK3.out); all_goals rfl)); rintro e w5 ⟨rfl, hd5⟩; have HD5 := Aside0.mk hd5; clear hd5))
  (try simp only [Exit.inBlock, Exit.then])
  (first | refine bodyPost_ret (results_none rfl _ _ _) rfl ?_ | refine bodyPost_end (results_none rfl _ _ _) rfl ?_)
  exact ⟨rfl, HD5.out⟩
theorem zeros_store {W0 w : World} {g : Nat} {u : U} {o : List Int} {lim : Int} (hd : Rd W0 w g u o lim) : Rd W0 (w.setCell ⟨g, 0, none⟩ (.int .i64 0)) g { u with st := 0 } o lim := by
  obtain ⟨⟨vW, vO, hblk, hw, ho⟩, hbel, hg⟩ := hd
  obtain ⟨A', c', rfl, hc', _⟩ := Kd.R_reads ho
  obtain ⟨A2, c2, rfl, hc2, _⟩ := Kd.R_reads hw
  have HB := Aside0.mk hbel
  have HBLK := Aside0.mk hblk
  have HW := Aside0.mk hw
  have HO := Aside0.mk ho
  have HG := Aside0.mk hg
  have HC := Aside0.mk hc'
  have HC2 := Aside0.mk hc2
  clear hblk hw ho hbel hg hc' hc2
  exact Rd.of (w := w) HW.out HO.out (by repeat (with_reducible first | exact SameB.refl _ _ | apply SameB.drewN | apply SameB.drew | apply SameB.set)) (by repeat (with_reducible first | exact HB.out | apply below_drew1 | apply pw_below_drewN | refine below_set ?_ HG.out)) HG.out (by (repeat (with_reducible first | refine blk_drew ?_ | apply blk_put)); (with_reducible exact HBLK.out); all_goals rfl)
theorem Rd.cell_err {W0 w : World} {g : Nat} {u : U} {o : List Int} {lim : Int} (hd : Rd W0 w g u o lim) : w.cell? ⟨g, 5, none⟩ = some (.int .i64 u.err) := by
  obtain ⟨⟨vW, vO, hblk, hw, ho⟩, hbel, hg⟩ := hd
  exact (blk_cell hblk 5).trans rfl
theorem emit_done2 {lim x : Int} {p : UO} (hlim : lim ≤ 1152921504606846976) (h0 : 0 ≤ p.1.done) (h1 : p.1.done ≤ 1152921504606846976) : 0 ≤ (emitU lim p x).1.done ∧ (emitU lim p x).1.done ≤ 1152921504606846976 := by
  unfold emitU
  split
  · exact ⟨h0, h1⟩
  · simp only; omega
theorem zeros_calls {W0 w : World} {g N : Nat} {u : U} {o RO : List Int} {RU : U} {lim c : Int} (hd : Rd W0 w g u o lim) (hn0 : 0 ≤ u.done) (hn : u.done ≤ 1152921504606846976) (hlim : lim ≤ 1152921504606846976) (hol : o.length + 2048 ≤ 70368744177664) (h0 : 0 ≤ c) (h1 : c < 256) (hN : c + 1 = (N : Int)) (hN2 : N ≤ 256) (hres : zerosU lim N ({ u with st := 0 }, o) = (RU, RO)) :
    Calls Tryd.prog 52 #[.pointer (some ⟨g, 0, none⟩), .int .u8 c] w fun e w' => e = .returned (.tuple #[]) ∧ Rd W0 w' g RU RO lim := by
  have f0 := (show w.frozen? ⟨g, 0, none⟩ = false from by obtain ⟨⟨vW, vO, hblk, hw, ho⟩, hbel, hg⟩ := hd; exact blk_frozen hblk 0)
  have f1 := (show w.cell? ⟨g, 0, none⟩ = some (.int .i64 u.st) from by obtain ⟨⟨vW, vO, hblk, hw, ho⟩, hbel, hg⟩ := hd; exact (blk_cell hblk 0).trans rfl)
  have HD := Aside0.mk (zeros_store hd)
  have HRES := Aside0.mk hres
  have HLIM := Aside0.mk hlim
  have HQ : Aside0 (0 ≤ ({ u with st := 0 } : U).done ∧ ({ u with st := 0 } : U).done ≤ 1152921504606846976 ∧ o.length + 8 * N ≤ 70368744177664) := ⟨hn0, hn, by omega⟩
  have e1 : wrap64 (c + 1) = (N : Int) := by rw [hN]; exact w64 (by omega) (by omega)
  obtain ⟨s0, hs0⟩ : ∃ s0 : U, s0 = { u with st := 0 } := ⟨_, rfl⟩
  rw [← hs0] at HD HRES HQ
  have HN := Aside0.mk hN2
  have hc0 : 0 ≤ c := h0
  have hc1 : c < 256 := h1
  clear hd hres hn0 hn hol hs0 hlim h0 h1
  go_enter Tryd.func52, Tryd.ntmps52
  go_wp2
  (try simp only [e1])
  clear e1
  go_loopg [4] N (fun kq v4 w' => ∃ (s : U) (o' : List Int), v4 = .int .i64 (kq : Int) ∧ Aside0 (kq ≤ 256) ∧ Aside0 (Rd W0 w' g s o' lim) ∧ Aside0 (zerosU lim kq (s, o') = (RU, RO)) ∧ Aside0 (0 ≤ s.done ∧ s.done ≤ 1152921504606846976 ∧ o'.length + 8 * kq ≤ 70368744177664))
  case atStart => exact ⟨s0, o, (by first | rfl | (simp; done) | (simp [*]; done) | (simp; omega)), HN, HD, HRES, HQ⟩
  case round =>
    obtain ⟨s, o', rfl, HK, HD', HS, HP⟩ := hrel
    clear HRES HD HQ
    have fe := Rd.cell_err HD'.out
    cases gk with
    | zero =>
      have hs := HS.out
      simp only [zerosU, Prod.mk.injEq] at hs
      obtain ⟨rfl, rfl⟩ := hs
      clear HS
      go_wp2
      (try simp only [Exit.inBlock, Exit.then])
      (first | refine bodyPost_ret (results_none rfl _ _ _) rfl ?_ | refine bodyPost_end (results_none rfl _ _ _) rfl ?_)
      exact ⟨rfl, HD'.out⟩
    | succ k1 =>
      have c0 : decide (((k1 + 1 : Nat) : Int) > 0) = true := decide_eq_true (by omega)
      have c1 : decide (0 < ((k1 + 1 : Nat) : Int)) = true := decide_eq_true (by omega)
      by_cases he : s.err = 0
      · have ce : (s.err == 0) = true := by rw [beq_iff_eq]; exact he
        have ci : wrap64 (((k1 + 1 : Nat) : Int) - 1) = (k1 : Int) := by rw [w64 (by have := HK.out; omega) (by have := HK.out; omega)]; omega
        have HS2 := Aside0.mk ((if_pos he).symm.trans HS.out)
        have HE := Aside0.mk (emit_done2 (x := 0) (p := (s, o')) HLIM.out HP.out.1 HP.out.2.1)
        have HL := Aside0.mk (emit_len (lim := lim) (s, o') 0)
        rcases hr : emitU lim (s, o') 0 with ⟨s1, o1⟩
        have HC := Aside0.mk (emit_calls HD'.out HP.out.1 HP.out.2.1 (by have := HP.out.2.2; omega) (x := 0) (by omega) (by omega))
        rw [hr] at HS2 HE HL HC
        clear hr HS HD'
        go_wp2_with (first
          | (go_at_call 55; refine HC.out.mono ?_; rintro e w2 ⟨rfl, hd2⟩; have HD2 := Aside0.mk hd2; clear hd2))
        go_roundg k1
        case measure => omega
        case rel => exact ⟨s1, o1, (by first | rfl | (simp; done) | (simp [*]; done) | (simp; exact w64 (by have := HK.out; omega) (by have := HK.out; omega))), ⟨by have := HK.out; omega⟩, HD2, HS2, ⟨HE.out.1, HE.out.2, by have hl : o1.length ≤ o'.length + 8 := HL.out; have := HP.out.2.2; omega⟩⟩
      · have ce : (s.err == 0) = false := by rw [beq_eq_false_iff_ne]; exact he
        have hs := (if_neg he).symm.trans HS.out
        simp only [Prod.mk.injEq] at hs
        obtain ⟨rfl, rfl⟩ := hs
        clear HS
        go_wp2
        (try simp only [Exit.inBlock, Exit.then])
        (first | refine bodyPost_ret (results_none rfl _ _ _) rfl ?_ | refine bodyPost_end (results_none rfl _ _ _) rfl ?_)
        exact ⟨rfl, HD'.out⟩
end Go.Proofs.YtpffoecblcfndaaDoor.Us
