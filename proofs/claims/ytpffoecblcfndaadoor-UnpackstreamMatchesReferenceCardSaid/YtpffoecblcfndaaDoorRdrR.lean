/- The reader of package unpackstream: its methods, walked by hand, come to plain functions. Part 1: emit, tag, count. -/
import Derived.Test.YtpffoecblcfndaaDoorQUnBaseR
import Derived.Test.YtpffoecblcfndaaDoorUst2R
import Derived.Deep.RegionWith
import Derived.Deep.RegionLaw
import Derived.RegionCalls
import Derived.WalkMore
namespace Go.Proofs.YtpffoecblcfndaaDoor.Us
open Go Go.RowKit Go.Proofs.YtpffoecblcfndaaDoor Go.Proofs.YtpffoecblcfndaaDoor.M Go.Proofs.YtpffoecblcfndaaDoor.PUnBase Go.Proofs.YtpffoecblcfndaaDoor.QUnBase Go.Proofs.YtpffoecblcfndaaDoorW.PrintWords Go.Proofs.YtpffoecblcfndaaDoorW.PrintLast Go.Proofs.YtpffoecblcfndaaDoorW.PrintMore
set_option linter.unusedVariables false
set_option linter.unusedSimpArgs false
set_option maxHeartbeats 1000000
set_option maxRecDepth 100000
structure Rd (W0 w : World) (g : Nat) (u : U) (o : List Int) (lim : Int) : Prop where
  ex : ∃ vW vO : Value, w.heap[g]? = some (.cells #[.int .i64 u.st, .int .u8 u.tag, vW, .int .i64 u.left, .int .i64 u.done, .int .i64 u.err, .int .i64 lim, vO] 49 (0, 0)) ∧ Kd.R (Kd.int .u8) 5 w W0.heap.size (fun k => k ≠ g ∧ some k ≠ vO.ownBlock) vW u.word ∧ Kd.R (Kd.int .u8) 5 w W0.heap.size (fun k => k ≠ g ∧ some k ≠ vW.ownBlock) vO o
  bel : Below W0.heap.size W0 w
  hg : W0.heap.size ≤ g
theorem Rd.drew {W0 w : World} {g : Nat} {u : U} {o : List Int} {lim : Int} (h : Rd W0 w g u o lim) : Rd W0 w.drew g u o lim := by
  obtain ⟨⟨vW, vO, hblk, hw, ho⟩, hbel, hg⟩ := h
  exact ⟨⟨vW, vO, hblk, Kd.R_drew hw, Kd.R_drew ho⟩, hbel.drew, hg⟩
theorem Rd.drewN {W0 w : World} {g : Nat} {u : U} {o : List Int} {lim : Int} (h : Rd W0 w g u o lim) (n : Nat) : Rd W0 (w.drewN n) g u o lim := by
  obtain ⟨⟨vW, vO, hblk, hw, ho⟩, hbel, hg⟩ := h
  exact ⟨⟨vW, vO, hblk, Kd.R_drewN hw n, Kd.R_drewN ho n⟩, pw_below_drewN hbel n, hg⟩
def SameB (g : Nat) (w w' : World) : Prop := ∀ k, k ≠ g → w'.heap[k]? = w.heap[k]?
theorem SameB.refl (g : Nat) (w : World) : SameB g w w := fun _ _ => rfl
theorem SameB.drew {g : Nat} {w w' : World} (h : SameB g w w') : SameB g w w'.drew := h
theorem SameB.drewN {g : Nat} {w w' : World} (h : SameB g w w') (n : Nat) : SameB g w (w'.drewN n) := h
theorem SameB.set {g j : Nat} {w w' : World} {v : Value} (h : SameB g w w') : SameB g w (w'.setCell ⟨g, j, none⟩ v) := fun k hk => (Below.heap_setCell w' ⟨g, j, none⟩ v k hk).trans (h k hk)
theorem Rd.of {W0 w w' : World} {g : Nat} {u : U} {o : List Int} {lim : Int} {vW vO : Value}
    (hw : Kd.R (Kd.int .u8) 5 w W0.heap.size (fun k => k ≠ g ∧ some k ≠ vO.ownBlock) vW u.word) (ho : Kd.R (Kd.int .u8) 5 w W0.heap.size (fun k => k ≠ g ∧ some k ≠ vW.ownBlock) vO o)
    (hm : SameB g w w') (hbel : Below W0.heap.size W0 w') (hg : W0.heap.size ≤ g)
    (hblk : w'.heap[g]? = some (.cells #[.int .i64 u.st, .int .u8 u.tag, vW, .int .i64 u.left, .int .i64 u.done, .int .i64 u.err, .int .i64 lim, vO] 49 (0, 0))) : Rd W0 w' g u o lim :=
  ⟨⟨vW, vO, hblk, Kd.R_move hw (fun k hk => hm k hk.1), Kd.R_move ho (fun k hk => hm k hk.1)⟩, hbel, hg⟩
theorem Rd.of_nil {W0 w w' : World} {g : Nat} {u : U} {o : List Int} {lim : Int} {vO : Value} {ok : Nat → Prop} (hu : u.word = []) (hok : ∀ k, ok k → k ≠ g)
    (ho : Kd.R (Kd.int .u8) 5 w W0.heap.size ok vO o)
    (hm : SameB g w w') (hbel : Below W0.heap.size W0 w') (hg : W0.heap.size ≤ g)
    (hblk : w'.heap[g]? = some (.cells #[.int .i64 u.st, .int .u8 u.tag, .slice none 0 0, .int .i64 u.left, .int .i64 u.done, .int .i64 u.err, .int .i64 lim, vO] 49 (0, 0))) : Rd W0 w' g u o lim :=
  Rd.of (w := w) (by rw [hu]; exact Kd.R_nil _ _ _ _ _) (Kd.R_mono ho (fun k hk => ⟨hok k hk, by simp [Value.ownBlock]⟩)) hm hbel hg hblk
theorem Rd.put {W0 w w' : World} {g : Nat} {u u' : U} {o : List Int} {lim : Int} {vW vO : Value}
    (hw : Kd.R (Kd.int .u8) 5 w W0.heap.size (fun k => k ≠ g ∧ some k ≠ vO.ownBlock) vW u.word) (ho : Kd.R (Kd.int .u8) 5 w W0.heap.size (fun k => k ≠ g ∧ some k ≠ vW.ownBlock) vO o)
    (hm : ∀ k, k ≠ g → w'.heap[k]? = w.heap[k]?) (hu : u'.word = u.word) (hbel : Below W0.heap.size W0 w') (hg : W0.heap.size ≤ g)
    (hblk : w'.heap[g]? = some (.cells #[.int .i64 u'.st, .int .u8 u'.tag, vW, .int .i64 u'.left, .int .i64 u'.done, .int .i64 u'.err, .int .i64 lim, vO] 49 (0, 0))) : Rd W0 w' g u' o lim :=
  ⟨⟨vW, vO, hblk, by rw [hu]; exact Kd.R_move hw (fun k hk => hm k hk.1), Kd.R_move ho (fun k hk => hm k hk.1)⟩, hbel, hg⟩
theorem emit_full {W0 w : World} {g : Nat} {u : U} {o : List Int} {lim x : Int} (hd : Rd W0 w g u o lim) (h : lim < u.done + 8) (hn0 : 0 ≤ u.done) (hn : u.done ≤ 1152921504606846976) :
    Calls Tryd.prog 55 #[.pointer (some ⟨g, 0, none⟩), .int .u64 x] w fun e w' => e = .returned (.tuple #[]) ∧ Rd W0 w' g ⟨0, 0, [], 0, u.done, 11⟩ o lim := by
  obtain ⟨⟨vW, vO, hblk, hw, ho⟩, hbel, hg⟩ := hd
  obtain ⟨A', c', rfl, hc', _⟩ := Kd.R_reads ho
  obtain ⟨A2, c2, rfl, hc2, _⟩ := Kd.R_reads hw
  have f0 := (blk_cell hblk 0).trans rfl
  have f1 := (blk_cell hblk 1).trans rfl
  have f2 := (blk_cell hblk 2).trans rfl
  have f3 := (blk_cell hblk 3).trans rfl
  have f4 := (blk_cell hblk 4).trans rfl
  have f5 := (blk_cell hblk 5).trans rfl
  have f6 := (blk_cell hblk 6).trans rfl
  have z0 := blk_frozen hblk 0
  have z1 := blk_frozen hblk 1
  have z2 := blk_frozen hblk 2
  have z3 := blk_frozen hblk 3
  have z4 := blk_frozen hblk 4
  have z5 := blk_frozen hblk 5
  have z6 := blk_frozen hblk 6
  have e1 : wrap64 (u.done + 8) = u.done + 8 := w64 (by omega) (by omega)
  have d1 : decide (u.done + 8 > lim) = true := decide_eq_true h
  have HB := Aside0.mk hbel
  have HBLK := Aside0.mk hblk
  have HW := Aside0.mk hw
  have HO := Aside0.mk ho
  have HG := Aside0.mk hg
  have HC := Aside0.mk hc'
  have HC2 := Aside0.mk hc2
  clear hblk hw ho hbel hg hc' hc2
  clear h
  go_enter Tryd.func55, Tryd.ntmps55
  go_wp2
  go_region
  go_wp2
  (try simp only [Exit.inBlock, Exit.then])
  (first | refine bodyPost_ret (results_none rfl _ _ _) rfl ?_ | refine bodyPost_end (results_none rfl _ _ _) rfl ?_)
  exact ⟨rfl, Rd.of_nil (w := w) rfl (fun k hk => hk.1) HO.out (by repeat (with_reducible first | exact SameB.refl _ _ | apply SameB.drewN | apply SameB.drew | apply SameB.set)) (by repeat (with_reducible first | exact HB.out | apply below_drew1 | apply pw_below_drewN | refine below_set ?_ HG.out)) HG.out (by (repeat (with_reducible first | refine blk_drew ?_ | apply blk_put)); (with_reducible exact HBLK.out); all_goals rfl)⟩
theorem C_one (W : World) (x : Int) (t : TypeId) : Kd.C (Kd.int .u64) (W.alloc (.cells #[.int .u64 x] t)) (some ⟨W.heap.size, 0, none⟩) 1 [x] := by
  refine ⟨rfl, by omega, fun _ => ⟨_, rfl, fun j p hj => ⟨[.int .u64 x], rfl, ?_, fun i u hu => ?_⟩⟩⟩
  · cases j with
    | zero => simp at hj; subst hj; rfl
    | succ j => simp at hj
  · cases j with
    | zero =>
      cases i with
      | zero =>
        simp at hu; subst hu
        have h : (W.alloc (.cells #[.int .u64 x] t)).heap[W.heap.size]? = some (.cells #[.int .u64 x] t) := by
          show (W.heap.push _)[W.heap.size]? = _
          rw [Array.getElem?_push_size]
        show (World.cell? _ ⟨W.heap.size, 0, none⟩) = _
        simp only [World.cell?, h]
        rfl
      | succ i => simp at hu
    | succ j => simp at hj
theorem emit_ok {W0 w : World} {g : Nat} {u : U} {o : List Int} {lim x : Int} (hd : Rd W0 w g u o lim) (h : ¬ lim < u.done + 8) (hn0 : 0 ≤ u.done) (hn : u.done ≤ 1152921504606846976) (hol : o.length ≤ 70368744177664) (hx0 : 0 ≤ x) (hx1 : x < 18446744073709551616) :
    Calls Tryd.prog 55 #[.pointer (some ⟨g, 0, none⟩), .int .u64 x] w fun e w' => e = .returned (.tuple #[]) ∧ Rd W0 w' g { u with done := u.done + 8 } (o ++ bytesS [x]) lim := by
  obtain ⟨kb, hkb⟩ := Ev.rounds (wordBytes [x] (by simp))
  obtain ⟨⟨vW, vO, hblk, hw, ho⟩, hbel, hg⟩ := hd
  obtain ⟨A', c', rfl, hc', _⟩ := Kd.R_reads ho
  obtain ⟨A2, c2, rfl, hc2, _⟩ := Kd.R_reads hw
  have f0 := (blk_cell hblk 0).trans rfl
  have f1 := (blk_cell hblk 1).trans rfl
  have f2 := (blk_cell hblk 2).trans rfl
  have f3 := (blk_cell hblk 3).trans rfl
  have f4 := (blk_cell hblk 4).trans rfl
  have f5 := (blk_cell hblk 5).trans rfl
  have f6 := (blk_cell hblk 6).trans rfl
  have f7 := (blk_cell hblk 7).trans rfl
  have z0 := blk_frozen hblk 0
  have z1 := blk_frozen hblk 1
  have z2 := blk_frozen hblk 2
  have z3 := blk_frozen hblk 3
  have z4 := blk_frozen hblk 4
  have z5 := blk_frozen hblk 5
  have z6 := blk_frozen hblk 6
  have z7 := blk_frozen hblk 7
  have e1 : wrap64 (u.done + 8) = u.done + 8 := w64 (by omega) (by omega)
  have d1 : decide (u.done + 8 > lim) = false := decide_eq_false h
  have HKB := Aside0.mk hkb
  have hlt : g < w.heap.size := blk_lt hblk
  have hgne : ¬ g = w.heap.size := by omega
  have HSZ := Aside0.mk (show w.heap.size ≤ (w.drew.drew.alloc (.cells #[.int .u64 x] 57)).heap.size by simp)
  have HB := Aside0.mk hbel
  have HBLK := Aside0.mk hblk
  have HW := Aside0.mk hw
  have HO := Aside0.mk ho
  have HG := Aside0.mk hg
  have HC := Aside0.mk hc'
  have HC2 := Aside0.mk hc2
  clear hblk hw ho hbel hg hc' hc2
  clear h hkb
  go_enter Tryd.func55, Tryd.ntmps55
  go_wp2
  go_region
  go_wp2
  go_region_law (first
    | (refine goes_ Tryd.func57 (by kernel_rfl) rfl #[.slice (some ⟨w.heap.size, 0, none⟩) 1 1] (by rfl) rfl rfl (by first | rfl | simp [Act.eval, Act.put]) ?_
       refine (word_Bytes.calls kb _ 1 [x] (bytesS [x]) _ ?_ (Nat.le_refl 1) HKB.out).mono ?_
       exact C_one w.drew.drew x 57
       rintro e w2 ⟨v2, rfl, hv2, hb2⟩
       refine ⟨_, rfl, ?_⟩
       obtain ⟨A3, c3, rfl, hlc2, hC2⟩ := Kd.R_reads hv2
       have HCC2 := Aside0.mk hC2
       have HB2 := Aside0.mk ((HB.out.drew.drew.alloc (Nat.le_trans HB.out.size (Nat.le_refl _)) _).trans (hb2.mono (Nat.le_trans HB.out.size HSZ.out)))
       have HO2 := Aside0.mk (Kd.R_below (Kd.R_alloc (Kd.R_drew (Kd.R_drew HO.out)) _) hb2)
       have HW2 := Aside0.mk (Kd.R_below (Kd.R_alloc (Kd.R_drew (Kd.R_drew HW.out)) _) hb2)
       have HBLK2 := Aside0.mk (blk_below (blk_alloc (blk_drew (blk_drew HBLK.out)) _) hb2)
       have f12 := (blk_cell HBLK2.out 7).trans rfl
       clear hC2 hb2 hv2 hlc2)
    | (refine Kd.R_append_rows_step (Kd.int .u8) (w0 := W0) W0.heap.size (by rfl) (.tmp 28) (.tmp 31) 22 5 (.int .u8 0) 1 rfl Tryd.underlying22 info5 rfl (by decide) (by omega) (.slice A' o.length c') o (bytesS [x]) A3 (bytesS [x]).length c3 (fun k => k ≠ g ∧ some k ≠ (Value.slice A2 u.word.length c2).ownBlock) (fun _ => False) rfl rfl HO2.out HCC2.out (fun _ _ h => h) (fun _ hk => hk.elim) ?hF HB2.out ?hS ?hL ?_
       case hF => exact fun k hk => ⟨fun e => by have := blk_lt HBLK2.out; omega, fun e => by have := Kd.R_lt HW2.out k e.symm; omega⟩
       case hS => exact Nat.le_trans HB2.out.size (Nat.le_refl _)
       case hL => rw [bytesS_length]; simp only [List.length_cons, List.length_nil]; omega
       intro v3 w3 ho3 hb3 hg3 hat3
       have HW3 := Aside0.mk (Kd.R_after (Kd.R_mono HW2.out (fun k hk => ⟨hk.1, hk.2⟩)) hg3 hat3)
       obtain ⟨A4, c4, e3⟩ := Kd.R_slice ho3
       subst e3
       have HB3 := Aside0.mk hb3
       have HO3 := Aside0.mk ho3
       have HBLK3 := Aside0.mk ((hg3.block g (blk_lt HBLK2.out) (fun e => (HO2.out.1 g e.symm).1 rfl)).trans HBLK2.out)
       have f13 := (blk_cell HBLK3.out 7).trans rfl
       have f14 := blk_frozen HBLK3.out 7
       have f15 := (blk_cell HBLK3.out 4).trans rfl
       have f16 := blk_frozen HBLK3.out 4
       clear ho3 hb3 hg3 hat3))
  all_goals (try go_wp2)
  all_goals (
    (try simp only [Exit.inBlock, Exit.then])
    (first | refine bodyPost_ret (results_none rfl _ _ _) rfl ?_ | refine bodyPost_end (results_none rfl _ _ _) rfl ?_)
    rw [← List.length_append]
    exact ⟨rfl, Rd.of (w := w3) HW3.out HO3.out (by repeat (with_reducible first | exact SameB.refl _ _ | apply SameB.drewN | apply SameB.drew | apply SameB.set)) (by repeat (with_reducible first | exact HB3.out | apply below_drew1 | apply pw_below_drewN | refine below_set ?_ HG.out)) HG.out (by (repeat (with_reducible first | refine blk_drew ?_ | apply blk_put)); (with_reducible exact HBLK3.out); all_goals rfl)⟩)
theorem emit_calls {W0 w : World} {g : Nat} {u : U} {o : List Int} {lim x : Int} (hd : Rd W0 w g u o lim) (hn0 : 0 ≤ u.done) (hn : u.done ≤ 1152921504606846976) (hol : o.length ≤ 70368744177664) (hx0 : 0 ≤ x) (hx1 : x < 18446744073709551616) :
    Calls Tryd.prog 55 #[.pointer (some ⟨g, 0, none⟩), .int .u64 x] w fun e w' => e = .returned (.tuple #[]) ∧ Rd W0 w' g (emitU lim (u, o) x).1 (emitU lim (u, o) x).2 lim := by
  unfold emitU
  by_cases h : lim < u.done + 8
  · rw [if_pos h]; exact emit_full hd h hn0 hn
  · rw [if_neg h]; exact emit_ok hd h hn0 hn hol hx0 hx1
theorem tag_calls0 {W0 w : World} {g : Nat} {u : U} {o : List Int} {lim c : Int} (hd : Rd W0 w g u o lim) (h0 : 0 ≤ c) (h1 : c < 256) (h : c = 0) :
    Calls Tryd.prog 50 #[.pointer (some ⟨g, 0, none⟩), .int .u8 c] w fun e w' => e = .returned (.tuple #[]) ∧ Rd W0 w' g { u with st := 2, tag := c } o lim := by
  obtain ⟨⟨vW, vO, hblk, hw, ho⟩, hbel, hg⟩ := hd
  obtain ⟨A', c', rfl, hc', _⟩ := Kd.R_reads ho
  obtain ⟨A2, c2, rfl, hc2, _⟩ := Kd.R_reads hw
  have f0 := (blk_cell hblk 0).trans rfl
  have f1 := (blk_cell hblk 1).trans rfl
  have f2 := (blk_cell hblk 2).trans rfl
  have f3 := (blk_cell hblk 3).trans rfl
  have f4 := (blk_cell hblk 4).trans rfl
  have f5 := (blk_cell hblk 5).trans rfl
  have f6 := (blk_cell hblk 6).trans rfl
  have f7 := (blk_cell hblk 7).trans rfl
  have z0 := blk_frozen hblk 0
  have z1 := blk_frozen hblk 1
  have z2 := blk_frozen hblk 2
  have z3 := blk_frozen hblk 3
  have z4 := blk_frozen hblk 4
  have z5 := blk_frozen hblk 5
  have z6 := blk_frozen hblk 6
  have z7 := blk_frozen hblk 7
  subst h
  have HB := Aside0.mk hbel
  have HBLK := Aside0.mk hblk
  have HW := Aside0.mk hw
  have HO := Aside0.mk ho
  have HG := Aside0.mk hg
  have HC := Aside0.mk hc'
  have HC2 := Aside0.mk hc2
  clear hblk hw ho hbel hg hc' hc2
  go_enter Tryd.func50, Tryd.ntmps50
  go_wp2
  (try simp only [Exit.inBlock, Exit.then])
  (first | refine bodyPost_ret (results_none rfl _ _ _) rfl ?_ | refine bodyPost_end (results_none rfl _ _ _) rfl ?_)
  exact ⟨rfl, Rd.of (w := w) HW.out HO.out (by repeat (with_reducible first | exact SameB.refl _ _ | apply SameB.drewN | apply SameB.drew | apply SameB.set)) (by repeat (with_reducible first | exact HB.out | apply below_drew1 | apply pw_below_drewN | refine below_set ?_ HG.out)) HG.out (by (repeat (with_reducible first | refine blk_drew ?_ | apply blk_put)); (with_reducible exact HBLK.out); all_goals rfl)⟩
theorem tag_calls1 {W0 w : World} {g : Nat} {u : U} {o : List Int} {lim c : Int} (hd : Rd W0 w g u o lim) (h0 : 0 ≤ c) (h1 : c < 256) (h : c ≠ 0) :
    Calls Tryd.prog 50 #[.pointer (some ⟨g, 0, none⟩), .int .u8 c] w fun e w' => e = .returned (.tuple #[]) ∧ Rd W0 w' g { u with st := 1, tag := c } o lim := by
  obtain ⟨⟨vW, vO, hblk, hw, ho⟩, hbel, hg⟩ := hd
  obtain ⟨A', c', rfl, hc', _⟩ := Kd.R_reads ho
  obtain ⟨A2, c2, rfl, hc2, _⟩ := Kd.R_reads hw
  have f0 := (blk_cell hblk 0).trans rfl
  have f1 := (blk_cell hblk 1).trans rfl
  have f2 := (blk_cell hblk 2).trans rfl
  have f3 := (blk_cell hblk 3).trans rfl
  have f4 := (blk_cell hblk 4).trans rfl
  have f5 := (blk_cell hblk 5).trans rfl
  have f6 := (blk_cell hblk 6).trans rfl
  have f7 := (blk_cell hblk 7).trans rfl
  have z0 := blk_frozen hblk 0
  have z1 := blk_frozen hblk 1
  have z2 := blk_frozen hblk 2
  have z3 := blk_frozen hblk 3
  have z4 := blk_frozen hblk 4
  have z5 := blk_frozen hblk 5
  have z6 := blk_frozen hblk 6
  have z7 := blk_frozen hblk 7
  have d1 : (c == 0) = false := by rw [beq_eq_false_iff_ne]; exact h
  have HB := Aside0.mk hbel
  have HBLK := Aside0.mk hblk
  have HW := Aside0.mk hw
  have HO := Aside0.mk ho
  have HG := Aside0.mk hg
  have HC := Aside0.mk hc'
  have HC2 := Aside0.mk hc2
  clear hblk hw ho hbel hg hc' hc2
  go_enter Tryd.func50, Tryd.ntmps50
  go_wp2
  (try simp only [Exit.inBlock, Exit.then])
  (first | refine bodyPost_ret (results_none rfl _ _ _) rfl ?_ | refine bodyPost_end (results_none rfl _ _ _) rfl ?_)
  exact ⟨rfl, Rd.of (w := w) HW.out HO.out (by repeat (with_reducible first | exact SameB.refl _ _ | apply SameB.drewN | apply SameB.drew | apply SameB.set)) (by repeat (with_reducible first | exact HB.out | apply below_drew1 | apply pw_below_drewN | refine below_set ?_ HG.out)) HG.out (by (repeat (with_reducible first | refine blk_drew ?_ | apply blk_put)); (with_reducible exact HBLK.out); all_goals rfl)⟩
theorem count_calls0 {W0 w : World} {g : Nat} {u : U} {o : List Int} {lim c : Int} (hd : Rd W0 w g u o lim) (h0 : 0 ≤ c) (h1 : c < 256) (h : c = 0) :
    Calls Tryd.prog 48 #[.pointer (some ⟨g, 0, none⟩), .int .u8 c] w fun e w' => e = .returned (.tuple #[]) ∧ Rd W0 w' g { u with st := 0, left := c } o lim := by
  obtain ⟨⟨vW, vO, hblk, hw, ho⟩, hbel, hg⟩ := hd
  obtain ⟨A', c', rfl, hc', _⟩ := Kd.R_reads ho
  obtain ⟨A2, c2, rfl, hc2, _⟩ := Kd.R_reads hw
  have f0 := (blk_cell hblk 0).trans rfl
  have f1 := (blk_cell hblk 1).trans rfl
  have f2 := (blk_cell hblk 2).trans rfl
  have f3 := (blk_cell hblk 3).trans rfl
  have f4 := (blk_cell hblk 4).trans rfl
  have f5 := (blk_cell hblk 5).trans rfl
  have f6 := (blk_cell hblk 6).trans rfl
  have f7 := (blk_cell hblk 7).trans rfl
  have z0 := blk_frozen hblk 0
  have z1 := blk_frozen hblk 1
  have z2 := blk_frozen hblk 2
  have z3 := blk_frozen hblk 3
  have z4 := blk_frozen hblk 4
  have z5 := blk_frozen hblk 5
  have z6 := blk_frozen hblk 6
  have z7 := blk_frozen hblk 7
  subst h
  have HB := Aside0.mk hbel
  have HBLK := Aside0.mk hblk
  have HW := Aside0.mk hw
  have HO := Aside0.mk ho
  have HG := Aside0.mk hg
  have HC := Aside0.mk hc'
  have HC2 := Aside0.mk hc2
  clear hblk hw ho hbel hg hc' hc2
  go_enter Tryd.func48, Tryd.ntmps48
  go_wp2
  (try simp only [Exit.inBlock, Exit.then])
  (first | refine bodyPost_ret (results_none rfl _ _ _) rfl ?_ | refine bodyPost_end (results_none rfl _ _ _) rfl ?_)
  exact ⟨rfl, Rd.of (w := w) HW.out HO.out (by repeat (with_reducible first | exact SameB.refl _ _ | apply SameB.drewN | apply SameB.drew | apply SameB.set)) (by repeat (with_reducible first | exact HB.out | apply below_drew1 | apply pw_below_drewN | refine below_set ?_ HG.out)) HG.out (by (repeat (with_reducible first | refine blk_drew ?_ | apply blk_put)); (with_reducible exact HBLK.out); all_goals rfl)⟩
theorem count_calls1 {W0 w : World} {g : Nat} {u : U} {o : List Int} {lim c : Int} (hd : Rd W0 w g u o lim) (h0 : 0 ≤ c) (h1 : c < 256) (h : 0 < c) :
    Calls Tryd.prog 48 #[.pointer (some ⟨g, 0, none⟩), .int .u8 c] w fun e w' => e = .returned (.tuple #[]) ∧ Rd W0 w' g { u with st := 4, left := c } o lim := by
  obtain ⟨⟨vW, vO, hblk, hw, ho⟩, hbel, hg⟩ := hd
  obtain ⟨A', c', rfl, hc', _⟩ := Kd.R_reads ho
  obtain ⟨A2, c2, rfl, hc2, _⟩ := Kd.R_reads hw
  have f0 := (blk_cell hblk 0).trans rfl
  have f1 := (blk_cell hblk 1).trans rfl
  have f2 := (blk_cell hblk 2).trans rfl
  have f3 := (blk_cell hblk 3).trans rfl
  have f4 := (blk_cell hblk 4).trans rfl
  have f5 := (blk_cell hblk 5).trans rfl
  have f6 := (blk_cell hblk 6).trans rfl
  have f7 := (blk_cell hblk 7).trans rfl
  have z0 := blk_frozen hblk 0
  have z1 := blk_frozen hblk 1
  have z2 := blk_frozen hblk 2
  have z3 := blk_frozen hblk 3
  have z4 := blk_frozen hblk 4
  have z5 := blk_frozen hblk 5
  have z6 := blk_frozen hblk 6
  have z7 := blk_frozen hblk 7
  have d1 : decide (0 < c) = true := decide_eq_true h
  have d2 : decide (c > 0) = true := decide_eq_true h
  have d3 : wrap64 c = c := w64 (by omega) (by omega)
  have HB := Aside0.mk hbel
  have HBLK := Aside0.mk hblk
  have HW := Aside0.mk hw
  have HO := Aside0.mk ho
  have HG := Aside0.mk hg
  have HC := Aside0.mk hc'
  have HC2 := Aside0.mk hc2
  clear hblk hw ho hbel hg hc' hc2
  go_enter Tryd.func48, Tryd.ntmps48
  go_wp2
  (try simp only [Exit.inBlock, Exit.then])
  (first | refine bodyPost_ret (results_none rfl _ _ _) rfl ?_ | refine bodyPost_end (results_none rfl _ _ _) rfl ?_)
  exact ⟨rfl, Rd.of (w := w) HW.out HO.out (by repeat (with_reducible first | exact SameB.refl _ _ | apply SameB.drewN | apply SameB.drew | apply SameB.set)) (by repeat (with_reducible first | exact HB.out | apply below_drew1 | apply pw_below_drewN | refine below_set ?_ HG.out)) HG.out (by (repeat (with_reducible first | refine blk_drew ?_ | apply blk_put)); (with_reducible exact HBLK.out); all_goals rfl)⟩
end Go.Proofs.YtpffoecblcfndaaDoor.Us
