/- Package packstream, walked by hand: the writer's begin and word. -/
import Derived.Test.YtibkbgaonjdpiaaPk3S
namespace Go.Proofs.Ytibkbgaonjdpiaa.Ps
open Go Go.RowKit Go.Proofs.Ytibkbgaonjdpiaa Go.Proofs.Ytibkbgaonjdpiaa.M Go.Proofs.Ytibkbgaonjdpiaa.PPaBase Go.Proofs.Ytibkbgaonjdpiaa.QPaBase Go.Proofs.YtibkbgaonjdpiaaW.PrintWords Go.Proofs.YtibkbgaonjdpiaaW.PrintLast Go.Proofs.YtibkbgaonjdpiaaW.PrintMore
set_option linter.unusedVariables false
set_option linter.unusedSimpArgs false
set_option maxHeartbeats 1000000
set_option maxRecDepth 100000
theorem C_one (W : World) (x : Int) (t : TypeId) : Kd.C (Kd.int .u64) (W.alloc (.cells #[.int .u64 x] t)) (some ⟨W.heap.size, 0, none⟩) 1 [x] := by
  refine ⟨rfl, by omega, fun _ => ⟨_, rfl, fun j p hj => ⟨[.int .u64 x], rfl, ?_, fun i u hu => ?_⟩⟩⟩
  · cases j with
    | zero => simp at hj; subst hj; rfl
    | succ j => simp at hj
  · cases j with
    | zero =>
      cases i with
      | zero =>
        simp at hu; subst hu
        have h : (W.alloc (.cells #[.int .u64 x] t)).heap[W.heap.size]? = some (.cells #[.int .u64 x] t) := by
          show (W.heap.push _)[W.heap.size]? = _
          rw [Array.getElem?_push_size]
        show (World.cell? _ ⟨W.heap.size, 0, none⟩) = _
        simp only [World.cell?, h]
        rfl
      | succ i => simp at hu
    | succ j => simp at hj
theorem kb_alloc {w : World} {S : Nat → Prop} {ob : Nat → Obj} (o : Obj) (kb : ∀ b, S b → w.heap[b]? = some (ob b)) : ∀ b, S b → (w.alloc o).heap[b]? = some (ob b) := fun b e => blk_alloc (kb b e) o
theorem R_newer {w1 w2 : World} {base b0 g : Nat} {S : Nat → Prop} {ob : Nat → Obj} {oc : Obj} {vO v2 : Value} {o l : List Int} {okO : Nat → Prop}
    (hv : Kd.R (Kd.int .u8) 5 w2 base (fun _ => True) v2 l) (hle : w1.heap.size ≤ base) (hb0 : b0 ≤ w1.heap.size) (hg : w1.heap[g]? = some oc) (kb : ∀ b, S b → w1.heap[b]? = some (ob b))
    (ho : Kd.R (Kd.int .u8) 5 w1 b0 okO vO o) : Kd.R (Kd.int .u8) 5 w2 b0 (fun k => (k ≠ g ∧ ¬ S k) ∧ some k ≠ vO.ownBlock) v2 l :=
  Kd.R_lower (Kd.R_mono (Kd.R_bound hv) (fun k hk => ⟨⟨fun e => by have := blk_lt hg; omega, fun e => by have := blk_lt (kb k e); omega⟩, fun e => by have := Kd.R_lt ho k e.symm; omega⟩)) (Nat.le_trans hb0 hle)
theorem R_older {w1 w2 : World} {base b0 g : Nat} {S : Nat → Prop} {vO vR v2 : Value} {o l : List Int}
    (hv : Kd.R (Kd.int .u8) 5 w2 base (fun _ => True) v2 l) (hle : w1.heap.size ≤ base)
    (ho : Kd.R (Kd.int .u8) 5 w1 b0 (fun k => (k ≠ g ∧ ¬ S k) ∧ some k ≠ vR.ownBlock) vO o) : Kd.R (Kd.int .u8) 5 w1 b0 (fun k => (k ≠ g ∧ ¬ S k) ∧ some k ≠ v2.ownBlock) vO o :=
  Kd.R_mono (Kd.R_bound ho) (fun k hk => ⟨hk.1.1, fun e => by have := ((Kd.R_bound hv).1 k e.symm).2.1; omega⟩)
theorem begin_zero {W0 w : World} {g : Nat} {S : Nat → Prop} {ob : Nat → Obj} {vP : Value} {z x : Int} {r o : List Int} (hd : Wr W0 w g S ob vP z r o) (h : ofS x = 0) :
    Calls Try.prog 36 #[.pointer (some ⟨g, 0, none⟩), .int .u64 x] w fun e w' => e = .returned (.tuple #[]) ∧ Wr W0 w' g S ob vP 1 r o := by
  obtain ⟨⟨vR, vO, hblk, hr, ho⟩, hbel, hg, hkb, hbg⟩ := hd
  obtain ⟨A', c', rfl, hc', hCO⟩ := Kd.R_reads ho
  obtain ⟨A2, c2, rfl, hc2, hCR⟩ := Kd.R_reads hr
  have f0 := (blk_cell hblk 0).trans rfl
  have z0 := blk_frozen hblk 0
  have f1 := (blk_cell hblk 1).trans rfl
  have z1 := blk_frozen hblk 1
  have f2 := (blk_cell hblk 2).trans rfl
  have z2 := blk_frozen hblk 2
  have f3 := (blk_cell hblk 3).trans rfl
  have z3 := blk_frozen hblk 3
  have HB := Aside0.mk hbel
  have HBLK := Aside0.mk hblk
  have HR := Aside0.mk hr
  have HO := Aside0.mk ho
  have HG := Aside0.mk hg
  have HKB := Aside0.mk hkb
  have HBG := Aside0.mk hbg
  have HC := Aside0.mk hc'
  have HC2 := Aside0.mk hc2
  have HCR := Aside0.mk hCR
  clear hblk hr ho hbel hg hc' hc2 hCO hCR hkb hbg
  obtain ⟨kt, hkt⟩ := Ev.rounds (tagOf x)
  have HKT := Aside0.mk hkt
  clear hkt
  have d1 : (ofS x == 0) = true := by rw [beq_iff_eq]; exact h
  clear h
  go_enter Try.func36, Try.ntmps36
  go_wp2_with (first
    | (go_at_call 27; refine (tagbyte_Of.calls kt x (ofS x) _ HKT.out).mono ?_; rintro e w1 ⟨rfl, hb1⟩; have HB1 := Aside0.mk (HB.out.trans (hb1.mono HB.out.size)); have HO1 := Aside0.mk (Kd.R_below HO.out hb1); have HR1 := Aside0.mk (Kd.R_below HR.out hb1); have HBLK1 := Aside0.mk (blk_below HBLK.out hb1); have HKB1 := Aside0.mk (kb_below HKB.out hb1); have k10 := (blk_cell HBLK1.out 0).trans rfl; have j10 := blk_frozen HBLK1.out 0; have k11 := (blk_cell HBLK1.out 1).trans rfl; have j11 := blk_frozen HBLK1.out 1; have k12 := (blk_cell HBLK1.out 2).trans rfl; have j12 := blk_frozen HBLK1.out 2; have k13 := (blk_cell HBLK1.out 3).trans rfl; have j13 := blk_frozen HBLK1.out 3; clear hb1))
  (try simp only [Exit.inBlock, Exit.then])
  (first | refine bodyPost_ret (results_none rfl _ _ _) rfl ?_ | refine bodyPost_end (results_none rfl _ _ _) rfl ?_)
  exact ⟨rfl, Wr.of (w := w1) HR1.out HO1.out (by repeat (with_reducible first | exact SameB.refl _ _ | apply SameB.drewN | apply SameB.drew | apply SameB.set)) (by repeat (with_reducible first | exact HB1.out | apply below_drew1 | apply pw_below_drewN | refine below_set ?_ HG.out)) HG.out HKB1.out HBG.out (by (repeat (with_reducible first | refine blk_drew ?_ | refine blk_drewN ?_ _ | apply blk_put)); (with_reducible exact HBLK1.out); all_goals rfl)⟩
theorem begin_full {W0 w : World} {g : Nat} {S : Nat → Prop} {ob : Nat → Obj} {vP : Value} {z x : Int} {r o : List Int} (hd : Wr W0 w g S ob vP z r o) (h : ofS x = 255) :
    Calls Try.prog 36 #[.pointer (some ⟨g, 0, none⟩), .int .u64 x] w fun e w' => e = .returned (.tuple #[]) ∧ Wr W0 w' g S ob vP z (bytesS [x]) o := by
  obtain ⟨⟨vR, vO, hblk, hr, ho⟩, hbel, hg, hkb, hbg⟩ := hd
  obtain ⟨A', c', rfl, hc', hCO⟩ := Kd.R_reads ho
  obtain ⟨A2, c2, rfl, hc2, hCR⟩ := Kd.R_reads hr
  have f0 := (blk_cell hblk 0).trans rfl
  have z0 := blk_frozen hblk 0
  have f1 := (blk_cell hblk 1).trans rfl
  have z1 := blk_frozen hblk 1
  have f2 := (blk_cell hblk 2).trans rfl
  have z2 := blk_frozen hblk 2
  have f3 := (blk_cell hblk 3).trans rfl
  have z3 := blk_frozen hblk 3
  have HB := Aside0.mk hbel
  have HBLK := Aside0.mk hblk
  have HR := Aside0.mk hr
  have HO := Aside0.mk ho
  have HG := Aside0.mk hg
  have HKB := Aside0.mk hkb
  have HBG := Aside0.mk hbg
  have HC := Aside0.mk hc'
  have HC2 := Aside0.mk hc2
  have HCR := Aside0.mk hCR
  clear hblk hr ho hbel hg hc' hc2 hCO hCR hkb hbg
  obtain ⟨kt, hkt⟩ := Ev.rounds (tagOf x)
  have HKT := Aside0.mk hkt
  clear hkt
  obtain ⟨kb, hkw⟩ := Ev.rounds (wordBytes [x] (by simp))
  have HKW := Aside0.mk hkw
  clear hkw
  have d1 : (ofS x == 0) = false := by rw [beq_eq_false_iff_ne, h]; decide
  have d2 : (ofS x == 255) = true := by rw [beq_iff_eq]; exact h
  clear h
  go_enter Try.func36, Try.ntmps36
  go_wp2_with (first
    | (go_at_call 27; refine (tagbyte_Of.calls kt x (ofS x) _ HKT.out).mono ?_; rintro e w1 ⟨rfl, hb1⟩; have HB1 := Aside0.mk (HB.out.trans (hb1.mono HB.out.size)); have HO1 := Aside0.mk (Kd.R_below HO.out hb1); have HR1 := Aside0.mk (Kd.R_below HR.out hb1); have HBLK1 := Aside0.mk (blk_below HBLK.out hb1); have HKB1 := Aside0.mk (kb_below HKB.out hb1); have k10 := (blk_cell HBLK1.out 0).trans rfl; have j10 := blk_frozen HBLK1.out 0; have k11 := (blk_cell HBLK1.out 1).trans rfl; have j11 := blk_frozen HBLK1.out 1; have k12 := (blk_cell HBLK1.out 2).trans rfl; have j12 := blk_frozen HBLK1.out 2; have k13 := (blk_cell HBLK1.out 3).trans rfl; have j13 := blk_frozen HBLK1.out 3; clear hb1)
    | (go_at_call 34; refine (word_Bytes.calls kb _ 1 [x] (bytesS [x]) _ (C_one w1 x 53) (Nat.le_refl 1) HKW.out).mono ?_; rintro e w2 ⟨v2, rfl, hv2, hb2⟩; have HSZ := Aside0.mk (show w1.heap.size ≤ (w1.alloc (.cells #[.int .u64 x] 53)).heap.size by simp); have HV2 := Aside0.mk (R_newer (b0 := W0.heap.size) hv2 HSZ.out HB1.out.size HBLK1.out HKB1.out HO1.out); have HO2 := Aside0.mk (Kd.R_below (Kd.R_alloc (R_older hv2 HSZ.out HO1.out) _) hb2); have HB2 := Aside0.mk ((HB1.out.alloc HB1.out.size _).trans (hb2.mono (Nat.le_trans HB1.out.size HSZ.out))); have HBLK2 := Aside0.mk (blk_below (blk_alloc HBLK1.out _) hb2); have HKB2 := Aside0.mk (kb_below (kb_alloc _ HKB1.out) hb2); obtain ⟨A3, c3, e3⟩ := Kd.R_slice hv2; subst e3; have k20 := (blk_cell HBLK2.out 0).trans rfl; have j20 := blk_frozen HBLK2.out 0; have k21 := (blk_cell HBLK2.out 1).trans rfl; have j21 := blk_frozen HBLK2.out 1; have k22 := (blk_cell HBLK2.out 2).trans rfl; have j22 := blk_frozen HBLK2.out 2; have k23 := (blk_cell HBLK2.out 3).trans rfl; have j23 := blk_frozen HBLK2.out 3; clear hv2 hb2))
  (try simp only [Exit.inBlock, Exit.then])
  (first | refine bodyPost_ret (results_none rfl _ _ _) rfl ?_ | refine bodyPost_end (results_none rfl _ _ _) rfl ?_)
  exact ⟨rfl, Wr.of (w := w2) HV2.out HO2.out (by repeat (with_reducible first | exact SameB.refl _ _ | apply SameB.drewN | apply SameB.drew | apply SameB.set)) (by repeat (with_reducible first | exact HB2.out | apply below_drew1 | apply pw_below_drewN | refine below_set ?_ HG.out)) HG.out HKB2.out HBG.out (by (repeat (with_reducible first | refine blk_drew ?_ | refine blk_drewN ?_ _ | apply blk_put)); (with_reducible exact HBLK2.out); all_goals rfl)⟩
theorem begin_tag {W0 w : World} {g : Nat} {S : Nat → Prop} {ob : Nat → Obj} {vP : Value} {z x : Int} {r o : List Int} (hd : Wr W0 w g S ob vP z r o) (h : ofS x ≠ 0) (h2 : ofS x ≠ 255) (hol : o.length ≤ 70368744177664) :
    Calls Try.prog 36 #[.pointer (some ⟨g, 0, none⟩), .int .u64 x] w fun e w' => e = .returned (.tuple #[]) ∧ Wr W0 w' g S ob vP z r (o ++ [ofS x] ++ nzS x) := by
  obtain ⟨⟨vR, vO, hblk, hr, ho⟩, hbel, hg, hkb, hbg⟩ := hd
  obtain ⟨A', c', rfl, hc', hCO⟩ := Kd.R_reads ho
  obtain ⟨A2, c2, rfl, hc2, hCR⟩ := Kd.R_reads hr
  have f0 := (blk_cell hblk 0).trans rfl
  have z0 := blk_frozen hblk 0
  have f1 := (blk_cell hblk 1).trans rfl
  have z1 := blk_frozen hblk 1
  have f2 := (blk_cell hblk 2).trans rfl
  have z2 := blk_frozen hblk 2
  have f3 := (blk_cell hblk 3).trans rfl
  have z3 := blk_frozen hblk 3
  have HB := Aside0.mk hbel
  have HBLK := Aside0.mk hblk
  have HR := Aside0.mk hr
  have HO := Aside0.mk ho
  have HG := Aside0.mk hg
  have HKB := Aside0.mk hkb
  have HBG := Aside0.mk hbg
  have HC := Aside0.mk hc'
  have HC2 := Aside0.mk hc2
  have HCR := Aside0.mk hCR
  clear hblk hr ho hbel hg hc' hc2 hCO hCR hkb hbg
  obtain ⟨kt, hkt⟩ := Ev.rounds (tagOf x)
  have HKT := Aside0.mk hkt
  clear hkt
  obtain ⟨kb, hkw⟩ := Ev.rounds (tagBytes x)
  have HKW := Aside0.mk hkw
  clear hkw
  have d1 : (ofS x == 0) = false := beq_eq_false_iff_ne.mpr h
  have d2 : (ofS x == 255) = false := beq_eq_false_iff_ne.mpr h2
  have HOL := Aside0.mk hol
  clear h h2 hol
  go_enter Try.func36, Try.ntmps36
  go_wp2_with (first
    | (go_at_call 27; refine (tagbyte_Of.calls kt x (ofS x) _ HKT.out).mono ?_; rintro e w1 ⟨rfl, hb1⟩; have HB1 := Aside0.mk (HB.out.trans (hb1.mono HB.out.size)); have HO1 := Aside0.mk (Kd.R_below HO.out hb1); have HR1 := Aside0.mk (Kd.R_below HR.out hb1); have HBLK1 := Aside0.mk (blk_below HBLK.out hb1); have HKB1 := Aside0.mk (kb_below HKB.out hb1); have k10 := (blk_cell HBLK1.out 0).trans rfl; have j10 := blk_frozen HBLK1.out 0; have k11 := (blk_cell HBLK1.out 1).trans rfl; have j11 := blk_frozen HBLK1.out 1; have k12 := (blk_cell HBLK1.out 2).trans rfl; have j12 := blk_frozen HBLK1.out 2; have k13 := (blk_cell HBLK1.out 3).trans rfl; have j13 := blk_frozen HBLK1.out 3; clear hb1)
    | ((with_reducible refine gate_builtin (b := .append) (xs := #[.tmp 12, .tmp 14]) rfl ?_); at_builtin; refine Kd.R_append (Kd.int .u8) (w0 := W0) W0.heap.size rfl (.tmp 12) (.tmp 14) 22 5 (.int .u8 0) 1 rfl Try.underlying22 info5 rfl (by decide) (by omega) (.slice A' o.length c') o (ofS x) [.int .u8 (ofS x)] (fun k => (k ≠ g ∧ ¬ S k) ∧ some k ≠ (Value.slice A2 r.length c2).ownBlock) (fun _ => False) rfl rfl ?aP (fun _ hk => hk.elim) ?aF HO1.out HB1.out HB1.out.size ?aL ?_; (case aP => exact rfl); (case aF => exact fun k hk => ⟨⟨fun e => by have := blk_lt HBLK1.out; omega, fun e => by have := blk_lt (HKB1.out k e); omega⟩, fun e => by have := Kd.R_lt HR1.out k e.symm; omega⟩); (case aL => have := HOL.out; omega); intro v3 w3 ho hb hg hat; have HR3 := Aside0.mk (Kd.R_after HR1.out hg hat); obtain ⟨A4, c4, e4⟩ := Kd.R_slice ho; obtain ⟨n4, hn4⟩ : ∃ n : Nat, n = (o ++ [ofS x]).length := ⟨_, rfl⟩; rw [← hn4] at e4; subst e4; clear hn4; have HB3 := Aside0.mk hb; have HO3 := Aside0.mk ho; have HBLK3 := Aside0.mk ((hg.block g (blk_lt HBLK1.out) (fun e => (HO1.out.1 g e.symm).1.1 rfl)).trans HBLK1.out); have HKB3 := Aside0.mk (kb_grown HKB1.out hg (fun b hb e => (HO1.out.1 b e.symm).1.2 hb)); have k30 := (blk_cell HBLK3.out 0).trans rfl; have j30 := blk_frozen HBLK3.out 0; have k31 := (blk_cell HBLK3.out 1).trans rfl; have j31 := blk_frozen HBLK3.out 1; have k32 := (blk_cell HBLK3.out 2).trans rfl; have j32 := blk_frozen HBLK3.out 2; have k33 := (blk_cell HBLK3.out 3).trans rfl; have j33 := blk_frozen HBLK3.out 3; clear ho hb hg hat)
    | (go_at_call 38; refine (tagbyte_Bytes.calls kb x (nzS x) _ HKW.out).mono ?_; rintro e w5 ⟨v5, rfl, hv5, hb5⟩; have HB5 := Aside0.mk (HB3.out.trans (hb5.mono HB3.out.size)); have HO5 := Aside0.mk (Kd.R_below HO3.out hb5); have HR5 := Aside0.mk (Kd.R_below HR3.out hb5); have HBLK5 := Aside0.mk (blk_below HBLK3.out hb5); have HKB5 := Aside0.mk (kb_below HKB3.out hb5); obtain ⟨A5, c5, rfl, _, hC5⟩ := Kd.R_reads hv5; have HC5 := Aside0.mk hC5; have k50 := (blk_cell HBLK5.out 0).trans rfl; have j50 := blk_frozen HBLK5.out 0; have k51 := (blk_cell HBLK5.out 1).trans rfl; have j51 := blk_frozen HBLK5.out 1; have k52 := (blk_cell HBLK5.out 2).trans rfl; have j52 := blk_frozen HBLK5.out 2; have k53 := (blk_cell HBLK5.out 3).trans rfl; have j53 := blk_frozen HBLK5.out 3; clear hv5 hb5 hC5)
    | ((with_reducible refine gate_builtin (b := .append) (xs := #[.tmp 15, .tmp 17]) rfl ?_); at_builtin; refine Kd.R_append_rows (Kd.int .u8) (w0 := W0) W0.heap.size rfl (.tmp 15) (.tmp 17) 22 5 (.int .u8 0) 1 rfl Try.underlying22 info5 rfl (by decide) (by omega) (.slice A4 n4 c4) (o ++ [ofS x]) (nzS x) A5 (nzS x).length c5 (fun k => (k ≠ g ∧ ¬ S k) ∧ some k ≠ (Value.slice A2 r.length c2).ownBlock) (fun _ => False) rfl rfl HO5.out HC5.out (fun _ _ h => h) (fun _ hk => hk.elim) ?aF HB5.out HB5.out.size ?aL ?_; (case aF => exact fun k hk => ⟨⟨fun e => by have := blk_lt HBLK5.out; omega, fun e => by have := blk_lt (HKB5.out k e); omega⟩, fun e => by have := Kd.R_lt HR5.out k e.symm; omega⟩); (case aL => have := HOL.out; have := nzS_length_le x; simp only [List.length_append, List.length_cons, List.length_nil]; omega); intro v6 w6 ho hb hg hat; have HR6 := Aside0.mk (Kd.R_after HR5.out hg hat); obtain ⟨A6, c6, e6⟩ := Kd.R_slice ho; obtain ⟨n6, hn6⟩ : ∃ n : Nat, n = (o ++ [ofS x] ++ nzS x).length := ⟨_, rfl⟩; rw [← hn6] at e6; subst e6; clear hn6; have HB6 := Aside0.mk hb; have HO6 := Aside0.mk ho; have HBLK6 := Aside0.mk ((hg.block g (blk_lt HBLK5.out) (fun e => (HO5.out.1 g e.symm).1.1 rfl)).trans HBLK5.out); have HKB6 := Aside0.mk (kb_grown HKB5.out hg (fun b hb e => (HO5.out.1 b e.symm).1.2 hb)); have k60 := (blk_cell HBLK6.out 0).trans rfl; have j60 := blk_frozen HBLK6.out 0; have k61 := (blk_cell HBLK6.out 1).trans rfl; have j61 := blk_frozen HBLK6.out 1; have k62 := (blk_cell HBLK6.out 2).trans rfl; have j62 := blk_frozen HBLK6.out 2; have k63 := (blk_cell HBLK6.out 3).trans rfl; have j63 := blk_frozen HBLK6.out 3; clear ho hb hg hat))
  (try simp only [Exit.inBlock, Exit.then])
  (first | refine bodyPost_ret (results_none rfl _ _ _) rfl ?_ | refine bodyPost_end (results_none rfl _ _ _) rfl ?_)
  exact ⟨rfl, Wr.of (w := w6) HR6.out HO6.out (by repeat (with_reducible first | exact SameB.refl _ _ | apply SameB.drewN | apply SameB.drew | apply SameB.set)) (by repeat (with_reducible first | exact HB6.out | apply below_drew1 | apply pw_below_drewN | refine below_set ?_ HG.out)) HG.out HKB6.out HBG.out (by (repeat (with_reducible first | refine blk_drew ?_ | refine blk_drewN ?_ _ | apply blk_put)); (with_reducible exact HBLK6.out); all_goals rfl)⟩
end Go.Proofs.Ytibkbgaonjdpiaa.Ps
