/- group of package grammar: the first group of a byte sequence. -/
import Derived.Test.YthghblmffdfbaaaGreatDoorDec6H
import Derived.Test.YthghblmffdfbaaaGreatDoorQOfBaseH
import Derived.WalkMore
import Derived.Test.YthghblmffdfbaaaGreatDoorM6H

namespace Go.Proofs.YthghblmffdfbaaaGreatDoor.Un
open Go Go.RowKit Go.Proofs.YthghblmffdfbaaaGreatDoor Go.Proofs.YthghblmffdfbaaaGreatDoor.M Go.Proofs.YthghblmffdfbaaaGreatDoor.PUnBase Go.Proofs.YthghblmffdfbaaaGreatDoor.QUnBase Go.Proofs.YthghblmffdfbaaaGreatDoorW.PrintWords Go.Proofs.YthghblmffdfbaaaGreatDoorW.PrintLast Go.Proofs.YthghblmffdfbaaaGreatDoorW.PrintMore
set_option linter.unusedVariables false
set_option linter.unusedSimpArgs false
set_option maxHeartbeats 8000000
set_option maxRecDepth 100000
theorem alloc_sz (w : World) (o : Obj) : (w.alloc o).heap.size = w.heap.size + 1 := by simp only [World.alloc, Array.size_push]
theorem blk2 (w : World) (o p : Obj) : ((w.alloc o).alloc p).heap[w.heap.size]? = some o := (((Below.refl _ (w.alloc o)).alloc (Nat.le_refl _) p).block _ (by rw [alloc_sz]; omega)).trans (by simp only [World.alloc, Array.getElem?_push_size])
theorem blk3 (w : World) (o p : Obj) : ((w.alloc o).alloc p).heap[w.heap.size + 1]? = some p := by have := (show ((w.alloc o).alloc p).heap[(w.alloc o).heap.size]? = some p by simp only [World.alloc, Array.getElem?_push_size]); rwa [alloc_sz] at this
theorem blk_far0 {w : World} {g : Nat} {o : Obj} (h : w.heap[g + 1]? = some o) {i : Nat} {u : Value} : (w.setCell ⟨g, i, none⟩ u).heap[g + 1]? = some o := (Below.heap_setCell w ⟨g, i, none⟩ u (g + 1) (by simp only [ne_eq]; omega)).trans h
theorem blk_far1 {w : World} {g : Nat} {o : Obj} (h : w.heap[g]? = some o) {i : Nat} {u : Value} : (w.setCell ⟨g + 1, i, none⟩ u).heap[g]? = some o := (Below.heap_setCell w ⟨g + 1, i, none⟩ u g (by simp only [ne_eq]; omega)).trans h
theorem grp_one {w : World} {l : List Int} {A : Option Addr} {c : Nat} (hr : Kd.C (Kd.int .u8) w A l.length l) (hc : l.length ≤ c) (h0 : 0 < l.length) (hl : l.length ≤ 1000000000) (hb0 : 0 ≤ rd l 0 ∧ rd l 0 < 256) (h1 : rd l 0 ≠ 0) (h2 : rd l 0 ≠ 255) (h3 : 1 + onesS (rd l 0) ≤ l.length) :
    Calls Tryz.prog 63 #[.slice A l.length c] w fun e w' => e = .returned (.tuple #[.agg #[.int .u8 (rd l 0), .int .i64 0, .int .i64 (1 + onesS (rd l 0)), .int .i64 0, .int .i64 1], .bool true]) ∧ Below w.heap.size w w' := by
  have HR := Aside0.mk hr
  obtain ⟨Z, hZ⟩ : ∃ Z, Z = Obj.cells #[.int .u8 0, .int .i64 0, .int .i64 0, .int .i64 0, .int .i64 0] 79 := ⟨_, rfl⟩
  obtain ⟨ad, ead, hx1⟩ := Kd.at_int (Kd.C_below hr ((Below.refl _ _).alloc (Nat.le_refl _) Z)) 0 (Int.le_refl 0) (by omega)
  cases ead
  replace hx1 : (w.alloc Z).cell? ad = some (.int .u8 (rd l 0)) := hx1
  rw [hZ] at hx1
  clear hZ
  have q1 : (0 < l.length) = True := eq_true h0
  have HO := Aside0.mk (QOfBase.tagOnes (t := rd l 0) hb0.1 hb0.2)
  obtain ⟨t, ht⟩ : ∃ t, t = rd l 0 := ⟨_, rfl⟩
  obtain ⟨on, hon⟩ : ∃ on, on = onesS (rd l 0) := ⟨_, rfl⟩
  have hon8 : on ≤ 8 := by rw [hon]; exact onesS_le _
  rw [← hon] at HO h3
  try rw [← hon]
  rw [← ht] at HO h1 h2 hx1 hb0
  try rw [← ht]
  have b1 : (t == 0) = false := beq_eq_false_iff_ne.mpr h1
  have b2 : (t == 255) = false := beq_eq_false_iff_ne.mpr h2
  have b3 : decide ((l.length : Int) < 1 + on) = false := decide_eq_false (by omega)
  have b4 : decide (1 + (on : Int) ≤ (l.length : Int)) = true := decide_eq_true (by omega)
  clear hr hon ht
  go_enter Tryz.func63, Tryz.ntmps63
  go_wp2_with (first
    | (go_at_call 94; refine (POfBase.tagbyte_Ones.calls t _ _ HO.out).mono ?_; rintro e w3 ⟨rfl, ⟨nd, rfl⟩⟩))
  go_region
  all_goals (try go_wp2)
  all_goals (refine bodyPost_ret (results_ct rfl _ _ w.heap.size 79 #[.int .u8 t, .int .i64 0, .int .i64 (1 + on), .int .i64 0, .int .i64 1] (0, 0) _ rfl (by (repeat (with_reducible first | refine blk_drewN ?_ _ | refine blk_drew ?_ | apply Go.Proofs.YthghblmffdfbaaaGreatDoorW.PrintWords.blk_put | apply blk_far1)); (with_reducible exact blk2 _ _ _); all_goals rfl) Tryz.underlying79 rfl (by kernel_rfl)) rfl ⟨by first | rfl | (simp; done), ?_⟩; repeat (with_reducible first | exact Below.refl _ _ | apply below_alloc | apply pw_below_drewN | apply below_drew1 | refine below_set ?_ (by omega)))
theorem grp_one_cut {w : World} {l : List Int} {A : Option Addr} {c : Nat} (hr : Kd.C (Kd.int .u8) w A l.length l) (hc : l.length ≤ c) (h0 : 0 < l.length) (hl : l.length ≤ 1000000000) (hb0 : 0 ≤ rd l 0 ∧ rd l 0 < 256) (h1 : rd l 0 ≠ 0) (h2 : rd l 0 ≠ 255) (h3 : ¬ 1 + onesS (rd l 0) ≤ l.length) :
    Calls Tryz.prog 63 #[.slice A l.length c] w fun e w' => e = .returned (.tuple #[.agg #[.int .u8 0, .int .i64 0, .int .i64 0, .int .i64 0, .int .i64 0], .bool false]) ∧ Below w.heap.size w w' := by
  have HR := Aside0.mk hr
  obtain ⟨Z, hZ⟩ : ∃ Z, Z = Obj.cells #[.int .u8 0, .int .i64 0, .int .i64 0, .int .i64 0, .int .i64 0] 79 := ⟨_, rfl⟩
  obtain ⟨ad, ead, hx1⟩ := Kd.at_int (Kd.C_below hr ((Below.refl _ _).alloc (Nat.le_refl _) Z)) 0 (Int.le_refl 0) (by omega)
  cases ead
  replace hx1 : (w.alloc Z).cell? ad = some (.int .u8 (rd l 0)) := hx1
  rw [hZ] at hx1
  clear hZ
  have q1 : (0 < l.length) = True := eq_true h0
  have HO := Aside0.mk (QOfBase.tagOnes (t := rd l 0) hb0.1 hb0.2)
  obtain ⟨t, ht⟩ : ∃ t, t = rd l 0 := ⟨_, rfl⟩
  obtain ⟨on, hon⟩ : ∃ on, on = onesS (rd l 0) := ⟨_, rfl⟩
  have hon8 : on ≤ 8 := by rw [hon]; exact onesS_le _
  rw [← hon] at HO h3
  try rw [← hon]
  rw [← ht] at HO h1 h2 hx1 hb0
  try rw [← ht]
  have b1 : (t == 0) = false := beq_eq_false_iff_ne.mpr h1
  have b2 : (t == 255) = false := beq_eq_false_iff_ne.mpr h2
  have b3 : decide ((l.length : Int) < 1 + on) = true := decide_eq_true (by omega)
  clear hr hon ht
  go_enter Tryz.func63, Tryz.ntmps63
  go_wp2_with (first
    | (go_at_call 94; refine (POfBase.tagbyte_Ones.calls t _ _ HO.out).mono ?_; rintro e w3 ⟨rfl, ⟨nd, rfl⟩⟩))
  all_goals (refine bodyPost_ret (results_ct rfl _ _ w.heap.size 79 #[.int .u8 0, .int .i64 0, .int .i64 0, .int .i64 0, .int .i64 0] (0, 0) _ rfl (by (repeat (with_reducible first | refine blk_drewN ?_ _ | refine blk_drew ?_ | apply Go.Proofs.YthghblmffdfbaaaGreatDoorW.PrintWords.blk_put | apply blk_far1)); (with_reducible exact blk2 _ _ _); all_goals rfl) Tryz.underlying79 rfl (by kernel_rfl)) rfl ⟨by first | rfl | (simp; done), ?_⟩; repeat (with_reducible first | exact Below.refl _ _ | apply below_alloc | apply pw_below_drewN | apply below_drew1 | refine below_set ?_ (by omega)))
theorem grp_zero_cut {w : World} {l : List Int} {A : Option Addr} {c : Nat} (hr : Kd.C (Kd.int .u8) w A l.length l) (hc : l.length ≤ c) (h0 : 0 < l.length) (hl : l.length ≤ 1000000000) (h1 : rd l 0 = 0) (h3 : l.length < 2) :
    Calls Tryz.prog 63 #[.slice A l.length c] w fun e w' => e = .returned (.tuple #[.agg #[.int .u8 0, .int .i64 0, .int .i64 0, .int .i64 0, .int .i64 0], .bool false]) ∧ Below w.heap.size w w' := by
  have HR := Aside0.mk hr
  obtain ⟨Z, hZ⟩ : ∃ Z, Z = Obj.cells #[.int .u8 0, .int .i64 0, .int .i64 0, .int .i64 0, .int .i64 0] 79 := ⟨_, rfl⟩
  obtain ⟨ad, ead, hx1⟩ := Kd.at_int (Kd.C_below hr ((Below.refl _ _).alloc (Nat.le_refl _) Z)) 0 (Int.le_refl 0) (by omega)
  cases ead
  replace hx1 : (w.alloc Z).cell? ad = some (.int .u8 (rd l 0)) := hx1
  rw [hZ] at hx1
  clear hZ
  have q1 : (0 < l.length) = True := eq_true h0
  rw [h1] at hx1
  have HO := Aside0.mk (show POfBase.tagbyte_Ones.f 0 = some 0 by decide +kernel)
  have b3 : decide ((l.length : Int) < 2) = true := decide_eq_true (by omega)
  clear h1 hr
  go_enter Tryz.func63, Tryz.ntmps63
  go_wp2_with (first
    | (go_at_call 94; refine (POfBase.tagbyte_Ones.calls 0 _ _ HO.out).mono ?_; rintro e w3 ⟨rfl, ⟨nd, rfl⟩⟩))
  all_goals (refine bodyPost_ret (results_ct rfl _ _ w.heap.size 79 #[.int .u8 0, .int .i64 0, .int .i64 0, .int .i64 0, .int .i64 0] (0, 0) _ rfl (by (repeat (with_reducible first | refine blk_drewN ?_ _ | refine blk_drew ?_ | apply Go.Proofs.YthghblmffdfbaaaGreatDoorW.PrintWords.blk_put | apply blk_far1)); (with_reducible exact blk2 _ _ _); all_goals rfl) Tryz.underlying79 rfl (by kernel_rfl)) rfl ⟨by first | rfl | (simp; done), ?_⟩; repeat (with_reducible first | exact Below.refl _ _ | apply below_alloc | apply pw_below_drewN | apply below_drew1 | refine below_set ?_ (by omega)))
theorem grp_full_cut {w : World} {l : List Int} {A : Option Addr} {c : Nat} (hr : Kd.C (Kd.int .u8) w A l.length l) (hc : l.length ≤ c) (h0 : 0 < l.length) (hl : l.length ≤ 1000000000) (h1 : rd l 0 = 255) (h3 : l.length < 10) :
    Calls Tryz.prog 63 #[.slice A l.length c] w fun e w' => e = .returned (.tuple #[.agg #[.int .u8 0, .int .i64 0, .int .i64 0, .int .i64 0, .int .i64 0], .bool false]) ∧ Below w.heap.size w w' := by
  have HR := Aside0.mk hr
  obtain ⟨Z, hZ⟩ : ∃ Z, Z = Obj.cells #[.int .u8 0, .int .i64 0, .int .i64 0, .int .i64 0, .int .i64 0] 79 := ⟨_, rfl⟩
  obtain ⟨ad, ead, hx1⟩ := Kd.at_int (Kd.C_below hr ((Below.refl _ _).alloc (Nat.le_refl _) Z)) 0 (Int.le_refl 0) (by omega)
  cases ead
  replace hx1 : (w.alloc Z).cell? ad = some (.int .u8 (rd l 0)) := hx1
  rw [hZ] at hx1
  clear hZ
  have q1 : (0 < l.length) = True := eq_true h0
  rw [h1] at hx1
  have HO := Aside0.mk (show POfBase.tagbyte_Ones.f 255 = some 8 by decide +kernel)
  have b3 : decide ((l.length : Int) < 10) = true := decide_eq_true (by omega)
  clear h1 hr
  go_enter Tryz.func63, Tryz.ntmps63
  go_wp2_with (first
    | (go_at_call 94; refine (POfBase.tagbyte_Ones.calls 255 _ _ HO.out).mono ?_; rintro e w3 ⟨rfl, ⟨nd, rfl⟩⟩))
  all_goals (refine bodyPost_ret (results_ct rfl _ _ w.heap.size 79 #[.int .u8 0, .int .i64 0, .int .i64 0, .int .i64 0, .int .i64 0] (0, 0) _ rfl (by (repeat (with_reducible first | refine blk_drewN ?_ _ | refine blk_drew ?_ | apply Go.Proofs.YthghblmffdfbaaaGreatDoorW.PrintWords.blk_put | apply blk_far1)); (with_reducible exact blk2 _ _ _); all_goals rfl) Tryz.underlying79 rfl (by kernel_rfl)) rfl ⟨by first | rfl | (simp; done), ?_⟩; repeat (with_reducible first | exact Below.refl _ _ | apply below_alloc | apply pw_below_drewN | apply below_drew1 | refine below_set ?_ (by omega)))
theorem grp_zero {w : World} {l : List Int} {A : Option Addr} {c : Nat} (hr : Kd.C (Kd.int .u8) w A l.length l) (hc : l.length ≤ c) (h0 : 0 < l.length) (hl : l.length ≤ 1000000000) (h1 : rd l 0 = 0) (h3 : 2 ≤ l.length) (hb1 : 0 ≤ rd l 1 ∧ rd l 1 < 256) :
    Calls Tryz.prog 63 #[.slice A l.length c] w fun e w' => e = .returned (.tuple #[.agg #[.int .u8 0, .int .i64 0, .int .i64 2, .int .i64 0, .int .i64 (1 + rd l 1)], .bool true]) ∧ Below w.heap.size w w' := by
  have HR := Aside0.mk hr
  obtain ⟨Z, hZ⟩ : ∃ Z, Z = Obj.cells #[.int .u8 0, .int .i64 0, .int .i64 0, .int .i64 0, .int .i64 0] 79 := ⟨_, rfl⟩
  obtain ⟨ad, ead, hx1⟩ := Kd.at_int (Kd.C_below hr ((Below.refl _ _).alloc (Nat.le_refl _) Z)) 0 (Int.le_refl 0) (by omega)
  cases ead
  replace hx1 : (w.alloc Z).cell? ad = some (.int .u8 (rd l 0)) := hx1
  rw [hZ] at hx1
  clear hZ
  have q1 : (0 < l.length) = True := eq_true h0
  rw [h1] at hx1
  have HO := Aside0.mk (show POfBase.tagbyte_Ones.f 0 = some 0 by decide +kernel)
  have b3 : decide ((l.length : Int) < 2) = false := decide_eq_false (by omega)
  have b4 : decide ((2 : Int) ≤ (l.length : Int)) = true := decide_eq_true (by omega)
  obtain ⟨t, ht⟩ : ∃ t, t = rd l 1 := ⟨_, rfl⟩
  rw [← ht] at hb1
  try rw [← ht]
  have HT := Aside0.mk ht
  clear ht
  clear h1 hr
  go_enter Tryz.func63, Tryz.ntmps63
  go_wp2_with (first
    | (go_at_call 94; refine (POfBase.tagbyte_Ones.calls 0 _ _ HO.out).mono ?_; rintro e w3 ⟨rfl, ⟨nd, rfl⟩⟩;
        obtain ⟨ad9, ead9, hx9⟩ := Kd.at_int (w := World.drew (((((w.alloc (Obj.cells #[.int .u8 0, .int .i64 0, .int .i64 0, .int .i64 0, .int .i64 0] 79)).alloc (Obj.cells #[.int .u8 0, .int .i64 0, .int .i64 0, .int .i64 0, .int .i64 1] 79)).drewN nd).setCell ⟨w.heap.size + 1, 2, none⟩ (.int .i64 1)).setCell ⟨w.heap.size + 1, 2, none⟩ (.int .i64 2))) (Kd.C_below HR.out (below_drew (below_set (below_set (pw_below_drewN (below_alloc (below_alloc (Below.refl _ _) _) _) _) (by omega)) (by omega)))) 1 (by omega) (by omega); cases ead9; rw [show Addr.add ad (Int.toNat 1) = ⟨ad.block, ad.off + 1, none⟩ from rfl, ← HT.out] at hx9))
  go_region
  all_goals (try go_wp2)
  go_region
  all_goals (try go_wp2)
  all_goals (refine bodyPost_ret (results_ct rfl _ _ w.heap.size 79 #[.int .u8 0, .int .i64 0, .int .i64 2, .int .i64 0, .int .i64 (1 + t)] (0, 0) _ rfl (by (repeat (with_reducible first | refine blk_drewN ?_ _ | refine blk_drew ?_ | apply Go.Proofs.YthghblmffdfbaaaGreatDoorW.PrintWords.blk_put | apply blk_far1)); (with_reducible exact blk2 _ _ _); all_goals rfl) Tryz.underlying79 rfl (by kernel_rfl)) rfl ⟨by first | rfl | (simp; done), ?_⟩; repeat (with_reducible first | exact Below.refl _ _ | apply below_alloc | apply pw_below_drewN | apply below_drew1 | refine below_set ?_ (by omega)))
theorem grp_full {w : World} {l : List Int} {A : Option Addr} {c : Nat} (hr : Kd.C (Kd.int .u8) w A l.length l) (hc : l.length ≤ c) (h0 : 0 < l.length) (hl : l.length ≤ 1000000000) (h1 : rd l 0 = 255) (h3 : 10 ≤ l.length) (hb1 : 0 ≤ rd l 9 ∧ rd l 9 < 256) :
    Calls Tryz.prog 63 #[.slice A l.length c] w fun e w' => e = .returned (.tuple #[.agg #[.int .u8 255, .int .i64 0, .int .i64 (10 + 8 * (1 + rd l 9 - 1)), .int .i64 0, .int .i64 (1 + rd l 9)], .bool (decide (10 + 8 * (1 + rd l 9 - 1) ≤ (l.length : Int)))]) ∧ Below w.heap.size w w' := by
  have HR := Aside0.mk hr
  obtain ⟨Z, hZ⟩ : ∃ Z, Z = Obj.cells #[.int .u8 0, .int .i64 0, .int .i64 0, .int .i64 0, .int .i64 0] 79 := ⟨_, rfl⟩
  obtain ⟨ad, ead, hx1⟩ := Kd.at_int (Kd.C_below hr ((Below.refl _ _).alloc (Nat.le_refl _) Z)) 0 (Int.le_refl 0) (by omega)
  cases ead
  replace hx1 : (w.alloc Z).cell? ad = some (.int .u8 (rd l 0)) := hx1
  rw [hZ] at hx1
  clear hZ
  have q1 : (0 < l.length) = True := eq_true h0
  rw [h1] at hx1
  have HO := Aside0.mk (show POfBase.tagbyte_Ones.f 255 = some 8 by decide +kernel)
  have b3 : decide ((l.length : Int) < 10) = false := decide_eq_false (by omega)
  obtain ⟨t, ht⟩ : ∃ t, t = rd l 9 := ⟨_, rfl⟩
  rw [← ht] at hb1
  try rw [← ht]
  have HT := Aside0.mk ht
  clear ht
  clear h1 hr
  go_enter Tryz.func63, Tryz.ntmps63
  go_wp2_with (first
    | (go_at_call 94; refine (POfBase.tagbyte_Ones.calls 255 _ _ HO.out).mono ?_; rintro e w3 ⟨rfl, ⟨nd, rfl⟩⟩;
        obtain ⟨ad9, ead9, hx9⟩ := Kd.at_int (w := World.drew (((((w.alloc (Obj.cells #[.int .u8 0, .int .i64 0, .int .i64 0, .int .i64 0, .int .i64 0] 79)).alloc (Obj.cells #[.int .u8 255, .int .i64 0, .int .i64 0, .int .i64 0, .int .i64 1] 79)).drewN nd).setCell ⟨w.heap.size + 1, 2, none⟩ (.int .i64 9)).setCell ⟨w.heap.size + 1, 2, none⟩ (.int .i64 10))) (Kd.C_below HR.out (below_drew (below_set (below_set (pw_below_drewN (below_alloc (below_alloc (Below.refl _ _) _) _) _) (by omega)) (by omega)))) 9 (by omega) (by omega); cases ead9; rw [show Addr.add ad (Int.toNat 9) = ⟨ad.block, ad.off + 9, none⟩ from rfl, ← HT.out] at hx9))
  go_region
  all_goals (try go_wp2)
  have hbk : (World.drew (World.drew (World.setCell (World.setCell (World.setCell (World.setCell (World.drewN ((w.alloc (Obj.cells #[.int .u8 0, .int .i64 0, .int .i64 0, .int .i64 0, .int .i64 0] 79)).alloc (Obj.cells #[.int .u8 255, .int .i64 0, .int .i64 0, .int .i64 0, .int .i64 1] 79)) nd) ⟨w.heap.size + 1, 2, none⟩ (.int .i64 9)) ⟨w.heap.size + 1, 2, none⟩ (.int .i64 10)) ⟨w.heap.size + 1, 4, none⟩ (.int .i64 (1 + t))) ⟨w.heap.size + 1, 2, none⟩ (.int .i64 (10 + 8 * (1 + t - 1)))))).heap[w.heap.size + 1]? = some (.cells #[.int .u8 255, .int .i64 0, .int .i64 (10 + 8 * (1 + t - 1)), .int .i64 0, .int .i64 (1 + t)] 79 (0, 0)) := by
    (repeat (with_reducible first | refine blk_drewN ?_ _ | refine blk_drew ?_ | apply Go.Proofs.YthghblmffdfbaaaGreatDoorW.PrintWords.blk_put | apply blk_far1)); (with_reducible exact blk3 _ _ _); all_goals rfl
  have z0 := (blk_cell hbk 0).trans rfl
  have z1 := (blk_cell hbk 1).trans rfl
  have z2 := (blk_cell hbk 2).trans rfl
  have z3 := (blk_cell hbk 3).trans rfl
  have z4 := (blk_cell hbk 4).trans rfl
  clear hbk
  have hbk : (World.drew (World.drew (World.setCell (World.setCell (World.setCell (World.setCell (World.setCell (World.setCell (World.setCell (World.setCell (World.setCell (World.drewN ((w.alloc (Obj.cells #[.int .u8 0, .int .i64 0, .int .i64 0, .int .i64 0, .int .i64 0] 79)).alloc (Obj.cells #[.int .u8 255, .int .i64 0, .int .i64 0, .int .i64 0, .int .i64 1] 79)) nd) ⟨w.heap.size + 1, 2, none⟩ (.int .i64 9)) ⟨w.heap.size + 1, 2, none⟩ (.int .i64 10)) ⟨w.heap.size + 1, 4, none⟩ (.int .i64 (1 + t))) ⟨w.heap.size + 1, 2, none⟩ (.int .i64 (10 + 8 * (1 + t - 1)))) ⟨w.heap.size, 0, none⟩ (.int .u8 255)) ⟨w.heap.size, 1, none⟩ (.int .i64 0)) ⟨w.heap.size, 2, none⟩ (.int .i64 (10 + 8 * (1 + t - 1)))) ⟨w.heap.size, 3, none⟩ (.int .i64 0)) ⟨w.heap.size, 4, none⟩ (.int .i64 (1 + t))))).heap[w.heap.size + 1]? = some (.cells #[.int .u8 255, .int .i64 0, .int .i64 (10 + 8 * (1 + t - 1)), .int .i64 0, .int .i64 (1 + t)] 79 (0, 0)) := by
    (repeat (with_reducible first | refine blk_drewN ?_ _ | refine blk_drew ?_ | apply Go.Proofs.YthghblmffdfbaaaGreatDoorW.PrintWords.blk_put | apply blk_far0)); (with_reducible exact blk3 _ _ _); all_goals rfl
  have z5 := (blk_cell hbk 2).trans rfl
  clear hbk
  go_region
  all_goals (try go_wp2)
  all_goals (refine bodyPost_ret (results_ct rfl _ _ w.heap.size 79 #[.int .u8 255, .int .i64 0, .int .i64 (10 + 8 * (1 + t - 1)), .int .i64 0, .int .i64 (1 + t)] (0, 0) _ rfl (by (repeat (with_reducible first | refine blk_drewN ?_ _ | refine blk_drew ?_ | apply Go.Proofs.YthghblmffdfbaaaGreatDoorW.PrintWords.blk_put | apply blk_far1)); (with_reducible exact blk2 _ _ _); all_goals rfl) Tryz.underlying79 rfl (by kernel_rfl)) rfl ⟨by first | rfl | (simp; done), ?_⟩; repeat (with_reducible first | exact Below.refl _ _ | apply below_alloc | apply pw_below_drewN | apply below_drew1 | refine below_set ?_ (by omega)))
def grpS (l : List Int) : Int × Int × Int × Int × Int × Bool :=
  if rd l 0 = 0 then (if l.length < 2 then (0, 0, 0, 0, 0, false) else (0, 0, 2, 0, 1 + rd l 1, true))
  else if rd l 0 = 255 then (if l.length < 10 then (0, 0, 0, 0, 0, false) else (255, 0, 10 + 8 * (1 + rd l 9 - 1), 0, 1 + rd l 9, decide (10 + 8 * (1 + rd l 9 - 1) ≤ (l.length : Int))))
  else if 1 + onesS (rd l 0) ≤ l.length then (rd l 0, 0, 1 + onesS (rd l 0), 0, 1, true) else (0, 0, 0, 0, 0, false)
def grpF (l : List Int) : Option (Int × Int × Int × Int × Int × Bool) := if 0 < l.length ∧ l.length ≤ 1000000000 ∧ ∀ x ∈ l, 0 ≤ x ∧ x < 256 then some (grpS l) else none
theorem rd_mem_at {l : List Int} {i : Nat} (h : i < l.length) : rd l (i : Int) ∈ l := by
  unfold rd; rw [Int.toNat_natCast, List.getD_eq_getElem?_getD, List.getElem?_eq_getElem h]; exact List.getElem_mem h
theorem grpF_calls {w : World} {l : List Int} {A : Option Addr} {c : Nat} {r1 r2 r3 r4 r5 : Int} {r6 : Bool} (hr : Kd.C (Kd.int .u8) w A l.length l) (hc : l.length ≤ c) (h : grpF l = some (r1, r2, r3, r4, r5, r6)) :
    Calls Tryz.prog 63 #[.slice A l.length c] w fun e w' => e = .returned (.tuple #[.agg #[.int .u8 r1, .int .i64 r2, .int .i64 r3, .int .i64 r4, .int .i64 r5], .bool r6]) ∧ Below w.heap.size w w' := by
  unfold grpF at h
  split at h
  · rename_i hh
    obtain ⟨h0, hl, hb⟩ := hh
    injection h with h
    unfold grpS at h
    split at h
    · rename_i z
      split at h
      · rename_i s
        simp only [Prod.mk.injEq] at h
        obtain ⟨rfl, rfl, rfl, rfl, rfl, rfl⟩ := h
        exact grp_zero_cut hr hc h0 hl z s
      · rename_i s
        simp only [Prod.mk.injEq] at h
        obtain ⟨rfl, rfl, rfl, rfl, rfl, rfl⟩ := h
        exact grp_zero hr hc h0 hl z (by omega) (hb _ (rd_mem_at (i := 1) (by omega)))
    · rename_i z
      split at h
      · rename_i z2
        split at h
        · rename_i s
          simp only [Prod.mk.injEq] at h
          obtain ⟨rfl, rfl, rfl, rfl, rfl, rfl⟩ := h
          exact grp_full_cut hr hc h0 hl z2 s
        · rename_i s
          simp only [Prod.mk.injEq] at h
          obtain ⟨rfl, rfl, rfl, rfl, rfl, rfl⟩ := h
          exact grp_full hr hc h0 hl z2 (by omega) (hb _ (rd_mem_at (i := 9) (by omega)))
      · rename_i z2
        split at h
        · rename_i s
          simp only [Prod.mk.injEq] at h
          obtain ⟨rfl, rfl, rfl, rfl, rfl, rfl⟩ := h
          exact grp_one hr hc h0 hl (hb _ (rd_mem_at (i := 0) (by omega))) z z2 s
        · rename_i s
          simp only [Prod.mk.injEq] at h
          obtain ⟨rfl, rfl, rfl, rfl, rfl, rfl⟩ := h
          exact grp_one_cut hr hc h0 hl (hb _ (rd_mem_at (i := 0) (by omega))) z z2 s
  · cases h
end Go.Proofs.YthghblmffdfbaaaGreatDoor.Un

/- A group of package grammar and what decoding says of it. -/
namespace Go.Proofs.YthghblmffdfbaaaGreatDoor.Un
open Go Go.RowKit Go.Proofs.YthghblmffdfbaaaGreatDoor.M Go.Proofs.YthghblmffdfbaaaGreatDoorW.PrintWords Go.Proofs.YthghblmffdfbaaaGreatDoorW.PrintLast Go.Proofs.YthghblmffdfbaaaGreatDoorW.PrintMore
set_option linter.unusedVariables false
set_option linter.unusedSimpArgs false
set_option maxRecDepth 10000
theorem rdc0 (t : Int) (q : List Int) : rd (t :: q) 0 = t := rfl
theorem rdc (t : Int) (q : List Int) (i : Nat) : rd (t :: q) ((i + 1 : Nat) : Int) = rd q (i : Int) := by simp [rd]
theorem rdc1 (t c : Int) (q : List Int) : rd (t :: c :: q) 1 = c := rfl
theorem grp_case {p : List Int} (hB : IsB p) (h0 : 0 < p.length) :
    (∃ (tt n : Nat) (W : List Int), grpS p = (rd p 0, 0, (tt : Int), 0, (n : Int), true) ∧ 1 ≤ tt ∧ tt ≤ p.length ∧ 1 ≤ n ∧ n ≤ 256 ∧ W.length = n ∧ decS (p.take tt) = (W, false) ∧ decS p = (W ++ (decS (p.drop tt)).1, (decS (p.drop tt)).2)) ∨
    ((grpS p).2.2.2.2.2 = false ∧ (decS p).2 = true) := by
  cases p with
  | nil => simp at h0
  | cons t q =>
    have ht := hB t List.mem_cons_self
    by_cases t0 : t = 0
    · subst t0
      cases q with
      | nil => exact .inr ⟨by simp [grpS, rdc0], rfl⟩
      | cons c r =>
        have hc := hB c (List.mem_cons_of_mem _ List.mem_cons_self)
        refine .inl ⟨2, c.toNat + 1, List.replicate (c.toNat + 1) 0, ?_, by omega, by simp, by omega, by omega, by simp, ?_, ?_⟩
        · have e : (1 + c : Int) = ((c.toNat + 1 : Nat) : Int) := by omega
          simp only [grpS, rdc0, rdc1, if_true, List.length_cons, if_neg (show ¬ r.length + 1 + 1 < 2 by omega), e]
          rfl
        · show decS (0 :: c :: []) = _
          rw [decS_zero, decS_nil, List.append_nil]
        · rw [decS_zero]; rfl
    · by_cases t1 : t = 255
      · subst t1
        have h8 : onesS 255 = 8 := by decide
        by_cases hs : q.length < 9
        · refine .inr ⟨?_, ?_⟩
          · simp only [grpS, rdc0, if_neg (show ¬ (255 : Int) = 0 by decide), if_true, List.length_cons, if_pos (show q.length + 1 < 10 by omega)]
          · by_cases h7 : q.length < 8
            · rw [decS_short t0 (by omega)]
            · rw [decS_full_end (by omega)]
        · obtain ⟨P, c, r, hP, rfl⟩ : ∃ P c r, List.length P = 8 ∧ q = P ++ c :: r := by
            cases hd : q.drop 8 with
            | nil => have := congrArg List.length hd; rw [List.length_drop, List.length_nil] at this; omega
            | cons c r => exact ⟨q.take 8, c, r, by rw [List.length_take]; omega, by rw [← hd, List.take_append_drop]⟩
          have hc := hB c (List.mem_cons_of_mem _ (List.mem_append_right _ List.mem_cons_self))
          have r9 : rd (255 :: (P ++ c :: r)) 9 = c := by
            have := rdc 255 (P ++ c :: r) 8
            rw [show ((8 + 1 : Nat) : Int) = 9 from rfl] at this
            rw [this]
            simp only [rd, Int.toNat_natCast]
            rw [List.getD_eq_getElem?_getD, List.getElem?_append_right (by omega), hP]; rfl
          have hlen : (255 :: (P ++ c :: r)).length = 10 + r.length := by simp only [List.length_cons, List.length_append, hP]; omega
          by_cases hr : r.length < 8 * c.toNat
          · refine .inr ⟨?_, ?_⟩
            · simp only [grpS, rdc0, if_neg (show ¬ (255 : Int) = 0 by decide), if_true, if_neg (show ¬ (255 :: (P ++ c :: r)).length < 10 by omega), r9, hlen]
              rw [if_neg (show ¬ 10 + r.length < 10 by omega)]
              exact decide_eq_false (show ¬ (10 + 8 * (1 + c - 1) ≤ ((10 + r.length : Nat) : Int)) by omega)
            · rw [decS_full hP, if_pos hr]
          · have eT : (255 :: (P ++ c :: r)).take (10 + 8 * c.toNat) = 255 :: (P ++ c :: r.take (8 * c.toNat)) := by
              rw [show 10 + 8 * c.toNat = (9 + 8 * c.toNat) + 1 by omega, List.take_succ_cons, List.take_append, List.take_of_length_le (by omega : P.length ≤ 9 + 8 * c.toNat), hP, show 9 + 8 * c.toNat - 8 = 8 * c.toNat + 1 by omega, List.take_succ_cons]
            have eD : (255 :: (P ++ c :: r)).drop (10 + 8 * c.toNat) = r.drop (8 * c.toNat) := by
              rw [show 10 + 8 * c.toNat = (9 + 8 * c.toNat) + 1 by omega, List.drop_succ_cons, List.drop_append, List.drop_of_length_le (by omega : P.length ≤ 9 + 8 * c.toNat), hP, show 9 + 8 * c.toNat - 8 = 8 * c.toNat + 1 by omega, List.drop_succ_cons, List.nil_append]
            refine .inl ⟨10 + 8 * c.toNat, 1 + c.toNat, expS 255 P :: wordsS (r.take (8 * c.toNat)), ?_, by omega, by rw [hlen]; omega, by omega, by omega, ?_, ?_, ?_⟩
            · simp only [grpS, rdc0, if_neg (show ¬ (255 : Int) = 0 by decide), if_true, if_neg (show ¬ (255 :: (P ++ c :: r)).length < 10 by omega), r9, hlen]
              rw [if_neg (show ¬ 10 + r.length < 10 by omega), decide_eq_true (by omega : 10 + 8 * (1 + c - 1) ≤ ((10 + r.length : Nat) : Int)), show (10 + 8 * (1 + c - 1) : Int) = ((10 + 8 * c.toNat : Nat) : Int) by omega, show (1 + c : Int) = ((1 + c.toNat : Nat) : Int) by omega]
            · rw [List.length_cons, wordsS_length, List.length_take]; omega
            · rw [eT, decS_full hP, if_neg (by rw [List.length_take]; omega), List.take_take, Nat.min_self, List.drop_of_length_le (by rw [List.length_take]; omega), decS_nil, List.append_nil]
            · rw [decS_full hP, if_neg hr, eD]; rfl
      · have t255 : t ≠ 255 := t1
        by_cases ho : onesS t ≤ q.length
        · have eT : (t :: q).take (1 + onesS t) = t :: q.take (onesS t) := by rw [Nat.add_comm, List.take_succ_cons]
          have eD : (t :: q).drop (1 + onesS t) = q.drop (onesS t) := by rw [Nat.add_comm, List.drop_succ_cons]
          have ex : expS t (q.take (onesS t)) = expS t q := by
            have := expF_append 8 t (q.take (onesS t)) (q.drop (onesS t)) (by rw [List.length_take]; unfold onesS; unfold onesS at ho; omega)
            rw [List.take_append_drop] at this
            simp only [expS, this]
          refine .inl ⟨1 + onesS t, 1, [expS t q], ?_, by omega, by rw [List.length_cons]; omega, by omega, by omega, rfl, ?_, ?_⟩
          · unfold grpS
            rw [if_neg (show ¬ rd (t :: q) 0 = 0 from t0), if_neg (show ¬ rd (t :: q) 0 = 255 from t255), if_pos (show 1 + onesS (rd (t :: q) 0) ≤ (t :: q).length by rw [rdc0, List.length_cons]; omega), rdc0, show (1 + (onesS t : Int)) = ((1 + onesS t : Nat) : Int) by omega]
            rfl
          · rw [eT, decS_tag t0 t255 (by rw [List.length_take]; omega), List.drop_of_length_le (by rw [List.length_take]; omega), decS_nil, ex]
          · rw [decS_tag t0 t255 ho, eD]; rfl
        · refine .inr ⟨?_, ?_⟩
          · unfold grpS
            rw [if_neg (show ¬ rd (t :: q) 0 = 0 from t0), if_neg (show ¬ rd (t :: q) 0 = 255 from t255), if_neg (show ¬ 1 + onesS (rd (t :: q) 0) ≤ (t :: q).length by rw [rdc0, List.length_cons]; omega)]
          · rw [decS_short t0 (by omega)]
theorem decF_len' : ∀ (k : Nat) (p : List Int), IsB p → (decF k p).1.length ≤ 256 * p.length
  | 0, p, _ => by simp [decF]
  | k + 1, [], _ => by simp [decF]
  | k + 1, t :: p, hB => by
    have hp : IsB p := fun x hx => hB x (List.mem_cons_of_mem _ hx)
    by_cases h0 : t = 0
    · cases p with
      | nil => simp [decF, h0]
      | cons c q =>
        have hc := hp c List.mem_cons_self
        have := decF_len' k q (fun x hx => hp x (List.mem_cons_of_mem _ hx))
        simp only [decF, if_pos h0, List.length_append, List.length_replicate, List.length_cons]
        omega
    · by_cases h1 : p.length < onesS t
      · simp only [decF, if_neg h0, if_pos h1]; simp
      · by_cases h2 : t = 255
        · have hd : (p.drop 8).length = p.length - 8 := List.length_drop
          have hB8 : IsB (p.drop 8) := hp.drop 8
          have ho : onesS t = 8 := by rw [h2]; exact onesS_255
          simp only [decF, if_neg h0, if_neg h1, if_pos h2]
          cases hq : p.drop 8 with
          | nil => simp; omega
          | cons c q =>
            rw [hq, List.length_cons] at hd
            by_cases h3 : q.length < 8 * c.toNat
            · simp only [if_pos h3, List.length_cons, wordsS_length]; omega
            · have := decF_len' k (q.drop (8 * c.toNat)) (by rw [hq] at hB8; exact IsB.drop (fun x hx => hB8 x (List.mem_cons_of_mem _ hx)) _)
              rw [List.length_drop] at this
              simp only [if_neg h3, List.length_cons, List.length_append, wordsS_length, List.length_take]
              omega
        · have := decF_len' k (p.drop (onesS t)) (hp.drop _)
          rw [List.length_drop] at this
          simp only [decF, if_neg h0, if_neg h1, if_neg h2, List.length_cons]
          omega
theorem decS_len' {p : List Int} (hB : IsB p) : (decS p).1.length ≤ 256 * p.length := decF_len' _ p hB
theorem IsW_append' {a b : List Int} (ha : IsW a) (hb : IsW b) : IsW (a ++ b) := fun x hx => by
  rcases List.mem_append.mp hx with h | h
  · exact ha x h
  · exact hb x h
theorem IsW_cons' {x : Int} {b : List Int} (h0 : 0 ≤ x ∧ x < 18446744073709551616) (hb : IsW b) : IsW (x :: b) := fun y hy => by
  rcases List.mem_cons.mp hy with h | h
  · rw [h]; exact h0
  · exact hb y h
theorem decF_W' : ∀ (k : Nat) (p : List Int), IsB p → IsW (decF k p).1
  | 0, p, _ => by intro x hx; simp [decF] at hx
  | k + 1, [], _ => by intro x hx; simp [decF] at hx
  | k + 1, t :: p, hB => by
    have hp : IsB p := fun x hx => hB x (List.mem_cons_of_mem _ hx)
    by_cases h0 : t = 0
    · cases p with
      | nil => intro x hx; simp [decF, h0] at hx
      | cons c q =>
        simp only [decF, if_pos h0]
        exact IsW_append' (fun x hx => by rw [(List.mem_replicate.mp hx).2]; decide) (decF_W' k q (fun x hx => hp x (List.mem_cons_of_mem _ hx)))
    · by_cases h1 : p.length < onesS t
      · intro x hx; simp only [decF, if_neg h0, if_pos h1] at hx; simp at hx
      · by_cases h2 : t = 255
        · have hB8 : IsB (p.drop 8) := hp.drop 8
          simp only [decF, if_neg h0, if_neg h1, if_pos h2]
          cases hq : p.drop 8 with
          | nil => exact IsW_cons' (expS_range hp) (fun x hx => by simp at hx)
          | cons c q =>
            have hBq : IsB q := by rw [hq] at hB8; exact fun x hx => hB8 x (List.mem_cons_of_mem _ hx)
            by_cases h3 : q.length < 8 * c.toNat
            · simp only [if_pos h3]; exact IsW_cons' (expS_range hp) (wordsS_W hBq)
            · simp only [if_neg h3]
              exact IsW_cons' (expS_range hp) (IsW_append' (wordsS_W (hBq.take _)) (decF_W' k _ (hBq.drop _)))
        · simp only [decF, if_neg h0, if_neg h1, if_neg h2]
          exact IsW_cons' (expS_range hp) (decF_W' k _ (hp.drop _))
theorem decS_W' {p : List Int} (hB : IsB p) : IsW (decS p).1 := decF_W' _ p hB
end Go.Proofs.YthghblmffdfbaaaGreatDoor.Un
