/- The reader of package unpackstream, part 5: Write. -/
import Derived.Test.YtpffoecblcfndaaDoorRdr4R
namespace Go.Proofs.YtpffoecblcfndaaDoor.Us
open Go Go.RowKit Go.Proofs.YtpffoecblcfndaaDoor Go.Proofs.YtpffoecblcfndaaDoor.M Go.Proofs.YtpffoecblcfndaaDoor.PUnBase Go.Proofs.YtpffoecblcfndaaDoorW.PrintWords Go.Proofs.YtpffoecblcfndaaDoorW.PrintLast Go.Proofs.YtpffoecblcfndaaDoorW.PrintMore
attribute [local go_sem] max2_int min2_int max_two min_two
set_option linter.unusedVariables false
set_option linter.unusedSimpArgs false
set_option maxHeartbeats 1000000
set_option maxRecDepth 100000
theorem write_bad {w : World} {u : U} {p : List Int} {lim : Int} {A Ap : Option Addr} {c cp : Nat} (hin : Kd.C (Kd.int .u8) w A u.word.length u.word) (hc : u.word.length ≤ c) (hi : u.word.length ≤ 1000000000) (t0 : 0 ≤ u.tag) (t1 : u.tag < 256) (hv : validB u = false) :
    Calls Tryd.prog 9 #[.agg #[.int .i64 u.st, .int .u8 u.tag, .slice A u.word.length c, .int .i64 u.left, .int .i64 u.done, .int .i64 u.err], .slice Ap p.length cp, .int .i64 lim] w fun e w' => ∃ v2_ v6_ : Value, e = .returned (.tuple #[.agg #[.int .i64 u.st, .int .u8 u.tag, v2_, .int .i64 u.left, .int .i64 u.done, .int .i64 u.err], v6_, .int .i64 12]) ∧ Kd.R (Kd.int .u8) 5 w' w.heap.size (fun k_ => some k_ ≠ (v6_ : Value).ownBlock) v2_ u.word ∧ Kd.R (Kd.int .u8) 5 w' w.heap.size (fun k_ => some k_ ≠ (v2_ : Value).ownBlock) v6_ [] ∧ Below w.heap.size w w' := by
  obtain ⟨kv, hkv⟩ := Ev.rounds (QVaBase.unValid u.st u.tag u.word u.left u.done u.err t0 t1)
  rw [hv] at hkv
  obtain ⟨L1, hL1⟩ : ∃ L1, (if lim < 0 then 0 else lim) = L1 := ⟨_, rfl⟩
  obtain ⟨L, hL⟩ : ∃ L, (if 1152921504606846976 < L1 then 1152921504606846976 else L1) = L := ⟨_, rfl⟩
  have HLL := Aside0.mk (show limU lim = L by unfold limU; rw [← hL, ← hL1]; split <;> split <;> omega)
  have HKV := Aside0.mk hkv
  have HIN := Aside0.mk hin
  have HC := Aside0.mk hc
  have HI := Aside0.mk hi
  obtain ⟨N, hN⟩ : ∃ N, N = w.heap.size := ⟨_, rfl⟩
  have B0 : Below w.heap.size w (((w.alloc (.cells #[.int .i64 u.st, .int .u8 u.tag, .slice A u.word.length c, .int .i64 u.left, .int .i64 u.done, .int .i64 u.err] 25)).alloc (.cells #[.int .i64 0, .int .u8 0, .slice none 0 0, .int .i64 0, .int .i64 0, .int .i64 0] 25)).alloc (.cells #[.int .i64 u.st, .int .u8 u.tag, .slice A u.word.length c, .int .i64 u.left, .int .i64 u.done, .int .i64 u.err, .int .i64 L, .slice none 0 0] 49)) := below_alloc (below_alloc (below_alloc (Below.refl _ _) _) _) _
  have S0 : (((w.alloc (.cells #[.int .i64 u.st, .int .u8 u.tag, .slice A u.word.length c, .int .i64 u.left, .int .i64 u.done, .int .i64 u.err] 25)).alloc (.cells #[.int .i64 0, .int .u8 0, .slice none 0 0, .int .i64 0, .int .i64 0, .int .i64 0] 25)).alloc (.cells #[.int .i64 u.st, .int .u8 u.tag, .slice A u.word.length c, .int .i64 u.left, .int .i64 u.done, .int .i64 u.err, .int .i64 L, .slice none 0 0] 49)).heap.size = w.heap.size + 3 := by simp
  have K0 : (((w.alloc (.cells #[.int .i64 u.st, .int .u8 u.tag, .slice A u.word.length c, .int .i64 u.left, .int .i64 u.done, .int .i64 u.err] 25)).alloc (.cells #[.int .i64 0, .int .u8 0, .slice none 0 0, .int .i64 0, .int .i64 0, .int .i64 0] 25)).alloc (.cells #[.int .i64 u.st, .int .u8 u.tag, .slice A u.word.length c, .int .i64 u.left, .int .i64 u.done, .int .i64 u.err, .int .i64 L, .slice none 0 0] 49)).heap[w.heap.size]? = some (.cells #[.int .i64 u.st, .int .u8 u.tag, .slice A u.word.length c, .int .i64 u.left, .int .i64 u.done, .int .i64 u.err] 25 (0, 0)) := blk_alloc (blk_alloc (blk_new w _) _) _
  have K1 : (((w.alloc (.cells #[.int .i64 u.st, .int .u8 u.tag, .slice A u.word.length c, .int .i64 u.left, .int .i64 u.done, .int .i64 u.err] 25)).alloc (.cells #[.int .i64 0, .int .u8 0, .slice none 0 0, .int .i64 0, .int .i64 0, .int .i64 0] 25)).alloc (.cells #[.int .i64 u.st, .int .u8 u.tag, .slice A u.word.length c, .int .i64 u.left, .int .i64 u.done, .int .i64 u.err, .int .i64 L, .slice none 0 0] 49)).heap[w.heap.size + 1]? = some (.cells #[.int .i64 0, .int .u8 0, .slice none 0 0, .int .i64 0, .int .i64 0, .int .i64 0] 25 (0, 0)) := by
    have := blk_alloc (blk_new (w.alloc (.cells #[.int .i64 u.st, .int .u8 u.tag, .slice A u.word.length c, .int .i64 u.left, .int .i64 u.done, .int .i64 u.err] 25)) (.cells #[.int .i64 0, .int .u8 0, .slice none 0 0, .int .i64 0, .int .i64 0, .int .i64 0] 25)) (.cells #[.int .i64 u.st, .int .u8 u.tag, .slice A u.word.length c, .int .i64 u.left, .int .i64 u.done, .int .i64 u.err, .int .i64 L, .slice none 0 0] 49)
    rwa [show (w.alloc (.cells #[.int .i64 u.st, .int .u8 u.tag, .slice A u.word.length c, .int .i64 u.left, .int .i64 u.done, .int .i64 u.err] 25)).heap.size = w.heap.size + 1 by simp] at this
  have K2 : (((w.alloc (.cells #[.int .i64 u.st, .int .u8 u.tag, .slice A u.word.length c, .int .i64 u.left, .int .i64 u.done, .int .i64 u.err] 25)).alloc (.cells #[.int .i64 0, .int .u8 0, .slice none 0 0, .int .i64 0, .int .i64 0, .int .i64 0] 25)).alloc (.cells #[.int .i64 u.st, .int .u8 u.tag, .slice A u.word.length c, .int .i64 u.left, .int .i64 u.done, .int .i64 u.err, .int .i64 L, .slice none 0 0] 49)).heap[w.heap.size + 1 + 1]? = some (.cells #[.int .i64 u.st, .int .u8 u.tag, .slice A u.word.length c, .int .i64 u.left, .int .i64 u.done, .int .i64 u.err, .int .i64 L, .slice none 0 0] 49 (0, 0)) := by
    have := blk_new ((w.alloc (.cells #[.int .i64 u.st, .int .u8 u.tag, .slice A u.word.length c, .int .i64 u.left, .int .i64 u.done, .int .i64 u.err] 25)).alloc (.cells #[.int .i64 0, .int .u8 0, .slice none 0 0, .int .i64 0, .int .i64 0, .int .i64 0] 25)) (.cells #[.int .i64 u.st, .int .u8 u.tag, .slice A u.word.length c, .int .i64 u.left, .int .i64 u.done, .int .i64 u.err, .int .i64 L, .slice none 0 0] 49)
    rwa [show ((w.alloc (.cells #[.int .i64 u.st, .int .u8 u.tag, .slice A u.word.length c, .int .i64 u.left, .int .i64 u.done, .int .i64 u.err] 25)).alloc (.cells #[.int .i64 0, .int .u8 0, .slice none 0 0, .int .i64 0, .int .i64 0, .int .i64 0] 25)).heap.size = w.heap.size + 1 + 1 by simp] at this
  have C0 : Kd.C (Kd.int .u8) (((w.alloc (.cells #[.int .i64 u.st, .int .u8 u.tag, .slice A u.word.length c, .int .i64 u.left, .int .i64 u.done, .int .i64 u.err] 25)).alloc (.cells #[.int .i64 0, .int .u8 0, .slice none 0 0, .int .i64 0, .int .i64 0, .int .i64 0] 25)).alloc (.cells #[.int .i64 u.st, .int .u8 u.tag, .slice A u.word.length c, .int .i64 u.left, .int .i64 u.done, .int .i64 u.err, .int .i64 L, .slice none 0 0] 49)) A u.word.length u.word := Kd.C_below hin B0
  have HB0 := Aside0.mk B0
  have HS0 := Aside0.mk S0
  have HK0 := Aside0.mk K0
  have HK1 := Aside0.mk K1
  have HK2 := Aside0.mk K2
  have HC0 := Aside0.mk C0
  clear hkv hin hc hi B0 S0 K0 K1 K2 C0 hN N
  go_enter Tryd.func9, Tryd.ntmps9
  go_wp2_with (first | ((with_reducible refine gate_dst (N := 19) rfl ?_); refine Kd.R_lit (Kd.int .u8) _ 5 ?hg (N := 19) ?hd (xs := ([] : List Int)) (inner := []) (ok := fun _ => True) (okp := fun _ => True) ?hr ?hp (fun _ hk => hk) trivial (Below.refl _ _) (Nat.le_refl _) (by simp) ?_; (case hd => rfl); (case hg => rfl); (case hr => first | (go_simp; done) | (go_simp; rfl)); (case hp => exact (Reps.none _ _)); intro v5 w5 ho hb hg_ hnew_; clear hg_ hnew_; have HO5 := Aside0.mk (show Kd.R (Kd.int .u8) 5 w5 w.heap.size (fun k => w.heap.size + 3 ≤ k) v5 ([] : List Int) from Kd.R_mono (Kd.R_lower (Kd.R_bound ho) (by rw [HS0.out]; omega)) (fun k hk => by have h1 := hk.2.1; rw [HS0.out] at h1; exact h1)); have HB5 := Aside0.mk (HB0.out.trans (hb.mono (by rw [HS0.out]; omega))); have HK05 := Aside0.mk (blk_below HK0.out hb); have HK15 := Aside0.mk (blk_below HK1.out hb); have HK25 := Aside0.mk (blk_below HK2.out hb); have HC5 := Aside0.mk (Kd.C_below HC0.out hb); have HS5 := Aside0.mk (show w.heap.size + 3 ≤ w5.heap.size by have := hb.size; rw [HS0.out] at this; exact this); have q02 := (blk_cell HK05.out 2).trans rfl; clear ho hb) | ((with_reducible refine gate_builtin (b := .append) (xs := #[.tmp 19, .tmp 21]) rfl ?_); at_builtin; refine Kd.R_append_rows (Kd.int .u8) (w0 := w) w.heap.size rfl (.tmp 19) (.tmp 21) 22 5 (.int .u8 0) 1 rfl Tryd.underlying22 info5 rfl (by decide) (by omega) v5 ([] : List Int) u.word A u.word.length c (fun k => w.heap.size + 3 ≤ k) (fun _ => False) rfl rfl ?aO ?aR (fun _ _ h => h) (fun _ h => h.elim) ?aF ?aB ?aS ?aL ?_; (case aR => exact HC5.out); (case aO => exact HO5.out); (case aB => exact HB5.out); (case aF => exact fun k hk => Nat.le_trans HS5.out hk); (case aS => exact HB5.out.size); (case aL => have := HI.out; simp only [List.length_nil]; omega); intro v6 w6 ho hb hg hat; have HK06 := Aside0.mk (blk_grown HK05.out hg (fun e => by have := HO5.out.1 _ e.symm; omega)); have HK16 := Aside0.mk (blk_grown HK15.out hg (fun e => by have := HO5.out.1 _ e.symm; omega)); have HK26 := Aside0.mk (blk_grown HK25.out hg (fun e => by have := HO5.out.1 _ e.symm; omega)); have HB6 := Aside0.mk hb; have HO6 := Aside0.mk (show Kd.R (Kd.int .u8) 5 w6 w.heap.size (fun k => w.heap.size + 3 ≤ k) v6 u.word from ho); have q22 := blk_frozen HK26.out 2; have r0 := (blk_cell HK06.out 0).trans rfl; have r1 := (blk_cell HK06.out 1).trans rfl; have r2 := (blk_cell HK06.out 2).trans rfl; have r3 := (blk_cell HK06.out 3).trans rfl; have r4 := (blk_cell HK06.out 4).trans rfl; have r5 := (blk_cell HK06.out 5).trans rfl; have q26 := (blk_cell HK26.out 2).trans rfl; obtain ⟨A6, c6, e6⟩ := Kd.R_slice ho; subst e6; clear ho hb hg hat) | (go_at_call 11; refine (PVaBase.unpackstream_Valid.calls kv u.st u.tag A c u.word u.left u.done u.err _ _ (Kd.C_below HIN.out (below_set HB6.out (by omega))) HC.out HKV.out).mono ?_; rintro e w7 ⟨rfl, hb7⟩; have HK07 := Aside0.mk (blk_below (blk_far HK06.out (p := ⟨w.heap.size + 1 + 1, 2, none⟩) (by show w.heap.size ≠ w.heap.size + 1 + 1; omega) (.slice A6 u.word.length c6)) hb7); have HK17 := Aside0.mk (blk_below (blk_far HK16.out (p := ⟨w.heap.size + 1 + 1, 2, none⟩) (by show w.heap.size + 1 ≠ w.heap.size + 1 + 1; omega) (.slice A6 u.word.length c6)) hb7); have HK27 := Aside0.mk (blk_below (blk_put HK26.out 2 (.slice A6 u.word.length c6) rfl) hb7); have HB7 := Aside0.mk ((below_set HB6.out (by omega)).trans (hb7.mono (below_set (j := 2) (v := (.slice A6 u.word.length c6)) HB6.out (show w.heap.size ≤ w.heap.size + 1 + 1 by omega)).size)); have HO7 := Aside0.mk (Kd.R_below (Kd.R_far (p := ⟨w.heap.size + 1 + 1, 2, none⟩) HO6.out (fun k hk => by show k ≠ w.heap.size + 1 + 1; omega) (.slice A6 u.word.length c6)) hb7); have s0 := (blk_cell HK27.out 0).trans rfl; have s1 := (blk_cell HK27.out 1).trans rfl; have s2 := (blk_cell HK27.out 2).trans rfl; have s3 := (blk_cell HK27.out 3).trans rfl; have s4 := (blk_cell HK27.out 4).trans rfl; have s5 := (blk_cell HK27.out 5).trans rfl; have sz0 := blk_frozen HK17.out 0; have st0 := (blk_cell HK17.out 0).trans rfl; have sz1 := blk_frozen HK17.out 1; have st1 := (blk_cell HK17.out 1).trans rfl; have sz2 := blk_frozen HK17.out 2; have st2 := (blk_cell HK17.out 2).trans rfl; have sz3 := blk_frozen HK17.out 3; have st3 := (blk_cell HK17.out 3).trans rfl; have sz4 := blk_frozen HK17.out 4; have st4 := (blk_cell HK17.out 4).trans rfl; have sz5 := blk_frozen HK17.out 5; have st5 := (blk_cell HK17.out 5).trans rfl; clear hb7))
  (try simp only [Exit.inBlock, Exit.then])
  refine bodyPost_ret (results_ctt rfl _ _ (w.heap.size + 1) 25 #[.int .i64 u.st, .int .u8 u.tag, (.slice A6 u.word.length c6), .int .i64 u.left, .int .i64 u.done, .int .i64 u.err] (0, 0) _ rfl (by (repeat (with_reducible first | refine blk_drewN ?_ _ | refine blk_drew ?_ | apply blk_put)); (with_reducible exact HK17.out); all_goals rfl) Tryd.underlying25 rfl (by kernel_rfl)) rfl ?_
  refine ⟨.slice A6 u.word.length c6, .slice none 0 0, rfl, ?_, ?_, ?_⟩
  · refine Kd.R_mono (Kd.R_move HO7.out (fun k hk => (show SameB (w.heap.size + 1) w7 _ from ?_) k (by have hk' : w.heap.size + 3 ≤ k := hk; omega))) (fun k _ => by simp [Value.ownBlock])
    repeat (with_reducible first | exact SameB.refl _ _ | apply SameB.drewN | apply SameB.drew | apply SameB.set)
  · exact Kd.R_nil _ _ _ _ _
  · repeat (with_reducible first | exact HB7.out | apply below_drew1 | apply pw_below_drewN | refine below_set ?_ (by omega))
theorem write_ok {w : World} {u : U} {p : List Int} {lim : Int} {A Ap : Option Addr} {c cp : Nat} (hin : Kd.C (Kd.int .u8) w A u.word.length u.word) (hc : u.word.length ≤ c) (hp : Kd.C (Kd.int .u8) w Ap p.length p) (hcp : p.length ≤ cp) (hst : StepsL w) (hpB : IsB p) (hpl : p.length ≤ 1000000000) (hwB : IsB u.word) (hi : u.word.length ≤ 1000000000) (t0 : 0 ≤ u.tag) (t1 : u.tag < 256) {RU : U} {RO : List Int} (hv : validB u = true) (hres : runU (limU lim) p (u, []) = (RU, RO)) :
    Calls Tryd.prog 9 #[.agg #[.int .i64 u.st, .int .u8 u.tag, .slice A u.word.length c, .int .i64 u.left, .int .i64 u.done, .int .i64 u.err], .slice Ap p.length cp, .int .i64 lim] w fun e w' => ∃ v2_ v6_ : Value, e = .returned (.tuple #[.agg #[.int .i64 RU.st, .int .u8 RU.tag, v2_, .int .i64 RU.left, .int .i64 RU.done, .int .i64 RU.err], v6_, .int .i64 RU.err]) ∧ Kd.R (Kd.int .u8) 5 w' w.heap.size (fun k_ => some k_ ≠ (v6_ : Value).ownBlock) v2_ RU.word ∧ Kd.R (Kd.int .u8) 5 w' w.heap.size (fun k_ => some k_ ≠ (v2_ : Value).ownBlock) v6_ RO ∧ Below w.heap.size w w' := by
  obtain ⟨kv, hkv⟩ := Ev.rounds (QVaBase.unValid u.st u.tag u.word u.left u.done u.err t0 t1)
  rw [hv] at hkv
  obtain ⟨L1, hL1⟩ : ∃ L1, (if lim < 0 then 0 else lim) = L1 := ⟨_, rfl⟩
  obtain ⟨L, hL⟩ : ∃ L, (if 1152921504606846976 < L1 then 1152921504606846976 else L1) = L := ⟨_, rfl⟩
  have HLL := Aside0.mk (show limU lim = L by unfold limU; rw [← hL, ← hL1]; split <;> split <;> omega)
  have HKV := Aside0.mk hkv
  have HIN := Aside0.mk hin
  have HC := Aside0.mk hc
  have HI := Aside0.mk hi
  obtain ⟨N, hN⟩ : ∃ N, N = w.heap.size := ⟨_, rfl⟩
  have B0 : Below w.heap.size w (((w.alloc (.cells #[.int .i64 u.st, .int .u8 u.tag, .slice A u.word.length c, .int .i64 u.left, .int .i64 u.done, .int .i64 u.err] 25)).alloc (.cells #[.int .i64 0, .int .u8 0, .slice none 0 0, .int .i64 0, .int .i64 0, .int .i64 0] 25)).alloc (.cells #[.int .i64 u.st, .int .u8 u.tag, .slice A u.word.length c, .int .i64 u.left, .int .i64 u.done, .int .i64 u.err, .int .i64 L, .slice none 0 0] 49)) := below_alloc (below_alloc (below_alloc (Below.refl _ _) _) _) _
  have S0 : (((w.alloc (.cells #[.int .i64 u.st, .int .u8 u.tag, .slice A u.word.length c, .int .i64 u.left, .int .i64 u.done, .int .i64 u.err] 25)).alloc (.cells #[.int .i64 0, .int .u8 0, .slice none 0 0, .int .i64 0, .int .i64 0, .int .i64 0] 25)).alloc (.cells #[.int .i64 u.st, .int .u8 u.tag, .slice A u.word.length c, .int .i64 u.left, .int .i64 u.done, .int .i64 u.err, .int .i64 L, .slice none 0 0] 49)).heap.size = w.heap.size + 3 := by simp
  have K0 : (((w.alloc (.cells #[.int .i64 u.st, .int .u8 u.tag, .slice A u.word.length c, .int .i64 u.left, .int .i64 u.done, .int .i64 u.err] 25)).alloc (.cells #[.int .i64 0, .int .u8 0, .slice none 0 0, .int .i64 0, .int .i64 0, .int .i64 0] 25)).alloc (.cells #[.int .i64 u.st, .int .u8 u.tag, .slice A u.word.length c, .int .i64 u.left, .int .i64 u.done, .int .i64 u.err, .int .i64 L, .slice none 0 0] 49)).heap[w.heap.size]? = some (.cells #[.int .i64 u.st, .int .u8 u.tag, .slice A u.word.length c, .int .i64 u.left, .int .i64 u.done, .int .i64 u.err] 25 (0, 0)) := blk_alloc (blk_alloc (blk_new w _) _) _
  have K1 : (((w.alloc (.cells #[.int .i64 u.st, .int .u8 u.tag, .slice A u.word.length c, .int .i64 u.left, .int .i64 u.done, .int .i64 u.err] 25)).alloc (.cells #[.int .i64 0, .int .u8 0, .slice none 0 0, .int .i64 0, .int .i64 0, .int .i64 0] 25)).alloc (.cells #[.int .i64 u.st, .int .u8 u.tag, .slice A u.word.length c, .int .i64 u.left, .int .i64 u.done, .int .i64 u.err, .int .i64 L, .slice none 0 0] 49)).heap[w.heap.size + 1]? = some (.cells #[.int .i64 0, .int .u8 0, .slice none 0 0, .int .i64 0, .int .i64 0, .int .i64 0] 25 (0, 0)) := by
    have := blk_alloc (blk_new (w.alloc (.cells #[.int .i64 u.st, .int .u8 u.tag, .slice A u.word.length c, .int .i64 u.left, .int .i64 u.done, .int .i64 u.err] 25)) (.cells #[.int .i64 0, .int .u8 0, .slice none 0 0, .int .i64 0, .int .i64 0, .int .i64 0] 25)) (.cells #[.int .i64 u.st, .int .u8 u.tag, .slice A u.word.length c, .int .i64 u.left, .int .i64 u.done, .int .i64 u.err, .int .i64 L, .slice none 0 0] 49)
    rwa [show (w.alloc (.cells #[.int .i64 u.st, .int .u8 u.tag, .slice A u.word.length c, .int .i64 u.left, .int .i64 u.done, .int .i64 u.err] 25)).heap.size = w.heap.size + 1 by simp] at this
  have K2 : (((w.alloc (.cells #[.int .i64 u.st, .int .u8 u.tag, .slice A u.word.length c, .int .i64 u.left, .int .i64 u.done, .int .i64 u.err] 25)).alloc (.cells #[.int .i64 0, .int .u8 0, .slice none 0 0, .int .i64 0, .int .i64 0, .int .i64 0] 25)).alloc (.cells #[.int .i64 u.st, .int .u8 u.tag, .slice A u.word.length c, .int .i64 u.left, .int .i64 u.done, .int .i64 u.err, .int .i64 L, .slice none 0 0] 49)).heap[w.heap.size + 1 + 1]? = some (.cells #[.int .i64 u.st, .int .u8 u.tag, .slice A u.word.length c, .int .i64 u.left, .int .i64 u.done, .int .i64 u.err, .int .i64 L, .slice none 0 0] 49 (0, 0)) := by
    have := blk_new ((w.alloc (.cells #[.int .i64 u.st, .int .u8 u.tag, .slice A u.word.length c, .int .i64 u.left, .int .i64 u.done, .int .i64 u.err] 25)).alloc (.cells #[.int .i64 0, .int .u8 0, .slice none 0 0, .int .i64 0, .int .i64 0, .int .i64 0] 25)) (.cells #[.int .i64 u.st, .int .u8 u.tag, .slice A u.word.length c, .int .i64 u.left, .int .i64 u.done, .int .i64 u.err, .int .i64 L, .slice none 0 0] 49)
    rwa [show ((w.alloc (.cells #[.int .i64 u.st, .int .u8 u.tag, .slice A u.word.length c, .int .i64 u.left, .int .i64 u.done, .int .i64 u.err] 25)).alloc (.cells #[.int .i64 0, .int .u8 0, .slice none 0 0, .int .i64 0, .int .i64 0, .int .i64 0] 25)).heap.size = w.heap.size + 1 + 1 by simp] at this
  have C0 : Kd.C (Kd.int .u8) (((w.alloc (.cells #[.int .i64 u.st, .int .u8 u.tag, .slice A u.word.length c, .int .i64 u.left, .int .i64 u.done, .int .i64 u.err] 25)).alloc (.cells #[.int .i64 0, .int .u8 0, .slice none 0 0, .int .i64 0, .int .i64 0, .int .i64 0] 25)).alloc (.cells #[.int .i64 u.st, .int .u8 u.tag, .slice A u.word.length c, .int .i64 u.left, .int .i64 u.done, .int .i64 u.err, .int .i64 L, .slice none 0 0] 49)) A u.word.length u.word := Kd.C_below hin B0
  obtain ⟨W1, hW1⟩ : ∃ W1, W1 = ((w.alloc (.cells #[.int .i64 u.st, .int .u8 u.tag, .slice A u.word.length c, .int .i64 u.left, .int .i64 u.done, .int .i64 u.err] 25)).alloc (.cells #[.int .i64 0, .int .u8 0, .slice none 0 0, .int .i64 0, .int .i64 0, .int .i64 0] 25)) := ⟨_, rfl⟩
  have HB1 := Aside0.mk (show Below W1.heap.size W1 (((w.alloc (.cells #[.int .i64 u.st, .int .u8 u.tag, .slice A u.word.length c, .int .i64 u.left, .int .i64 u.done, .int .i64 u.err] 25)).alloc (.cells #[.int .i64 0, .int .u8 0, .slice none 0 0, .int .i64 0, .int .i64 0, .int .i64 0] 25)).alloc (.cells #[.int .i64 u.st, .int .u8 u.tag, .slice A u.word.length c, .int .i64 u.left, .int .i64 u.done, .int .i64 u.err, .int .i64 L, .slice none 0 0] 49)) by rw [hW1]; exact below_alloc (Below.refl _ _) _)
  have HS1 := Aside0.mk (show W1.heap.size = w.heap.size + 1 + 1 by rw [hW1]; simp)
  have HB01 := Aside0.mk (show Below w.heap.size w W1 by rw [hW1]; exact below_alloc (below_alloc (Below.refl _ _) _) _)
  have HZ1 := Aside0.mk (show W1.heap[w.heap.size + 1]? = some (.cells #[.int .i64 0, .int .u8 0, .slice none 0 0, .int .i64 0, .int .i64 0, .int .i64 0] 25 (0, 0)) by
    rw [hW1]
    have := blk_new (w.alloc (.cells #[.int .i64 u.st, .int .u8 u.tag, .slice A u.word.length c, .int .i64 u.left, .int .i64 u.done, .int .i64 u.err] 25)) (.cells #[.int .i64 0, .int .u8 0, .slice none 0 0, .int .i64 0, .int .i64 0, .int .i64 0] 25)
    rwa [show (w.alloc (.cells #[.int .i64 u.st, .int .u8 u.tag, .slice A u.word.length c, .int .i64 u.left, .int .i64 u.done, .int .i64 u.err] 25)).heap.size = w.heap.size + 1 by simp] at this)
  have HB0 := Aside0.mk B0
  have HS0 := Aside0.mk S0
  have HK0 := Aside0.mk K0
  have HK1 := Aside0.mk K1
  have HK2 := Aside0.mk K2
  have HC0 := Aside0.mk C0
  have HP := Aside0.mk hp
  have HCP := Aside0.mk hcp
  have HST := Aside0.mk hst
  have HPB := Aside0.mk hpB
  have HPL := Aside0.mk hpl
  have hpl' : p.length ≤ 1000000000 := hpl
  have hLb : L ≤ 1152921504606846976 := by rw [← hL]; split <;> omega
  have HLB := Aside0.mk hLb
  have HV0 := Aside0.mk (validB_V hv t0 t1 hwB)
  have HRES := Aside0.mk hres
  rw [HLL.out] at HRES
  clear hW1 hp hcp hst hpB hpl hLb hwB hres hkv hin hc hi B0 S0 K0 K1 K2 C0 hN N
  go_enter Tryd.func9, Tryd.ntmps9
  go_wp2_with (first | ((with_reducible refine gate_dst (N := 19) rfl ?_); refine Kd.R_lit (Kd.int .u8) _ 5 ?hg (N := 19) ?hd (xs := ([] : List Int)) (inner := []) (ok := fun _ => True) (okp := fun _ => True) ?hr ?hp (fun _ hk => hk) trivial (Below.refl _ _) (Nat.le_refl _) (by simp) ?_; (case hd => rfl); (case hg => rfl); (case hr => first | (go_simp; done) | (go_simp; rfl)); (case hp => exact (Reps.none _ _)); intro v5 w5 ho hb hg_ hnew_; clear hg_ hnew_; have HO5 := Aside0.mk (show Kd.R (Kd.int .u8) 5 w5 W1.heap.size (fun k => w.heap.size + 3 ≤ k) v5 ([] : List Int) from Kd.R_mono (Kd.R_lower (Kd.R_bound ho) (by rw [HS0.out, HS1.out]; omega)) (fun k hk => by have h1 := hk.2.1; rw [HS0.out] at h1; exact h1)); have HB5 := Aside0.mk (HB1.out.trans (hb.mono (by rw [HS0.out, HS1.out]; omega))); have HK05 := Aside0.mk (blk_below HK0.out hb); have HK15 := Aside0.mk (blk_below HK1.out hb); have HK25 := Aside0.mk (blk_below HK2.out hb); have HC5 := Aside0.mk (Kd.C_below HC0.out hb); have HS5 := Aside0.mk (show w.heap.size + 3 ≤ w5.heap.size by have := hb.size; rw [HS0.out] at this; exact this); have q02 := (blk_cell HK05.out 2).trans rfl; clear ho hb) | ((with_reducible refine gate_builtin (b := .append) (xs := #[.tmp 19, .tmp 21]) rfl ?_); at_builtin; refine Kd.R_append_rows (Kd.int .u8) (w0 := W1) W1.heap.size rfl (.tmp 19) (.tmp 21) 22 5 (.int .u8 0) 1 rfl Tryd.underlying22 info5 rfl (by decide) (by omega) v5 ([] : List Int) u.word A u.word.length c (fun k => w.heap.size + 3 ≤ k) (fun _ => False) rfl rfl ?aO ?aR (fun _ _ h => h) (fun _ h => h.elim) ?aF ?aB ?aS ?aL ?_; (case aR => exact HC5.out); (case aO => exact HO5.out); (case aB => exact HB5.out); (case aF => exact fun k hk => Nat.le_trans HS5.out hk); (case aS => exact HB5.out.size); (case aL => have := HI.out; simp only [List.length_nil]; omega); intro v6 w6 ho hb hg hat; have HK06 := Aside0.mk (blk_grown HK05.out hg (fun e => by have := HO5.out.1 _ e.symm; omega)); have HK16 := Aside0.mk (blk_grown HK15.out hg (fun e => by have := HO5.out.1 _ e.symm; omega)); have HK26 := Aside0.mk (blk_grown HK25.out hg (fun e => by have := HO5.out.1 _ e.symm; omega)); have HB61 := Aside0.mk hb; have HB6 := Aside0.mk (HB01.out.trans (hb.mono HB01.out.size)); have HO6 := Aside0.mk (show Kd.R (Kd.int .u8) 5 w6 W1.heap.size (fun k => w.heap.size + 3 ≤ k) v6 u.word from ho); have q22 := blk_frozen HK26.out 2; have r0 := (blk_cell HK06.out 0).trans rfl; have r1 := (blk_cell HK06.out 1).trans rfl; have r2 := (blk_cell HK06.out 2).trans rfl; have r3 := (blk_cell HK06.out 3).trans rfl; have r4 := (blk_cell HK06.out 4).trans rfl; have r5 := (blk_cell HK06.out 5).trans rfl; have q26 := (blk_cell HK26.out 2).trans rfl; obtain ⟨A6, c6, e6⟩ := Kd.R_slice ho; subst e6; clear ho hb hg hat) | (go_at_call 11; refine (PVaBase.unpackstream_Valid.calls kv u.st u.tag A c u.word u.left u.done u.err _ _ (Kd.C_below HIN.out (below_set HB6.out (by omega))) HC.out HKV.out).mono ?_; rintro e w7 ⟨rfl, hb7⟩; have HK07 := Aside0.mk (blk_below (blk_far HK06.out (p := ⟨w.heap.size + 1 + 1, 2, none⟩) (by show w.heap.size ≠ w.heap.size + 1 + 1; omega) (.slice A6 u.word.length c6)) hb7); have HK17 := Aside0.mk (blk_below (blk_far HK16.out (p := ⟨w.heap.size + 1 + 1, 2, none⟩) (by show w.heap.size + 1 ≠ w.heap.size + 1 + 1; omega) (.slice A6 u.word.length c6)) hb7); have HK27 := Aside0.mk (blk_below (blk_put HK26.out 2 (.slice A6 u.word.length c6) rfl) hb7); have HB71 := Aside0.mk ((HB61.out.setCell (p := ⟨w.heap.size + 1 + 1, 2, none⟩) (by rw [HS1.out]; exact Nat.le_refl _) (.slice A6 u.word.length c6)).trans (hb7.mono (HB61.out.setCell (p := ⟨w.heap.size + 1 + 1, 2, none⟩) (by rw [HS1.out]; exact Nat.le_refl _) (.slice A6 u.word.length c6)).size)); have HB7 := Aside0.mk ((below_set HB6.out (by omega)).trans (hb7.mono (below_set (j := 2) (v := (.slice A6 u.word.length c6)) HB6.out (show w.heap.size ≤ w.heap.size + 1 + 1 by omega)).size)); have HO7 := Aside0.mk (Kd.R_below (Kd.R_far (p := ⟨w.heap.size + 1 + 1, 2, none⟩) HO6.out (fun k hk => by show k ≠ w.heap.size + 1 + 1; omega) (.slice A6 u.word.length c6)) hb7); have HRD := Aside0.mk (show Rd W1 w7 (w.heap.size + 1 + 1) u [] L from ⟨⟨.slice A6 u.word.length c6, .slice none 0 0, HK27.out, Kd.R_mono HO7.out (fun k hk => ⟨by have hk' : w.heap.size + 3 ≤ k := hk; omega, by simp [Value.ownBlock]⟩), Kd.R_nil _ _ _ _ _⟩, HB71.out, by rw [HS1.out]; exact Nat.le_refl _⟩); clear hb7))
  go_loopg [35] p.length (fun kq v35 w' => ∃ (j : Nat) (s : U) (o' : List Int), v35 = .int .i64 (j : Int) ∧ Aside0 (j + kq = p.length) ∧ Aside0 (Rd W1 w' (w.heap.size + 1 + 1) s o' L) ∧ Aside0 (runU L (p.drop j) (s, o') = (RU, RO)) ∧ Aside0 (VU s) ∧ Aside0 (o'.length + 2048 * kq ≤ 70368744170000))
  case atStart => exact ⟨0, u, [], (by first | rfl | (simp; done) | (simp [*]; done)), ⟨by omega⟩, HRD, HRES, HV0, ⟨by have := HPL.out; simp only [List.length_nil]; omega⟩⟩
  case round =>
    obtain ⟨j, s, o', rfl, HJ, HRD2, HS, HV, HO⟩ := hrel
    clear HRES HRD HV0
    cases gk with
    | zero =>
      have c0 : decide ((j : Int) < (p.length : Int)) = false := decide_eq_false (by have := HJ.out; omega)
      have c1 : decide (j < p.length) = false := decide_eq_false (by have := HJ.out; omega)
      have c2 : (j < p.length) = False := eq_false (by have := HJ.out; omega)
      have hs := HS.out
      rw [List.drop_of_length_le (by have := HJ.out; omega)] at hs
      simp only [runU, Prod.mk.injEq] at hs
      obtain ⟨rfl, rfl⟩ := hs
      clear HS
      obtain ⟨⟨vW, vO, hblk, hwR, hoR⟩, hbel, hgg⟩ := HRD2.out
      obtain ⟨AW, cW, rfl⟩ := Kd.R_slice hwR
      obtain ⟨AO, cO, rfl⟩ := Kd.R_slice hoR
      have HK1w := Aside0.mk ((hbel.block (w.heap.size + 1) (by rw [HS1.out]; omega)).trans HZ1.out)
      have HBLKE := Aside0.mk hblk
      have HWE := Aside0.mk hwR
      have HOE := Aside0.mk hoR
      have HBE := Aside0.mk hbel
      have s0 := (blk_cell hblk 0).trans rfl
      have s1 := (blk_cell hblk 1).trans rfl
      have s2 := (blk_cell hblk 2).trans rfl
      have s3 := (blk_cell hblk 3).trans rfl
      have s4 := (blk_cell hblk 4).trans rfl
      have s5 := (blk_cell hblk 5).trans rfl
      have s6 := (blk_cell hblk 6).trans rfl
      have s7 := (blk_cell hblk 7).trans rfl
      have sz0 := blk_frozen HK1w.out 0
      have st0 := (blk_cell HK1w.out 0).trans rfl
      have sz1 := blk_frozen HK1w.out 1
      have st1 := (blk_cell HK1w.out 1).trans rfl
      have sz2 := blk_frozen HK1w.out 2
      have st2 := (blk_cell HK1w.out 2).trans rfl
      have sz3 := blk_frozen HK1w.out 3
      have st3 := (blk_cell HK1w.out 3).trans rfl
      have sz4 := blk_frozen HK1w.out 4
      have st4 := (blk_cell HK1w.out 4).trans rfl
      have sz5 := blk_frozen HK1w.out 5
      have st5 := (blk_cell HK1w.out 5).trans rfl
      clear hblk hwR hoR hbel hgg
      go_wp2
      go_region
      (try go_wp2)
      (try simp only [Exit.inBlock, Exit.then])
      refine bodyPost_ret (results_ctt rfl _ _ (w.heap.size + 1) 25 #[.int .i64 s.st, .int .u8 s.tag, .slice AW s.word.length cW, .int .i64 s.left, .int .i64 s.done, .int .i64 s.err] (0, 0) _ rfl (by (repeat (with_reducible first | refine blk_drewN ?_ _ | refine blk_drew ?_ | apply blk_put)); (with_reducible exact HK1w.out); all_goals rfl) Tryd.underlying25 rfl (by kernel_rfl)) rfl ?_
      refine ⟨.slice AW s.word.length cW, .slice AO o'.length cO, rfl, ?_, ?_, ?_⟩
      · refine Kd.R_lower (Kd.R_mono (Kd.R_move (Kd.R_bound HWE.out) (fun k hk => (show SameB (w.heap.size + 1) wr _ from ?_) k (by have hk' := hk.2.1; rw [HS1.out] at hk'; omega))) (fun k hk => hk.1.2)) HB01.out.size
        repeat (with_reducible first | exact SameB.refl _ _ | apply SameB.drewN | apply SameB.drew | apply SameB.set)
      · refine Kd.R_lower (Kd.R_mono (Kd.R_move (Kd.R_bound HOE.out) (fun k hk => (show SameB (w.heap.size + 1) wr _ from ?_) k (by have hk' := hk.2.1; rw [HS1.out] at hk'; omega))) (fun k hk => hk.1.2)) HB01.out.size
        repeat (with_reducible first | exact SameB.refl _ _ | apply SameB.drewN | apply SameB.drew | apply SameB.set)
      · have HBF := Aside0.mk (HB01.out.trans (HBE.out.mono HB01.out.size))
        repeat (with_reducible first | exact HBF.out | apply below_drew1 | apply pw_below_drewN | refine below_set ?_ (by omega))
    | succ k1 =>
      have hj : j < p.length := by have := HJ.out; omega
      have c0 : decide ((j : Int) < (p.length : Int)) = true := decide_eq_true (by omega)
      have c1 : decide (j < p.length) = true := decide_eq_true hj
      have c2 : (j < p.length) = True := eq_true hj
      have hs := HS.out
      have hdj : p.drop j = rd p (j : Int) :: p.drop (j + 1) := drop_rd hj
      rw [hdj, runU] at hs
      clear hdj
      have HBW := Aside0.mk (HB01.out.trans (HRD2.out.bel.mono HB01.out.size))
      obtain ⟨ad, eA, hx⟩ := Kd.at_int (Kd.C_below HP.out HBW.out) (j : Int) (by omega) (by omega)
      rw [Int.toNat_natCast] at hx
      subst eA
      have fe := Rd.cell_err HRD2.out
      by_cases he : s.err = 0
      · have ce : (s.err != 0) = false := by rw [he]; rfl
        have hs2 := (if_pos he).symm.trans hs
        have HS2 := Aside0.mk hs2
        clear HS hs hs2
        have fs := (show _ = some (Value.int .i64 s.st) from by obtain ⟨⟨vW, vO, hblk, hwR, hoR⟩, hbel, hgg⟩ := HRD2.out; exact (blk_cell hblk 0).trans rfl)
        have hb := rd_B HPB.out (j : Int)
        have HSC := Aside0.mk (step_calls HRD2.out HV.out he HLB.out hb.1 hb.2 (by have := HO.out; omega))
        have HV2 := Aside0.mk (step_valid (lim := L) (p := (s, o')) (c := rd p (j : Int)) HLB.out HV.out he hb.1 hb.2)
        have HL2 := Aside0.mk (step_len (lim := L) (p := (s, o')) (c := rd p (j : Int)) hb.1 hb.2)
        have HSW := Aside0.mk (HST.out.below HBW.out)
        have hj2 : (j : Int) + 1 < 9223372036854775807 := by omega
        have hst : s.st = 0 ∨ s.st = 1 ∨ s.st = 2 ∨ s.st = 3 ∨ s.st = 4 := by have h1 := HV.out.s0; have h2 := HV.out.s1; omega
        clear hb
        rcases hst with e | e | e | e | e
        · have hfn : stepFn s.st = 50 := by rw [e]; rfl
          rw [hfn] at HSC
          rw [e] at fs
          have kst := HSW.out.c0
          clear hfn e
          go_wp2_with (first
            | (go_at_call 50; refine HSC.out.mono ?_; rintro e2 w2 ⟨rfl, hd2⟩; have HD2 := Aside0.mk hd2; clear hd2))
          go_roundg k1
          case measure => omega
          case rel => exact ⟨j + 1, (stepU L (s, o') (rd p j)).1, (stepU L (s, o') (rd p j)).2, (by first | rfl | (simp; done) | (simp [*]; done) | (simp; exact w64 (by omega) (by omega))), ⟨by have := HJ.out; omega⟩, HD2, HS2, HV2, ⟨by have := HL2.out; have := HO.out; omega⟩⟩
        · have hfn : stepFn s.st = 51 := by rw [e]; rfl
          rw [hfn] at HSC
          rw [e] at fs
          have kst := HSW.out.c1
          clear hfn e
          go_wp2_with (first
            | (go_at_call 51; refine HSC.out.mono ?_; rintro e2 w2 ⟨rfl, hd2⟩; have HD2 := Aside0.mk hd2; clear hd2))
          go_roundg k1
          case measure => omega
          case rel => exact ⟨j + 1, (stepU L (s, o') (rd p j)).1, (stepU L (s, o') (rd p j)).2, (by first | rfl | (simp; done) | (simp [*]; done) | (simp; exact w64 (by omega) (by omega))), ⟨by have := HJ.out; omega⟩, HD2, HS2, HV2, ⟨by have := HL2.out; have := HO.out; omega⟩⟩
        · have hfn : stepFn s.st = 52 := by rw [e]; rfl
          rw [hfn] at HSC
          rw [e] at fs
          have kst := HSW.out.c2
          clear hfn e
          go_wp2_with (first
            | (go_at_call 52; refine HSC.out.mono ?_; rintro e2 w2 ⟨rfl, hd2⟩; have HD2 := Aside0.mk hd2; clear hd2))
          go_roundg k1
          case measure => omega
          case rel => exact ⟨j + 1, (stepU L (s, o') (rd p j)).1, (stepU L (s, o') (rd p j)).2, (by first | rfl | (simp; done) | (simp [*]; done) | (simp; exact w64 (by omega) (by omega))), ⟨by have := HJ.out; omega⟩, HD2, HS2, HV2, ⟨by have := HL2.out; have := HO.out; omega⟩⟩
        · have hfn : stepFn s.st = 48 := by rw [e]; rfl
          rw [hfn] at HSC
          rw [e] at fs
          have kst := HSW.out.c3
          clear hfn e
          go_wp2_with (first
            | (go_at_call 48; refine HSC.out.mono ?_; rintro e2 w2 ⟨rfl, hd2⟩; have HD2 := Aside0.mk hd2; clear hd2))
          go_roundg k1
          case measure => omega
          case rel => exact ⟨j + 1, (stepU L (s, o') (rd p j)).1, (stepU L (s, o') (rd p j)).2, (by first | rfl | (simp; done) | (simp [*]; done) | (simp; exact w64 (by omega) (by omega))), ⟨by have := HJ.out; omega⟩, HD2, HS2, HV2, ⟨by have := HL2.out; have := HO.out; omega⟩⟩
        · have hfn : stepFn s.st = 53 := by rw [e]; rfl
          rw [hfn] at HSC
          rw [e] at fs
          have kst := HSW.out.c4
          clear hfn e
          go_wp2_with (first
            | (go_at_call 53; refine HSC.out.mono ?_; rintro e2 w2 ⟨rfl, hd2⟩; have HD2 := Aside0.mk hd2; clear hd2))
          go_roundg k1
          case measure => omega
          case rel => exact ⟨j + 1, (stepU L (s, o') (rd p j)).1, (stepU L (s, o') (rd p j)).2, (by first | rfl | (simp; done) | (simp [*]; done) | (simp; exact w64 (by omega) (by omega))), ⟨by have := HJ.out; omega⟩, HD2, HS2, HV2, ⟨by have := HL2.out; have := HO.out; omega⟩⟩
      · have ce : (s.err != 0) = true := by rw [bne_iff_ne]; exact he
        have hs2 := (if_neg he).symm.trans hs
        simp only [Prod.mk.injEq] at hs2
        obtain ⟨rfl, rfl⟩ := hs2
        clear HS hs
        obtain ⟨⟨vW, vO, hblk, hwR, hoR⟩, hbel, hgg⟩ := HRD2.out
        obtain ⟨AW, cW, rfl⟩ := Kd.R_slice hwR
        obtain ⟨AO, cO, rfl⟩ := Kd.R_slice hoR
        have HK1w := Aside0.mk ((hbel.block (w.heap.size + 1) (by rw [HS1.out]; omega)).trans HZ1.out)
        have HBLKE := Aside0.mk hblk
        have HWE := Aside0.mk hwR
        have HOE := Aside0.mk hoR
        have HBE := Aside0.mk hbel
        have s0 := (blk_cell hblk 0).trans rfl
        have s1 := (blk_cell hblk 1).trans rfl
        have s2 := (blk_cell hblk 2).trans rfl
        have s3 := (blk_cell hblk 3).trans rfl
        have s4 := (blk_cell hblk 4).trans rfl
        have s5 := (blk_cell hblk 5).trans rfl
        have s6 := (blk_cell hblk 6).trans rfl
        have s7 := (blk_cell hblk 7).trans rfl
        have sz0 := blk_frozen HK1w.out 0
        have st0 := (blk_cell HK1w.out 0).trans rfl
        have sz1 := blk_frozen HK1w.out 1
        have st1 := (blk_cell HK1w.out 1).trans rfl
        have sz2 := blk_frozen HK1w.out 2
        have st2 := (blk_cell HK1w.out 2).trans rfl
        have sz3 := blk_frozen HK1w.out 3
        have st3 := (blk_cell HK1w.out 3).trans rfl
        have sz4 := blk_frozen HK1w.out 4
        have st4 := (blk_cell HK1w.out 4).trans rfl
        have sz5 := blk_frozen HK1w.out 5
        have st5 := (blk_cell HK1w.out 5).trans rfl
        clear hblk hwR hoR hbel hgg
        go_wp2
        go_region
        (try go_wp2)
        (try simp only [Exit.inBlock, Exit.then])
        refine bodyPost_ret (results_ctt rfl _ _ (w.heap.size + 1) 25 #[.int .i64 s.st, .int .u8 s.tag, .slice AW s.word.length cW, .int .i64 s.left, .int .i64 s.done, .int .i64 s.err] (0, 0) _ rfl (by (repeat (with_reducible first | refine blk_drewN ?_ _ | refine blk_drew ?_ | apply blk_put)); (with_reducible exact HK1w.out); all_goals rfl) Tryd.underlying25 rfl (by kernel_rfl)) rfl ?_
        refine ⟨.slice AW s.word.length cW, .slice AO o'.length cO, rfl, ?_, ?_, ?_⟩
        · refine Kd.R_lower (Kd.R_mono (Kd.R_move (Kd.R_bound HWE.out) (fun k hk => (show SameB (w.heap.size + 1) wr _ from ?_) k (by have hk' := hk.2.1; rw [HS1.out] at hk'; omega))) (fun k hk => hk.1.2)) HB01.out.size
          repeat (with_reducible first | exact SameB.refl _ _ | apply SameB.drewN | apply SameB.drew | apply SameB.set)
        · refine Kd.R_lower (Kd.R_mono (Kd.R_move (Kd.R_bound HOE.out) (fun k hk => (show SameB (w.heap.size + 1) wr _ from ?_) k (by have hk' := hk.2.1; rw [HS1.out] at hk'; omega))) (fun k hk => hk.1.2)) HB01.out.size
          repeat (with_reducible first | exact SameB.refl _ _ | apply SameB.drewN | apply SameB.drew | apply SameB.set)
        · have HBF := Aside0.mk (HB01.out.trans (HBE.out.mono HB01.out.size))
          repeat (with_reducible first | exact HBF.out | apply below_drew1 | apply pw_below_drewN | refine below_set ?_ (by omega))
end Go.Proofs.YtpffoecblcfndaaDoor.Us
