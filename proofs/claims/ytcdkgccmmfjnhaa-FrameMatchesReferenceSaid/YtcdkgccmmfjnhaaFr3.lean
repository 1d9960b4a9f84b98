/- Package frame: Parse, where it panics ahead of its loop. -/
import Derived.Test.YtcdkgccmmfjnhaaFr2
namespace Go.Proofs.Ytcdkgccmmfjnhaa.Fm
open Go Go.RowKit Go.Proofs.Ytcdkgccmmfjnhaa Go.Proofs.Ytcdkgccmmfjnhaa.M Go.Proofs.Ytcdkgccmmfjnhaa.PFrBase Go.Proofs.Ytcdkgccmmfjnhaa.QFrBase Go.Proofs.YtcdkgccmmfjnhaaW.PrintWords Go.Proofs.YtcdkgccmmfjnhaaW.PrintLast Go.Proofs.YtcdkgccmmfjnhaaW.PrintMore
attribute [local go_sem] max2_int min2_int max_two min_two
set_option linter.unusedVariables false
set_option linter.unusedSimpArgs false
set_option maxHeartbeats 8000000
set_option maxRecDepth 100000

theorem info5 : (Try.prog.info? 5).map (fun i => (i.zero, i.size, i.bytes)) = some (some (.int .u8 0), 1, 1) := by kernel_rfl
/-- What Parse hands back. -/
def Res (w : World) (S : List (List Int)) (r : Int) : Ending → World → Prop := fun e w' => ∃ v0_ : Value, e = .returned (.tuple #[v0_, .int .i64 r]) ∧ Kd.S (Kd.slice 43 (Kd.int .u64)) 41 w' w.heap.size (fun _ => True) v0_ S ∧ Below w.heap.size w w'
/-- The state of Parse: its two named results live in the blocks p and q; S: the segments up to here. -/
structure PS (W0 : World) (w : World) (v : Value) (S : List (List Int)) : Prop where
  cp : w.heap[W0.heap.size]? = some (.cells #[v] 23 (0, 0))
  cq : w.heap[W0.heap.size + 1]? = some (.cells #[.int .i64 0] 27 (0, 0))
  rows : Kd.S (Kd.slice 43 (Kd.int .u64)) 41 w W0.heap.size (fun k => k ≠ W0.heap.size ∧ k ≠ W0.heap.size + 1) v S
  bel : Below W0.heap.size W0 w
def W1 (w : World) : World := (w.alloc (.cells #[.slice none 0 0] 23)).alloc (.cells #[.int .i64 0] 27)
theorem PS.start (w : World) : PS w (W1 w) (.slice none 0 0) [] := by
  refine ⟨blk_alloc (blk_new w _) _, ?_, Kd.S_nil _ _ _ _ _, below_alloc (below_alloc (Below.refl _ _) _) _⟩
  have := blk_new (w.alloc (.cells #[.slice none 0 0] 23)) (.cells #[.int .i64 0] 27)
  rwa [show (w.alloc (.cells #[.slice none 0 0] 23)).heap.size = w.heap.size + 1 by simp] at this
def dfr (p : Nat) : Deferred := { target := .fn (.func 18) #[.pointer (some ⟨p, 0, none⟩), .pointer (some ⟨p + 1, 0, none⟩)], args := #[] }
theorem PS.bad {W0 w : World} {v : Value} {S : List (List Int)} (h : PS W0 w v S) {tmps : Array Value} (h2 : tmps[2]? = some (.pointer (some ⟨W0.heap.size, 0, none⟩))) (h3 : tmps[3]? = some (.pointer (some ⟨W0.heap.size + 1, 0, none⟩))) :
    Leaves Try.prog Try.f10 tmps (Res W0 [] 1) [dfr W0.heap.size] (.panicking [pm]) w := by
  refine leaves_cons (f := 18) (args := #[.pointer (some ⟨W0.heap.size, 0, none⟩), .pointer (some ⟨W0.heap.size + 1, 0, none⟩)]) (by simp) (by simp [go_sem]) ?_
  refine (catch_panicking h.cp h.cq (by omega)).mono ?_
  rintro e u' w'' ⟨rfl, rfl, rfl⟩
  have k1 := blk_set (blk_alloc h.cp (.cells #[] 45)) 0 (.slice none 0 0)
  have k2 := blk_far (blk_alloc h.cq (.cells #[] 45)) (p := ⟨W0.heap.size, 0, none⟩) (by simp) (.slice none 0 0)
  have k3 := blk_far k1 (p := ⟨W0.heap.size + 1, 0, none⟩) (by simp) (.int .i64 1)
  have k4 := blk_set k2 0 (.int .i64 1)
  have c1 : (caught w W0.heap.size (W0.heap.size + 1)).cell? ⟨W0.heap.size, 0, none⟩ = some (.slice none 0 0) := (blk_cell k3 0).trans rfl
  have c2 : (caught w W0.heap.size (W0.heap.size + 1)).cell? ⟨W0.heap.size + 1, 0, none⟩ = some (.int .i64 1) := (blk_cell k4 0).trans rfl
  have hb : Below W0.heap.size W0 (caught w W0.heap.size (W0.heap.size + 1)) := by
    unfold caught
    exact ((below_alloc h.bel _).setCell (Nat.le_refl _) _).setCell (Nat.le_succ _) _
  simp [Leaves, settle, results, Try.results10, go_sem, pm, c1, c2, h2, h3]
  exact ⟨_, rfl, Kd.S_nil _ _ _ _ _, hb⟩
theorem PS.drewN {W0 w : World} {v : Value} {S : List (List Int)} (h : PS W0 w v S) (m : Nat) : PS W0 (w.drewN m) v S := ⟨h.cp, h.cq, Kd.S_drewN h.rows m, pw_below_drewN h.bel m⟩
theorem PS.below {W0 w w' : World} {v : Value} {S : List (List Int)} (h : PS W0 w v S) (hb : Below w.heap.size w w') : PS W0 w' v S := ⟨blk_below h.cp hb, blk_below h.cq hb, Kd.S_below h.rows hb, h.bel.trans (hb.mono h.bel.size)⟩
theorem parse_short {w : World} {A : Option Addr} {c : Nat} {l : List Int} (h : l.length < 4) :
    Calls Try.prog 10 #[.slice A l.length c] w (Res w [] 1) := by
  have hmf : ∀ (fn : Fn) (first cap : Array Value) (w : World), (Instr.makeFunc fn first cap).run Try.prog w = .ok (.func fn first cap) w := fun _ _ _ _ => rfl
  have HS := Aside0.mk (PS.start w)
  go_enter_defers Try.func10, Try.ntmps10
  go_wp2_with (first | (go_at_call 19; refine (number_short (i := 0) (by omega) (by omega)).mono ?_; rintro e w2 ⟨rfl, hw⟩))
  subst hw
  exact HS.out.bad rfl rfl
theorem parse_many {w : World} {A : Option Addr} {c N : Nat} {l : List Int} (hin : Kd.C (Kd.int .u8) w A l.length l) (hc : l.length ≤ c) (hB : IsB l) (hl : l.length ≤ 1000000) (h : 4 ≤ l.length) (hn : num4 l 0 + 1 = (N : Int)) (hn2 : 512 < N) (hn3 : N ≤ 4294967296) :
    Calls Try.prog 10 #[.slice A l.length c] w (Res w [] 1) := by
  have hmf : ∀ (fn : Fn) (first cap : Array Value) (w : World), (Instr.makeFunc fn first cap).run Try.prog w = .ok (.func fn first cap) w := fun _ _ _ _ => rfl
  have HS := Aside0.mk (PS.start w)
  have HR := Aside0.mk (Kd.C_below hin (PS.start w).bel)
  have HB := Aside0.mk hB
  have HC := Aside0.mk hc
  have HL := Aside0.mk hl
  have H4 := Aside0.mk h
  obtain ⟨x, hx⟩ : ∃ x, x = num4 l 0 := ⟨_, rfl⟩
  have HX := Aside0.mk hx
  have e1 : wrap64 (x + 1) = (N : Int) := by rw [hx, hn, w64 (by omega) (by omega)]
  have e2 : decide ((N : Int) ≤ 512) = false := decide_eq_false (by omega)
  clear hin hB hn hx hc hl h
  go_enter_defers Try.func10, Try.ntmps10
  go_wp2_with (first
    | (go_at_call 19; refine (number_ok (i := 0) HR.out HC.out HB.out H4.out HL.out).mono ?_; rintro e w2 ⟨rfl, ⟨m1, hw⟩⟩; rw [← HX.out])
    | (go_at_call 20; refine (must_false _).mono ?_; rintro e w3 ⟨rfl, hw3⟩))
  exact (HS.out.drewN m1).bad rfl rfl
def tbS (n : Nat) : Nat := (4 * (n + 1) + 7) / 8 * 8
/-- The table is longer than the message. -/
theorem parse_table {w : World} {A : Option Addr} {c N : Nat} {l : List Int} (hin : Kd.C (Kd.int .u8) w A l.length l) (hc : l.length ≤ c) (hB : IsB l) (hl : l.length ≤ 1000000) (h : 4 ≤ l.length) (hn : num4 l 0 + 1 = (N : Int)) (hn2 : N ≤ 512) (hT : l.length < tbS N) :
    Calls Try.prog 10 #[.slice A l.length c] w (Res w [] 1) := by
  have hmf : ∀ (fn : Fn) (first cap : Array Value) (w : World), (Instr.makeFunc fn first cap).run Try.prog w = .ok (.func fn first cap) w := fun _ _ _ _ => rfl
  have HS := Aside0.mk (PS.start w)
  have HR := Aside0.mk (Kd.C_below hin (PS.start w).bel)
  have HB := Aside0.mk hB
  have HC := Aside0.mk hc
  have HL := Aside0.mk hl
  have H4 := Aside0.mk h
  obtain ⟨x, hx⟩ : ∃ x, x = num4 l 0 := ⟨_, rfl⟩
  have HX := Aside0.mk hx
  have e1 : wrap64 (x + 1) = (N : Int) := by rw [hx, hn, w64 (by omega) (by omega)]
  have e2 : decide ((N : Int) ≤ 512) = true := decide_eq_true (by omega)
  obtain ⟨T, hTe⟩ : ∃ T, T = tbS N := ⟨_, rfl⟩
  rw [← hTe] at hT
  have HT := Aside0.mk (show frame_TableBytes.f (N : Int) = some (T : Int) by rw [hTe]; exact frTable N (by omega))
  have e3 : decide ((T : Int) ≤ (l.length : Int)) = false := decide_eq_false (by omega)
  clear hin hB hn hx hc hl h hTe
  go_enter_defers Try.func10, Try.ntmps10
  go_wp2_with (first
    | (go_at_call 19; refine (number_ok (i := 0) HR.out HC.out HB.out H4.out HL.out).mono ?_; rintro e w2 ⟨rfl, ⟨m1, hw⟩⟩; rw [← HX.out])
    | (go_at_call 16; refine (frame_TableBytes.calls (N : Int) _ _ HT.out).mono ?_; rintro e w4 ⟨rfl, ⟨m2, hw4⟩⟩)
    | (go_at_call 20; refine (must_true _).mono ?_; rintro e w3 ⟨rfl, hw3⟩)
    | (go_at_call 20; refine (must_false _).mono ?_; rintro e w3 ⟨rfl, hw3⟩))
  exact (HS.out.drewN (m1 + m2)).bad rfl rfl
/-- The padding is not zero. -/
theorem parse_pad {w : World} {A : Option Addr} {c N : Nat} {l : List Int} (hin : Kd.C (Kd.int .u8) w A l.length l) (hc : l.length ≤ c) (hB : IsB l) (hl : l.length ≤ 1000000) (h : 4 ≤ l.length) (hn : num4 l 0 + 1 = (N : Int)) (hn2 : N ≤ 512) (hT : tbS N ≤ l.length) (hZ : ((l.take (tbS N)).drop (4 * (N + 1))).all (· == 0) = false) :
    Calls Try.prog 10 #[.slice A l.length c] w (Res w [] 1) := by
  have hmf : ∀ (fn : Fn) (first cap : Array Value) (w : World), (Instr.makeFunc fn first cap).run Try.prog w = .ok (.func fn first cap) w := fun _ _ _ _ => rfl
  have HS := Aside0.mk (PS.start w)
  have HR := Aside0.mk (Kd.C_below hin (PS.start w).bel)
  have HB := Aside0.mk hB
  have HC := Aside0.mk hc
  have HL := Aside0.mk hl
  have H4 := Aside0.mk h
  obtain ⟨x, hx⟩ : ∃ x, x = num4 l 0 := ⟨_, rfl⟩
  have HX := Aside0.mk hx
  have e1 : wrap64 (x + 1) = (N : Int) := by rw [hx, hn, w64 (by omega) (by omega)]
  have e2 : decide ((N : Int) ≤ 512) = true := decide_eq_true (by omega)
  have hTn : 4 * (N + 1) ≤ tbS N := by unfold tbS; omega
  obtain ⟨T, hTe⟩ : ∃ T, T = tbS N := ⟨_, rfl⟩
  rw [← hTe] at hT hZ hTn
  have HT := Aside0.mk (show frame_TableBytes.f (N : Int) = some (T : Int) by rw [hTe]; exact frTable N (by omega))
  have e3 : decide ((T : Int) ≤ (l.length : Int)) = true := decide_eq_true (by omega)
  obtain ⟨Z, hZe⟩ : ∃ Z, Z = (l.take T).drop (4 * (N + 1)) := ⟨_, rfl⟩
  rw [← hZe] at hZ
  obtain ⟨kz, hkz⟩ := Ev.rounds (frZero Z (by rw [hZe, List.length_drop, List.length_take]; omega))
  rw [hZ] at hkz
  have HZ := Aside0.mk hkz
  obtain ⟨i0, hi0, _, hsz, _⟩ := info_parts info5
  obtain ⟨A', hcut, hA', hC'⟩ := print_mid_of (P := Try.prog) (Value.int .u8) 0 22 5 .i64 .i64 Try.underlying22 hi0 hsz A c l (4 * ((N : Int) + 1)) (T : Int) (by omega) (by omega) (by omega) hc
  rw [Int.toNat_natCast, show (4 * ((N : Int) + 1)).toNat = 4 * (N + 1) by omega, ← hZe] at hcut hA' hC'
  have HR2 := Aside0.mk (Kd.C_of_reads (h1 := fun _ => rfl) (hA' _ (Kd.reads_of_C HR.out)))
  have HC2 := Aside0.mk hC'
  clear hin hB hn hx hc hl h hTe hA' hC' hZ hZe
  go_enter_defers Try.func10, Try.ntmps10
  go_wp2_with (first
    | (go_at_call 19; refine (number_ok (i := 0) HR.out HC.out HB.out H4.out HL.out).mono ?_; rintro e w2 ⟨rfl, ⟨m1, hw⟩⟩; rw [← HX.out])
    | (go_at_call 16; refine (frame_TableBytes.calls (N : Int) _ _ HT.out).mono ?_; rintro e w4 ⟨rfl, ⟨m2, hw4⟩⟩)
    | (go_at_call 21; go_loud (refine (frame_zero.calls kz _ _ _ _ _ (Kd.C_drewN HR2.out _) HC2.out HZ.out).mono ?_; rintro e w4 ⟨rfl, ⟨m3, hw4⟩⟩))
    | (go_at_call 20; refine (must_true _).mono ?_; rintro e w3 ⟨rfl, hw3⟩)
    | (go_at_call 20; refine (must_false _).mono ?_; rintro e w3 ⟨rfl, hw3⟩))
  exact (HS.out.drewN (m1 + m2 + m3)).bad rfl rfl
end Go.Proofs.Ytcdkgccmmfjnhaa.Fm
