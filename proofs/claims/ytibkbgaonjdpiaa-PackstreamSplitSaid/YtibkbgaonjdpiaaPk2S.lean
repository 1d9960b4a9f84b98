/- Package packstream, walked by hand: open. -/
import Derived.Test.YtibkbgaonjdpiaaPkS
namespace Go.Proofs.Ytibkbgaonjdpiaa.Ps
open Go Go.RowKit Go.Proofs.Ytibkbgaonjdpiaa Go.Proofs.Ytibkbgaonjdpiaa.M Go.Proofs.Ytibkbgaonjdpiaa.PPaBase Go.Proofs.Ytibkbgaonjdpiaa.QPaBase Go.Proofs.YtibkbgaonjdpiaaW.PrintWords Go.Proofs.YtibkbgaonjdpiaaW.PrintLast Go.Proofs.YtibkbgaonjdpiaaW.PrintMore
set_option linter.unusedVariables false
set_option linter.unusedSimpArgs false
set_option maxHeartbeats 1000000
set_option maxRecDepth 100000
theorem cut_in (A : Option Addr) (c : Nat) (inn : List Int) (m : Nat) (hm : m ≤ inn.length) {W : World} (hC : Kd.C (Kd.int .u8) W A inn.length inn) (hc : inn.length ≤ c) :
    ∃ (A' : Option Addr) (c' : Nat), (∀ W : World, (Instr.slice 22 (.slice A inn.length c) (some (.int .i64 (m : Int))) none none).run Try.prog W = .ok (.slice A' (inn.drop m).length c') W) ∧ Kd.C (Kd.int .u8) W A' (inn.drop m).length (inn.drop m) ∧ (inn.drop m).length ≤ c' := by
  obtain ⟨i0, hi0, _, hsz, _⟩ := info_parts info5
  obtain ⟨A', h1, h2, h3⟩ := print_drop_of (P := Try.prog) (Value.int .u8) 0 22 5 .i64 Try.underlying22 hi0 hsz A c inn (m : Int) (by omega) (by omega) hc
  simp only [Int.toNat_natCast] at h1 h2 h3
  exact ⟨A', c - m, h1, Kd.C_of_reads (d := 0) (h2 W (Kd.reads_of_C hC)), h3⟩
theorem open_zero {w : World} {A : Option Addr} {c : Nat} {vP : Value} {z : Int} {l : List Int} (hz : 0 < z) (hz2 : z ≤ 256) :
    Calls Try.prog 24 #[.agg #[vP, .int .i64 z, .slice A l.length c]] w fun e w' => ∃ v0_ : Value, e = .returned v0_ ∧ Kd.R (Kd.int .u8) 5 w' w.heap.size (fun _ => True) v0_ [0, z - 1] ∧ Below w.heap.size w w' := by
  have d1 : decide (z > 0) = true := decide_eq_true hz
  have d2 : decide (0 < z) = true := decide_eq_true hz
  have e1 : wrap64 (z - 1) = z - 1 := w64 (by omega) (by omega)
  have e2 : (z - 1) % 256 = z - 1 := by omega
  have HBX := Aside0.mk (below_alloc (Below.refl w.heap.size w) (.cells #[vP, .int .i64 z, .slice A l.length c] 24))
  clear hz hz2
  go_enter Try.func24, Try.ntmps24
  go_wp2_with (first
    | ((with_reducible refine gate_dst (N := 12) rfl ?_); (refine Kd.R_lit (Kd.int .u8) w.heap.size 5 ?hg (N := 12) ?hd (xs := ([0, z - 1] : List Int)) (inner := [.int .u8 0, .int .u8 (z - 1)]) (ok := fun _ => True) (okp := fun _ => True) ?hr ?hp (fun _ hk => hk) trivial HBX.out ?hB (by simp) ?_); (case hd => rfl); (case hg => rfl); (case hB => simp); (case hr => first | (go_simp; done) | (go_simp; rfl)); (case hp => exact (Reps.one (show Kd.M (Kd.int .u8) _ _ _ 0 [.int .u8 0] from rfl) (Reps.one (show Kd.M (Kd.int .u8) _ _ _ (z - 1) [.int .u8 (z - 1)] from rfl) (Reps.none _ _)))); intro v18 w1 ho hb hg hat; have HO := Aside0.mk ho; have HB := Aside0.mk hb; clear ho hb hg hat))
  go_ret
  exact ⟨_, rfl, HO.out, HB.out⟩
theorem open_none {w : World} {A : Option Addr} {c : Nat} {vP : Value} {z : Int} {l : List Int} (hz : z ≤ 0) (hl : l.length = 0) :
    Calls Try.prog 24 #[.agg #[vP, .int .i64 z, .slice A l.length c]] w fun e w' => ∃ v0_ : Value, e = .returned v0_ ∧ Kd.R (Kd.int .u8) 5 w' w.heap.size (fun _ => True) v0_ [] ∧ Below w.heap.size w w' := by
  have d1 : decide (z > 0) = false := decide_eq_false (by omega)
  have d2 : decide (0 < z) = false := decide_eq_false (by omega)
  rw [hl]
  have HBX := Aside0.mk (below_alloc (Below.refl w.heap.size w) (.cells #[vP, .int .i64 z, .slice A 0 c] 24))
  clear hz hl
  go_enter Try.func24, Try.ntmps24
  go_wp2
  go_ret
  exact ⟨_, rfl, Kd.R_nil _ _ _ _ _, HBX.out⟩
theorem open_run {w : World} {A : Option Addr} {c : Nat} {vP : Value} {z : Int} {l : List Int} (hin : Kd.C (Kd.int .u8) w A l.length l) (hc : l.length ≤ c) (hz : z ≤ 0) (h8 : 8 ≤ l.length) (hl : l.length ≤ 2048) :
    Calls Try.prog 24 #[.agg #[vP, .int .i64 z, .slice A l.length c]] w fun e w' => ∃ v0_ : Value, e = .returned v0_ ∧ Kd.R (Kd.int .u8) 5 w' w.heap.size (fun _ => True) v0_ ([255] ++ l.take 8 ++ [((l.length / 8 : Nat) : Int) - 1] ++ l.drop 8) ∧ Below w.heap.size w w' := by
  have d1 : decide (z > 0) = false := decide_eq_false (by omega)
  have d2 : decide (0 < z) = false := decide_eq_false (by omega)
  have d3 : decide ((l.length : Int) > 0) = true := decide_eq_true (by omega)
  have d4 : decide (0 < l.length) = true := decide_eq_true (by omega)
  have d5 : (0 < l.length) = True := eq_true (by omega)
  obtain ⟨i0, hi0, _, hsz, _⟩ := info_parts info5
  have hcT : ∀ W : World, (Instr.slice 22 (.slice A l.length c) none (some (.int .i64 8)) none).run Try.prog W = .ok (.slice A 8 c) W := cut_to (P := Try.prog) 22 5 .i64 Try.underlying22 hi0 A l.length c 8 (by omega) (by omega) hc
  have hCT : Kd.C (Kd.int .u8) w A 8 (l.take 8) := by
    have := Kd.C_take hin (show 8 ≤ l.length from h8)
    rwa [List.length_take, Nat.min_eq_left h8] at this
  obtain ⟨A', c', hcD0, hCD, hcD'⟩ := cut_in A c l 8 h8 hin hc
  have hcD : ∀ W : World, (Instr.slice 22 (.slice A l.length c) (some (.int .i64 8)) none none).run Try.prog W = .ok (.slice A' (l.drop 8).length c') W := hcD0
  clear hcD0
  obtain ⟨N8, hN8⟩ : ∃ N8 : Nat, N8 = l.length / 8 := ⟨_, rfl⟩
  obtain ⟨X8, hX8⟩ : ∃ X8 : List Int, X8 = l.take 8 := ⟨_, rfl⟩
  obtain ⟨D8, hD8⟩ : ∃ D8 : List Int, D8 = l.drop 8 := ⟨_, rfl⟩
  rw [← hN8, ← hX8, ← hD8]
  rw [← hX8] at hCT
  rw [← hD8] at hcD hCD hcD'
  have hX8l : X8.length = 8 := by rw [hX8, List.length_take]; omega
  have hD8l : D8.length ≤ 2048 := by rw [hD8, List.length_drop]; omega
  have b1 : 1 ≤ N8 ∧ N8 ≤ 256 := by omega
  have q5 : ((N8 : Int) - 1) % 256 = (N8 : Int) - 1 := by clear hN8; omega
  have q4 : wrap64 ((N8 : Int) - 1) = (N8 : Int) - 1 := by clear hN8 q5; exact w64 (by omega) (by omega)
  have q3 : wrap64 ((l.length : Int) / 8) = (N8 : Int) := by clear q4 q5; rw [w64 (by omega) (by omega)]; omega
  have HBX := Aside0.mk (below_alloc (Below.refl w.heap.size w) (.cells #[vP, .int .i64 z, .slice A l.length c] 24))
  have HBOX := Aside0.mk (blk_new w (.cells #[vP, .int .i64 z, .slice A l.length c] 24))
  have HCT := Aside0.mk hCT
  have HCD := Aside0.mk hCD
  have HL := Aside0.mk hl
  have HLD := Aside0.mk hD8l
  clear hz h8 hl hin hc hi0 hsz hCT hCD hcD' hN8 hX8 hD8 hD8l b1
  go_enter Try.func24, Try.ntmps24
  go_wp2_with (first
    | ((with_reducible refine gate_dst (N := 18) rfl ?_); refine Kd.R_lit (Kd.int .u8) w.heap.size 5 ?hg (N := 18) ?hd (xs := ([255] : List Int)) (inner := [.int .u8 255]) (ok := fun k => k ≠ w.heap.size) (okp := fun k => k ≠ w.heap.size) ?hr ?hp (fun _ hk => hk) ?hf HBX.out ?hB (by simp) ?_; (case hd => rfl); (case hg => rfl); (case hB => simp); (case hf => simp); (case hr => first | (go_simp; done) | (go_simp; rfl)); (case hp => exact (Reps.one (show Kd.M (Kd.int .u8) _ _ _ 255 [.int .u8 255] from rfl) (Reps.none _ _))); intro v18 w1 ho hb hg hat; obtain ⟨A18, c18, e18⟩ := Kd.R_slice ho; subst e18; have HO1 := Aside0.mk ho; have HB1 := Aside0.mk hb; have HBOX1 := Aside0.mk ((hg.block w.heap.size (by simp) (by simp)).trans HBOX.out); have g12 := (blk_cell HBOX1.out 2).trans rfl; have HC1 := Aside0.mk (Kd.C_below HCT.out hb); have HD1 := Aside0.mk (Kd.C_below HCD.out hb); clear ho hb hg hat)
    | ((with_reducible refine gate_builtin (b := .append) (xs := #[.tmp 18, .tmp 21]) rfl ?_); at_builtin; (refine Kd.R_append_rows (Kd.int .u8) (w0 := w) w.heap.size rfl (.tmp 18) (.tmp 21) 22 5 (.int .u8 0) 1 rfl Try.underlying22 info5 rfl (by decide) (by omega) (.slice A18 ([255] : List Int).length c18) [255] X8 A 8 c (fun k => k ≠ w.heap.size) (fun _ => False) rfl rfl HO1.out HC1.out (fun _ _ h => h) (fun _ hk => hk.elim) ?aF HB1.out HB1.out.size (by simp) ?_); (case aF => intro k hk; have := blk_lt HBOX1.out; omega); intro v22 w2 ho hb hg hat; obtain ⟨A22, c22, e22⟩ := Kd.R_slice ho; rw [show ([255] ++ X8 : List Int).length = 9 by simp [hX8l]] at e22; subst e22; have HO2 := Aside0.mk ho; have HB2 := Aside0.mk hb; have HBOX2 := Aside0.mk ((hg.block w.heap.size (blk_lt HBOX1.out) (fun e => HO1.out.1 _ e.symm rfl)).trans HBOX1.out); have g22 := (blk_cell HBOX2.out 2).trans rfl; have HD2 := Aside0.mk (Kd.C_below HCD.out hb); clear ho hb hg hat)
    | ((with_reducible refine gate_builtin (b := .append) (xs := #[.tmp 23, .tmp 30]) rfl ?_); at_builtin; (refine Kd.R_append (Kd.int .u8) (w0 := w) w.heap.size rfl (.tmp 23) (.tmp 30) 22 5 (.int .u8 0) 1 rfl Try.underlying22 info5 rfl (by decide) (by omega) (.slice A22 9 c22) ([255] ++ X8) ((N8 : Int) - 1) [.int .u8 ((N8 : Int) - 1)] (fun k => k ≠ w.heap.size) (fun _ => False) rfl rfl ?aP (fun _ hk => hk.elim) ?aF HO2.out HB2.out HB2.out.size (by simp [hX8l]) ?_); (case aP => exact rfl); (case aF => intro k hk; have := blk_lt HBOX2.out; omega); intro v31 w3 ho hb hg hat; obtain ⟨A31, c31, e31⟩ := Kd.R_slice ho; rw [show ([255] ++ X8 ++ [(N8 : Int) - 1] : List Int).length = 10 by simp [hX8l]] at e31; subst e31; have HO3 := Aside0.mk ho; have HB3 := Aside0.mk hb; have HBOX3 := Aside0.mk ((hg.block w.heap.size (blk_lt HBOX2.out) (fun e => HO2.out.1 _ e.symm rfl)).trans HBOX2.out); have g32 := (blk_cell HBOX3.out 2).trans rfl; have HD3 := Aside0.mk (Kd.C_below HCD.out hb); clear ho hb hg hat)
    | ((with_reducible refine gate_builtin (b := .append) (xs := #[.tmp 32, .tmp 35]) rfl ?_); at_builtin; (refine Kd.R_append_rows (Kd.int .u8) (w0 := w) w.heap.size rfl (.tmp 32) (.tmp 35) 22 5 (.int .u8 0) 1 rfl Try.underlying22 info5 rfl (by decide) (by omega) (.slice A31 10 c31) ([255] ++ X8 ++ [(N8 : Int) - 1]) D8 A' D8.length c' (fun k => k ≠ w.heap.size) (fun _ => False) rfl rfl HO3.out HD3.out (fun _ _ h => h) (fun _ hk => hk.elim) ?aF HB3.out HB3.out.size ?aL ?_); (case aF => intro k hk; have := blk_lt HBOX3.out; omega); (case aL => have := HLD.out; simp only [List.length_append, List.length_cons, List.length_nil, hX8l]; omega); intro v36 w4 ho hb hg hat; obtain ⟨A36, c36, e36⟩ := Kd.R_slice ho; obtain ⟨n36, hn36⟩ : ∃ n : Nat, n = ([255] ++ X8 ++ [(N8 : Int) - 1] ++ D8 : List Int).length := ⟨_, rfl⟩; rw [← hn36] at e36; clear hn36; subst e36; have HO4 := Aside0.mk ho; have HB4 := Aside0.mk hb; clear ho hb hg hat))
  go_ret
  exact ⟨_, rfl, Kd.R_mono HO4.out (fun _ _ => trivial), HB4.out⟩
def openB (z : Int) (l : List Int) : List Int := if 0 < z then [0, z - 1] else if l.length = 0 then [] else [255] ++ l.take 8 ++ [((l.length / 8 : Nat) : Int) - 1] ++ l.drop 8
def openF (z : Int) (l : List Int) : Option (List Int) := if z ≤ 256 ∧ (0 < z ∨ l.length = 0 ∨ (8 ≤ l.length ∧ l.length ≤ 2048)) then some (openB z l) else none
theorem openF_calls {w : World} {A : Option Addr} {c : Nat} {vP : Value} {z : Int} {l r : List Int} (hin : Kd.C (Kd.int .u8) w A l.length l) (hc : l.length ≤ c) (h : openF z l = some r) :
    Calls Try.prog 24 #[.agg #[vP, .int .i64 z, .slice A l.length c]] w fun e w' => ∃ v0_ : Value, e = .returned v0_ ∧ Kd.R (Kd.int .u8) 5 w' w.heap.size (fun _ => True) v0_ r ∧ Below w.heap.size w w' := by
  unfold openF at h
  split at h
  · rename_i hh
    injection h with h
    subst h
    unfold openB
    by_cases hz : 0 < z
    · rw [if_pos hz]; exact open_zero hz hh.1
    · rw [if_neg hz]
      by_cases hl : l.length = 0
      · rw [if_pos hl]; exact open_none (by omega) hl
      · rw [if_neg hl]
        have h2 := hh.2
        exact open_run hin hc (by omega) (by omega) (by omega)
  · cases h
end Go.Proofs.Ytibkbgaonjdpiaa.Ps
