/- The top: canoncheck at the run: must, charge, object, pointers, structure. -/
import Derived.Test.YthghblmffdfbaaaGreatDoorGhH
import Derived.BigRegion
import Derived.Test.YthghblmffdfbaaaGreatDoorDec6H

namespace Go.Proofs.YthghblmffdfbaaaGreatDoor.Gp
open Go Go.RowKit Go.Proofs.YthghblmffdfbaaaGreatDoor Go.Proofs.YthghblmffdfbaaaGreatDoor.M Go.Proofs.YthghblmffdfbaaaGreatDoor.PFrBase Go.Proofs.YthghblmffdfbaaaGreatDoor.QFrBase Go.Proofs.YthghblmffdfbaaaGreatDoorW.PrintWords Go.Proofs.YthghblmffdfbaaaGreatDoorW.PrintLast Go.Proofs.YthghblmffdfbaaaGreatDoorW.PrintMore
attribute [local go_sem] max2_int min2_int max_two min_two
set_option linter.unusedVariables false
set_option linter.unusedSimpArgs false
set_option maxHeartbeats 8000000
set_option maxRecDepth 100000
@[reducible] def cO (A : Option Addr) (c : Nat) (n m : Int) : Obj := .cells #[.slice A 2 c, .int .i64 n, .int .i64 5, .int .i64 100, .int .i64 100, .int .i64 m] 154 (0, 0)
theorem box6 {w : World} {g t : Nat} {a0 a1 a2 a3 a4 a5 : Value} (h : w.heap[g]? = some (.cells #[a0, a1, a2, a3, a4, a5] t (0, 0))) : w.cell? ⟨g, 0, none⟩ = some a0 ∧ w.cell? ⟨g, 1, none⟩ = some a1 ∧ w.cell? ⟨g, 2, none⟩ = some a2 ∧ w.cell? ⟨g, 3, none⟩ = some a3 ∧ w.cell? ⟨g, 4, none⟩ = some a4 ∧ w.cell? ⟨g, 5, none⟩ = some a5 ∧ w.frozen? ⟨g, 1, none⟩ = false ∧ w.frozen? ⟨g, 5, none⟩ = false := ⟨(blk_cell h 0).trans rfl, (blk_cell h 1).trans rfl, (blk_cell h 2).trans rfl, (blk_cell h 3).trans rfl, (blk_cell h 4).trans rfl, (blk_cell h 5).trans rfl, blk_frozen h 1, blk_frozen h 5⟩
theorem keep_of_below {w w' : World} {g : Nat} (h : Below w.heap.size w w') : KeepBut w w' g none := ⟨h.size, fun i hi _ _ => h.block i hi⟩
theorem keep_blk {w w' : World} {g k : Nat} {o : Obj} (h : KeepBut w w' g none) (hb : w.heap[k]? = some o) (hk : k ≠ g) : w'.heap[k]? = some o := (h.2 k (blk_lt hb) hk (by simp)).trans hb
theorem keep_set {w w' : World} {g : Nat} (h : KeepBut w w' g none) (j : Nat) (v : Value) : KeepBut w (w'.setCell ⟨g, j, none⟩ v) g none :=
  ⟨by have := h.1; simpa [World.setCell] using this, fun i hi hg hr => (Below.heap_setCell w' ⟨g, j, none⟩ v i hg).trans (h.2 i hi hg hr)⟩
theorem ckmust (w : World) : Calls Tryz.prog 79 #[.bool true] w fun e w' => e = .returned (.tuple #[]) ∧ w = w' := by
  go_enter Tryz.func79, Tryz.ntmps79
  go_wp2
  go_end0
  exact ⟨rfl, rfl⟩
theorem ckcharge {W0 w : World} {g : Nat} {A : Option Addr} {c : Nat} {n : Int} (hW : Below W0.heap.size W0 w) (hg : W0.heap.size ≤ g) (hb : w.heap[g]? = some (cO A c n 100)) :
    Calls Tryz.prog 162 #[.pointer (some ⟨g, 0, none⟩), .int .i64 1] w fun e w' => e = .returned (.tuple #[]) ∧ w'.heap[g]? = some (cO A c n 99) ∧ Below W0.heap.size W0 w' ∧ KeepBut w w' g none := by
  obtain ⟨c0, c1, c2, c3, c4, c5, f1, f5⟩ := box6 hb
  have HW := Aside0.mk hW
  have HB := Aside0.mk hb
  clear hW hb c0 c1 c2 c3 c4 f1
  go_enter Tryz.func162, Tryz.ntmps162
  go_wp2_with (first
    | (go_at_call 103; refine (Tp.charge _).mono ?_; rintro e w1 ⟨rfl, hb1⟩; have B1 := blk_below HB.out hb1; have HB1 := Aside0.mk hb1; have HW1 := Aside0.mk (below_then HW.out hb1); clear c5 f5 hb1; obtain ⟨c0, c1, c2, c3, c4, c5, f1, f5⟩ := box6 B1; clear c0 c1 c2 c3 c4 f1)
    | (go_at_call 79; refine (ckmust _).mono ?_; rintro e w2 ⟨rfl, rfl⟩))
  go_end0
  exact ⟨rfl, blk_put B1 5 _ rfl, HW1.out.setCell hg _, keep_set (keep_of_below HB1.out) 5 _⟩
theorem inB2 : arena_InBounds.f Tp.ms 0 1 1 = some true := by kernel_rfl
theorem ckobject {W0 w : World} {g : Nat} {A : Option Addr} {c : Nat} {m : Int} (hW : Below W0.heap.size W0 w) (hg : W0.heap.size ≤ g) (hb : w.heap[g]? = some (cO A c 1 m)) (hC : Kd.C (Kd.int .u64) w A 2 [4294967296, 5]) (hc : 2 ≤ c) :
    Calls Tryz.prog 161 #[.pointer (some ⟨g, 0, none⟩), .int .i64 0, Tp.pS, .int .i64 1] w fun e w' => e = .returned (.int .i64 1) ∧ w'.heap[g]? = some (cO A c 2 m) ∧ Below W0.heap.size W0 w' ∧ KeepBut w w' g none := by
  have HW := Aside0.mk hW
  have HB := Aside0.mk hb
  have HC := Aside0.mk hC
  have HCC := Aside0.mk hc
  unfold Tp.pS
  have B1 := blk_alloc hb (.cells #[.int .i64 0, .int .i64 0, .int .i64 1, .int .i64 0, .int .i64 0, .int .i64 0, .bool false, .int .i64 0, .int .u32 0, .int .u32 0] 185 (0, 0))
  have HB1 := Aside0.mk (below_alloc (Below.refl w.heap.size w) (.cells #[.int .i64 0, .int .i64 0, .int .i64 1, .int .i64 0, .int .i64 0, .int .i64 0, .bool false, .int .i64 0, .int .u32 0, .int .u32 0] 185 (0, 0)))
  clear hW hb hC hc
  go_enter Tryz.func161, Tryz.ntmps161
  go_upto_region 2 with fail
  obtain ⟨c0, c1, c2, c3, c4, c5, f1, f5⟩ := box6 B1
  generalize hw1 : w.alloc (.cells #[.int .i64 0, .int .i64 0, .int .i64 1, .int .i64 0, .int .i64 0, .int .i64 0, .bool false, .int .i64 0, .int .u32 0, .int .u32 0] 185 (0, 0)) = w1 at *
  clear hw1
  have B2 := blk_alloc B1 (.cells #[.slice A 2 c] 27 (0, 0))
  have BK := blk_new (w := w1) (o := .cells #[.slice A 2 c] 27 (0, 0)) rfl
  have HB2 := Aside0.mk (below_alloc HB1.out (.cells #[.slice A 2 c] 27 (0, 0)))
  have HR := Aside0.mk (rows1 BK HCC.out (Kd.C_alloc (Kd.C_below HC.out HB1.out) _))
  have HB2' := Aside0.mk B2
  clear BK B2
  go_wp2_with (first
    | (go_at_call 148; refine (arena_InBounds.calls (some ⟨w1.heap.size, 0, none⟩) 1 Tp.ms 0 1 1 _ _ HR.out (by decide) inB2).mono ?_; rintro e w2 ⟨rfl, hd2⟩; have hb2 := hd2.below; clear hd2; have B3 := blk_below HB2'.out hb2; have HB3 := Aside0.mk (below_then HB2.out hb2); clear hb2 c0 c1 c2 c3 c4 c5 f1 f5; obtain ⟨c0, c1, c2, c3, c4, c5, f1, f5⟩ := box6 B3)
    | (go_at_call 79; refine (ckmust _).mono ?_; rintro e w5 ⟨rfl, rfl⟩))
  go_ret
  exact ⟨rfl, blk_put B3 1 _ rfl, (below_then HW.out HB3.out).setCell hg _, keep_set (keep_of_below HB3.out) 1 _⟩
theorem ckpointers (g : Nat) (w : World) (x y : Int) :
    Calls Tryz.prog 163 #[.pointer (some ⟨g, 0, none⟩), .int .i64 x, .int .i64 0, .int .i64 y] w fun e w' => e = .returned (.tuple #[]) ∧ w = w' := by
  go_enter Tryz.func163, Tryz.ntmps163
  go_wp2
  refine wp_loop_rounds 1 ?_
  rw [rounds_succ]
  go_wp2
  go_end0
  exact ⟨rfl, rfl⟩
end Go.Proofs.YthghblmffdfbaaaGreatDoor.Gp

/- The top: canoncheck at the run: structure, visit, Words. -/
namespace Go.Proofs.YthghblmffdfbaaaGreatDoor.Gp
open Go Go.RowKit Go.Proofs.YthghblmffdfbaaaGreatDoor Go.Proofs.YthghblmffdfbaaaGreatDoor.M Go.Proofs.YthghblmffdfbaaaGreatDoor.PFrBase Go.Proofs.YthghblmffdfbaaaGreatDoor.QFrBase Go.Proofs.YthghblmffdfbaaaGreatDoorW.PrintWords Go.Proofs.YthghblmffdfbaaaGreatDoorW.PrintLast Go.Proofs.YthghblmffdfbaaaGreatDoorW.PrintMore
attribute [local go_sem] max2_int min2_int max_two min_two
set_option linter.unusedVariables false
set_option linter.unusedSimpArgs false
set_option maxHeartbeats 8000000
set_option maxRecDepth 100000
@[reducible] def pO1 : Obj := .cells #[.int .i64 0, .int .i64 0, .int .i64 1, .int .i64 0, .int .i64 0, .int .i64 0, .bool false, .int .i64 0, .int .u32 0, .int .u32 0] 185 (0, 0)
theorem ckstruct {W0 w : World} {g : Nat} {A : Option Addr} {c : Nat} (hW : Below W0.heap.size W0 w) (hg : W0.heap.size ≤ g) (hb : w.heap[g]? = some (cO A c 1 100)) (hC : Kd.C (Kd.int .u64) W0 A 2 [4294967296, 5]) (hc : 2 ≤ c) :
    Calls Tryz.prog 126 #[.pointer (some ⟨g, 0, none⟩), .int .i64 0, .int .i64 1, Tp.pS] w fun e w' => e = .returned (.tuple #[]) ∧ w'.heap[g]? = some (cO A c 2 99) ∧ Below W0.heap.size W0 w' := by
  have HC := Aside0.mk hC
  have HCC := Aside0.mk hc
  have hlt := blk_lt hb
  have B1 := blk_alloc hb pO1
  have BP1 := blk_new (w := w) (o := pO1) rfl
  have HW1 := Aside0.mk (hW.trans ((below_alloc (Below.refl w.heap.size w) pO1).mono hW.size))
  have gP : w.heap.size ≠ g := by omega
  clear hW hb hC hc hlt
  unfold Tp.pS
  go_enter Tryz.func126, Tryz.ntmps126
  try simp only [List.append_eq, List.cons_append, List.nil_append]
  go_upto_region 1 with fail
  generalize hw1 : w.alloc pO1 = w1 at *
  generalize hgp : w.heap.size = gp at *
  clear hw1 hgp
  obtain ⟨d0, d1, d2, d3, d4, d5, d6, d7, d8, d9, e0, e1, e2, e3, e4, e5, e6, e7, e8, e9⟩ := box10 BP1
  clear e0 e1 e2 e3 e4 e5 e6 e7 e8 e9
  go_upto_region 5 with (first
    | (go_at_call 161; refine (ckobject HW1.out hg B1 (Kd.C_below HC.out HW1.out) HCC.out).mono ?_; rintro e w2 ⟨rfl, B2, hb2, hk2⟩; have HW2 := Aside0.mk hb2; have BP2 := keep_blk hk2 BP1 gP; clear hb2 hk2 d0 d1 d2 d3 d4 d5 d6 d7 d8 d9; obtain ⟨d0, d1, d2, d3, d4, d5, d6, d7, d8, d9, e0, e1, e2, e3, e4, e5, e6, e7, e8, e9⟩ := box10 BP2; clear e0 e1 e2 e3 e4 e5 e6 e7 e8 e9)
    | (go_at_call 162; refine (ckcharge HW2.out hg B2).mono ?_; rintro e w3 ⟨rfl, B3, hb3, hk3⟩; have HW3 := Aside0.mk hb3; have BP3 := keep_blk hk3 BP2 gP; clear hb3 hk3 d0 d1 d2 d3 d4 d5 d6 d7 d8 d9; obtain ⟨d0, d1, d2, d3, d4, d5, d6, d7, d8, d9, e0, e1, e2, e3, e4, e5, e6, e7, e8, e9⟩ := box10 BP3; clear e0 e1 e2 e3 e4 e5 e6 e7 e8 e9))
  obtain ⟨c0, c1, c2, c3, c4, c5, f1, f5⟩ := box6 B3
  obtain ⟨ad, rfl, x0, x1⟩ : ∃ ad, A = some ad ∧ w3.cell? ad = some (.int .u64 4294967296) ∧ w3.cell? ⟨ad.block, ad.off + 1, none⟩ = some (.int .u64 5) := by
    obtain ⟨a0, e0, h0⟩ := Kd.at_int (Kd.C_below HC.out HW3.out) 0 (by decide) (by decide)
    obtain ⟨a1, e1, h1⟩ := Kd.at_int (Kd.C_below HC.out HW3.out) 1 (by decide) (by decide)
    cases e0; cases e1
    have e : a0.add (Int.toNat 0) = a0 := by simp [Addr.add]
    rw [e] at h0
    exact ⟨a0, rfl, h0, h1⟩
  have i1 : IntKind.i64.wrap 2 = 2 := by decide
  have i2 : IntKind.i64.wrap 1 = 1 := by decide
  go_quiet ((go_at_call 79; exact Calls.quiet_of_same ((ckmust _).mono fun _ _ ⟨he, hd⟩ => ⟨he, hd.symm⟩)))
  clear x0 x1
  generalize hw4 : w3.drewN _ = w4
  have B4 : w4.heap[g]? = some (cO (some ad) c 2 99) := by rw [← hw4]; exact blk_drewN B3 _
  have BP4 : w4.heap[gp]? = some pO1 := by rw [← hw4]; exact blk_drewN BP3 _
  have HW4 : Aside0 (Below W0.heap.size W0 w4) := ⟨by rw [← hw4]; exact pw_below_drewN HW3.out _⟩
  clear hw4 d0 d1 d2 d3 d4 d5 d6 d7 d8 d9 c0 c1 c2 c3 c4 c5 f1 f5
  obtain ⟨d0, d1, d2, d3, d4, d5, d6, d7, d8, d9, e0, e1, e2, e3, e4, e5, e6, e7, e8, e9⟩ := box10 BP4
  clear e0 e1 e2 e3 e4 e5 e6 e7 e8 e9
  obtain ⟨c0, c1, c2, c3, c4, c5, f1, f5⟩ := box6 B4
  go_upto_region 6 with fail
  go_quiet ((go_at_call 79; exact Calls.quiet_of_same ((ckmust _).mono fun _ _ ⟨he, hd⟩ => ⟨he, hd.symm⟩)))
  generalize hw5 : w4.drewN _ = w5
  have B5 : w5.heap[g]? = some (cO (some ad) c 2 99) := by rw [← hw5]; exact blk_drewN B4 _
  have BP5 : w5.heap[gp]? = some pO1 := by rw [← hw5]; exact blk_drewN BP4 _
  have HW5 : Aside0 (Below W0.heap.size W0 w5) := ⟨by rw [← hw5]; exact pw_below_drewN HW4.out _⟩
  clear hw5 d0 d1 d2 d3 d4 d5 d6 d7 d8 d9 c0 c1 c2 c3 c4 c5 f1 f5
  obtain ⟨d0, d1, d2, d3, d4, d5, d6, d7, d8, d9, e0, e1, e2, e3, e4, e5, e6, e7, e8, e9⟩ := box10 BP5
  clear e0 e1 e2 e3 e4 e5 e6 e7 e8 e9
  obtain ⟨c0, c1, c2, c3, c4, c5, f1, f5⟩ := box6 B5
  go_wp2_with (first
    | (go_at_call 163; refine (ckpointers g _ _ _).mono ?_; rintro e w6 ⟨rfl, rfl⟩))
  go_end0
  exact ⟨rfl, B5, HW5.out⟩
theorem isNull1 : pointer_IsNull.f 4294967296 = some false := by kernel_rfl
theorem decode1 : decodeF 4294967296 = some (0, 0, 1, 0, 0, 0, false, 0, 0, 0) := by kernel_rfl
theorem ckvisit {W0 w : World} {g : Nat} {A : Option Addr} {c : Nat} (hL : TopL W0) (hW : Below W0.heap.size W0 w) (hg : W0.heap.size ≤ g) (hb : w.heap[g]? = some (cO A c 1 100)) (hC : Kd.C (Kd.int .u64) W0 A 2 [4294967296, 5]) (hc : 2 ≤ c) :
    Calls Tryz.prog 80 #[.pointer (some ⟨g, 0, none⟩), .int .i64 0, .int .i64 1] w fun e w' => e = .returned (.tuple #[]) ∧ w'.heap[g]? = some (cO A c 2 99) ∧ Below W0.heap.size W0 w' := by
  have HC := Aside0.mk hC
  have HCC := Aside0.mk hc
  have HL := Aside0.mk hL
  have HW := Aside0.mk hW
  have HB := Aside0.mk hb
  obtain ⟨c0, c1, c2, c3, c4, c5, f1, f5⟩ := box6 hb
  obtain ⟨ad, rfl, x0⟩ : ∃ ad, A = some ad ∧ w.cell? ad = some (.int .u64 4294967296) := by
    obtain ⟨a0, e0, h0⟩ := Kd.at_int (Kd.C_below hC hW) 0 (by decide) (by decide)
    have e : a0.add (Int.toNat 0) = a0 := by simp [Addr.add]
    rw [e] at h0
    exact ⟨a0, e0, h0⟩
  clear hL hW hb hC hc
  go_enter Tryz.func80, Tryz.ntmps80
  go_wp2_with (first
    | (go_at_call 100; refine (pointer_IsNull.calls 4294967296 false _ isNull1).mono ?_; rintro e w1 ⟨rfl, hd1⟩; have hb1 := hd1.below; have B1 := blk_below HB.out hb1; have HW1 := Aside0.mk (below_then HW.out hb1); clear hd1 hb1 c0 c1 c2 c3 c4 c5 f1 f5 x0; obtain ⟨c0, c1, c2, c3, c4, c5, f1, f5⟩ := box6 B1)
    | (go_at_call 101; refine (budget_Enter.calls 5 100 100 1 0 _ Tp.enter1).mono ?_; rintro e w2 ⟨rfl, hb2⟩; have B2 := blk_below B1 hb2; have HW2 := Aside0.mk (below_then HW1.out hb2); clear hb2 c0 c1 c2 c3 c4 c5 f1 f5)
    | (go_at_call 79; refine (ckmust _).mono ?_; rintro e w2 ⟨rfl, rfl⟩)
    | (go_at_call 105; refine (decode_calls 4294967296 0 0 1 0 0 0 false 0 0 0 decode1 (HL.out.below HW2.out)).mono ?_; rintro e w3 ⟨rfl, hb3⟩; have B3 := blk_alloc (blk_below B2 hb3) pO1; have HW3 := Aside0.mk ((below_then HW2.out hb3).trans ((below_alloc (Below.refl w3.heap.size w3) pO1).mono (below_then HW2.out hb3).size)); clear hb3)
    | (go_at_call 126; refine (ckstruct HW3.out hg B3 HC.out HCC.out).mono ?_; rintro e w4 ⟨rfl, B4, hb4⟩))
  go_end0
  exact ⟨rfl, B4, hb4⟩
theorem ckwords_idle (p : Addr) (w : World) :
    CallsD Tryz.prog 78 #[.pointer (some p)] .returning w fun e u' w' => e = .returned (.tuple #[]) ∧ u' = .returning ∧ w' = w := by
  refine callsD_of_wpS Tryz.func78 rfl fun c₀ cs hu => ?_
  apply wpS_seq
  apply wpS_region
  simp [wpOpsS, go_sem, recoverD, hu, Tryz.ntmps78, Exit.thenS]
  apply wpS_seq
  apply wpS_region
  simp [wpOpsS, go_sem, recoverD, hu, Tryz.ntmps78, Exit.thenS]
  refine wpS_cond (t := false) (by simp [Act.eval, Array.replicate]) ?_
  simp only [Bool.false_eq_true, if_false]
  refine wpS_of_wp (wp_skip ?_)
  cases c₀
  simp_all [bodyPostS, results, Tryz.results78]
theorem ckwords {w : World} {A : Option Addr} {c : Nat} (hL : TopL w) (hC : Kd.C (Kd.int .u64) w A 2 [4294967296, 5]) (hc : 2 ≤ c) :
    Calls Tryz.prog 49 #[.slice A 2 c, .agg #[.int .i64 5, .int .i64 100, .int .i64 100]] w fun e w' => e = .returned (.bool true) ∧ Below w.heap.size w w' := by
  have hmf : ∀ (fn : Fn) (first cap : Array Value) (w : World), (Instr.makeFunc fn first cap).run Tryz.prog w = .ok (.func fn first cap) w := fun _ _ _ _ => rfl
  have HL := Aside0.mk hL
  have HC := Aside0.mk hC
  have HCC := Aside0.mk hc
  have HB := below_alloc (below_alloc (Below.refl w.heap.size w) (.cells #[.int .i64 5, .int .i64 100, .int .i64 100] 36 (0, 0))) (.cells #[.bool false] 4 (0, 0))
  have BL := blk_alloc (blk_new (w := w) (o := .cells #[.int .i64 5, .int .i64 100, .int .i64 100] 36 (0, 0)) rfl) (.cells #[.bool false] 4 (0, 0))
  have BR := blk_new (w := w.alloc (.cells #[.int .i64 5, .int .i64 100, .int .i64 100] 36 (0, 0))) (o := .cells #[.bool false] 4 (0, 0)) (g := w.heap.size + 1) (by simp)
  clear hL hC hc
  go_enter_defers Tryz.func49, Tryz.ntmps49
  go_upto_region 3 with (first | (go_at_call 79; refine (ckmust _).mono ?_; rintro e w2 ⟨rfl, rfl⟩))
  generalize hw2 : (w.alloc (.cells #[.int .i64 5, .int .i64 100, .int .i64 100] 36 (0, 0))).alloc (.cells #[.bool false] 4 (0, 0)) = w2 at *
  clear hw2
  go_region_held3 (fun w' => w'.cell? ⟨w.heap.size, 0, none⟩ = some (.int .i64 5) ∧ w'.cell? ⟨w.heap.size, 1, none⟩ = some (.int .i64 100) ∧ w'.cell? ⟨w.heap.size, 2, none⟩ = some (.int .i64 100)) (first | with_reducible exact ⟨(blk_cell BL3 0).trans rfl, (blk_cell BL3 1).trans rfl, (blk_cell BL3 2).trans rfl⟩ | with_reducible exact ⟨(blk_cell (blk_drew BL) 0).trans rfl, (blk_cell (blk_drew BL) 1).trans rfl, (blk_cell (blk_drew BL) 2).trans rfl⟩ | with_reducible exact ⟨(blk_cell BL 0).trans rfl, (blk_cell BL 1).trans rfl, (blk_cell BL 2).trans rfl⟩ | with_reducible exact ⟨(blk_cell (blk_alloc BL3 _) 0).trans rfl, (blk_cell (blk_alloc BL3 _) 1).trans rfl, (blk_cell (blk_alloc BL3 _) 2).trans rfl⟩ | go_keep) (first | (go_at_call 40; refine (budget_Start.calls 5 100 100 100 _ Tp.start100).mono ?_; rintro e w3 ⟨rfl, hb3⟩; have BL3 := blk_below (blk_drew BL) hb3; have BR3 := blk_below (blk_drew BR) hb3; have HB3 : Below w.heap.size w w3 := below_then (below_drew1 HB) hb3))
  have B4 : (w3.alloc (cO A c 1 100)).heap[w3.heap.size]? = some (cO A c 1 100) := blk_new rfl
  have HW4 := below_alloc (Below.refl w3.heap.size w3) (cO A c 1 100)
  generalize hw4 : w3.alloc (cO A c 1 100) = w4 at *
  clear hw4 BL BL3 hb3 HB
  go_wp2_with (first
    | (go_at_call 80; refine (ckvisit (HL.out.below HB3) HW4 (Nat.le_refl _) B4 (Kd.C_below HC.out HB3) HCC.out).mono ?_; rintro e w5 ⟨rfl, B5, hb5⟩; have BR5 := blk_below BR3 hb5; have HB5 := below_then HB3 hb5; obtain ⟨c0, c1, c2, c3, c4, c5, f1, f5⟩ := box6 B5; obtain ⟨r0, s0⟩ := box1 BR5; clear c0 c2 c3 c4 c5 f1 f5))
  have BR6 : (w5.setCell ⟨w.heap.size + 1, 0, none⟩ (.bool true)).heap[w.heap.size + 1]? = some (.cells #[.bool true] 4 (0, 0)) := blk_put BR5 0 _ rfl
  have HB6 : Below w.heap.size w (w5.setCell ⟨w.heap.size + 1, 0, none⟩ (.bool true)) := HB5.setCell (Nat.le_succ _) _
  clear c1 r0 s0
  generalize w5.setCell ⟨w.heap.size + 1, 0, none⟩ (.bool true) = w6 at *
  obtain ⟨cq0, zq0⟩ := box1 BR6
  refine leaves_cons (f := 78) (args := #[.pointer (some ⟨w.heap.size + 1, 0, none⟩)]) (by simp) (by simp [go_sem]) ?_
  refine (ckwords_idle _ _).mono ?_
  rintro e u' w'' ⟨rfl, rfl, rfl⟩
  simp [Leaves, settle, results, Tryz.results49, go_sem, cq0]
  exact HB6
end Go.Proofs.YthghblmffdfbaaaGreatDoor.Gp

/- The top: message.IsCanonical at the run. -/
namespace Go.Proofs.YthghblmffdfbaaaGreatDoor.Gp
open Go Go.RowKit Go.Proofs.YthghblmffdfbaaaGreatDoor Go.Proofs.YthghblmffdfbaaaGreatDoor.M Go.Proofs.YthghblmffdfbaaaGreatDoor.PFrBase Go.Proofs.YthghblmffdfbaaaGreatDoor.QFrBase Go.Proofs.YthghblmffdfbaaaGreatDoorW.PrintWords Go.Proofs.YthghblmffdfbaaaGreatDoorW.PrintLast Go.Proofs.YthghblmffdfbaaaGreatDoorW.PrintMore
attribute [local go_sem] max2_int min2_int max_two min_two
set_option linter.unusedVariables false
set_option linter.unusedSimpArgs false
set_option maxHeartbeats 8000000
set_option maxRecDepth 100000
theorem IsCanonical {w : World} (hL : TopL w) {A : Option Addr} {c : Nat} (hr : Kd.C (Kd.int .u8) w A 24 five) (hc : 24 ≤ c) :
    Calls Tryz.prog 25 #[.slice A 24 c, .agg #[.int .i64 5, .int .i64 100, .int .i64 100]] w fun e w' => e = .returned (.bool true) ∧ Below w.heap.size w w' := by
  have HL := Aside0.mk hL
  have HR := Aside0.mk hr
  have HC := Aside0.mk hc
  have HB := below_alloc (Below.refl w.heap.size w) (.cells #[.int .i64 5, .int .i64 100, .int .i64 100] 36 (0, 0))
  have BL := blk_new (w := w) (o := .cells #[.int .i64 5, .int .i64 100, .int .i64 100] 36 (0, 0)) rfl
  clear hL hr hc
  go_enter Tryz.func25, Tryz.ntmps25
  go_upto_region 2 with (first
    | (go_at_call 42; refine (mparse (Kd.C_below HR.out HB) HC.out).mono ?_; rintro e w2 ⟨A2, c2, rfl, hl2, hc2, hb2⟩; have HB2 : Below w.heap.size w w2 := below_then HB hb2; have BL2 := blk_below BL hb2; obtain ⟨a, b, c3, rfl, ha, hl3, hC3⟩ := Tp.ms_cells hc2; clear hb2))
  have HLw := Aside0.mk (HL.out.below HB2)
  have HC3 := Aside0.mk hC3
  have HL3 := Aside0.mk hl3
  clear hc2 hC3 hl3 BL HB
  have had : w2.drew.cell? a = some (.slice (some b) 2 c3) := ha
  go_region_held3 (fun w' => w'.cell? ⟨w.heap.size, 0, none⟩ = some (.int .i64 5) ∧ w'.cell? ⟨w.heap.size, 1, none⟩ = some (.int .i64 100) ∧ w'.cell? ⟨w.heap.size, 2, none⟩ = some (.int .i64 100) ∧ w'.cell? a = some (.slice (some b) 2 c3))
    (first | with_reducible exact ⟨(blk_cell BL5 0).trans rfl, (blk_cell BL5 1).trans rfl, (blk_cell BL5 2).trans rfl, ha5⟩ | with_reducible exact ⟨(blk_cell BL4 0).trans rfl, (blk_cell BL4 1).trans rfl, (blk_cell BL4 2).trans rfl, ha4⟩ | with_reducible exact ⟨(blk_cell (blk_drew BL2) 0).trans rfl, (blk_cell (blk_drew BL2) 1).trans rfl, (blk_cell (blk_drew BL2) 2).trans rfl, had⟩ | with_reducible exact ⟨(blk_cell BL2 0).trans rfl, (blk_cell BL2 1).trans rfl, (blk_cell BL2 2).trans rfl, ha⟩ | go_keep)
    (first
    | (go_at_call 46; refine (message_effective.calls 5 100 100 5 100 100 _ eff5).mono ?_; rintro e w4 ⟨rfl, hb4⟩; have BL4 := blk_below (blk_drew BL2) hb4; have HB4 : Below w.heap.size w w4 := below_then (below_drew1 HB2) hb4; have ha4 : w4.cell? a = some (.slice (some b) 2 c3) := ((below_drew1 (Below.refl w2.heap.size w2)).trans hb4 |>.cell (World.block_lt_of_cell? w2 _ ha)).trans ha)
    | (go_at_call 49; refine (ckwords (HL.out.below HB4) (Kd.C_below HC3.out ((below_drew1 (Below.refl w2.heap.size w2)).trans hb4)) HL3.out).mono ?_; rintro e w5 ⟨rfl, hb5⟩; have BL5 := blk_below BL4 hb5; have HB5 : Below w.heap.size w w5 := below_then HB4 hb5; have ha5 : w5.cell? a = some (.slice (some b) 2 c3) := (hb5.cell (World.block_lt_of_cell? w4 _ ha4)).trans ha4))
  all_goals
    go_wp2
    go_ret
    exact ⟨rfl, HB5⟩
end Go.Proofs.YthghblmffdfbaaaGreatDoor.Gp

/- The top: what the listed variables give the law's walks; the fixed calls of awake as partial functions. -/
namespace Go.Proofs.YthghblmffdfbaaaGreatDoor.Gp
open Go Go.RowKit Go.Proofs.YthghblmffdfbaaaGreatDoor Go.Proofs.YthghblmffdfbaaaGreatDoor.M Go.Proofs.YthghblmffdfbaaaGreatDoor.PFrBase Go.Proofs.YthghblmffdfbaaaGreatDoor.QFrBase Go.Proofs.YthghblmffdfbaaaGreatDoorW.PrintWords Go.Proofs.YthghblmffdfbaaaGreatDoorW.PrintLast Go.Proofs.YthghblmffdfbaaaGreatDoorW.PrintMore
set_option linter.unusedVariables false
structure TopU (W : World) : Prop where
  top : TopL W
  un : ∃ aL aT, Un.LaidU W aL aT
theorem TopU.below {W w : World} (h : TopU W) (hb : Below W.heap.size W w) : TopU w := ⟨h.top.below hb, h.un.imp fun _ h => h.imp fun _ h => h.below hb⟩
def canonF (l : List Int) (a b c : Int) : Option (List Int × Int) := if l = five ∧ a = 5 ∧ b = 100 ∧ c = 100 then some (five, 0) else none
def isCanF (l : List Int) (a b c : Int) : Option Bool := if l = five ∧ a = 5 ∧ b = 100 ∧ c = 100 then some true else none
theorem canonF_calls {A0 : Option Addr} {c0 : Nat} {l0 : List Int} {a b c : Int} {r1 : List Int} {r2 : Int} {w : World} (hr0 : Kd.C (Kd.int .u8) w A0 l0.length l0) (hc0 : l0.length ≤ c0) (h : canonF l0 a b c = some (r1, r2)) (hL : TopU w) :
    Calls Tryz.prog 22 #[.slice A0 l0.length c0, .agg #[.int .i64 a, .int .i64 b, .int .i64 c]] w fun e w' => ∃ v0_ : Value, e = .returned (.tuple #[v0_, .int .i64 r2]) ∧ Kd.R (Kd.int .u8) 5 w' w.heap.size (fun _ => True) v0_ r1 ∧ Below w.heap.size w w' := by
  unfold canonF at h
  by_cases hc : l0 = five ∧ a = 5 ∧ b = 100 ∧ c = 100
  · rw [if_pos hc] at h
    obtain ⟨rfl, rfl, rfl, rfl⟩ := hc
    simp only [Option.some.injEq, Prod.mk.injEq] at h
    obtain ⟨rfl, rfl⟩ := h
    exact Canonicalize hL.top hr0 hc0
  · rw [if_neg hc] at h; cases h
theorem isCanF_calls {A0 : Option Addr} {c0 : Nat} {l0 : List Int} {a b c : Int} {r : Bool} {w : World} (hr0 : Kd.C (Kd.int .u8) w A0 l0.length l0) (hc0 : l0.length ≤ c0) (h : isCanF l0 a b c = some r) (hL : TopU w) :
    Calls Tryz.prog 25 #[.slice A0 l0.length c0, .agg #[.int .i64 a, .int .i64 b, .int .i64 c]] w fun e w' => e = .returned (.bool r) ∧ Below w.heap.size w w' := by
  unfold isCanF at h
  by_cases hc : l0 = five ∧ a = 5 ∧ b = 100 ∧ c = 100
  · rw [if_pos hc] at h
    obtain ⟨rfl, rfl, rfl, rfl⟩ := hc
    obtain rfl := Option.some.inj h
    exact IsCanonical hL.top hr0 hc0
  · rw [if_neg hc] at h; cases h
end Go.Proofs.YthghblmffdfbaaaGreatDoor.Gp
