/- The top: the table of decoders; pointer.Decode at a struct pointer. -/
import Derived.Test.YthghblmffdfbaaaGreatDoorQFrBaseH
import Derived.Defers
import Derived.Recover
import Derived.WalkMore
import Derived.WalkSmall
import Derived.WalkLawsBesides
import Derived.BigQuiet
import Derived.Deep.QuietTactic
import Derived.RegionTactic
import Derived.ChangeAlike
import Derived.KernelRfl
namespace Go.Proofs.YthghblmffdfbaaaGreatDoor.Tp
open Go Go.RowKit Go.Proofs.YthghblmffdfbaaaGreatDoor Go.Proofs.YthghblmffdfbaaaGreatDoor.M Go.Proofs.YthghblmffdfbaaaGreatDoor.PFrBase Go.Proofs.YthghblmffdfbaaaGreatDoor.QFrBase Go.Proofs.YthghblmffdfbaaaGreatDoorW.PrintWords Go.Proofs.YthghblmffdfbaaaGreatDoorW.PrintLast Go.Proofs.YthghblmffdfbaaaGreatDoorW.PrintMore
attribute [local go_sem] max2_int min2_int max_two min_two
set_option linter.unusedVariables false
set_option linter.unusedSimpArgs false
set_option maxHeartbeats 8000000
set_option maxRecDepth 100000
structure DecL (W : World) (bm : Nat) : Prop where
  gl : 4 < W.heap.size
  var : W.cell? ⟨4, 0, none⟩ = some (.map (some bm))
  look : ∀ w, Below W.heap.size W w → (Instr.lookup 241 (.map (some bm)) (.int .i64 0) false).run Tryz.prog w = .ok (.func (.func 247) #[] #[]) w
theorem DecL.below {W w : World} {bm : Nat} (h : DecL W bm) (hb : Below W.heap.size W w) : DecL w bm where
  gl := Nat.lt_of_lt_of_le h.gl hb.size
  var := by rw [← h.var]; simp only [World.cell?, hb.block _ h.gl]
  look := fun w' hw => h.look w' (hb.trans (hw.mono hb.size))
def pC : Array Value := #[.int .i64 0, .int .i64 0, .int .i64 1, .int .i64 0, .int .i64 0, .int .i64 0, .bool false, .int .i64 0, .int .u32 0, .int .u32 0]
def pS : Value := .agg #[.int .i64 0, .int .i64 0, .int .i64 1, .int .i64 0, .int .i64 0, .int .i64 0, .bool false, .int .i64 0, .int .u32 0, .int .u32 0]
theorem DecL.alloc {w : World} {bm : Nat} (hD : DecL w bm) (o : Obj) : (w.alloc o).cell? ⟨4, 0, none⟩ = some (.map (some bm)) := (hD.below (below_alloc (Below.refl _ _) o)).var
theorem DecL.lookA {w : World} {bm : Nat} (hD : DecL w bm) (o : Obj) : (Instr.lookup 241 (.map (some bm)) (.int .i64 0) false).run Tryz.prog (w.alloc o) = .ok (.func (.func 247) #[] #[]) (w.alloc o) := hD.look _ (below_alloc (Below.refl _ _) o)
attribute [local go_sem] pS pC
theorem results_4 {fn : Func} {a b c d : Tmp} (h : fn.results = #[.tmp a, .tmp b, .tmp c, .tmp d]) (tmps : Array Value) (P : Program) (w : World) :
    (results fn tmps).run P w = .ok (.tuple #[tmps.getD a undef, tmps.getD b undef, tmps.getD c undef, tmps.getD d undef]) w := by
  simp [results, h, go_sem]
theorem blk_new {w : World} {o : Obj} {g : Nat} (h : g = w.heap.size) : (w.alloc o).heap[g]? = some o := by subst h; exact heap_alloc_new w o
def pO : Obj := .cells #[.int .i64 0, .int .i64 0, .int .i64 1, .int .i64 0, .int .i64 0, .int .i64 0, .bool false, .int .i64 0, .int .u32 0, .int .u32 0] 185 (0, 0)
theorem dec1 (w : World) : Calls Tryz.prog 247 #[.int .u64 4294967296] w fun e w' => e = .returned pS ∧ w' = w.alloc pO := by
  have b2 : Go.bits .and .u64 1 65535 = 1 := by decide
  have b3 : Go.bits .and .u64 0 65535 = 0 := by decide
  have b4 : wrap64 (IntKind.u64.wrap 18446744073709551616) / 17179869184 = 0 := by kernel_rfl
  go_enter Tryz.func247, Tryz.ntmps247
  go_wp2
  refine bodyPost_ret (results_cell_row rfl _ _ w.heap.size 185 _ (0, 0) _ rfl (heap_alloc_new _ _) Tryz.underlying185 rfl (by kernel_rfl)) rfl ?_
  exact ⟨rfl, rfl⟩
theorem decode {w : World} {bm : Nat} (hD : DecL w bm) :
    Calls Tryz.prog 105 #[.int .u64 4294967296] w fun e w' => e = .returned pS ∧ w' = ((w.alloc pO).alloc pO).alloc pO := by
  have hv := hD.alloc
  have hl := hD.lookA
  have b1 : Go.bits .and .u64 4294967296 3 = 0 := by decide
  go_enter Tryz.func105, Tryz.ntmps105
  go_wp2_with (first | (go_at_call 247; refine (dec1 _).mono ?_; rintro e w1 ⟨rfl, rfl⟩) | go_in)
  refine bodyPost_ret (results_cell_row rfl _ _ w.heap.size 185 _ (0, 0) _ rfl (blk_alloc (blk_alloc (heap_alloc_new _ _) _) _) Tryz.underlying185 rfl (by kernel_rfl)) rfl ?_
  exact ⟨rfl, rfl⟩
theorem fldK (w : World) : (Instr.field 185 (.agg #[.int .i64 0, .int .i64 0, .int .i64 1, .int .i64 0, .int .i64 0, .int .i64 0, .bool false, .int .i64 0, .int .u32 0, .int .u32 0]) 0).run Tryz.prog w = .ok (.int .i64 0) w := by kernel_rfl
theorem isFar {w : World} {bm : Nat} (hD : DecL w bm) :
    Calls Tryz.prog 141 #[.int .u64 4294967296] w fun e w' => e = .returned (.bool false) ∧ w' = ((w.alloc pO).alloc pO).alloc pO := by
  have hfd := fldK
  go_enter Tryz.func141, Tryz.ntmps141
  go_wp2_with (first | (go_at_call 105; refine (decode hD).mono ?_; rintro e w1 ⟨rfl, rfl⟩) | go_in)
  go_ret
  exact ⟨rfl, rfl⟩
def ms : List (List Int) := [[4294967296, 5]]
theorem word00 : arena_Word.f ms 0 0 = some (4294967296, true) := by kernel_rfl
theorem follow {w : World} {bm : Nat} (hD : DecL w bm) {A0 : Option Addr} {c0 : Nat} (hr0 : Kd.C (Kd.slice 61 (Kd.int .u64)) w A0 1 ms) (hc0 : 1 ≤ c0) :
    Calls Tryz.prog 99 #[.slice A0 1 c0, .int .i64 0, .int .i64 0] w fun e w' => e = .returned (.tuple #[.int .u64 4294967296, .int .i64 0, .int .i64 1, .int .i64 0]) ∧ Below w.heap.size w w' := by
  go_enter Tryz.func99, Tryz.ntmps99
  go_wp2_with (first
    | (go_at_call 104; refine (arena_Word.calls A0 c0 ms 0 0 _ _ _ hr0 hc0 word00).mono ?_; rintro e w1 ⟨rfl, hd1⟩; have hb1 := hd1.below; clear hd1; have hD1 := hD.below hb1)
    | (go_at_call 141; refine (isFar (hD1.below ?b0)).mono ?_; (case b0 => repeat (first | exact Below.refl _ _ | apply below_alloc | apply pw_below_drewN | apply below_drew1)); rintro e w2 ⟨rfl, rfl⟩)
    | go_in)
  go_quiet (fail)
  go_wp2
  refine bodyPost_ret (results_4 rfl _ _ _) rfl ?_
  refine ⟨rfl, ?_⟩
  repeat (first | exact hb1 | apply below_alloc | apply pw_below_drewN | apply below_drew1)
end Go.Proofs.YthghblmffdfbaaaGreatDoor.Tp
