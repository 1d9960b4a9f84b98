/- The top: what the listed variables give every walk; pointer.Decode, listsize.Words, listsize.Bytes at every input. -/
import Derived.Test.YthghblmffdfbaaaGreatDoorQFrBaseH
import Derived.Defers
import Derived.Recover
import Derived.WalkMore
import Derived.WalkSmall
import Derived.WalkLawsBesides
import Derived.BigQuiet
import Derived.Deep.QuietTactic
import Derived.RegionTactic
import Derived.ChangeAlike
import Derived.KernelRfl
import Derived.Laws.EntriesVeiled
import Derived.Deep.RegionHeld3
import Derived.Laws.CopyOwn
import Derived.Deep.Cut

namespace Go.Proofs.YthghblmffdfbaaaGreatDoor.Gp
open Go Go.RowKit Go.Proofs.YthghblmffdfbaaaGreatDoor Go.Proofs.YthghblmffdfbaaaGreatDoor.M Go.Proofs.YthghblmffdfbaaaGreatDoor.PFrBase Go.Proofs.YthghblmffdfbaaaGreatDoor.QFrBase Go.Proofs.YthghblmffdfbaaaGreatDoorW.PrintWords Go.Proofs.YthghblmffdfbaaaGreatDoorW.PrintLast Go.Proofs.YthghblmffdfbaaaGreatDoorW.PrintMore
attribute [local go_sem] max2_int min2_int max_two min_two
set_option linter.unusedVariables false
set_option linter.unusedSimpArgs false
set_option maxHeartbeats 8000000
set_option maxRecDepth 100000
theorem below_cell {B : Nat} {w w' : World} (h : Below B w w') : ∀ p : Addr, p.block < B → w'.cell? p = w.cell? p := fun p hp => by simp only [World.cell?, h.block _ hp]
theorem below_then {W w w1 : World} (h : Below W.heap.size W w) (hb : Below w.heap.size w w1) : Below W.heap.size W w1 := h.trans (hb.mono h.size)
theorem blk_new {w : World} {o : Obj} {g : Nat} (h : g = w.heap.size) : (w.alloc o).heap[g]? = some o := by subst h; exact heap_alloc_new w o
def putsAt (w : World) (g : Nat) : Nat → List Value → World
  | _, [] => w
  | j, v :: vs => putsAt (w.setCell ⟨g, j, none⟩ v) g (j + 1) vs
theorem puts_blk {g t : Nat} : ∀ (vs pre old : List Value) (w : World), w.heap[g]? = some (.cells (pre ++ old).toArray t (0, 0)) → old.length = vs.length → (putsAt w g pre.length vs).heap[g]? = some (.cells (pre ++ vs).toArray t (0, 0))
  | [], pre, old, w, h, hl => by obtain rfl := List.eq_nil_of_length_eq_zero hl; exact h
  | v :: vs, pre, [], w, h, hl => by simp at hl
  | v :: vs, pre, o :: old, w, h, hl => by
    have h1 : (w.setCell ⟨g, pre.length, none⟩ v).heap[g]? = some (.cells ((pre ++ [v]) ++ old).toArray t (0, 0)) := blk_put h pre.length v (by simp)
    have := puts_blk vs (pre ++ [v]) old _ h1 (by simpa using hl)
    simp only [List.length_append, List.length_singleton, List.append_assoc, List.singleton_append] at this
    exact this
theorem puts_all {w : World} {g t : Nat} {cs : Array Value} (h : w.heap[g]? = some (.cells cs t (0, 0))) (vs : List Value) (hl : cs.size = vs.length) : (putsAt w g 0 vs).heap[g]? = some (.cells vs.toArray t (0, 0)) :=
  puts_blk vs [] cs.toList w (by simpa using h) (by simpa using hl)
theorem puts_far {g k : Nat} (hk : k ≠ g) : ∀ (vs : List Value) (j : Nat) (w : World), (putsAt w g j vs).heap[k]? = w.heap[k]?
  | [], _, _ => rfl
  | v :: vs, j, w => (puts_far hk vs (j + 1) _).trans (Below.heap_setCell w _ v k hk)
theorem puts_size {g : Nat} : ∀ (vs : List Value) (j : Nat) (w : World), (putsAt w g j vs).heap.size = w.heap.size
  | [], _, _ => rfl
  | v :: vs, j, w => (puts_size vs (j + 1) _).trans (by simp [World.setCell])
theorem puts_below {B g : Nat} {a w : World} (h : Below B a w) (hg : B ≤ g) (j : Nat) (vs : List Value) : Below B a (putsAt w g j vs) := by
  induction vs generalizing j w with
  | nil => exact h
  | cons v vs ih => exact ih (h.setCell hg v) (j + 1)
theorem puts_blk_far {w : World} {g k : Nat} {o : Obj} (h : w.heap[k]? = some o) (hk : k ≠ g) (j : Nat) (vs : List Value) : (putsAt w g j vs).heap[k]? = some o := (puts_far hk vs j w).trans h
theorem R_puts {α : Type} {d : Kd α} {e base g : Nat} {ok : Nat → Prop} {w : World} {v : Value} {xs : List α} (h : d.R e w base ok v xs) (hok : ∀ k, ok k → k ≠ g) (j : Nat) (vs : List Value) : d.R e (putsAt w g j vs) base ok v xs :=
  Kd.R_step h (fun k ho _ => puts_far (hok k ho) vs j w)
theorem box1 {w : World} {g t : Nat} {a0 : Value} (h : w.heap[g]? = some (.cells #[a0] t (0, 0))) : w.cell? ⟨g, 0, none⟩ = some a0 ∧ w.frozen? ⟨g, 0, none⟩ = false := ⟨(blk_cell h 0).trans rfl, blk_frozen h 0⟩
theorem box3 {w : World} {g t : Nat} {a0 a1 a2 : Value} (h : w.heap[g]? = some (.cells #[a0, a1, a2] t (0, 0))) : w.cell? ⟨g, 0, none⟩ = some a0 ∧ w.cell? ⟨g, 1, none⟩ = some a1 ∧ w.cell? ⟨g, 2, none⟩ = some a2 ∧ w.frozen? ⟨g, 0, none⟩ = false ∧ w.frozen? ⟨g, 1, none⟩ = false ∧ w.frozen? ⟨g, 2, none⟩ = false := ⟨(blk_cell h 0).trans rfl, (blk_cell h 1).trans rfl, (blk_cell h 2).trans rfl, blk_frozen h 0, blk_frozen h 1, blk_frozen h 2⟩
theorem box4 {w : World} {g t : Nat} {a0 a1 a2 a3 : Value} (h : w.heap[g]? = some (.cells #[a0, a1, a2, a3] t (0, 0))) : w.cell? ⟨g, 0, none⟩ = some a0 ∧ w.cell? ⟨g, 1, none⟩ = some a1 ∧ w.cell? ⟨g, 2, none⟩ = some a2 ∧ w.cell? ⟨g, 3, none⟩ = some a3 ∧ w.frozen? ⟨g, 0, none⟩ = false ∧ w.frozen? ⟨g, 1, none⟩ = false ∧ w.frozen? ⟨g, 2, none⟩ = false ∧ w.frozen? ⟨g, 3, none⟩ = false := ⟨(blk_cell h 0).trans rfl, (blk_cell h 1).trans rfl, (blk_cell h 2).trans rfl, (blk_cell h 3).trans rfl, blk_frozen h 0, blk_frozen h 1, blk_frozen h 2, blk_frozen h 3⟩
theorem box5 {w : World} {g t : Nat} {a0 a1 a2 a3 a4 : Value} (h : w.heap[g]? = some (.cells #[a0, a1, a2, a3, a4] t (0, 0))) : w.cell? ⟨g, 0, none⟩ = some a0 ∧ w.cell? ⟨g, 1, none⟩ = some a1 ∧ w.cell? ⟨g, 2, none⟩ = some a2 ∧ w.cell? ⟨g, 3, none⟩ = some a3 ∧ w.cell? ⟨g, 4, none⟩ = some a4 ∧ w.frozen? ⟨g, 0, none⟩ = false ∧ w.frozen? ⟨g, 1, none⟩ = false ∧ w.frozen? ⟨g, 2, none⟩ = false ∧ w.frozen? ⟨g, 3, none⟩ = false ∧ w.frozen? ⟨g, 4, none⟩ = false := ⟨(blk_cell h 0).trans rfl, (blk_cell h 1).trans rfl, (blk_cell h 2).trans rfl, (blk_cell h 3).trans rfl, (blk_cell h 4).trans rfl, blk_frozen h 0, blk_frozen h 1, blk_frozen h 2, blk_frozen h 3, blk_frozen h 4⟩
theorem box8 {w : World} {g t : Nat} {a0 a1 a2 a3 a4 a5 a6 a7 : Value} (h : w.heap[g]? = some (.cells #[a0, a1, a2, a3, a4, a5, a6, a7] t (0, 0))) : w.cell? ⟨g, 0, none⟩ = some a0 ∧ w.cell? ⟨g, 1, none⟩ = some a1 ∧ w.cell? ⟨g, 2, none⟩ = some a2 ∧ w.cell? ⟨g, 3, none⟩ = some a3 ∧ w.cell? ⟨g, 4, none⟩ = some a4 ∧ w.cell? ⟨g, 5, none⟩ = some a5 ∧ w.cell? ⟨g, 6, none⟩ = some a6 ∧ w.cell? ⟨g, 7, none⟩ = some a7 ∧ w.frozen? ⟨g, 0, none⟩ = false ∧ w.frozen? ⟨g, 1, none⟩ = false ∧ w.frozen? ⟨g, 2, none⟩ = false ∧ w.frozen? ⟨g, 3, none⟩ = false ∧ w.frozen? ⟨g, 4, none⟩ = false ∧ w.frozen? ⟨g, 5, none⟩ = false ∧ w.frozen? ⟨g, 6, none⟩ = false ∧ w.frozen? ⟨g, 7, none⟩ = false := ⟨(blk_cell h 0).trans rfl, (blk_cell h 1).trans rfl, (blk_cell h 2).trans rfl, (blk_cell h 3).trans rfl, (blk_cell h 4).trans rfl, (blk_cell h 5).trans rfl, (blk_cell h 6).trans rfl, (blk_cell h 7).trans rfl, blk_frozen h 0, blk_frozen h 1, blk_frozen h 2, blk_frozen h 3, blk_frozen h 4, blk_frozen h 5, blk_frozen h 6, blk_frozen h 7⟩
theorem box10 {w : World} {g t : Nat} {a0 a1 a2 a3 a4 a5 a6 a7 a8 a9 : Value} (h : w.heap[g]? = some (.cells #[a0, a1, a2, a3, a4, a5, a6, a7, a8, a9] t (0, 0))) : w.cell? ⟨g, 0, none⟩ = some a0 ∧ w.cell? ⟨g, 1, none⟩ = some a1 ∧ w.cell? ⟨g, 2, none⟩ = some a2 ∧ w.cell? ⟨g, 3, none⟩ = some a3 ∧ w.cell? ⟨g, 4, none⟩ = some a4 ∧ w.cell? ⟨g, 5, none⟩ = some a5 ∧ w.cell? ⟨g, 6, none⟩ = some a6 ∧ w.cell? ⟨g, 7, none⟩ = some a7 ∧ w.cell? ⟨g, 8, none⟩ = some a8 ∧ w.cell? ⟨g, 9, none⟩ = some a9 ∧ w.frozen? ⟨g, 0, none⟩ = false ∧ w.frozen? ⟨g, 1, none⟩ = false ∧ w.frozen? ⟨g, 2, none⟩ = false ∧ w.frozen? ⟨g, 3, none⟩ = false ∧ w.frozen? ⟨g, 4, none⟩ = false ∧ w.frozen? ⟨g, 5, none⟩ = false ∧ w.frozen? ⟨g, 6, none⟩ = false ∧ w.frozen? ⟨g, 7, none⟩ = false ∧ w.frozen? ⟨g, 8, none⟩ = false ∧ w.frozen? ⟨g, 9, none⟩ = false := ⟨(blk_cell h 0).trans rfl, (blk_cell h 1).trans rfl, (blk_cell h 2).trans rfl, (blk_cell h 3).trans rfl, (blk_cell h 4).trans rfl, (blk_cell h 5).trans rfl, (blk_cell h 6).trans rfl, (blk_cell h 7).trans rfl, (blk_cell h 8).trans rfl, (blk_cell h 9).trans rfl, blk_frozen h 0, blk_frozen h 1, blk_frozen h 2, blk_frozen h 3, blk_frozen h 4, blk_frozen h 5, blk_frozen h 6, blk_frozen h 7, blk_frozen h 8, blk_frozen h 9⟩
structure DecG (W : World) (bm : Nat) : Prop where
  gl : 4 < W.heap.size
  var : W.cell? ⟨4, 0, none⟩ = some (.map (some bm))
  look0 : ∀ w, Below W.heap.size W w → (Instr.lookup 241 (.map (some bm)) (.int .i64 0) false).run Tryz.prog w = .ok (.func (.func 247) #[] #[]) w
  look1 : ∀ w, Below W.heap.size W w → (Instr.lookup 241 (.map (some bm)) (.int .i64 1) false).run Tryz.prog w = .ok (.func (.func 249) #[] #[]) w
  look2 : ∀ w, Below W.heap.size W w → (Instr.lookup 241 (.map (some bm)) (.int .i64 2) false).run Tryz.prog w = .ok (.func (.func 250) #[] #[]) w
  look3 : ∀ w, Below W.heap.size W w → (Instr.lookup 241 (.map (some bm)) (.int .i64 3) false).run Tryz.prog w = .ok (.func (.func 251) #[] #[]) w
theorem DecG.below {W w : World} {bm : Nat} (h : DecG W bm) (hb : Below W.heap.size W w) : DecG w bm where
  gl := Nat.lt_of_lt_of_le h.gl hb.size
  var := by rw [← h.var]; exact below_cell hb _ h.gl
  look0 := fun w' hw => h.look0 w' (below_then hb hw)
  look1 := fun w' hw => h.look1 w' (below_then hb hw)
  look2 := fun w' hw => h.look2 w' (below_then hb hw)
  look3 := fun w' hw => h.look3 w' (below_then hb hw)
def bitsT : List Int := [0, 1, 8, 16, 32, 64, 64, 0]
structure BitsG (W : World) : Prop where
  gl : 5 < W.heap.size
  cells : ∀ j : Nat, j < 8 → W.cell? ⟨5, j, none⟩ = some (.int .i64 (rd bitsT (j : Int)))
theorem BitsG.below {W w : World} (h : BitsG W) (hb : Below W.heap.size W w) : BitsG w where
  gl := Nat.lt_of_lt_of_le h.gl hb.size
  cells := fun j hj => by rw [← h.cells j hj]; exact below_cell hb _ h.gl
structure TopL (W : World) : Prop where
  dec : ∃ bm, DecG W bm
  bits : BitsG W
theorem TopL.below {W w : World} (h : TopL W) (hb : Below W.heap.size W w) : TopL w := ⟨h.dec.imp fun _ hd => hd.below hb, h.bits.below hb⟩
def decodeF (a0 : Int) : Option (Int × Int × Int × Int × Int × Int × Bool × Int × Int × Int) :=
  (word_Field.f a0 0 2).bind fun k =>
    if k = 0 then (pointer_decoders_1.f a0).bind fun p => some (0, p.2)
    else if k = 1 then (pointer_decoders_2.f a0).bind fun p => some (1, p.2)
    else if k = 2 then (pointer_decoders_3.f a0).bind fun p => some (2, p.2)
    else if k = 3 then (pointer_decoders_4.f a0).bind fun p => some (3, p.2)
    else none
theorem decode_0 {w : World} {bm : Nat} (hD : DecG w bm) (a0 r1 r2 r3 r4 r5 r6 : Int) (r7 : Bool) (r8 r9 r10 : Int) (hk : word_Field.f a0 0 2 = some 0) (hp : pointer_decoders_1.f a0 = some (r1, r2, r3, r4, r5, r6, r7, r8, r9, r10)) :
    Calls Tryz.prog 105 #[.int .u64 a0] w fun e w' => e = .returned (.agg #[.int .i64 0, .int .i64 r2, .int .i64 r3, .int .i64 r4, .int .i64 r5, .int .i64 r6, .bool r7, .int .i64 r8, .int .u32 r9, .int .u32 r10]) ∧ Below w.heap.size w w' := by
  have HK := Aside0.mk hk
  have HP := Aside0.mk hp
  have HD := Aside0.mk hD
  have HB1 := below_alloc (Below.refl w.heap.size w) (.cells #[.int .i64 0, .int .i64 0, .int .i64 0, .int .i64 0, .int .i64 0, .int .i64 0, .bool false, .int .i64 0, .int .u32 0, .int .u32 0] 185 (0, 0))
  have HQ := blk_new (w := w) (o := .cells #[.int .i64 0, .int .i64 0, .int .i64 0, .int .i64 0, .int .i64 0, .int .i64 0, .bool false, .int .i64 0, .int .u32 0, .int .u32 0] 185 (0, 0)) (g := w.heap.size) rfl
  clear hk hp hD
  go_enter Tryz.func105, Tryz.ntmps105
  go_upto_region 4 with (first
    | (go_at_call 149; refine (word_Field.calls a0 0 2 0 _ HK.out).mono ?_; rintro e w1 ⟨rfl, hd1⟩; have hb1 := hd1.below; clear hd1; have HB2 : Below w.heap.size w w1 := below_then HB1 hb1; have HQ2 := blk_below HQ hb1; have hv := (HD.out.below HB2).var; have hl := (HD.out.below HB2).look0 w1 (Below.refl _ _))
    | (go_at_call 247; (refine (pointer_decoders_1.calls a0 r1 r2 r3 r4 r5 r6 r7 r8 r9 r10 _ HP.out).mono ?_; rintro e w2 ⟨rfl, hb2⟩; clear hv hl; have HB3 : Below w.heap.size w w2 := below_then HB2 hb2; have HQ3 := blk_below HQ2 hb2)))
  have HQ4 := blk_alloc HQ3 (.cells #[.int .i64 0, .int .i64 r2, .int .i64 r3, .int .i64 r4, .int .i64 r5, .int .i64 r6, .bool r7, .int .i64 r8, .int .u32 r9, .int .u32 r10] 185 (0, 0))
  have HB4 := below_alloc HB3 (.cells #[.int .i64 0, .int .i64 r2, .int .i64 r3, .int .i64 r4, .int .i64 r5, .int .i64 r6, .bool r7, .int .i64 r8, .int .u32 r9, .int .u32 r10] 185 (0, 0))
  have HP4 := blk_new (w := w2) (o := .cells #[.int .i64 0, .int .i64 r2, .int .i64 r3, .int .i64 r4, .int .i64 r5, .int .i64 r6, .bool r7, .int .i64 r8, .int .u32 r9, .int .u32 r10] 185 (0, 0)) (g := w2.heap.size) rfl
  have hlt := blk_lt HQ3
  generalize hw3 : w2.alloc (.cells #[.int .i64 0, .int .i64 r2, .int .i64 r3, .int .i64 r4, .int .i64 r5, .int .i64 r6, .bool r7, .int .i64 r8, .int .u32 r9, .int .u32 r10] 185 (0, 0)) = w3 at *
  have hne : w.heap.size ≠ w2.heap.size := by omega
  generalize hg2 : w2.heap.size = g2 at *
  clear hlt hw3 hg2 HB1 HB2 HB3 HQ HQ2 HQ3
  obtain ⟨c0, c1, c2, c3, c4, c5, c6, c7, c8, c9, f0, f1, f2, f3, f4, f5, f6, f7, f8, f9⟩ := box10 HQ4
  obtain ⟨d0, d1, d2, d3, d4, d5, d6, d7, d8, d9, e0, e1, e2, e3, e4, e5, e6, e7, e8, e9⟩ := box10 HP4
  go_wp2
  refine bodyPost_ret (results_cell_row rfl _ _ w.heap.size 185 _ (0, 0) _ rfl (puts_all HQ4 [.int .i64 0, .int .i64 r2, .int .i64 r3, .int .i64 r4, .int .i64 r5, .int .i64 r6, .bool r7, .int .i64 r8, .int .u32 r9, .int .u32 r10] rfl) Tryz.underlying185 rfl (by kernel_rfl)) rfl ?_
  exact ⟨rfl, puts_below HB4 (Nat.le_refl _) 0 [.int .i64 0, .int .i64 r2, .int .i64 r3, .int .i64 r4, .int .i64 r5, .int .i64 r6, .bool r7, .int .i64 r8, .int .u32 r9, .int .u32 r10]⟩
theorem decode_1 {w : World} {bm : Nat} (hD : DecG w bm) (a0 r1 r2 r3 r4 r5 r6 : Int) (r7 : Bool) (r8 r9 r10 : Int) (hk : word_Field.f a0 0 2 = some 1) (hp : pointer_decoders_2.f a0 = some (r1, r2, r3, r4, r5, r6, r7, r8, r9, r10)) :
    Calls Tryz.prog 105 #[.int .u64 a0] w fun e w' => e = .returned (.agg #[.int .i64 1, .int .i64 r2, .int .i64 r3, .int .i64 r4, .int .i64 r5, .int .i64 r6, .bool r7, .int .i64 r8, .int .u32 r9, .int .u32 r10]) ∧ Below w.heap.size w w' := by
  have HK := Aside0.mk hk
  have HP := Aside0.mk hp
  have HD := Aside0.mk hD
  have HB1 := below_alloc (Below.refl w.heap.size w) (.cells #[.int .i64 0, .int .i64 0, .int .i64 0, .int .i64 0, .int .i64 0, .int .i64 0, .bool false, .int .i64 0, .int .u32 0, .int .u32 0] 185 (0, 0))
  have HQ := blk_new (w := w) (o := .cells #[.int .i64 0, .int .i64 0, .int .i64 0, .int .i64 0, .int .i64 0, .int .i64 0, .bool false, .int .i64 0, .int .u32 0, .int .u32 0] 185 (0, 0)) (g := w.heap.size) rfl
  clear hk hp hD
  go_enter Tryz.func105, Tryz.ntmps105
  go_upto_region 4 with (first
    | (go_at_call 149; refine (word_Field.calls a0 0 2 1 _ HK.out).mono ?_; rintro e w1 ⟨rfl, hd1⟩; have hb1 := hd1.below; clear hd1; have HB2 : Below w.heap.size w w1 := below_then HB1 hb1; have HQ2 := blk_below HQ hb1; have hv := (HD.out.below HB2).var; have hl := (HD.out.below HB2).look1 w1 (Below.refl _ _))
    | (go_at_call 249; (refine (pointer_decoders_2.calls a0 r1 r2 r3 r4 r5 r6 r7 r8 r9 r10 _ HP.out).mono ?_; rintro e w2 ⟨rfl, hb2⟩; clear hv hl; have HB3 : Below w.heap.size w w2 := below_then HB2 hb2; have HQ3 := blk_below HQ2 hb2)))
  have HQ4 := blk_alloc HQ3 (.cells #[.int .i64 1, .int .i64 r2, .int .i64 r3, .int .i64 r4, .int .i64 r5, .int .i64 r6, .bool r7, .int .i64 r8, .int .u32 r9, .int .u32 r10] 185 (0, 0))
  have HB4 := below_alloc HB3 (.cells #[.int .i64 1, .int .i64 r2, .int .i64 r3, .int .i64 r4, .int .i64 r5, .int .i64 r6, .bool r7, .int .i64 r8, .int .u32 r9, .int .u32 r10] 185 (0, 0))
  have HP4 := blk_new (w := w2) (o := .cells #[.int .i64 1, .int .i64 r2, .int .i64 r3, .int .i64 r4, .int .i64 r5, .int .i64 r6, .bool r7, .int .i64 r8, .int .u32 r9, .int .u32 r10] 185 (0, 0)) (g := w2.heap.size) rfl
  have hlt := blk_lt HQ3
  generalize hw3 : w2.alloc (.cells #[.int .i64 1, .int .i64 r2, .int .i64 r3, .int .i64 r4, .int .i64 r5, .int .i64 r6, .bool r7, .int .i64 r8, .int .u32 r9, .int .u32 r10] 185 (0, 0)) = w3 at *
  have hne : w.heap.size ≠ w2.heap.size := by omega
  generalize hg2 : w2.heap.size = g2 at *
  clear hlt hw3 hg2 HB1 HB2 HB3 HQ HQ2 HQ3
  obtain ⟨c0, c1, c2, c3, c4, c5, c6, c7, c8, c9, f0, f1, f2, f3, f4, f5, f6, f7, f8, f9⟩ := box10 HQ4
  obtain ⟨d0, d1, d2, d3, d4, d5, d6, d7, d8, d9, e0, e1, e2, e3, e4, e5, e6, e7, e8, e9⟩ := box10 HP4
  go_wp2
  refine bodyPost_ret (results_cell_row rfl _ _ w.heap.size 185 _ (0, 0) _ rfl (puts_all HQ4 [.int .i64 1, .int .i64 r2, .int .i64 r3, .int .i64 r4, .int .i64 r5, .int .i64 r6, .bool r7, .int .i64 r8, .int .u32 r9, .int .u32 r10] rfl) Tryz.underlying185 rfl (by kernel_rfl)) rfl ?_
  exact ⟨rfl, puts_below HB4 (Nat.le_refl _) 0 [.int .i64 1, .int .i64 r2, .int .i64 r3, .int .i64 r4, .int .i64 r5, .int .i64 r6, .bool r7, .int .i64 r8, .int .u32 r9, .int .u32 r10]⟩
theorem decode_2 {w : World} {bm : Nat} (hD : DecG w bm) (a0 r1 r2 r3 r4 r5 r6 : Int) (r7 : Bool) (r8 r9 r10 : Int) (hk : word_Field.f a0 0 2 = some 2) (hp : pointer_decoders_3.f a0 = some (r1, r2, r3, r4, r5, r6, r7, r8, r9, r10)) :
    Calls Tryz.prog 105 #[.int .u64 a0] w fun e w' => e = .returned (.agg #[.int .i64 2, .int .i64 r2, .int .i64 r3, .int .i64 r4, .int .i64 r5, .int .i64 r6, .bool r7, .int .i64 r8, .int .u32 r9, .int .u32 r10]) ∧ Below w.heap.size w w' := by
  have HK := Aside0.mk hk
  have HP := Aside0.mk hp
  have HD := Aside0.mk hD
  have HB1 := below_alloc (Below.refl w.heap.size w) (.cells #[.int .i64 0, .int .i64 0, .int .i64 0, .int .i64 0, .int .i64 0, .int .i64 0, .bool false, .int .i64 0, .int .u32 0, .int .u32 0] 185 (0, 0))
  have HQ := blk_new (w := w) (o := .cells #[.int .i64 0, .int .i64 0, .int .i64 0, .int .i64 0, .int .i64 0, .int .i64 0, .bool false, .int .i64 0, .int .u32 0, .int .u32 0] 185 (0, 0)) (g := w.heap.size) rfl
  clear hk hp hD
  go_enter Tryz.func105, Tryz.ntmps105
  go_upto_region 4 with (first
    | (go_at_call 149; refine (word_Field.calls a0 0 2 2 _ HK.out).mono ?_; rintro e w1 ⟨rfl, hd1⟩; have hb1 := hd1.below; clear hd1; have HB2 : Below w.heap.size w w1 := below_then HB1 hb1; have HQ2 := blk_below HQ hb1; have hv := (HD.out.below HB2).var; have hl := (HD.out.below HB2).look2 w1 (Below.refl _ _))
    | (go_at_call 250; (refine (pointer_decoders_3.calls a0 r1 r2 r3 r4 r5 r6 r7 r8 r9 r10 _ HP.out).mono ?_; rintro e w2 ⟨rfl, hb2⟩; clear hv hl; have HB3 : Below w.heap.size w w2 := below_then HB2 hb2; have HQ3 := blk_below HQ2 hb2)))
  have HQ4 := blk_alloc HQ3 (.cells #[.int .i64 2, .int .i64 r2, .int .i64 r3, .int .i64 r4, .int .i64 r5, .int .i64 r6, .bool r7, .int .i64 r8, .int .u32 r9, .int .u32 r10] 185 (0, 0))
  have HB4 := below_alloc HB3 (.cells #[.int .i64 2, .int .i64 r2, .int .i64 r3, .int .i64 r4, .int .i64 r5, .int .i64 r6, .bool r7, .int .i64 r8, .int .u32 r9, .int .u32 r10] 185 (0, 0))
  have HP4 := blk_new (w := w2) (o := .cells #[.int .i64 2, .int .i64 r2, .int .i64 r3, .int .i64 r4, .int .i64 r5, .int .i64 r6, .bool r7, .int .i64 r8, .int .u32 r9, .int .u32 r10] 185 (0, 0)) (g := w2.heap.size) rfl
  have hlt := blk_lt HQ3
  generalize hw3 : w2.alloc (.cells #[.int .i64 2, .int .i64 r2, .int .i64 r3, .int .i64 r4, .int .i64 r5, .int .i64 r6, .bool r7, .int .i64 r8, .int .u32 r9, .int .u32 r10] 185 (0, 0)) = w3 at *
  have hne : w.heap.size ≠ w2.heap.size := by omega
  generalize hg2 : w2.heap.size = g2 at *
  clear hlt hw3 hg2 HB1 HB2 HB3 HQ HQ2 HQ3
  obtain ⟨c0, c1, c2, c3, c4, c5, c6, c7, c8, c9, f0, f1, f2, f3, f4, f5, f6, f7, f8, f9⟩ := box10 HQ4
  obtain ⟨d0, d1, d2, d3, d4, d5, d6, d7, d8, d9, e0, e1, e2, e3, e4, e5, e6, e7, e8, e9⟩ := box10 HP4
  go_wp2
  refine bodyPost_ret (results_cell_row rfl _ _ w.heap.size 185 _ (0, 0) _ rfl (puts_all HQ4 [.int .i64 2, .int .i64 r2, .int .i64 r3, .int .i64 r4, .int .i64 r5, .int .i64 r6, .bool r7, .int .i64 r8, .int .u32 r9, .int .u32 r10] rfl) Tryz.underlying185 rfl (by kernel_rfl)) rfl ?_
  exact ⟨rfl, puts_below HB4 (Nat.le_refl _) 0 [.int .i64 2, .int .i64 r2, .int .i64 r3, .int .i64 r4, .int .i64 r5, .int .i64 r6, .bool r7, .int .i64 r8, .int .u32 r9, .int .u32 r10]⟩
theorem decode_3 {w : World} {bm : Nat} (hD : DecG w bm) (a0 r1 r2 r3 r4 r5 r6 : Int) (r7 : Bool) (r8 r9 r10 : Int) (hk : word_Field.f a0 0 2 = some 3) (hp : pointer_decoders_4.f a0 = some (r1, r2, r3, r4, r5, r6, r7, r8, r9, r10)) :
    Calls Tryz.prog 105 #[.int .u64 a0] w fun e w' => e = .returned (.agg #[.int .i64 3, .int .i64 r2, .int .i64 r3, .int .i64 r4, .int .i64 r5, .int .i64 r6, .bool r7, .int .i64 r8, .int .u32 r9, .int .u32 r10]) ∧ Below w.heap.size w w' := by
  have HK := Aside0.mk hk
  have HP := Aside0.mk hp
  have HD := Aside0.mk hD
  have HB1 := below_alloc (Below.refl w.heap.size w) (.cells #[.int .i64 0, .int .i64 0, .int .i64 0, .int .i64 0, .int .i64 0, .int .i64 0, .bool false, .int .i64 0, .int .u32 0, .int .u32 0] 185 (0, 0))
  have HQ := blk_new (w := w) (o := .cells #[.int .i64 0, .int .i64 0, .int .i64 0, .int .i64 0, .int .i64 0, .int .i64 0, .bool false, .int .i64 0, .int .u32 0, .int .u32 0] 185 (0, 0)) (g := w.heap.size) rfl
  clear hk hp hD
  go_enter Tryz.func105, Tryz.ntmps105
  go_upto_region 4 with (first
    | (go_at_call 149; refine (word_Field.calls a0 0 2 3 _ HK.out).mono ?_; rintro e w1 ⟨rfl, hd1⟩; have hb1 := hd1.below; clear hd1; have HB2 : Below w.heap.size w w1 := below_then HB1 hb1; have HQ2 := blk_below HQ hb1; have hv := (HD.out.below HB2).var; have hl := (HD.out.below HB2).look3 w1 (Below.refl _ _))
    | (go_at_call 251; (refine (pointer_decoders_4.calls a0 r1 r2 r3 r4 r5 r6 r7 r8 r9 r10 _ HP.out).mono ?_; rintro e w2 ⟨rfl, hb2⟩; clear hv hl; have HB3 : Below w.heap.size w w2 := below_then HB2 hb2; have HQ3 := blk_below HQ2 hb2)))
  have HQ4 := blk_alloc HQ3 (.cells #[.int .i64 3, .int .i64 r2, .int .i64 r3, .int .i64 r4, .int .i64 r5, .int .i64 r6, .bool r7, .int .i64 r8, .int .u32 r9, .int .u32 r10] 185 (0, 0))
  have HB4 := below_alloc HB3 (.cells #[.int .i64 3, .int .i64 r2, .int .i64 r3, .int .i64 r4, .int .i64 r5, .int .i64 r6, .bool r7, .int .i64 r8, .int .u32 r9, .int .u32 r10] 185 (0, 0))
  have HP4 := blk_new (w := w2) (o := .cells #[.int .i64 3, .int .i64 r2, .int .i64 r3, .int .i64 r4, .int .i64 r5, .int .i64 r6, .bool r7, .int .i64 r8, .int .u32 r9, .int .u32 r10] 185 (0, 0)) (g := w2.heap.size) rfl
  have hlt := blk_lt HQ3
  generalize hw3 : w2.alloc (.cells #[.int .i64 3, .int .i64 r2, .int .i64 r3, .int .i64 r4, .int .i64 r5, .int .i64 r6, .bool r7, .int .i64 r8, .int .u32 r9, .int .u32 r10] 185 (0, 0)) = w3 at *
  have hne : w.heap.size ≠ w2.heap.size := by omega
  generalize hg2 : w2.heap.size = g2 at *
  clear hlt hw3 hg2 HB1 HB2 HB3 HQ HQ2 HQ3
  obtain ⟨c0, c1, c2, c3, c4, c5, c6, c7, c8, c9, f0, f1, f2, f3, f4, f5, f6, f7, f8, f9⟩ := box10 HQ4
  obtain ⟨d0, d1, d2, d3, d4, d5, d6, d7, d8, d9, e0, e1, e2, e3, e4, e5, e6, e7, e8, e9⟩ := box10 HP4
  go_wp2
  refine bodyPost_ret (results_cell_row rfl _ _ w.heap.size 185 _ (0, 0) _ rfl (puts_all HQ4 [.int .i64 3, .int .i64 r2, .int .i64 r3, .int .i64 r4, .int .i64 r5, .int .i64 r6, .bool r7, .int .i64 r8, .int .u32 r9, .int .u32 r10] rfl) Tryz.underlying185 rfl (by kernel_rfl)) rfl ?_
  exact ⟨rfl, puts_below HB4 (Nat.le_refl _) 0 [.int .i64 3, .int .i64 r2, .int .i64 r3, .int .i64 r4, .int .i64 r5, .int .i64 r6, .bool r7, .int .i64 r8, .int .u32 r9, .int .u32 r10]⟩
end Go.Proofs.YthghblmffdfbaaaGreatDoor.Gp

/- The top: pointer.Decode, listsize.Words, listsize.Bytes by one contract each. -/
namespace Go.Proofs.YthghblmffdfbaaaGreatDoor.Gp
open Go Go.RowKit Go.Proofs.YthghblmffdfbaaaGreatDoor Go.Proofs.YthghblmffdfbaaaGreatDoor.M Go.Proofs.YthghblmffdfbaaaGreatDoor.PFrBase Go.Proofs.YthghblmffdfbaaaGreatDoor.QFrBase Go.Proofs.YthghblmffdfbaaaGreatDoorW.PrintWords Go.Proofs.YthghblmffdfbaaaGreatDoorW.PrintLast Go.Proofs.YthghblmffdfbaaaGreatDoorW.PrintMore
attribute [local go_sem] max2_int min2_int max_two min_two
set_option linter.unusedVariables false
set_option linter.unusedSimpArgs false
set_option maxHeartbeats 8000000
set_option maxRecDepth 100000
theorem decode_calls {w : World} (a0 r1 r2 r3 r4 r5 r6 : Int) (r7 : Bool) (r8 r9 r10 : Int) (h : decodeF a0 = some (r1, r2, r3, r4, r5, r6, r7, r8, r9, r10)) (hL : TopL w) :
    Calls Tryz.prog 105 #[.int .u64 a0] w fun e w' => e = .returned (.agg #[.int .i64 r1, .int .i64 r2, .int .i64 r3, .int .i64 r4, .int .i64 r5, .int .i64 r6, .bool r7, .int .i64 r8, .int .u32 r9, .int .u32 r10]) ∧ Below w.heap.size w w' := by
  obtain ⟨bm, hD⟩ := hL.dec
  unfold decodeF at h
  obtain ⟨k, hk, h⟩ := Option.bind_eq_some_iff.mp h
  by_cases k0 : k = 0
  · subst k0
    rw [if_pos rfl] at h
    obtain ⟨⟨p1, p2, p3, p4, p5, p6, p7, p8, p9, p10⟩, hp, h⟩ := Option.bind_eq_some_iff.mp h
    simp only [Option.some.injEq, Prod.mk.injEq] at h
    obtain ⟨rfl, rfl, rfl, rfl, rfl, rfl, rfl, rfl, rfl, rfl⟩ := h
    exact decode_0 hD a0 _ _ _ _ _ _ _ _ _ _ hk hp
  rw [if_neg k0] at h
  by_cases k1 : k = 1
  · subst k1
    rw [if_pos rfl] at h
    obtain ⟨⟨p1, p2, p3, p4, p5, p6, p7, p8, p9, p10⟩, hp, h⟩ := Option.bind_eq_some_iff.mp h
    simp only [Option.some.injEq, Prod.mk.injEq] at h
    obtain ⟨rfl, rfl, rfl, rfl, rfl, rfl, rfl, rfl, rfl, rfl⟩ := h
    exact decode_1 hD a0 _ _ _ _ _ _ _ _ _ _ hk hp
  rw [if_neg k1] at h
  by_cases k2 : k = 2
  · subst k2
    rw [if_pos rfl] at h
    obtain ⟨⟨p1, p2, p3, p4, p5, p6, p7, p8, p9, p10⟩, hp, h⟩ := Option.bind_eq_some_iff.mp h
    simp only [Option.some.injEq, Prod.mk.injEq] at h
    obtain ⟨rfl, rfl, rfl, rfl, rfl, rfl, rfl, rfl, rfl, rfl⟩ := h
    exact decode_2 hD a0 _ _ _ _ _ _ _ _ _ _ hk hp
  rw [if_neg k2] at h
  by_cases k3 : k = 3
  · subst k3
    rw [if_pos rfl] at h
    obtain ⟨⟨p1, p2, p3, p4, p5, p6, p7, p8, p9, p10⟩, hp, h⟩ := Option.bind_eq_some_iff.mp h
    simp only [Option.some.injEq, Prod.mk.injEq] at h
    obtain ⟨rfl, rfl, rfl, rfl, rfl, rfl, rfl, rfl, rfl, rfl⟩ := h
    exact decode_3 hD a0 _ _ _ _ _ _ _ _ _ _ hk hp
  rw [if_neg k3] at h
  cases h
theorem fldP0 (v0 v1 v2 v3 v4 v5 v6 v7 v8 v9 : Value) (w : World) : (Instr.field 185 (.agg #[v0, v1, v2, v3, v4, v5, v6, v7, v8, v9]) 0).run Tryz.prog w = .ok v0 w := by kernel_rfl
theorem fldP6 (v0 v1 v2 v3 v4 v5 v6 v7 v8 v9 : Value) (w : World) : (Instr.field 185 (.agg #[v0, v1, v2, v3, v4, v5, v6, v7, v8, v9]) 6).run Tryz.prog w = .ok v6 w := by kernel_rfl
end Go.Proofs.YthghblmffdfbaaaGreatDoor.Gp

/- The top: arena.Slice at every input. -/
namespace Go.Proofs.YthghblmffdfbaaaGreatDoor.Gp
open Go Go.RowKit Go.Proofs.YthghblmffdfbaaaGreatDoor Go.Proofs.YthghblmffdfbaaaGreatDoor.M Go.Proofs.YthghblmffdfbaaaGreatDoor.PFrBase Go.Proofs.YthghblmffdfbaaaGreatDoor.QFrBase Go.Proofs.YthghblmffdfbaaaGreatDoorW.PrintWords Go.Proofs.YthghblmffdfbaaaGreatDoorW.PrintLast Go.Proofs.YthghblmffdfbaaaGreatDoorW.PrintMore
attribute [local go_sem] max2_int min2_int max_two min_two
set_option linter.unusedVariables false
set_option linter.unusedSimpArgs false
set_option maxHeartbeats 8000000
set_option maxRecDepth 100000
theorem C8_cells {w : World} {A : Option Addr} {l : List Int} {n : Nat} (h : Kd.C (Kd.int .u8) w A n l) (hp : 0 < l.length) : ∃ ad, A = some ad ∧ ∀ j v, (l.map (Value.int .u8))[j]? = some v → w.cell? (ad.add j) = some v := by
  obtain ⟨hn, _, h3⟩ := h
  obtain ⟨ad, ha, hr⟩ := h3 (by omega)
  refine ⟨ad, ha, fun j v hj => ?_⟩
  rw [List.getElem?_map] at hj
  cases hl : l[j]? with
  | none => rw [hl] at hj; simp at hj
  | some x =>
    rw [hl] at hj
    simp only [Option.map_some, Option.some.injEq] at hj
    obtain ⟨c, c1, c2, c3⟩ := hr j x hl
    have hs : (Kd.int .u8).sz = 1 := rfl
    have c2' : c = [.int .u8 x] := c2
    have := c3 0 (.int .u8 x) (by rw [c2']; rfl)
    rw [hs, Nat.mul_one, Nat.add_zero] at this
    rw [this, hj]
theorem own_block8 {w : World} {g B : Nat} {l : List Int} (hg : w.heap[g]? = some (.cells ((l.map (Value.int .u8)).toArray) 5 (0, 0))) (hb : B ≤ g) (hm : l.length ≤ maxLen) (ok : Nat → Prop) (hok : ok g) : Kd.R (Kd.int .u8) 5 w B ok (.slice (some ⟨g, 0, none⟩) l.length l.length) l :=
  Kd.R_of_own (h1 := fun _ => rfl) ⟨by simp [encs], Or.inr ⟨g, l.length, _, rfl, hb, hg, Nat.le_refl _, hm, by simp, by simp [encs, List.take_of_length_le]⟩⟩ (fun k hk => by simp [Value.ownBlock] at hk; rw [← hk]; exact hok)
end Go.Proofs.YthghblmffdfbaaaGreatDoor.Gp
