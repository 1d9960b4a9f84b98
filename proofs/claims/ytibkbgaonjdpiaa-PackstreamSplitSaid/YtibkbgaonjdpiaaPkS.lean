/- Package packstream, walked by hand: clone, open. -/
import Derived.Test.YtibkbgaonjdpiaaQPaBaseS
import Derived.Test.YtibkbgaonjdpiaaPstS
import Derived.Deep.RegionWith
import Derived.Deep.RegionLaw
import Derived.RegionCalls
import Derived.WalkMore
import Derived.Laws.CopyOwn
namespace Go.Proofs.Ytibkbgaonjdpiaa.Ps
open Go Go.RowKit Go.Proofs.Ytibkbgaonjdpiaa Go.Proofs.Ytibkbgaonjdpiaa.M Go.Proofs.Ytibkbgaonjdpiaa.PPaBase Go.Proofs.Ytibkbgaonjdpiaa.QPaBase Go.Proofs.YtibkbgaonjdpiaaW.PrintWords Go.Proofs.YtibkbgaonjdpiaaW.PrintLast Go.Proofs.YtibkbgaonjdpiaaW.PrintMore
set_option linter.unusedVariables false
set_option linter.unusedSimpArgs false
set_option maxHeartbeats 1000000
set_option maxRecDepth 100000
theorem C_cells {w : World} {A : Option Addr} {l : List Int} (h : Kd.C (Kd.int .u8) w A l.length l) (hp : 0 < l.length) : ∃ ad, A = some ad ∧ ∀ j v, (l.map (Value.int .u8))[j]? = some v → w.cell? (ad.add j) = some v := by
  obtain ⟨_, _, h3⟩ := h
  obtain ⟨ad, ha, hr⟩ := h3 hp
  refine ⟨ad, ha, fun j v hj => ?_⟩
  rw [List.getElem?_map] at hj
  cases hl : l[j]? with
  | none => rw [hl] at hj; simp at hj
  | some x =>
    rw [hl] at hj
    simp only [Option.map_some, Option.some.injEq] at hj
    obtain ⟨c, c1, c2, c3⟩ := hr j x hl
    have hs : (Kd.int .u8).sz = 1 := rfl
    have c2' : c = [.int .u8 x] := c2
    have := c3 0 (.int .u8 x) (by rw [c2']; rfl)
    rw [hs, Nat.mul_one, Nat.add_zero] at this
    rw [this, hj]
theorem own_block {w : World} {g B : Nat} {l : List Int} (hg : w.heap[g]? = some (.cells ((l.map (Value.int .u8)).toArray) 5 (0, 0))) (hb : B ≤ g) (hm : l.length ≤ maxLen) (ok : Nat → Prop) (hok : ok g) : Kd.R (Kd.int .u8) 5 w B ok (.slice (some ⟨g, 0, none⟩) l.length l.length) l :=
  Kd.R_of_own (h1 := fun _ => rfl) ⟨by simp [encs], Or.inr ⟨g, l.length, _, rfl, hb, hg, Nat.le_refl _, hm, by simp, by simp [encs, List.take_of_length_le]⟩⟩ (fun k hk => by simp [Value.ownBlock] at hk; rw [← hk]; exact hok)
theorem clone_calls {w : World} {A : Option Addr} {c : Nat} {l : List Int} (hin : Kd.C (Kd.int .u8) w A l.length l) (hc : l.length ≤ c) (hl : l.length ≤ 1000000000) :
    Calls Try.prog 21 #[.slice A l.length c] w fun e w' => ∃ v0_ : Value, e = .returned v0_ ∧ Kd.R (Kd.int .u8) 5 w' w.heap.size (fun _ => True) v0_ l ∧ Below w.heap.size w w' := by
  obtain ⟨i0, hi0, hz0, hsz, hby⟩ := info_parts info5
  have hmk := run_make (P := Try.prog) (w := w) 22 5 i0 (.int .u8 0) Try.underlying22 hi0 hz0 .i64 .i64 (l.length : Int) (l.length : Int) (by omega) (Int.le_refl _) (by rw [hby]; omega) (by omega)
  simp only [Int.toNat_natCast, hsz, Nat.mul_one] at hmk
  obtain ⟨M, hM⟩ : ∃ M, M = madeCells (Value.int .u8 0).cells l.length := ⟨_, rfl⟩
  have hMs : M.size = l.length := by rw [hM]; exact size_madeCells _ _
  rw [← hM] at hmk
  have HIN := Aside0.mk (Kd.C_alloc hin (.cells M 5))
  have HL := Aside0.mk hl
  have HMS := Aside0.mk hMs
  have HMH := Aside0.mk (show (w.alloc (.cells M 5)).heap[w.heap.size]? = some (.cells M.toList.toArray 5 (0, 0)) by rw [Array.toArray_toList]; exact blk_new w _)
  have HB := Aside0.mk (below_alloc (Below.refl w.heap.size w) (.cells M 5))
  have HSZ := Aside0.mk (show (Try.prog.info? 5).map (·.size) = some 1 by rw [hi0]; simp [hsz])
  clear hin hc hl hM hMs hi0 hz0 hsz hby
  go_enter Try.func21, Try.ntmps21
  go_wp2_with (first
    | (go_loud (refine wpList_copy_splice rfl (.tmp 7) (.tmp 8) 22 22 rfl 5 Try.underlying22 HSZ.out (some ⟨w.heap.size, 0, none⟩) A l.length l.length l.length c rfl rfl w.heap.size 0 M.toList 5 HMH.out (l.map (Value.int .u8)) (by simp) (fun hp => ⟨rfl, C_cells HIN.out (by simpa using hp)⟩) (by simp [HMS.out]) (by simp [Value.oneCell']) w.heap.size w HB.out (Nat.le_refl _) ?_); intro w2 hg2 hb2; have HG2 := Aside0.mk hg2; have HB2 := Aside0.mk hb2; clear hg2 hb2))
  go_ret
  refine ⟨_, rfl, own_block ?_ (Nat.le_refl _) (by have := HL.out; unfold maxLen; omega) _ trivial, HB2.out⟩
  have hg := HG2.out
  unfold Hid at hg
  rw [hg]
  congr 2
  simp [splice, HMS.out, List.take_of_length_le]
end Go.Proofs.Ytibkbgaonjdpiaa.Ps
