/- Package packstream, walked by hand: the writer's methods. -/
import Derived.Test.YtibkbgaonjdpiaaPk2S
namespace Go.Proofs.Ytibkbgaonjdpiaa.Ps
open Go Go.RowKit Go.Proofs.Ytibkbgaonjdpiaa Go.Proofs.Ytibkbgaonjdpiaa.M Go.Proofs.Ytibkbgaonjdpiaa.PPaBase Go.Proofs.Ytibkbgaonjdpiaa.QPaBase Go.Proofs.YtibkbgaonjdpiaaW.PrintWords Go.Proofs.YtibkbgaonjdpiaaW.PrintLast Go.Proofs.YtibkbgaonjdpiaaW.PrintMore
set_option linter.unusedVariables false
set_option linter.unusedSimpArgs false
set_option maxHeartbeats 1000000
set_option maxRecDepth 100000
structure Wr (W0 w : World) (g : Nat) (S : Nat → Prop) (ob : Nat → Obj) (vP : Value) (z : Int) (r o : List Int) : Prop where
  ex : ∃ vR vO : Value, w.heap[g]? = some (.cells #[vP, .int .i64 z, vR, vO] 52 (0, 0)) ∧ Kd.R (Kd.int .u8) 5 w W0.heap.size (fun k => (k ≠ g ∧ ¬ S k) ∧ some k ≠ vO.ownBlock) vR r ∧ Kd.R (Kd.int .u8) 5 w W0.heap.size (fun k => (k ≠ g ∧ ¬ S k) ∧ some k ≠ vR.ownBlock) vO o
  bel : Below W0.heap.size W0 w
  hg : W0.heap.size ≤ g
  kb : ∀ b, S b → w.heap[b]? = some (ob b)
  bg : ¬ S g
def SameB (g : Nat) (w w' : World) : Prop := ∀ k, k ≠ g → w'.heap[k]? = w.heap[k]?
theorem SameB.refl (g : Nat) (w : World) : SameB g w w := fun _ _ => rfl
theorem SameB.drew {g : Nat} {w w' : World} (h : SameB g w w') : SameB g w w'.drew := h
theorem SameB.drewN {g : Nat} {w w' : World} (h : SameB g w w') (n : Nat) : SameB g w (w'.drewN n) := h
theorem SameB.set {g j : Nat} {w w' : World} {v : Value} (h : SameB g w w') : SameB g w (w'.setCell ⟨g, j, none⟩ v) := fun k hk => (Below.heap_setCell w' ⟨g, j, none⟩ v k hk).trans (h k hk)
theorem Wr.of {W0 w w' : World} {g : Nat} {S : Nat → Prop} {ob : Nat → Obj} {vP : Value} {z : Int} {r o : List Int} {vR vO : Value}
    (hr : Kd.R (Kd.int .u8) 5 w W0.heap.size (fun k => (k ≠ g ∧ ¬ S k) ∧ some k ≠ vO.ownBlock) vR r) (ho : Kd.R (Kd.int .u8) 5 w W0.heap.size (fun k => (k ≠ g ∧ ¬ S k) ∧ some k ≠ vR.ownBlock) vO o)
    (hm : SameB g w w') (hbel : Below W0.heap.size W0 w') (hg : W0.heap.size ≤ g) (kb : ∀ b, S b → w.heap[b]? = some (ob b)) (bg : ¬ S g)
    (hblk : w'.heap[g]? = some (.cells #[vP, .int .i64 z, vR, vO] 52 (0, 0))) : Wr W0 w' g S ob vP z r o :=
  ⟨⟨vR, vO, hblk, Kd.R_move hr (fun k hk => hm k hk.1.1), Kd.R_move ho (fun k hk => hm k hk.1.1)⟩, hbel, hg, fun b hb => (hm b (fun e => bg (e ▸ hb))).trans (kb b hb), bg⟩
theorem Wr.of_nil {W0 w w' : World} {g : Nat} {S : Nat → Prop} {ob : Nat → Obj} {vP : Value} {z : Int} {o : List Int} {vO : Value} {ok : Nat → Prop} (hok : ∀ k, ok k → k ≠ g ∧ ¬ S k)
    (ho : Kd.R (Kd.int .u8) 5 w W0.heap.size ok vO o)
    (hm : SameB g w w') (hbel : Below W0.heap.size W0 w') (hg : W0.heap.size ≤ g) (kb : ∀ b, S b → w.heap[b]? = some (ob b)) (bg : ¬ S g)
    (hblk : w'.heap[g]? = some (.cells #[vP, .int .i64 z, .slice none 0 0, vO] 52 (0, 0))) : Wr W0 w' g S ob vP z [] o :=
  Wr.of (w := w) (Kd.R_nil _ _ _ _ _) (Kd.R_mono ho (fun k hk => ⟨hok k hk, by simp [Value.ownBlock]⟩)) hm hbel hg kb bg hblk
theorem kb_below {w w' : World} {S : Nat → Prop} {ob : Nat → Obj} (kb : ∀ b, S b → w.heap[b]? = some (ob b)) (hb : Below w.heap.size w w') : ∀ b, S b → w'.heap[b]? = some (ob b) := fun b e => blk_below (kb b e) hb
theorem kb_grown {w w' : World} {S : Nat → Prop} {ob : Nat → Obj} {row : Option Nat} (kb : ∀ b, S b → w.heap[b]? = some (ob b)) (hg : w.grownBy w' row) (hn : ∀ b, S b → some b ≠ row) : ∀ b, S b → w'.heap[b]? = some (ob b) := fun b e => (hg.block b (blk_lt (kb b e)) (hn b e)).trans (kb b e)
theorem flush_calls {W0 w : World} {g : Nat} {S : Nat → Prop} {ob : Nat → Obj} {vP : Value} {z : Int} {r o x : List Int} (hd : Wr W0 w g S ob vP z r o) (hx : openF z r = some x) (hxl : x.length ≤ 4096) (hol : o.length ≤ 70368744177664) :
    Calls Try.prog 35 #[.pointer (some ⟨g, 0, none⟩)] w fun e w' => e = .returned (.tuple #[]) ∧ Wr W0 w' g S ob vP 0 [] (o ++ x) := by
  obtain ⟨⟨vR, vO, hblk, hr, ho⟩, hbel, hg, hkb, hbg⟩ := hd
  obtain ⟨A', c', rfl, hc', hCO⟩ := Kd.R_reads ho
  obtain ⟨A2, c2, rfl, hc2, hCR⟩ := Kd.R_reads hr
  have f0 := (blk_cell hblk 0).trans rfl
  have f1 := (blk_cell hblk 1).trans rfl
  have f2 := (blk_cell hblk 2).trans rfl
  have f3 := (blk_cell hblk 3).trans rfl
  have z0 := blk_frozen hblk 0
  have z1 := blk_frozen hblk 1
  have z2 := blk_frozen hblk 2
  have z3 := blk_frozen hblk 3
  have HX := Aside0.mk hx
  have HXL := Aside0.mk (And.intro hxl hol)
  have HB := Aside0.mk hbel
  have HBLK := Aside0.mk hblk
  have HR := Aside0.mk hr
  have HO := Aside0.mk ho
  have HG := Aside0.mk hg
  have HKB := Aside0.mk hkb
  have HBG := Aside0.mk hbg
  have HC := Aside0.mk hc'
  have HC2 := Aside0.mk hc2
  have HCR := Aside0.mk hCR
  clear hblk hr ho hbel hg hc' hc2 hCO hCR hx hxl hol hkb hbg
  go_enter Try.func35, Try.ntmps35
  go_wp2
  go_region_law (first
    | (refine goes_ Try.func24 (by kernel_rfl) rfl #[.agg #[vP, .int .i64 z, .slice A2 r.length c2]] (by rfl) rfl rfl (by first | rfl | simp [Act.eval, Act.put]) ?_
       (refine (openF_calls (w := _) (A := A2) (c := c2) (vP := vP) (z := z) (l := r) (r := x) ?hin HC2.out HX.out).mono ?_)
       case hin => repeat (first | exact HCR.out | (with_reducible refine Kd.C_drewN ?_ _) | (with_reducible refine Kd.C_drew ?_))
       rintro e w2 ⟨v2, rfl, hv2, hb2⟩
       refine ⟨_, rfl, ?_⟩
       obtain ⟨A3, c3, rfl, hlc2, hC2⟩ := Kd.R_reads hv2
       have HCC2 := Aside0.mk hC2
       have HB2 := Aside0.mk (HB.out.drew.trans (hb2.mono HB.out.drew.size))
       have HO2 := Aside0.mk (Kd.R_below (Kd.R_drew HO.out) hb2)
       have HR2 := Aside0.mk (Kd.R_below (Kd.R_drew HR.out) hb2)
       have HBLK2 := Aside0.mk (blk_below (blk_drew HBLK.out) hb2)
       have HKB2 := Aside0.mk (kb_below (w := w.drew) HKB.out hb2)
       have y0 := (blk_cell HBLK2.out 3).trans rfl
       clear hC2 hb2 hv2 hlc2)
    | ((refine Kd.R_append_rows_step (Kd.int .u8) (w0 := W0) W0.heap.size (by rfl) (.tmp 6) (.tmp 11) 22 5 (.int .u8 0) 1 rfl Try.underlying22 info5 rfl (by decide) (by omega) (.slice A' o.length c') o x A3 x.length c3 (fun k => (k ≠ g ∧ ¬ S k) ∧ some k ≠ (Value.slice A2 r.length c2).ownBlock) (fun _ => False) rfl rfl HO2.out HCC2.out (fun _ _ h => h) (fun _ hk => hk.elim) ?hF HB2.out HB2.out.size ?hL ?_)
       case hF => exact fun k hk => ⟨⟨fun e => by have := blk_lt HBLK2.out; omega, fun e => by have := blk_lt (HKB2.out k e); omega⟩, fun e => by have := Kd.R_lt HR2.out k e.symm; omega⟩
       case hL => have := HXL.out; omega
       intro v3 w3 ho3 hb3 hg3 hat3
       obtain ⟨A4, c4, e3⟩ := Kd.R_slice ho3
       subst e3
       have HB3 := Aside0.mk hb3
       have HO3 := Aside0.mk ho3
       have HKB3 := Aside0.mk (kb_grown HKB2.out hg3 (fun b hb e => (HO2.out.1 b e.symm).1.2 hb))
       have HBLK3 := Aside0.mk ((hg3.block g (blk_lt HBLK2.out) (fun e => (HO2.out.1 g e.symm).1.1 rfl)).trans HBLK2.out)
       have k0 := (blk_cell HBLK3.out 0).trans rfl
       have k1 := (blk_cell HBLK3.out 1).trans rfl
       have k2 := (blk_cell HBLK3.out 2).trans rfl
       have k3 := (blk_cell HBLK3.out 3).trans rfl
       have j0 := blk_frozen HBLK3.out 0
       have j1 := blk_frozen HBLK3.out 1
       have j2 := blk_frozen HBLK3.out 2
       have j3 := blk_frozen HBLK3.out 3
       clear ho3 hb3 hg3 hat3))
  all_goals (try go_wp2)
  all_goals (
    (try simp only [Exit.inBlock, Exit.then])
    (first | refine bodyPost_ret (results_none rfl _ _ _) rfl ?_ | refine bodyPost_end (results_none rfl _ _ _) rfl ?_)
    rw [← List.length_append]
    exact ⟨rfl, Wr.of_nil (w := w3) (fun k hk => hk.1) HO3.out (by repeat (with_reducible first | exact SameB.refl _ _ | apply SameB.drewN | apply SameB.drew | apply SameB.set)) (by repeat (with_reducible first | exact HB3.out | apply below_drew1 | apply pw_below_drewN | refine below_set ?_ HG.out)) HG.out HKB3.out HBG.out (by (repeat (with_reducible first | refine blk_drew ?_ | apply blk_put)); (with_reducible exact HBLK3.out); all_goals rfl)⟩)
end Go.Proofs.Ytibkbgaonjdpiaa.Ps
