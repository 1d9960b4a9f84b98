/- The top: canonwrite's writer.structure at a struct of one word that has no pointers. -/
import Derived.Test.YthghblmffdfbaaaGreatDoorGeH
import Derived.Test.YthghblmffdfbaaaGreatDoorTjH

namespace Go.Proofs.YthghblmffdfbaaaGreatDoor.Gp
open Go Go.RowKit Go.Proofs.YthghblmffdfbaaaGreatDoor Go.Proofs.YthghblmffdfbaaaGreatDoor.M Go.Proofs.YthghblmffdfbaaaGreatDoor.PFrBase Go.Proofs.YthghblmffdfbaaaGreatDoor.QFrBase Go.Proofs.YthghblmffdfbaaaGreatDoorW.PrintWords Go.Proofs.YthghblmffdfbaaaGreatDoorW.PrintLast Go.Proofs.YthghblmffdfbaaaGreatDoorW.PrintMore
attribute [local go_sem] max2_int min2_int max_two min_two
set_option linter.unusedVariables false
set_option linter.unusedSimpArgs false
set_option maxHeartbeats 8000000
set_option maxRecDepth 100000
def d8 : List Int := [5, 0, 0, 0, 0, 0, 0, 0]
theorem words_d8 : wordsS (d8 ++ List.replicate (8 * 1 - d8.length) 0) = [5] := by decide
theorem d8_B : IsB d8 := by unfold d8; intro x hx; simp only [List.mem_cons, List.not_mem_nil, or_false] at hx; omega
@[reducible] def pS1 : List Value := [.int .i64 0, .int .i64 0, .int .i64 1, .int .i64 0, .int .i64 0, .int .i64 0, .bool false, .int .i64 0, .int .u32 0, .int .u32 0]
theorem wstruct {W0 w : World} {g : Nat} {A : Option Addr} {c : Nat} {ws : List Int} (hW : Wri W0 w g (.slice A ws.length c) ws) {B : Option Addr} {cb : Nat} (hC : Kd.C (Kd.int .u8) w B 8 d8) (hcb : 8 ≤ cb) (hb : ws.length ≤ 100) :
    Calls Tryz.prog 181 #[.pointer (some ⟨g, 0, none⟩), .agg #[.int .i64 1, .int .i64 0, .int .i64 0, .slice B 8 cb, .slice none 0 0]] w fun e w' => ∃ A' c' gi, e = .returned (.tuple #[.agg #[.int .i64 0, .int .i64 0, .int .i64 1, .int .i64 0, .int .i64 0, .int .i64 0, .bool false, .int .i64 0, .int .u32 0, .int .u32 0], .slice (some ⟨gi, 0, none⟩) 1 1]) ∧ w.heap.size ≤ gi ∧ w'.heap[gi]? = some (.cells #[.int .i64 ((ws.length : Int) + 1)] 3 (0, 0)) ∧ Wri W0 w' g (.slice A' (ws.length + 1) c') (ws ++ [5]) ∧ WStep g (.slice A ws.length c) w (.slice A' (ws.length + 1) c') w' := by
  have HW := Aside0.mk hW
  have HC := Aside0.mk hC
  have HCB := Aside0.mk hcb
  have HBD := Aside0.mk hb
  have BN := blk_alloc (blk_new (w := w) (o := .cells #[.int .i64 1, .int .i64 0, .int .i64 0, .slice B 8 cb, .slice none 0 0] 67 (0, 0)) rfl) (.cells #[.int .i64 0, .int .i64 0, .int .i64 0, .int .i64 0, .int .i64 0, .int .i64 0, .bool false, .int .i64 0, .int .u32 0, .int .u32 0] 185 (0, 0))
  have BP := blk_new (w := w.alloc (.cells #[.int .i64 1, .int .i64 0, .int .i64 0, .slice B 8 cb, .slice none 0 0] 67 (0, 0))) (o := .cells #[.int .i64 0, .int .i64 0, .int .i64 0, .int .i64 0, .int .i64 0, .int .i64 0, .bool false, .int .i64 0, .int .u32 0, .int .u32 0] 185 (0, 0)) (g := w.heap.size + 1) (by simp)
  have HB := below_alloc (below_alloc (Below.refl w.heap.size w) (.cells #[.int .i64 1, .int .i64 0, .int .i64 0, .slice B 8 cb, .slice none 0 0] 67 (0, 0))) (.cells #[.int .i64 0, .int .i64 0, .int .i64 0, .int .i64 0, .int .i64 0, .int .i64 0, .bool false, .int .i64 0, .int .u32 0, .int .u32 0] 185 (0, 0))
  clear hW hC hcb hb
  go_enter Tryz.func181, Tryz.ntmps181
  go_upto_region 3 with (first
    | (go_at_call 195; go_loud (refine (wbytes (bs := d8) (HW.out.below' HB) (Kd.C_below HC.out HB) HCB.out d8_B 1 (by decide) (by have := HBD.out; omega)).mono ?_); rintro e w4 ⟨rfl, A4, c4, hW4, hS4⟩))
  rw [words_d8] at hW4
  have nN := (HW.out.below' HB).neT BN (by decide)
  have nP := (HW.out.below' HB).neT BP (by decide)
  have gN : w.heap.size ≠ g := fun e_ => by have := blk_lt HW.out.blk; omega
  have gP : w.heap.size + 1 ≠ g := fun e_ => by have := blk_lt HW.out.blk; omega
  have BN4 := hS4.blk BN gN nN
  have BP4 := hS4.blk BP gP nP
  have HW4 := Aside0.mk hW4
  have HS4 := Aside0.mk ((WStep.of_below HB).trans hS4)
  have hlt := blk_lt BP4
  clear hW4 hS4 BN BP HB nN nP
  obtain ⟨p1, p2, p3, p4, p5, q1, q2, q3, q4, q5⟩ := box5 BN4
  have nw : ∀ k, k < w4.heap.size → k ≠ w4.heap.size := fun k hk => by omega
  have n1 : w.heap.size ≠ w.heap.size + 1 := by omega
  have n2 : w.heap.size + 1 ≠ w.heap.size := by omega
  have HZ : Aside0 (Calls Tryz.prog 194 #[.pointer (some ⟨g, 0, none⟩), .int .i64 (0 : Nat)] w4.drew fun e w' => e = .returned (.int .i64 (ws.length + 1 : Nat)) ∧ ∃ A' c', Wri W0 w' g (.slice A' (ws.length + 1) c') (ws ++ [5]) ∧ WStep g (.slice A4 (ws.length + 1) c4) w4.drew (.slice A' (ws.length + 1) c') w') := ⟨by
    have hl : (ws ++ [(5 : Int)]).length = ws.length + 1 := by simp
    have h := wzeros (W0 := W0) (w := w4.drew) (g := g) (A := A4) (c := c4) (ws := ws ++ [5]) (by rw [hl]; exact HW4.out.drew) 0 (by rw [hl]; have := HBD.out; omega)
    simp only [List.replicate_zero, List.append_nil, hl] at h
    exact h⟩
  have hm4 : (.slice A4 (ws.length + 1) c4 : Value).ownBlock ≠ some w.heap.size := fun e_ => HW4.out.neT BN4 (by decide) e_.symm
  have hm5 : (.slice A4 (ws.length + 1) c4 : Value).ownBlock ≠ some (w.heap.size + 1) := fun e_ => HW4.out.neT BP4 (by decide) e_.symm
  have HM4 := Aside0.mk hm4
  have HM5 := Aside0.mk hm5
  clear hm4 hm5 nw hlt p1 p2 p3 p4 q1 q2 q3 q4 q5
  go_region_held3 (fun w' => w'.cell? ⟨w.heap.size, 4, none⟩ = some (.slice none 0 0))
    (first | with_reducible exact (blk_cell BN5 4).trans rfl | with_reducible exact (blk_cell (blk_drew BN4) 4).trans rfl | with_reducible exact (blk_cell BN4 4).trans rfl | with_reducible exact (blk_cell (blk_alloc BN5 _) 4).trans rfl | go_keep)
    (first | (go_at_call 194; refine HZ.out.mono ?_; rintro e w5 ⟨rfl, A5, c5, hW5, hS5⟩; have BN5 := hS5.blk (blk_drew BN4) gN (Ne.symm HM4.out); have BP5 := hS5.blk (blk_drew BP4) gP (Ne.symm HM5.out); obtain ⟨d0, d1, d2, d3, d4, d5, d6, d7, d8, d9, e0, e1, e2, e3, e4, e5, e6, e7, e8, e9⟩ := box10 BP5; have l5 := blk_lt BP5; have ne1 : w.heap.size + 1 ≠ w5.heap.size := (by omega); have ne2 : w5.heap.size ≠ w.heap.size + 1 := (by omega); have ne3 : w.heap.size ≠ w5.heap.size := (by omega); have ne4 : w5.heap.size ≠ w.heap.size := (by omega); have p6 : w5.cell? ⟨w.heap.size, 4, none⟩ = some (.slice none 0 0) := (blk_cell BN5 4).trans rfl))
  all_goals
    clear d0 d1 d2 d3 d4 d5 d6 d7 d8 d9 e0 e1 e2 e3 e4 e5 e6 e7 e8 e9 p5 p6
    have BPF := blk_alloc (puts_all BP5 pS1 rfl) (.cells #[.int .i64 ((ws.length : Int) + 1)] 3 (0, 0))
    have BI := blk_new (w := putsAt w5 (w.heap.size + 1) 0 pS1) (o := .cells #[.int .i64 ((ws.length : Int) + 1)] 3 (0, 0)) rfl
    rw [puts_size] at BI
    have hWF := (hW5.puts gP BP5 (by decide) (by have := HW.out.below.size; omega) 0 pS1).below' (below_alloc (Below.refl _ _) (.cells #[.int .i64 ((ws.length : Int) + 1)] 3 (0, 0)))
    have hSF := ((HS4.out.trans ((WStep.of_below (below_drew1 (Below.refl _ _))).trans hS5)).puts (k := w.heap.size + 1) (by omega) 0 pS1).below (below_alloc (Below.refl _ _) (.cells #[.int .i64 ((ws.length : Int) + 1)] 3 (0, 0)))
    go_wp2
    refine bodyPost_ret (results_ct rfl _ _ (w.heap.size + 1) 185 _ (0, 0) _ rfl BPF Tryz.underlying185 rfl (by kernel_rfl)) rfl ?_
    exact ⟨A5, c5, w5.heap.size, rfl, by omega, BI, hWF, hSF⟩
end Go.Proofs.YthghblmffdfbaaaGreatDoor.Gp

/- The top: canonwrite's writer.place and Write at the run. -/
namespace Go.Proofs.YthghblmffdfbaaaGreatDoor.Gp
open Go Go.RowKit Go.Proofs.YthghblmffdfbaaaGreatDoor Go.Proofs.YthghblmffdfbaaaGreatDoor.M Go.Proofs.YthghblmffdfbaaaGreatDoor.PFrBase Go.Proofs.YthghblmffdfbaaaGreatDoor.QFrBase Go.Proofs.YthghblmffdfbaaaGreatDoorW.PrintWords Go.Proofs.YthghblmffdfbaaaGreatDoorW.PrintLast Go.Proofs.YthghblmffdfbaaaGreatDoorW.PrintMore
attribute [local go_sem] max2_int min2_int max_two min_two
set_option linter.unusedVariables false
set_option linter.unusedSimpArgs false
set_option maxHeartbeats 8000000
set_option maxRecDepth 100000
theorem enc1 : PTpB.pointer_Encode.f 0 0 1 0 0 0 false 0 0 0 = some (4294967296, true) := by kernel_rfl
theorem wplace {W0 w : World} {g : Nat} {A : Option Addr} {c : Nat} (hL : TopL W0) (hW : Wri W0 w g (.slice A 1 c) [0]) {B : Option Addr} {cb : Nat} (hC : Kd.C (Kd.int .u8) w B 8 d8) (hcb : 8 ≤ cb) :
    Calls Tryz.prog 153 #[.pointer (some ⟨g, 0, none⟩), .int .i64 0, .agg #[.int .i64 1, .int .i64 0, .int .i64 0, .slice B 8 cb, .slice none 0 0]] w fun e w' => e = .returned (.tuple #[]) ∧ ∃ A' c', Wri W0 w' g (.slice A' 2 c') [4294967296, 5] ∧ WStep g (.slice A 1 c) w (.slice A' 2 c') w' := by
  have hmf : ∀ (fn : Fn) (first cap : Array Value) (w : World), (Instr.makeFunc fn first cap).run Tryz.prog w = .ok (.func fn first cap) w := fun _ _ _ _ => rfl
  have HL := Aside0.mk hL
  have HW := Aside0.mk hW
  have HC := Aside0.mk hC
  have HCB := Aside0.mk hcb
  have BN := blk_new (w := w) (o := .cells #[.int .i64 1, .int .i64 0, .int .i64 0, .slice B 8 cb, .slice none 0 0] 67 (0, 0)) rfl
  have HB := below_alloc (Below.refl w.heap.size w) (.cells #[.int .i64 1, .int .i64 0, .int .i64 0, .slice B 8 cb, .slice none 0 0] 67 (0, 0))
  have hlt := blk_lt HW.out.blk
  clear hL hW hC hcb
  go_enter Tryz.func153, Tryz.ntmps153
  try simp only [List.append_eq, List.cons_append, List.nil_append]
  go_upto_region 2 with fail
  obtain ⟨p1, p2, p3, p4, p5, q1, q2, q3, q4, q5⟩ := box5 BN
  generalize hw1 : w.alloc (.cells #[.int .i64 1, .int .i64 0, .int .i64 0, .slice B 8 cb, .slice none 0 0] 67 (0, 0)) = w1 at *
  clear hw1
  go_region
  have BN2 := blk_drew (blk_alloc BN (.cells #[.int .i64 1, .int .i64 0, .int .i64 0, .slice B 8 cb, .slice none 0 0] 67 (0, 0)))
  have BO2 := blk_drew (blk_new (w := w1) (o := .cells #[.int .i64 1, .int .i64 0, .int .i64 0, .slice B 8 cb, .slice none 0 0] 67 (0, 0)) rfl)
  have HB2 := below_drew1 (below_alloc HB (.cells #[.int .i64 1, .int .i64 0, .int .i64 0, .slice B 8 cb, .slice none 0 0] 67 (0, 0)))
  have hlt1 := HB.size
  generalize hw2 : (w1.alloc (.cells #[.int .i64 1, .int .i64 0, .int .i64 0, .slice B 8 cb, .slice none 0 0] 67 (0, 0))).drew = w2 at *
  generalize hgo : w1.heap.size = go at *
  have HW2 := Aside0.mk (HW.out.below' HB2)
  have gN : w.heap.size ≠ g := by omega
  have gO : go ≠ g := by omega
  have nN := HW2.out.neT BN2 (by decide)
  have nO := HW2.out.neT BO2 (by decide)
  have HNN := Aside0.mk nN
  have HNO := Aside0.mk nO
  clear hw2 hgo HB BN p1 p2 p3 p4 p5 q1 q2 q3 q4 q5 hlt hlt1 nN nO
  obtain ⟨p1, p2, p3, p4, p5, q1, q2, q3, q4, q5⟩ := box5 BN2
  obtain ⟨c0, f0⟩ := box1 HW2.out.blk
  go_upto_region 12 with (first
    | (go_at_call 181; go_loud (refine (wstruct (ws := [0]) HW2.out (Kd.C_below HC.out HB2) HCB.out (by decide)).mono ?_); rintro e w3 ⟨A3, c3, gi, rfl, hgi, BI3, hW3, hS3⟩; have BN3 := hS3.blk BN2 gN HNN.out; have BO3 := hS3.blk BO2 gO HNO.out; have HW3 := Aside0.mk hW3; have HS3 := Aside0.mk hS3; clear p1 p2 p3 p4 p5 q1 q2 q3 q4 q5 c0 f0 hW3 hS3))
  have BP4 := blk_new (w := w3) (o := .cells #[.int .i64 0, .int .i64 0, .int .i64 1, .int .i64 0, .int .i64 0, .int .i64 0, .bool false, .int .i64 0, .int .u32 0, .int .u32 0] 185 (0, 0)) rfl
  have HB4 := below_alloc (Below.refl w3.heap.size w3) (.cells #[.int .i64 0, .int .i64 0, .int .i64 1, .int .i64 0, .int .i64 0, .int .i64 0, .bool false, .int .i64 0, .int .u32 0, .int .u32 0] 185 (0, 0))
  have HW4 := HW3.out.below' HB4
  have HS4 := Aside0.mk (HS3.out.below HB4)
  have BN4 := blk_alloc BN3 (.cells #[.int .i64 0, .int .i64 0, .int .i64 1, .int .i64 0, .int .i64 0, .int .i64 0, .bool false, .int .i64 0, .int .u32 0, .int .u32 0] 185 (0, 0))
  have BO4 := blk_alloc BO3 (.cells #[.int .i64 0, .int .i64 0, .int .i64 1, .int .i64 0, .int .i64 0, .int .i64 0, .bool false, .int .i64 0, .int .u32 0, .int .u32 0] 185 (0, 0))
  have BI4 := blk_alloc BI3 (.cells #[.int .i64 0, .int .i64 0, .int .i64 1, .int .i64 0, .int .i64 0, .int .i64 0, .bool false, .int .i64 0, .int .u32 0, .int .u32 0] 185 (0, 0))
  have gP : w3.heap.size ≠ g := fun e_ => by have := blk_lt HW3.out.blk; omega
  generalize hw4 : w3.alloc (.cells #[.int .i64 0, .int .i64 0, .int .i64 1, .int .i64 0, .int .i64 0, .int .i64 0, .bool false, .int .i64 0, .int .u32 0, .int .u32 0] 185 (0, 0)) = w4 at *
  generalize hgp : w3.heap.size = gp at *
  clear hw4 hgp HB4 BN3 BO3 BI3
  obtain ⟨gw, cw, hv, hgw, hgl, cells, hcl⟩ := Kd.R_form HW4.own (by decide)
  simp only [Value.slice.injEq] at hv
  obtain ⟨rfl, hv1, hv2⟩ := hv
  have wg : gw ≠ g := fun e_ => HW4.ne (by rw [e_]; rfl)
  have wp : gw ≠ gp := fun e_ => HW4.neT BP4 (by decide) (by rw [e_]; rfl)
  have wp' := Ne.symm wp
  have wg' := Ne.symm wg
  have gP' := Ne.symm gP
  have cw0 : w4.cell? ⟨gw, 0, none⟩ = some (.int .u64 0) := (Kd.R_cell 0 HW4.own 0 (by decide) (by decide)).1
  have fw0 : w4.frozen? ⟨gw, 0, none⟩ = false := (Kd.R_cell 0 HW4.own 0 (by decide) (by decide)).2
  have BW4 := HW4.blk
  have HW4' := Aside0.mk HW4
  have HLw := Aside0.mk (HL.out.below (HW4.below))
  clear HW4 hv1 hv2 cells hcl hgw hgl hgi hmf
  go_region_held3 (fun w' => w'.cell? ⟨g, 0, none⟩ = some (.slice (some ⟨gw, 0, none⟩) 2 c3) ∧ w'.cell? ⟨gp, 0, none⟩ = some (.int .i64 0) ∧ w'.cell? ⟨gp, 1, none⟩ = some (.int .i64 0) ∧ w'.cell? ⟨gp, 2, none⟩ = some (.int .i64 1) ∧ w'.cell? ⟨gp, 3, none⟩ = some (.int .i64 0) ∧ w'.cell? ⟨gp, 4, none⟩ = some (.int .i64 0) ∧ w'.cell? ⟨gp, 5, none⟩ = some (.int .i64 0) ∧ w'.cell? ⟨gp, 6, none⟩ = some (.bool false) ∧ w'.cell? ⟨gp, 7, none⟩ = some (.int .i64 0) ∧ w'.cell? ⟨gp, 8, none⟩ = some (.int .u32 0) ∧ w'.cell? ⟨gp, 9, none⟩ = some (.int .u32 0))
    (first | with_reducible exact ⟨(blk_cell BW5 0).trans rfl, (blk_cell BP5 0).trans rfl, (blk_cell BP5 1).trans rfl, (blk_cell BP5 2).trans rfl, (blk_cell BP5 3).trans rfl, (blk_cell BP5 4).trans rfl, (blk_cell BP5 5).trans rfl, (blk_cell BP5 6).trans rfl, (blk_cell BP5 7).trans rfl, (blk_cell BP5 8).trans rfl, (blk_cell BP5 9).trans rfl⟩ | with_reducible exact ⟨(blk_cell (blk_drew BW4) 0).trans rfl, (blk_cell (blk_drew BP4) 0).trans rfl, (blk_cell (blk_drew BP4) 1).trans rfl, (blk_cell (blk_drew BP4) 2).trans rfl, (blk_cell (blk_drew BP4) 3).trans rfl, (blk_cell (blk_drew BP4) 4).trans rfl, (blk_cell (blk_drew BP4) 5).trans rfl, (blk_cell (blk_drew BP4) 6).trans rfl, (blk_cell (blk_drew BP4) 7).trans rfl, (blk_cell (blk_drew BP4) 8).trans rfl, (blk_cell (blk_drew BP4) 9).trans rfl⟩ | with_reducible exact ⟨(blk_cell BW4 0).trans rfl, (blk_cell BP4 0).trans rfl, (blk_cell BP4 1).trans rfl, (blk_cell BP4 2).trans rfl, (blk_cell BP4 3).trans rfl, (blk_cell BP4 4).trans rfl, (blk_cell BP4 5).trans rfl, (blk_cell BP4 6).trans rfl, (blk_cell BP4 7).trans rfl, (blk_cell BP4 8).trans rfl, (blk_cell BP4 9).trans rfl⟩ | go_keep)
    (first | (go_at_call 183; refine (PTpB.pointer_Encode.calls 0 0 1 0 0 0 false 0 0 0 4294967296 true _ enc1 (HLw.out.below (below_drew1 (Below.refl _ _)))).mono ?_; rintro e w5 ⟨rfl, hb5⟩; have BP5 := blk_below (blk_drew BP4) hb5; have BN5 := blk_below (blk_drew BN4) hb5; have BO5 := blk_below (blk_drew BO4) hb5; have BI5 := blk_below (blk_drew BI4) hb5; have HW5 := Aside0.mk (HW4'.out.drew.below' hb5); have HS5 := Aside0.mk ((HS4.out.below (below_drew1 (Below.refl _ _))).below hb5); have BW5 := HW5.out.blk; have cw5 : w5.cell? ⟨gw, 0, none⟩ = some (.int .u64 0) := (Kd.R_cell 0 HW5.out.own 0 (by decide) (by decide)).1; have fw5 : w5.frozen? ⟨gw, 0, none⟩ = false := (Kd.R_cell 0 HW5.out.own 0 (by decide) (by decide)).2))
  all_goals
    have wi : gw ≠ gi := fun e_ => HW5.out.neT BI5 (by decide) (by rw [e_]; rfl)
    have wo : gw ≠ go := fun e_ => HW5.out.neT BO5 (by decide) (by rw [e_]; rfl)
    have hbw : W0.heap.size ≤ gw := Kd.R_base HW5.out.own gw rfl
    have hlw := Kd.R_lt HW5.out.own gw rfl
    have BI6 := blk_far BI5 (p := ⟨gw, 0, none⟩) (Ne.symm wi) (.int .u64 4294967296)
    have BO6 := blk_far BO5 (p := ⟨gw, 0, none⟩) (Ne.symm wo) (.int .u64 4294967296)
    have HW6 : Aside0 (Wri W0 (w5.setCell ⟨gw, 0, none⟩ (.int .u64 4294967296)) g (.slice (some ⟨gw, 0, none⟩) 2 c3) [4294967296, 5]) := ⟨blk_far HW5.out.blk (p := ⟨gw, 0, none⟩) wg' _, (Kd.R_put HW5.out.own 0 4294967296).1, HW5.out.below.setCell hbw _, HW5.out.base⟩
    have HS6 : Aside0 (WStep g (.slice A 1 c) w (.slice (some ⟨gw, 0, none⟩) 2 c3) (w5.setCell ⟨gw, 0, none⟩ (.int .u64 4294967296))) := ⟨by have := ((WStep.of_below HB2).trans HS5.out).size; simpa [World.setCell] using this, fun k hk hkg hkv => by
      have hs := (WStep.of_below HB2).trans HS5.out
      have hne : k ≠ gw := by
        rintro rfl
        rcases hs.own with e_ | ⟨b, e_, hb⟩
        · exact hkv e_
        · have := Option.some.inj e_; simp only at this; omega
      rw [Below.heap_setCell w5 ⟨gw, 0, none⟩ _ k hne]
      exact hs.keep k hk hkg hkv, ((WStep.of_below HB2).trans HS5.out).own⟩
    clear cw5 fw5 cw0 fw0 BI5 BO5 BN5 BP5 BW5 hb5 BI4 BO4 BN4 BP4 BW4
    generalize hw6 : w5.setCell ⟨gw, 0, none⟩ (.int .u64 4294967296) = w6 at *
    clear hw6
    obtain ⟨i1, j1⟩ := box1 BI6
    obtain ⟨p1, p2, p3, p4, p5, q1, q2, q3, q4, q5⟩ := box5 BO6
    go_wp2
    refine wp_loop_rounds 2 ?_
    rw [rounds_succ]
    go_wp2
    refine wp_loop_rounds 1 ?_
    rw [rounds_succ]
    go_wp2
    rw [rounds_succ]
    go_wp2
    go_end0
    exact ⟨rfl, _, _, HW6.out, HS6.out⟩
theorem mk12 (w : World) : (Instr.makeSlice 27 (.int .i64 1) (.int .i64 2)).run Tryz.prog w = .ok (.slice (some ⟨w.heap.size, 0, none⟩) 1 2) (w.alloc (.cells #[.int .u64 0, .int .u64 0] 61 (0, 0))) := by
  obtain ⟨i0, hi0, hz0, hsz, hby⟩ := info_parts info61
  have hmk := run_make (P := Tryz.prog) (w := w) 27 61 i0 (.int .u64 0) Tryz.underlying27 hi0 hz0 .i64 .i64 1 2 (by omega) (by omega) (by rw [hby]; omega) (by omega)
  rw [hsz] at hmk
  rw [show madeCells (Value.int .u64 0).cells (Int.toNat 2 * 1) = #[.int .u64 0, .int .u64 0] by kernel_rfl] at hmk
  exact hmk
theorem wwrite {w : World} (hL : TopL w) {B : Option Addr} {cb : Nat} (hC : Kd.C (Kd.int .u8) w B 8 d8) (hcb : 8 ≤ cb) :
    Calls Tryz.prog 118 #[.agg #[.int .i64 1, .int .i64 0, .int .i64 0, .slice B 8 cb, .slice none 0 0]] w fun e w' => ∃ v0_ : Value, e = .returned v0_ ∧ Kd.R (Kd.int .u64) 61 w' w.heap.size (fun _ => True) v0_ [4294967296, 5] ∧ Below w.heap.size w w' := by
  have HL := Aside0.mk hL
  have HC := Aside0.mk hC
  have HCB := Aside0.mk hcb
  have HB1 := below_alloc (Below.refl w.heap.size w) (.cells #[.int .i64 1, .int .i64 0, .int .i64 0, .slice B 8 cb, .slice none 0 0] 67 (0, 0))
  have BN1 := blk_new (w := w) (o := .cells #[.int .i64 1, .int .i64 0, .int .i64 0, .slice B 8 cb, .slice none 0 0] 67 (0, 0)) rfl
  have hmk := mk12
  clear hL hC hcb
  go_enter Tryz.func118, Tryz.ntmps118
  go_upto_region 2 with (first
    | (go_at_call 152; refine (Tp.csTotal B cb _).mono ?_; rintro e w2 ⟨rfl, hb2⟩; have HB2 := below_then HB1 hb2; have BN2 := blk_below BN1 hb2))
  have BK := blk_alloc (blk_new (w := w2) (o := .cells #[.int .u64 0, .int .u64 0] 61 (0, 0)) rfl) (.cells #[.slice (some ⟨w2.heap.size, 0, none⟩) 1 2] 250 (0, 0))
  have BG := blk_new (w := w2.alloc (.cells #[.int .u64 0, .int .u64 0] 61 (0, 0))) (o := .cells #[.slice (some ⟨w2.heap.size, 0, none⟩) 1 2] 250 (0, 0)) (g := w2.heap.size + 1) (by simp)
  have HB3 := below_alloc (below_alloc HB2 (.cells #[.int .u64 0, .int .u64 0] 61 (0, 0))) (.cells #[.slice (some ⟨w2.heap.size, 0, none⟩) 1 2] 250 (0, 0))
  have BN3 := blk_alloc (blk_alloc BN2 (.cells #[.int .u64 0, .int .u64 0] 61 (0, 0))) (.cells #[.slice (some ⟨w2.heap.size, 0, none⟩) 1 2] 250 (0, 0))
  have hle := HB2.size
  generalize hw3 : (w2.alloc (.cells #[.int .u64 0, .int .u64 0] 61 (0, 0))).alloc (.cells #[.slice (some ⟨w2.heap.size, 0, none⟩) 1 2] 250 (0, 0)) = w3 at *
  generalize hg2 : w2.heap.size = g2 at *
  have HW3 : Aside0 (Wri w w3 (g2 + 1) (.slice (some ⟨g2, 0, none⟩) 1 2) [0]) := ⟨BG, Kd.R_of_own (h1 := fun _ => rfl) ⟨by simp [encs], Or.inr ⟨g2, 2, _, rfl, hle, BK, by decide, by decide, rfl, rfl⟩⟩ (fun _ _ => trivial), HB3, by omega⟩
  clear hw3 hg2 BK BG HB1 BN1 HB2 hb2 BN2 hle hmk
  obtain ⟨p1, p2, p3, p4, p5, q1, q2, q3, q4, q5⟩ := box5 BN3
  go_wp2_with (first
    | (go_at_call 153; go_loud (refine (wplace HL.out HW3.out (Kd.C_below HC.out HB3) HCB.out).mono ?_); rintro e w4 ⟨rfl, A4, c4, hW4, hS4⟩; have HW4 := Aside0.mk hW4; clear p1 p2 p3 p4 p5 q1 q2 q3 q4 q5; obtain ⟨c0, f0⟩ := box1 hW4.blk; clear hW4))
  go_ret
  exact ⟨_, rfl, HW4.out.own, HW4.out.below⟩
end Go.Proofs.YthghblmffdfbaaaGreatDoor.Gp

/- The top: canon.Segments, message.Canonicalize at the run. -/
namespace Go.Proofs.YthghblmffdfbaaaGreatDoor.Gp
open Go Go.RowKit Go.Proofs.YthghblmffdfbaaaGreatDoor Go.Proofs.YthghblmffdfbaaaGreatDoor.M Go.Proofs.YthghblmffdfbaaaGreatDoor.PFrBase Go.Proofs.YthghblmffdfbaaaGreatDoor.QFrBase Go.Proofs.YthghblmffdfbaaaGreatDoorW.PrintWords Go.Proofs.YthghblmffdfbaaaGreatDoorW.PrintLast Go.Proofs.YthghblmffdfbaaaGreatDoorW.PrintMore
attribute [local go_sem] max2_int min2_int max_two min_two
set_option linter.unusedVariables false
set_option linter.unusedSimpArgs false
set_option maxHeartbeats 8000000
set_option maxRecDepth 100000
def five : List Int := [0, 0, 0, 0, 2, 0, 0, 0, 0, 0, 0, 0, 1, 0, 0, 0, 5, 0, 0, 0, 0, 0, 0, 0]
theorem TopL.decL {w : World} (h : TopL w) : ∃ bm, Tp.DecL w bm := h.dec.imp fun _ hd => ⟨hd.gl, hd.var, hd.look0⟩
theorem mfail0 (w : World) : Calls Tryz.prog 70 #[.int .i64 0] w fun e w' => e = .returned .nilIface ∧ w = w' := by
  go_enter Tryz.func70, Tryz.ntmps70
  go_wp2
  go_ret
  exact ⟨rfl, rfl⟩
theorem mnumber0 (w : World) : Calls Tryz.prog 43 #[.nilIface] w fun e w' => e = .returned (.int .i64 0) ∧ Below w.heap.size w w' := by
  go_enter Tryz.func43, Tryz.ntmps43
  go_wp2_with go_in
  go_ret
  exact ⟨rfl, below_alloc (Below.refl _ _) _⟩
theorem parse5 : Fm.parseF five = some (Tp.ms, 0) := by kernel_rfl
theorem mparse {w : World} {A : Option Addr} {c : Nat} (hr : Kd.C (Kd.int .u8) w A 24 five) (hc : 24 ≤ c) :
    Calls Tryz.prog 42 #[.slice A 24 c] w fun e w' => ∃ A' c', e = .returned (.tuple #[.slice A' 1 c', .nilIface]) ∧ 1 ≤ c' ∧ Kd.C (Kd.slice 61 (Kd.int .u64)) w' A' 1 Tp.ms ∧ Below w.heap.size w w' := by
  have HR := Aside0.mk hr
  have HC := Aside0.mk hc
  clear hr hc
  go_enter Tryz.func42, Tryz.ntmps42
  go_wp2_with (first
    | (go_at_call 69; refine (Fm.parseF_calls (l0 := five) HR.out HC.out parse5).mono ?_; rintro e w1 ⟨v1, rfl, hs1, hb1⟩; obtain ⟨A1, c1, rfl⟩ := Kd.R_slice (Kd.S_R hs1); have HS1 := Aside0.mk (Kd.R_reads' (Kd.S_R hs1)); clear hs1)
    | (go_at_call 70; refine (mfail0 _).mono ?_; rintro e w2 ⟨rfl, rfl⟩))
  go_ret2
  exact ⟨A1, c1, rfl, HS1.out.2.1, HS1.out.2.2, hb1⟩
theorem rows1 {w : World} {g : Nat} {A : Option Addr} {c : Nat} (hg : w.heap[g]? = some (.cells #[.slice A 2 c] 27 (0, 0))) (hc : 2 ≤ c) (h : Kd.C (Kd.int .u64) w A 2 [4294967296, 5]) : Kd.C (Kd.slice 61 (Kd.int .u64)) w (some ⟨g, 0, none⟩) 1 Tp.ms := by
  refine ⟨rfl, by decide, fun _ => ⟨_, rfl, fun j p hj => ?_⟩⟩
  match j, hj with
  | 0, hj =>
    simp only [Tp.ms, List.getElem?_cons_zero, Option.some.injEq] at hj
    subst hj
    refine ⟨[.slice A 2 c], rfl, ⟨A, c, rfl, hc, h⟩, fun i u hi => ?_⟩
    match i, hi with
    | 0, hi =>
      simp only [List.getElem?_cons_zero, Option.some.injEq] at hi
      subst hi
      have e : (⟨g, 0, none⟩ : Addr).add (0 * (Kd.slice 61 (Kd.int .u64)).sz + 0) = ⟨g, 0, none⟩ := by rw [Nat.zero_mul]; simp [Addr.add]
      rw [e]
      exact (blk_cell hg 0).trans rfl
    | i + 1, hi => simp at hi
  | j + 1, hj => simp [Tp.ms] at hj
theorem segs1 {w : World} (hL : TopL w) {B : Option Addr} {cb : Nat} (hC : Kd.C (Kd.int .u8) w B 8 d8) (hcb : 8 ≤ cb) :
    Calls Tryz.prog 117 #[.agg #[.int .i64 1, .int .i64 0, .int .i64 0, .slice B 8 cb, .slice none 0 0]] w fun e w' => ∃ g, e = .returned (.slice (some ⟨g, 0, none⟩) 1 1) ∧ Kd.C (Kd.slice 61 (Kd.int .u64)) w' (some ⟨g, 0, none⟩) 1 Tp.ms ∧ Below w.heap.size w w' := by
  have HL := Aside0.mk hL
  have HC := Aside0.mk hC
  have HCB := Aside0.mk hcb
  have HB := below_alloc (Below.refl w.heap.size w) (.cells #[.int .i64 1, .int .i64 0, .int .i64 0, .slice B 8 cb, .slice none 0 0] 67 (0, 0))
  clear hL hC hcb
  go_enter Tryz.func117, Tryz.ntmps117
  go_wp2_with (first
    | (go_at_call 118; refine (wwrite (HL.out.below HB) (Kd.C_below HC.out HB) HCB.out).mono ?_; rintro e w2 ⟨v2, rfl, ho2, hb2⟩; obtain ⟨A2, c2, rfl⟩ := Kd.R_slice ho2; have HO2 := Aside0.mk (Kd.R_reads' ho2); have HB2 := Aside0.mk (below_then HB hb2); clear ho2 hb2))
  have BK := blk_new (w := w2) (o := .cells #[.slice A2 [(4294967296 : Int), 5].length c2] 27 (0, 0)) rfl
  have h2 := rows1 BK HO2.out.2.1 (Kd.C_alloc HO2.out.2.2 _)
  have hb3 := below_alloc HB2.out (.cells #[.slice A2 [(4294967296 : Int), 5].length c2] 27 (0, 0))
  go_ret
  exact ⟨w2.heap.size, rfl, h2, hb3⟩
theorem cthen {w : World} (hL : TopL w) {A0 : Option Addr} {c0 : Nat} (hr0 : Kd.C (Kd.slice 61 (Kd.int .u64)) w A0 1 Tp.ms) (hc0 : 1 ≤ c0) :
    Calls Tryz.prog 116 #[.slice A0 1 c0, .agg #[.int .i64 5, .int .i64 100, .int .i64 100], .func (.func 117) #[] #[]] w fun e w' => ∃ g, e = .returned (.tuple #[.slice (some ⟨g, 0, none⟩) 1 1, .int .i64 0]) ∧ Kd.C (Kd.slice 61 (Kd.int .u64)) w' (some ⟨g, 0, none⟩) 1 Tp.ms ∧ Below w.heap.size w w' := by
  have HL := Aside0.mk hL
  have HR := Aside0.mk hr0
  have HC := Aside0.mk hc0
  have HB := below_alloc (Below.refl w.heap.size w) (.cells #[.int .i64 5, .int .i64 100, .int .i64 100] 36 (0, 0))
  obtain ⟨bm, hD⟩ := (hL.below HB).decL
  have HD := Aside0.mk hD
  clear hL hr0 hc0 hD
  go_enter Tryz.func116, Tryz.ntmps116
  go_wp2_with (first
    | (go_at_call 128; refine (Tp.message HD.out (Kd.C_below HR.out HB) HC.out).mono ?_; rintro e w2 ⟨v2, rfl, ho2, hb2⟩; obtain ⟨A2, c2, rfl⟩ := Kd.R_slice ho2; have HO2 := Aside0.mk (Kd.R_reads' ho2); have HB2 := Aside0.mk (below_then HB hb2); have HB3 := Aside0.mk (below_alloc HB2.out (.cells #[.int .i64 1, .int .i64 0, .int .i64 0, .slice A2 Tp.d8.length c2, .slice none 0 0] 67 (0, 0))); clear ho2 hb2)
    | (go_at_call 117; refine (segs1 (HL.out.below HB3.out) (Kd.C_alloc HO2.out.2.2 _) HO2.out.2.1).mono ?_; rintro e w4 ⟨g4, rfl, hc4, hb4⟩))
  go_ret2
  exact ⟨g4, rfl, hc4, below_then HB3.out hb4⟩
theorem csegs {w : World} (hL : TopL w) {A0 : Option Addr} {c0 : Nat} (hr0 : Kd.C (Kd.slice 61 (Kd.int .u64)) w A0 1 Tp.ms) (hc0 : 1 ≤ c0) :
    Calls Tryz.prog 73 #[.slice A0 1 c0, .agg #[.int .i64 5, .int .i64 100, .int .i64 100]] w fun e w' => ∃ g, e = .returned (.tuple #[.slice (some ⟨g, 0, none⟩) 1 1, .int .i64 0]) ∧ Kd.C (Kd.slice 61 (Kd.int .u64)) w' (some ⟨g, 0, none⟩) 1 Tp.ms ∧ Below w.heap.size w w' := by
  have HL := Aside0.mk hL
  have HR := Aside0.mk hr0
  have HC := Aside0.mk hc0
  have HB := below_alloc (Below.refl w.heap.size w) (.cells #[.int .i64 5, .int .i64 100, .int .i64 100] 36 (0, 0))
  clear hL hr0 hc0
  go_enter Tryz.func73, Tryz.ntmps73
  go_wp2_with (first
    | (go_at_call 116; refine (cthen (HL.out.below HB) (Kd.C_below HR.out HB) HC.out).mono ?_; rintro e w2 ⟨g2, rfl, hc2, hb2⟩))
  go_ret2
  exact ⟨g2, rfl, hc2, below_then HB hb2⟩
theorem ser5 : frame_Serialize.f 50 Tp.ms = some (five, 0) := by kernel_rfl
theorem mcanon {w : World} (hL : TopL w) {A : Option Addr} {c : Nat} (hr : Kd.C (Kd.int .u8) w A 24 five) (hc : 24 ≤ c) :
    Calls Tryz.prog 45 #[.slice A 24 c, .agg #[.int .i64 5, .int .i64 100, .int .i64 100]] w fun e w' => ∃ v0_ : Value, e = .returned (.tuple #[v0_, .nilIface]) ∧ Kd.R (Kd.int .u8) 5 w' w.heap.size (fun _ => True) v0_ five ∧ Below w.heap.size w w' := by
  have HL := Aside0.mk hL
  have HR := Aside0.mk hr
  have HC := Aside0.mk hc
  have HB := below_alloc (Below.refl w.heap.size w) (.cells #[.int .i64 5, .int .i64 100, .int .i64 100] 36 (0, 0))
  have BL := blk_new (w := w) (o := .cells #[.int .i64 5, .int .i64 100, .int .i64 100] 36 (0, 0)) rfl
  clear hL hr hc
  go_enter Tryz.func45, Tryz.ntmps45
  go_wp2_with (first
    | (go_at_call 42; refine (mparse (Kd.C_below HR.out HB) HC.out).mono ?_; rintro e w2 ⟨A2, c2, rfl, hl2, hc2, hb2⟩; have HB2 := Aside0.mk (below_then HB hb2); have HC2 := Aside0.mk hc2; have HL2 := Aside0.mk hl2; have BL2 := blk_below BL hb2; clear hl2 hc2 hb2; obtain ⟨k1, k2, k3, j1, j2, j3⟩ := box3 BL2)
    | (go_at_call 73; refine (csegs (HL.out.below HB2.out) HC2.out HL2.out).mono ?_; rintro e w3 ⟨g3, rfl, hc3, hb3⟩; have HB3 := Aside0.mk (below_then HB2.out hb3); have HC3 := Aside0.mk hc3; clear hc3 hb3 k1 k2 k3 j1 j2 j3)
    | (go_at_call 74; refine (frame_Serialize.calls 50 (some ⟨g3, 0, none⟩) 1 Tp.ms five 0 _ HC3.out (by decide) ser5).mono ?_; rintro e w4 ⟨v4, rfl, ho4, hb4⟩; have HB4 := Aside0.mk (below_then HB3.out hb4); have HO4 := Aside0.mk (Kd.R_lower ho4 HB3.out.size); clear ho4 hb4)
    | (go_at_call 70; refine (mfail0 _).mono ?_; rintro e w5 ⟨rfl, rfl⟩))
  go_ret2
  exact ⟨v4, rfl, HO4.out, HB4.out⟩
theorem eff5 : message_effective.f 5 100 100 = some (5, 100, 100) := by kernel_rfl
theorem Canonicalize {w : World} (hL : TopL w) {A : Option Addr} {c : Nat} (hr : Kd.C (Kd.int .u8) w A 24 five) (hc : 24 ≤ c) :
    Calls Tryz.prog 22 #[.slice A 24 c, .agg #[.int .i64 5, .int .i64 100, .int .i64 100]] w fun e w' => ∃ v0_ : Value, e = .returned (.tuple #[v0_, .int .i64 0]) ∧ Kd.R (Kd.int .u8) 5 w' w.heap.size (fun _ => True) v0_ five ∧ Below w.heap.size w w' := by
  have HL := Aside0.mk hL
  have HR := Aside0.mk hr
  have HC := Aside0.mk hc
  have HB := below_alloc (Below.refl w.heap.size w) (.cells #[.int .i64 5, .int .i64 100, .int .i64 100] 36 (0, 0))
  clear hL hr hc
  go_enter Tryz.func22, Tryz.ntmps22
  go_wp2_with (first
    | (go_at_call 46; refine (message_effective.calls 5 100 100 5 100 100 _ eff5).mono ?_; rintro e w2 ⟨rfl, hb2⟩; have HB2 := Aside0.mk (below_then HB hb2); clear hb2)
    | (go_at_call 45; refine (mcanon (HL.out.below HB2.out) (Kd.C_below HR.out HB2.out) HC.out).mono ?_; rintro e w3 ⟨v3, rfl, ho3, hb3⟩; obtain ⟨A3, c3, rfl⟩ := Kd.R_slice ho3; have HB3 := Aside0.mk (below_then HB2.out hb3); have HO3 := Aside0.mk (Kd.R_lower ho3 HB2.out.size); clear ho3 hb3)
    | (go_at_call 43; refine (mnumber0 _).mono ?_; rintro e w5 ⟨rfl, hb5⟩))
  go_ret2
  exact ⟨_, rfl, Kd.R_below HO3.out hb5, below_then HB3.out hb5⟩
end Go.Proofs.YthghblmffdfbaaaGreatDoor.Gp
