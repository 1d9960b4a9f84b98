/- Printed functions of a law, and their walks. -/
import Derived.Test.YthghblmffdfbaaaGreatDoorXShortH
import Derived.Test.YthghblmffdfbaaaGreatDoorProg
import Derived.Below
import Derived.Deep.Draws
import Derived.Deep.AppendLies
import Derived.Maps.AppendAt
import Derived.OwnWalk
import Derived.Laws.BytesArg
import Derived.Laws.MakeOwn
import Derived.Laws.OwnMore
import Derived.Deep.OwnRows
import Derived.Tactics
import Derived.Lib.ConvBytes
import Derived.Laws.Slices
import Derived.WalkKit
import Derived.KernelRfl
import Derived.RowKit3
import Derived.Deep.LoopGhost
import Derived.Deep.QuietTactic
import Derived.BigQuiet
import Derived.WideLaws
import Derived.Deep.DeepCutAuto
import Derived.Deep.CutBlock
import Derived.Deep.RegionHeld3
import Derived.Laws.Rows
import Derived.Lib.AppendStr
import Derived.ArgAppend
import Derived.Laws.IdiomCopy
import Derived.OrdersHeld
import Derived.Laws.BitsLemmas
import Derived.RowKit
import Derived.Test.YthghblmffdfbaaaGreatDoorXCapH
import Derived.WalkMore
import Derived.Test.YthghblmffdfbaaaGreatDoorGlH
import Derived.Test.YthghblmffdfbaaaGreatDoorGrp2H
import Derived.Test.YthghblmffdfbaaaGreatDoorWWordsH
import Derived.Test.YthghblmffdfbaaaGreatDoorWLastH
import Derived.Test.YthghblmffdfbaaaGreatDoorWTabH
import Derived.Test.YthghblmffdfbaaaGreatDoorWApartH
import Derived.Test.YthghblmffdfbaaaGreatDoorWArrH
import Derived.Test.YthghblmffdfbaaaGreatDoorWZerosH
import Derived.Test.YthghblmffdfbaaaGreatDoorWFootH
import Derived.Test.YthghblmffdfbaaaGreatDoorWKeptH
import Derived.Test.YthghblmffdfbaaaGreatDoorWShareH
import Derived.Test.YthghblmffdfbaaaGreatDoorWNH
import Derived.Test.YthghblmffdfbaaaGreatDoorWEqStructH
import Derived.Test.YthghblmffdfbaaaGreatDoorWRepsOneH
import Derived.Test.YthghblmffdfbaaaGreatDoorWGuardH
import Derived.Test.YthghblmffdfbaaaGreatDoorWMoreH

namespace Go.Proofs.YthghblmffdfbaaaGreatDoor.PWholePack
open Go.RowKit Go.Proofs.YthghblmffdfbaaaGreatDoorW.PrintWords Go.Proofs.YthghblmffdfbaaaGreatDoorW.PrintLast Go.Proofs.YthghblmffdfbaaaGreatDoorW.PrintMore
open Go.Proofs.YthghblmffdfbaaaGreatDoor.PFrBase
open Go.Proofs.YthghblmffdfbaaaGreatDoor.PUnBase (bits_OnesCount8.f bits_OnesCount8.calls tagbyte_Ones.f tagbyte_Ones.calls)
open Go.Proofs.YthghblmffdfbaaaGreatDoor.POfBase (tagbyte_Of.f tagbyte_Of.calls tagbyte_Of.mono tagbyte_Of.mono_l)
attribute [local go_sem] max2_int min2_int max_two min_two max_three min_three max_four min_four   -- for this text's walks alone
set_option linter.unusedVariables false
set_option linter.unusedSimpArgs false
def errW : Option Int → Value
  | none => .nilIface
  | some c => .iface 0 (.int .i64 c)
theorem errW_none : errW none = .nilIface := rfl
theorem errW_some (c : Int) : errW (some c) = .iface 0 (.int .i64 c) := rfl
theorem info5 : (Tryz.prog.info? 5).map (fun i => (i.zero, i.size, i.bytes)) = some (some (.int .u8 0), 1, 1) := by kernel_rfl
theorem info61 : (Tryz.prog.info? 61).map (fun i => (i.zero, i.size, i.bytes)) = some (some (.int .u64 0), 1, 8) := by kernel_rfl
theorem info79 : (Tryz.prog.info? 79).map (fun i => (i.zero, i.size, i.bytes)) = some (some (.agg #[(.int .u8 0), (.int .i64 0), (.int .i64 0), (.int .i64 0), (.int .i64 0)]), 5, 40) := by kernel_rfl
def rd_L2 (xs : List (List Int)) (i : Int) : (List Int) := xs.getD i.toNat ([] : List Int)
theorem at_L2 {w : World} {A : Option Addr} {n : Nat} {xs : List (List Int)} (h : Kd.C (Kd.slice 5 (Kd.int .u8)) w A n xs) (i : Int) (h0 : 0 ≤ i) (h1 : i < n) : ∃ ad A0 c0, A = some ad ∧ w.cell? (ad.add i.toNat) = some (.slice A0 (rd_L2 xs i).length c0) ∧ (rd_L2 xs i).length ≤ c0 ∧ (Kd.int .u8).C w A0 (rd_L2 xs i).length (rd_L2 xs i) := by
  obtain ⟨ad, c, e, _, hK, hc0⟩ := Kd.C_get h ([] : List Int) i h0 h1
  have hc : ∀ j u, c[j]? = some u → w.cell? (ad.add (i.toNat * 1 + j)) = some u := hc0
  obtain ⟨A0, c0, rfl, l0, g0⟩ := hK
  exact ⟨ad, A0, c0, e, by have hq := hc 0 _ rfl; rwa [Nat.mul_one, Nat.add_zero] at hq, l0, g0⟩
structure S185 where
  f0 : Int
  f1 : Int
  f2 : Int
  f3 : Int
  f4 : Int
  f5 : Int
  f6 : Bool
  f7 : Int
  f8 : Int
  f9 : Int
structure S36 where
  f0 : Int
  f1 : Int
  f2 : Int
structure S79 where
  f0 : Int
  f1 : Int
  f2 : Int
  f3 : Int
  f4 : Int
def z79 : S79 := ⟨(0 : Int), (0 : Int), (0 : Int), (0 : Int), (0 : Int)⟩
def k79 : Kd S79 := Kd.iso (Kd.pair (Kd.int .u8) (Kd.pair (Kd.int .i64) (Kd.pair (Kd.int .i64) (Kd.pair (Kd.int .i64) (Kd.int .i64))))) (fun x : S79 => (x.f0, x.f1, x.f2, x.f3, x.f4))
theorem k79_open {w : World} {x : S79} {cs : List Value} (h : k79.K w x cs) : cs = [.int .u8 x.f0, .int .i64 x.f1, .int .i64 x.f2, .int .i64 x.f3, .int .i64 x.f4] := by
  obtain ⟨_, _, rfl, rfl, ⟨_, _, rfl, rfl, ⟨_, _, rfl, rfl, ⟨_, _, rfl, rfl, rfl⟩⟩⟩⟩ := h
  exact rfl
theorem k79_mkM (w : World) (base : Nat) (ok : Nat → Prop) (x : S79)  : k79.M w base ok x [.int .u8 x.f0, .int .i64 x.f1, .int .i64 x.f2, .int .i64 x.f3, .int .i64 x.f4] := ⟨[.int .u8 x.f0], [.int .i64 x.f1, .int .i64 x.f2, .int .i64 x.f3, .int .i64 x.f4], rfl, rfl, ⟨[.int .i64 x.f1], [.int .i64 x.f2, .int .i64 x.f3, .int .i64 x.f4], rfl, rfl, ⟨[.int .i64 x.f2], [.int .i64 x.f3, .int .i64 x.f4], rfl, rfl, ⟨[.int .i64 x.f3], [.int .i64 x.f4], rfl, rfl, rfl⟩⟩⟩⟩
def rd_T79 (xs : List S79) (i : Int) : S79 := xs.getD i.toNat z79
theorem at_T79 {w : World} {A : Option Addr} {n : Nat} {xs : List S79} (h : Kd.C k79 w A n xs) (i : Int) (h0 : 0 ≤ i) (h1 : i < n) : ∃ ad , A = some ad ∧ w.cell? (ad.add (i.toNat * 5)) = some (.int .u8 (rd_T79 xs i).f0) ∧ w.cell? ⟨(ad.add (i.toNat * 5)).block, (ad.add (i.toNat * 5)).off + 1, none⟩ = some (.int .i64 (rd_T79 xs i).f1) ∧ w.cell? ⟨(ad.add (i.toNat * 5)).block, (ad.add (i.toNat * 5)).off + 2, none⟩ = some (.int .i64 (rd_T79 xs i).f2) ∧ w.cell? ⟨(ad.add (i.toNat * 5)).block, (ad.add (i.toNat * 5)).off + 3, none⟩ = some (.int .i64 (rd_T79 xs i).f3) ∧ w.cell? ⟨(ad.add (i.toNat * 5)).block, (ad.add (i.toNat * 5)).off + 4, none⟩ = some (.int .i64 (rd_T79 xs i).f4) := by
  obtain ⟨ad, c, e, _, hK, hc0⟩ := Kd.C_get h z79 i h0 h1
  have hc : ∀ j u, c[j]? = some u → w.cell? (ad.add (i.toNat * 5 + j)) = some u := hc0
  obtain rfl := k79_open hK
  exact ⟨ad, e, hc 0 _ rfl, by rw [← add_field _ _ 1 (by omega)]; exact hc 1 _ rfl, by rw [← add_field _ _ 2 (by omega)]; exact hc 2 _ rfl, by rw [← add_field _ _ 3 (by omega)]; exact hc 3 _ rfl, by rw [← add_field _ _ 4 (by omega)]; exact hc 4 _ rfl⟩
end Go.Proofs.YthghblmffdfbaaaGreatDoor.PWholePack

/- Printed functions of a law, and their walks. -/
namespace Go.Proofs.YthghblmffdfbaaaGreatDoor.PWholePack
open Go.RowKit Go.Proofs.YthghblmffdfbaaaGreatDoorW.PrintWords Go.Proofs.YthghblmffdfbaaaGreatDoorW.PrintLast Go.Proofs.YthghblmffdfbaaaGreatDoorW.PrintMore
open Go.Proofs.YthghblmffdfbaaaGreatDoor.PFrBase
open Go.Proofs.YthghblmffdfbaaaGreatDoor.PUnBase (bits_OnesCount8.f bits_OnesCount8.calls tagbyte_Ones.f tagbyte_Ones.calls)
open Go.Proofs.YthghblmffdfbaaaGreatDoor.POfBase (tagbyte_Of.f tagbyte_Of.calls tagbyte_Of.mono tagbyte_Of.mono_l)
attribute [local go_sem] max2_int min2_int max_two min_two max_three min_three max_four min_four   -- for this text's walks alone
set_option linter.unusedVariables false
set_option linter.unusedSimpArgs false
def unpack_Prefix.f (l0 : List Int) (a1 : Int) : Option (List Int × Int) := Go.Proofs.YthghblmffdfbaaaGreatDoor.Un.prefF l0 a1
theorem unpack_Prefix.calls (A0 : Option Addr) (c0 : Nat) (l0 : List Int) (a1 : Int) (r1 : List Int) (r2 : Int) (w : World) (hr0 : Kd.C (Kd.int .u8) w A0 l0.length l0) (hc0 : l0.length ≤ c0) (h : unpack_Prefix.f l0 a1 = some (r1, r2)) (hL : Go.Proofs.YthghblmffdfbaaaGreatDoor.Gp.TopU w) :
    Calls Tryz.prog 33 #[.slice A0 l0.length c0, .int .i64 a1] w fun e w' => ∃ v0_ : Value, e = .returned (.tuple #[v0_, .int .i64 r2]) ∧ Kd.R (Kd.int .u8) 5 w' w.heap.size (fun _ => True) v0_ r1 ∧ Below w.heap.size w w' := by
  obtain ⟨aL, aT, hU⟩ := hL.un
  exact Go.Proofs.YthghblmffdfbaaaGreatDoor.Un.prefF_calls hr0 hc0 h hU
def unpack_Bytes.f (l0 : List Int) (a1 : Int) : Option (List Int × Int) := (unpack_Prefix.f l0 a1).bind fun bt119 => (if bt119.2 = 0 then (some (bt119.1, 0)) else (some (([] : List Int), bt119.2)))
set_option maxHeartbeats 8000000 in
set_option maxRecDepth 100000 in
theorem unpack_Bytes.calls (A0 : Option Addr) (c0 : Nat) (l0 : List Int) (a1 : Int) (r1 : List Int) (r2 : Int) (w : World) (hr0 : Kd.C (Kd.int .u8) w A0 l0.length l0) (hc0 : l0.length ≤ c0) (h : unpack_Bytes.f l0 a1 = some (r1, r2)) (hL : Go.Proofs.YthghblmffdfbaaaGreatDoor.Gp.TopU w) :
    Calls Tryz.prog 11 #[.slice A0 l0.length c0, .int .i64 a1] w fun e w' => ∃ v0_ : Value, e = .returned (.tuple #[v0_, .int .i64 r2]) ∧ Kd.R (Kd.int .u8) 5 w' w.heap.size (fun _ => True) v0_ r1 ∧ Below w.heap.size w w' := by
  have HL := Aside0.mk hL
  clear hL
  have HR0 := Aside0.mk hr0
  have HC0 := Aside0.mk hc0
  clear hr0 hc0
  have HB := Aside0.mk (Below.refl w.heap.size w)
  have H : ((unpack_Prefix.f l0 a1).bind fun bt119 => (if bt119.2 = 0 then (some (bt119.1, 0)) else (some (([] : List Int), bt119.2)))) = some (r1, r2) := h
  clear h
  replace H := Option.bind_eq_some_iff.mp H
  obtain ⟨⟨t119, t120⟩, A30, H⟩ := H
  replace H : (if t120 = 0 then (some (t119, 0)) else (some (([] : List Int), t120))) = some (r1, r2) := H
  have A3 := Aside0.mk A30
  clear A30
  by_cases c4 : t120 = 0
  · rw [if_pos c4] at H
    have c4b0 : (t120 == 0) = true := beq_iff_eq.mpr c4
    have c4b1 : (t120 != 0) = false := bne_eq_false_iff_eq.mpr c4
    clear c4
    simp only [Option.some.injEq, Prod.mk.injEq] at H
    obtain ⟨rfl, rfl⟩ := H
    go_enter Tryz.func11, Tryz.ntmps11
    go_wp2_with (first | ((with_reducible refine gate_callee (f := 33) rfl ?_); refine goesL_ (some 11) rfl rfl Tryz.func33 (by kernel_rfl) rfl #[.slice A0 l0.length c0, .int .i64 a1] rfl pM ?_; (with_reducible refine (unpack_Prefix.calls _ _ l0 a1 t119 t120 _ ?side1 ?side2 A3.out (Go.Proofs.YthghblmffdfbaaaGreatDoor.Gp.TopU.below HL.out pB)).mono ?_); (case side1 => repeat (first | exact HR0.out | (with_reducible refine Kd.C_alloc ?_ _) | (with_reducible refine Kd.C_drewN ?_ _) | (with_reducible refine Kd.C_drew ?_))); (case side2 => exact HC0.out); rintro e w5 ⟨v121, rfl, ho0, hb⟩; refine ⟨_, rfl, ?_⟩; have n0_ := Aside0.mk (Kd.R_lower ho0 (below_size pB)); have n1_ := Aside0.mk (below_step pB hb); clear HB; have HO122 := n0_; have HB := n1_; clear n0_ n1_; (try clear hb); (try clear hb2); (try clear hk); (try clear hi); (try clear ho0)))
    go_ret2
    exact ⟨_, by first | rfl | (simp [errW_none, errW_some] <;> rfl) | (simp [*, errW_none, errW_some] <;> rfl), by (with_reducible repeat (first | apply Kd.R_alloc | apply Kd.R_drewN | apply Kd.R_drew)); exact HO122.out, pB⟩
  · rw [if_neg c4] at H
    have c4b0 : (t120 == 0) = false := beq_eq_false_iff_ne.mpr c4
    have c4b1 : (t120 != 0) = true := bne_iff_ne.mpr c4
    simp only [Option.some.injEq, Prod.mk.injEq] at H
    obtain ⟨rfl, rfl⟩ := H
    go_enter Tryz.func11, Tryz.ntmps11
    go_wp2_with (first | ((with_reducible refine gate_callee (f := 33) rfl ?_); refine goesL_ (some 11) rfl rfl Tryz.func33 (by kernel_rfl) rfl #[.slice A0 l0.length c0, .int .i64 a1] rfl pM ?_; (with_reducible refine (unpack_Prefix.calls _ _ l0 a1 t119 t120 _ ?side1 ?side2 A3.out (Go.Proofs.YthghblmffdfbaaaGreatDoor.Gp.TopU.below HL.out pB)).mono ?_); (case side1 => repeat (first | exact HR0.out | (with_reducible refine Kd.C_alloc ?_ _) | (with_reducible refine Kd.C_drewN ?_ _) | (with_reducible refine Kd.C_drew ?_))); (case side2 => exact HC0.out); rintro e w6 ⟨v121, rfl, ho0, hb⟩; refine ⟨_, rfl, ?_⟩; have n0_ := Aside0.mk (Kd.R_lower ho0 (below_size pB)); have n1_ := Aside0.mk (below_step pB hb); clear HB; have HO122 := n0_; have HB := n1_; clear n0_ n1_; (try clear hb); (try clear hb2); (try clear hk); (try clear hi); (try clear ho0)))
    go_ret2
    exact ⟨_, by first | rfl | (simp [errW_none, errW_some] <;> rfl) | (simp [*, errW_none, errW_some] <;> rfl), by first | exact Kd.R_nil _ _ _ _ _ | exact Kd.N_nil _ _ _ _ _ | exact Kd.V_nil _ _ _ _ _ | exact Kd.Q_nil _ _ _ _ _ | exact Kd.S_nil _ _ _ _ _, pB⟩
end Go.Proofs.YthghblmffdfbaaaGreatDoor.PWholePack

/- Printed functions of a law, and their walks. -/
namespace Go.Proofs.YthghblmffdfbaaaGreatDoor.PWholePack
open Go.RowKit Go.Proofs.YthghblmffdfbaaaGreatDoorW.PrintWords Go.Proofs.YthghblmffdfbaaaGreatDoorW.PrintLast Go.Proofs.YthghblmffdfbaaaGreatDoorW.PrintMore
open Go.Proofs.YthghblmffdfbaaaGreatDoor.PFrBase
open Go.Proofs.YthghblmffdfbaaaGreatDoor.PUnBase (bits_OnesCount8.f bits_OnesCount8.calls tagbyte_Ones.f tagbyte_Ones.calls)
open Go.Proofs.YthghblmffdfbaaaGreatDoor.POfBase (tagbyte_Of.f tagbyte_Of.calls tagbyte_Of.mono tagbyte_Of.mono_l)
attribute [local go_sem] max2_int min2_int max_two min_two max_three min_three max_four min_four   -- for this text's walks alone
set_option linter.unusedVariables false
set_option linter.unusedSimpArgs false
set_option maxHeartbeats 8000000
set_option maxRecDepth 100000
def tagbyte_Bytes.l0 : Nat → List Int → List Int → Int → Int → Option (List Int)
  | 0, _, _, _, _ => none
  | k + 1, x3, x8, x9, x10 => if x10 < x9 then (if 0 ≤ x10 then (if x10 < (x8.length : Int) then (if (rd x8 x10) = 0 then (tagbyte_Bytes.l0 k x3 x8 x9 (wrap64 (x10 + 1))) else (if x3.length < 140737488355328 then (tagbyte_Bytes.l0 k (x3 ++ [rd x8 x10]) x8 x9 (wrap64 (x10 + 1))) else (none))) else (none)) else (none)) else (some x3)
def tagbyte_Bytes.f (k : Nat) (a0 : Int) : Option (List Int) := (word_Bytes.f k (([a0] : List Int))).bind fun t144 => (tagbyte_Bytes.l0 k ([] : List Int) t144 (t144.length : Int) 0)
theorem tagbyte_Bytes.calls (k : Nat) (a0 : Int) (r : List Int) (w : World) (h : tagbyte_Bytes.f k a0 = some r) :
    Calls Tryz.prog 57 #[.int .u64 a0] w fun e w' => ∃ v0_ : Value, e = .returned (v0_) ∧ Kd.R (Kd.int .u8) 5 w' w.heap.size (fun _ => True) v0_ r ∧ Below w.heap.size w w' := by
  have HB := Aside0.mk (Below.refl w.heap.size w)
  have H : ((word_Bytes.f k (([a0] : List Int))).bind fun t144 => (tagbyte_Bytes.l0 k ([] : List Int) t144 (t144.length : Int) 0)) = some r := h
  clear h
  obtain ⟨y141, hy141⟩ : ∃ y_ : List Int, y_ = (([a0] : List Int)) := ⟨_, rfl⟩
  replace H : ((word_Bytes.f k y141).bind fun t144 => (tagbyte_Bytes.l0 k ([] : List Int) t144 (t144.length : Int) 0)) = some r := by first | (rw [hy141]; with_reducible exact H) | (have H2_ := (Option.bind_some _ _).symm.trans H; rw [hy141]; with_reducible exact H2_) | (have H2_ := (Option.bind_some _ _).symm.trans H; with_reducible exact H2_) | with_reducible exact H | (rw [hy141]; exact H) | exact H
  have Ny141 := Aside0.mk hy141
  clear hy141
  replace H := Option.bind_eq_some_iff.mp H
  obtain ⟨t144, A20, H⟩ := H
  replace H : (tagbyte_Bytes.l0 k ([] : List Int) t144 (t144.length : Int) 0) = some r := H
  have A2 := Aside0.mk A20
  clear A20
  have H' := Aside0.mk H
  clear H
  go_enter Tryz.func57, Tryz.ntmps57
  go_wp2_with (first | ((with_reducible refine gate_dst (N := 7) rfl ?_); refine Kd.R_lit (Kd.int .u64) _ 61 ?hg (N := 7) ?hd (xs := ([a0] : List Int)) (inner := [.int .u64 a0]) (ok := fun _ => True) (okp := fun _ => True) ?hr ?hp (fun _ hk => hk) trivial (Below.refl _ _) (Nat.le_refl _) (by simp) ?_; (case hd => rfl); (case hg => rfl); (case hr => first | (go_simp; done) | (go_simp; rfl)); (case hp => exact (Reps.one (show Kd.M (Kd.int .u64) _ _ _ a0 [.int .u64 a0] from rfl) (Reps.none _ _))); intro v142 w3 ho4 hb hg_ hnew_; clear hg_ hnew_; (first | rw [← Ny141.out] at ho4 | (simp only [Int.reduceToNat] at ho4; rw [← Ny141.out] at ho4)); have n0_ := Aside0.mk (Kd.R_lower ho4 (below_size pB)); have n1_ := Aside0.mk (below_step pB hb); clear HB; have HO143 := n0_; have HB := n1_; clear n0_ n1_; clear hb ho4; obtain ⟨Ao5, co5, eo5⟩ := Kd.R_slice HO143.out; subst eo5) | ((with_reducible refine gate_callee (f := 34) rfl ?_); refine goesL_ (some 8) rfl rfl Tryz.func34 (by kernel_rfl) rfl #[.slice Ao5 y141.length co5] rfl pM ?_; (with_reducible refine (word_Bytes.calls k _ _ y141 t144 _ ?side1 ?side2 A2.out).mono ?_); (case side1 => repeat (first | exact (Kd.R_reads' HO143.out).2.2 | (with_reducible refine Kd.C_alloc ?_ _) | (with_reducible refine Kd.C_drewN ?_ _) | (with_reducible refine Kd.C_drew ?_))); (case side2 => exact (Kd.R_reads' HO143.out).2.1); rintro e w6 ⟨v145, rfl, ho0, hb⟩; refine ⟨_, rfl, ?_⟩; have n0_ := Aside0.mk (Kd.R_below (pR HO143) hb); have n1_ := Aside0.mk (Kd.R_lower ho0 (below_size pB)); have n2_ := Aside0.mk (below_step pB hb); clear HO143; clear HB; have HO143 := n0_; have HO146 := n1_; have HB := n2_; clear n0_ n1_ n2_; (try clear hb); (try clear hb2); (try clear hk); (try clear hi); (try clear ho0); obtain ⟨Ao7, co7, eo7⟩ := Kd.R_slice HO146.out; subst eo7))
  go_loopg [3, 10] k (fun kq v3 v10 w' => ∃ (x3_1 : List Int) (x10_1 : Int), v10 = .int .i64 x10_1 ∧ Aside0 (tagbyte_Bytes.l0 kq x3_1 t144 (t144.length : Int) x10_1 = some r) ∧ Aside0 (kq ≤ k) ∧ Aside0 (Kd.R (Kd.int .u8) 5 w' w.heap.size (fun k_ => some k_ ≠ ((.slice Ao7 t144.length co7) : Value).ownBlock) v3 x3_1) ∧ Aside0 (Kd.R (Kd.int .u8) 5 w' w.heap.size (fun k_ => some k_ ≠ (v3 : Value).ownBlock) (.slice Ao7 t144.length co7) t144) ∧ Aside0 (Below w.heap.size w w'))
  case atStart => exact ⟨(([] : List Int)), (0), (by first | rfl | (simp; done) | (simp [*]; done)), H', ⟨Nat.le_refl _⟩, ⟨by first | exact Kd.R_nil _ _ _ _ _ | exact Kd.N_nil _ _ _ _ _ | exact Kd.V_nil _ _ _ _ _ | exact Kd.Q_nil _ _ _ _ _ | exact Kd.S_nil _ _ _ _ _⟩, ⟨by (with_reducible repeat (first | apply Kd.R_alloc | apply Kd.R_drewN | apply Kd.R_drew)); exact Kd.R_mono HO146.out (fun _ hk => (by simp [Value.ownBlock]))⟩, ⟨pB⟩⟩
  case round =>
    clear H'
    try clear p2
    try clear c3
    try clear c5
    obtain ⟨x3_1, x10_1, rfl, HA, HK1, HO_3, HO_8, HB⟩ := hrel
    cases gk with
    | zero => exact absurd HA.out (by simp [tagbyte_Bytes.l0])
    | succ k1 =>
      have H := HA.out
      clear HA
      simp only [tagbyte_Bytes.l0] at H
      by_cases c8 : x10_1 < (t144.length : Int)
      · rw [if_pos c8] at H
        have c8b0 : decide (x10_1 < (t144.length : Int)) = true := decide_eq_true c8
        clear c8
        by_cases c9 : 0 ≤ x10_1
        · rw [if_pos c9] at H
          have c9b0 : decide (0 ≤ x10_1) = true := decide_eq_true c9
          clear c9
          by_cases c10 : x10_1 < (t144.length : Int)
          · rw [if_pos c10] at H
            have c10b0 : decide (x10_1 < (t144.length : Int)) = true := decide_eq_true c10
            clear c10
            by_cases c11 : (rd t144 x10_1) = 0
            · rw [if_pos c11] at H
              have c11b0 : ((rd t144 x10_1) == 0) = true := beq_iff_eq.mpr c11
              have c11b1 : ((rd t144 x10_1) != 0) = false := bne_eq_false_iff_eq.mpr c11
              clear c11
              have H' := Aside0.mk H
              clear H
              have p147 : 0 ≤ (x10_1 : Int) := of_decide_eq_true pA
              have q147 : x10_1 < (t144.length : Int) := of_decide_eq_true pA
              obtain ⟨ad147, e147, hx147_0⟩ := Kd.at_int (Kd.R_reads' HO_8.out).2.2 x10_1 p147 q147
              cases e147
              replace p147 := eq_true p147
              replace q147 := eq_true q147
              go_wp2
              go_roundg k1
              case measure => have := HK1.out; omega
              case rel => exact ⟨(x3_1), (wrap64 (x10_1 + 1)), (by first | rfl | (simp; done) | (simp [*]; done)), H', ⟨by have := HK1.out; omega⟩, ⟨pR HO_3⟩, ⟨pR HO_8⟩, ⟨pB⟩⟩
            · rw [if_neg c11] at H
              have c11b0 : ((rd t144 x10_1) == 0) = false := beq_eq_false_iff_ne.mpr c11
              have c11b1 : ((rd t144 x10_1) != 0) = true := bne_iff_ne.mpr c11
              by_cases c12 : x3_1.length < 140737488355328
              · rw [if_pos c12] at H
                have LMc12 := Aside0.mk c12
                clear c12
                obtain ⟨y148, hy148⟩ : ∃ y_ : List Int, y_ = (x3_1 ++ [rd t144 x10_1]) := ⟨_, rfl⟩
                replace H : (tagbyte_Bytes.l0 k1 y148 t144 (t144.length : Int) (wrap64 (x10_1 + 1))) = some r := by first | (rw [hy148]; with_reducible exact H) | (have H2_ := (Option.bind_some _ _).symm.trans H; rw [hy148]; with_reducible exact H2_) | (have H2_ := (Option.bind_some _ _).symm.trans H; with_reducible exact H2_) | with_reducible exact H | (rw [hy148]; exact H) | exact H
                have Ny148 := Aside0.mk hy148
                clear hy148
                have H' := Aside0.mk H
                clear H
                have p147 : 0 ≤ (x10_1 : Int) := of_decide_eq_true pA
                have q147 : x10_1 < (t144.length : Int) := of_decide_eq_true pA
                obtain ⟨ad147, e147, hx147_0⟩ := Kd.at_int (Kd.R_reads' HO_8.out).2.2 x10_1 p147 q147
                cases e147
                replace p147 := eq_true p147
                replace q147 := eq_true q147
                go_wp2_with (first | ((with_reducible refine gate_builtin (b := .append) (xs := #[.tmp 16, .tmp 18]) rfl ?_); at_builtin; refine Kd.R_append (Kd.int .u8) (w0 := w) w.heap.size rfl (.tmp 16) (.tmp 18) 22 5 (.int .u8 0) 1 rfl Tryz.underlying22 info5 rfl (by decide) (by omega) u3 x3_1 (rd t144 x10_1) [.int .u8 (rd t144 x10_1)] (fun k_ => some k_ ≠ (.slice (some ad147) t144.length co7 : Value).ownBlock) (fun _ => False) rfl rfl ?aP (fun _ hk => hk.elim) ?aF ?aO ?aB ?aS ?aL ?_; (case aP => exact rfl); (case aB => exact pB); (case aF => exact (fun k_ hk => Kd.fresh' (Kd.R_lt (pR HO_8)) k_ hk)); (case aO => exact (pR HO_3)); (case aS => exact (below_size pB)); (case aL => have := LMc12.out; omega); intro v149 w13 ho hb hg hat; rw [← Ny148.out] at ho; have n0_ := Aside0.mk (Kd.R_after (ok := (fun _ => True)) (by (with_reducible repeat (first | apply Kd.R_alloc | apply Kd.R_drewN | apply Kd.R_drew)); exact Kd.R_mono HO_8.out (fun _ hk => ⟨trivial, hk⟩)) hg hat); have n1_ := Aside0.mk (hb); have n2_ := Aside0.mk (ho); clear HO_8; clear HB; clear HO_3; have HO_8 := n0_; have HB := n1_; have HO150 := n2_; clear n0_ n1_ n2_; clear ho hb hg hat))
                go_roundg k1
                case measure => have := HK1.out; omega
                case rel => exact ⟨(y148), (wrap64 (x10_1 + 1)), (by first | rfl | (simp; done) | (simp [*]; done)), H', ⟨by have := HK1.out; omega⟩, ⟨pR HO150⟩, ⟨by (with_reducible repeat (first | apply Kd.R_alloc | apply Kd.R_drewN | apply Kd.R_drew)); exact Kd.R_mono HO_8.out (fun _ hk => hk.2)⟩, ⟨pB⟩⟩
              · rw [if_neg c12] at H
                exact absurd H (by simp)
          · rw [if_neg c10] at H
            exact absurd H (by simp)
        · rw [if_neg c9] at H
          exact absurd H (by simp)
      · rw [if_neg c8] at H
        have c8b0 : decide (x10_1 < (t144.length : Int)) = false := decide_eq_false c8
        clear c8
        obtain rfl := Option.some.inj H
        go_wp2
        go_ret
        exact ⟨_, by first | rfl | (simp [errW_none, errW_some] <;> rfl) | (simp [*, errW_none, errW_some] <;> rfl), by (with_reducible repeat (first | apply Kd.R_alloc | apply Kd.R_drewN | apply Kd.R_drew)); exact Kd.R_mono HO_3.out (fun _ hk => trivial), pB⟩
def tagbyte_Dense.f (k : Nat) (a0 : Int) : Option (Bool) := (tagbyte_Of.f k a0).bind fun t151 => ((tagbyte_Ones.f t151).bind fun t152 => (some (decide (t152 ≥ 7))))
theorem tagbyte_Dense.calls (k : Nat) (a0 : Int) (r : Bool) (w : World) (h : tagbyte_Dense.f k a0 = some r) :
    Calls Tryz.prog 60 #[.int .u64 a0] w fun e w' => e = .returned (.bool r) ∧ Below w.heap.size w w' := by
  have HB := Aside0.mk (Below.refl w.heap.size w)
  have H : ((tagbyte_Of.f k a0).bind fun t151 => ((tagbyte_Ones.f t151).bind fun t152 => (some (decide (t152 ≥ 7))))) = some r := h
  clear h
  replace H := Option.bind_eq_some_iff.mp H
  obtain ⟨t151, A20, H⟩ := H
  replace H : ((tagbyte_Ones.f t151).bind fun t152 => (some (decide (t152 ≥ 7)))) = some r := H
  have A2 := Aside0.mk A20
  clear A20
  replace H := Option.bind_eq_some_iff.mp H
  obtain ⟨t152, A30, H⟩ := H
  replace H : (some (decide (t152 ≥ 7))) = some r := H
  have A3 := Aside0.mk A30
  clear A30
  obtain rfl := Option.some.inj H
  go_enter Tryz.func60, Tryz.ntmps60
  go_wp2_with (first | ((with_reducible refine gate_callee (f := 56) rfl ?_); refine goesL_ (some 4) rfl rfl Tryz.func56 (by kernel_rfl) rfl #[.int .u64 a0] rfl pM ?_; (with_reducible refine (tagbyte_Of.calls k a0 t151 _ A2.out).mono ?_); rintro e w4 ⟨rfl, hb⟩; refine ⟨_, rfl, ?_⟩; have n0_ := Aside0.mk (below_step pB hb); clear HB; have HB := n0_; clear n0_; (try clear hb); (try clear hb2); (try clear hk); (try clear hi)) | ((with_reducible refine gate_callee (f := 94) rfl ?_); refine goesL_ (some 5) rfl rfl Tryz.func94 (by kernel_rfl) rfl #[.int .u8 t151] rfl pM ?_; (with_reducible refine (tagbyte_Ones.calls t151 t152 _ A3.out).mono ?_); rintro e w' ⟨rfl, ⟨nd, rfl⟩⟩; refine ⟨_, rfl, ?_⟩))
  go_ret
  exact ⟨by first | rfl | (simp [errW_none, errW_some] <;> rfl) | (simp [*, errW_none, errW_some] <;> rfl), pB⟩
def pack_Words_1.f (a0 : Int) : Option (Bool) := some (a0 == 0)
theorem pack_Words_1.calls (a0 : Int) (r : Bool) (w : World) (h : pack_Words_1.f a0 = some r) :
    Calls Tryz.prog 59 #[.int .u64 a0] w fun e w' => e = .returned (.bool r) ∧ Drawn0 w w' := by
  have H : (some (a0 == 0)) = some r := h
  clear h
  obtain rfl := Option.some.inj H
  go_enter Tryz.func59, Tryz.ntmps59
  go_wp2
  go_ret
  exact ⟨by first | rfl | (simp; done) | (simp [*]; done), by repeat (first | exact Drawn0.refl _ | apply Drawn0.step)⟩
def pack_run_with_pack_Words_1.l0 : Nat → List Int → Int → Option (Int)
  | 0, _, _ => none
  | k + 1, x0, x5 => if x5 < (x0.length : Int) then (if x5 < 255 then (if 0 ≤ x5 then ((pack_Words_1.f (rd x0 x5)).bind fun t154 => (if t154 = true then (pack_run_with_pack_Words_1.l0 k x0 (wrap64 (x5 + 1))) else (some x5))) else (none)) else (some x5)) else (some x5)
def pack_run_with_pack_Words_1.f (k : Nat) (l0 : List Int)  : Option (Int) := pack_run_with_pack_Words_1.l0 k l0 0
theorem pack_run_with_pack_Words_1.calls (k : Nat) (A0 : Option Addr) (c0 : Nat) (l0 : List Int)  (r : Int) (w : World) (hr0 : Kd.C (Kd.int .u64) w A0 l0.length l0) (hc0 : l0.length ≤ c0) (h : pack_run_with_pack_Words_1.f k l0 = some r) :
    Calls Tryz.prog 58 #[.slice A0 l0.length c0, .func (.func 59) #[] #[]] w fun e w' => e = .returned (.int .i64 r) ∧ Drawn0 w w' := by
  have HR0 := Aside0.mk hr0
  have HC0 := Aside0.mk hc0
  clear hr0 hc0
  have H : (pack_run_with_pack_Words_1.l0 k l0 0) = some r := h
  clear h
  have H' := Aside0.mk H
  clear H
  go_enter Tryz.func58, Tryz.ntmps58
  go_wp2
  go_loopg [5] k (fun kq v5 w' => ∃ (x5_1 : Int), v5 = .int .i64 x5_1 ∧ Aside0 (pack_run_with_pack_Words_1.l0 kq l0 x5_1 = some r) ∧ Aside0 (kq ≤ k) ∧ Drawn0 w w')
  case atStart => exact ⟨(0), (by first | rfl | (simp; done) | (simp [*]; done)), H', ⟨Nat.le_refl _⟩, by repeat (first | exact Drawn0.refl _ | apply Drawn0.step)⟩
  case round =>
    clear H'
    try clear c2
    try clear p2
    obtain ⟨x5_1, rfl, HA, HK1, ⟨m1, rfl⟩⟩ := hrel
    cases gk with
    | zero => exact absurd HA.out (by simp [pack_run_with_pack_Words_1.l0])
    | succ k1 =>
      have H := HA.out
      clear HA
      simp only [pack_run_with_pack_Words_1.l0] at H
      by_cases c3 : x5_1 < (l0.length : Int)
      · rw [if_pos c3] at H
        have c3b0 : decide (x5_1 < (l0.length : Int)) = true := decide_eq_true c3
        clear c3
        by_cases c4 : x5_1 < 255
        · rw [if_pos c4] at H
          have c4b0 : decide (x5_1 < 255) = true := decide_eq_true c4
          clear c4
          by_cases c5 : 0 ≤ x5_1
          · rw [if_pos c5] at H
            have c5b0 : decide (0 ≤ x5_1) = true := decide_eq_true c5
            clear c5
            replace H := Option.bind_eq_some_iff.mp H
            obtain ⟨t154, A60, H⟩ := H
            replace H : (if t154 = true then (pack_run_with_pack_Words_1.l0 k1 l0 (wrap64 (x5_1 + 1))) else (some x5_1)) = some r := H
            have A6 := Aside0.mk A60
            clear A60
            by_cases c7 : t154 = true
            · subst c7
              have H1 : (pack_run_with_pack_Words_1.l0 k1 l0 (wrap64 (x5_1 + 1))) = some r := by rw [if_pos rfl] at H; exact H
              clear H
              have H := H1
              clear H1
              have H' := Aside0.mk H
              clear H
              have p153 : 0 ≤ (x5_1 : Int) := of_decide_eq_true pA
              have q153 : x5_1 < (l0.length : Int) := of_decide_eq_true pA
              obtain ⟨ad153, e153, hx153_0⟩ := Kd.at_int HR0.out x5_1 p153 q153
              cases e153
              replace p153 := eq_true p153
              replace q153 := eq_true q153
              go_wp2_with (first | (go_at_call 59; (with_reducible refine (pack_Words_1.calls (rd l0 x5_1) true _ A6.out).mono ?_); rintro e w' ⟨rfl, ⟨nd, rfl⟩⟩))
              go_roundg k1
              case measure => have := HK1.out; omega
              case rel => exact ⟨(wrap64 (x5_1 + 1)), (by first | rfl | (simp; done) | (simp [*]; done)), H', ⟨by have := HK1.out; omega⟩, by repeat (first | exact Drawn0.refl _ | apply Drawn0.step)⟩
            · replace c7 := Bool.eq_false_iff.mpr c7
              subst c7
              have H1 : (some x5_1) = some r := by rw [if_neg (show ¬ (false = true) by decide)] at H; exact H
              clear H
              have H := H1
              clear H1
              obtain rfl := Option.some.inj H
              have p153 : 0 ≤ (x5_1 : Int) := of_decide_eq_true pA
              have q153 : x5_1 < (l0.length : Int) := of_decide_eq_true pA
              obtain ⟨ad153, e153, hx153_0⟩ := Kd.at_int HR0.out x5_1 p153 q153
              cases e153
              replace p153 := eq_true p153
              replace q153 := eq_true q153
              go_wp2_with (first | (go_at_call 59; (with_reducible refine (pack_Words_1.calls (rd l0 x5_1) false _ A6.out).mono ?_); rintro e w' ⟨rfl, ⟨nd, rfl⟩⟩))
              go_ret
              exact ⟨by first | rfl | (simp; done) | (simp [*]; done), by repeat (first | exact Drawn0.refl _ | apply Drawn0.step)⟩
          · rw [if_neg c5] at H
            exact absurd H (by simp)
        · rw [if_neg c4] at H
          have c4b0 : decide (x5_1 < 255) = false := decide_eq_false c4
          clear c4
          obtain rfl := Option.some.inj H
          go_wp2
          go_ret
          exact ⟨by first | rfl | (simp; done) | (simp [*]; done), by repeat (first | exact Drawn0.refl _ | apply Drawn0.step)⟩
      · rw [if_neg c3] at H
        have c3b0 : decide (x5_1 < (l0.length : Int)) = false := decide_eq_false c3
        clear c3
        obtain rfl := Option.some.inj H
        go_wp2
        go_ret
        exact ⟨by first | rfl | (simp; done) | (simp [*]; done), by repeat (first | exact Drawn0.refl _ | apply Drawn0.step)⟩
def pack_run_with_tagbyte_Dense.l0 : Nat → List Int → Int → Option (Int)
  | 0, _, _ => none
  | k + 1, x0, x5 => if x5 < (x0.length : Int) then (if x5 < 255 then (if 0 ≤ x5 then ((tagbyte_Dense.f k (rd x0 x5)).bind fun t156 => (if t156 = true then (pack_run_with_tagbyte_Dense.l0 k x0 (wrap64 (x5 + 1))) else (some x5))) else (none)) else (some x5)) else (some x5)
def pack_run_with_tagbyte_Dense.f (k : Nat) (l0 : List Int)  : Option (Int) := pack_run_with_tagbyte_Dense.l0 k l0 0
theorem pack_run_with_tagbyte_Dense.calls (k : Nat) (A0 : Option Addr) (c0 : Nat) (l0 : List Int)  (r : Int) (w : World) (hr0 : Kd.C (Kd.int .u64) w A0 l0.length l0) (hc0 : l0.length ≤ c0) (h : pack_run_with_tagbyte_Dense.f k l0 = some r) :
    Calls Tryz.prog 58 #[.slice A0 l0.length c0, .func (.func 60) #[] #[]] w fun e w' => e = .returned (.int .i64 r) ∧ Below w.heap.size w w' := by
  have HR0 := Aside0.mk hr0
  have HC0 := Aside0.mk hc0
  clear hr0 hc0
  have HB := Aside0.mk (Below.refl w.heap.size w)
  have H : (pack_run_with_tagbyte_Dense.l0 k l0 0) = some r := h
  clear h
  have H' := Aside0.mk H
  clear H
  go_enter Tryz.func58, Tryz.ntmps58
  go_wp2
  go_loopg [5] k (fun kq v5 w' => ∃ (x5_1 : Int), v5 = .int .i64 x5_1 ∧ Aside0 (pack_run_with_tagbyte_Dense.l0 kq l0 x5_1 = some r) ∧ Aside0 (kq ≤ k) ∧ Aside0 (Below w.heap.size w w'))
  case atStart => exact ⟨(0), (by first | rfl | (simp; done) | (simp [*]; done)), H', ⟨Nat.le_refl _⟩, ⟨pB⟩⟩
  case round =>
    clear H'
    try clear c2
    try clear p2
    obtain ⟨x5_1, rfl, HA, HK1, HB⟩ := hrel
    cases gk with
    | zero => exact absurd HA.out (by simp [pack_run_with_tagbyte_Dense.l0])
    | succ k1 =>
      have H := HA.out
      clear HA
      simp only [pack_run_with_tagbyte_Dense.l0] at H
      by_cases c3 : x5_1 < (l0.length : Int)
      · rw [if_pos c3] at H
        have c3b0 : decide (x5_1 < (l0.length : Int)) = true := decide_eq_true c3
        clear c3
        by_cases c4 : x5_1 < 255
        · rw [if_pos c4] at H
          have c4b0 : decide (x5_1 < 255) = true := decide_eq_true c4
          clear c4
          by_cases c5 : 0 ≤ x5_1
          · rw [if_pos c5] at H
            have c5b0 : decide (0 ≤ x5_1) = true := decide_eq_true c5
            clear c5
            replace H := Option.bind_eq_some_iff.mp H
            obtain ⟨t156, A60, H⟩ := H
            replace H : (if t156 = true then (pack_run_with_tagbyte_Dense.l0 k1 l0 (wrap64 (x5_1 + 1))) else (some x5_1)) = some r := H
            have A6 := Aside0.mk A60
            clear A60
            by_cases c7 : t156 = true
            · subst c7
              have H1 : (pack_run_with_tagbyte_Dense.l0 k1 l0 (wrap64 (x5_1 + 1))) = some r := by rw [if_pos rfl] at H; exact H
              clear H
              have H := H1
              clear H1
              have H' := Aside0.mk H
              clear H
              have p155 : 0 ≤ (x5_1 : Int) := of_decide_eq_true pA
              have q155 : x5_1 < (l0.length : Int) := of_decide_eq_true pA
              obtain ⟨ad155, e155, hx155_0⟩ := Kd.at_int HR0.out x5_1 p155 q155
              cases e155
              replace hx155_0 := (HB.out.cell (World.block_lt_of_cell? w _ hx155_0)).trans hx155_0
              replace p155 := eq_true p155
              replace q155 := eq_true q155
              go_wp2_with (first | (go_at_call 60; (with_reducible refine (tagbyte_Dense.calls k1 (rd l0 x5_1) true _ A6.out).mono ?_); rintro e w8 ⟨rfl, hb⟩; have n0_ := Aside0.mk (below_step pB hb); clear HB; have HB := n0_; clear n0_; (try clear hb); (try clear hb2); (try clear hk); (try clear hi)))
              go_roundg k1
              case measure => have := HK1.out; omega
              case rel => exact ⟨(wrap64 (x5_1 + 1)), (by first | rfl | (simp; done) | (simp [*]; done)), H', ⟨by have := HK1.out; omega⟩, ⟨pB⟩⟩
            · replace c7 := Bool.eq_false_iff.mpr c7
              subst c7
              have H1 : (some x5_1) = some r := by rw [if_neg (show ¬ (false = true) by decide)] at H; exact H
              clear H
              have H := H1
              clear H1
              obtain rfl := Option.some.inj H
              have p155 : 0 ≤ (x5_1 : Int) := of_decide_eq_true pA
              have q155 : x5_1 < (l0.length : Int) := of_decide_eq_true pA
              obtain ⟨ad155, e155, hx155_0⟩ := Kd.at_int HR0.out x5_1 p155 q155
              cases e155
              replace hx155_0 := (HB.out.cell (World.block_lt_of_cell? w _ hx155_0)).trans hx155_0
              replace p155 := eq_true p155
              replace q155 := eq_true q155
              go_wp2_with (first | (go_at_call 60; (with_reducible refine (tagbyte_Dense.calls k1 (rd l0 x5_1) false _ A6.out).mono ?_); rintro e w9 ⟨rfl, hb⟩; have n0_ := Aside0.mk (below_step pB hb); clear HB; have HB := n0_; clear n0_; (try clear hb); (try clear hb2); (try clear hk); (try clear hi)))
              go_ret
              exact ⟨by first | rfl | (simp [errW_none, errW_some] <;> rfl) | (simp [*, errW_none, errW_some] <;> rfl), pB⟩
          · rw [if_neg c5] at H
            exact absurd H (by simp)
        · rw [if_neg c4] at H
          have c4b0 : decide (x5_1 < 255) = false := decide_eq_false c4
          clear c4
          obtain rfl := Option.some.inj H
          go_wp2
          go_ret
          exact ⟨by first | rfl | (simp [errW_none, errW_some] <;> rfl) | (simp [*, errW_none, errW_some] <;> rfl), pB⟩
      · rw [if_neg c3] at H
        have c3b0 : decide (x5_1 < (l0.length : Int)) = false := decide_eq_false c3
        clear c3
        obtain rfl := Option.some.inj H
        go_wp2
        go_ret
        exact ⟨by first | rfl | (simp [errW_none, errW_some] <;> rfl) | (simp [*, errW_none, errW_some] <;> rfl), pB⟩
end Go.Proofs.YthghblmffdfbaaaGreatDoor.PWholePack
