/- Written by myprint.py, a program of this session: printed functions, and the proofs that the Go code comes to them. -/
import Derived.Test.YthghblmffdfbaaaGreatDoorProg
import Derived.Below
import Derived.Deep.Draws
import Derived.Deep.AppendLies
import Derived.Maps.AppendAt
import Derived.OwnWalk
import Derived.Laws.BytesArg
import Derived.Laws.MakeOwn
import Derived.Laws.OwnMore
import Derived.Deep.OwnRows
import Derived.Tactics
import Derived.Lib.ConvBytes
import Derived.Laws.Slices
import Derived.WalkKit
import Derived.KernelRfl
import Derived.RowKit3
import Derived.Deep.LoopGhost
import Derived.Deep.QuietTactic
import Derived.BigQuiet
import Derived.WideLaws
import Derived.Deep.DeepCutAuto
import Derived.Deep.CutBlock
import Derived.Deep.RegionHeld3
import Derived.Laws.Rows
import Derived.Lib.AppendStr
import Derived.ArgAppend
import Derived.Laws.IdiomCopy
import Derived.OrdersHeld
import Derived.Laws.BitsLemmas
import Derived.RowKit
import Derived.Test.YthghblmffdfbaaaGreatDoorXCapH
import Derived.Test.YthghblmffdfbaaaGreatDoorWWordsH
import Derived.Test.YthghblmffdfbaaaGreatDoorWLastH
import Derived.Test.YthghblmffdfbaaaGreatDoorWTabH
import Derived.Test.YthghblmffdfbaaaGreatDoorWApartH
import Derived.Test.YthghblmffdfbaaaGreatDoorWArrH
import Derived.Test.YthghblmffdfbaaaGreatDoorWZerosH
import Derived.Test.YthghblmffdfbaaaGreatDoorWFootH
import Derived.Test.YthghblmffdfbaaaGreatDoorWKeptH
import Derived.Test.YthghblmffdfbaaaGreatDoorWShareH
import Derived.Test.YthghblmffdfbaaaGreatDoorWNH
import Derived.Test.YthghblmffdfbaaaGreatDoorWEqStructH
import Derived.Test.YthghblmffdfbaaaGreatDoorWRepsOneH
import Derived.Test.YthghblmffdfbaaaGreatDoorWGuardH
import Derived.Test.YthghblmffdfbaaaGreatDoorWMoreH
import Derived.Test.YthghblmffdfbaaaGreatDoorXShortH

namespace Go.Proofs.YthghblmffdfbaaaGreatDoor.PUnBase
open Go.RowKit Go.Proofs.YthghblmffdfbaaaGreatDoorW.PrintWords Go.Proofs.YthghblmffdfbaaaGreatDoorW.PrintLast Go.Proofs.YthghblmffdfbaaaGreatDoorW.PrintMore
attribute [local go_sem] max2_int min2_int max_two min_two max_three min_three max_four min_four   -- for this text's walks alone
set_option linter.unusedVariables false
set_option linter.unusedSimpArgs false
def errW : Option Int → Value
  | none => .nilIface
  | some c => .iface 0 (.int .i64 c)
theorem errW_none : errW none = .nilIface := rfl
theorem errW_some (c : Int) : errW (some c) = .iface 0 (.int .i64 c) := rfl
theorem info5 : (Tryz.prog.info? 5).map (fun i => (i.zero, i.size, i.bytes)) = some (some (.int .u8 0), 1, 1) := by kernel_rfl
end Go.Proofs.YthghblmffdfbaaaGreatDoor.PUnBase

/- Written by myprint.py, a program of this session: printed functions, and the proofs that the Go code comes to them. -/
namespace Go.Proofs.YthghblmffdfbaaaGreatDoor.PUnBase
open Go.RowKit Go.Proofs.YthghblmffdfbaaaGreatDoorW.PrintWords Go.Proofs.YthghblmffdfbaaaGreatDoorW.PrintLast Go.Proofs.YthghblmffdfbaaaGreatDoorW.PrintMore
attribute [local go_sem] max2_int min2_int max_two min_two max_three min_three max_four min_four   -- for this text's walks alone
set_option linter.unusedVariables false
set_option linter.unusedSimpArgs false
set_option maxHeartbeats 8000000
set_option maxRecDepth 100000
def bits_OnesCount8.f (a0 : Int) : Option (Int) := if 0 ≤ a0 then (if a0 < 256 then (some (wrap64 (bt (⟨#[0, 1, 1, 2, 1, 2, 2, 3, 1, 2, 2, 3, 2, 3, 3, 4, 1, 2, 2, 3, 2, 3, 3, 4, 2, 3, 3, 4, 3, 4, 4, 5, 1, 2, 2, 3, 2, 3, 3, 4, 2, 3, 3, 4, 3, 4, 4, 5, 2, 3, 3, 4, 3, 4, 4, 5, 3, 4, 4, 5, 4, 5, 5, 6, 1, 2, 2, 3, 2, 3, 3, 4, 2, 3, 3, 4, 3, 4, 4, 5, 2, 3, 3, 4, 3, 4, 4, 5, 3, 4, 4, 5, 4, 5, 5, 6, 2, 3, 3, 4, 3, 4, 4, 5, 3, 4, 4, 5, 4, 5, 5, 6, 3, 4, 4, 5, 4, 5, 5, 6, 4, 5, 5, 6, 5, 6, 6, 7, 1, 2, 2, 3, 2, 3, 3, 4, 2, 3, 3, 4, 3, 4, 4, 5, 2, 3, 3, 4, 3, 4, 4, 5, 3, 4, 4, 5, 4, 5, 5, 6, 2, 3, 3, 4, 3, 4, 4, 5, 3, 4, 4, 5, 4, 5, 5, 6, 3, 4, 4, 5, 4, 5, 5, 6, 4, 5, 5, 6, 5, 6, 6, 7, 2, 3, 3, 4, 3, 4, 4, 5, 3, 4, 4, 5, 4, 5, 5, 6, 3, 4, 4, 5, 4, 5, 5, 6, 4, 5, 5, 6, 5, 6, 6, 7, 3, 4, 4, 5, 4, 5, 5, 6, 4, 5, 5, 6, 5, 6, 6, 7, 4, 5, 5, 6, 5, 6, 6, 7, 5, 6, 6, 7, 6, 7, 7, 8]⟩ : ByteArray) a0))) else (none)) else (none)
theorem bits_OnesCount8.calls (a0 : Int) (r : Int) (w : World) (h : bits_OnesCount8.f a0 = some r) :
    Calls Tryz.prog 137 #[.int .u8 a0] w fun e w' => e = .returned (.int .i64 r) ∧ Drawn0 w w' := by
  have H : (if 0 ≤ a0 then (if a0 < 256 then (some (wrap64 (bt (⟨#[0, 1, 1, 2, 1, 2, 2, 3, 1, 2, 2, 3, 2, 3, 3, 4, 1, 2, 2, 3, 2, 3, 3, 4, 2, 3, 3, 4, 3, 4, 4, 5, 1, 2, 2, 3, 2, 3, 3, 4, 2, 3, 3, 4, 3, 4, 4, 5, 2, 3, 3, 4, 3, 4, 4, 5, 3, 4, 4, 5, 4, 5, 5, 6, 1, 2, 2, 3, 2, 3, 3, 4, 2, 3, 3, 4, 3, 4, 4, 5, 2, 3, 3, 4, 3, 4, 4, 5, 3, 4, 4, 5, 4, 5, 5, 6, 2, 3, 3, 4, 3, 4, 4, 5, 3, 4, 4, 5, 4, 5, 5, 6, 3, 4, 4, 5, 4, 5, 5, 6, 4, 5, 5, 6, 5, 6, 6, 7, 1, 2, 2, 3, 2, 3, 3, 4, 2, 3, 3, 4, 3, 4, 4, 5, 2, 3, 3, 4, 3, 4, 4, 5, 3, 4, 4, 5, 4, 5, 5, 6, 2, 3, 3, 4, 3, 4, 4, 5, 3, 4, 4, 5, 4, 5, 5, 6, 3, 4, 4, 5, 4, 5, 5, 6, 4, 5, 5, 6, 5, 6, 6, 7, 2, 3, 3, 4, 3, 4, 4, 5, 3, 4, 4, 5, 4, 5, 5, 6, 3, 4, 4, 5, 4, 5, 5, 6, 4, 5, 5, 6, 5, 6, 6, 7, 3, 4, 4, 5, 4, 5, 5, 6, 4, 5, 5, 6, 5, 6, 6, 7, 4, 5, 5, 6, 5, 6, 6, 7, 5, 6, 6, 7, 6, 7, 7, 8]⟩ : ByteArray) a0))) else (none)) else (none)) = some r := h
  clear h
  by_cases c2 : 0 ≤ a0
  · rw [if_pos c2] at H
    have c2b0 : decide (0 ≤ a0) = true := decide_eq_true c2
    clear c2
    by_cases c3 : a0 < 256
    · rw [if_pos c3] at H
      have c3b0 : decide (a0 < 256) = true := decide_eq_true c3
      clear c3
      obtain rfl := Option.some.inj H
      have p4 : 0 ≤ (a0 : Int) := of_decide_eq_true pA
      have q4 : a0 < (256 : Int) := of_decide_eq_true pA
      have hx4 := bt_at (⟨#[0, 1, 1, 2, 1, 2, 2, 3, 1, 2, 2, 3, 2, 3, 3, 4, 1, 2, 2, 3, 2, 3, 3, 4, 2, 3, 3, 4, 3, 4, 4, 5, 1, 2, 2, 3, 2, 3, 3, 4, 2, 3, 3, 4, 3, 4, 4, 5, 2, 3, 3, 4, 3, 4, 4, 5, 3, 4, 4, 5, 4, 5, 5, 6, 1, 2, 2, 3, 2, 3, 3, 4, 2, 3, 3, 4, 3, 4, 4, 5, 2, 3, 3, 4, 3, 4, 4, 5, 3, 4, 4, 5, 4, 5, 5, 6, 2, 3, 3, 4, 3, 4, 4, 5, 3, 4, 4, 5, 4, 5, 5, 6, 3, 4, 4, 5, 4, 5, 5, 6, 4, 5, 5, 6, 5, 6, 6, 7, 1, 2, 2, 3, 2, 3, 3, 4, 2, 3, 3, 4, 3, 4, 4, 5, 2, 3, 3, 4, 3, 4, 4, 5, 3, 4, 4, 5, 4, 5, 5, 6, 2, 3, 3, 4, 3, 4, 4, 5, 3, 4, 4, 5, 4, 5, 5, 6, 3, 4, 4, 5, 4, 5, 5, 6, 4, 5, 5, 6, 5, 6, 6, 7, 2, 3, 3, 4, 3, 4, 4, 5, 3, 4, 4, 5, 4, 5, 5, 6, 3, 4, 4, 5, 4, 5, 5, 6, 4, 5, 5, 6, 5, 6, 6, 7, 3, 4, 4, 5, 4, 5, 5, 6, 4, 5, 5, 6, 5, 6, 6, 7, 4, 5, 5, 6, 5, 6, 6, 7, 5, 6, 6, 7, 6, 7, 7, 8]⟩ : ByteArray) a0
      replace p4 := eq_true p4
      replace q4 := eq_true q4
      go_enter Tryz.func137, Tryz.ntmps137
      go_wp2
      go_ret
      exact ⟨by first | rfl | (simp; done) | (simp [*]; done), by repeat (first | exact Drawn0.refl _ | apply Drawn0.step)⟩
    · rw [if_neg c3] at H
      exact absurd H (by simp)
  · rw [if_neg c2] at H
    exact absurd H (by simp)
def tagbyte_Ones.f (a0 : Int) : Option (Int) := (bits_OnesCount8.f a0).bind fun t101 => (some t101)
theorem tagbyte_Ones.calls (a0 : Int) (r : Int) (w : World) (h : tagbyte_Ones.f a0 = some r) :
    Calls Tryz.prog 94 #[.int .u8 a0] w fun e w' => e = .returned (.int .i64 r) ∧ Drawn0 w w' := by
  have H : ((bits_OnesCount8.f a0).bind fun t101 => (some t101)) = some r := h
  clear h
  replace H := Option.bind_eq_some_iff.mp H
  obtain ⟨t101, A20, H⟩ := H
  replace H : (some t101) = some r := H
  have A2 := Aside0.mk A20
  clear A20
  obtain rfl := Option.some.inj H
  go_enter Tryz.func94, Tryz.ntmps94
  go_wp2_with (first | ((with_reducible refine gate_callee (f := 137) rfl ?_); refine goesL_ (some 4) rfl rfl Tryz.func137 (by kernel_rfl) rfl #[.int .u8 a0] rfl pM ?_; (with_reducible refine (bits_OnesCount8.calls a0 t101 _ A2.out).mono ?_); rintro e w' ⟨rfl, ⟨nd, rfl⟩⟩; refine ⟨_, rfl, ?_⟩))
  go_ret
  exact ⟨by first | rfl | (simp; done) | (simp [*]; done), by repeat (first | exact Drawn0.refl _ | apply Drawn0.step)⟩
def word_mask.f (a0 : Int) : Option (Int) := if 0 ≤ (IntKind.u64.wrap (wrap64 (64 - a0))) then (some (shr .u64 18446744073709551615 (IntKind.u64.wrap (wrap64 (64 - a0))))) else (none)
theorem word_mask.calls (a0 : Int) (r : Int) (w : World) (h : word_mask.f a0 = some r) :
    Calls Tryz.prog 178 #[.int .i64 a0] w fun e w' => e = .returned (.int .u64 r) ∧ Drawn0 w w' := by
  have H : (if 0 ≤ (IntKind.u64.wrap (wrap64 (64 - a0))) then (some (shr .u64 18446744073709551615 (IntKind.u64.wrap (wrap64 (64 - a0))))) else (none)) = some r := h
  clear h
  obtain ⟨ji2, hji2⟩ : ∃ j_ : Int, (IntKind.u64.wrap (wrap64 (64 - a0))) = j_ := ⟨_, rfl⟩
  replace H : (if 0 ≤ (ji2) then (some (shr .u64 18446744073709551615 (ji2))) else (none)) = some r := by first | (rw [hji2] at H; exact H) | (simp only [hji2] at H ⊢; exact H)
  by_cases c3 : 0 ≤ (ji2)
  · rw [if_pos c3] at H
    have c3b0 := eq_true c3
    have c3b1 : decide (0 ≤ (ji2)) = true := decide_eq_true c3
    clear c3
    obtain ⟨ji4, hji4⟩ : ∃ j_ : Int, (shr .u64 18446744073709551615 (ji2)) = j_ := ⟨_, rfl⟩
    replace H : (some ji4) = some r := by first | (rw [hji4] at H; exact H) | (simp only [hji4] at H ⊢; exact H)
    have hji4_ : (18446744073709551615 / 2 ^ min (ji2).toNat 64) = ji4 := hji4
    have hji4z : (ji2) ≤ 64 → (18446744073709551615 / 2 ^ (ji2).toNat) = ji4 := shr_small hji4
    obtain rfl := Option.some.inj H
    go_enter Tryz.func178, Tryz.ntmps178
    go_wp2
    go_ret
    exact ⟨by first | rfl | (simp; done) | (simp only [← hji2, ← hji4] <;> (first | rfl | simp)) | (simp [*]; done), by repeat (first | exact Drawn0.refl _ | apply Drawn0.step)⟩
  · rw [if_neg c3] at H
    exact absurd H (by simp)
def word_Insert.f (a0 : Int) (a1 : Int) (a2 : Int) (a3 : Int) : Option (Int) := (word_mask.f a2).bind fun t102 => (if 0 ≤ (IntKind.u64.wrap (a1)) then (some (Go.bits .or .u64 (Go.bits .andNot .u64 a0 (shl .u64 t102 (IntKind.u64.wrap (a1)))) (Go.bits .and .u64 (shl .u64 a3 (IntKind.u64.wrap (a1))) (shl .u64 t102 (IntKind.u64.wrap (a1)))))) else (none))
theorem word_Insert.calls (a0 : Int) (a1 : Int) (a2 : Int) (a3 : Int) (r : Int) (w : World) (h : word_Insert.f a0 a1 a2 a3 = some r) :
    Calls Tryz.prog 172 #[.int .u64 a0, .int .i64 a1, .int .i64 a2, .int .u64 a3] w fun e w' => e = .returned (.int .u64 r) ∧ Drawn0 w w' := by
  have H : ((word_mask.f a2).bind fun t102 => (if 0 ≤ (IntKind.u64.wrap (a1)) then (some (Go.bits .or .u64 (Go.bits .andNot .u64 a0 (shl .u64 t102 (IntKind.u64.wrap (a1)))) (Go.bits .and .u64 (shl .u64 a3 (IntKind.u64.wrap (a1))) (shl .u64 t102 (IntKind.u64.wrap (a1)))))) else (none))) = some r := h
  clear h
  replace H := Option.bind_eq_some_iff.mp H
  obtain ⟨t102, A50, H⟩ := H
  replace H : (if 0 ≤ (IntKind.u64.wrap (a1)) then (some (Go.bits .or .u64 (Go.bits .andNot .u64 a0 (shl .u64 t102 (IntKind.u64.wrap (a1)))) (Go.bits .and .u64 (shl .u64 a3 (IntKind.u64.wrap (a1))) (shl .u64 t102 (IntKind.u64.wrap (a1)))))) else (none)) = some r := H
  have A5 := Aside0.mk A50
  clear A50
  obtain ⟨ji6, hji6⟩ : ∃ j_ : Int, (IntKind.u64.wrap (a1)) = j_ := ⟨_, rfl⟩
  replace H : (if 0 ≤ (ji6) then (some (Go.bits .or .u64 (Go.bits .andNot .u64 a0 (shl .u64 t102 (ji6))) (Go.bits .and .u64 (shl .u64 a3 (ji6)) (shl .u64 t102 (ji6))))) else (none)) = some r := by first | (rw [hji6] at H; exact H) | (simp only [hji6] at H ⊢; exact H)
  (try rw [hji6] at A5)
  by_cases c7 : 0 ≤ (ji6)
  · rw [if_pos c7] at H
    have c7b0 := eq_true c7
    have c7b1 : decide (0 ≤ (ji6)) = true := decide_eq_true c7
    clear c7
    obtain ⟨ji8, hji8⟩ : ∃ j_ : Int, (shl .u64 t102 (ji6)) = j_ := ⟨_, rfl⟩
    replace H : (some (Go.bits .or .u64 (Go.bits .andNot .u64 a0 (ji8)) (Go.bits .and .u64 (shl .u64 a3 (ji6)) (ji8)))) = some r := by first | (rw [hji8] at H; exact H) | (simp only [hji8] at H ⊢; exact H)
    (try rw [hji8] at A5)
    have hji8_ : (IntKind.u64.wrap (t102 * 2 ^ min (ji6).toNat 64)) = ji8 := hji8
    have hji8z : (ji6) ≤ 64 → (IntKind.u64.wrap (t102 * 2 ^ (ji6).toNat)) = ji8 := shl_small hji8
    have c9b0 := eq_true (of_decide_eq_true pA : 0 ≤ (ji6))
    obtain ⟨ji10, hji10⟩ : ∃ j_ : Int, (shl .u64 a3 (ji6)) = j_ := ⟨_, rfl⟩
    replace H : (some (Go.bits .or .u64 (Go.bits .andNot .u64 a0 (ji8)) (Go.bits .and .u64 (ji10) (ji8)))) = some r := by first | (rw [hji10] at H; exact H) | (simp only [hji10] at H ⊢; exact H)
    (try rw [hji10] at A5)
    have hji10_ : (IntKind.u64.wrap (a3 * 2 ^ min (ji6).toNat 64)) = ji10 := hji10
    have hji10z : (ji6) ≤ 64 → (IntKind.u64.wrap (a3 * 2 ^ (ji6).toNat)) = ji10 := shl_small hji10
    obtain rfl := Option.some.inj H
    go_enter Tryz.func172, Tryz.ntmps172
    go_wp2_with (first | ((with_reducible refine gate_callee (f := 178) rfl ?_); refine goesL_ (some 11) rfl rfl Tryz.func178 (by kernel_rfl) rfl #[.int .i64 a2] rfl pM ?_; (with_reducible refine (word_mask.calls a2 t102 _ A5.out).mono ?_); rintro e w' ⟨rfl, ⟨nd, rfl⟩⟩; refine ⟨_, rfl, ?_⟩))
    go_ret
    exact ⟨by first | rfl | (simp; done) | (simp only [← hji6, ← hji8, ← hji10] <;> (first | rfl | simp)) | (simp [*]; done), by repeat (first | exact Drawn0.refl _ | apply Drawn0.step)⟩
  · rw [if_neg c7] at H
    exact absurd H (by simp)
def tagbyte_Expand.l0 : Nat → Int → List Int → Int → Int → Int → Int → Option (Int × Int × Bool)
  | 0, _, _, _, _, _, _ => none
  | k + 1, x0, x1, x7, x8, x9, x17 => if x17 < 8 then (if 0 ≤ (IntKind.u64.wrap (x17)) then (if (Go.bits .and .u8 (shr .u8 x0 (IntKind.u64.wrap (x17))) 1) = 1 then (if 0 ≤ x9 then (if x9 < (x1.length : Int) then ((word_Insert.f x8 (wrap64 (8 * x17)) 8 (IntKind.u64.wrap (rd x1 x9))).bind fun t105 => (tagbyte_Expand.l0 k x0 x1 x7 t105 (wrap64 (x9 + 1)) (wrap64 (x17 + 1)))) else (none)) else (none)) else (tagbyte_Expand.l0 k x0 x1 x7 x8 x9 (wrap64 (x17 + 1)))) else (none)) else (some (x8, x7, true))
def tagbyte_Expand.f (k : Nat) (a0 : Int) (l1 : List Int) : Option (Int × Int × Bool) := (tagbyte_Ones.f a0).bind fun t103 => (if (l1.length : Int) < t103 then (some (0, 0, false)) else (tagbyte_Expand.l0 k a0 l1 t103 0 0 0))
theorem tagbyte_Expand.calls (k : Nat) (a0 : Int) (A1 : Option Addr) (c1 : Nat) (l1 : List Int) (r1 : Int) (r2 : Int) (r3 : Bool) (w : World) (hr1 : Kd.C (Kd.int .u8) w A1 l1.length l1) (hc1 : l1.length ≤ c1) (h : tagbyte_Expand.f k a0 l1 = some (r1, r2, r3)) :
    Calls Tryz.prog 139 #[.int .u8 a0, .slice A1 l1.length c1] w fun e w' => e = .returned (.tuple #[.int .u64 r1, .int .i64 r2, .bool r3]) ∧ Drawn0 w w' := by
  have HR1 := Aside0.mk hr1
  have HC1 := Aside0.mk hc1
  clear hr1 hc1
  have H : ((tagbyte_Ones.f a0).bind fun t103 => (if (l1.length : Int) < t103 then (some (0, 0, false)) else (tagbyte_Expand.l0 k a0 l1 t103 0 0 0))) = some (r1, r2, r3) := h
  clear h
  replace H := Option.bind_eq_some_iff.mp H
  obtain ⟨t103, A30, H⟩ := H
  replace H : (if (l1.length : Int) < t103 then (some (0, 0, false)) else (tagbyte_Expand.l0 k a0 l1 t103 0 0 0)) = some (r1, r2, r3) := H
  have A3 := Aside0.mk A30
  clear A30
  by_cases c4 : (l1.length : Int) < t103
  · rw [if_pos c4] at H
    have c4b0 : decide ((l1.length : Int) < t103) = true := decide_eq_true c4
    clear c4
    simp only [Option.some.injEq, Prod.mk.injEq] at H
    obtain ⟨rfl, rfl, rfl⟩ := H
    go_enter Tryz.func139, Tryz.ntmps139
    go_wp2_with (first | ((with_reducible refine gate_callee (f := 94) rfl ?_); refine goesL_ (some 12) rfl rfl Tryz.func94 (by kernel_rfl) rfl #[.int .u8 a0] rfl pM ?_; (with_reducible refine (tagbyte_Ones.calls a0 t103 _ A3.out).mono ?_); rintro e w' ⟨rfl, ⟨nd, rfl⟩⟩; refine ⟨_, rfl, ?_⟩))
    go_ret3
    exact ⟨by first | rfl | (simp; done) | (simp [*]; done), by repeat (first | exact Drawn0.refl _ | apply Drawn0.step)⟩
  · rw [if_neg c4] at H
    have c4b0 : decide ((l1.length : Int) < t103) = false := decide_eq_false c4
    clear c4
    have H' := Aside0.mk H
    clear H
    go_enter Tryz.func139, Tryz.ntmps139
    go_wp2_with (first | ((with_reducible refine gate_callee (f := 94) rfl ?_); refine goesL_ (some 12) rfl rfl Tryz.func94 (by kernel_rfl) rfl #[.int .u8 a0] rfl pM ?_; (with_reducible refine (tagbyte_Ones.calls a0 t103 _ A3.out).mono ?_); rintro e w' ⟨rfl, ⟨nd, rfl⟩⟩; refine ⟨_, rfl, ?_⟩))
    go_loopg [8, 9, 17] k (fun kq v8 v9 v17 w' => ∃ (x8_1 : Int) (x9_1 : Int) (x17_1 : Int), v8 = .int .u64 x8_1 ∧ v9 = .int .i64 x9_1 ∧ v17 = .int .i64 x17_1 ∧ Aside0 (tagbyte_Expand.l0 kq a0 l1 t103 x8_1 x9_1 x17_1 = some (r1, r2, r3)) ∧ Aside0 (kq ≤ k) ∧ Drawn0 w w')
    case atStart => exact ⟨(0), (0), (0), (by first | rfl | (simp; done) | (simp [*]; done)), (by first | rfl | (simp; done) | (simp [*]; done)), (by first | rfl | (simp; done) | (simp [*]; done)), H', ⟨Nat.le_refl _⟩, by repeat (first | exact Drawn0.refl _ | apply Drawn0.step)⟩
    case round =>
      clear H'
      try clear c1
      try clear p2
      try clear c4
      try clear c4b0
      obtain ⟨x8_1, x9_1, x17_1, rfl, rfl, rfl, HA, HK1, ⟨m1, rfl⟩⟩ := hrel
      cases gk with
      | zero => exact absurd HA.out (by simp [tagbyte_Expand.l0])
      | succ k1 =>
        have H := HA.out
        clear HA
        simp only [tagbyte_Expand.l0] at H
        by_cases c5 : x17_1 < 8
        · rw [if_pos c5] at H
          have c5b0 : decide (x17_1 < 8) = true := decide_eq_true c5
          clear c5
          obtain ⟨ji6, hji6⟩ : ∃ j_ : Int, (IntKind.u64.wrap (x17_1)) = j_ := ⟨_, rfl⟩
          replace H : (if 0 ≤ (ji6) then (if (Go.bits .and .u8 (shr .u8 a0 (ji6)) 1) = 1 then (if 0 ≤ x9_1 then (if x9_1 < (l1.length : Int) then ((word_Insert.f x8_1 (wrap64 (8 * x17_1)) 8 (IntKind.u64.wrap (rd l1 x9_1))).bind fun t105 => (tagbyte_Expand.l0 k1 a0 l1 t103 t105 (wrap64 (x9_1 + 1)) (wrap64 (x17_1 + 1)))) else (none)) else (none)) else (tagbyte_Expand.l0 k1 a0 l1 t103 x8_1 x9_1 (wrap64 (x17_1 + 1)))) else (none)) = some (r1, r2, r3) := by first | (rw [hji6] at H; exact H) | (simp only [hji6] at H ⊢; exact H)
          by_cases c7 : 0 ≤ (ji6)
          · rw [if_pos c7] at H
            have c7b0 := eq_true c7
            have c7b1 : decide (0 ≤ (ji6)) = true := decide_eq_true c7
            clear c7
            obtain ⟨ji8, hji8⟩ : ∃ j_ : Int, (shr .u8 a0 (ji6)) = j_ := ⟨_, rfl⟩
            replace H : (if (Go.bits .and .u8 (ji8) 1) = 1 then (if 0 ≤ x9_1 then (if x9_1 < (l1.length : Int) then ((word_Insert.f x8_1 (wrap64 (8 * x17_1)) 8 (IntKind.u64.wrap (rd l1 x9_1))).bind fun t105 => (tagbyte_Expand.l0 k1 a0 l1 t103 t105 (wrap64 (x9_1 + 1)) (wrap64 (x17_1 + 1)))) else (none)) else (none)) else (tagbyte_Expand.l0 k1 a0 l1 t103 x8_1 x9_1 (wrap64 (x17_1 + 1)))) = some (r1, r2, r3) := by first | (rw [hji8] at H; exact H) | (simp only [hji8] at H ⊢; exact H)
            have hji8_ : (a0 / 2 ^ min (ji6).toNat 8) = ji8 := hji8
            have hji8z : (ji6) ≤ 8 → (a0 / 2 ^ (ji6).toNat) = ji8 := shr_small hji8
            by_cases c9 : (Go.bits .and .u8 (ji8) 1) = 1
            · rw [if_pos c9] at H
              have c9b0 : ((Go.bits .and .u8 (ji8) 1) == 1) = true := beq_iff_eq.mpr c9
              have c9b1 : ((Go.bits .and .u8 (ji8) 1) != 1) = false := bne_eq_false_iff_eq.mpr c9
              clear c9
              by_cases c10 : 0 ≤ x9_1
              · rw [if_pos c10] at H
                have c10b0 : decide (0 ≤ x9_1) = true := decide_eq_true c10
                clear c10
                by_cases c11 : x9_1 < (l1.length : Int)
                · rw [if_pos c11] at H
                  have c11b0 : decide (x9_1 < (l1.length : Int)) = true := decide_eq_true c11
                  clear c11
                  replace H := Option.bind_eq_some_iff.mp H
                  obtain ⟨t105, A120, H⟩ := H
                  replace H : (tagbyte_Expand.l0 k1 a0 l1 t103 t105 (wrap64 (x9_1 + 1)) (wrap64 (x17_1 + 1))) = some (r1, r2, r3) := H
                  have A12 := Aside0.mk A120
                  clear A120
                  have H' := Aside0.mk H
                  clear H
                  have p104 : 0 ≤ (x9_1 : Int) := of_decide_eq_true pA
                  have q104 : x9_1 < (l1.length : Int) := of_decide_eq_true pA
                  obtain ⟨ad104, e104, hx104_0⟩ := Kd.at_int HR1.out x9_1 p104 q104
                  cases e104
                  replace p104 := eq_true p104
                  replace q104 := eq_true q104
                  go_wp2_with (first | ((with_reducible refine gate_callee (f := 172) rfl ?_); refine goesL_ (some 34) rfl rfl Tryz.func172 (by kernel_rfl) rfl #[.int .u64 x8_1, .int .i64 (wrap64 (8 * x17_1)), .int .i64 8, .int .u64 (IntKind.u64.wrap (rd l1 x9_1))] rfl pM ?_; (with_reducible refine (word_Insert.calls x8_1 (wrap64 (8 * x17_1)) 8 (IntKind.u64.wrap (rd l1 x9_1)) t105 _ A12.out).mono ?_); rintro e w' ⟨rfl, ⟨nd, rfl⟩⟩; refine ⟨_, rfl, ?_⟩))
                  (first | go_roundg k1 | ((try subst hji6); (try subst hji8); go_roundg k1))
                  case measure => have := HK1.out; omega
                  case rel => exact ⟨(t105), (wrap64 (x9_1 + 1)), (wrap64 (x17_1 + 1)), (by first | rfl | (simp; done) | (simp [*]; done)), (by first | rfl | (simp; done) | (simp [*]; done)), (by first | rfl | (simp; done) | (simp [*]; done)), H', ⟨by have := HK1.out; omega⟩, by repeat (first | exact Drawn0.refl _ | apply Drawn0.step)⟩
                · rw [if_neg c11] at H
                  exact absurd H (by simp)
              · rw [if_neg c10] at H
                exact absurd H (by simp)
            · rw [if_neg c9] at H
              have c9b0 : ((Go.bits .and .u8 (ji8) 1) == 1) = false := beq_eq_false_iff_ne.mpr c9
              have c9b1 : ((Go.bits .and .u8 (ji8) 1) != 1) = true := bne_iff_ne.mpr c9
              have H' := Aside0.mk H
              clear H
              go_wp2
              (first | go_roundg k1 | ((try subst hji6); (try subst hji8); go_roundg k1))
              case measure => have := HK1.out; omega
              case rel => exact ⟨(x8_1), (x9_1), (wrap64 (x17_1 + 1)), (by first | rfl | (simp; done) | (simp [*]; done)), (by first | rfl | (simp; done) | (simp [*]; done)), (by first | rfl | (simp; done) | (simp [*]; done)), H', ⟨by have := HK1.out; omega⟩, by repeat (first | exact Drawn0.refl _ | apply Drawn0.step)⟩
          · rw [if_neg c7] at H
            exact absurd H (by simp)
        · rw [if_neg c5] at H
          have c5b0 : decide (x17_1 < 8) = false := decide_eq_false c5
          clear c5
          simp only [Option.some.injEq, Prod.mk.injEq] at H
          obtain ⟨rfl, rfl, rfl⟩ := H
          go_wp2
          go_ret3
          exact ⟨by first | rfl | (simp; done) | (simp [*]; done), by repeat (first | exact Drawn0.refl _ | apply Drawn0.step)⟩
mutual
def word_Bytes.l0 : Nat → List Int → List Int → Int → Int → Option (List Int)
  | 0, _, _, _, _ => none
  | k + 1, x3, x11, x12, x13 => if x13 < x12 then (if 0 ≤ x13 then (if x13 < (x11.length : Int) then (word_Bytes.l1 k x3 (rd x11 x13) x11 x12 x13 0) else (none)) else (none)) else (some x3)
def word_Bytes.l1 : Nat → List Int → Int → List Int → Int → Int → Int → Option (List Int)
  | 0, _, _, _, _, _, _ => none
  | k + 1, x3, x5, x11, x12, x13, x17 => if x17 < 8 then (if 0 ≤ (IntKind.u64.wrap (wrap64 (8 * x17))) then (if x3.length < 140737488355328 then (word_Bytes.l1 k (x3 ++ [(shr .u64 x5 (IntKind.u64.wrap (wrap64 (8 * x17)))) % 256]) x5 x11 x12 x13 (wrap64 (x17 + 1))) else (none)) else (none)) else (word_Bytes.l0 k x3 x11 x12 (wrap64 (x13 + 1)))
end
def word_Bytes.f (k : Nat) (l0 : List Int) : Option (List Int) := if 0 ≤ (wrap64 (8 * (l0.length : Int))) then (if (wrap64 (8 * (l0.length : Int)) : Int).toNat ≤ 281474976710656 then (word_Bytes.l0 k (([] : List Int)) l0 (l0.length : Int) 0) else (none)) else (none)
theorem word_Bytes.mono_l : ∀ k, (∀ y0 y1 y2 y3, LeO (word_Bytes.l0 k y0 y1 y2 y3) (word_Bytes.l0 (k + 1) y0 y1 y2 y3)) ∧ (∀ y0 y1 y2 y3 y4 y5, LeO (word_Bytes.l1 k y0 y1 y2 y3 y4 y5) (word_Bytes.l1 (k + 1) y0 y1 y2 y3 y4 y5))
  | 0 => ⟨fun _ _ _ _ r h => by simp [word_Bytes.l0] at h, fun _ _ _ _ _ _ r h => by simp [word_Bytes.l1] at h⟩
  | k + 1 => by
    obtain ⟨ih0, ih1⟩ := word_Bytes.mono_l k
    refine ⟨?_, ?_⟩
    · intro y0 y1 y2 y3
      unfold word_Bytes.l0
      repeat' first
      | (with_reducible exact ih0 _ _ _ _)
      | (with_reducible exact ih1 _ _ _ _ _ _)
      | (with_reducible exact LeO.refl _)
      | (with_reducible exact LeO.none _)
      | (with_reducible refine LeO.ite ?_ ?_)
      | (with_reducible refine LeO.bind ?_ (fun _ => ?_))
      | exact ih0 _ _ _ _
      | exact ih1 _ _ _ _ _ _
      | exact LeO.none _
      | refine LeO.ite ?_ ?_
      | refine LeO.bind ?_ (fun _ => ?_)
    · intro y0 y1 y2 y3 y4 y5
      unfold word_Bytes.l1
      repeat' first
      | (with_reducible exact ih0 _ _ _ _)
      | (with_reducible exact ih1 _ _ _ _ _ _)
      | (with_reducible exact LeO.refl _)
      | (with_reducible exact LeO.none _)
      | (with_reducible refine LeO.ite ?_ ?_)
      | (with_reducible refine LeO.bind ?_ (fun _ => ?_))
      | exact ih0 _ _ _ _
      | exact ih1 _ _ _ _ _ _
      | exact LeO.none _
      | refine LeO.ite ?_ ?_
      | refine LeO.bind ?_ (fun _ => ?_)
theorem word_Bytes.mono : ∀ a0 k, LeO (word_Bytes.f k a0) (word_Bytes.f (k + 1) a0) := by
  intro a0 k
  obtain ⟨ih0, ih1⟩ := word_Bytes.mono_l k
  unfold word_Bytes.f
  repeat' first
      | (with_reducible exact ih0 _ _ _ _)
      | (with_reducible exact ih1 _ _ _ _ _ _)
      | (with_reducible exact LeO.refl _)
      | (with_reducible exact LeO.none _)
      | (with_reducible refine LeO.ite ?_ ?_)
      | (with_reducible refine LeO.bind ?_ (fun _ => ?_))
      | exact ih0 _ _ _ _
      | exact ih1 _ _ _ _ _ _
      | exact LeO.none _
      | refine LeO.ite ?_ ?_
      | refine LeO.bind ?_ (fun _ => ?_)
theorem word_Bytes.calls (k : Nat) (A0 : Option Addr) (c0 : Nat) (l0 : List Int) (r : List Int) (w : World) (hr0 : Kd.C (Kd.int .u64) w A0 l0.length l0) (hc0 : l0.length ≤ c0) (h : word_Bytes.f k l0 = some r) :
    Calls Tryz.prog 34 #[.slice A0 l0.length c0] w fun e w' => ∃ v0_ : Value, e = .returned (v0_) ∧ Kd.R (Kd.int .u8) 5 w' w.heap.size (fun _ => True) v0_ r ∧ Below w.heap.size w w' := by
  have HR0 := Aside0.mk hr0
  have HC0 := Aside0.mk hc0
  clear hr0 hc0
  have HB := Aside0.mk (Below.refl w.heap.size w)
  have H : (if 0 ≤ (wrap64 (8 * (l0.length : Int))) then (if (wrap64 (8 * (l0.length : Int)) : Int).toNat ≤ 281474976710656 then (word_Bytes.l0 k (([] : List Int)) l0 (l0.length : Int) 0) else (none)) else (none)) = some r := h
  clear h
  obtain ⟨ji2, hji2⟩ : ∃ j_ : Int, (wrap64 (8 * (l0.length : Int))) = j_ := ⟨_, rfl⟩
  replace H : (if 0 ≤ (ji2) then (if (ji2 : Int).toNat ≤ 281474976710656 then (word_Bytes.l0 k (([] : List Int)) l0 (l0.length : Int) 0) else (none)) else (none)) = some r := by first | (rw [hji2] at H; exact H) | (simp only [hji2] at H ⊢; exact H)
  have hji2w : (IntKind.i64.wrap (8 * (l0.length : Int))) = ji2 := (i64_w _).trans hji2
  by_cases c3 : 0 ≤ (ji2)
  · rw [if_pos c3] at H
    have c3b0 := eq_true c3
    have c3b1 : decide (0 ≤ (ji2)) = true := decide_eq_true c3
    clear c3
    by_cases c4 : (ji2 : Int).toNat ≤ 281474976710656
    · rw [if_pos c4] at H
      have c4b0 := eq_true c4
      have c4b1 : decide ((ji2 : Int).toNat ≤ 281474976710656) = true := decide_eq_true c4
      clear c4
      obtain ⟨y106, hy106⟩ : ∃ y_ : List Int, y_ = (([] : List Int)) := ⟨_, rfl⟩
      replace H : (word_Bytes.l0 k y106 l0 (l0.length : Int) 0) = some r := by first | (rw [hy106]; with_reducible exact H) | (have H2_ := (Option.bind_some _ _).symm.trans H; rw [hy106]; with_reducible exact H2_) | (have H2_ := (Option.bind_some _ _).symm.trans H; with_reducible exact H2_) | with_reducible exact H | (rw [hy106]; exact H) | exact H
      have Ny106 := Aside0.mk hy106
      clear hy106
      have H' := Aside0.mk H
      clear H
      go_enter Tryz.func34, Tryz.ntmps34
      go_wp2_with (first | ((with_reducible refine gate_dst (N := 10) rfl ?_); refine Kd.R_makecap (Kd.int .u8) _ 5 rfl (N := 10) rfl 22 _ _ rfl ji2 rfl rfl Tryz.underlying22 (.int .u8 0) 1 info5 rfl (by decide) (by omega) 0 (ok := fun _ => True) (okp := fun _ => True) rfl (fun _ hk => hk) trivial (of_decide_eq_true pA) (Nat.le_trans (Nat.mul_le_mul_right _ (of_decide_eq_true pA : ji2.toNat ≤ 281474976710656)) (by omega)) (Below.refl _ _) (Nat.le_refl _) ?_; intro v107 w5 ho6 hb hg_ hnew_; clear hg_ hnew_; (first | rw [← Ny106.out] at ho6 | (simp only [Int.reduceToNat] at ho6; rw [← Ny106.out] at ho6)); have n0_ := Aside0.mk (Kd.R_lower ho6 (below_size pB)); have n1_ := Aside0.mk (below_step pB hb); clear HB; have HO108 := n0_; have HB := n1_; clear n0_ n1_; clear hb ho6))
      go_loopg [3, 13] k (fun kq v3 v13 w' => ∃ (x3_1 : List Int) (x13_1 : Int), v13 = .int .i64 x13_1 ∧ Aside0 (word_Bytes.l0 kq x3_1 l0 (l0.length : Int) x13_1 = some r) ∧ Aside0 (kq ≤ k) ∧ Aside0 (Kd.R (Kd.int .u8) 5 w' w.heap.size (fun _ => True) v3 x3_1) ∧ Aside0 (Below w.heap.size w w'))
      case atStart => exact ⟨(y106), (0), (by first | rfl | (simp; done) | (simp [*]; done)), H', ⟨Nat.le_refl _⟩, ⟨pR HO108⟩, ⟨pB⟩⟩
      case round =>
        clear H'
        try clear p2
        try clear c3
        try clear c3b0
        try clear c3b1
        try clear c4
        try clear c4b0
        try clear c4b1
        try clear p6
        obtain ⟨x3_1, x13_1, rfl, HA, HK1, HO_3, HB⟩ := hrel
        cases gk with
        | zero => exact absurd HA.out (by simp [word_Bytes.l0])
        | succ k1 =>
          have H := HA.out
          clear HA
          simp only [word_Bytes.l0] at H
          by_cases c7 : x13_1 < (l0.length : Int)
          · rw [if_pos c7] at H
            have c7b0 : decide (x13_1 < (l0.length : Int)) = true := decide_eq_true c7
            clear c7
            by_cases c8 : 0 ≤ x13_1
            · rw [if_pos c8] at H
              have c8b0 : decide (0 ≤ x13_1) = true := decide_eq_true c8
              clear c8
              by_cases c9 : x13_1 < (l0.length : Int)
              · rw [if_pos c9] at H
                have c9b0 : decide (x13_1 < (l0.length : Int)) = true := decide_eq_true c9
                clear c9
                have H' := Aside0.mk H
                clear H
                have p109 : 0 ≤ (x13_1 : Int) := of_decide_eq_true pA
                have q109 : x13_1 < (l0.length : Int) := of_decide_eq_true pA
                obtain ⟨ad109, e109, hx109_0⟩ := Kd.at_int HR0.out x13_1 p109 q109
                cases e109
                replace hx109_0 := (HB.out.cell (World.block_lt_of_cell? w _ hx109_0)).trans hx109_0
                replace p109 := eq_true p109
                replace q109 := eq_true q109
                go_wp2
                go_loopg [3, 17] k1 (fun kq v3 v17 w' => ∃ (x3_2 : List Int) (x17_2 : Int), v17 = .int .i64 x17_2 ∧ Aside0 (word_Bytes.l1 kq x3_2 (rd l0 x13_1) l0 (l0.length : Int) x13_1 x17_2 = some r) ∧ Aside0 (kq ≤ k1) ∧ Aside0 (Kd.R (Kd.int .u8) 5 w' w.heap.size (fun _ => True) v3 x3_2) ∧ Aside0 (Below w.heap.size w w'))
                case atStart => exact ⟨(x3_1), (0), (by first | rfl | (simp; done) | (simp [*]; done)), H', ⟨Nat.le_refl _⟩, ⟨pR HO_3⟩, ⟨pB⟩⟩
                case round =>
                  clear H'
                  try clear p1
                  try clear q1
                  try clear hx1
                  try clear p2
                  try clear c3
                  try clear c3b0
                  try clear c3b1
                  try clear c4
                  try clear c4b0
                  try clear c4b1
                  try clear p6
                  try clear c7
                  try clear c7b0
                  try clear c8
                  try clear c8b0
                  try clear c9
                  try clear c9b0
                  try clear hx109_0
                  try clear p109
                  try clear p2
                  try clear p6
                  try clear q109
                  obtain ⟨x3_2, x17_2, rfl, HA, HK2, HO_3, HB⟩ := hrel
                  cases gk with
                  | zero => exact absurd HA.out (by simp [word_Bytes.l1])
                  | succ k2 =>
                    have H := HA.out
                    clear HA
                    simp only [word_Bytes.l1] at H
                    by_cases c10 : x17_2 < 8
                    · rw [if_pos c10] at H
                      have c10b0 : decide (x17_2 < 8) = true := decide_eq_true c10
                      clear c10
                      obtain ⟨ji11, hji11⟩ : ∃ j_ : Int, (IntKind.u64.wrap (wrap64 (8 * x17_2))) = j_ := ⟨_, rfl⟩
                      replace H : (if 0 ≤ (ji11) then (if x3_2.length < 140737488355328 then (word_Bytes.l1 k2 (x3_2 ++ [(shr .u64 (rd l0 x13_1) (ji11)) % 256]) (rd l0 x13_1) l0 (l0.length : Int) x13_1 (wrap64 (x17_2 + 1))) else (none)) else (none)) = some r := by first | (rw [hji11] at H; exact H) | (simp only [hji11] at H ⊢; exact H)
                      by_cases c12 : 0 ≤ (ji11)
                      · rw [if_pos c12] at H
                        have c12b0 := eq_true c12
                        have c12b1 : decide (0 ≤ (ji11)) = true := decide_eq_true c12
                        clear c12
                        obtain ⟨ji13, hji13⟩ : ∃ j_ : Int, (shr .u64 (rd l0 x13_1) (ji11)) = j_ := ⟨_, rfl⟩
                        replace H : (if x3_2.length < 140737488355328 then (word_Bytes.l1 k2 (x3_2 ++ [(ji13) % 256]) (rd l0 x13_1) l0 (l0.length : Int) x13_1 (wrap64 (x17_2 + 1))) else (none)) = some r := by first | (rw [hji13] at H; exact H) | (simp only [hji13] at H ⊢; exact H)
                        have hji13_ : ((rd l0 x13_1) / 2 ^ min (ji11).toNat 64) = ji13 := hji13
                        have hji13z : (ji11) ≤ 64 → ((rd l0 x13_1) / 2 ^ (ji11).toNat) = ji13 := shr_small hji13
                        by_cases c14 : x3_2.length < 140737488355328
                        · rw [if_pos c14] at H
                          have LMc14 := Aside0.mk c14
                          clear c14
                          obtain ⟨y110, hy110⟩ : ∃ y_ : List Int, y_ = (x3_2 ++ [(ji13) % 256]) := ⟨_, rfl⟩
                          replace H : (word_Bytes.l1 k2 y110 (rd l0 x13_1) l0 (l0.length : Int) x13_1 (wrap64 (x17_2 + 1))) = some r := by first | (rw [hy110]; with_reducible exact H) | (have H2_ := (Option.bind_some _ _).symm.trans H; rw [hy110]; with_reducible exact H2_) | (have H2_ := (Option.bind_some _ _).symm.trans H; with_reducible exact H2_) | with_reducible exact H | (rw [hy110]; exact H) | exact H
                          have Ny110 := Aside0.mk hy110
                          clear hy110
                          have H' := Aside0.mk H
                          clear H
                          go_wp2_with (first | ((with_reducible refine gate_builtin (b := .append) (xs := #[.tmp 20, .tmp 27]) rfl ?_); at_builtin; refine Kd.R_append (Kd.int .u8) (w0 := w) w.heap.size rfl (.tmp 20) (.tmp 27) 22 5 (.int .u8 0) 1 rfl Tryz.underlying22 info5 rfl (by decide) (by omega) u3 x3_2 ((ji13) % 256) [.int .u8 ((ji13) % 256)] (fun _ => True) (fun _ => False) rfl rfl ?aP (fun _ hk => hk.elim) ?aF ?aO ?aB ?aS ?aL ?_; (case aP => exact rfl); (case aB => exact pB); (case aF => exact (fun _ _ => trivial)); (case aO => exact (pR HO_3)); (case aS => exact (below_size pB)); (case aL => have := LMc14.out; omega); intro v111 w15 ho hb hg hat; rw [← Ny110.out] at ho; have n0_ := Aside0.mk (hb); have n1_ := Aside0.mk (ho); clear HB; clear HO_3; have HB := n0_; have HO112 := n1_; clear n0_ n1_; clear ho hb hg hat))
                          (first | go_roundg k2 | ((try subst hji2); (try subst hji11); (try subst hji13); go_roundg k2))
                          case measure => have := HK1.out; have := HK2.out; omega
                          case rel => exact ⟨(y110), (wrap64 (x17_2 + 1)), (by first | rfl | (simp; done) | (simp [*]; done)), H', ⟨by have := HK1.out; have := HK2.out; omega⟩, ⟨pR HO112⟩, ⟨pB⟩⟩
                        · rw [if_neg c14] at H
                          exact absurd H (by simp)
                      · rw [if_neg c12] at H
                        exact absurd H (by simp)
                    · rw [if_neg c10] at H
                      have c10b0 : decide (x17_2 < 8) = false := decide_eq_false c10
                      clear c10
                      have H' := Aside0.mk H
                      clear H
                      go_wp2
                      (first | go_roundg k2 | ((try subst hji2); go_roundg k2))
                      case measure => have := HK1.out; have := HK2.out; omega
                      case rel => exact ⟨(x3_2), (wrap64 (x13_1 + 1)), (by first | rfl | (simp; done) | (simp [*]; done)), H', ⟨by have := HK1.out; have := HK2.out; omega⟩, ⟨pR HO_3⟩, ⟨pB⟩⟩
              · rw [if_neg c9] at H
                exact absurd H (by simp)
            · rw [if_neg c8] at H
              exact absurd H (by simp)
          · rw [if_neg c7] at H
            have c7b0 : decide (x13_1 < (l0.length : Int)) = false := decide_eq_false c7
            clear c7
            obtain rfl := Option.some.inj H
            go_wp2
            go_ret
            exact ⟨_, by first | rfl | (simp [errW_none, errW_some] <;> rfl) | (simp only [← hji2]; first | rfl | (simp [errW_none, errW_some] <;> rfl)) | (simp [*, errW_none, errW_some] <;> rfl), by (with_reducible repeat (first | apply Kd.R_alloc | apply Kd.R_drewN | apply Kd.R_drew)); exact HO_3.out, pB⟩
    · rw [if_neg c4] at H
      exact absurd H (by simp)
  · rw [if_neg c3] at H
    exact absurd H (by simp)
end Go.Proofs.YthghblmffdfbaaaGreatDoor.PUnBase
