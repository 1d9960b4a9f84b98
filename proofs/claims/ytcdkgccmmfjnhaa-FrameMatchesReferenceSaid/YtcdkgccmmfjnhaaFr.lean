/- Package frame: the panicking must, an entry of the table. -/
import Derived.Test.YtcdkgccmmfjnhaaQFrBase
import Derived.Defers
import Derived.Recover
import Derived.WalkMore
import Derived.WalkSmall
import Derived.WalkLawsBesides
namespace Go.Proofs.Ytcdkgccmmfjnhaa.Fm
open Go Go.RowKit Go.Proofs.Ytcdkgccmmfjnhaa Go.Proofs.Ytcdkgccmmfjnhaa.M Go.Proofs.Ytcdkgccmmfjnhaa.PFrBase Go.Proofs.Ytcdkgccmmfjnhaa.QFrBase Go.Proofs.YtcdkgccmmfjnhaaW.PrintWords Go.Proofs.YtcdkgccmmfjnhaaW.PrintLast Go.Proofs.YtcdkgccmmfjnhaaW.PrintMore
attribute [local go_sem] max2_int min2_int max_two min_two
set_option linter.unusedVariables false
set_option linter.unusedSimpArgs false
set_option maxHeartbeats 8000000
set_option maxRecDepth 100000

/-- The panic of must. -/
def pm : PanicEntry := { v := .iface 45 (.agg #[]), recovered := false }
theorem must_true (w : World) : Calls Try.prog 20 #[.bool true] w fun e w' => e = .returned (.tuple #[]) ∧ w' = w := by
  go_enter Try.func20, Try.ntmps20
  go_wp2
  go_end0
  exact ⟨rfl, rfl⟩
theorem must_false (w : World) : Calls Try.prog 20 #[.bool false] w fun e w' => e = .panicked [pm] ∧ w' = w := by
  go_enter Try.func20, Try.ntmps20
  go_wp2
  exact ⟨rfl, rfl, rfl⟩
/-- The i-th entry. -/
def num4 (b : List Int) (i : Nat) : Int := rd b ((4 * i : Nat) : Int) + 256 * rd b ((4 * i + 1 : Nat) : Int) + 65536 * rd b ((4 * i + 2 : Nat) : Int) + 16777216 * rd b ((4 * i + 3 : Nat) : Int)
def accN (b : List Int) (i : Nat) : Nat → Int
  | 0 => 0
  | m + 1 => accN b i m * 256 + rd b ((4 * i + (3 - m) : Nat) : Int)
theorem accN_range {b : List Int} (hB : IsB b) (i : Nat) : ∀ m : Nat, m ≤ 4 → 0 ≤ accN b i m ∧ accN b i m < 256 ^ m
  | 0, _ => by simp [accN]
  | m + 1, h => by
    obtain ⟨h1, h2⟩ := accN_range hB i m (by omega)
    have h3 := rd_B hB ((4 * i + (3 - m) : Nat) : Int)
    have e : (256 : Int) ^ (m + 1) = 256 ^ m * 256 := Int.pow_succ 256 m
    unfold accN
    rw [e]
    omega
theorem accN_4 (b : List Int) (i : Nat) : accN b i 4 = num4 b i := by
  unfold num4
  simp only [accN, Nat.sub_zero, Nat.sub_self, Nat.add_zero, show 3 - 1 = 2 from rfl, show 3 - 2 = 1 from rfl]
  omega
theorem or_step {a c : Int} (a0 : 0 ≤ a) (a1 : a < 16777216) (c0 : 0 ≤ c) (c1 : c < 256) : Go.bits .or .i64 (wrap64 (a * 256)) (wrap64 c) = a * 256 + c := by
  rw [w64 (by omega) (by omega), w64 (x := c) (by omega) (by omega)]
  obtain ⟨n, rfl⟩ : ∃ n : Nat, a = (n : Int) := ⟨a.toNat, by omega⟩
  obtain ⟨m, rfl⟩ : ∃ m : Nat, c = (m : Int) := ⟨c.toNat, by omega⟩
  have e : ((n : Int) * 256) = ((n * 256 : Nat) : Int) := by omega
  rw [e]
  show IntKind.i64.wrap (((BitVec.ofInt 64 ((n * 256 : Nat) : Int)) ||| (BitVec.ofInt 64 (m : Int))).toNat : Int) = _
  rw [ofInt_nat, ofInt_nat, BitVec.toNat_or, BitVec.toNat_ofNat, BitVec.toNat_ofNat, Nat.mod_eq_of_lt (by omega), Nat.mod_eq_of_lt (by omega), Nat.mul_comm n 256, show (256 : Nat) = 2 ^ 8 by decide, ← Nat.two_pow_add_eq_or_of_lt (by omega)]
  rw [i64_w, w64 (by omega) (by omega)]
  omega
theorem number_ok {w : World} {A : Option Addr} {c : Nat} {b : List Int} {i : Nat} (hin : Kd.C (Kd.int .u8) w A b.length b) (hc : b.length ≤ c) (hB : IsB b) (hi : 4 * (i + 1) ≤ b.length) (hl : b.length ≤ 1000000) :
    Calls Try.prog 19 #[.slice A b.length c, .int .i64 (i : Int)] w fun e w' => e = .returned (.int .i64 (num4 b i)) ∧ Drawn0 w w' := by
  have HR0 := Aside0.mk hin
  have HBB := Aside0.mk hB
  have HHC := Aside0.mk hc
  have e1 : wrap64 ((i : Int) + 1) = (i : Int) + 1 := w64 (by omega) (by omega)
  have e2 : wrap64 (4 * ((i : Int) + 1)) = 4 * ((i : Int) + 1) := w64 (by omega) (by omega)
  have e3 : decide (4 * ((i : Int) + 1) ≤ (b.length : Int)) = true := decide_eq_true (by omega)
  have HI := Aside0.mk hi
  have HL := Aside0.mk hl
  clear hin hc hB
  go_enter Try.func19, Try.ntmps19
  go_wp2_with (first | (go_at_call 20; refine (must_true _).mono ?_; rintro e w ⟨rfl, rfl⟩))
  go_loopg [5, 6] 4 (fun kq v5 v6 w' => ∃ m : Nat, Aside0 (m ≤ 4 ∧ kq + m = 4) ∧ v5 = .int .i64 (accN b i m) ∧ v6 = .int .i64 (3 - (m : Int)) ∧ Drawn0 w w')
  case atStart => exact ⟨0, ⟨by omega, by omega⟩, rfl, rfl, Drawn0.refl _⟩
  case round =>
    obtain ⟨m, ⟨hm1, hm2⟩, rfl, rfl, ⟨m1, rfl⟩⟩ := hrel
    cases gk with
    | zero =>
      obtain rfl : m = 4 := by omega
      have c0 : decide ((0 : Int) ≤ 3 - ((4 : Nat) : Int)) = false := by decide
      go_wp2
      go_ret
      exact ⟨by rw [accN_4]; rfl, by repeat (first | exact Drawn0.refl _ | apply Drawn0.step)⟩
    | succ k1 =>
      have c0 : decide ((0 : Int) ≤ 3 - (m : Int)) = true := decide_eq_true (by omega)
      have e4 : wrap64 (4 * (i : Int)) = 4 * (i : Int) := w64 (by omega) (by omega)
      have e5 : wrap64 (4 * (i : Int) + (3 - (m : Int))) = ((4 * i + (3 - m) : Nat) : Int) := by rw [w64 (by omega) (by omega)]; omega
      have e6 : wrap64 (3 - (m : Int) - 1) = 3 - ((m + 1 : Nat) : Int) := by rw [w64 (by omega) (by omega)]; omega
      obtain ⟨ad, e7, h7⟩ := Kd.at_int HR0.out ((4 * i + (3 - m) : Nat) : Int) (by omega) (by omega)
      cases e7
      rw [Int.toNat_natCast] at h7
      have p1 := eq_true (show (0 : Int) ≤ ((4 * i + (3 - m) : Nat) : Int) by omega)
      have p2 := eq_true (show ((4 * i + (3 - m) : Nat) : Int) < (b.length : Int) by omega)
      go_wp2
      go_roundg k1
      case measure => omega
      case rel =>
        have hr := accN_range HBB.out i m hm1
        have hm4 : (256 : Int) ^ m ≤ 16777216 := by
          obtain h | h | h | h : m = 0 ∨ m = 1 ∨ m = 2 ∨ m = 3 := by omega
          all_goals (subst h; decide)
        have hb := rd_B HBB.out ((4 * i + (3 - m) : Nat) : Int)
        have e8 : (4 * (i : Int) + ((3 - m : Nat) : Int)) = ((4 * i + (3 - m) : Nat) : Int) := by omega
        refine ⟨m + 1, ⟨by omega, by omega⟩, ?_, ?_, by repeat (first | exact Drawn0.refl _ | apply Drawn0.step)⟩
        · rw [e8, or_step hr.1 (by omega) hb.1 hb.2]; rfl
        · congr 1; omega
/-- An entry that is not there: must panics. -/
theorem number_short {w : World} {A : Option Addr} {c : Nat} {b : List Int} {i : Nat} (hi : b.length < 4 * (i + 1)) (hl : i ≤ 1000000) :
    Calls Try.prog 19 #[.slice A b.length c, .int .i64 (i : Int)] w fun e w' => e = .panicked [pm] ∧ w' = w := by
  have e1 : wrap64 ((i : Int) + 1) = (i : Int) + 1 := w64 (by omega) (by omega)
  have e2 : wrap64 (4 * ((i : Int) + 1)) = 4 * ((i : Int) + 1) := w64 (by omega) (by omega)
  have e3 : decide (4 * ((i : Int) + 1) ≤ (b.length : Int)) = false := decide_eq_false (by omega)
  go_enter Try.func19, Try.ntmps19
  go_wp2_with (first | (go_at_call 20; refine (must_false _).mono ?_; rintro e w ⟨rfl, rfl⟩))
  exact ⟨rfl, rfl, rfl⟩
end Go.Proofs.Ytcdkgccmmfjnhaa.Fm
