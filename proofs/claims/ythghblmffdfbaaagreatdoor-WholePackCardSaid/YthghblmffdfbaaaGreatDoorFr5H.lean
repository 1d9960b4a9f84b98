/- Package frame: the panicking must, an entry of the table. -/
import Derived.Test.YthghblmffdfbaaaGreatDoorQFrBaseH
import Derived.Defers
import Derived.Recover
import Derived.WalkMore
import Derived.WalkSmall
import Derived.WalkLawsBesides
import Derived.Deep.RegionWith
import Derived.Deep.RegionLaw

namespace Go.Proofs.YthghblmffdfbaaaGreatDoor.Fm
open Go Go.RowKit Go.Proofs.YthghblmffdfbaaaGreatDoor Go.Proofs.YthghblmffdfbaaaGreatDoor.M Go.Proofs.YthghblmffdfbaaaGreatDoor.PFrBase Go.Proofs.YthghblmffdfbaaaGreatDoor.QFrBase Go.Proofs.YthghblmffdfbaaaGreatDoorW.PrintWords Go.Proofs.YthghblmffdfbaaaGreatDoorW.PrintLast Go.Proofs.YthghblmffdfbaaaGreatDoorW.PrintMore
attribute [local go_sem] max2_int min2_int max_two min_two
set_option linter.unusedVariables false
set_option linter.unusedSimpArgs false
set_option maxHeartbeats 8000000
set_option maxRecDepth 100000
def pm : PanicEntry := { v := .iface 189 (.agg #[]), recovered := false }
theorem must_true (w : World) : Calls Tryz.prog 109 #[.bool true] w fun e w' => e = .returned (.tuple #[]) ∧ w' = w := by
  go_enter Tryz.func109, Tryz.ntmps109
  go_wp2
  go_end0
  exact ⟨rfl, rfl⟩
theorem must_false (w : World) : Calls Tryz.prog 109 #[.bool false] w fun e w' => e = .panicked [pm] ∧ w' = w := by
  go_enter Tryz.func109, Tryz.ntmps109
  go_wp2
  exact ⟨rfl, rfl, rfl⟩
def num4 (b : List Int) (i : Nat) : Int := rd b ((4 * i : Nat) : Int) + 256 * rd b ((4 * i + 1 : Nat) : Int) + 65536 * rd b ((4 * i + 2 : Nat) : Int) + 16777216 * rd b ((4 * i + 3 : Nat) : Int)
def accN (b : List Int) (i : Nat) : Nat → Int
  | 0 => 0
  | m + 1 => accN b i m * 256 + rd b ((4 * i + (3 - m) : Nat) : Int)
theorem accN_range {b : List Int} (hB : IsB b) (i : Nat) : ∀ m : Nat, m ≤ 4 → 0 ≤ accN b i m ∧ accN b i m < 256 ^ m
  | 0, _ => by simp [accN]
  | m + 1, h => by
    obtain ⟨h1, h2⟩ := accN_range hB i m (by omega)
    have h3 := rd_B hB ((4 * i + (3 - m) : Nat) : Int)
    have e : (256 : Int) ^ (m + 1) = 256 ^ m * 256 := Int.pow_succ 256 m
    unfold accN
    rw [e]
    omega
theorem accN_4 (b : List Int) (i : Nat) : accN b i 4 = num4 b i := by
  unfold num4
  simp only [accN, Nat.sub_zero, Nat.sub_self, Nat.add_zero, show 3 - 1 = 2 from rfl, show 3 - 2 = 1 from rfl]
  omega
theorem or_step {a c : Int} (a0 : 0 ≤ a) (a1 : a < 16777216) (c0 : 0 ≤ c) (c1 : c < 256) : Go.bits .or .i64 (wrap64 (a * 256)) (wrap64 c) = a * 256 + c := by
  rw [w64 (by omega) (by omega), w64 (x := c) (by omega) (by omega)]
  obtain ⟨n, rfl⟩ : ∃ n : Nat, a = (n : Int) := ⟨a.toNat, by omega⟩
  obtain ⟨m, rfl⟩ : ∃ m : Nat, c = (m : Int) := ⟨c.toNat, by omega⟩
  have e : ((n : Int) * 256) = ((n * 256 : Nat) : Int) := by omega
  rw [e]
  show IntKind.i64.wrap (((BitVec.ofInt 64 ((n * 256 : Nat) : Int)) ||| (BitVec.ofInt 64 (m : Int))).toNat : Int) = _
  rw [ofInt_nat, ofInt_nat, BitVec.toNat_or, BitVec.toNat_ofNat, BitVec.toNat_ofNat, Nat.mod_eq_of_lt (by omega), Nat.mod_eq_of_lt (by omega), Nat.mul_comm n 256, show (256 : Nat) = 2 ^ 8 by decide, ← Nat.two_pow_add_eq_or_of_lt (by omega)]
  rw [i64_w, w64 (by omega) (by omega)]
  omega
theorem number_ok {w : World} {A : Option Addr} {c : Nat} {b : List Int} {i : Nat} (hin : Kd.C (Kd.int .u8) w A b.length b) (hc : b.length ≤ c) (hB : IsB b) (hi : 4 * (i + 1) ≤ b.length) (hl : b.length ≤ 1000000) :
    Calls Tryz.prog 108 #[.slice A b.length c, .int .i64 (i : Int)] w fun e w' => e = .returned (.int .i64 (num4 b i)) ∧ Drawn0 w w' := by
  have HR0 := Aside0.mk hin
  have HBB := Aside0.mk hB
  have HHC := Aside0.mk hc
  have e1 : wrap64 ((i : Int) + 1) = (i : Int) + 1 := w64 (by omega) (by omega)
  have e2 : wrap64 (4 * ((i : Int) + 1)) = 4 * ((i : Int) + 1) := w64 (by omega) (by omega)
  have e3 : decide (4 * ((i : Int) + 1) ≤ (b.length : Int)) = true := decide_eq_true (by omega)
  have HI := Aside0.mk hi
  have HL := Aside0.mk hl
  clear hin hc hB
  go_enter Tryz.func108, Tryz.ntmps108
  go_wp2_with (first | (go_at_call 109; refine (must_true _).mono ?_; rintro e w ⟨rfl, rfl⟩))
  go_loopg [5, 6] 4 (fun kq v5 v6 w' => ∃ m : Nat, Aside0 (m ≤ 4 ∧ kq + m = 4) ∧ v5 = .int .i64 (accN b i m) ∧ v6 = .int .i64 (3 - (m : Int)) ∧ Drawn0 w w')
  case atStart => exact ⟨0, ⟨by omega, by omega⟩, rfl, rfl, Drawn0.refl _⟩
  case round =>
    obtain ⟨m, ⟨hm1, hm2⟩, rfl, rfl, ⟨m1, rfl⟩⟩ := hrel
    cases gk with
    | zero =>
      obtain rfl : m = 4 := by omega
      have c0 : decide ((0 : Int) ≤ 3 - ((4 : Nat) : Int)) = false := by decide
      go_wp2
      go_ret
      exact ⟨by rw [accN_4]; rfl, by repeat (first | exact Drawn0.refl _ | apply Drawn0.step)⟩
    | succ k1 =>
      have c0 : decide ((0 : Int) ≤ 3 - (m : Int)) = true := decide_eq_true (by omega)
      have e4 : wrap64 (4 * (i : Int)) = 4 * (i : Int) := w64 (by omega) (by omega)
      have e5 : wrap64 (4 * (i : Int) + (3 - (m : Int))) = ((4 * i + (3 - m) : Nat) : Int) := by rw [w64 (by omega) (by omega)]; omega
      have e6 : wrap64 (3 - (m : Int) - 1) = 3 - ((m + 1 : Nat) : Int) := by rw [w64 (by omega) (by omega)]; omega
      obtain ⟨ad, e7, h7⟩ := Kd.at_int HR0.out ((4 * i + (3 - m) : Nat) : Int) (by omega) (by omega)
      cases e7
      rw [Int.toNat_natCast] at h7
      have p1 := eq_true (show (0 : Int) ≤ ((4 * i + (3 - m) : Nat) : Int) by omega)
      have p2 := eq_true (show ((4 * i + (3 - m) : Nat) : Int) < (b.length : Int) by omega)
      go_wp2
      go_roundg k1
      case measure => omega
      case rel =>
        have hr := accN_range HBB.out i m hm1
        have hm4 : (256 : Int) ^ m ≤ 16777216 := by
          obtain h | h | h | h : m = 0 ∨ m = 1 ∨ m = 2 ∨ m = 3 := by omega
          all_goals (subst h; decide)
        have hb := rd_B HBB.out ((4 * i + (3 - m) : Nat) : Int)
        have e8 : (4 * (i : Int) + ((3 - m : Nat) : Int)) = ((4 * i + (3 - m) : Nat) : Int) := by omega
        refine ⟨m + 1, ⟨by omega, by omega⟩, ?_, ?_, by repeat (first | exact Drawn0.refl _ | apply Drawn0.step)⟩
        · rw [e8, or_step hr.1 (by omega) hb.1 hb.2]; rfl
        · congr 1; omega
theorem number_short {w : World} {A : Option Addr} {c : Nat} {b : List Int} {i : Nat} (hi : b.length < 4 * (i + 1)) (hl : i ≤ 1000000) :
    Calls Tryz.prog 108 #[.slice A b.length c, .int .i64 (i : Int)] w fun e w' => e = .panicked [pm] ∧ w' = w := by
  have e1 : wrap64 ((i : Int) + 1) = (i : Int) + 1 := w64 (by omega) (by omega)
  have e2 : wrap64 (4 * ((i : Int) + 1)) = 4 * ((i : Int) + 1) := w64 (by omega) (by omega)
  have e3 : decide (4 * ((i : Int) + 1) ≤ (b.length : Int)) = false := decide_eq_false (by omega)
  go_enter Tryz.func108, Tryz.ntmps108
  go_wp2_with (first | (go_at_call 109; refine (must_false _).mono ?_; rintro e w ⟨rfl, rfl⟩))
  exact ⟨rfl, rfl, rfl⟩
end Go.Proofs.YthghblmffdfbaaaGreatDoor.Fm

/- Package frame: the deferred closure of Parse. -/
namespace Go.Proofs.YthghblmffdfbaaaGreatDoor.Fm
open Go Go.RowKit Go.Proofs.YthghblmffdfbaaaGreatDoor Go.Proofs.YthghblmffdfbaaaGreatDoor.M Go.Proofs.YthghblmffdfbaaaGreatDoor.PFrBase Go.Proofs.YthghblmffdfbaaaGreatDoor.QFrBase Go.Proofs.YthghblmffdfbaaaGreatDoorW.PrintWords Go.Proofs.YthghblmffdfbaaaGreatDoorW.PrintLast Go.Proofs.YthghblmffdfbaaaGreatDoorW.PrintMore
attribute [local go_sem] max2_int min2_int max_two min_two
set_option linter.unusedVariables false
set_option linter.unusedSimpArgs false
set_option maxHeartbeats 8000000
set_option maxRecDepth 100000
theorem catch_idle (p q : Addr) (w : World) :
    CallsD Tryz.prog 107 #[.pointer (some p), .pointer (some q)] .returning w fun e u' w' => e = .returned (.tuple #[]) ∧ u' = .returning ∧ w' = w := by
  refine callsD_of_wpS Tryz.func107 rfl fun c₀ cs hu => ?_
  apply wpS_seq
  apply wpS_region
  simp [wpOpsS, go_sem, recoverD, hu, Tryz.ntmps107, Exit.thenS]
  apply wpS_seq
  apply wpS_region
  simp [wpOpsS, go_sem, recoverD, hu, Tryz.ntmps107, Exit.thenS]
  refine wpS_cond (t := false) (by simp [Act.eval, Array.replicate]) ?_
  simp only [Bool.false_eq_true, if_false]
  refine wpS_of_wp (wp_skip ?_)
  cases c₀
  simp_all [bodyPostS, results, Tryz.results107]
theorem block_lt {w : World} {g : Nat} {o : Obj} (h : w.heap[g]? = some o) : g < w.heap.size := (Array.getElem?_eq_some_iff.mp h).1
theorem cell_of {w : World} {g : Nat} {x : Value} {t : TypeId} (h : w.heap[g]? = some (.cells #[x] t (0, 0))) : w.cell? ⟨g, 0, none⟩ = some x := by simp [World.cell?, h]
theorem froz_of {w : World} {g : Nat} {x : Value} {t : TypeId} (h : w.heap[g]? = some (.cells #[x] t (0, 0))) : w.frozen? ⟨g, 0, none⟩ = false := by simp [World.frozen?, h]
theorem alloc_of {w : World} {g : Nat} {o o' : Obj} (h : w.heap[g]? = some o) : (w.alloc o').heap[g]? = some o := by
  have := (below_alloc (Below.refl w.heap.size w) o').block g (block_lt h)
  rw [this]; exact h
theorem set_of {w : World} {g g' : Nat} {o : Obj} {x : Value} (h : w.heap[g]? = some o) (hne : g ≠ g') : (w.setCell ⟨g', 0, none⟩ x).heap[g]? = some o := by
  rw [Below.heap_setCell w ⟨g', 0, none⟩ x g hne]; exact h
def caught (w : World) (p q : Nat) : World := ((w.alloc (.cells #[] 189)).setCell ⟨p, 0, none⟩ (.slice none 0 0)).setCell ⟨q, 0, none⟩ (.int .i64 1)
theorem catch_panicking {p q : Nat} {w : World} {u v : Value} {tp tq : TypeId} (hP : w.heap[p]? = some (.cells #[u] tp (0, 0))) (hQ : w.heap[q]? = some (.cells #[v] tq (0, 0))) (hne : q ≠ p) :
    CallsD Tryz.prog 107 #[.pointer (some ⟨p, 0, none⟩), .pointer (some ⟨q, 0, none⟩)] (.panicking [pm]) w fun e u' w' =>
      e = .returned (.tuple #[]) ∧ u' = .panicking [{ pm with recovered := true }] ∧ w' = caught w p q := by
  have hp := cell_of (alloc_of (o' := .cells #[] 189) hP)
  have hzp := froz_of (alloc_of (o' := .cells #[] 189) hP)
  have hq := cell_of (set_of (x := .slice none 0 0) (alloc_of (o' := .cells #[] 189) hQ) hne)
  have hzq := froz_of (set_of (x := .slice none 0 0) (alloc_of (o' := .cells #[] 189) hQ) hne)
  unfold caught
  refine callsD_of_wpS Tryz.func107 rfl fun c₀ cs hu => ?_
  unfold pm at hu
  have hta : ∀ w : World, (Instr.typeAssert (.iface 189 (.agg #[])) 20 189 true).run Tryz.prog w = .ok (.tuple #[.agg #[], .bool true]) w := fun _ => by kernel_rfl
  have ht0 : (#[Value.pointer (some ⟨p, 0, none⟩), Value.pointer (some ⟨q, 0, none⟩)] ++ Array.replicate (Tryz.f107.ntmps - (#[Value.pointer (some ⟨p, 0, none⟩), Value.pointer (some ⟨q, 0, none⟩)] : Array Value).size) undef : Array Value) = #[.pointer (some ⟨p, 0, none⟩), .pointer (some ⟨q, 0, none⟩), undef, undef, undef, undef, undef, undef, undef, undef, undef, undef, undef, undef, undef, undef] := by kernel_rfl
  rw [ht0]
  apply wpS_seq
  apply wpS_region
  simp [wpOpsS, go_sem, recoverD, hu, Exit.thenS]
  refine wpS_of_wp ?_
  go_wp2
  cases c₀
  simp [bodyPostS, results, Tryz.results107, pm, go_sem]
end Go.Proofs.YthghblmffdfbaaaGreatDoor.Fm

/- Package frame: Parse, where it panics ahead of its loop. -/
namespace Go.Proofs.YthghblmffdfbaaaGreatDoor.Fm
open Go Go.RowKit Go.Proofs.YthghblmffdfbaaaGreatDoor Go.Proofs.YthghblmffdfbaaaGreatDoor.M Go.Proofs.YthghblmffdfbaaaGreatDoor.PFrBase Go.Proofs.YthghblmffdfbaaaGreatDoor.QFrBase Go.Proofs.YthghblmffdfbaaaGreatDoorW.PrintWords Go.Proofs.YthghblmffdfbaaaGreatDoorW.PrintLast Go.Proofs.YthghblmffdfbaaaGreatDoorW.PrintMore
attribute [local go_sem] max2_int min2_int max_two min_two
set_option linter.unusedVariables false
set_option linter.unusedSimpArgs false
set_option maxHeartbeats 8000000
set_option maxRecDepth 100000
theorem info5 : (Tryz.prog.info? 5).map (fun i => (i.zero, i.size, i.bytes)) = some (some (.int .u8 0), 1, 1) := by kernel_rfl
def Res (w : World) (S : List (List Int)) (r : Int) : Ending → World → Prop := fun e w' => ∃ v0_ : Value, e = .returned (.tuple #[v0_, .int .i64 r]) ∧ Kd.S (Kd.slice 61 (Kd.int .u64)) 27 w' w.heap.size (fun _ => True) v0_ S ∧ Below w.heap.size w w'
structure PS (W0 : World) (w : World) (v : Value) (S : List (List Int)) : Prop where
  cp : w.heap[W0.heap.size]? = some (.cells #[v] 38 (0, 0))
  cq : w.heap[W0.heap.size + 1]? = some (.cells #[.int .i64 0] 24 (0, 0))
  rows : Kd.S (Kd.slice 61 (Kd.int .u64)) 27 w W0.heap.size (fun k => k ≠ W0.heap.size ∧ k ≠ W0.heap.size + 1) v S
  bel : Below W0.heap.size W0 w
def W1 (w : World) : World := (w.alloc (.cells #[.slice none 0 0] 38)).alloc (.cells #[.int .i64 0] 24)
theorem PS.start (w : World) : PS w (W1 w) (.slice none 0 0) [] := by
  refine ⟨blk_alloc (blk_new w _) _, ?_, Kd.S_nil _ _ _ _ _, below_alloc (below_alloc (Below.refl _ _) _) _⟩
  have := blk_new (w.alloc (.cells #[.slice none 0 0] 38)) (.cells #[.int .i64 0] 24)
  rwa [show (w.alloc (.cells #[.slice none 0 0] 38)).heap.size = w.heap.size + 1 by simp] at this
def dfr (p : Nat) : Deferred := { target := .fn (.func 107) #[.pointer (some ⟨p, 0, none⟩), .pointer (some ⟨p + 1, 0, none⟩)], args := #[] }
theorem PS.bad {W0 w : World} {v : Value} {S : List (List Int)} (h : PS W0 w v S) {tmps : Array Value} (h2 : tmps[2]? = some (.pointer (some ⟨W0.heap.size, 0, none⟩))) (h3 : tmps[3]? = some (.pointer (some ⟨W0.heap.size + 1, 0, none⟩))) :
    Leaves Tryz.prog Tryz.f69 tmps (Res W0 [] 1) [dfr W0.heap.size] (.panicking [pm]) w := by
  refine leaves_cons (f := 107) (args := #[.pointer (some ⟨W0.heap.size, 0, none⟩), .pointer (some ⟨W0.heap.size + 1, 0, none⟩)]) (by simp) (by simp [go_sem]) ?_
  refine (catch_panicking h.cp h.cq (by omega)).mono ?_
  rintro e u' w'' ⟨rfl, rfl, rfl⟩
  have k1 := blk_set (blk_alloc h.cp (.cells #[] 189)) 0 (.slice none 0 0)
  have k2 := blk_far (blk_alloc h.cq (.cells #[] 189)) (p := ⟨W0.heap.size, 0, none⟩) (by simp) (.slice none 0 0)
  have k3 := blk_far k1 (p := ⟨W0.heap.size + 1, 0, none⟩) (by simp) (.int .i64 1)
  have k4 := blk_set k2 0 (.int .i64 1)
  have c1 : (caught w W0.heap.size (W0.heap.size + 1)).cell? ⟨W0.heap.size, 0, none⟩ = some (.slice none 0 0) := (blk_cell k3 0).trans rfl
  have c2 : (caught w W0.heap.size (W0.heap.size + 1)).cell? ⟨W0.heap.size + 1, 0, none⟩ = some (.int .i64 1) := (blk_cell k4 0).trans rfl
  have hb : Below W0.heap.size W0 (caught w W0.heap.size (W0.heap.size + 1)) := by
    unfold caught
    exact ((below_alloc h.bel _).setCell (Nat.le_refl _) _).setCell (Nat.le_succ _) _
  simp [Leaves, settle, results, Tryz.results69, go_sem, pm, c1, c2, h2, h3]
  exact ⟨_, rfl, Kd.S_nil _ _ _ _ _, hb⟩
theorem PS.drewN {W0 w : World} {v : Value} {S : List (List Int)} (h : PS W0 w v S) (m : Nat) : PS W0 (w.drewN m) v S := ⟨h.cp, h.cq, Kd.S_drewN h.rows m, pw_below_drewN h.bel m⟩
theorem PS.below {W0 w w' : World} {v : Value} {S : List (List Int)} (h : PS W0 w v S) (hb : Below w.heap.size w w') : PS W0 w' v S := ⟨blk_below h.cp hb, blk_below h.cq hb, Kd.S_below h.rows hb, h.bel.trans (hb.mono h.bel.size)⟩
theorem parse_short {w : World} {A : Option Addr} {c : Nat} {l : List Int} (h : l.length < 4) :
    Calls Tryz.prog 69 #[.slice A l.length c] w (Res w [] 1) := by
  have hmf : ∀ (fn : Fn) (first cap : Array Value) (w : World), (Instr.makeFunc fn first cap).run Tryz.prog w = .ok (.func fn first cap) w := fun _ _ _ _ => rfl
  have HS := Aside0.mk (PS.start w)
  go_enter_defers Tryz.func69, Tryz.ntmps69
  go_wp2_with (first | (go_at_call 108; refine (number_short (i := 0) (by omega) (by omega)).mono ?_; rintro e w2 ⟨rfl, hw⟩))
  subst hw
  exact HS.out.bad rfl rfl
theorem parse_many {w : World} {A : Option Addr} {c N : Nat} {l : List Int} (hin : Kd.C (Kd.int .u8) w A l.length l) (hc : l.length ≤ c) (hB : IsB l) (hl : l.length ≤ 1000000) (h : 4 ≤ l.length) (hn : num4 l 0 + 1 = (N : Int)) (hn2 : 512 < N) (hn3 : N ≤ 4294967296) :
    Calls Tryz.prog 69 #[.slice A l.length c] w (Res w [] 1) := by
  have hmf : ∀ (fn : Fn) (first cap : Array Value) (w : World), (Instr.makeFunc fn first cap).run Tryz.prog w = .ok (.func fn first cap) w := fun _ _ _ _ => rfl
  have HS := Aside0.mk (PS.start w)
  have HR := Aside0.mk (Kd.C_below hin (PS.start w).bel)
  have HB := Aside0.mk hB
  have HC := Aside0.mk hc
  have HL := Aside0.mk hl
  have H4 := Aside0.mk h
  obtain ⟨x, hx⟩ : ∃ x, x = num4 l 0 := ⟨_, rfl⟩
  have HX := Aside0.mk hx
  have e1 : wrap64 (x + 1) = (N : Int) := by rw [hx, hn, w64 (by omega) (by omega)]
  have e2 : decide ((N : Int) ≤ 512) = false := decide_eq_false (by omega)
  clear hin hB hn hx hc hl h
  go_enter_defers Tryz.func69, Tryz.ntmps69
  go_wp2_with (first
    | (go_at_call 108; refine (number_ok (i := 0) HR.out HC.out HB.out H4.out HL.out).mono ?_; rintro e w2 ⟨rfl, ⟨m1, hw⟩⟩; rw [← HX.out])
    | (go_at_call 109; refine (must_false _).mono ?_; rintro e w3 ⟨rfl, hw3⟩))
  exact (HS.out.drewN m1).bad rfl rfl
def tbS (n : Nat) : Nat := (4 * (n + 1) + 7) / 8 * 8
theorem parse_table {w : World} {A : Option Addr} {c N : Nat} {l : List Int} (hin : Kd.C (Kd.int .u8) w A l.length l) (hc : l.length ≤ c) (hB : IsB l) (hl : l.length ≤ 1000000) (h : 4 ≤ l.length) (hn : num4 l 0 + 1 = (N : Int)) (hn2 : N ≤ 512) (hT : l.length < tbS N) :
    Calls Tryz.prog 69 #[.slice A l.length c] w (Res w [] 1) := by
  have hmf : ∀ (fn : Fn) (first cap : Array Value) (w : World), (Instr.makeFunc fn first cap).run Tryz.prog w = .ok (.func fn first cap) w := fun _ _ _ _ => rfl
  have HS := Aside0.mk (PS.start w)
  have HR := Aside0.mk (Kd.C_below hin (PS.start w).bel)
  have HB := Aside0.mk hB
  have HC := Aside0.mk hc
  have HL := Aside0.mk hl
  have H4 := Aside0.mk h
  obtain ⟨x, hx⟩ : ∃ x, x = num4 l 0 := ⟨_, rfl⟩
  have HX := Aside0.mk hx
  have e1 : wrap64 (x + 1) = (N : Int) := by rw [hx, hn, w64 (by omega) (by omega)]
  have e2 : decide ((N : Int) ≤ 512) = true := decide_eq_true (by omega)
  obtain ⟨T, hTe⟩ : ∃ T, T = tbS N := ⟨_, rfl⟩
  rw [← hTe] at hT
  have HT := Aside0.mk (show frame_TableBytes.f (N : Int) = some (T : Int) by rw [hTe]; exact frTable N (by omega))
  have e3 : decide ((T : Int) ≤ (l.length : Int)) = false := decide_eq_false (by omega)
  clear hin hB hn hx hc hl h hTe
  go_enter_defers Tryz.func69, Tryz.ntmps69
  go_wp2_with (first
    | (go_at_call 108; refine (number_ok (i := 0) HR.out HC.out HB.out H4.out HL.out).mono ?_; rintro e w2 ⟨rfl, ⟨m1, hw⟩⟩; rw [← HX.out])
    | (go_at_call 110; refine (frame_TableBytes.calls (N : Int) _ _ HT.out).mono ?_; rintro e w4 ⟨rfl, ⟨m2, hw4⟩⟩)
    | (go_at_call 109; refine (must_true _).mono ?_; rintro e w3 ⟨rfl, hw3⟩)
    | (go_at_call 109; refine (must_false _).mono ?_; rintro e w3 ⟨rfl, hw3⟩))
  exact (HS.out.drewN (m1 + m2)).bad rfl rfl
theorem parse_pad {w : World} {A : Option Addr} {c N : Nat} {l : List Int} (hin : Kd.C (Kd.int .u8) w A l.length l) (hc : l.length ≤ c) (hB : IsB l) (hl : l.length ≤ 1000000) (h : 4 ≤ l.length) (hn : num4 l 0 + 1 = (N : Int)) (hn2 : N ≤ 512) (hT : tbS N ≤ l.length) (hZ : ((l.take (tbS N)).drop (4 * (N + 1))).all (· == 0) = false) :
    Calls Tryz.prog 69 #[.slice A l.length c] w (Res w [] 1) := by
  have hmf : ∀ (fn : Fn) (first cap : Array Value) (w : World), (Instr.makeFunc fn first cap).run Tryz.prog w = .ok (.func fn first cap) w := fun _ _ _ _ => rfl
  have HS := Aside0.mk (PS.start w)
  have HR := Aside0.mk (Kd.C_below hin (PS.start w).bel)
  have HB := Aside0.mk hB
  have HC := Aside0.mk hc
  have HL := Aside0.mk hl
  have H4 := Aside0.mk h
  obtain ⟨x, hx⟩ : ∃ x, x = num4 l 0 := ⟨_, rfl⟩
  have HX := Aside0.mk hx
  have e1 : wrap64 (x + 1) = (N : Int) := by rw [hx, hn, w64 (by omega) (by omega)]
  have e2 : decide ((N : Int) ≤ 512) = true := decide_eq_true (by omega)
  have hTn : 4 * (N + 1) ≤ tbS N := by unfold tbS; omega
  obtain ⟨T, hTe⟩ : ∃ T, T = tbS N := ⟨_, rfl⟩
  rw [← hTe] at hT hZ hTn
  have HT := Aside0.mk (show frame_TableBytes.f (N : Int) = some (T : Int) by rw [hTe]; exact frTable N (by omega))
  have e3 : decide ((T : Int) ≤ (l.length : Int)) = true := decide_eq_true (by omega)
  obtain ⟨Z, hZe⟩ : ∃ Z, Z = (l.take T).drop (4 * (N + 1)) := ⟨_, rfl⟩
  rw [← hZe] at hZ
  obtain ⟨kz, hkz⟩ := Ev.rounds (frZero Z (by rw [hZe, List.length_drop, List.length_take]; omega))
  rw [hZ] at hkz
  have HZ := Aside0.mk hkz
  obtain ⟨i0, hi0, _, hsz, _⟩ := info_parts info5
  obtain ⟨A', hcut, hA', hC'⟩ := print_mid_of (P := Tryz.prog) (Value.int .u8) 0 22 5 .i64 .i64 Tryz.underlying22 hi0 hsz A c l (4 * ((N : Int) + 1)) (T : Int) (by omega) (by omega) (by omega) hc
  rw [Int.toNat_natCast, show (4 * ((N : Int) + 1)).toNat = 4 * (N + 1) by omega, ← hZe] at hcut hA' hC'
  have HR2 := Aside0.mk (Kd.C_of_reads (h1 := fun _ => rfl) (hA' _ (Kd.reads_of_C HR.out)))
  have HC2 := Aside0.mk hC'
  clear hin hB hn hx hc hl h hTe hA' hC' hZ hZe
  go_enter_defers Tryz.func69, Tryz.ntmps69
  go_wp2_with (first
    | (go_at_call 108; refine (number_ok (i := 0) HR.out HC.out HB.out H4.out HL.out).mono ?_; rintro e w2 ⟨rfl, ⟨m1, hw⟩⟩; rw [← HX.out])
    | (go_at_call 110; refine (frame_TableBytes.calls (N : Int) _ _ HT.out).mono ?_; rintro e w4 ⟨rfl, ⟨m2, hw4⟩⟩)
    | (go_at_call 111; go_loud (refine (frame_zero.calls kz _ _ _ _ _ (Kd.C_drewN HR2.out _) HC2.out HZ.out).mono ?_; rintro e w4 ⟨rfl, ⟨m3, hw4⟩⟩))
    | (go_at_call 109; refine (must_true _).mono ?_; rintro e w3 ⟨rfl, hw3⟩)
    | (go_at_call 109; refine (must_false _).mono ?_; rintro e w3 ⟨rfl, hw3⟩))
  exact (HS.out.drewN (m1 + m2 + m3)).bad rfl rfl
end Go.Proofs.YthghblmffdfbaaaGreatDoor.Fm

/- Package frame: Parse, its loop. -/
namespace Go.Proofs.YthghblmffdfbaaaGreatDoor.Fm
open Go Go.RowKit Go.Proofs.YthghblmffdfbaaaGreatDoor Go.Proofs.YthghblmffdfbaaaGreatDoor.M Go.Proofs.YthghblmffdfbaaaGreatDoor.PFrBase Go.Proofs.YthghblmffdfbaaaGreatDoor.QFrBase Go.Proofs.YthghblmffdfbaaaGreatDoorW.PrintWords Go.Proofs.YthghblmffdfbaaaGreatDoorW.PrintLast Go.Proofs.YthghblmffdfbaaaGreatDoorW.PrintMore
attribute [local go_sem] max2_int min2_int max_two min_two
set_option linter.unusedVariables false
set_option linter.unusedSimpArgs false
set_option maxHeartbeats 8000000
set_option maxRecDepth 100000
theorem info41 : (Tryz.prog.info? 27).map (fun i => (i.zero, i.size, i.bytes)) = some (some (.slice none 0 0), 1, 24) := by kernel_rfl
def parseL (l : List Int) : Nat → Nat → List Int → List (List Int) → Option (List (List Int))
  | 0, _, rest, S => if rest.length = 0 then some S else none
  | d + 1, i, rest, S => if num4 l (i + 1) < 536870912 ∧ 8 * num4 l (i + 1) ≤ (rest.length : Int) then parseL l d (i + 1) (rest.drop (8 * num4 l (i + 1)).toNat) (S ++ [wordsS (rest.take (8 * num4 l (i + 1)).toNat)]) else none
theorem num4_range {b : List Int} (hB : IsB b) (i : Nat) : 0 ≤ num4 b i ∧ num4 b i < 4294967296 := by
  have := accN_range hB i 4 (Nat.le_refl _)
  rw [accN_4] at this
  exact ⟨this.1, by have := this.2; omega⟩
theorem number_ok' {w : World} {A : Option Addr} {c : Nat} {b : List Int} {i : Nat} {j : Int} (hj : j = (i : Int)) (hin : Kd.C (Kd.int .u8) w A b.length b) (hc : b.length ≤ c) (hB : IsB b) (hi : 4 * (i + 1) ≤ b.length) (hl : b.length ≤ 1000000) :
    Calls Tryz.prog 108 #[.slice A b.length c, .int .i64 j] w fun e w' => e = .returned (.int .i64 (num4 b i)) ∧ Drawn0 w w' := by
  subst hj; exact number_ok hin hc hB hi hl
theorem words_ok {w : World} {A : Option Addr} {c : Nat} {l : List Int} (hC : Kd.C (Kd.int .u8) w A l.length l) (hc : l.length ≤ c) (hB : IsB l) (h8 : l.length % 8 = 0) (hM : l.length ≤ 1000000000) :
    Calls Tryz.prog 30 #[.slice A l.length c] w fun e w' => ∃ v0_ : Value, e = .returned (.tuple #[v0_, .bool true]) ∧ Kd.R (Kd.int .u64) 61 w' w.heap.size (fun _ => True) v0_ (wordsS l) ∧ Below w.heap.size w w' := by
  obtain ⟨kw, hkw⟩ := Ev.rounds (wordWords_yes l hB (by omega) (by omega))
  exact word_Words.calls kw A c l (wordsS l) true w hC hc hkw
theorem PS.good {W0 w : World} {v : Value} {S : List (List Int)} (h : PS W0 w v S) {tmps : Array Value} (h2 : tmps[2]? = some (.pointer (some ⟨W0.heap.size, 0, none⟩))) (h3 : tmps[3]? = some (.pointer (some ⟨W0.heap.size + 1, 0, none⟩))) :
    Leaves Tryz.prog Tryz.f69 tmps (Res W0 S 0) [dfr W0.heap.size] .returning w := by
  refine leaves_cons (f := 107) (args := #[.pointer (some ⟨W0.heap.size, 0, none⟩), .pointer (some ⟨W0.heap.size + 1, 0, none⟩)]) (by simp) (by simp [go_sem]) ?_
  refine (catch_idle _ _ _).mono ?_
  rintro e u' w'' ⟨rfl, rfl, rfl⟩
  have c1 := (blk_cell h.cp 0).trans rfl
  have c2 := (blk_cell h.cq 0).trans rfl
  simp [Leaves, settle, results, Tryz.results69, go_sem, c1, c2, h2, h3]
  exact ⟨_, rfl, Kd.S_mono h.rows (fun _ _ => trivial), h.bel⟩
theorem S_slice {α : Type} {d : Kd α} {e base : Nat} {ok : Nat → Prop} {w : World} {v : Value} {xs : List α} (h : Kd.S d e w base ok v xs) : ∃ (A : Option Addr) (n c : Nat), v = .slice A n c := by
  obtain ⟨f, hf⟩ := h
  obtain ⟨A, c, e⟩ := Kd.R_slice hf
  exact ⟨A, _, c, e⟩
theorem PS.slice {W0 w : World} {v : Value} {S : List (List Int)} (h : PS W0 w v S) : ∃ (A : Option Addr) (n c : Nat), v = .slice A n c := by
  obtain ⟨f, hf⟩ := h.rows
  obtain ⟨A, c, e⟩ := Kd.R_slice hf
  exact ⟨A, _, c, e⟩
theorem PS.own {W0 w : World} {v : Value} {S : List (List Int)} (h : PS W0 w v S) : ∀ k, v.ownBlock = some k → k ≠ W0.heap.size ∧ k ≠ W0.heap.size + 1 := by
  obtain ⟨f, hf⟩ := h.rows
  exact fun k hk => hf.1 k hk
theorem PS.fresh {W0 w : World} {v v8 : Value} {S : List (List Int)} (h : PS W0 w v S) (hb : ∀ k, v8.ownBlock = some k → w.heap.size ≤ k) : ∀ k, some k = v8.ownBlock → (k ≠ W0.heap.size ∧ k ≠ W0.heap.size + 1) ∧ some k ≠ v.ownBlock := fun k hk => by
  have h1 := hb k hk.symm
  have h2 := blk_lt h.cp
  have h3 := blk_lt h.cq
  refine ⟨⟨by omega, by omega⟩, fun e => ?_⟩
  have h4 := Kd.S_lt h.rows k e.symm
  omega
theorem PS.newer {W0 w : World} {v : Value} {S : List (List Int)} (h : PS W0 w v S) : ∀ k, w.heap.size ≤ k → k ≠ W0.heap.size ∧ k ≠ W0.heap.size + 1 := fun k hk => by
  have h2 := blk_lt h.cp
  have h3 := blk_lt h.cq
  exact ⟨by omega, by omega⟩
theorem segs_room {n : Nat} (h : n ≤ 512) : (n + 1) * 24 ≤ 140737488355328 := by omega
theorem PS.setp {W0 w : World} {v v' : Value} {S S' : List (List Int)} (h : PS W0 w v S) (hr : Kd.S (Kd.slice 61 (Kd.int .u64)) 27 w W0.heap.size (fun k => k ≠ W0.heap.size ∧ k ≠ W0.heap.size + 1) v' S') : PS W0 (w.setCell ⟨W0.heap.size, 0, none⟩ v') v' S' :=
  ⟨blk_set h.cp 0 v', blk_far h.cq (p := ⟨W0.heap.size, 0, none⟩) (by simp) v', Kd.S_far hr (p := ⟨W0.heap.size, 0, none⟩) (fun k hk => hk.1) v', h.bel.setCell (Nat.le_refl _) _⟩
theorem PS.setq {W0 w : World} {v : Value} {S : List (List Int)} (h : PS W0 w v S) : PS W0 (w.setCell ⟨W0.heap.size + 1, 0, none⟩ (.int .i64 0)) v S :=
  ⟨blk_far h.cp (p := ⟨W0.heap.size + 1, 0, none⟩) (by simp) _, blk_set h.cq 0 _, Kd.S_far h.rows (p := ⟨W0.heap.size + 1, 0, none⟩) (fun k hk => hk.2) _, h.bel.setCell (Nat.le_succ _) _⟩
def ResO (w : World) : Option (List (List Int)) → Ending → World → Prop
  | some S => Res w S 0
  | none => Res w [] 1
def OkQ (Q : Exit → Act → World → Prop) : Exit → Act → World → Prop
  | .normal, a, w => Q .normal a w
  | _, _, _ => False
theorem okq {P : Program} {c : Code} {Q : Exit → Act → World → Prop} {a : Act} {w : World} (h : Code.wp P c (OkQ Q) a w) : Code.wp P c Q a w :=
  wp_mono h (fun e a w h => by cases e <;> first | exact h | exact h.elim)
theorem okq_ {Q : Exit → Act → World → Prop} {a : Act} {w : World} (h : Q .normal a w) : OkQ Q .normal a w := h
theorem PS.badD {W0 w : World} {v : Value} {S : List (List Int)} {a : Act} (h : PS W0 w v S) (ha : a.defers = [dfr W0.heap.size]) (h2 : a.tmps[2]? = some (.pointer (some ⟨W0.heap.size, 0, none⟩))) (h3 : a.tmps[3]? = some (.pointer (some ⟨W0.heap.size + 1, 0, none⟩))) :
    bodyPostD Tryz.prog Tryz.f69 (ResO W0 none) (Exit.panic [pm]) a w := by
  show Leaves Tryz.prog Tryz.f69 a.tmps (Res W0 [] 1) a.defers (.panicking [pm]) w
  rw [ha]; exact h.bad h2 h3
theorem PS.goodD {W0 w : World} {v : Value} {S : List (List Int)} {a : Act} (h : PS W0 w v S) (ha : a.defers = [dfr W0.heap.size]) (h2 : a.tmps[2]? = some (.pointer (some ⟨W0.heap.size, 0, none⟩))) (h3 : a.tmps[3]? = some (.pointer (some ⟨W0.heap.size + 1, 0, none⟩))) :
    bodyPostD Tryz.prog Tryz.f69 (ResO W0 (some S)) Exit.ret a w := by
  show Leaves Tryz.prog Tryz.f69 a.tmps (Res W0 S 0) a.defers .returning w
  rw [ha]; exact h.good h2 h3
theorem words_ok' {w : World} {A : Option Addr} {c n : Nat} {l : List Int} (hn : l.length = n) (hC : Kd.C (Kd.int .u8) w A l.length l) (hc : l.length ≤ c) (hB : IsB l) (h8 : l.length % 8 = 0) (hM : l.length ≤ 1000000000) :
    Calls Tryz.prog 30 #[.slice A n c] w fun e w' => ∃ v0_ : Value, e = .returned (.tuple #[v0_, .bool true]) ∧ Kd.R (Kd.int .u64) 61 w' w.heap.size (fun _ => True) v0_ (wordsS l) ∧ Below w.heap.size w w' := by
  subst hn; exact words_ok hC hc hB h8 hM
theorem parse_main {w : World} {A : Option Addr} {c N : Nat} {l : List Int} (hin : Kd.C (Kd.int .u8) w A l.length l) (hc : l.length ≤ c) (hB : IsB l) (hl : l.length ≤ 1000000) (h : 4 ≤ l.length) (hn : num4 l 0 + 1 = (N : Int)) (hn2 : N ≤ 512) (hT : tbS N ≤ l.length) (hZ : ((l.take (tbS N)).drop (4 * (N + 1))).all (· == 0) = true) (RR : Option (List (List Int))) (hRR : parseL l N 0 (l.drop (tbS N)) [] = RR) :
    Calls Tryz.prog 69 #[.slice A l.length c] w (ResO w RR) := by
  have hmf : ∀ (fn : Fn) (first cap : Array Value) (w : World), (Instr.makeFunc fn first cap).run Tryz.prog w = .ok (.func fn first cap) w := fun _ _ _ _ => rfl
  have HS := Aside0.mk (PS.start w)
  have HR := Aside0.mk hin
  have HB := Aside0.mk hB
  have HC := Aside0.mk hc
  have HL := Aside0.mk hl
  have H4 := Aside0.mk h
  obtain ⟨x, hx⟩ : ∃ x, x = num4 l 0 := ⟨_, rfl⟩
  have HX := Aside0.mk hx
  have e1 : wrap64 (x + 1) = (N : Int) := by rw [hx, hn, w64 (by omega) (by omega)]
  have e2 : decide ((N : Int) ≤ 512) = true := decide_eq_true (by omega)
  have hTn : 4 * (N + 1) ≤ tbS N := by unfold tbS; omega
  obtain ⟨T, hTe⟩ : ∃ T, T = tbS N := ⟨_, rfl⟩
  rw [← hTe] at hT hZ hTn hRR
  have HT := Aside0.mk (show frame_TableBytes.f (N : Int) = some (T : Int) by rw [hTe]; exact frTable N (by omega))
  have HTT := Aside0.mk (And.intro hT hTn)
  have e3 : decide ((T : Int) ≤ (l.length : Int)) = true := decide_eq_true (by omega)
  obtain ⟨Z, hZe⟩ : ∃ Z, Z = (l.take T).drop (4 * (N + 1)) := ⟨_, rfl⟩
  rw [← hZe] at hZ
  obtain ⟨kz, hkz⟩ := Ev.rounds (frZero Z (by rw [hZe, List.length_drop, List.length_take]; omega))
  rw [hZ] at hkz
  have HZ := Aside0.mk hkz
  obtain ⟨i0, hi0, _, hsz, _⟩ := info_parts info5
  have HI0 := Aside0.mk hi0
  have HSZ := Aside0.mk hsz
  obtain ⟨A', hcut, hA', hC'⟩ := print_mid_of (P := Tryz.prog) (Value.int .u8) 0 22 5 .i64 .i64 Tryz.underlying22 hi0 hsz A c l (4 * ((N : Int) + 1)) (T : Int) (by omega) (by omega) (by omega) hc
  rw [Int.toNat_natCast, show (4 * ((N : Int) + 1)).toNat = 4 * (N + 1) by omega, ← hZe] at hcut hA' hC'
  have HR2 := Aside0.mk (Kd.C_of_reads (h1 := fun _ => rfl) (hA' _ (Kd.reads_of_C HR.out)))
  have HC2 := Aside0.mk hC'
  obtain ⟨A3, hcut3, hA3, hC3⟩ := print_drop_of (P := Tryz.prog) (Value.int .u8) 0 22 5 .i64 Tryz.underlying22 hi0 hsz A c l (T : Int) (by omega) (by omega) hc
  rw [Int.toNat_natCast] at hcut3 hA3 hC3
  have HR3 := Aside0.mk (Kd.C_of_reads (h1 := fun _ => rfl) (hA3 _ (Kd.reads_of_C HR.out)))
  have HC3 := Aside0.mk hC3
  obtain ⟨rest0, hr0⟩ : ∃ r, r = l.drop T := ⟨_, rfl⟩
  have HB3 := Aside0.mk (show IsB rest0 by rw [hr0]; exact hB.drop T)
  have HL3 := Aside0.mk (show rest0.length ≤ l.length by rw [hr0, List.length_drop]; omega)
  rw [← hr0] at hcut3 HR3 HC3 hRR
  have HRR := Aside0.mk hRR
  clear hin hB hn hx hc hl h hTe hA' hC' hZ hZe hA3 hC3 hr0 hRR hTn hkz hi0 hsz
  go_enter_defers Tryz.func69, Tryz.ntmps69
  go_wp2_with (first
    | (go_at_call 108; refine (number_ok (i := 0) (Kd.C_below HR.out HS.out.bel) HC.out HB.out H4.out HL.out).mono ?_; rintro e w2 ⟨rfl, ⟨m1, hw⟩⟩; rw [← HX.out])
    | (go_at_call 110; refine (frame_TableBytes.calls (N : Int) _ _ HT.out).mono ?_; rintro e w4 ⟨rfl, ⟨m2, hw4⟩⟩)
    | (go_at_call 111; refine (frame_zero.calls kz _ _ _ _ _ (Kd.C_drewN (Kd.C_below HR2.out HS.out.bel) _) HC2.out HZ.out).mono ?_; rintro e w4 ⟨rfl, ⟨m3, hw4⟩⟩)
    | (go_at_call 109; refine (must_true _).mono ?_; rintro e w3 ⟨rfl, hw3⟩))
  go_loopg [6, 38] N (fun kq v6 v38 w' => ∃ (i : Nat) (rest : List Int) (A' : Option Addr) (c' : Nat) (S : List (List Int)) (v : Value), Aside0 (kq + i = N) ∧ v6 = .slice A' rest.length c' ∧ v38 = .int .i64 (i : Int) ∧ Aside0 (parseL l kq i rest S = RR) ∧ Aside0 (Kd.C (Kd.int .u8) w A' rest.length rest ∧ rest.length ≤ c' ∧ IsB rest ∧ rest.length ≤ l.length) ∧ Aside0 (PS w w' v S) ∧ Aside0 (S.length ≤ i))
  case atStart => exact ⟨0, rest0, A3, c - T, [], .slice none 0 0, ⟨by omega⟩, rfl, rfl, HRR, ⟨HR3.out, HC3.out, HB3.out, HL3.out⟩, ⟨HS.out.drewN _⟩, ⟨Nat.le_refl _⟩⟩
  case round =>
    obtain ⟨i, rest, A', c', S, v, ⟨hki⟩, rfl, rfl, ⟨HP⟩, ⟨hr1, hr2, hr3, hr4⟩, HPS, ⟨hSl⟩⟩ := hrel
    obtain ⟨A5, n5, c5, rfl⟩ := HPS.out.slice
    cases gk with
    | zero =>
      obtain rfl : i = N := by omega
      clear hcut hcut3 e1 e2
      have bx := (blk_cell HPS.out.cp 0).trans rfl
      have bz := blk_frozen HPS.out.cp 0
      have by_ := (blk_cell (HPS.out.setp HPS.out.rows).cq 0).trans rfl
      have byz := blk_frozen (HPS.out.setp HPS.out.rows).cq 0
      have c0 : decide ((i : Int) < (i : Int)) = false := decide_eq_false (by omega)
      by_cases hz : rest.length = 0
      · simp only [parseL] at HP
        rw [if_pos hz] at HP
        subst HP
        have z0 : (((rest.length : Nat) : Int) == 0) = true := by rw [hz]; rfl
        go_wp2_with (first | (go_at_call 109; refine (must_true _).mono ?_; rintro e w7 ⟨rfl, hw7⟩))
        exact PS.goodD ((HPS.out.setp HPS.out.rows).setq) rfl rfl rfl
      · simp only [parseL] at HP
        rw [if_neg hz] at HP
        subst HP
        have z0 : (((rest.length : Nat) : Int) == 0) = false := by rw [beq_eq_false_iff_ne]; omega
        go_wp2_with (first | (go_at_call 109; refine (must_false _).mono ?_; rintro e w7 ⟨rfl, hw7⟩))
        exact PS.badD (by first | exact HPS.out | exact HPS.out.drewN _) rfl rfl rfl
    | succ k1 =>
      clear hcut hcut3 e1 e2 e3
      obtain ⟨s, hs⟩ : ∃ s, s = num4 l (i + 1) := ⟨_, rfl⟩
      have hsr := num4_range HB.out (i + 1)
      rw [← hs] at hsr
      have HSN := Aside0.mk hs
      have HI4 := Aside0.mk (show 4 * (i + 1 + 1) ≤ l.length by have := HTT.out; omega)
      have HSL := Aside0.mk (show S.length ≤ 512 by omega)
      simp only [parseL] at HP
      rw [← hs] at HP
      clear hs
      have c0 : decide ((i : Int) < (N : Int)) = true := decide_eq_true (by omega)
      by_cases g1 : s < 536870912
      · by_cases g2 : 8 * s ≤ (rest.length : Int)
        · rw [if_pos ⟨g1, g2⟩] at HP
          have g1b : decide (s < 536870912) = true := decide_eq_true g1
          have g2b : decide (s * 8 ≤ (rest.length : Int)) = true := decide_eq_true (by omega)
          obtain ⟨LT, hLT⟩ : ∃ LT, LT = rest.take (8 * s).toNat := ⟨_, rfl⟩
          have HLTL := Aside0.mk (show LT.length = (s * 8).toNat by rw [hLT, List.length_take]; omega)
          obtain ⟨i0, hi0, _, hsz, _⟩ := info_parts info5
          have htk := print_take_of (P := Tryz.prog) (Value.int .u8) 0 22 5 .i64 Tryz.underlying22 hi0 hsz A' c' rest (8 * s) (by omega) g2 hr2
          rw [← hLT] at htk
          have HLTC := Aside0.mk (Kd.C_of_reads (h1 := fun _ => rfl) (htk.2.1 w (Kd.reads_of_C hr1)))
          have HLTc := Aside0.mk (show LT.length ≤ c' from htk.2.2)
          have HLTB := Aside0.mk (show IsB LT by rw [hLT]; exact hr3.take _)
          have HLT8 := Aside0.mk (show LT.length % 8 = 0 by rw [HLTL.out]; omega)
          have HLTM := Aside0.mk (show LT.length ≤ 1000000000 by rw [hLT, List.length_take]; have := HL.out; omega)
          have hmr : (s * 8).toNat ≤ rest.length := by omega
          have hdro := Kd.C_of_reads (d := (0 : Int)) (h1 := fun _ => rfl) ((Kd.reads_of_C hr1).drop_ (s * 8).toNat hmr hr2)
          obtain ⟨DR, hDR⟩ : ∃ DR, DR = rest.drop (s * 8).toNat := ⟨_, rfl⟩
          rw [show (8 : Int) * s = s * 8 by omega, ← hDR] at HP
          rw [show (8 : Int) * s = s * 8 by omega] at hLT
          rw [← hLT] at HP
          rw [← hDR] at hdro
          have HPP := Aside0.mk HP
          obtain ⟨A7, hA7⟩ : ∃ A7, A7 = (if c' = (s * 8).toNat then A' else Option.map (fun x => x.add (s * 8).toNat) A') := ⟨_, rfl⟩
          rw [← hA7] at hdro
          have HDRC := Aside0.mk hdro
          have HA7 := Aside0.mk hA7
          clear hA7
          have HDRl := Aside0.mk (show DR.length = rest.length - (s * 8).toNat by rw [hDR, List.length_drop])
          have HDRc := Aside0.mk (show DR.length ≤ c' - (s * 8).toNat by rw [hDR, List.length_drop]; omega)
          have HDRB := Aside0.mk (show IsB DR by rw [hDR]; exact hr3.drop _)
          have HDRL := Aside0.mk (show DR.length ≤ l.length by rw [hDR, List.length_drop]; omega)
          have w13 : IntKind.i64.wrap (s * 8) = s * 8 := by rw [i64_w, w64 (by have := HL.out; omega) (by have := HL.out; omega)]
          have p13 := eq_true (show 0 ≤ s * 8 by omega)
          have q13 := eq_true (show s * 8 ≤ (rest.length : Int) by omega)
          clear htk hdro hLT hDR HP hi0 hsz hmr
          go_wp2_with (first
            | (go_at_call 108; refine (number_ok' (i := i + 1) (by omega) (Kd.C_below HR.out HPS.out.bel) HC.out HB.out HI4.out HL.out).mono ?_; rintro e w6 ⟨rfl, ⟨m6, hw6⟩⟩; rw [← HSN.out])
            | (go_at_call 109; refine (must_true _).mono ?_; rintro e w7 ⟨rfl, hw7⟩)
            | (go_at_call 30
               refine (words_ok' HLTL.out (Kd.C_drewN (Kd.C_below HLTC.out HPS.out.bel) _) HLTc.out HLTB.out HLT8.out HLTM.out).mono ?_
               rintro e w8 ⟨v8, rfl, hv8, hb8⟩
               have HB8 := Aside0.mk (show Below wr.heap.size wr w8 from (pw_below_drewN (Below.refl _ _) m6).trans (hb8.mono (Nat.le_refl _)))
               have HPS8 := Aside0.mk (HPS.out.below HB8.out)
               have HROW := Aside0.mk (show Kd.S (Kd.slice 61 (Kd.int .u64)) 27 w8 w.heap.size (fun k => (k ≠ w.heap.size ∧ k ≠ w.heap.size + 1) ∧ some k ≠ v8.ownBlock) _ S from Kd.S_elder' (Kd.S_drewN HPS.out.rows m6) (Kd.R_base hv8) hb8)
               have HV8 := Aside0.mk (show Kd.R (Kd.int .u64) 61 w8 wr.heap.size (fun _ => True) v8 (wordsS LT) from hv8)
               have HTY := Aside0.mk (Kd.S_typed HROW.out)
               obtain ⟨A8, c8, e8⟩ := Kd.R_slice hv8
               have HE8 := Aside0.mk e8
               subst e8
               have bx8 := (blk_cell HPS8.out.cp 0).trans rfl
               have bx8a := (blk_cell (blk_alloc HPS8.out.cp (.cells #[.slice A8 (wordsS LT).length c8] 27)) 0).trans rfl
               clear hv8 hb8))
          refine okq ?_
          go_region_law (first
            | ((first | rw [show (w8.alloc (.cells #[.slice A8 (wordsS LT).length c8] 27)).drew.drew = w8.drew.drew.alloc (.cells #[.slice A8 (wordsS LT).length c8] 27) from rfl] | rw [show (w8.alloc (.cells #[.slice A8 (wordsS LT).length c8] 27)).drew = w8.drew.alloc (.cells #[.slice A8 (wordsS LT).length c8] 27) from rfl])
               (refine Kd.S_append_step (Kd.slice 61 (Kd.int .u64)) (w0 := w) w.heap.size (by rfl) (.tmp 63) (.tmp 65) 38 27 (.slice none 0 0) 24 rfl Tryz.underlying38 info41 rfl (by decide) (by omega) (.slice A5 n5 c5) S (wordsS LT) [.slice A8 (wordsS LT).length c8] (fun k => k ≠ w.heap.size ∧ k ≠ w.heap.size + 1) (fun k => some k = (.slice A8 (wordsS LT).length c8 : Value).ownBlock) rfl rfl ?aP ?aK ?aF ?aO ?aB ?aS ?aL ?_)
               case aP => exact Kd.M_row (by (repeat (with_reducible refine Kd.R_drew ?_)); exact Kd.R_lower (Kd.R_tight rfl HV8.out) HPS.out.bel.size)
               case aK => exact HPS.out.fresh (Kd.R_base HV8.out)
               case aF => exact HPS8.out.newer
               case aO => exact (by (repeat (with_reducible refine Kd.S_drew ?_)); exact HROW.out)
               case aB => first | exact HPS8.out.bel.drew | exact HPS8.out.bel.drew.drew
               case aS => exact HPS8.out.bel.size
               case aL => exact segs_room HSL.out
               intro v9 w9 ho hb hg hat
               obtain ⟨A9, n9, c9, e9⟩ := S_slice ho
               subst e9
               have HO9 := Aside0.mk (show Kd.S (Kd.slice 61 (Kd.int .u64)) 27 w9 w.heap.size (fun k => k ≠ w.heap.size ∧ k ≠ w.heap.size + 1) _ (S ++ [wordsS LT]) from ho)
               have HB9 := Aside0.mk hb
               have HP9 := Aside0.mk (blk_grown (show (w8.drew).heap[w.heap.size]? = _ from HPS8.out.cp) hg (fun e => (HPS.out.own _ e.symm).1 rfl))
               have HQ9 := Aside0.mk (blk_grown (show (w8.drew).heap[w.heap.size + 1]? = _ from HPS8.out.cq) hg (fun e => (HPS.out.own _ e.symm).2 rfl))
               have bx9 := (blk_cell HP9.out 0).trans rfl
               have bz9 := blk_frozen HP9.out 0
               clear ho hb hg hat))
          · refine okq_ ?_
            rw [← HA7.out]
            go_wp2
            go_roundg k1
            case measure => omega
            case rel =>
              refine ⟨i + 1, DR, A7, c' - (s * 8).toNat, S ++ [wordsS LT], _, ⟨by omega⟩, ?_, ?_, HPP, ⟨?_, HDRc.out, HDRB.out, HDRL.out⟩, ⟨⟨blk_set HP9.out 0 _, blk_far HQ9.out (p := ⟨w.heap.size, 0, none⟩) (by simp) _, Kd.S_far HO9.out (p := ⟨w.heap.size, 0, none⟩) (fun k hk => hk.1) _, HB9.out.setCell (Nat.le_refl _) _⟩⟩, ⟨?_⟩⟩
              · rw [HDRl.out]
              · rfl
              · rw [HDRl.out]; exact HDRC.out
              · rw [List.length_append]; exact Nat.succ_le_succ hSl
          · refine okq_ ?_
            rw [← HA7.out]
            go_wp2
            go_roundg k1
            case measure => omega
            case rel =>
              refine ⟨i + 1, DR, A7, c' - (s * 8).toNat, S ++ [wordsS LT], _, ⟨by omega⟩, ?_, ?_, HPP, ⟨?_, HDRc.out, HDRB.out, HDRL.out⟩, ⟨⟨blk_set HP9.out 0 _, blk_far HQ9.out (p := ⟨w.heap.size, 0, none⟩) (by simp) _, Kd.S_far HO9.out (p := ⟨w.heap.size, 0, none⟩) (fun k hk => hk.1) _, HB9.out.setCell (Nat.le_refl _) _⟩⟩, ⟨?_⟩⟩
              · rw [HDRl.out]
              · rfl
              · rw [HDRl.out]; exact HDRC.out
              · rw [List.length_append]; exact Nat.succ_le_succ hSl
        · rw [if_neg (fun e => g2 e.2)] at HP
          subst HP
          have g1b : decide (s < 536870912) = true := decide_eq_true g1
          have g2b : decide (s * 8 ≤ (rest.length : Int)) = false := decide_eq_false (by omega)
          go_wp2_with (first | (go_at_call 108; refine (number_ok' (i := i + 1) (by omega) (Kd.C_below HR.out HPS.out.bel) HC.out HB.out HI4.out HL.out).mono ?_; rintro e w6 ⟨rfl, ⟨m6, hw6⟩⟩; rw [← HSN.out]) | (go_at_call 109; refine (must_false _).mono ?_; rintro e w7 ⟨rfl, hw7⟩))
          exact PS.badD (by first | exact HPS.out | exact HPS.out.drewN _) rfl rfl rfl
      · rw [if_neg (fun e => g1 e.1)] at HP
        subst HP
        have g1b : decide (s < 536870912) = false := decide_eq_false g1
        go_wp2_with (first | (go_at_call 108; refine (number_ok' (i := i + 1) (by omega) (Kd.C_below HR.out HPS.out.bel) HC.out HB.out HI4.out HL.out).mono ?_; rintro e w6 ⟨rfl, ⟨m6, hw6⟩⟩; rw [← HSN.out]) | (go_at_call 109; refine (must_false _).mono ?_; rintro e w7 ⟨rfl, hw7⟩))
        exact PS.badD (by first | exact HPS.out | exact HPS.out.drewN _) rfl rfl rfl
end Go.Proofs.YthghblmffdfbaaaGreatDoor.Fm

/- Package frame: Parse as a printed function. -/
namespace Go.Proofs.YthghblmffdfbaaaGreatDoor.Fm
open Go Go.RowKit Go.Proofs.YthghblmffdfbaaaGreatDoor Go.Proofs.YthghblmffdfbaaaGreatDoor.M Go.Proofs.YthghblmffdfbaaaGreatDoor.PFrBase Go.Proofs.YthghblmffdfbaaaGreatDoor.QFrBase Go.Proofs.YthghblmffdfbaaaGreatDoorW.PrintWords Go.Proofs.YthghblmffdfbaaaGreatDoorW.PrintLast Go.Proofs.YthghblmffdfbaaaGreatDoorW.PrintMore
set_option linter.unusedVariables false
set_option linter.unusedSimpArgs false
def padS (l : List Int) (N : Nat) : Bool := ((l.take (tbS N)).drop (4 * (N + 1))).all (· == 0)
def parseS (l : List Int) : List (List Int) × Int :=
  if l.length < 4 then ([], 1) else if 512 < (num4 l 0 + 1).toNat then ([], 1) else if l.length < tbS (num4 l 0 + 1).toNat then ([], 1)
  else if padS l (num4 l 0 + 1).toNat = true then (match parseL l (num4 l 0 + 1).toNat 0 (l.drop (tbS (num4 l 0 + 1).toNat)) [] with | some S => (S, 0) | none => ([], 1)) else ([], 1)
def byteB (l : List Int) : Bool := l.all fun x => decide (0 ≤ x) && decide (x < 256)
theorem byteB_B {l : List Int} (h : byteB l = true) : IsB l := fun x hx => by
  have := List.all_eq_true.mp h x hx
  simpa using this
theorem B_byteB {l : List Int} (h : IsB l) : byteB l = true := List.all_eq_true.mpr fun x hx => by simpa using h x hx
def parseF (l : List Int) : Option (List (List Int) × Int) := if l.length ≤ 1000000 ∧ byteB l = true then some (parseS l) else none
theorem parseF_calls {A0 : Option Addr} {c0 : Nat} {l0 : List Int} {r1 : List (List Int)} {r2 : Int} {w : World} (hr0 : Kd.C (Kd.int .u8) w A0 l0.length l0) (hc0 : l0.length ≤ c0) (h : parseF l0 = some (r1, r2)) :
    Calls Tryz.prog 69 #[.slice A0 l0.length c0] w fun e w' => ∃ v0_ : Value, e = .returned (.tuple #[v0_, .int .i64 r2]) ∧ Kd.S (Kd.slice 61 (Kd.int .u64)) 27 w' w.heap.size (fun _ => True) v0_ r1 ∧ Below w.heap.size w w' := by
  unfold parseF at h
  by_cases hg : l0.length ≤ 1000000 ∧ byteB l0 = true
  · rw [if_pos hg] at h
    have h := Option.some.inj h
    have hB := byteB_B hg.2
    have key : Calls Tryz.prog 69 #[.slice A0 l0.length c0] w (Res w (parseS l0).1 (parseS l0).2) := by
      unfold parseS
      by_cases g1 : l0.length < 4
      · rw [if_pos g1]; exact parse_short g1
      · rw [if_neg g1]
        have hr := num4_range hB 0
        obtain ⟨N, hN⟩ : ∃ N : Nat, N = (num4 l0 0 + 1).toNat := ⟨_, rfl⟩
        rw [← hN]
        have hn : num4 l0 0 + 1 = (N : Int) := by omega
        by_cases g2 : 512 < N
        · rw [if_pos g2]; exact parse_many hr0 hc0 hB hg.1 (by omega) hn g2 (by omega)
        · rw [if_neg g2]
          by_cases g3 : l0.length < tbS N
          · rw [if_pos g3]; exact parse_table hr0 hc0 hB hg.1 (by omega) hn (by omega) g3
          · rw [if_neg g3]
            by_cases g4 : padS l0 N = true
            · rw [if_pos g4]
              have hm := parse_main hr0 hc0 hB hg.1 (by omega) hn (by omega) (by omega) g4 _ rfl
              cases hp : parseL l0 N 0 (l0.drop (tbS N)) [] with
              | some S => rw [hp] at hm; exact hm
              | none => rw [hp] at hm; exact hm
            · rw [if_neg g4]; exact parse_pad hr0 hc0 hB hg.1 (by omega) hn (by omega) (by omega) (by simpa [padS] using g4)
    rw [h] at key
    exact key
  · rw [if_neg hg] at h; cases h
end Go.Proofs.YthghblmffdfbaaaGreatDoor.Fm
