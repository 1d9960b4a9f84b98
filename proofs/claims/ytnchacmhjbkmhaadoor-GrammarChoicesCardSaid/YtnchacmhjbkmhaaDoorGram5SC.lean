/- suffixes and choices of package grammar, over the closure of Shortest. -/
import Derived.Test.YtnchacmhjbkmhaaDoorGramC
import Derived.Test.YtnchacmhjbkmhaaDoorQOfBaseC
namespace Go.Proofs.YtnchacmhjbkmhaaDoor.UnShortest
open Go Go.RowKit Go.Proofs.YtnchacmhjbkmhaaDoor Go.Proofs.YtnchacmhjbkmhaaDoor.M Go.Proofs.YtnchacmhjbkmhaaDoor.Un Go.Proofs.YtnchacmhjbkmhaaDoor.PUnBase Go.Proofs.YtnchacmhjbkmhaaDoor.QUnBase Go.Proofs.YtnchacmhjbkmhaaDoorW.PrintWords Go.Proofs.YtnchacmhjbkmhaaDoorW.PrintLast Go.Proofs.YtnchacmhjbkmhaaDoorW.PrintMore
attribute [local go_sem] max2_int min2_int max_two min_two
set_option linter.unusedVariables false
set_option linter.unusedSimpArgs false
set_option maxHeartbeats 8000000
set_option maxRecDepth 100000
def fnV (pw : Nat) : Value := .func (.func 36) #[] #[.pointer (some ⟨pw, 0, none⟩)]
structure Inv (W0 : World) (ok : Nat → Prop) (pw pv pa at_ : Nat) (w : World) (S : List Int) : Prop where
  tab : Tab .i64 3 58 W0 ok w pw S
  cv : w.heap[pv]? = some (.cells #[fnV pw] 56 (0, 0))
  ca : w.heap[pa]? = some (.cells #[.int .i64 (at_ : Int)] 3 (0, 0))
  nv : ¬ ok pv
  na : ¬ ok pa
theorem Inv.drew {W0 w : World} {ok : Nat → Prop} {pw pv pa at_ : Nat} {S : List Int} (h : Inv W0 ok pw pv pa at_ w S) : Inv W0 ok pw pv pa at_ w.drew S := ⟨h.tab.drew, h.cv, h.ca, h.nv, h.na⟩
theorem Inv.below {W0 w w' : World} {ok : Nat → Prop} {pw pv pa at_ : Nat} {S : List Int} (h : Inv W0 ok pw pv pa at_ w S) (hb : Below w.heap.size w w') : Inv W0 ok pw pv pa at_ w' S :=
  ⟨h.tab.below hb, (hb.block _ (block_lt h.cv)).trans h.cv, (hb.block _ (block_lt h.ca)).trans h.ca, h.nv, h.na⟩
theorem cell_of {w : World} {g : Nat} {x : Value} {t : TypeId} (h : w.heap[g]? = some (.cells #[x] t (0, 0))) : w.cell? ⟨g, 0, none⟩ = some x := by simp [World.cell?, h]
def stp (S : List Int) (at_ next : Nat) (size many : Int) : List Int := shortS S at_ next size
theorem stp_len (S : List Int) (at_ next : Nat) (size many : Int) : (stp S at_ next size many).length = S.length := by simp only [stp, shortS]; (try split) <;> simp
theorem suff1 {W0 w : World} {ok : Nat → Prop} {pw pv pa at_ n : Nat} {S : List Int} {size many : Int} (h : Inv W0 ok pw pv pa at_ w S) (hn : at_ + n < S.length) (hS : S.length ≤ 1000000000) :
    Calls Tryd.prog 45 #[.int .i64 size, .int .i64 (n : Int), .int .u64 many, .pointer (some ⟨pv, 0, none⟩), .pointer (some ⟨pa, 0, none⟩)] w fun e w' => e = .returned (.tuple #[]) ∧ Inv W0 ok pw pv pa at_ w' (stp S at_ (at_ + n) size many) ∧ Fr ok w w' := by
  have H := Aside0.mk h
  have c1 := cell_of h.cv
  have c2 := cell_of h.ca
  unfold fnV at c1
  have e1 : wrap64 ((at_ : Int) + (n : Int)) = ((at_ + n : Nat) : Int) := by rw [w64 (by omega) (by omega)]; omega
  have HV := Aside0.mk (short1_calls (size := size) (many := many) h.tab (at_ := at_) (next := at_ + n) (by omega) hn)
  clear h
  go_enter Tryd.func45, Tryd.ntmps45
  go_wp2_with (first
    | (go_at_call 36; refine HV.out.mono ?_; rintro e w2 ⟨rfl, ht, hf⟩; have HT := Aside0.mk ht; have HF := Aside0.mk hf; clear ht hf))
  all_goals (go_end0; exact ⟨rfl, ⟨HT.out, HF.out.keeps H.out.cv H.out.nv, HF.out.keeps H.out.ca H.out.na, H.out.nv, H.out.na⟩, HF.out⟩)
end Go.Proofs.YtnchacmhjbkmhaaDoor.UnShortest
/- choices of package grammar, over the closure of Shortest. -/
namespace Go.Proofs.YtnchacmhjbkmhaaDoor.UnShortest
open Go Go.RowKit Go.Proofs.YtnchacmhjbkmhaaDoor Go.Proofs.YtnchacmhjbkmhaaDoor.M Go.Proofs.YtnchacmhjbkmhaaDoor.Un Go.Proofs.YtnchacmhjbkmhaaDoor.PUnBase Go.Proofs.YtnchacmhjbkmhaaDoor.QUnBase Go.Proofs.YtnchacmhjbkmhaaDoorW.PrintWords Go.Proofs.YtnchacmhjbkmhaaDoorW.PrintLast Go.Proofs.YtnchacmhjbkmhaaDoorW.PrintMore
set_option linter.unusedVariables false
set_option linter.unusedSimpArgs false
set_option maxHeartbeats 8000000
set_option maxRecDepth 100000
def mn (x y : Int) : Int := if y < x then y else x
theorem min2_mn (k k' : IntKind) (x y : Int) : Builtin.min2 (.int k x) (.int k' y) = pure (.int k (mn x y)) := min2_int k k' x y
attribute [local go_sem] min2_mn min_two
def cloV (pv pa : Nat) : Value := .func (.func 45) #[] #[.pointer (some ⟨pv, 0, none⟩), .pointer (some ⟨pa, 0, none⟩)]
def nextM (on i : Nat) (m : Int) : Int := IntKind.u64.wrap ((IntKind.u64.wrap (m * (8 - (on : Int) - (i : Int)))).tdiv ((i : Int) + 1))
def lp1 (at_ on : Nat) : Nat → Nat → Int → List Int → List Int
  | 0, _, _, S => S
  | k + 1, i, m, S => lp1 at_ on k (i + 1) (nextM on i m) (if 0 < on + i then stp S at_ (at_ + 1) (1 + (on : Int) + (i : Int)) m else S)
def lp2 (ws : List Int) (at_ : Nat) : Nat → Nat → List Int → List Int
  | 0, _, S => S
  | k + 1, n, S => if rd ws ((n : Int) - 1) = 0 then lp2 ws at_ k (n + 1) (stp S at_ (at_ + n) 2 1) else S
def lp3 (at_ : Nat) : Nat → Nat → List Int → List Int
  | 0, _, S => S
  | k + 1, n, S => lp3 at_ k (n + 1) (stp S at_ (at_ + n) (2 + 8 * (n : Int)) 1)
def choS (ws : List Int) (at_ : Nat) (S : List Int) : List Int :=
  lp3 at_ (min ws.length 256) 1 (lp2 ws at_ (min ws.length 256) 1 (lp1 at_ (onesS (ofS (rd ws 0))) (8 - onesS (ofS (rd ws 0))) 0 1 S))
theorem choices_calls {W0 w : World} {ok : Nat → Prop} {pw pv pa at_ : Nat} {S ws : List Int} {A : Option Addr} {c : Nat} (h : Inv W0 ok pw pv pa at_ w S) (hw : Kd.C (Kd.int .u64) W0 A ws.length ws) (hc : ws.length ≤ c) (h0 : 0 < ws.length) (hn : at_ + ws.length < S.length) (hS : S.length ≤ 1000000000) (hr : 0 ≤ rd ws 0 ∧ rd ws 0 < 2 ^ 64) :
    Calls Tryd.prog 44 #[.slice A ws.length c, cloV pv pa] w fun e w' => e = .returned (.tuple #[]) ∧ Inv W0 ok pw pv pa at_ w' (choS ws at_ S) ∧ Fr ok w w' := by
  have H := Aside0.mk h
  obtain ⟨k1, hk1⟩ := Ev.rounds (QOfBase.tagOf (rd ws 0))
  have HK1 := Aside0.mk hk1
  have ho := QOfBase.tagOnes (t := ofS (rd ws 0)) (ofS_range _).1 (ofS_range _).2
  have HO := Aside0.mk ho
  have hw' := Kd.C_below hw h.tab.bel
  obtain ⟨ad, ead, hx⟩ := Kd.at_int hw' 0 (Int.le_refl 0) (by omega)
  cases ead
  have hx' : w.cell? ad = some (.int .u64 (rd ws 0)) := hx
  have q1 : (0 < ws.length) = True := eq_true h0
  have HW := Aside0.mk hw
  obtain ⟨on, hon⟩ : ∃ on, on = onesS (ofS (rd ws 0)) := ⟨_, rfl⟩
  have hon8 : on ≤ 8 := by rw [hon]; exact onesS_le _
  rw [← hon] at HO
  have HON := Aside0.mk hon
  clear h hk1 ho hw hw' hx hon
  unfold cloV
  go_enter Tryd.func44, Tryd.ntmps44
  go_wp2_with (first
    | (go_at_call 50; refine (POfBase.tagbyte_Of.calls k1 (rd ws 0) (ofS (rd ws 0)) _ HK1.out).mono ?_; rintro e w2 ⟨rfl, hb⟩; have HI := Aside0.mk (H.out.below hb); have HF := Aside0.mk (Fr.below (ok := ok) hb); clear hb)
    | (go_at_call 40; refine (POfBase.tagbyte_Ones.calls (ofS (rd ws 0)) _ _ HO.out).mono ?_; rintro e w3 ⟨rfl, ⟨nd, rfl⟩⟩))
  have HIN := Aside0.mk (HI.out.below (pw_below_drewN (Below.refl _ _) nd))
  have HFN := Aside0.mk (HF.out.trans (Fr.below (ok := ok) (pw_below_drewN (Below.refl _ _) nd)))
  clear HI HF
  obtain ⟨T1, hT1⟩ : ∃ T1, T1 = lp1 at_ on (8 - on) 0 1 S := ⟨_, rfl⟩
  go_loopg [5, 6, 17] (8 - on) (fun kq v5 v6 v17 w' => ∃ (i : Nat) (m : Int) (S' : List Int), v5 = .int .u64 m ∧ v17 = .int .i64 (i : Int) ∧ Aside0 (i + kq = 8 - on) ∧ Aside0 (Inv W0 ok pw pv pa at_ w' S') ∧ Aside0 (S'.length = S.length) ∧ Aside0 (lp1 at_ on kq i m S' = T1) ∧ Aside0 (Fr ok w w'))
  case atStart => exact ⟨0, 1, S, (by first | rfl | (simp; done) | (simp [*]; done)), (by first | rfl | (simp; done) | (simp [*]; done)), ⟨by omega⟩, HIN, ⟨rfl⟩, ⟨hT1.symm⟩, HFN⟩
  case round =>
    have HT1 := Aside0.mk hT1
    clear hT1
    obtain ⟨i, m, S', rfl, rfl, HK, HI', HS', HL', HF'⟩ := hrel
    cases gk with
    | zero =>
      obtain rfl : S' = T1 := HL'.out
      have hi : i = 8 - on := by have := HK.out; omega
      have c0 : decide ((i : Int) < 8 - (on : Int)) = false := decide_eq_false (by omega)
      obtain ⟨M, hM⟩ : ∃ M, M = min ws.length 256 := ⟨_, rfl⟩
      have hM1 : M ≤ ws.length := by omega
      have hM2 : M ≤ 256 := by omega
      have hmn : mn (ws.length : Int) 256 = (M : Int) := by unfold mn; split <;> omega
      have HM := Aside0.mk hM
      clear hM hi
      go_wp2
      clear hmn
      obtain ⟨T2, hT2⟩ : ∃ T2, T2 = lp2 ws at_ M 1 S' := ⟨_, rfl⟩
      go_loopg [8] M (fun kq v8 w' => ∃ (n : Nat) (V : List Int), v8 = .int .i64 (n : Int) ∧ Aside0 (1 ≤ n ∧ n + kq = M + 1) ∧ Aside0 (Inv W0 ok pw pv pa at_ w' V) ∧ Aside0 (V.length = S.length) ∧ Aside0 (lp2 ws at_ kq n V = T2) ∧ Aside0 (Fr ok w w'))
      case atStart => exact ⟨1, S', (by first | rfl | (simp; done) | (simp [*]; done)), ⟨by omega⟩, HI', HS', ⟨hT2.symm⟩, HF'⟩
      case round =>
        have HT2 := Aside0.mk hT2
        clear hT2
        obtain ⟨n, V, rfl, HN, HIV, HVS, HLV, HFV⟩ := hrel
        cases gk with
        | zero =>
          obtain rfl : V = T2 := HLV.out
          have hn2 : n = M + 1 := by have := HN.out; omega
          have c2 : decide ((n : Int) ≤ (M : Int)) = false := decide_eq_false (by omega)
          go_wp2
          clear hn2
          obtain ⟨T3, hT3⟩ : ∃ T3, T3 = lp3 at_ M 1 V := ⟨_, rfl⟩
          go_loopg [9] M (fun kq v9 w' => ∃ (n : Nat) (U : List Int), v9 = .int .i64 (n : Int) ∧ Aside0 (1 ≤ n ∧ n + kq = M + 1) ∧ Aside0 (Inv W0 ok pw pv pa at_ w' U) ∧ Aside0 (U.length = S.length) ∧ Aside0 (lp3 at_ kq n U = T3) ∧ Aside0 (Fr ok w w'))
          case atStart => exact ⟨1, V, (by first | rfl | (simp; done) | (simp [*]; done)), ⟨by omega⟩, HIV, HVS, ⟨hT3.symm⟩, HFV⟩
          case round =>
            have HT3 := Aside0.mk hT3
            clear hT3
            obtain ⟨q, U, rfl, HQ, HIU, HUS, HLU, HFU⟩ := hrel
            cases gk with
            | zero =>
              obtain rfl : U = T3 := HLU.out
              have hq : q = M + 1 := by have := HQ.out; omega
              have c3 : decide ((q : Int) ≤ (M : Int)) = false := decide_eq_false (by omega)
              go_wp2
              go_end0
              refine ⟨rfl, ?_, HFU.out⟩
              have hfin : choS ws at_ S = U := by unfold choS; rw [← HON.out, ← HM.out, ← HT1.out, ← HT2.out, ← HT3.out]
              rw [hfin]
              exact HIU.out
            | succ k3 =>
              have hq1 : q ≤ M := by have := HQ.out; omega
              have c3 : decide ((q : Int) ≤ (M : Int)) = true := decide_eq_true (by omega)
              have hv := suff1 (size := 2 + 8 * (q : Int)) (n := q) (many := 1) HIU.out (by have := HUS.out; omega) (by have := HUS.out; omega)
              have HV := Aside0.mk hv
              clear hv
              go_wp2_with (first
                | (go_at_call 45; refine HV.out.mono ?_; rintro e w4 ⟨rfl, hi4, hf4⟩; have HI4 := Aside0.mk hi4; have HF4 := Aside0.mk (HFU.out.trans hf4); clear hi4 hf4))
              go_roundg k3
              case measure => omega
              case rel =>
                refine ⟨q + 1, _, (by first | rfl | (simp; done) | (simp [*]; done)), ⟨by have := HQ.out; omega⟩, HI4, ⟨(stp_len _ _ _ _ _).trans HUS.out⟩, ⟨?_⟩, HF4⟩
                rw [← HLU.out, lp3]
        | succ k2 =>
          have hn2 : 1 ≤ n ∧ n ≤ M := by have := HN.out; omega
          have c2 : decide ((n : Int) ≤ (M : Int)) = true := decide_eq_true (by omega)
          obtain ⟨ad', ead, hx⟩ := Kd.at_int (Kd.C_below HW.out HIV.out.tab.bel) ((n : Int) - 1) (by omega) (by omega)
          cases ead
          rw [show ((n : Int) - 1).toNat = n - 1 by omega] at hx
          by_cases hz : rd ws ((n : Int) - 1) = 0
          · have c4 : (rd ws ((n : Int) - 1) == 0) = true := beq_iff_eq.mpr hz
            have hv := suff1 (size := 2) (n := n) (many := 1) HIV.out (by have := HVS.out; omega) (by have := HVS.out; omega)
            have HV := Aside0.mk hv
            clear hv
            go_wp2_with (first
              | (go_at_call 45; refine HV.out.mono ?_; rintro e w4 ⟨rfl, hi4, hf4⟩; have HI4 := Aside0.mk hi4; have HF4 := Aside0.mk (HFV.out.trans hf4); clear hi4 hf4))
            go_roundg k2
            case measure => omega
            case rel =>
              refine ⟨n + 1, _, (by first | rfl | (simp; done) | (simp [*]; done)), ⟨by have := HN.out; omega⟩, HI4, ⟨(stp_len _ _ _ _ _).trans HVS.out⟩, ⟨?_⟩, HF4⟩
              rw [← HLV.out, lp2, if_pos hz]
          · have c4 : (rd ws ((n : Int) - 1) == 0) = false := beq_eq_false_iff_ne.mpr hz
            obtain rfl : V = T2 := by have := HLV.out; rw [lp2, if_neg hz] at this; exact this
            go_wp2
            clear hn2
            obtain ⟨T3, hT3⟩ : ∃ T3, T3 = lp3 at_ M 1 V := ⟨_, rfl⟩
            go_loopg [9] M (fun kq v9 w' => ∃ (n : Nat) (U : List Int), v9 = .int .i64 (n : Int) ∧ Aside0 (1 ≤ n ∧ n + kq = M + 1) ∧ Aside0 (Inv W0 ok pw pv pa at_ w' U) ∧ Aside0 (U.length = S.length) ∧ Aside0 (lp3 at_ kq n U = T3) ∧ Aside0 (Fr ok w w'))
            case atStart => exact ⟨1, V, (by first | rfl | (simp; done) | (simp [*]; done)), ⟨by omega⟩, HIV, HVS, ⟨hT3.symm⟩, HFV⟩
            case round =>
              have HT3 := Aside0.mk hT3
              clear hT3
              obtain ⟨q, U, rfl, HQ, HIU, HUS, HLU, HFU⟩ := hrel
              cases gk with
              | zero =>
                obtain rfl : U = T3 := HLU.out
                have hq : q = M + 1 := by have := HQ.out; omega
                have c3 : decide ((q : Int) ≤ (M : Int)) = false := decide_eq_false (by omega)
                go_wp2
                go_end0
                refine ⟨rfl, ?_, HFU.out⟩
                have hfin : choS ws at_ S = U := by unfold choS; rw [← HON.out, ← HM.out, ← HT1.out, ← HT2.out, ← HT3.out]
                rw [hfin]
                exact HIU.out
              | succ k3 =>
                have hq1 : q ≤ M := by have := HQ.out; omega
                have c3 : decide ((q : Int) ≤ (M : Int)) = true := decide_eq_true (by omega)
                have hv := suff1 (size := 2 + 8 * (q : Int)) (n := q) (many := 1) HIU.out (by have := HUS.out; omega) (by have := HUS.out; omega)
                have HV := Aside0.mk hv
                clear hv
                go_wp2_with (first
                  | (go_at_call 45; refine HV.out.mono ?_; rintro e w4 ⟨rfl, hi4, hf4⟩; have HI4 := Aside0.mk hi4; have HF4 := Aside0.mk (HFU.out.trans hf4); clear hi4 hf4))
                go_roundg k3
                case measure => omega
                case rel =>
                  refine ⟨q + 1, _, (by first | rfl | (simp; done) | (simp [*]; done)), ⟨by have := HQ.out; omega⟩, HI4, ⟨(stp_len _ _ _ _ _).trans HUS.out⟩, ⟨?_⟩, HF4⟩
                  rw [← HLU.out, lp3]
    | succ k1 =>
      have hi : i + 1 ≤ 8 - on := by have := HK.out; omega
      have c0 : decide ((i : Int) < 8 - (on : Int)) = true := decide_eq_true (by omega)
      have c0' : (i : Int) < 8 - (on : Int) := by omega
      by_cases hz : (on : Int) + i > 0
      · have c1 : decide ((on : Int) + i > 0) = true := decide_eq_true hz
        have c1' : decide (0 < (on : Int) + i) = true := decide_eq_true hz
        have hv := suff1 (size := 1 + (on : Int) + i) (n := 1) (many := m) HI'.out (by have := HS'.out; omega) (by have := HS'.out; omega)
        rw [show ((1 : Nat) : Int) = 1 from rfl] at hv
        have HV := Aside0.mk hv
        clear hv
        go_wp2_with (first
          | (go_at_call 45; refine HV.out.mono ?_; rintro e w4 ⟨rfl, hi4, hf4⟩; have HI4 := Aside0.mk hi4; have HF4 := Aside0.mk (HF'.out.trans hf4); clear hi4 hf4))
        go_roundg k1
        case measure => omega
        case rel =>
          refine ⟨i + 1, _, _, (by first | rfl | (simp; done) | (simp [*]; done)), (by first | rfl | (simp; done) | (simp [*]; done)), ⟨by have := HK.out; omega⟩, HI4, ⟨(stp_len _ _ _ _ _).trans HS'.out⟩, ⟨?_⟩, HF4⟩
          rw [← HL'.out, lp1, if_pos (by omega)]
          rfl
      · have c1 : decide ((on : Int) + i > 0) = false := decide_eq_false hz
        have c1' : decide (0 < (on : Int) + i) = false := decide_eq_false hz
        go_wp2
        go_roundg k1
        case measure => omega
        case rel =>
          refine ⟨i + 1, _, S', (by first | rfl | (simp; done) | (simp [*]; done)), (by first | rfl | (simp; done) | (simp [*]; done)), ⟨by have := HK.out; omega⟩, HI', HS', ⟨?_⟩, HF'⟩
          rw [← HL'.out, lp1, if_neg (by omega)]
          rfl
end Go.Proofs.YtnchacmhjbkmhaaDoor.UnShortest
/- suffixes of package grammar, over the closure of Shortest. -/
namespace Go.Proofs.YtnchacmhjbkmhaaDoor.UnShortest
open Go Go.RowKit Go.Proofs.YtnchacmhjbkmhaaDoor Go.Proofs.YtnchacmhjbkmhaaDoor.M Go.Proofs.YtnchacmhjbkmhaaDoor.Un Go.Proofs.YtnchacmhjbkmhaaDoor.PUnBase Go.Proofs.YtnchacmhjbkmhaaDoor.QUnBase Go.Proofs.YtnchacmhjbkmhaaDoorW.PrintWords Go.Proofs.YtnchacmhjbkmhaaDoorW.PrintLast Go.Proofs.YtnchacmhjbkmhaaDoorW.PrintMore
set_option linter.unusedVariables false
set_option linter.unusedSimpArgs false
set_option maxHeartbeats 8000000
set_option maxRecDepth 100000
theorem balloc (w : World) (o : Obj) : Below w.heap.size w (w.alloc o) := (Below.refl _ _).alloc (Nat.le_refl _) o
theorem alloc_size (w : World) (o : Obj) : (w.alloc o).heap.size = w.heap.size + 1 := by simp only [World.alloc, Array.size_push]
theorem alloc_at (w : World) (o : Obj) : (w.alloc o).heap[w.heap.size]? = some o := by simp only [World.alloc, Array.getElem?_push_size]
theorem alloc_at2 (w : World) (o p : Obj) : ((w.alloc o).alloc p).heap[w.heap.size]? = some o := ((balloc (w.alloc o) p).block _ (by rw [alloc_size]; omega)).trans (alloc_at w o)
theorem alloc_at3 (w : World) (o p : Obj) : ((w.alloc o).alloc p).heap[w.heap.size + 1]? = some p := by have := alloc_at (w.alloc o) p; rwa [alloc_size] at this
theorem rd_drop_mem {ws : List Int} {j : Nat} (h : j < ws.length) : rd (ws.drop j) 0 ∈ ws := by
  unfold rd
  rw [show ((0 : Int)).toNat = 0 from rfl, List.getD_eq_getElem?_getD, List.getElem?_drop, Nat.add_zero, List.getElem?_eq_getElem h]
  exact List.getElem_mem h
theorem lp1_len (at_ on : Nat) : ∀ (k i : Nat) (m : Int) (S : List Int), (lp1 at_ on k i m S).length = S.length
  | 0, _, _, _ => rfl
  | k + 1, i, m, S => by rw [lp1, lp1_len at_ on k]; split <;> simp [stp_len]
theorem lp2_len (ws : List Int) (at_ : Nat) : ∀ (k n : Nat) (S : List Int), (lp2 ws at_ k n S).length = S.length
  | 0, _, _ => rfl
  | k + 1, n, S => by rw [lp2]; split <;> simp [stp_len, lp2_len ws at_ k]
theorem lp3_len (at_ : Nat) : ∀ (k n : Nat) (S : List Int), (lp3 at_ k n S).length = S.length
  | 0, _, _ => rfl
  | k + 1, n, S => by rw [lp3, lp3_len at_ k, stp_len]
theorem choS_len (ws : List Int) (at_ : Nat) (S : List Int) : (choS ws at_ S).length = S.length := by unfold choS; rw [lp3_len, lp2_len, lp1_len]
def sufF (ws : List Int) : Nat → List Int → List Int
  | 0, S => S
  | k + 1, S => sufF ws k (choS (ws.drop k) k S)
structure Sta (w0 W0 : World) (ok : Nat → Prop) (pw pv pa : Nat) (x : Int) (len : Nat) (w : World) (S : List Int) : Prop where
  tab : Tab .i64 3 58 W0 ok w pw S
  cv : w.heap[pv]? = some (.cells #[fnV pw] 56 (0, 0))
  ca : w.heap[pa]? = some (.cells #[.int .i64 x] 3 (0, 0))
  nv : ¬ ok pv
  na : ¬ ok pa
  len : S.length = len
  fr : Fr ok w0 w
theorem suffixes_calls {W0 w : World} {ok : Nat → Prop} {pw : Nat} {S ws : List Int} {A : Option Addr} {c : Nat} (h : Tab .i64 3 58 W0 ok w pw S) (hw : Kd.C (Kd.int .u64) W0 A ws.length ws) (hc : ws.length ≤ c) (hn : ws.length < S.length) (hS : S.length ≤ 1000000000) (hr : ∀ x ∈ ws, 0 ≤ x ∧ x < 2 ^ 64) (hok : ∀ j, ok j → j < w.heap.size) :
    Calls Tryd.prog 32 #[.slice A ws.length c, fnV pw] w fun e w' => e = .returned (.tuple #[]) ∧ Tab .i64 3 58 W0 ok w' pw (sufF ws ws.length S) ∧ Fr ok w w' := by
  have H := Aside0.mk h
  have HW := Aside0.mk hw
  have hnv : ¬ ok w.heap.size := fun h => absurd (hok _ h) (Nat.lt_irrefl _)
  have hna : ¬ ok (w.heap.size + 1) := fun h => absurd (hok _ h) (by omega)
  have HNV := Aside0.mk hnv
  have HNA := Aside0.mk hna
  have HR := Aside0.mk hr
  have HOK := Aside0.mk hok
  obtain ⟨T, hT⟩ : ∃ T, T = sufF ws ws.length S := ⟨_, rfl⟩
  rw [← hT]
  have HT := Aside0.mk hT
  clear h hw hr hok hnv hna hT
  unfold fnV
  go_enter Tryd.func32, Tryd.ntmps32
  go_wp2
  go_loopg [4] ws.length (fun kq v4 w' => ∃ (pa : Nat) (x : Int) (S' : List Int), v4 = .pointer (some ⟨pa, 0, none⟩) ∧ w'.cell? ⟨pa, 0, none⟩ = some (.int .i64 x) ∧ Aside0 (x = (kq : Int) - 1) ∧ Aside0 (kq ≤ ws.length) ∧ Aside0 (sufF ws kq S' = T) ∧ Aside0 (Sta w W0 ok pw w.heap.size pa x S.length w' S'))
  case atStart =>
    have hb : Below w.heap.size w ((w.alloc (Obj.cells #[fnV pw] 56)).alloc (Obj.cells #[.int .i64 ((ws.length : Int) - 1)] 3)) := (balloc w _).trans ((balloc _ _).mono (by rw [alloc_size]; omega))
    refine ⟨w.heap.size + 1, (ws.length : Int) - 1, S, (by first | rfl | (simp; done) | (simp [*]; done)), (cell_of (alloc_at3 _ _ _)), ⟨rfl⟩, ⟨Nat.le_refl _⟩, ⟨HT.out.symm⟩, ⟨H.out.below hb, ?_, ?_, HNV.out, HNA.out, rfl, Fr.below hb⟩⟩
    · exact alloc_at2 _ _ _
    · exact alloc_at3 _ _ _
  case round =>
    obtain ⟨pa, x, S', rfl, hca, HX, HK, HL, HS⟩ := hrel
    cases gk with
    | zero =>
      obtain rfl : S' = T := HL.out
      obtain rfl : x = -1 := by have := HX.out; omega
      go_wp2
      go_end0
      exact ⟨rfl, HS.out.tab, HS.out.fr⟩
    | succ j =>
      obtain rfl : x = (j : Int) := by have := HX.out; omega
      have hj : j < ws.length := HK.out
      obtain ⟨ad, ead, hx⟩ := Kd.at_int HW.out (j : Int) (by omega) (by omega)
      cases ead
      clear hx
      have hl : (ws.drop j).length = ws.length - j := List.length_drop
      have hd := Kd.C_drop (c := c) HW.out (Nat.le_of_lt hj) hc
      rw [if_neg (by omega)] at hd
      simp only [Option.map_some, show (Kd.int .u64).sz = 1 from rfl, Nat.mul_one] at hd
      have hv := choices_calls (c := c - j) (Inv.mk HS.out.tab HS.out.cv HS.out.ca HS.out.nv HS.out.na) hd (by omega) (by omega) (by have := HS.out.len; omega) (by have := HS.out.len; omega) (HR.out _ (rd_drop_mem hj))
      unfold cloV at hv
      have hl2 := hl
      generalize hg : (ws.drop j).length = g at hv
      rw [hl] at hg
      subst hg
      have HV := Aside0.mk hv
      clear hv hd hl hl2
      go_wp2_with (first
        | (go_at_call 44; refine HV.out.mono ?_; rintro e w4 ⟨rfl, hi4, hf4⟩; have HI4 := Aside0.mk hi4; have HF4 := Aside0.mk (HS.out.fr.trans hf4); have c9 := cell_of hi4.ca; clear hi4 hf4))
      go_roundg j
      case measure => omega
      case rel =>
        have hb := balloc w4 (Obj.cells #[.int .i64 ((j : Int) - 1)] 3)
        refine ⟨w4.heap.size, (j : Int) - 1, _, (by first | rfl | (simp; done) | (simp [*]; done)), (cell_of (alloc_at _ _)), ⟨rfl⟩, ⟨by omega⟩, ⟨(by rw [sufF] at HL; exact HL.out)⟩, ⟨HI4.out.tab.below hb, ?_, ?_, HI4.out.nv, ?_, ?_, HF4.out.trans (Fr.below hb)⟩⟩
        · exact (hb.block _ (block_lt HI4.out.cv)).trans HI4.out.cv
        · exact alloc_at _ _
        · intro h
          have := HOK.out _ h
          have := HF4.out.sz
          omega
        · rw [choS_len]; exact HS.out.len
end Go.Proofs.YtnchacmhjbkmhaaDoor.UnShortest
/- Ways, Shortest of package grammar, over the closure of Shortest. -/
namespace Go.Proofs.YtnchacmhjbkmhaaDoor.UnShortest
open Go Go.RowKit Go.Proofs.YtnchacmhjbkmhaaDoor Go.Proofs.YtnchacmhjbkmhaaDoor.M Go.Proofs.YtnchacmhjbkmhaaDoor.Un Go.Proofs.YtnchacmhjbkmhaaDoor.PUnBase Go.Proofs.YtnchacmhjbkmhaaDoor.QUnBase Go.Proofs.YtnchacmhjbkmhaaDoorW.PrintWords Go.Proofs.YtnchacmhjbkmhaaDoorW.PrintLast Go.Proofs.YtnchacmhjbkmhaaDoorW.PrintMore
set_option linter.unusedVariables false
set_option linter.unusedSimpArgs false
set_option maxHeartbeats 8000000
set_option maxRecDepth 100000
theorem infoE : (Tryd.prog.info? 3).map (fun i => (i.zero, i.size, i.bytes)) = some (some (.int .i64 0), 1, 8) := by kernel_rfl
def startS (n : Nat) : List Int := List.replicate (n + 1) 0
theorem setCell_size (w : World) (a : Addr) (v : Value) : (w.setCell a v).heap.size = w.heap.size := by simp [World.setCell]
theorem rd_rep0 (n i : Nat) : rd (List.replicate n 0) (i : Int) = 0 := by
  unfold rd; rw [List.getD_eq_getElem?_getD, List.getElem?_replicate]; split <;> rfl
theorem R_newTab {W w1 : World} {v1 : Value} {n : Nat} (hp : 0 < n) (ho : Kd.R (Kd.int .i64) 3 w1 W.heap.size (fun j => j = W.heap.size) v1 (List.replicate n 0)) (hb : Below W.heap.size W w1) :
    ∃ cap, v1 = .slice (some ⟨W.heap.size, 0, none⟩) n cap ∧ Tab .i64 3 58 W (fun j => j = W.heap.size) (w1.alloc (Obj.cells #[v1] 58)) w1.heap.size (List.replicate n 0) ∧ W.heap.size < w1.heap.size ∧
      (∀ i : Nat, i < n → (w1.alloc (Obj.cells #[v1] 58)).cell? ⟨W.heap.size, i, none⟩ = some (.int .i64 0)) ∧ (∀ i : Nat, (w1.alloc (Obj.cells #[v1] 58)).frozen? ⟨W.heap.size, i, none⟩ = false) ∧
      (∀ (i : Nat) (x : Int), Tab .i64 3 58 W (fun j => j = W.heap.size) ((w1.alloc (Obj.cells #[v1] 58)).setCell ⟨W.heap.size, i, none⟩ (.int .i64 x)) w1.heap.size ((List.replicate n 0).set i x)) := by
  obtain ⟨g, cap, rfl, hg, hgl, -⟩ := Kd.R_form ho (by rw [List.length_replicate]; exact hp)
  obtain rfl : g = W.heap.size := ho.1 g rfl
  have hl : (List.replicate n (0 : Int)).length = n := List.length_replicate
  have ht : Tab .i64 3 58 W (fun j => j = W.heap.size) (w1.alloc (Obj.cells #[.slice (some ⟨W.heap.size, 0, none⟩) (List.replicate n (0 : Int)).length cap] 58)) w1.heap.size (List.replicate n 0) :=
    ⟨⟨W.heap.size, cap, alloc_at _ _, Kd.R_below ho (balloc _ _)⟩, hb.trans ((balloc _ _).mono hb.size), hb.size, fun h => absurd hgl (by omega)⟩
  obtain ⟨gb, cap', f0, f1, fz, hput⟩ := ht.open
  have e := f0.symm.trans (cell_of (alloc_at _ _))
  injection e with e
  injection e with e1 e2 e3
  injection e1 with e1
  injection e1 with e1
  subst e1
  refine ⟨cap, by rw [hl], ht, hgl, fun i hi => ?_, fz, fun i x => (hput i x).1⟩
  rw [f1 i (by rw [hl]; exact hi), rd_rep0]
theorem sufF_len (ws : List Int) : ∀ (k : Nat) (S : List Int), (sufF ws k S).length = S.length
  | 0, _ => rfl
  | k + 1, S => by rw [sufF, sufF_len ws k, choS_len]
theorem shortest_calls {W : World} {ws : List Int} {A : Option Addr} {c : Nat} (hw : Kd.C (Kd.int .u64) W A ws.length ws) (hc : ws.length ≤ c) (hn : ws.length + 1 ≤ 1000000000) (hr : ∀ x ∈ ws, 0 ≤ x ∧ x < 2 ^ 64) :
    Calls Tryd.prog 18 #[.slice A ws.length c] W fun e w' => e = .returned (.int .i64 (rd (sufF ws ws.length (startS ws.length)) 0)) ∧ Below W.heap.size W w' := by
  have HW := Aside0.mk hw
  have HR := Aside0.mk hr
  obtain ⟨T, hT⟩ : ∃ T, T = sufF ws ws.length (startS ws.length) := ⟨_, rfl⟩
  rw [← hT]
  have hTl : T.length = ws.length + 1 := by rw [hT, sufF_len]; simp [startS]
  have HT := Aside0.mk hT
  clear hw hr hT
  go_enter Tryd.func18, Tryd.ntmps18
  go_wp2_with (first
    | ((with_reducible refine gate_dst (N := 7) rfl ?_); refine Kd.R_make (Kd.int .i64) _ 3 rfl (N := 7) rfl 58 _ _ rfl ((ws.length : Int) + 1) rfl rfl Tryd.underlying58 (.int .i64 0) 8 infoE rfl (by decide) (by omega) 0 (ok := fun j => j = W.heap.size) (okp := fun j => j = W.heap.size) rfl (fun _ hk => hk) rfl (by omega) (by omega) (Below.refl _ _) (Nat.le_refl _) ?_; intro v1 w1 ho hb hg_ hnew_; clear hg_ hnew_; rw [show ((ws.length : Int) + 1).toNat = ws.length + 1 by omega] at ho; obtain ⟨cap, rfl, htab, hlt, hc0, hf0, hp0⟩ := R_newTab (Nat.succ_pos _) ho hb; have HTAB := Aside0.mk htab; have HLT := Aside0.mk hlt; have HPUT := Aside0.mk (hp0 ws.length 1); replace hc0 := hc0 ws.length (by omega); replace hf0 := hf0 ws.length;
        have hsuf := suffixes_calls (ws := ws) (A := A) (c := c) htab HW.out hc (by simp) (by simp; omega) HR.out (fun j hj => by rw [hj]; rw [alloc_size]; omega);
        unfold fnV at hsuf; have HSUF := Aside0.mk hsuf; clear ho hb htab hlt hp0 hsuf)
    | (go_at_call 32; refine HSUF.out.mono ?_; rintro e w4 ⟨rfl, ht4, hf4⟩; rw [show (List.replicate (ws.length + 1) 0 : List Int) = startS ws.length from rfl, ← HT.out] at ht4; obtain ⟨gb, cap4, x0, x1, xz, xp⟩ := ht4.open; replace x1 := x1 0 (by omega); rw [hTl] at x0; have HT4 := Aside0.mk ht4; clear ht4 hf4 xz xp))
  all_goals (go_ret; exact ⟨rfl, HT4.out.bel⟩)
def shortestF (ws : List Int) : Option Int := if ws.length + 1 ≤ 1000000000 ∧ ∀ x ∈ ws, 0 ≤ x ∧ x < 2 ^ 64 then some (rd (sufF ws ws.length (startS ws.length)) 0) else none
theorem shortestF_calls {W : World} {ws : List Int} {A : Option Addr} {c : Nat} {r : Int} (hw : Kd.C (Kd.int .u64) W A ws.length ws) (hc : ws.length ≤ c) (h : shortestF ws = some r) :
    Calls Tryd.prog 18 #[.slice A ws.length c] W fun e w' => e = .returned (.int .i64 r) ∧ Below W.heap.size W w' := by
  unfold shortestF at h
  split at h
  · rename_i hh
    injection h with h
    subst h
    exact shortest_calls hw hc hh.1 hh.2
  · cases h
end Go.Proofs.YtnchacmhjbkmhaaDoor.UnShortest
