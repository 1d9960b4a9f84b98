/- The decoder of package unpack, part 3: run. -/
import Derived.Test.YtcdkgccmmfjnhaaDoorDec2
namespace Go.Proofs.YtcdkgccmmfjnhaaDoor.Un
open Go Go.RowKit Go.Proofs.YtcdkgccmmfjnhaaDoor Go.Proofs.YtcdkgccmmfjnhaaDoor.M Go.Proofs.YtcdkgccmmfjnhaaDoor.PUnBase Go.Proofs.YtcdkgccmmfjnhaaDoor.QUnBase Go.Proofs.YtcdkgccmmfjnhaaDoorW.PrintWords Go.Proofs.YtcdkgccmmfjnhaaDoorW.PrintLast Go.Proofs.YtcdkgccmmfjnhaaDoorW.PrintMore
set_option linter.unusedVariables false
set_option linter.unusedSimpArgs false
set_option maxHeartbeats 8000000
set_option maxRecDepth 100000

/-! ### what the loop of a run does -/
def loopS (lim t : Int) : Nat → List Int → List Int → List Int × List Int × Nat
  | 0, inn, out => (inn, out, 0)
  | n + 1, inn, out => if (nextS lim t inn out).2.2 = 0 then loopS lim t n (nextS lim t inn out).1 (nextS lim t inn out).2.1 else nextS lim t inn out
theorem emitS_len (lim : Int) (out : List Int) (x : Int) : (emitS lim out x).1.length ≤ out.length + 8 := by
  unfold emitS
  split
  · simp
  · simp [bytesS_length]
theorem nextS_out (lim t : Int) (inn out : List Int) : (nextS lim t inn out).2.1.length ≤ out.length + 8 := by
  unfold nextS
  split
  · exact emitS_len _ _ _
  · simp
theorem nextS_inn (lim t : Int) (inn out : List Int) : ∃ m, (nextS lim t inn out).1 = inn.drop m := by
  unfold nextS
  split
  · exact ⟨_, rfl⟩
  · exact ⟨0, rfl⟩
theorem loopS_out (lim t : Int) : ∀ (n : Nat) (inn out : List Int), (loopS lim t n inn out).2.1.length ≤ out.length + 8 * n
  | 0, inn, out => by simp [loopS]
  | n + 1, inn, out => by
    have h := nextS_out lim t inn out
    rw [loopS]
    split
    · have := loopS_out lim t n (nextS lim t inn out).1 (nextS lim t inn out).2.1
      omega
    · omega
theorem loopS_inn (lim t : Int) : ∀ (n : Nat) (inn out : List Int), ∃ m, (loopS lim t n inn out).1 = inn.drop m
  | 0, inn, out => ⟨0, rfl⟩
  | n + 1, inn, out => by
    obtain ⟨m, h⟩ := nextS_inn lim t inn out
    rw [loopS]
    split
    · obtain ⟨m', h'⟩ := loopS_inn lim t n (nextS lim t inn out).1 (nextS lim t inn out).2.1
      rw [h', h, List.drop_drop]
      exact ⟨_, rfl⟩
    · exact ⟨m, h⟩

theorem run_zero_nil {W0 w : World} {g : Nat} {inn out : List Int} {lim : Int} {aL aT : Addr} (hd : Dec W0 w g inn out lim) (hL : LaidU W0 aL aT) (h : inn.length = 0) :
    Calls Tryd.prog 26 #[.pointer (some ⟨g, 0, none⟩), .int .u8 0] w fun e w' => e = .returned (errV aL aT 2) ∧ Dec W0 w' g inn out lim := by
  have HC := Aside0.mk (count_nil hd hL h)
  clear hd hL
  go_enter Tryd.func26, Tryd.ntmps26
  go_wp2_with (first
    | (go_at_call 31; refine HC.out.mono ?_; rintro e w1 ⟨rfl, hd1⟩; simp only [errV]; have HD1 := Aside0.mk hd1; clear hd1))
  refine wp_loop_rounds 1 ?_
  rw [rounds_succ]
  go_wp2
  go_ret
  exact ⟨rfl, HD1.out⟩

theorem run_zero_cons {W0 w : World} {g N RC : Nat} {inn out RI RO : List Int} {lim : Int} {aL aT : Addr} (hd : Dec W0 w g inn out lim) (hL : LaidU W0 aL aT) (hB : IsB inn) (h : 0 < inn.length) (hi : inn.length ≤ 1000000000) (ho : out.length + 4096 ≤ 70368744177664) (hN : rd inn 0 + 1 = (N : Int)) (hN2 : N ≤ 256) (hres : loopS lim 0 N (inn.drop 1) out = (RI, RO, RC)) :
    Calls Tryd.prog 26 #[.pointer (some ⟨g, 0, none⟩), .int .u8 0] w fun e w' => e = .returned (errV aL aT RC) ∧ Dec W0 w' g RI RO lim := by
  have HC := Aside0.mk (count_cons hd h hB)
  obtain ⟨q, hq⟩ : ∃ q, q = inn.drop 1 := ⟨_, rfl⟩
  have HQ : Aside0 (IsB q ∧ q.length ≤ 1000000000 ∧ out.length + 8 * N ≤ 70368744177664) := ⟨by rw [hq]; exact hB.drop 1, by rw [hq, List.length_drop]; omega, by omega⟩
  rw [← hq] at hres HC
  have HRES := Aside0.mk hres
  have HL := Aside0.mk hL
  have HN := Aside0.mk hN2
  have e1 : wrap64 (rd inn 0 + 1) = (N : Int) := by rw [hN]; exact w64 (by omega) (by omega)
  clear hd hL hB hN hres hq
  go_enter Tryd.func26, Tryd.ntmps26
  go_wp2_with (first
    | (go_at_call 31; refine HC.out.mono ?_; rintro e w1 ⟨rfl, hd1⟩; have HD1 := Aside0.mk hd1; clear hd1))
  (try simp only [e1])
  clear e1
  go_loopg [7, 30] N (fun kq v7 v30 w' => ∃ (i : Int) (inn' out' : List Int), v7 = .nilIface ∧ v30 = .int .i64 i ∧ Aside0 (i + kq = N) ∧ Aside0 (kq ≤ N) ∧ Aside0 (Dec W0 w' g inn' out' lim) ∧ Aside0 (loopS lim 0 kq inn' out' = (RI, RO, RC)) ∧ Aside0 (IsB inn' ∧ inn'.length ≤ 1000000000 ∧ out'.length + 8 * kq ≤ 70368744177664))
  case atStart => exact ⟨0, q, out, (by first | rfl | (simp; done) | (simp [*]; done)), (by first | rfl | (simp; done) | (simp [*]; done)), ⟨by omega⟩, ⟨Nat.le_refl _⟩, HD1, HRES, HQ⟩
  case round =>
    obtain ⟨i, inn', out', rfl, rfl, HI, HK, HD', HS, HP⟩ := hrel
    clear HRES HD1
    cases gk with
    | zero =>
      have c0 : decide (i < (N : Int)) = false := decide_eq_false (by have := HI.out; omega)
      have c0' : ¬ i < (N : Int) := by have := HI.out; omega
      have hs := HS.out
      simp only [loopS, Prod.mk.injEq] at hs
      obtain ⟨rfl, rfl, rfl⟩ := hs
      clear HS
      go_wp2
      go_ret
      exact ⟨rfl, HD'.out⟩
    | succ k1 =>
      have c0 : decide (i < (N : Int)) = true := decide_eq_true (by have := HI.out; omega)
      have c0' : i < (N : Int) := by have := HI.out; omega
      have ci : wrap64 (i + 1) = i + 1 := w64 (by have := HI.out; have := HK.out; have := HN.out; omega) (by have := HI.out; have := HN.out; omega)
      have HNX := Aside0.mk (next_calls HD'.out HL.out (t := 0) (by omega) (by omega) HP.out.1 (by have := HP.out.2.1; omega) (by have := HP.out.2.2; omega))
      have HO := Aside0.mk (nextS_out lim 0 inn' out')
      have HI2 := Aside0.mk (nextS_inn lim 0 inn' out')
      have HS2 := Aside0.mk ((loopS.eq_2 lim 0 inn' out' k1).symm.trans HS.out)
      clear HS HD'
      rcases hr : nextS lim 0 inn' out' with ⟨inn1, out1, code⟩
      rw [hr] at HNX HO HI2 HS2
      clear hr
      rcases code with _ | _ | code
      · have HS3 := Aside0.mk ((if_pos rfl).symm.trans HS2.out)
        clear HS2
        go_wp2_with (first
          | (go_at_call 27; refine HNX.out.mono ?_; rintro e w2 ⟨rfl, hd2⟩; simp only [errV]; have HD2 := Aside0.mk hd2; clear hd2))
        go_roundg k1
        case measure => omega
        case rel => exact ⟨i + 1, inn1, out1, (by first | rfl | (simp; done) | (simp [*]; done)), (by first | rfl | (simp; done) | (simp [*]; done)), ⟨by have := HI.out; omega⟩, ⟨by have := HK.out; omega⟩, HD2, HS3, ⟨by obtain ⟨m, hm⟩ := HI2.out; have hm' : inn1 = inn'.drop m := hm; rw [hm']; exact HP.out.1.drop m, by obtain ⟨m, hm⟩ := HI2.out; have hm' : inn1 = inn'.drop m := hm; rw [hm', List.length_drop]; have := HP.out.2.1; omega, by have ho' : out1.length ≤ out'.length + 8 := HO.out; have := HP.out.2.2; omega⟩⟩
      · have hs := (if_neg (by simp)).symm.trans HS2.out
        simp only [Prod.mk.injEq] at hs
        obtain ⟨rfl, rfl, rfl⟩ := hs
        clear HS2
        go_wp2_with (first
          | (go_at_call 27; refine HNX.out.mono ?_; rintro e w2 ⟨rfl, hd2⟩; simp only [errV]; have HD2 := Aside0.mk hd2; clear hd2))
        go_ret
        exact ⟨rfl, HD2.out⟩
      · have hs := (if_neg (by simp)).symm.trans HS2.out
        simp only [Prod.mk.injEq] at hs
        obtain ⟨rfl, rfl, rfl⟩ := hs
        clear HS2
        go_wp2_with (first
          | (go_at_call 27; refine HNX.out.mono ?_; rintro e w2 ⟨rfl, hd2⟩; simp only [errV]; have HD2 := Aside0.mk hd2; clear hd2))
        go_ret
        exact ⟨rfl, HD2.out⟩

/-! ### the tag ff: one word ahead of the loop -/
theorem run_full_err {W0 w : World} {g RC : Nat} {inn out RI RO : List Int} {lim : Int} {aL aT : Addr} (hd : Dec W0 w g inn out lim) (hL : LaidU W0 aL aT) (hB : IsB inn) (hi : inn.length ≤ 1000000000) (ho : out.length + 4096 ≤ 70368744177664) (hres : nextS lim 255 inn out = (RI, RO, RC + 1)) :
    Calls Tryd.prog 26 #[.pointer (some ⟨g, 0, none⟩), .int .u8 255] w fun e w' => e = .returned (errV aL aT (RC + 1)) ∧ Dec W0 w' g RI RO lim := by
  have HNX := Aside0.mk (next_calls hd hL (t := 255) (by omega) (by omega) hB (by omega) (by omega))
  rw [hres] at HNX
  clear hd hL hB hi ho hres
  rcases RC with _ | RC
  · go_enter Tryd.func26, Tryd.ntmps26
    go_wp2_with (first
      | (go_at_call 27; refine HNX.out.mono ?_; rintro e w2 ⟨rfl, hd2⟩; simp only [errV]; have HD2 := Aside0.mk hd2; clear hd2))
    go_ret
    exact ⟨rfl, HD2.out⟩
  · go_enter Tryd.func26, Tryd.ntmps26
    go_wp2_with (first
      | (go_at_call 27; refine HNX.out.mono ?_; rintro e w2 ⟨rfl, hd2⟩; simp only [errV]; have HD2 := Aside0.mk hd2; clear hd2))
    go_ret
    exact ⟨rfl, HD2.out⟩
theorem run_full_nil {W0 w : World} {g : Nat} {inn out inn1 out1 : List Int} {lim : Int} {aL aT : Addr} (hd : Dec W0 w g inn out lim) (hL : LaidU W0 aL aT) (hB : IsB inn) (hi : inn.length ≤ 1000000000) (ho : out.length + 4096 ≤ 70368744177664) (hres : nextS lim 255 inn out = (inn1, out1, 0)) (h : inn1.length = 0) :
    Calls Tryd.prog 26 #[.pointer (some ⟨g, 0, none⟩), .int .u8 255] w fun e w' => e = .returned (errV aL aT 2) ∧ Dec W0 w' g inn1 out1 lim := by
  have HNX := Aside0.mk (next_calls hd hL (t := 255) (by omega) (by omega) hB (by omega) (by omega))
  rw [hres] at HNX
  have HL := Aside0.mk hL
  have HH := Aside0.mk h
  clear hd hL hB hi ho hres h
  go_enter Tryd.func26, Tryd.ntmps26
  go_wp2_with (first
    | (go_at_call 27; refine HNX.out.mono ?_; rintro e w2 ⟨rfl, hd2⟩; simp only [errV]; have HC := Aside0.mk (count_nil hd2 HL.out HH.out); clear hd2)
    | (go_at_call 31; refine HC.out.mono ?_; rintro e w1 ⟨rfl, hd1⟩; simp only [errV]; have HD1 := Aside0.mk hd1; clear hd1))
  refine wp_loop_rounds 1 ?_
  rw [rounds_succ]
  go_wp2
  go_ret
  exact ⟨rfl, HD1.out⟩
theorem run_full_cons {W0 w : World} {g N RC : Nat} {inn out inn1 out1 RI RO : List Int} {lim : Int} {aL aT : Addr} (hd : Dec W0 w g inn out lim) (hL : LaidU W0 aL aT) (hB : IsB inn) (hi : inn.length ≤ 1000000000) (ho : out.length + 4096 ≤ 70368744177664) (hres1 : nextS lim 255 inn out = (inn1, out1, 0)) (h : 0 < inn1.length) (hN : rd inn1 0 = (N : Int)) (hN2 : N ≤ 255) (hres : loopS lim 255 N (inn1.drop 1) out1 = (RI, RO, RC)) :
    Calls Tryd.prog 26 #[.pointer (some ⟨g, 0, none⟩), .int .u8 255] w fun e w' => e = .returned (errV aL aT RC) ∧ Dec W0 w' g RI RO lim := by
  have HNX := Aside0.mk (next_calls hd hL (t := 255) (by omega) (by omega) hB (by omega) (by omega))
  have h1 := nextS_out lim 255 inn out
  obtain ⟨m, h2⟩ := nextS_inn lim 255 inn out
  rw [hres1] at HNX h1 h2
  simp only at h1 h2
  have HL := Aside0.mk hL
  have HN := Aside0.mk hN2
  have HH := Aside0.mk h
  have hB1 : IsB inn1 := by rw [h2]; exact hB.drop m
  have HB1 := Aside0.mk hB1
  have hl1 : inn1.length ≤ 1000000000 := by rw [h2, List.length_drop]; omega
  obtain ⟨q, hq⟩ : ∃ q, q = inn1.drop 1 := ⟨_, rfl⟩
  have HQ : Aside0 (IsB q ∧ q.length ≤ 1000000000 ∧ out1.length + 8 * N ≤ 70368744177664) := ⟨by rw [hq]; exact hB1.drop 1, by rw [hq, List.length_drop]; omega, by omega⟩
  rw [← hq] at hres
  have HRES := Aside0.mk hres
  have HQQ := Aside0.mk hq
  have HNN := Aside0.mk hN
  clear hd hL hB hi ho hres hres1 h hN h1 h2 hq hB1 hl1
  go_enter Tryd.func26, Tryd.ntmps26
  go_wp2_with (first
    | (go_at_call 27; refine HNX.out.mono ?_; rintro e w2 ⟨rfl, hd2⟩; simp only [errV]; have HC := Aside0.mk (count_cons hd2 HH.out HB1.out); clear hd2; rw [← HQQ.out, HNN.out] at HC)
    | (go_at_call 31; refine HC.out.mono ?_; rintro e w1 ⟨rfl, hd1⟩; have HD1 := Aside0.mk hd1; clear hd1))
  go_loopg [7, 30] N (fun kq v7 v30 w' => ∃ (i : Int) (inn' out' : List Int), v7 = .nilIface ∧ v30 = .int .i64 i ∧ Aside0 (i + kq = N) ∧ Aside0 (kq ≤ N) ∧ Aside0 (Dec W0 w' g inn' out' lim) ∧ Aside0 (loopS lim 255 kq inn' out' = (RI, RO, RC)) ∧ Aside0 (IsB inn' ∧ inn'.length ≤ 1000000000 ∧ out'.length + 8 * kq ≤ 70368744177664))
  case atStart => exact ⟨0, q, out1, (by first | rfl | (simp; done) | (simp [*]; done)), (by first | rfl | (simp; done) | (simp [*]; done)), ⟨by omega⟩, ⟨Nat.le_refl _⟩, HD1, HRES, HQ⟩
  case round =>
    obtain ⟨i, inn', out', rfl, rfl, HI, HK, HD', HS, HP⟩ := hrel
    clear HRES HD1
    cases gk with
    | zero =>
      have c0 : decide (i < (N : Int)) = false := decide_eq_false (by have := HI.out; omega)
      have c0' : ¬ i < (N : Int) := by have := HI.out; omega
      have hs := HS.out
      simp only [loopS, Prod.mk.injEq] at hs
      obtain ⟨rfl, rfl, rfl⟩ := hs
      clear HS
      go_wp2
      go_ret
      exact ⟨rfl, HD'.out⟩
    | succ k1 =>
      have c0 : decide (i < (N : Int)) = true := decide_eq_true (by have := HI.out; omega)
      have c0' : i < (N : Int) := by have := HI.out; omega
      have ci : wrap64 (i + 1) = i + 1 := w64 (by have := HI.out; have := HK.out; have := HN.out; omega) (by have := HI.out; have := HN.out; omega)
      have HNX := Aside0.mk (next_calls HD'.out HL.out (t := 255) (by omega) (by omega) HP.out.1 (by have := HP.out.2.1; omega) (by have := HP.out.2.2; omega))
      have HO := Aside0.mk (nextS_out lim 255 inn' out')
      have HI2 := Aside0.mk (nextS_inn lim 255 inn' out')
      have HS2 := Aside0.mk ((loopS.eq_2 lim 255 inn' out' k1).symm.trans HS.out)
      clear HS HD'
      rcases hr : nextS lim 255 inn' out' with ⟨inn1, out1, code⟩
      rw [hr] at HNX HO HI2 HS2
      clear hr
      rcases code with _ | _ | code
      · have HS3 := Aside0.mk ((if_pos rfl).symm.trans HS2.out)
        clear HS2
        go_wp2_with (first
          | (go_at_call 27; refine HNX.out.mono ?_; rintro e w2 ⟨rfl, hd2⟩; simp only [errV]; have HD2 := Aside0.mk hd2; clear hd2))
        go_roundg k1
        case measure => omega
        case rel => exact ⟨i + 1, inn1, out1, (by first | rfl | (simp; done) | (simp [*]; done)), (by first | rfl | (simp; done) | (simp [*]; done)), ⟨by have := HI.out; omega⟩, ⟨by have := HK.out; omega⟩, HD2, HS3, ⟨by obtain ⟨m, hm⟩ := HI2.out; have hm' : inn1 = inn'.drop m := hm; rw [hm']; exact HP.out.1.drop m, by obtain ⟨m, hm⟩ := HI2.out; have hm' : inn1 = inn'.drop m := hm; rw [hm', List.length_drop]; have := HP.out.2.1; omega, by have ho' : out1.length ≤ out'.length + 8 := HO.out; have := HP.out.2.2; omega⟩⟩
      · have hs := (if_neg (by simp)).symm.trans HS2.out
        simp only [Prod.mk.injEq] at hs
        obtain ⟨rfl, rfl, rfl⟩ := hs
        clear HS2
        go_wp2_with (first
          | (go_at_call 27; refine HNX.out.mono ?_; rintro e w2 ⟨rfl, hd2⟩; simp only [errV]; have HD2 := Aside0.mk hd2; clear hd2))
        go_ret
        exact ⟨rfl, HD2.out⟩
      · have hs := (if_neg (by simp)).symm.trans HS2.out
        simp only [Prod.mk.injEq] at hs
        obtain ⟨rfl, rfl, rfl⟩ := hs
        clear HS2
        go_wp2_with (first
          | (go_at_call 27; refine HNX.out.mono ?_; rintro e w2 ⟨rfl, hd2⟩; simp only [errV]; have HD2 := Aside0.mk hd2; clear hd2))
        go_ret
        exact ⟨rfl, HD2.out⟩

end Go.Proofs.YtcdkgccmmfjnhaaDoor.Un
