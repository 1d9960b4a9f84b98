/- The decoder of package unpack, part 4: run as one contract; decode. -/
import Derived.Test.YtcdkgccmmfjnhaaDoorDec3
namespace Go.Proofs.YtcdkgccmmfjnhaaDoor.Un
open Go Go.RowKit Go.Proofs.YtcdkgccmmfjnhaaDoor Go.Proofs.YtcdkgccmmfjnhaaDoor.M Go.Proofs.YtcdkgccmmfjnhaaDoor.PUnBase Go.Proofs.YtcdkgccmmfjnhaaDoor.QUnBase Go.Proofs.YtcdkgccmmfjnhaaDoorW.PrintWords Go.Proofs.YtcdkgccmmfjnhaaDoorW.PrintLast Go.Proofs.YtcdkgccmmfjnhaaDoorW.PrintMore
set_option linter.unusedVariables false
set_option linter.unusedSimpArgs false
set_option maxHeartbeats 8000000
set_option maxRecDepth 100000

def runS (lim t : Int) (inn out : List Int) : List Int × List Int × Nat :=
  if t = 0 then (if inn.length = 0 then (inn, out, 2) else loopS lim 0 ((rd inn 0).toNat + 1) (inn.drop 1) out)
  else if (nextS lim 255 inn out).2.2 = 0 then
    (if (nextS lim 255 inn out).1.length = 0 then ((nextS lim 255 inn out).1, (nextS lim 255 inn out).2.1, 2)
     else loopS lim 255 (rd (nextS lim 255 inn out).1 0).toNat ((nextS lim 255 inn out).1.drop 1) (nextS lim 255 inn out).2.1)
  else nextS lim 255 inn out
theorem rd_B {l : List Int} (h : IsB l) (h0 : 0 < l.length) : 0 ≤ rd l 0 ∧ rd l 0 < 256 := by
  have : rd l 0 = l[0]'h0 := by simp [rd, List.getD_eq_getElem?_getD, List.getElem?_eq_getElem h0]
  rw [this]; exact h _ (List.getElem_mem h0)
theorem run_calls {W0 w : World} {g : Nat} {inn out : List Int} {lim t : Int} {aL aT : Addr} (hd : Dec W0 w g inn out lim) (hL : LaidU W0 aL aT) (ht : t = 0 ∨ t = 255) (hB : IsB inn) (hi : inn.length ≤ 1000000000) (ho : out.length + 4096 ≤ 70368744177664) :
    Calls Tryd.prog 26 #[.pointer (some ⟨g, 0, none⟩), .int .u8 t] w fun e w' => e = .returned (errV aL aT (runS lim t inn out).2.2) ∧ Dec W0 w' g (runS lim t inn out).1 (runS lim t inn out).2.1 lim := by
  rcases ht with rfl | rfl
  · rw [show runS lim 0 inn out = if inn.length = 0 then (inn, out, 2) else loopS lim 0 ((rd inn 0).toNat + 1) (inn.drop 1) out from if_pos rfl]
    by_cases h : inn.length = 0
    · rw [if_pos h]; exact run_zero_nil hd hL h
    · rw [if_neg h]
      obtain ⟨r0, r1⟩ := rd_B hB (by omega)
      exact run_zero_cons hd hL hB (by omega) hi ho (by omega) (by omega) rfl
  · rw [show runS lim 255 inn out = if (nextS lim 255 inn out).2.2 = 0 then
    (if (nextS lim 255 inn out).1.length = 0 then ((nextS lim 255 inn out).1, (nextS lim 255 inn out).2.1, 2)
     else loopS lim 255 (rd (nextS lim 255 inn out).1 0).toNat ((nextS lim 255 inn out).1.drop 1) (nextS lim 255 inn out).2.1)
  else nextS lim 255 inn out from if_neg (by decide)]
    rcases hr : nextS lim 255 inn out with ⟨inn1, out1, code⟩
    obtain ⟨m, h2⟩ := nextS_inn lim 255 inn out
    rw [hr] at h2
    have h2' : inn1 = inn.drop m := h2
    rcases code with _ | code
    · rw [if_pos rfl]
      by_cases h : inn1.length = 0
      · rw [if_pos h]; exact run_full_nil hd hL hB hi ho hr h
      · rw [if_neg h]
        obtain ⟨r0, r1⟩ := rd_B (l := inn1) (by rw [h2']; exact hB.drop m) (by omega)
        exact run_full_cons hd hL hB hi ho hr (by omega) (N := (rd inn1 0).toNat) (by omega) (by omega) rfl
    · rw [if_neg (by simp)]
      exact run_full_err hd hL hB hi ho hr
theorem runS_out {lim t : Int} {inn out : List Int} (hB : IsB inn) : (runS lim t inn out).2.1.length ≤ out.length + 4096 := by
  unfold runS
  split
  · split
    · simp
    · have := loopS_out lim 0 ((rd inn 0).toNat + 1) (inn.drop 1) out
      have := (rd_B hB (by omega)).2
      omega
  · have h1 := nextS_out lim 255 inn out
    obtain ⟨m, h2⟩ := nextS_inn lim 255 inn out
    split
    · split
      · show (nextS lim 255 inn out).2.1.length ≤ _; omega
      · have h3 := loopS_out lim 255 (rd (nextS lim 255 inn out).1 0).toNat ((nextS lim 255 inn out).1.drop 1) (nextS lim 255 inn out).2.1
        have h4 := (rd_B (l := (nextS lim 255 inn out).1) (by rw [h2]; exact hB.drop m) (by omega)).2
        omega
    · omega
theorem runS_inn (lim t : Int) (inn out : List Int) : ∃ m, (runS lim t inn out).1 = inn.drop m := by
  unfold runS
  split
  · split
    · exact ⟨0, rfl⟩
    · obtain ⟨m, h⟩ := loopS_inn lim 0 ((rd inn 0).toNat + 1) (inn.drop 1) out
      rw [h, List.drop_drop]; exact ⟨_, rfl⟩
  · obtain ⟨m, h2⟩ := nextS_inn lim 255 inn out
    split
    · split
      · exact ⟨m, h2⟩
      · obtain ⟨m', h⟩ := loopS_inn lim 255 (rd (nextS lim 255 inn out).1 0).toNat ((nextS lim 255 inn out).1.drop 1) (nextS lim 255 inn out).2.1
        rw [h, h2, List.drop_drop, List.drop_drop]; exact ⟨_, rfl⟩
    · exact ⟨m, h2⟩

/-! ### decode -/
def stepS (lim : Int) (inn out : List Int) : List Int × List Int × Nat :=
  if rd inn 0 = 0 ∨ rd inn 0 = 255 then runS lim (rd inn 0) (inn.drop 1) out else nextS lim (rd inn 0) (inn.drop 1) out
def decoS (lim : Int) : Nat → List Int → List Int → List Int × List Int × Nat
  | 0, inn, out => (inn, out, 0)
  | k + 1, inn, out => if inn.length = 0 then (inn, out, 0) else if (stepS lim inn out).2.2 = 0 then decoS lim k (stepS lim inn out).1 (stepS lim inn out).2.1 else stepS lim inn out
theorem decoS_nil (lim : Int) (k : Nat) (inn out : List Int) (h : inn.length = 0) : decoS lim k inn out = (inn, out, 0) := by
  cases k with
  | zero => rfl
  | succ k => rw [decoS, if_pos h]
theorem stepS_out {lim : Int} {inn out : List Int} (hB : IsB inn) : (stepS lim inn out).2.1.length ≤ out.length + 4096 := by
  unfold stepS
  split
  · exact runS_out (hB.drop 1)
  · have := nextS_out lim (rd inn 0) (inn.drop 1) out
    omega
theorem stepS_inn (lim : Int) (inn out : List Int) : ∃ m, (stepS lim inn out).1 = inn.drop (m + 1) := by
  unfold stepS
  split
  · obtain ⟨m, h⟩ := runS_inn lim (rd inn 0) (inn.drop 1) out
    rw [h, List.drop_drop]; exact ⟨m, by rw [Nat.add_comm]⟩
  · obtain ⟨m, h⟩ := nextS_inn lim (rd inn 0) (inn.drop 1) out
    rw [h, List.drop_drop]; exact ⟨m, by rw [Nat.add_comm]⟩

theorem decode_calls {W0 w : World} {g K RC : Nat} {inn out RI RO : List Int} {lim : Int} {aL aT : Addr} (hd : Dec W0 w g inn out lim) (hL : LaidU W0 aL aT) (hB : IsB inn) (hi : inn.length ≤ 1000000000) (hK : inn.length ≤ K) (ho : out.length + 4096 * inn.length ≤ 70368744177664) (hres : decoS lim K inn out = (RI, RO, RC)) :
    Calls Tryd.prog 18 #[.pointer (some ⟨g, 0, none⟩)] w fun e w' => e = .returned (errV aL aT RC) ∧ Dec W0 w' g RI RO lim := by
  have HD := Aside0.mk hd
  have HL := Aside0.mk hL
  have HRES := Aside0.mk hres
  have HP0 : Aside0 (IsB inn ∧ inn.length ≤ 1000000000 ∧ inn.length ≤ K ∧ out.length + 4096 * inn.length ≤ 70368744177664) := ⟨hB, hi, hK, ho⟩
  clear hd hL hB hi hK ho hres
  go_enter Tryd.func18, Tryd.ntmps18
  go_wp2
  (try go_step3)
  (try go_wp2)
  (try go_step3)
  (try go_wp2)
  go_loopg [2, 3] K (fun kq v2 v3 w' => ∃ (inn' out' : List Int), v2 = .nilIface ∧ Aside0 (Dec W0 w' g inn' out' lim) ∧ Aside0 (decoS lim kq inn' out' = (RI, RO, RC)) ∧ Aside0 (IsB inn' ∧ inn'.length ≤ 1000000000 ∧ inn'.length ≤ kq ∧ out'.length + 4096 * inn'.length ≤ 70368744177664))
  case atStart => exact ⟨inn, out, (by first | rfl | (simp; done) | (simp [*]; done)), HD, HRES, HP0⟩
  case round =>
    obtain ⟨inn', out', rfl, HD', HS, HP⟩ := hrel
    clear HRES HD HP0
    obtain ⟨⟨A, c, v, hblk, hin, hlen, hown⟩, hbel, hg⟩ := HD'.out
    have f0 := Dec.cell0 hblk
    by_cases h0 : inn'.length = 0
    · have c0 : decide ((inn'.length : Int) > 0) = false := decide_eq_false (by omega)
      have c1 : decide (0 < (inn'.length : Int)) = false := decide_eq_false (by omega)
      have c2 : (0 < inn'.length) = False := eq_false (by omega)
      have hs := (decoS_nil lim gk inn' out' h0).symm.trans HS.out
      simp only [Prod.mk.injEq] at hs
      obtain ⟨rfl, rfl, rfl⟩ := hs
      clear HS h0 hblk hin hlen hown hbel hg
      go_wp2
      (try go_step3)
      (try go_wp2)
      (try go_step3)
      (try go_wp2)
      (try simp only [Exit.noGoto])
      go_ret
      exact ⟨rfl, HD'.out⟩
    · cases gk with
      | zero => exact absurd HP.out.2.2.1 (by omega)
      | succ k1 =>
        have c0 : decide ((inn'.length : Int) > 0) = true := decide_eq_true (by omega)
        have c1 : decide (0 < (inn'.length : Int)) = true := decide_eq_true (by omega)
        have c2 : (0 < inn'.length) = True := eq_true (by omega)
        have HS2 := Aside0.mk ((((decoS.eq_2 lim inn' out' k1).symm.trans HS.out)))
        have HS3 := Aside0.mk ((if_neg h0).symm.trans HS2.out)
        clear HS HS2
        obtain ⟨A', c', hcut, hC', hc'⟩ := cut_in A c inn' 1 (by omega) hin hlen
        simp only [Int.cast_ofNat_Int] at hcut
        have f0z := blk_frozen hblk 0
        obtain ⟨ad, ead, hx⟩ := Kd.at_int (Kd.C_below hin hbel) 0 (Int.le_refl 0) (by omega)
        cases ead
        have hx' : wr.cell? ad = some (.int .u8 (rd inn' 0)) := hx
        obtain ⟨r0, r1⟩ := rd_B HP.out.1 (by omega)
        have HR := Aside0.mk (And.intro r0 r1)
        have HDS := Aside0.mk (Dec.setCut (m := 1) hblk hC' hc' hown hbel hg)
        have HH := Aside0.mk h0
        have HSO := Aside0.mk (stepS_out (lim := lim) (out := out') HP.out.1)
        have HSI := Aside0.mk (stepS_inn lim inn' out')
        obtain ⟨t, ht⟩ : ∃ t, t = rd inn' 0 := ⟨_, rfl⟩
        rw [← ht] at hx' HR
        have HT := Aside0.mk ht
        clear hx hblk hin hlen hown hbel hg hC' hc' h0 HD' r0 r1 ht
        by_cases ht : t = 0 ∨ t = 255
        · have HNX : Aside0 (Calls Tryd.prog 26 #[.pointer (some ⟨g, 0, none⟩), .int .u8 t] (wr.setCell ⟨g, 0, none⟩ (.slice A' (inn'.length - 1) c')) fun e w2 => e = .returned (errV aL aT (stepS lim inn' out').2.2) ∧ Dec W0 w2 g (stepS lim inn' out').1 (stepS lim inn' out').2.1 lim) := by
            refine ⟨?_⟩
            rw [show stepS lim inn' out' = runS lim t (inn'.drop 1) out' by rw [HT.out] at ht ⊢; exact if_pos ht]
            exact run_calls HDS.out HL.out ht (HP.out.1.drop 1) (by rw [List.length_drop]; have := HP.out.2.1; omega) (by have := HP.out.2.2.2; have := HH.out; omega)
          rcases hr : stepS lim inn' out' with ⟨inn1, out1, code⟩
          rw [hr] at HNX HS3 HSO HSI
          clear hr
          rcases ht with rfl | rfl
          · rcases code with _ | _ | code
            · have HS4 := Aside0.mk ((if_pos rfl).symm.trans HS3.out)
              clear HS3
              go_wp2_with (first
                | (go_at_call 26; refine HNX.out.mono ?_; rintro e w2 ⟨rfl, hd2⟩; simp only [errV]; have HD2 := Aside0.mk hd2; clear hd2))
              go_roundg k1
              case measure => omega
              case rel =>
                obtain ⟨m, hm⟩ := HSI.out
                have hm' : inn1 = inn'.drop (m + 1) := hm
                have hl : inn1.length ≤ inn'.length - 1 := by rw [hm', List.length_drop]; omega
                have ho1 : out1.length ≤ out'.length + 4096 := HSO.out
                have h0 := HH.out
                have hp := HP.out
                exact ⟨inn1, out1, (by first | rfl | (simp; done) | (simp [*]; done)), HD2, HS4, ⟨by rw [hm']; exact hp.1.drop _, by omega, by omega, by omega⟩⟩
            · have hs := (if_neg (by simp)).symm.trans HS3.out
              simp only [Prod.mk.injEq] at hs
              obtain ⟨rfl, rfl, rfl⟩ := hs
              clear HS3
              go_wp2_with (first
                | (go_at_call 26; refine HNX.out.mono ?_; rintro e w2 ⟨rfl, hd2⟩; simp only [errV]; have HD2 := Aside0.mk hd2; clear hd2))
              (try go_step3)
              (try go_wp2)
              (try go_step3)
              (try go_wp2)
              (try simp only [Exit.noGoto])
              go_ret
              exact ⟨rfl, HD2.out⟩
            · have hs := (if_neg (by simp)).symm.trans HS3.out
              simp only [Prod.mk.injEq] at hs
              obtain ⟨rfl, rfl, rfl⟩ := hs
              clear HS3
              go_wp2_with (first
                | (go_at_call 26; refine HNX.out.mono ?_; rintro e w2 ⟨rfl, hd2⟩; simp only [errV]; have HD2 := Aside0.mk hd2; clear hd2))
              (try go_step3)
              (try go_wp2)
              (try go_step3)
              (try go_wp2)
              (try simp only [Exit.noGoto])
              go_ret
              exact ⟨rfl, HD2.out⟩
          · rcases code with _ | _ | code
            · have HS4 := Aside0.mk ((if_pos rfl).symm.trans HS3.out)
              clear HS3
              go_wp2_with (first
                | (go_at_call 26; refine HNX.out.mono ?_; rintro e w2 ⟨rfl, hd2⟩; simp only [errV]; have HD2 := Aside0.mk hd2; clear hd2))
              go_roundg k1
              case measure => omega
              case rel =>
                obtain ⟨m, hm⟩ := HSI.out
                have hm' : inn1 = inn'.drop (m + 1) := hm
                have hl : inn1.length ≤ inn'.length - 1 := by rw [hm', List.length_drop]; omega
                have ho1 : out1.length ≤ out'.length + 4096 := HSO.out
                have h0 := HH.out
                have hp := HP.out
                exact ⟨inn1, out1, (by first | rfl | (simp; done) | (simp [*]; done)), HD2, HS4, ⟨by rw [hm']; exact hp.1.drop _, by omega, by omega, by omega⟩⟩
            · have hs := (if_neg (by simp)).symm.trans HS3.out
              simp only [Prod.mk.injEq] at hs
              obtain ⟨rfl, rfl, rfl⟩ := hs
              clear HS3
              go_wp2_with (first
                | (go_at_call 26; refine HNX.out.mono ?_; rintro e w2 ⟨rfl, hd2⟩; simp only [errV]; have HD2 := Aside0.mk hd2; clear hd2))
              (try go_step3)
              (try go_wp2)
              (try go_step3)
              (try go_wp2)
              (try simp only [Exit.noGoto])
              go_ret
              exact ⟨rfl, HD2.out⟩
            · have hs := (if_neg (by simp)).symm.trans HS3.out
              simp only [Prod.mk.injEq] at hs
              obtain ⟨rfl, rfl, rfl⟩ := hs
              clear HS3
              go_wp2_with (first
                | (go_at_call 26; refine HNX.out.mono ?_; rintro e w2 ⟨rfl, hd2⟩; simp only [errV]; have HD2 := Aside0.mk hd2; clear hd2))
              (try go_step3)
              (try go_wp2)
              (try go_step3)
              (try go_wp2)
              (try simp only [Exit.noGoto])
              go_ret
              exact ⟨rfl, HD2.out⟩
        · have HNX : Aside0 (Calls Tryd.prog 27 #[.pointer (some ⟨g, 0, none⟩), .int .u8 t] (wr.setCell ⟨g, 0, none⟩ (.slice A' (inn'.length - 1) c')) fun e w2 => e = .returned (errV aL aT (stepS lim inn' out').2.2) ∧ Dec W0 w2 g (stepS lim inn' out').1 (stepS lim inn' out').2.1 lim) := by
            refine ⟨?_⟩
            rw [show stepS lim inn' out' = nextS lim t (inn'.drop 1) out' by rw [HT.out] at ht ⊢; exact if_neg ht]
            exact next_calls HDS.out HL.out HR.out.1 HR.out.2 (HP.out.1.drop 1) (by rw [List.length_drop]; have := HP.out.2.1; omega) (by have := HP.out.2.2.2; omega)
          rcases hr : stepS lim inn' out' with ⟨inn1, out1, code⟩
          rw [hr] at HNX HS3 HSO HSI
          clear hr
          have t0 : (t == 0) = false := beq_eq_false_iff_ne.mpr (fun e => ht (.inl e))
          have t1 : (t == 255) = false := beq_eq_false_iff_ne.mpr (fun e => ht (.inr e))
          clear ht
          rcases code with _ | _ | code
          · have HS4 := Aside0.mk ((if_pos rfl).symm.trans HS3.out)
            clear HS3
            go_wp2_with (first
              | (go_at_call 27; refine HNX.out.mono ?_; rintro e w2 ⟨rfl, hd2⟩; simp only [errV]; have HD2 := Aside0.mk hd2; clear hd2))
            go_roundg k1
            case measure => omega
            case rel =>
              obtain ⟨m, hm⟩ := HSI.out
              have hm' : inn1 = inn'.drop (m + 1) := hm
              have hl : inn1.length ≤ inn'.length - 1 := by rw [hm', List.length_drop]; omega
              have ho1 : out1.length ≤ out'.length + 4096 := HSO.out
              have h0 := HH.out
              have hp := HP.out
              exact ⟨inn1, out1, (by first | rfl | (simp; done) | (simp [*]; done)), HD2, HS4, ⟨by rw [hm']; exact hp.1.drop _, by omega, by omega, by omega⟩⟩
          · have hs := (if_neg (by simp)).symm.trans HS3.out
            simp only [Prod.mk.injEq] at hs
            obtain ⟨rfl, rfl, rfl⟩ := hs
            clear HS3
            go_wp2_with (first
              | (go_at_call 27; refine HNX.out.mono ?_; rintro e w2 ⟨rfl, hd2⟩; simp only [errV]; have HD2 := Aside0.mk hd2; clear hd2))
            (try go_step3)
            (try go_wp2)
            (try go_step3)
            (try go_wp2)
            (try simp only [Exit.noGoto])
            go_ret
            exact ⟨rfl, HD2.out⟩
          · have hs := (if_neg (by simp)).symm.trans HS3.out
            simp only [Prod.mk.injEq] at hs
            obtain ⟨rfl, rfl, rfl⟩ := hs
            clear HS3
            go_wp2_with (first
              | (go_at_call 27; refine HNX.out.mono ?_; rintro e w2 ⟨rfl, hd2⟩; simp only [errV]; have HD2 := Aside0.mk hd2; clear hd2))
            (try go_step3)
            (try go_wp2)
            (try go_step3)
            (try go_wp2)
            (try simp only [Exit.noGoto])
            go_ret
            exact ⟨rfl, HD2.out⟩
end Go.Proofs.YtcdkgccmmfjnhaaDoor.Un
