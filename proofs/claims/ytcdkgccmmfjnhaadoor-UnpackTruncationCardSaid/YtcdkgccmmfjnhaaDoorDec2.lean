/- The decoder of package unpack, part 2: next, count. -/
import Derived.Test.YtcdkgccmmfjnhaaDoorDec
namespace Go.Proofs.YtcdkgccmmfjnhaaDoor.Un
open Go Go.RowKit Go.Proofs.YtcdkgccmmfjnhaaDoor Go.Proofs.YtcdkgccmmfjnhaaDoor.M Go.Proofs.YtcdkgccmmfjnhaaDoor.PUnBase Go.Proofs.YtcdkgccmmfjnhaaDoor.QUnBase Go.Proofs.YtcdkgccmmfjnhaaDoorW.PrintWords Go.Proofs.YtcdkgccmmfjnhaaDoorW.PrintLast Go.Proofs.YtcdkgccmmfjnhaaDoorW.PrintMore
set_option linter.unusedVariables false
set_option linter.unusedSimpArgs false
set_option maxHeartbeats 8000000
set_option maxRecDepth 100000

theorem Dec.setCut {W0 w : World} {g m : Nat} {inn out : List Int} {lim : Int} {A : Option Addr} {c : Nat} {x v : Value} (hblk : w.heap[g]? = some (.cells #[x, v, .int .i64 lim] 41 (0, 0))) (hin : Kd.C (Kd.int .u8) W0 A (inn.drop m).length (inn.drop m)) (hlen : (inn.drop m).length ≤ c) (hown : Kd.R (Kd.int .u8) 5 w W0.heap.size (fun k => k ≠ g) v out) (hb : Below W0.heap.size W0 w) (hg : W0.heap.size ≤ g) : Dec W0 (w.setCell ⟨g, 0, none⟩ (.slice A (inn.length - m) c)) g (inn.drop m) out lim := by
  rw [← List.length_drop]
  exact Dec.setIn hblk hin hlen hown hb hg
theorem next_yes {W0 w : World} {g : Nat} {inn out : List Int} {lim t : Int} {aL aT : Addr} (hd : Dec W0 w g inn out lim) (hL : LaidU W0 aL aT) (ht0 : 0 ≤ t) (ht1 : t < 256) (hB : IsB inn) (hi : inn.length ≤ 140737488355328) (hn : out.length ≤ 70368744177664) (h : onesS t ≤ inn.length) :
    Calls Tryd.prog 27 #[.pointer (some ⟨g, 0, none⟩), .int .u8 t] w fun e w' => e = .returned (errV aL aT (emitS lim out (expS t inn)).2) ∧ Dec W0 w' g (inn.drop (onesS t)) (emitS lim out (expS t inn)).1 lim := by
  obtain ⟨kb, hkb⟩ := Ev.rounds (tagExpand t inn ht0 ht1 hB hi)
  rw [if_pos h] at hkb
  have hx := expS_range (t := t) hB
  have HX := Aside0.mk hx
  obtain ⟨⟨A, c, v, hblk, hin, hlen, hown⟩, hbel, hg⟩ := hd
  obtain ⟨A', c', hcut, hC', hc'⟩ := cut_in A c inn (onesS t) h hin hlen
  have f0 := Dec.cell0 hblk
  have f0z := blk_frozen hblk 0
  have HB := Aside0.mk hbel
  have HKB := Aside0.mk hkb
  have HIN := Aside0.mk (Kd.C_below hin hbel)
  have HC' := Aside0.mk hC'
  have Hc' := Aside0.mk hc'
  have HLEN := Aside0.mk hlen
  have HOWN := Aside0.mk hown
  have HBLK := Aside0.mk hblk
  have HG := Aside0.mk hg
  have HL := Aside0.mk hL
  have HN := Aside0.mk hn
  clear hblk hin hlen hown hbel hg hkb hL hC' hc' hn hx
  go_enter Tryd.func27, Tryd.ntmps27
  go_wp2_with (first
    | (go_at_call 32; refine (tagbyte_Expand.calls kb t A c inn _ _ _ w HIN.out HLEN.out HKB.out).mono ?_; rintro e w1 ⟨rfl, ⟨nd, rfl⟩⟩)
    | (go_at_call 33; refine (emit_calls (W0 := W0) (inn := inn.drop (onesS t)) (out := out) (lim := lim) (aL := aL) (aT := aT) ?_ HL.out HN.out HX.out.1 HX.out.2).mono ?_; (first | exact Dec.drewN (Dec.setCut (w := w) HBLK.out HC'.out Hc'.out HOWN.out HB.out HG.out) nd | exact Dec.setCut (w := w.drewN nd) HBLK.out HC'.out Hc'.out (Kd.R_drewN HOWN.out nd) (pw_below_drewN HB.out nd) HG.out); rintro e w2 ⟨rfl, hd2⟩; have HD2 := Aside0.mk hd2; clear hd2))
  go_ret
  exact ⟨rfl, HD2.out⟩
theorem next_calls {W0 w : World} {g : Nat} {inn out : List Int} {lim t : Int} {aL aT : Addr} (hd : Dec W0 w g inn out lim) (hL : LaidU W0 aL aT) (ht0 : 0 ≤ t) (ht1 : t < 256) (hB : IsB inn) (hi : inn.length ≤ 140737488355328) (hn : out.length ≤ 70368744177664) :
    Calls Tryd.prog 27 #[.pointer (some ⟨g, 0, none⟩), .int .u8 t] w fun e w' => e = .returned (errV aL aT (nextS lim t inn out).2.2) ∧ Dec W0 w' g (nextS lim t inn out).1 (nextS lim t inn out).2.1 lim := by
  unfold nextS
  by_cases h : onesS t ≤ inn.length
  · rw [if_pos h]; exact next_yes hd hL ht0 ht1 hB hi hn h
  · rw [if_neg h]; exact next_short hd hL ht0 ht1 hB hi h

/-! ### count -/
theorem count_nil {W0 w : World} {g : Nat} {inn out : List Int} {lim : Int} {aL aT : Addr} (hd : Dec W0 w g inn out lim) (hL : LaidU W0 aL aT) (h : inn.length = 0) :
    Calls Tryd.prog 31 #[.pointer (some ⟨g, 0, none⟩)] w fun e w' => e = .returned (.tuple #[.int .i64 0, errV aL aT 2]) ∧ Dec W0 w' g inn out lim := by
  have HD := Aside0.mk hd
  obtain ⟨⟨A, c, v, hblk, hin, hlen, hown⟩, hbel, hg⟩ := hd
  have f0 := Dec.cell0 hblk
  have g1 : w.cell? ⟨1, 0, none⟩ = some (.iface 76 (.pointer (some aT))) := (hL.below hbel).c1
  have h0 : ((inn.length : Int) == 0) = true := by rw [h]; rfl
  clear hblk hin hlen hown hbel hg hL h
  go_enter Tryd.func31, Tryd.ntmps31
  go_wp2
  go_region
  go_wp2
  go_ret2
  exact ⟨rfl, HD.out.drew⟩
theorem count_cons {W0 w : World} {g : Nat} {inn out : List Int} {lim : Int} (hd : Dec W0 w g inn out lim) (h : 0 < inn.length) (hB : IsB inn) :
    Calls Tryd.prog 31 #[.pointer (some ⟨g, 0, none⟩)] w fun e w' => e = .returned (.tuple #[.int .i64 (rd inn 0), .nilIface]) ∧ Dec W0 w' g (inn.drop 1) out lim := by
  obtain ⟨⟨A, c, v, hblk, hin, hlen, hown⟩, hbel, hg⟩ := hd
  obtain ⟨A', c', hcut, hC', hc'⟩ := cut_in A c inn 1 h hin hlen
  have hcut1 := hcut
  simp only [Int.cast_ofNat_Int] at hcut1
  have f0 := Dec.cell0 hblk
  have f0z := blk_frozen hblk 0
  have h0 : ((inn.length : Int) == 0) = false := by rw [beq_eq_false_iff_ne]; omega
  have p0 : (0 : Int) ≤ 0 := Int.le_refl 0
  have q0 : (0 : Int) < (inn.length : Int) := by omega
  obtain ⟨ad, ead, hx⟩ := Kd.at_int (Kd.C_below hin hbel) 0 p0 q0
  cases ead
  have hx' : w.cell? ad = some (.int .u8 (rd inn 0)) := hx
  have h1 : (0 < inn.length) = True := eq_true h
  clear hx q0
  have hr : 0 ≤ rd inn 0 ∧ rd inn 0 < 256 := by
    have : rd inn 0 = inn[0]'h := by simp [rd, List.getD_eq_getElem?_getD, List.getElem?_eq_getElem h]
    rw [this]; exact hB _ (List.getElem_mem h)
  obtain ⟨r0, r1⟩ := hr
  have HB := Aside0.mk hbel
  have HC' := Aside0.mk hC'
  have Hc' := Aside0.mk hc'
  have HOWN := Aside0.mk hown
  have HBLK := Aside0.mk hblk
  have HG := Aside0.mk hg
  clear hblk hin hlen hown hbel hg hC' hc' h hcut
  go_enter Tryd.func31, Tryd.ntmps31
  go_wp2
  go_ret2
  exact ⟨rfl, Dec.setCut HBLK.out HC'.out Hc'.out HOWN.out HB.out HG.out⟩

end Go.Proofs.YtcdkgccmmfjnhaaDoor.Un
