/- The printed functions of the law UnpackstreamChunks hold what their plain specifications say. -/
import Derived.Test.YtpffoecblcfndaaDoorPUnpackstreamChunksx0C
import Derived.Test.YtpffoecblcfndaaDoorPUnpackstreamChunksx1C
import Derived.Test.YtpffoecblcfndaaDoorPUnpackstreamChunksx2C
import Derived.Test.YtpffoecblcfndaaDoorPUnpackstreamChunksx3C
import Derived.Test.YtpffoecblcfndaaDoorPUnpackstreamChunksx4C
import Derived.Test.YtpffoecblcfndaaDoorPUnpackstreamChunksx5C
import Derived.Test.YtpffoecblcfndaaDoorPUnpackstreamChunksx6C
import Derived.Test.YtpffoecblcfndaaDoorM6C
import Derived.Test.YtpffoecblcfndaaDoorRdr6C
import Derived.Test.YtpffoecblcfndaaDoorQVaBaseC
namespace Go.Proofs.YtpffoecblcfndaaDoor.QUnpackstreamChunks
open Go Go.RowKit Go.Proofs.YtpffoecblcfndaaDoor Go.Proofs.YtpffoecblcfndaaDoor.M Go.Proofs.YtpffoecblcfndaaDoor.PUnpackstreamChunks Go.Proofs.YtpffoecblcfndaaDoorW.PrintWords Go.Proofs.YtpffoecblcfndaaDoorW.PrintLast Go.Proofs.YtpffoecblcfndaaDoorW.PrintMore
open Go.Proofs.YtpffoecblcfndaaDoor.QVaBase (bitsOnes_all bitsOnes tagOnes unRoom unValid unClose unCloseV unNew)
open Go.Proofs.YtpffoecblcfndaaDoor.PVaBase
set_option linter.unusedVariables false
set_option linter.unusedSimpArgs false
set_option maxRecDepth 10000
set_option maxHeartbeats 1000000
theorem room_le {u : Us.U} (h : Us.VU u) : u.word.length ≤ 7 := by
  have hw := h.w
  unfold Us.roomU at hw
  have := onesS_le u.tag
  by_cases s1 : u.st = 1
  · rw [if_pos s1] at hw; omega
  · rw [if_neg s1] at hw; split at hw <;> omega
theorem unWrite {u : Us.U} (h : Us.VU u) {p : List Int} (hB : IsB p) (hp : p.length ≤ 1000000000) (lim : Int) : unpackstream_Write.f u.st u.tag u.word u.left u.done u.err p lim = some (Us.outF (Us.runU (Us.limU lim) p (u, []))) := by
  have := Us.writeF_eq (by have := room_le h; omega) hp h.tb0 h.tb1 h.wb hB u.st u.left u.done u.err lim
  unfold unpackstream_Write.f
  rw [this, if_pos (Us.V_validB h)]
theorem unLim (a : Int) : Us.limU a ≤ 1152921504606846976 := by unfold Us.limU; omega
theorem unMk0 : Us.VU (Us.U.mk0 0) := Us.VU.mk0 (Int.le_refl 0) (by decide) (by decide)
theorem refSame_l0 (a b : List Int) (hl : a.length = b.length) (ha : a.length ≤ 140737488355328) : ∀ d i : Nat, i + d = a.length → Ev (fun k => capnpref01_Same.l0 k a b (i : Int)) (decide (a.drop i = b.drop i)) := by
  intro d
  induction d with
  | zero =>
    intro i hi
    refine Ev.step (f := fun _ => some true) (fun k => ?_) ?_
    · simp only [capnpref01_Same.l0]; rw [if_neg (by omega)]
    · rw [List.drop_of_length_le (by omega), List.drop_of_length_le (by omega), decide_eq_true rfl]; exact Ev.now _
  | succ d ih =>
    intro i hi
    rw [drop_rd (show i < a.length by omega), drop_rd (show i < b.length by omega)]
    by_cases e : rd a (i : Int) = rd b (i : Int)
    · refine Ev.step (f := fun k => capnpref01_Same.l0 k a b ((i + 1 : Nat) : Int)) (fun k => ?_) ?_
      · simp only [capnpref01_Same.l0]
        rw [if_pos (by omega), if_pos (by omega), if_pos (by omega), if_pos e, w64 (by omega) (by omega), show (i : Int) + 1 = ((i + 1 : Nat) : Int) by omega]
      · have := ih (i + 1) (by omega)
        simpa [e] using this
    · refine Ev.step (f := fun _ => some false) (fun k => ?_) ?_
      · simp only [capnpref01_Same.l0]
        rw [if_pos (by omega), if_pos (by omega), if_pos (by omega), if_neg e]
      · have : decide (rd a (i : Int) :: a.drop (i + 1) = rd b (i : Int) :: b.drop (i + 1)) = false := by simp [e]
        rw [this]; exact Ev.now _
theorem refSame (a b : List Int) (ha : a.length ≤ 140737488355328) : Ev (fun k => capnpref01_Same.f k a b) (decide (a = b)) := by
  by_cases hl : a.length = b.length
  · refine Ev.congr (fun k => ?_) (refSame_l0 a b hl ha a.length 0 (by omega))
    unfold capnpref01_Same.f
    rw [if_pos (by omega)]; rfl
  · refine Ev.congr (f := fun _ => some (decide (a = b))) (fun k => ?_) (Ev.now _)
    unfold capnpref01_Same.f
    rw [if_neg (by omega), decide_eq_false (fun h => hl (by rw [h]))]
theorem awake25 : Ev (fun k => capnplaw25_awake.f k) true := Ev.of (fun k => capnplaw25_awake.mono k) (k := 60) (by kernel_rfl)
theorem refBytes_l1 (x0 : List Int) (x4 r) : ∀ d j : Nat, j + d = 8 → ∀ (x3 : List Int) (w : Int), 0 ≤ w → w < 18446744073709551616 → x3.length + d < 140737488355328 → Ev (fun k => capnpref01_Bytes.l0 k x0 (x3 ++ bs d w) (wrap64 (x4 + 1))) r → Ev (fun k => capnpref01_Bytes.l1 k x0 x3 x4 w (j : Int)) r := by
  intro d
  induction d with
  | zero =>
    intro j hj x3 w h0 h1 hl h
    obtain rfl : j = 8 := by omega
    refine Ev.step (fun k => ?_) h
    simp only [capnpref01_Bytes.l1]
    rw [if_neg (by omega)]
    simp [bs]
  | succ d ih =>
    intro j hj x3 w h0 h1 hl h
    refine Ev.step (f := fun k => capnpref01_Bytes.l1 k x0 (x3 ++ [w % 256]) x4 (w / 256) ((j + 1 : Nat) : Int)) (fun k => ?_) (ih (j + 1) (by omega) _ _ (by omega) (by omega) (by simp; omega) ?_)
    · simp only [capnpref01_Bytes.l1]
      rw [if_pos (by omega), if_pos (by omega), w64 (by omega) (by omega), Int.tmod_eq_emod_of_nonneg h0, Int.tdiv_eq_ediv_of_nonneg h0, wu (by omega) (by omega), show w % 256 % 256 = w % 256 by omega, show (j : Int) + 1 = ((j + 1 : Nat) : Int) by omega]
    · simpa [bs] using h
theorem refBytes_l0 (x0 : List Int) (hW : IsW x0) (hx : x0.length * 8 < 140737488355328) : ∀ d i : Nat, i + d = x0.length → ∀ x3 : List Int, x3 = bytesS (x0.take i) → Ev (fun k => capnpref01_Bytes.l0 k x0 x3 (i : Int)) (bytesS x0) := by
  intro d
  induction d with
  | zero =>
    intro i hi x3 h
    refine Ev.step (f := fun _ => some x3) (fun k => ?_) ?_
    · simp only [capnpref01_Bytes.l0]; rw [if_neg (by omega)]
    · rw [h, List.take_of_length_le (by omega)]; exact Ev.now _
  | succ d ih =>
    intro i hi x3 h
    have hr := rd_W hW (i : Int)
    refine Ev.step (f := fun k => capnpref01_Bytes.l1 k x0 x3 (i : Int) (rd x0 (i : Int)) ((0 : Nat) : Int)) (fun k => ?_) (refBytes_l1 x0 _ _ 8 0 rfl _ _ hr.1 hr.2 ?_ ?_)
    · simp only [capnpref01_Bytes.l0]; rw [if_pos (by omega), if_pos (by omega)]; rfl
    · rw [h, bytesS_length, List.length_take]; omega
    · rw [w64 (by omega) (by omega), show (i : Int) + 1 = ((i + 1 : Nat) : Int) by omega]
      refine ih (i + 1) (by omega) _ ?_
      rw [take_rd (by omega), bytesS_append, h]; simp [bytesS]
theorem refBytes (l : List Int) (hW : IsW l) (hx : l.length * 8 < 140737488355328) : Ev (fun k => capnpref01_Bytes.f k l) (bytesS l) :=
  refBytes_l0 l hW hx l.length 0 (by omega) [] rfl
theorem onesF_zero (n : Nat) : onesF n 0 = 0 := by
  induction n with
  | zero => rfl
  | succ n ih => simp [onesF, ih]
theorem refOnes_l0 : ∀ d : Nat, ∀ (n t : Int), 0 ≤ t → t < 2 ^ d → 0 ≤ n → n ≤ 1000 - d → t < 256 → Ev (fun k => capnpref20_Ones.l0 k n t) (n + ((onesF d t : Nat) : Int)) := by
  intro d
  induction d with
  | zero =>
    intro n t h0 h1 hn hn1 hd
    have ht : t = 0 := by have : t < 1 := h1; omega
    subst ht
    refine Ev.step (f := fun _ => some n) (fun k => ?_) ?_
    · simp only [capnpref20_Ones.l0]; rw [if_neg (by omega)]
    · simpa [onesF] using Ev.now n
  | succ d ih =>
    intro n t h0 h1 hn hn1 hd
    by_cases ht : t = 0
    · subst ht
      refine Ev.step (f := fun _ => some n) (fun k => ?_) ?_
      · simp only [capnpref20_Ones.l0]; rw [if_neg (by omega)]
      · rw [onesF_zero]; simpa using Ev.now n
    · rw [Int.pow_succ] at h1
      have h2 : t / 2 < 2 ^ d := by omega
      clear h1
      refine Ev.step (f := fun k => capnpref20_Ones.l0 k (n + t % 2) (t / 2)) (fun k => ?_) ?_
      · clear h2
        simp only [capnpref20_Ones.l0]
        rw [if_pos (by omega), Int.tmod_eq_emod_of_nonneg h0, Int.tdiv_eq_ediv_of_nonneg h0, w64 (by omega) (by omega), w64 (by omega) (by omega)]
      · have := ih (n + t % 2) (t / 2) (by omega) h2 (by omega) (by omega) (by omega)
        have e : n + t % 2 + ((onesF d (t / 2) : Nat) : Int) = n + ((onesF (d + 1) t : Nat) : Int) := by simp only [onesF]; omega
        rwa [e] at this
theorem refOnes {t : Int} (h0 : 0 ≤ t) (h1 : t < 256) : Ev (fun k => capnpref20_Ones.f k t) ((onesS t : Nat) : Int) := by
  unfold capnpref20_Ones.f
  rw [w64 (by omega) (by omega)]
  have := refOnes_l0 8 0 t h0 h1 (by omega) (by omega) (by omega)
  rwa [Int.zero_add] at this
theorem refGet_step (b : List Int) (i : Nat) (hb : b.length ≤ 140737488351232) (hi : i < b.length / 8) (j : Nat) (hj : j < 8) (acc : Int) (ha0 : 0 ≤ acc) (ha1 : acc < 72057594037927936) (hx : 0 ≤ rd b ((8 * i + j : Nat) : Int) ∧ rd b ((8 * i + j : Nat) : Int) < 256) (k : Nat) : capnpref01_Get.l0 (k + 1) b (i : Int) acc (((j + 1 : Nat) : Int) - 1) = capnpref01_Get.l0 k b (i : Int) (rd b ((8 * i + j : Nat) : Int) + 256 * acc) ((j : Int) - 1) := by
  have e0 : wrap64 (8 * (i : Int)) = 8 * (i : Int) := w64 (by omega) (by omega)
  have e1 : wrap64 (wrap64 (8 * (i : Int)) + (((j + 1 : Nat) : Int) - 1)) = ((8 * i + j : Nat) : Int) := by rw [e0, w64 (by omega) (by omega)]; omega
  simp only [capnpref01_Get.l0]
  rw [if_pos (by omega), e1, if_pos (by omega), if_pos (by omega), wu (x := acc * 256) (by omega) (by omega), wu (x := rd b _) (by omega) (by omega), wu (by omega) (by omega), w64 (by omega) (by omega), Int.mul_comm acc, Int.add_comm (256 * acc), show ((j + 1 : Nat) : Int) - 1 - 1 = (j : Int) - 1 by omega]
theorem chunk_rd' {b : List Int} {i : Nat} (hi : i < b.length / 8) {j : Nat} (hj : j < 8) : rd (chunk b i) (j : Int) = rd b ((8 * i + j : Nat) : Int) := by
  have hl := chunk_length hi
  rw [rd_lt (by omega), rd_lt (by omega)]
  simp [chunk]
theorem pow256_le {n : Nat} (h : n ≤ 7) : (256 : Int) ^ n ≤ 72057594037927936 := by
  have h1 : (256 : Nat) ^ n ≤ 256 ^ 7 := Nat.pow_le_pow_right (by decide) h
  have h2 : ((256 ^ n : Nat) : Int) ≤ ((256 ^ 7 : Nat) : Int) := Int.ofNat_le.mpr h1
  rw [Int.natCast_pow] at h2
  exact h2
theorem refGet_l0 (b : List Int) (hB : IsB b) (i : Nat) (hb : b.length ≤ 140737488351232) (hi : i < b.length / 8) : ∀ j : Nat, j ≤ 8 → ∀ acc : Int, acc = val ((chunk b i).drop j) → Ev (fun k => capnpref01_Get.l0 k b (i : Int) acc ((j : Int) - 1)) (getS b i, true) := by
  intro j
  induction j with
  | zero =>
    intro hj acc h
    refine Ev.step (f := fun _ => some (acc, true)) (fun k => ?_) ?_
    · simp only [capnpref01_Get.l0]; rw [if_neg (by omega)]
    · rw [h]; exact Ev.now _
  | succ j ih =>
    intro hj acc h
    have hC := chunk_B hB i
    have hl := chunk_length hi
    have hj8 : j < 8 := by omega
    have hjl : j < (chunk b i).length := by omega
    have hd : ((chunk b i).drop (j + 1)).length ≤ 7 := by rw [List.length_drop]; omega
    have hacc0 := val_nonneg _ (hC.drop (j + 1))
    have hacc1 := val_lt _ (hC.drop (j + 1))
    rw [← h] at hacc0 hacc1
    have hacc2 := Int.lt_of_lt_of_le hacc1 (pow256_le hd)
    clear hacc1
    refine Ev.step (refGet_step b i hb hi j hj8 acc hacc0 hacc2 (rd_B hB _)) (ih (by omega) _ ?_)
    rw [drop_rd hjl, chunk_rd' hi hj8, h]; rfl
theorem refGet_yes (b : List Int) (hB : IsB b) (i : Nat) (hb : b.length ≤ 140737488351232) (hi : i < b.length / 8) : Ev (fun k => capnpref01_Get.f k b (i : Int)) (getS b i, true) := by
  refine Ev.congr (f := fun k => capnpref01_Get.j0 k b (i : Int) false) (fun k => ?_) (Ev.step (f := fun k => capnpref01_Get.l0 k b (i : Int) 0 (((8 : Nat) : Int) - 1)) (fun k => ?_) (refGet_l0 b hB i hb hi 8 (by omega) 0 ?_))
  · unfold capnpref01_Get.f
    rw [if_neg (by omega), w64 (x := (b.length : Int) / 8) (by omega) (by omega), w64 (by omega) (by omega), decide_eq_false (by omega)]
  · simp only [capnpref01_Get.j0]; rfl
  · rw [List.drop_of_length_le (by rw [chunk_length hi]; omega)]; rfl
theorem refGet_no (b : List Int) (i : Int) (hb : b.length ≤ 140737488351232) (hi : i < 0 ∨ (b.length : Int) / 8 ≤ i) : Ev (fun k => capnpref01_Get.f k b i) (0, false) := by
  refine Ev.congr (f := fun k => capnpref01_Get.j0 k b i true) (fun k => ?_) (Ev.step (f := fun _ => some (0, false)) (fun k => ?_) (Ev.now _))
  · unfold capnpref01_Get.f
    by_cases h : i < 0
    · rw [if_pos h]
    · rw [if_neg h, w64 (x := (b.length : Int) / 8) (by omega) (by omega), w64 (by omega) (by omega), decide_eq_true (by omega)]
  · simp only [capnpref01_Get.j0]; rfl
theorem refExpand_yes (b : List Int) (hB : IsB b) (hb : b.length ≤ 140737488355328) (x7 : Int) (T : Int) (hT0 : 0 ≤ T) (hT1 : T < 256) (hn : onesS T ≤ b.length) : ∀ d i : Nat, i + d = 8 → ∀ (x8 : List Int) (t kk : Int), x8 = expF i T b → t = T / 2 ^ i → kk = ((onesF i T : Nat) : Int) → Ev (fun k => capnpref20_Expand.l0 k b x7 x8 t kk (i : Int)) (expS T b, x7, true) := by
  intro d
  induction d with
  | zero =>
    intro i hi x8 t kk h8 ht hk
    obtain rfl : i = 8 := by omega
    have hE := expF_B 8 T b hB
    have hl := expF_length 8 T b
    refine Ev.step (f := fun k => (capnpref01_Get.f k x8 ((0 : Nat) : Int)).bind fun q => some (q.1, x7, true)) (fun k => ?_) (Ev.bind (refGet_yes x8 (by rw [h8]; exact hE) 0 (by rw [h8, hl]; omega) (by rw [h8, hl]; omega)) ?_)
    · simp only [capnpref20_Expand.l0]; rw [if_neg (by omega)]; rfl
    · have e : getS x8 0 = expS T b := by rw [getS, chunk_zero, h8, List.take_of_length_le (by omega)]; rfl
      rw [e]; exact Ev.now _
  | succ d ih =>
    intro i hi x8 t kk h8 ht hk
    have hi8 : i < 8 := by omega
    have hs := expF_snoc i T b
    have ho := onesF_snoc i T
    have hl : x8.length = i := by rw [h8, expF_length]
    have hp : (0 : Int) < 2 ^ i := Int.pow_pos (by decide)
    have ht0 : 0 ≤ t := by rw [ht]; exact Int.ediv_nonneg hT0 (Int.le_of_lt hp)
    have ht1 : t ≤ T := by rw [ht]; exact Int.ediv_le_self _ hT0
    have ht2 : t / 2 = T / 2 ^ (i + 1) := by rw [ht, Int.ediv_ediv_of_nonneg (Int.le_of_lt hp), Int.pow_succ]
    rw [← ht] at hs ho
    have hmono : onesF (i + 1) T ≤ onesS T := by
      have m : ∀ j : Nat, onesF (i + 1) T ≤ onesF (i + 1 + j) T := by
        intro j
        induction j with
        | zero => exact Nat.le_refl _
        | succ j ihj => have := onesF_snoc (i + 1 + j) T; rw [← Nat.add_assoc]; omega
      have := m (7 - i)
      rwa [show i + 1 + (7 - i) = 8 by omega] at this
    have hs0 : ∀ k, capnpref20_Expand.l0 (k + 1) b x7 x8 t kk (i : Int) = if t % 2 = 1 then (if 0 ≤ kk then (if kk < (b.length : Int) then capnpref20_Expand.l0 k b x7 (x8 ++ [rd b kk]) (t / 2) (wrap64 (kk + 1)) ((i + 1 : Nat) : Int) else none) else none) else capnpref20_Expand.l0 k b x7 (x8 ++ [0]) (t / 2) kk ((i + 1 : Nat) : Int) := by
      clear ih hs ho hmono ht ht2 hp
      intro k
      simp only [capnpref20_Expand.l0]
      rw [if_pos (show (i : Int) < 8 by omega), Int.tmod_eq_emod_of_nonneg ht0, Int.tdiv_eq_ediv_of_nonneg ht0, w64 (x := t / 2) (by omega) (by omega), wrap_succ i (by omega)]
      simp only [if_pos (show x8.length < 140737488355328 by omega)]
    by_cases h1 : t % 2 = 1
    · rw [if_pos h1] at hs
      rw [h1] at ho
      have hkk : onesF i T < b.length := by simp at ho; omega
      refine Ev.step (f := fun k => capnpref20_Expand.l0 k b x7 (x8 ++ [rd b kk]) (t / 2) (wrap64 (kk + 1)) ((i + 1 : Nat) : Int)) (fun k => ?_) (ih (i + 1) (by omega) _ _ _ ?_ ht2 ?_)
      · rw [hs0, if_pos h1, if_pos (by omega), if_pos (by omega)]
      · rw [hs, h8, hk]
      · rw [hk, ho, w64 (by omega) (by omega)]; simp
    · rw [if_neg h1] at hs
      rw [show t % 2 = 0 by omega] at ho
      refine Ev.step (f := fun k => capnpref20_Expand.l0 k b x7 (x8 ++ [0]) (t / 2) kk ((i + 1 : Nat) : Int)) (fun k => ?_) (ih (i + 1) (by omega) _ _ _ ?_ ht2 ?_)
      · rw [hs0, if_neg h1]
      · rw [hs, h8]
      · rw [hk, ho]; simp
theorem refExpand (t : Int) (b : List Int) (h0 : 0 ≤ t) (h1 : t < 256) (hB : IsB b) (hb : b.length ≤ 140737488355328) : Ev (fun k => capnpref20_Expand.f k t b) (if onesS t ≤ b.length then (expS t b, ((onesS t : Nat) : Int), true) else (0, 0, false)) := by
  unfold capnpref20_Expand.f
  refine Ev.bind (refOnes h0 h1) ?_
  rw [w64 (by omega) (by omega)]
  by_cases h : onesS t ≤ b.length
  · rw [if_pos h]
    exact Ev.congr (fun k => if_neg (by omega)) (refExpand_yes b hB hb _ t h0 h1 h 8 0 rfl [] t 0 rfl (by simp) rfl)
  · rw [if_neg h]
    exact Ev.congr (fun k => if_pos (by omega)) (Ev.now _)
theorem dec_l1 (p acc0 : List Int) (i c : Nat) (hi : i < p.length) (hp : p.length ≤ 1000000) (hc : rd p (i : Int) = (c : Int)) (hc2 : c < 256) (r : List Int × Bool) : ∀ d j : Nat, j + d = c + 1 → ∀ acc : List Int, acc.length + d < 17592186044416 → Ev (fun k => capnpref22_Decodable.l0 k p (acc ++ List.replicate d 0) ((i + 1 : Nat) : Int)) r → Ev (fun k => capnpref22_Decodable.l1 k p acc (i : Int) (j : Int)) r := by
  intro d
  induction d with
  | zero =>
    intro j hj acc ha h
    rw [List.replicate_zero, List.append_nil] at h
    refine Ev.step (fun k => ?_) h
    simp only [capnpref22_Decodable.l1]
    rw [if_pos (by omega), if_pos (by omega), hc, w64 (x := (c : Int)) (by omega) (by omega), if_neg (by omega), wrap_succ i (by omega)]
  | succ d ih =>
    intro j hj acc ha h
    refine Ev.step (fun k => ?_) (ih (j + 1) (by omega) (acc ++ [0]) (by rw [List.length_append, List.length_singleton]; omega) ?_)
    · simp only [capnpref22_Decodable.l1]
      rw [if_pos (by omega), if_pos (by omega), hc, w64 (x := (c : Int)) (by omega) (by omega), if_pos (by omega), if_pos (by omega), wrap_succ j (by omega)]
    · rw [List.append_assoc]; exact h
theorem dec_l2 (p : List Int) (hB : IsB p) (hp : p.length ≤ 1000000) (n : Nat) (hn : n ≤ 255) (r : List Int × Bool) : ∀ d j : Nat, j + d = n → ∀ (i : Nat) (acc : List Int), i ≤ p.length → acc.length + d < 17592186044416 →
    (if (p.drop i).length < 8 * d then r = (acc ++ wordsS (p.drop i), true) else Ev (fun k => capnpref22_Decodable.l0 k p (acc ++ wordsS ((p.drop i).take (8 * d))) ((i + 8 * d : Nat) : Int)) r) → Ev (fun k => capnpref22_Decodable.l2 k p acc (i : Int) (n : Int) (j : Int)) r := by
  intro d
  induction d with
  | zero =>
    intro j hj i acc hi ha h
    rw [if_neg (by omega), wordsS_short (by simp), List.append_nil] at h
    refine Ev.step (fun k => ?_) h
    simp only [capnpref22_Decodable.l2]
    rw [if_neg (by omega)]
    rfl
  | succ d ih =>
    intro j hj i acc hi ha h
    by_cases h8 : 8 ≤ (p.drop i).length
    · have hg := refGet_yes (p.drop i) (hB.drop i) 0 (by rw [List.length_drop]; omega) (by omega)
      have hv : getS (p.drop i) 0 = val ((p.drop i).take 8) := rfl
      refine Ev.step (f := fun k => (capnpref01_Get.f k (p.drop i) 0).bind fun b => if b.2 = true then (if acc.length < 17592186044416 then capnpref22_Decodable.l2 k p (acc ++ [b.1]) (wrap64 ((i : Int) + 8)) (n : Int) (wrap64 ((j : Int) + 1)) else none) else some (acc, true)) (fun k => ?_) (Ev.bind hg (Ev.congr (fun k => ?_) (ih (j + 1) (by omega) (i + 8) (acc ++ [getS (p.drop i) 0]) (by rw [List.length_drop] at h8; omega) (by rw [List.length_append, List.length_singleton]; omega) ?_)))
      · simp only [capnpref22_Decodable.l2]
        rw [if_pos (by omega), if_pos (by omega), if_pos (by omega), Int.toNat_natCast]
      · rw [if_pos rfl, if_pos (by omega), wrap_succ j (by omega), w64 (x := (i : Int) + 8) (by omega) (by omega)]
        rfl
      · rw [hv, ← List.drop_drop]
        by_cases hc : (p.drop i).length < 8 * (d + 1)
        · rw [if_pos hc] at h
          rw [if_pos (by rw [List.length_drop]; omega), h, wordsS_long h8, List.append_assoc]; rfl
        · rw [if_neg hc] at h
          rw [if_neg (by rw [List.length_drop]; omega), List.append_assoc, show i + 8 + 8 * d = i + 8 * (d + 1) by omega]
          have e : wordsS ((p.drop i).take (8 * (d + 1))) = [val ((p.drop i).take 8)] ++ wordsS (((p.drop i).drop 8).take (8 * d)) := by
            rw [wordsS_long (by rw [List.length_take]; omega), List.take_take, show min 8 (8 * (d + 1)) = 8 by omega, List.drop_take, show 8 * (d + 1) - 8 = 8 * d by omega]; rfl
          rw [e] at h
          exact h
    · rw [if_pos (by omega), wordsS_short (by omega), List.append_nil] at h
      have hg := refGet_no (p.drop i) 0 (by rw [List.length_drop]; omega) (.inr (by omega))
      refine Ev.step (f := fun k => (capnpref01_Get.f k (p.drop i) 0).bind fun b => if b.2 = true then (if acc.length < 17592186044416 then capnpref22_Decodable.l2 k p (acc ++ [b.1]) (wrap64 ((i : Int) + 8)) (n : Int) (wrap64 ((j : Int) + 1)) else none) else some (acc, true)) (fun k => ?_) (Ev.bind hg (Ev.congr (fun k => ?_) (Ev.now _)))
      · simp only [capnpref22_Decodable.l2]
        rw [if_pos (by omega), if_pos (by omega), if_pos (by omega), Int.toNat_natCast]
      · rw [if_neg (by simp), h]
theorem drop_rd {p : List Int} {i : Nat} (hi : i < p.length) : p.drop i = rd p (i : Int) :: p.drop (i + 1) := by
  rw [List.drop_eq_getElem_cons hi]
  congr 1
  simp [rd, List.getD_eq_getElem?_getD, List.getElem?_eq_getElem hi]
theorem rd_IsB {p : List Int} (hB : IsB p) {i : Nat} (hi : i < p.length) : 0 ≤ rd p (i : Int) ∧ rd p (i : Int) < 256 := by
  have := hB (rd p (i : Int)) (by have := List.mem_of_mem_drop (l := p) (i := i) (a := rd p (i : Int)) (by rw [drop_rd hi]; exact List.mem_cons_self); exact this)
  exact this
theorem dec_l0 (p : List Int) (hB : IsB p) (hp : p.length ≤ 1000000) : ∀ (n i : Nat), p.length - i ≤ n → i ≤ p.length → ∀ acc : List Int, acc.length + 256 * (p.length - i) ≤ 1000000000 → Ev (fun k => capnpref22_Decodable.l0 k p acc (i : Int)) (acc ++ (decS (p.drop i)).1, (decS (p.drop i)).2) := by
  have fin : ∀ (i : Nat), p.length ≤ i → ∀ acc : List Int, Ev (fun k => capnpref22_Decodable.l0 k p acc (i : Int)) (acc ++ (decS (p.drop i)).1, (decS (p.drop i)).2) := by
    intro i hi acc
    rw [List.drop_of_length_le hi, decS_nil, List.append_nil]
    refine Ev.step (f := fun _ => some (acc, false)) (fun k => ?_) (Ev.now _)
    simp only [capnpref22_Decodable.l0]
    rw [if_neg (by omega)]
  intro n
  induction n with
  | zero => intro i hn hi acc ha; exact fin i (by omega) acc
  | succ n ih =>
    intro i hn hi acc ha
    rcases Nat.lt_or_ge i p.length with hlt | hge
    · obtain ⟨t0, t1⟩ := rd_IsB hB hlt
      by_cases ht : rd p (i : Int) = 0
      · by_cases he : i + 1 = p.length
        · rw [drop_rd hlt, ht, List.drop_of_length_le (by omega), decS_zero_end, List.append_nil]
          refine Ev.step (f := fun _ => some (acc, true)) (fun k => ?_) (Ev.now _)
          simp only [capnpref22_Decodable.l0]
          rw [if_pos (by omega), if_pos (by omega), if_pos ht, wrap_succ i (by omega), if_pos (by omega)]
        · obtain ⟨c0, c1⟩ := rd_IsB hB (i := i + 1) (by omega)
          obtain ⟨c, hc⟩ := Int.eq_ofNat_of_zero_le c0
          rw [drop_rd hlt, ht, drop_rd (i := i + 1) (by omega), decS_zero, hc, Int.toNat_natCast, ← List.append_assoc]
          refine Ev.step (fun k => ?_) (dec_l1 p acc (i + 1) c (by omega) hp hc (by omega) _ (c + 1) 0 (by omega) acc (by omega) (ih (i + 1 + 1) (by omega) (by omega) _ (by rw [List.length_append, List.length_replicate]; omega)))
          simp only [capnpref22_Decodable.l0]
          rw [if_pos (by omega), if_pos (by omega), if_pos ht, wrap_succ i (by omega), if_neg (by omega)]
          rfl
      · -- a word with a tag
        have hE := refExpand (rd p (i : Int)) (p.drop (i + 1)) t0 t1 (hB.drop _) (by rw [List.length_drop]; omega)
        have go : ∀ r : List Int × Bool, Ev (fun k => (capnpref20_Expand.f k (rd p (i : Int)) (p.drop (i + 1))).bind fun b => (if b.2.2 = true then (if acc.length < 17592186044416 then ((some (acc ++ [b.1] : List Int)).bind fun y => (if (rd p (i : Int)) = 255 then (if (wrap64 (((i + 1 : Nat) : Int) + b.2.1)) = (p.length : Int) then (some (y, true)) else (if 0 ≤ (wrap64 (((i + 1 : Nat) : Int) + b.2.1)) then (if (wrap64 (((i + 1 : Nat) : Int) + b.2.1)) < (p.length : Int) then (capnpref22_Decodable.l2 k p y (wrap64 ((wrap64 (((i + 1 : Nat) : Int) + b.2.1)) + 1)) (wrap64 (rd p (wrap64 (((i + 1 : Nat) : Int) + b.2.1)))) 0) else (none)) else (none))) else (capnpref22_Decodable.l0 k p y (wrap64 (((i + 1 : Nat) : Int) + b.2.1))))) else (none)) else (some (acc, true)))) r → Ev (fun k => capnpref22_Decodable.l0 k p acc (i : Int)) r := by
          intro r h
          refine Ev.step (fun k => ?_) h
          simp only [capnpref22_Decodable.l0]
          rw [if_pos (by omega), if_pos (by omega), if_neg ht, wrap_succ i (by omega), if_pos (by omega), if_pos (by omega), Int.toNat_natCast]
        refine go _ ?_
        rw [drop_rd hlt]
        by_cases hs : onesS (rd p (i : Int)) ≤ (p.drop (i + 1)).length
        · rw [if_pos hs] at hE
          have ho8 := onesS_le (rd p (i : Int))
          rw [List.length_drop] at hs
          by_cases h255 : rd p (i : Int) = 255
          · rw [h255, onesS_255] at hE
            rw [h255, onesS_255] at hs
            rw [h255]
            refine Ev.bind hE (Ev.congr (fun k => if_pos rfl) (Ev.congr (fun k => if_pos (by omega)) (Ev.congr (fun k => Option.bind_some _ _) (Ev.congr (fun k => if_pos rfl) ?_))))
            dsimp only
            rw [w64 (x := ((i + 1 : Nat) : Int) + ((8 : Nat) : Int)) (by omega) (by omega), show ((i + 1 : Nat) : Int) + ((8 : Nat) : Int) = ((i + 9 : Nat) : Int) by omega]
            by_cases h9 : i + 9 = p.length
            · refine Ev.congr (fun k => if_pos (by omega)) ?_
              rw [decS_full_end (by rw [List.length_drop]; omega)]
              exact Ev.now _
            · refine Ev.congr (fun k => if_neg (by omega)) (Ev.congr (fun k => if_pos (by omega)) (Ev.congr (fun k => if_pos (by omega)) ?_))
              obtain ⟨c0, c1⟩ := rd_IsB hB (i := i + 9) (by omega)
              obtain ⟨c, hc⟩ := Int.eq_ofNat_of_zero_le c0
              have hd : p.drop (i + 1) = (p.drop (i + 1)).take 8 ++ (c : Int) :: p.drop (i + 10) := by
                have e2 : (p.drop (i + 1)).drop 8 = (c : Int) :: p.drop (i + 10) := by rw [List.drop_drop, show i + 1 + 8 = i + 9 by omega, drop_rd (i := i + 9) (by omega), hc]
                rw [← e2, List.take_append_drop]
              have hf := decS_full (p := (p.drop (i + 1)).take 8) (c := (c : Int)) (q := p.drop (i + 10)) (by rw [List.length_take, List.length_drop]; omega)
              rw [← hd, show expS 255 ((p.drop (i + 1)).take 8) = expS 255 (p.drop (i + 1)) by rw [Un.expS_255 (by rw [List.length_take, List.length_drop]; omega), Un.expS_255 (by rw [List.length_drop]; omega), List.take_take, show min 8 8 = 8 from rfl]] at hf
              rw [hf, Int.toNat_natCast, hc, w64 (x := (c : Int)) (by omega) (by omega), w64 (x := ((i + 9 : Nat) : Int) + 1) (by omega) (by omega), show ((i + 9 : Nat) : Int) + 1 = ((i + 10 : Nat) : Int) by omega]
              refine dec_l2 p hB hp c (by omega) _ c 0 (by omega) (i + 10) _ (by omega) (by rw [List.length_append, List.length_singleton]; omega) ?_
              by_cases hcut : (p.drop (i + 10)).length < 8 * c
              · rw [if_pos hcut, if_pos hcut, List.append_assoc]; rfl
              · rw [if_neg hcut, if_neg hcut]
                have hl : (p.drop (i + 10)).length = p.length - (i + 10) := List.length_drop
                have := ih (i + 10 + 8 * c) (by omega) (by omega) (acc ++ [expS 255 (p.drop (i + 1))] ++ wordsS ((p.drop (i + 10)).take (8 * c))) (by rw [List.length_append, List.length_append, List.length_singleton, wordsS_length, List.length_take]; omega)
                rw [List.drop_drop]
                simp only [List.append_assoc, List.singleton_append] at this ⊢
                exact this
          · refine Ev.bind hE (Ev.congr (fun k => if_pos rfl) (Ev.congr (fun k => if_pos (by omega)) (Ev.congr (fun k => Option.bind_some _ _) (Ev.congr (fun k => if_neg h255) ?_))))
            dsimp only
            rw [w64 (by omega) (by omega), show ((i + 1 : Nat) : Int) + ((onesS (rd p (i : Int)) : Nat) : Int) = ((i + 1 + onesS (rd p (i : Int)) : Nat) : Int) by omega]
            rw [decS_tag ht h255 (by rw [List.length_drop]; omega), List.drop_drop]
            have := ih (i + 1 + onesS (rd p (i : Int))) (by omega) (by omega) (acc ++ [expS (rd p (i : Int)) (p.drop (i + 1))]) (by rw [List.length_append, List.length_singleton]; omega)
            rw [List.append_assoc] at this
            exact this
        · rw [if_neg hs] at hE
          rw [decS_short ht (by omega)]
          refine Ev.bind hE (Ev.congr (fun k => if_neg (by simp)) ?_)
          rw [List.append_nil]
          exact Ev.now _
    · exact fin i hge acc
theorem refDecodable {p : List Int} (hB : IsB p) (hp : p.length ≤ 1000000) : Ev (fun k => capnpref22_Decodable.f k p) (decS p) := by
  have := dec_l0 p hB hp p.length 0 (by omega) (by omega) [] (by simp; omega)
  rw [List.drop_zero, List.nil_append] at this
  exact this
theorem decF_len : ∀ (k : Nat) (p : List Int), IsB p → (decF k p).1.length ≤ 256 * p.length
  | 0, p, _ => by simp [decF]
  | k + 1, [], _ => by simp [decF]
  | k + 1, t :: p, hB => by
    have hp : IsB p := fun x hx => hB x (List.mem_cons_of_mem _ hx)
    by_cases h0 : t = 0
    · cases p with
      | nil => simp [decF, h0]
      | cons c q =>
        have hc := hp c List.mem_cons_self
        have := decF_len k q (fun x hx => hp x (List.mem_cons_of_mem _ hx))
        simp only [decF, if_pos h0, List.length_append, List.length_replicate, List.length_cons]
        omega
    · by_cases h1 : p.length < onesS t
      · simp only [decF, if_neg h0, if_pos h1]; simp
      · by_cases h2 : t = 255
        · have hd : (p.drop 8).length = p.length - 8 := List.length_drop
          have hB8 : IsB (p.drop 8) := hp.drop 8
          have ho : onesS t = 8 := by rw [h2]; exact onesS_255
          simp only [decF, if_neg h0, if_neg h1, if_pos h2]
          cases hq : p.drop 8 with
          | nil => simp; omega
          | cons c q =>
            rw [hq, List.length_cons] at hd
            by_cases h3 : q.length < 8 * c.toNat
            · simp only [if_pos h3, List.length_cons, wordsS_length]; omega
            · have := decF_len k (q.drop (8 * c.toNat)) (by rw [hq] at hB8; exact IsB.drop (fun x hx => hB8 x (List.mem_cons_of_mem _ hx)) _)
              rw [List.length_drop] at this
              simp only [if_neg h3, List.length_cons, List.length_append, wordsS_length, List.length_take]
              omega
        · have := decF_len k (p.drop (onesS t)) (hp.drop _)
          rw [List.length_drop] at this
          simp only [decF, if_neg h0, if_neg h1, if_neg h2, List.length_cons]
          omega
theorem decS_len {p : List Int} (hB : IsB p) : (decS p).1.length ≤ 256 * p.length := decF_len _ p hB
theorem IsW_append {a b : List Int} (ha : IsW a) (hb : IsW b) : IsW (a ++ b) := fun x hx => by
  rcases List.mem_append.mp hx with h | h
  · exact ha x h
  · exact hb x h
theorem IsW_cons {x : Int} {b : List Int} (h0 : 0 ≤ x ∧ x < 18446744073709551616) (hb : IsW b) : IsW (x :: b) := fun y hy => by
  rcases List.mem_cons.mp hy with h | h
  · rw [h]; exact h0
  · exact hb y h
theorem decF_W : ∀ (k : Nat) (p : List Int), IsB p → IsW (decF k p).1
  | 0, p, _ => by intro x hx; simp [decF] at hx
  | k + 1, [], _ => by intro x hx; simp [decF] at hx
  | k + 1, t :: p, hB => by
    have hp : IsB p := fun x hx => hB x (List.mem_cons_of_mem _ hx)
    by_cases h0 : t = 0
    · cases p with
      | nil => intro x hx; simp [decF, h0] at hx
      | cons c q =>
        simp only [decF, if_pos h0]
        exact IsW_append (fun x hx => by rw [(List.mem_replicate.mp hx).2]; decide) (decF_W k q (fun x hx => hp x (List.mem_cons_of_mem _ hx)))
    · by_cases h1 : p.length < onesS t
      · intro x hx; simp only [decF, if_neg h0, if_pos h1] at hx; simp at hx
      · by_cases h2 : t = 255
        · have hB8 : IsB (p.drop 8) := hp.drop 8
          simp only [decF, if_neg h0, if_neg h1, if_pos h2]
          cases hq : p.drop 8 with
          | nil => exact IsW_cons (expS_range hp) (fun x hx => by simp at hx)
          | cons c q =>
            have hBq : IsB q := by rw [hq] at hB8; exact fun x hx => hB8 x (List.mem_cons_of_mem _ hx)
            by_cases h3 : q.length < 8 * c.toNat
            · simp only [if_pos h3]; exact IsW_cons (expS_range hp) (wordsS_W hBq)
            · simp only [if_neg h3]
              exact IsW_cons (expS_range hp) (IsW_append (wordsS_W (hBq.take _)) (decF_W k _ (hBq.drop _)))
        · simp only [decF, if_neg h0, if_neg h1, if_neg h2]
          exact IsW_cons (expS_range hp) (decF_W k _ (hp.drop _))
theorem decS_W {p : List Int} (hB : IsB p) : IsW (decS p).1 := decF_W _ p hB
theorem tdiv8_neg {a : Int} (h : a < 0) : Int.tdiv a 8 = -((-a) / 8) := by
  have := Int.neg_tdiv (-a) 8
  rw [Int.neg_neg] at this
  rw [this, Int.tdiv_eq_ediv_of_nonneg (by omega)]
theorem ref22Prefix {l : List Int} (hB : IsB l) (hl : l.length ≤ 1000000) (a : Int) (a0 : -9223372036854775808 ≤ a) (ha : a ≤ 9223372036854775807) : Ev (fun k => capnpref22_Prefix.f k l a) (bytesS ((decS l).1.take (max a 0 / 8).toNat), if (max a 0 / 8).toNat < (decS l).1.length then 11 else if (decS l).2 = true then 10 else 0) := by
  have hW := decS_W hB
  have hlen := decS_len hB
  have key : ∀ m : Nat, m = (max a 0 / 8).toNat → Ev (fun k => capnpref22_Prefix.j0 k (decS l).1 (decS l).2 (m : Int)) (bytesS ((decS l).1.take (max a 0 / 8).toNat), if (max a 0 / 8).toNat < (decS l).1.length then 11 else if (decS l).2 = true then 10 else 0) := by
    intro m hm
    rw [← hm]
    by_cases h1 : m < (decS l).1.length
    · rw [if_pos h1]
      refine Ev.step (fun k => by simp only [capnpref22_Prefix.j0]; rw [if_pos (by omega), if_pos (by omega), if_pos (by omega), Int.toNat_natCast]) (Ev.bind (refBytes _ (fun x hx => hW x (List.mem_of_mem_take hx)) (by rw [List.length_take]; omega)) (Ev.now _))
    · rw [if_neg h1, List.take_of_length_le (by omega)]
      by_cases h2 : (decS l).2 = true
      · rw [if_pos h2]
        refine Ev.step (fun k => by simp only [capnpref22_Prefix.j0]; rw [if_neg (by omega), if_pos h2]) (Ev.bind (refBytes _ hW (by omega)) (Ev.now _))
      · rw [if_neg h2]
        refine Ev.step (fun k => by simp only [capnpref22_Prefix.j0]; rw [if_neg (by omega), if_neg h2]) (Ev.bind (refBytes _ hW (by omega)) (Ev.now _))
  unfold capnpref22_Prefix.f
  refine Ev.bind (refDecodable hB hl) ?_
  by_cases h0 : 0 ≤ a
  · have e : Int.tdiv a 8 = a / 8 := Int.tdiv_eq_ediv_of_nonneg h0
    refine Ev.congr (fun k => by rw [e, w64 (x := a / 8) (by omega) (by omega), if_neg (by omega), show a / 8 = (((max a 0 / 8).toNat : Nat) : Int) by omega]) (key _ rfl)
  · have e := tdiv8_neg (a := a) (by omega)
    by_cases hn : -((-a) / 8) < 0
    · refine Ev.congr (fun k => by rw [e, w64 (x := -((-a) / 8)) (by omega) (by omega), if_pos hn]; rfl) (key 0 (by omega))
    · refine Ev.congr (fun k => by rw [e, w64 (x := -((-a) / 8)) (by omega) (by omega), if_neg hn, show -((-a) / 8) = ((0 : Nat) : Int) by omega]) (key 0 (by omega))
end Go.Proofs.YtpffoecblcfndaaDoor.QUnpackstreamChunks
