/- The printed functions of the law UnpackstreamSplit hold what their plain specifications say. -/
import Derived.Test.YtpffoecblcfndaaDoorPUnpackstreamSplitx0S
import Derived.Test.YtpffoecblcfndaaDoorPUnpackstreamSplitx1S
import Derived.Test.YtpffoecblcfndaaDoorPUnpackstreamSplitx2S
import Derived.Test.YtpffoecblcfndaaDoorPUnpackstreamSplitx3S
import Derived.Test.YtpffoecblcfndaaDoorPUnpackstreamSplitx4S
import Derived.Test.YtpffoecblcfndaaDoorM6S
import Derived.Test.YtpffoecblcfndaaDoorRdr6S
import Derived.Test.YtpffoecblcfndaaDoorQVaBaseS
namespace Go.Proofs.YtpffoecblcfndaaDoor.QUnpackstreamSplit
open Go Go.RowKit Go.Proofs.YtpffoecblcfndaaDoor Go.Proofs.YtpffoecblcfndaaDoor.M Go.Proofs.YtpffoecblcfndaaDoor.PUnpackstreamSplit Go.Proofs.YtpffoecblcfndaaDoorW.PrintWords Go.Proofs.YtpffoecblcfndaaDoorW.PrintLast Go.Proofs.YtpffoecblcfndaaDoorW.PrintMore
open Go.Proofs.YtpffoecblcfndaaDoor.QVaBase (bitsOnes_all bitsOnes tagOnes unRoom unValid unClose unCloseV unNew)
open Go.Proofs.YtpffoecblcfndaaDoor.PVaBase
set_option linter.unusedVariables false
set_option linter.unusedSimpArgs false
set_option maxRecDepth 10000
set_option maxHeartbeats 1000000
theorem room_le {u : Us.U} (h : Us.VU u) : u.word.length ≤ 7 := by
  have hw := h.w
  unfold Us.roomU at hw
  have := onesS_le u.tag
  by_cases s1 : u.st = 1
  · rw [if_pos s1] at hw; omega
  · rw [if_neg s1] at hw; split at hw <;> omega
theorem unWrite {u : Us.U} (h : Us.VU u) {p : List Int} (hB : IsB p) (hp : p.length ≤ 1000000000) (lim : Int) : unpackstream_Write.f u.st u.tag u.word u.left u.done u.err p lim = some (Us.outF (Us.runU (Us.limU lim) p (u, []))) := by
  have := Us.writeF_eq (by have := room_le h; omega) hp h.tb0 h.tb1 h.wb hB u.st u.left u.done u.err lim
  unfold unpackstream_Write.f
  rw [this, if_pos (Us.V_validB h)]
theorem unLim (a : Int) : Us.limU a ≤ 1152921504606846976 := by unfold Us.limU; omega
theorem refSame_l0 (a b : List Int) (hl : a.length = b.length) (ha : a.length ≤ 140737488355328) : ∀ d i : Nat, i + d = a.length → Ev (fun k => capnpref01_Same.l0 k a b (i : Int)) (decide (a.drop i = b.drop i)) := by
  intro d
  induction d with
  | zero =>
    intro i hi
    refine Ev.step (f := fun _ => some true) (fun k => ?_) ?_
    · simp only [capnpref01_Same.l0]; rw [if_neg (by omega)]
    · rw [List.drop_of_length_le (by omega), List.drop_of_length_le (by omega), decide_eq_true rfl]; exact Ev.now _
  | succ d ih =>
    intro i hi
    rw [drop_rd (show i < a.length by omega), drop_rd (show i < b.length by omega)]
    by_cases e : rd a (i : Int) = rd b (i : Int)
    · refine Ev.step (f := fun k => capnpref01_Same.l0 k a b ((i + 1 : Nat) : Int)) (fun k => ?_) ?_
      · simp only [capnpref01_Same.l0]
        rw [if_pos (by omega), if_pos (by omega), if_pos (by omega), if_pos e, w64 (by omega) (by omega), show (i : Int) + 1 = ((i + 1 : Nat) : Int) by omega]
      · have := ih (i + 1) (by omega)
        simpa [e] using this
    · refine Ev.step (f := fun _ => some false) (fun k => ?_) ?_
      · simp only [capnpref01_Same.l0]
        rw [if_pos (by omega), if_pos (by omega), if_pos (by omega), if_neg e]
      · have : decide (rd a (i : Int) :: a.drop (i + 1) = rd b (i : Int) :: b.drop (i + 1)) = false := by simp [e]
        rw [this]; exact Ev.now _
theorem refSame (a b : List Int) (ha : a.length ≤ 140737488355328) : Ev (fun k => capnpref01_Same.f k a b) (decide (a = b)) := by
  by_cases hl : a.length = b.length
  · refine Ev.congr (fun k => ?_) (refSame_l0 a b hl ha a.length 0 (by omega))
    unfold capnpref01_Same.f
    rw [if_pos (by omega)]; rfl
  · refine Ev.congr (f := fun _ => some (decide (a = b))) (fun k => ?_) (Ev.now _)
    unfold capnpref01_Same.f
    rw [if_neg (by omega), decide_eq_false (fun h => hl (by rw [h]))]
theorem ref25Same (u v : Us.U) (h : u.word.length ≤ 140737488355328) : Ev (fun k => capnpref25_Same.f k u.st u.tag u.word u.left u.done u.err v.st v.tag v.word v.left v.done v.err) (decide (u.st = v.st ∧ u.tag = v.tag ∧ u.word = v.word ∧ u.left = v.left ∧ u.done = v.done ∧ u.err = v.err)) := by
  unfold capnpref25_Same.f
  by_cases h0 : u.st = v.st
  · by_cases h1 : u.tag = v.tag
    · refine Ev.congr (fun k => by rw [if_pos h0, if_pos h1]) (Ev.bind (refSame u.word v.word h) ?_)
      by_cases h2 : u.word = v.word
      · refine Ev.congr (f := fun _ => some _) (fun k => ?_) (Ev.now _)
        rw [if_pos (decide_eq_true h2)]
        by_cases h3 : u.left = v.left
        · rw [if_pos h3]
          by_cases h4 : u.done = v.done
          · rw [if_pos h4]
            by_cases h5 : u.err = v.err
            · rw [decide_eq_true (p := _ ∧ _) ⟨h0, h1, h2, h3, h4, h5⟩]; simp [h5]
            · rw [decide_eq_false (p := _ ∧ _) (fun h => h5 h.2.2.2.2.2)]; simp [h5]
          · rw [if_neg h4, decide_eq_false (p := _ ∧ _) (fun h => h4 h.2.2.2.2.1)]
        · rw [if_neg h3, decide_eq_false (p := _ ∧ _) (fun h => h3 h.2.2.2.1)]
      · refine Ev.congr (f := fun _ => some _) (fun k => ?_) (Ev.now _)
        rw [if_neg (by simp [h2]), decide_eq_false (p := _ ∧ _) (fun h => h2 h.2.2.1)]
    · refine Ev.congr (f := fun _ => some _) (fun k => ?_) (Ev.now _)
      rw [if_pos h0, if_neg h1, decide_eq_false (p := _ ∧ _) (fun h => h1 h.2.1)]
  · refine Ev.congr (f := fun _ => some _) (fun k => ?_) (Ev.now _)
    rw [if_neg h0, decide_eq_false (p := _ ∧ _) (fun h => h0 h.1)]
theorem awake25 : Ev (fun k => capnplaw25_awake.f k) true := Ev.of (fun k => capnplaw25_awake.mono k) (k := 60) (by kernel_rfl)
end Go.Proofs.YtpffoecblcfndaaDoor.QUnpackstreamSplit
