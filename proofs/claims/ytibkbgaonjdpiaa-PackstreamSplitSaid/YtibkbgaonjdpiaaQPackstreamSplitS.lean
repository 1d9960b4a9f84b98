/- The printed functions of the law PackstreamSplit hold what their plain specifications say. -/
import Derived.Test.YtibkbgaonjdpiaaPPackstreamSplitx0S
import Derived.Test.YtibkbgaonjdpiaaPPackstreamSplitx1S
import Derived.Test.YtibkbgaonjdpiaaPPackstreamSplitx2S
import Derived.Test.YtibkbgaonjdpiaaPPackstreamSplitx3S
import Derived.Test.YtibkbgaonjdpiaaPPackstreamSplitx4S
import Derived.Test.YtibkbgaonjdpiaaPPackstreamSplitx5S
import Derived.Test.YtibkbgaonjdpiaaM6S
import Derived.Test.YtibkbgaonjdpiaaPw2S
import Derived.Test.YtibkbgaonjdpiaaPst2S
import Derived.Test.YtibkbgaonjdpiaaQPaBaseS
namespace Go.Proofs.Ytibkbgaonjdpiaa.QPackstreamSplit
open Go Go.RowKit Go.Proofs.Ytibkbgaonjdpiaa Go.Proofs.Ytibkbgaonjdpiaa.M Go.Proofs.Ytibkbgaonjdpiaa.PPackstreamSplit Go.Proofs.YtibkbgaonjdpiaaW.PrintWords Go.Proofs.YtibkbgaonjdpiaaW.PrintLast Go.Proofs.YtibkbgaonjdpiaaW.PrintMore
open Go.Proofs.Ytibkbgaonjdpiaa.QPaBase (or_val wordGet_step chunk_rd wordGet_l0 wordGet_yes wordGet_no wordWords_l0 wordWords_yes wordWords_no wordBytes_l1 wordBytes_l0 wordBytes tagOf_step or_tag tagOf_l0 tagOf bitsOnes_all bitsOnes tagOnes tagDense tagBytes_l0 tagBytes)
open Go.Proofs.Ytibkbgaonjdpiaa.PPaBase
set_option linter.unusedVariables false
set_option linter.unusedSimpArgs false
set_option maxRecDepth 10000
set_option maxHeartbeats 1000000
theorem pkWrite {n : Nat} {rw p b : List Int} (hI : Ps.Inv 255 n rw) (hW : IsW rw) (hp : p.length < 8) (hpB : IsB p) (hbB : IsB b) (hb : b.length ≤ 1000000) :
    packstream_Write.f p (n : Int) (bytesS rw) b = some ((p ++ b).drop ((p ++ b).length / 8 * 8), Ps.toB (Ps.runW (wordsS ((p ++ b).take ((p ++ b).length / 8 * 8))) (n, rw, []))) := by
  have hv := Ps.V_of_Inv hI hW hp
  have hr := hI.rM
  show Ps.writeF p (n : Int) (bytesS rw) b = _
  rw [Ps.writeF_eq (by omega) (by rw [bytesS_length]; omega) hb hpB (bytesS_B _) hbB, if_pos hv]
  have := Ps.runB_W (wordsS ((p ++ b).take ((p ++ b).length / 8 * 8))) (n, rw, [])
  unfold Ps.writeS
  rw [← this]
  rfl
theorem refSame_l0 (a b : List Int) (hl : a.length = b.length) (ha : a.length ≤ 140737488355328) : ∀ d i : Nat, i + d = a.length → Ev (fun k => capnpref01_Same.l0 k a b (i : Int)) (decide (a.drop i = b.drop i)) := by
  intro d
  induction d with
  | zero =>
    intro i hi
    refine Ev.step (f := fun _ => some true) (fun k => ?_) ?_
    · simp only [capnpref01_Same.l0]; rw [if_neg (by omega)]
    · rw [List.drop_of_length_le (by omega), List.drop_of_length_le (by omega), decide_eq_true rfl]; exact Ev.now _
  | succ d ih =>
    intro i hi
    rw [drop_rd (show i < a.length by omega), drop_rd (show i < b.length by omega)]
    by_cases e : rd a (i : Int) = rd b (i : Int)
    · refine Ev.step (f := fun k => capnpref01_Same.l0 k a b ((i + 1 : Nat) : Int)) (fun k => ?_) ?_
      · simp only [capnpref01_Same.l0]
        rw [if_pos (by omega), if_pos (by omega), if_pos (by omega), if_pos e, w64 (by omega) (by omega), show (i : Int) + 1 = ((i + 1 : Nat) : Int) by omega]
      · have := ih (i + 1) (by omega)
        simpa [e] using this
    · refine Ev.step (f := fun _ => some false) (fun k => ?_) ?_
      · simp only [capnpref01_Same.l0]
        rw [if_pos (by omega), if_pos (by omega), if_pos (by omega), if_neg e]
      · have : decide (rd a (i : Int) :: a.drop (i + 1) = rd b (i : Int) :: b.drop (i + 1)) = false := by simp [e]
        rw [this]; exact Ev.now _
theorem refSame (a b : List Int) (ha : a.length ≤ 140737488355328) : Ev (fun k => capnpref01_Same.f k a b) (decide (a = b)) := by
  by_cases hl : a.length = b.length
  · refine Ev.congr (fun k => ?_) (refSame_l0 a b hl ha a.length 0 (by omega))
    unfold capnpref01_Same.f
    rw [if_pos (by omega)]; rfl
  · refine Ev.congr (f := fun _ => some (decide (a = b))) (fun k => ?_) (Ev.now _)
    unfold capnpref01_Same.f
    rw [if_neg (by omega), decide_eq_false (fun h => hl (by rw [h]))]
theorem ref24Same (p : List Int) (z : Int) (r p' : List Int) (z' : Int) (r' : List Int) (hp : p.length ≤ 140737488355328) (hr : r.length ≤ 140737488355328) : Ev (fun k => capnpref24_Same.f k p z r p' z' r') (decide (p = p' ∧ z = z' ∧ r = r')) := by
  unfold capnpref24_Same.f
  refine Ev.bind (refSame p p' hp) ?_
  by_cases h0 : p = p'
  · refine Ev.congr (fun k => if_pos (decide_eq_true h0)) ?_
    by_cases h1 : z = z'
    · refine Ev.congr (fun k => if_pos h1) (Ev.bind (refSame r r' hr) ?_)
      have e : decide (p = p' ∧ z = z' ∧ r = r') = decide (r = r') := by rw [decide_eq_decide]; exact ⟨fun h => h.2.2, fun h => ⟨h0, h1, h⟩⟩
      rw [e]; exact Ev.now _
    · rw [decide_eq_false (p := _ ∧ _) (fun h => h1 h.2.1)]
      exact Ev.congr (fun k => if_neg h1) (Ev.now _)
  · rw [decide_eq_false (p := _ ∧ _) (fun h => h0 h.1)]
    exact Ev.congr (fun k => if_neg (by simpa using h0)) (Ev.now _)
theorem awake24 : Ev (fun k => capnplaw24_awake.f k) true := Ev.of (fun k => capnplaw24_awake.mono k) (k := 60) (by kernel_rfl)
end Go.Proofs.Ytibkbgaonjdpiaa.QPackstreamSplit
