/- The law WholePack: for every byte sequence whose length is a multiple of 8, unpacking the packed form returns it under every sufficient limit, the packed form is in the grammar of the words and satisfies the length bound; other lengths are rejected with ErrUnaligned. -/
import Derived.Test.YthghblmffdfbaaaGreatDoorQWholePackH
namespace Go.Proofs.YthghblmffdfbaaaGreatDoor.Pure
open Go Go.RowKit Go.Proofs.YthghblmffdfbaaaGreatDoor Go.Proofs.YthghblmffdfbaaaGreatDoor.M Go.Proofs.YthghblmffdfbaaaGreatDoor.PWholePack Go.Proofs.YthghblmffdfbaaaGreatDoorW.PrintWords Go.Proofs.YthghblmffdfbaaaGreatDoorW.PrintLast Go.Proofs.YthghblmffdfbaaaGreatDoorW.PrintMore
open Go.Proofs.YthghblmffdfbaaaGreatDoor.QFrBase (frTable frZero_l0 frZero or_val wordGet_step chunk_rd wordGet_l0 wordGet_yes wordGet_no wordWords_l0 wordWords_yes wordWords_no wordBytes_l1 wordBytes_l0 wordBytes wordMask wordField wordSigned wordInsert)
open Go.Proofs.YthghblmffdfbaaaGreatDoor.QUnBase (bitsOnes_all bitsOnes tagOnes and_tag insert_byte tagExpand_yes tagExpand)
open Go.Proofs.YthghblmffdfbaaaGreatDoor.QOfBase (tagOf_step or_tag tagOf_l0 tagOf)
open Go.Proofs.YthghblmffdfbaaaGreatDoor.PFrBase
open Go.Proofs.YthghblmffdfbaaaGreatDoor.PUnBase (bits_OnesCount8.f bits_OnesCount8.calls tagbyte_Ones.f tagbyte_Ones.calls)
open Go.Proofs.YthghblmffdfbaaaGreatDoor.POfBase (tagbyte_Of.f tagbyte_Of.calls tagbyte_Of.mono tagbyte_Of.mono_l)
open Go.Proofs.YthghblmffdfbaaaGreatDoor.QWholePack
set_option linter.unusedVariables false
set_option linter.unusedSimpArgs false
set_option maxRecDepth 10000
set_option maxHeartbeats 1000000
theorem WholePack : capnptop_WholePack.Pure := by
  intro b a h1 h2 h3 h4
  have hB : IsB b := fun x hx => wf_u8 (h3 x hx)
  obtain ⟨a0, a1⟩ := wf_i64 h4
  apply Ev.rounds
  unfold capnptop_WholePack.f
  refine Ev.bind awakeTop (Ev.congr (fun k => if_pos rfl) ?_)
  by_cases hl : (b.length : Int) > 5000
  · rw [decide_eq_true hl]
    exact Ev.step (f := fun k => (capnptop_awake.f k).bind fun t => some t) (fun k => by simp only [capnptop_WholePack.j0]; rfl) (Ev.bind awakeTop (Ev.now _))
  · rw [decide_eq_false hl]
    by_cases h8 : b.length % 8 = 0
    · have hW := wordsS_W hB
      have hwl := wordsS_length b
      have hPB := packS_isB (wordsS b)
      have hpl := packS_length_le (wordsS b)
      have hbb : bytesS (wordsS b) = b := bytesS_wordsS (b.length / 8) b (by omega) hB
      have hd := dec_packS hW
      have hu := unBytesE hPB (by omega) a (by omega)
      have hA := gramAccepts hPB (by omega) hW (by omega)
      have hC := gramCanonical hPB (by omega)
      rw [hd] at hu
      rw [hd, decide_eq_true ⟨rfl, rfl⟩] at hA
      rw [hd, decide_eq_true ⟨rfl, rfl⟩] at hC
      have e1 : wrap64 ((b.length : Int) / 8) = (b.length : Int) / 8 := w64 (by omega) (by omega)
      have e2 : wrap64 ((b.length : Int) + (b.length : Int) / 8) = (b.length : Int) + (b.length : Int) / 8 := w64 (by omega) (by omega)
      have e3 : wrap64 ((b.length : Int) + (b.length : Int) / 8 + 2) = (b.length : Int) + (b.length : Int) / 8 + 2 := w64 (by omega) (by omega)
      have e4 : decide (((packS (wordsS b)).length : Int) > wrap64 (wrap64 ((b.length : Int) + wrap64 ((b.length : Int) / 8)) + 2)) = false := by
        rw [e1, e2, e3]
        exact decide_eq_false (by omega)
      refine Ev.step (fun k => by simp only [capnptop_WholePack.j0]; rw [if_neg (by decide)]) (Ev.bind (packBytes_yes b hB (by omega) h8) (Ev.bind (refWords_yes b hB (by omega) h8) (Ev.congr (fun k => if_pos rfl) (Ev.bind hu (Ev.congr (fun k => if_pos rfl) (Ev.bind hA (Ev.congr (fun k => if_pos rfl) (Ev.bind hC (Ev.congr (fun k => if_pos rfl) ?_)))))))))
      dsimp only
      rw [e4]
      have step1 : ∀ (x9 : List Int) (x10 : Int) (k : Nat), capnptop_WholePack.j1 (k + 1) b a x9 x10 false = (if a ≥ (b.length : Int) then (if x10 = 0 then ((capnpref01_Same.f k x9 b).bind fun t527 => (some t527)) else (none)) else (if (x9.length : Int) = 0 then (if x10 = 11 then (some true) else (if (b.length : Int) = 0 then (some (x10 == 0)) else (some false))) else (some false))) := fun x9 x10 k => by
        rw [capnptop_WholePack.j1]; exact if_neg (by decide)
      by_cases hc : (max a 0 / 8).toNat < (wordsS b).length
      · rw [if_pos hc]
        exact Ev.step (step1 _ _) (Ev.congr (fun k => if_neg (by omega)) (Ev.congr (fun k => if_pos rfl) (Ev.congr (fun k => if_pos rfl) (Ev.now _))))
      · rw [if_neg hc, if_neg (by decide)]
        dsimp only
        rw [hbb]
        refine Ev.step (step1 _ _) ?_
        by_cases ha : a ≥ (b.length : Int)
        · refine Ev.congr (fun k => if_pos ha) (Ev.congr (fun k => if_pos rfl) (Ev.bind (refSame b b (by omega)) ?_))
          rw [decide_eq_true rfl]
          exact Ev.now _
        · have h0 : (b.length : Int) = 0 := by omega
          exact Ev.congr (fun k => if_neg ha) (Ev.congr (fun k => if_pos h0) (Ev.congr (f := fun _ => some true) (fun k => by rw [if_neg (by decide), if_pos h0]; rfl) (Ev.now _)))
    · refine Ev.step (fun k => by simp only [capnptop_WholePack.j0]; rw [if_neg (by decide)]) (Ev.bind (packBytes_no b h8) (Ev.bind (refWords_no b h8) ?_))
      exact Ev.congr (fun k => if_neg (by decide)) (Ev.congr (fun k => if_pos rfl) (Ev.now _))
end Go.Proofs.YthghblmffdfbaaaGreatDoor.Pure
