/- The decoder of package unpack, part 5: Prefix. -/
import Derived.Test.YtcdkgccmmfjnhaaDoorDec4
namespace Go.Proofs.YtcdkgccmmfjnhaaDoor.Un
open Go Go.RowKit Go.Proofs.YtcdkgccmmfjnhaaDoor Go.Proofs.YtcdkgccmmfjnhaaDoor.M Go.Proofs.YtcdkgccmmfjnhaaDoor.PUnBase Go.Proofs.YtcdkgccmmfjnhaaDoor.QUnBase Go.Proofs.YtcdkgccmmfjnhaaDoorW.PrintWords Go.Proofs.YtcdkgccmmfjnhaaDoorW.PrintLast Go.Proofs.YtcdkgccmmfjnhaaDoorW.PrintMore
attribute [local go_sem] max2_int min2_int max_two min_two
set_option linter.unusedVariables false
set_option linter.unusedSimpArgs false
set_option maxHeartbeats 8000000
set_option maxRecDepth 100000

def codeS : Nat → Int
  | 0 => 0
  | 1 => 11
  | _ => 10
def prefS (inn : List Int) (lim : Int) : List Int × Int := ((decoS (mx lim 0) inn.length inn []).2.1, codeS (decoS (mx lim 0) inn.length inn []).2.2)
theorem Dec.start (w : World) {A : Option Addr} {c : Nat} {inn : List Int} {lim : Int} (hin : Kd.C (Kd.int .u8) w A inn.length inn) (hc : inn.length ≤ c) :
    Dec w (w.alloc (.cells #[.slice A inn.length c, .slice none 0 0, .int .i64 lim] 41)) w.heap.size inn [] lim := by
  refine ⟨⟨A, c, .slice none 0 0, ?_, hin, hc, Kd.R_nil _ _ _ _ _⟩, (Below.refl _ _).alloc (Nat.le_refl _) _, Nat.le_refl _⟩
  show (w.heap.push _)[w.heap.size]? = _
  rw [Array.getElem?_push_size]

theorem prefix_calls {w : World} {A : Option Addr} {c : Nat} {inn : List Int} {lim : Int} {aL aT : Addr} (hin : Kd.C (Kd.int .u8) w A inn.length inn) (hc : inn.length ≤ c) (hL : LaidU w aL aT) (hB : IsB inn) (hi : inn.length ≤ 1000000000) :
    Calls Tryd.prog 11 #[.slice A inn.length c, .int .i64 lim] w fun e w' => ∃ v0_ : Value, e = .returned (.tuple #[v0_, .int .i64 (prefS inn lim).2]) ∧ Kd.R (Kd.int .u8) 5 w' w.heap.size (fun _ => True) v0_ (prefS inn lim).1 ∧ Below w.heap.size w w' := by
  obtain ⟨L, hl⟩ : ∃ L, L = mx lim 0 := ⟨_, rfl⟩
  unfold prefS
  rw [← hl]
  have HS := Aside0.mk (Dec.start w (lim := L) hin hc)
  rcases hr : decoS L inn.length inn [] with ⟨RI, RO, RC⟩
  have HC := Aside0.mk (decode_calls HS.out hL hB hi (Nat.le_refl _) (by simp; omega) hr)
  have HL := Aside0.mk hL
  have hl2 : (if lim < 0 then 0 else lim) = L := hl.symm
  clear hin hc hL hB hi hr hl
  rcases RC with _ | _ | RC
  · go_enter Tryd.func11, Tryd.ntmps11
    go_wp2_with (first
      | (go_at_call 18; refine HC.out.mono ?_; rintro e w2 ⟨rfl, hd2⟩; simp only [errV]; have HD2 := Aside0.mk hd2; obtain ⟨⟨A2, c2, v2, hblk2, hin2, hlen2, hown2⟩, hbel2, hg2⟩ := hd2; have k0 := (HL.out.below hbel2).c0; have k1 := (HL.out.below hbel2).c1; have k2 := Dec.cell1 hblk2; obtain ⟨cL, tL, hbL⟩ := (HL.out.below hbel2).bL; obtain ⟨cT, tT, hbT⟩ := (HL.out.below hbel2).bT; have HBL := Aside0.mk hbL; have HBT := Aside0.mk hbT; have HO := Aside0.mk hown2; have HB := Aside0.mk hbel2; clear hblk2 hin2 hlen2 hown2 hbel2 hg2 hbL hbT)
      | (go_at_call_of 19 aL; with_reducible refine (is_nil aL _).mono ?_; rintro e w3 ⟨rfl, rfl⟩)
      | (go_at_call_of 19 aT; with_reducible refine (is_nil aT _).mono ?_; rintro e w3 ⟨rfl, rfl⟩))
    go_ret2
    exact ⟨_, rfl, Kd.R_mono HO.out (fun _ _ => trivial), HB.out⟩
  · go_enter Tryd.func11, Tryd.ntmps11
    go_wp2_with (first
      | (go_at_call 18; refine HC.out.mono ?_; rintro e w2 ⟨rfl, hd2⟩; simp only [errV]; have HD2 := Aside0.mk hd2; obtain ⟨⟨A2, c2, v2, hblk2, hin2, hlen2, hown2⟩, hbel2, hg2⟩ := hd2; have k0 := (HL.out.below hbel2).c0; have k1 := (HL.out.below hbel2).c1; have k2 := Dec.cell1 hblk2; obtain ⟨cL, tL, hbL⟩ := (HL.out.below hbel2).bL; obtain ⟨cT, tT, hbT⟩ := (HL.out.below hbel2).bT; have HBL := Aside0.mk hbL; have HBT := Aside0.mk hbT; have HO := Aside0.mk hown2; have HB := Aside0.mk hbel2; clear hblk2 hin2 hlen2 hown2 hbel2 hg2 hbL hbT)
      | (go_at_call 19; with_reducible refine (is_same aL _).mono ?_; rintro e w3 ⟨rfl, rfl⟩))
    go_ret2
    exact ⟨_, rfl, Kd.R_mono HO.out (fun _ _ => trivial), HB.out⟩
  · go_enter Tryd.func11, Tryd.ntmps11
    go_wp2_with (first
      | (go_at_call 18; refine HC.out.mono ?_; rintro e w2 ⟨rfl, hd2⟩; simp only [errV]; have HD2 := Aside0.mk hd2; obtain ⟨⟨A2, c2, v2, hblk2, hin2, hlen2, hown2⟩, hbel2, hg2⟩ := hd2; have k0 := (HL.out.below hbel2).c0; have k1 := (HL.out.below hbel2).c1; have k2 := Dec.cell1 hblk2; obtain ⟨cL, tL, hbL⟩ := (HL.out.below hbel2).bL; obtain ⟨cT, tT, hbT⟩ := (HL.out.below hbel2).bT; have HBL := Aside0.mk hbL; have HBT := Aside0.mk hbT; have HIO := Aside0.mk (is_other aT aL cT cL tT tL w2 (Ne.symm HL.out.ne) HBT.out HBL.out); have HO := Aside0.mk hown2; have HB := Aside0.mk hbel2; clear hblk2 hin2 hlen2 hown2 hbel2 hg2 hbL hbT)
      | (go_at_call_of 19 aL; refine HIO.out.mono ?_; rintro e w3 ⟨rfl, rfl⟩)
      | (go_at_call 19; refine (is_same aT _).mono ?_; rintro e w3 ⟨rfl, rfl⟩))
    go_ret2
    exact ⟨_, rfl, Kd.R_mono HO.out (fun _ _ => trivial), HB.out⟩
end Go.Proofs.YtcdkgccmmfjnhaaDoor.Un
