/- Printed functions of a law, and their walks. -/
import Derived.Test.YthghblmffdfbaaaGreatDoorXShortH
import Derived.Test.YthghblmffdfbaaaGreatDoorPWholePackx2H
import Derived.Test.YthghblmffdfbaaaGreatDoorPWholePackx8H
import Derived.Test.YthghblmffdfbaaaGreatDoorPWholePackx9H
namespace Go.Proofs.YthghblmffdfbaaaGreatDoor.PWholePack
open Go.RowKit Go.Proofs.YthghblmffdfbaaaGreatDoorW.PrintWords Go.Proofs.YthghblmffdfbaaaGreatDoorW.PrintLast Go.Proofs.YthghblmffdfbaaaGreatDoorW.PrintMore
open Go.Proofs.YthghblmffdfbaaaGreatDoor.PFrBase
open Go.Proofs.YthghblmffdfbaaaGreatDoor.PUnBase (bits_OnesCount8.f bits_OnesCount8.calls tagbyte_Ones.f tagbyte_Ones.calls)
open Go.Proofs.YthghblmffdfbaaaGreatDoor.POfBase (tagbyte_Of.f tagbyte_Of.calls tagbyte_Of.mono tagbyte_Of.mono_l)
attribute [local go_sem] max2_int min2_int max_two min_two max_three min_three max_four min_four   -- for this text's walks alone
set_option linter.unusedVariables false
set_option linter.unusedSimpArgs false
mutual
def capnptop_WholePack.j0 : Nat → List Int → Int → Bool → Option (Bool)
  | 0, _, _, _ => none
  | k + 1, x0, x1, x17 => if x17 = true then ((capnptop_awake.f k).bind fun t512 => (some t512)) else ((pack_Bytes.f k x0).bind fun bt513 => ((capnpref01_Words.f k x0).bind fun bt517 => (if bt517.2 = true then ((unpack_Bytes.f bt513.1 x1).bind fun bt521 => (if bt513.2 = 0 then ((grammar_Accepts.f k bt513.1 bt517.1).bind fun t525 => (if t525 = true then ((grammar_Canonical.f k bt513.1).bind fun t526 => (if t526 = true then (capnptop_WholePack.j1 k x0 x1 bt521.1 bt521.2 (decide ((bt513.1.length : Int) > (wrap64 ((wrap64 ((x0.length : Int) + (wrap64 ((x0.length : Int) / 8)))) + 2))))) else (capnptop_WholePack.j1 k x0 x1 bt521.1 bt521.2 true))) else (capnptop_WholePack.j1 k x0 x1 bt521.1 bt521.2 true))) else (capnptop_WholePack.j1 k x0 x1 bt521.1 bt521.2 true))) else (if bt513.2 = 9 then (some ((bt513.1.length : Int) == 0)) else (none)))))
def capnptop_WholePack.j1 : Nat → List Int → Int → List Int → Int → Bool → Option (Bool)
  | 0, _, _, _, _, _ => none
  | k + 1, x0, x1, x9, x10, x68 => if x68 = true then (some false) else (if x1 ≥ (x0.length : Int) then (if x10 = 0 then ((capnpref01_Same.f k x9 x0).bind fun t527 => (some t527)) else (none)) else (if (x9.length : Int) = 0 then (if x10 = 11 then (some true) else (if (x0.length : Int) = 0 then (some (x10 == 0)) else (some false))) else (some false)))
end
def capnptop_WholePack.f (k : Nat) (l0 : List Int) (a1 : Int) : Option (Bool) := (capnptop_awake.f k).bind fun t511 => (if t511 = true then (capnptop_WholePack.j0 k l0 a1 (decide ((l0.length : Int) > 5000))) else (capnptop_WholePack.j0 k l0 a1 true))
set_option maxHeartbeats 8000000 in
set_option maxRecDepth 100000 in
theorem capnptop_WholePack.calls (k : Nat) (A0 : Option Addr) (c0 : Nat) (l0 : List Int) (a1 : Int) (r : Bool) (w : World) (hr0 : Kd.C (Kd.int .u8) w A0 l0.length l0) (hc0 : l0.length ≤ c0) (h : capnptop_WholePack.f k l0 a1 = some r) (hL : Go.Proofs.YthghblmffdfbaaaGreatDoor.Gp.TopU w) :
    Calls Tryz.prog 3 #[.slice A0 l0.length c0, .int .i64 a1] w fun e w' => e = .returned (.bool r) ∧ Below w.heap.size w w' := by
  have HL := Aside0.mk hL
  clear hL
  have HR0 := Aside0.mk hr0
  have HC0 := Aside0.mk hc0
  clear hr0 hc0
  have HB := Aside0.mk (Below.refl w.heap.size w)
  have H : ((capnptop_awake.f k).bind fun t511 => (if t511 = true then (capnptop_WholePack.j0 k l0 a1 (decide ((l0.length : Int) > 5000))) else (capnptop_WholePack.j0 k l0 a1 true))) = some r := h
  clear h
  have HC3 := Aside0.mk H
  clear H
  go_enter Tryz.func3, Tryz.ntmps3
  go_upto_region 1 with (fail)
  go_cut [17] (fun v17 wc => ∃ (kq : Nat) (x17_2 : Bool), v17 = .bool x17_2 ∧ Aside0 (capnptop_WholePack.j0 kq l0 a1 x17_2 = some r) ∧ Aside0 (kq ≤ k) ∧ Aside0 (Below w.heap.size w wc))
  case first =>
    have H := HC3.out
    clear HC3
    replace H := Option.bind_eq_some_iff.mp H
    obtain ⟨t511, A40, H⟩ := H
    replace H : (if t511 = true then (capnptop_WholePack.j0 k l0 a1 (decide ((l0.length : Int) > 5000))) else (capnptop_WholePack.j0 k l0 a1 true)) = some r := H
    have A4 := Aside0.mk A40
    clear A40
    by_cases c5 : t511 = true
    · subst c5
      have H1 : (capnptop_WholePack.j0 k l0 a1 (decide ((l0.length : Int) > 5000))) = some r := by rw [if_pos rfl] at H; exact H
      clear H
      have H := H1
      clear H1
      have H' := Aside0.mk H
      clear H
      go_wp2_with (first | ((with_reducible refine gate_callee (f := 8) rfl ?_); refine goesL_ (some 11) rfl rfl Tryz.func8 (by kernel_rfl) rfl #[] rfl pM ?_; (with_reducible refine (capnptop_awake.calls k  true _ A4.out (Go.Proofs.YthghblmffdfbaaaGreatDoor.Gp.TopU.below HL.out pB)).mono ?_); rintro e w6 ⟨rfl, hb⟩; refine ⟨_, rfl, ?_⟩; have n0_ := Aside0.mk (below_step pB hb); clear HB; have HB := n0_; clear n0_; (try clear hb); (try clear hb2); (try clear hk); (try clear hi)))
      go_meet
      case rel => exact ⟨_, (decide ((l0.length : Int) > 5000)), (by first | rfl | (simp; done) | (simp [*]; done)), H', ⟨by first | omega | exact Nat.le_refl _⟩, ⟨pB⟩⟩
    · replace c5 := Bool.eq_false_iff.mpr c5
      subst c5
      have H1 : (capnptop_WholePack.j0 k l0 a1 true) = some r := by rw [if_neg (show ¬ (false = true) by decide)] at H; exact H
      clear H
      have H := H1
      clear H1
      have H' := Aside0.mk H
      clear H
      go_wp2_with (first | ((with_reducible refine gate_callee (f := 8) rfl ?_); refine goesL_ (some 11) rfl rfl Tryz.func8 (by kernel_rfl) rfl #[] rfl pM ?_; (with_reducible refine (capnptop_awake.calls k  false _ A4.out (Go.Proofs.YthghblmffdfbaaaGreatDoor.Gp.TopU.below HL.out pB)).mono ?_); rintro e w7 ⟨rfl, hb⟩; refine ⟨_, rfl, ?_⟩; have n0_ := Aside0.mk (below_step pB hb); clear HB; have HB := n0_; clear n0_; (try clear hb); (try clear hb2); (try clear hk); (try clear hi)))
      go_meet
      case rel => exact ⟨_, (true), (by first | rfl | (simp; done) | (simp [*]; done)), H', ⟨by first | omega | exact Nat.le_refl _⟩, ⟨pB⟩⟩
  case rest =>
    clear HC3
    try clear p2
    try clear c3
    try clear c5
    obtain ⟨kq, x17_2, rfl, HA, HJ2, HB⟩ := hcut
    cases kq with
    | zero => exact absurd HA.out (by simp [capnptop_WholePack.j0])
    | succ kj2 =>
      have H := HA.out
      clear HA
      simp only [capnptop_WholePack.j0] at H
      by_cases c8 : x17_2 = true
      · subst c8
        have H1 : ((capnptop_awake.f kj2).bind fun t512 => (some t512)) = some r := by rw [if_pos rfl] at H; exact H
        clear H
        have H := H1
        clear H1
        replace H := Option.bind_eq_some_iff.mp H
        obtain ⟨t512, A90, H⟩ := H
        replace H : (some t512) = some r := H
        have A9 := Aside0.mk A90
        clear A90
        obtain rfl := Option.some.inj H
        go_wp2_with (first | ((with_reducible refine gate_callee (f := 8) rfl ?_); refine goesL_ (some 18) rfl rfl Tryz.func8 (by kernel_rfl) rfl #[] rfl pM ?_; (with_reducible refine (capnptop_awake.calls kj2  t512 _ A9.out (Go.Proofs.YthghblmffdfbaaaGreatDoor.Gp.TopU.below HL.out pB)).mono ?_); rintro e w10 ⟨rfl, hb⟩; refine ⟨_, rfl, ?_⟩; have n0_ := Aside0.mk (below_step pB hb); clear HB; have HB := n0_; clear n0_; (try clear hb); (try clear hb2); (try clear hk); (try clear hi)))
        go_ret
        exact ⟨by first | rfl | (simp [errW_none, errW_some] <;> rfl) | (simp [*, errW_none, errW_some] <;> rfl), pB⟩
      · replace c8 := Bool.eq_false_iff.mpr c8
        subst c8
        have H1 : ((pack_Bytes.f kj2 l0).bind fun bt513 => ((capnpref01_Words.f kj2 l0).bind fun bt517 => (if bt517.2 = true then ((unpack_Bytes.f bt513.1 a1).bind fun bt521 => (if bt513.2 = 0 then ((grammar_Accepts.f kj2 bt513.1 bt517.1).bind fun t525 => (if t525 = true then ((grammar_Canonical.f kj2 bt513.1).bind fun t526 => (if t526 = true then (capnptop_WholePack.j1 kj2 l0 a1 bt521.1 bt521.2 (decide ((bt513.1.length : Int) > (wrap64 ((wrap64 ((l0.length : Int) + (wrap64 ((l0.length : Int) / 8)))) + 2))))) else (capnptop_WholePack.j1 kj2 l0 a1 bt521.1 bt521.2 true))) else (capnptop_WholePack.j1 kj2 l0 a1 bt521.1 bt521.2 true))) else (capnptop_WholePack.j1 kj2 l0 a1 bt521.1 bt521.2 true))) else (if bt513.2 = 9 then (some ((bt513.1.length : Int) == 0)) else (none))))) = some r := by rw [if_neg (show ¬ (false = true) by decide)] at H; exact H
        clear H
        have H := H1
        clear H1
        replace H := Option.bind_eq_some_iff.mp H
        obtain ⟨⟨t513, t514⟩, A110, H⟩ := H
        replace H : ((capnpref01_Words.f kj2 l0).bind fun bt517 => (if bt517.2 = true then ((unpack_Bytes.f t513 a1).bind fun bt521 => (if t514 = 0 then ((grammar_Accepts.f kj2 t513 bt517.1).bind fun t525 => (if t525 = true then ((grammar_Canonical.f kj2 t513).bind fun t526 => (if t526 = true then (capnptop_WholePack.j1 kj2 l0 a1 bt521.1 bt521.2 (decide ((t513.length : Int) > (wrap64 ((wrap64 ((l0.length : Int) + (wrap64 ((l0.length : Int) / 8)))) + 2))))) else (capnptop_WholePack.j1 kj2 l0 a1 bt521.1 bt521.2 true))) else (capnptop_WholePack.j1 kj2 l0 a1 bt521.1 bt521.2 true))) else (capnptop_WholePack.j1 kj2 l0 a1 bt521.1 bt521.2 true))) else (if t514 = 9 then (some ((t513.length : Int) == 0)) else (none)))) = some r := H
        have A11 := Aside0.mk A110
        clear A110
        replace H := Option.bind_eq_some_iff.mp H
        obtain ⟨⟨t517, t518⟩, A120, H⟩ := H
        replace H : (if t518 = true then ((unpack_Bytes.f t513 a1).bind fun bt521 => (if t514 = 0 then ((grammar_Accepts.f kj2 t513 t517).bind fun t525 => (if t525 = true then ((grammar_Canonical.f kj2 t513).bind fun t526 => (if t526 = true then (capnptop_WholePack.j1 kj2 l0 a1 bt521.1 bt521.2 (decide ((t513.length : Int) > (wrap64 ((wrap64 ((l0.length : Int) + (wrap64 ((l0.length : Int) / 8)))) + 2))))) else (capnptop_WholePack.j1 kj2 l0 a1 bt521.1 bt521.2 true))) else (capnptop_WholePack.j1 kj2 l0 a1 bt521.1 bt521.2 true))) else (capnptop_WholePack.j1 kj2 l0 a1 bt521.1 bt521.2 true))) else (if t514 = 9 then (some ((t513.length : Int) == 0)) else (none))) = some r := H
        have A12 := Aside0.mk A120
        clear A120
        by_cases c13 : t518 = true
        · subst c13
          have H1 : ((unpack_Bytes.f t513 a1).bind fun bt521 => (if t514 = 0 then ((grammar_Accepts.f kj2 t513 t517).bind fun t525 => (if t525 = true then ((grammar_Canonical.f kj2 t513).bind fun t526 => (if t526 = true then (capnptop_WholePack.j1 kj2 l0 a1 bt521.1 bt521.2 (decide ((t513.length : Int) > (wrap64 ((wrap64 ((l0.length : Int) + (wrap64 ((l0.length : Int) / 8)))) + 2))))) else (capnptop_WholePack.j1 kj2 l0 a1 bt521.1 bt521.2 true))) else (capnptop_WholePack.j1 kj2 l0 a1 bt521.1 bt521.2 true))) else (capnptop_WholePack.j1 kj2 l0 a1 bt521.1 bt521.2 true))) = some r := by rw [if_pos rfl] at H; exact H
          clear H
          have H := H1
          clear H1
          replace H := Option.bind_eq_some_iff.mp H
          obtain ⟨⟨t521, t522⟩, A140, H⟩ := H
          replace H : (if t514 = 0 then ((grammar_Accepts.f kj2 t513 t517).bind fun t525 => (if t525 = true then ((grammar_Canonical.f kj2 t513).bind fun t526 => (if t526 = true then (capnptop_WholePack.j1 kj2 l0 a1 t521 t522 (decide ((t513.length : Int) > (wrap64 ((wrap64 ((l0.length : Int) + (wrap64 ((l0.length : Int) / 8)))) + 2))))) else (capnptop_WholePack.j1 kj2 l0 a1 t521 t522 true))) else (capnptop_WholePack.j1 kj2 l0 a1 t521 t522 true))) else (capnptop_WholePack.j1 kj2 l0 a1 t521 t522 true)) = some r := H
          have A14 := Aside0.mk A140
          clear A140
          have HC15 := Aside0.mk H
          clear H
          go_upto_region 8 with (first | ((with_reducible refine gate_callee (f := 9) rfl ?_); refine goesL_ (some 21) rfl rfl Tryz.func9 (by kernel_rfl) rfl #[.slice A0 l0.length c0] rfl pM ?_; (with_reducible refine (pack_Bytes.calls kj2 _ _ l0 t513 t514 _ ?side1 ?side2 A11.out).mono ?_); (case side1 => repeat (first | exact (Kd.C_below HR0.out HB.out) | (with_reducible refine Kd.C_alloc ?_ _) | (with_reducible refine Kd.C_drewN ?_ _) | (with_reducible refine Kd.C_drew ?_))); (case side2 => exact HC0.out); rintro e w16 ⟨v515, rfl, ho0, hb⟩; refine ⟨_, rfl, ?_⟩; have n0_ := Aside0.mk (Kd.R_lower ho0 (below_size pB)); have n1_ := Aside0.mk (below_step pB hb); clear HB; have HO516 := n0_; have HB := n1_; clear n0_ n1_; (try clear hb); (try clear hb2); (try clear hk); (try clear hi); (try clear ho0)) | ((with_reducible refine gate_callee (f := 10) rfl ?_); refine goesL_ (some 26) rfl rfl Tryz.func10 (by kernel_rfl) rfl #[.slice A0 l0.length c0] rfl pM ?_; (with_reducible refine (capnpref01_Words.calls kj2 _ _ l0 t517 true _ ?side1 ?side2 A12.out).mono ?_); (case side1 => repeat (first | exact (Kd.C_below HR0.out HB.out) | (with_reducible refine Kd.C_alloc ?_ _) | (with_reducible refine Kd.C_drewN ?_ _) | (with_reducible refine Kd.C_drew ?_))); (case side2 => exact HC0.out); rintro e w17 ⟨v519, rfl, ho0, hb⟩; refine ⟨_, rfl, ?_⟩; have n0_ := Aside0.mk (Kd.R_below (pR HO516) hb); have n1_ := Aside0.mk (Kd.R_lower ho0 (below_size pB)); have n2_ := Aside0.mk (below_step pB hb); clear HO516; clear HB; have HO516 := n0_; have HO520 := n1_; have HB := n2_; clear n0_ n1_ n2_; (try clear hb); (try clear hb2); (try clear hk); (try clear hi); (try clear ho0); obtain ⟨Ao18, co18, eo18⟩ := Kd.R_slice HO516.out; subst eo18) | ((with_reducible refine gate_callee (f := 11) rfl ?_); refine goesL_ (some 41) rfl rfl Tryz.func11 (by kernel_rfl) rfl #[.slice Ao18 t513.length co18, .int .i64 a1] rfl pM ?_; (with_reducible refine (unpack_Bytes.calls _ _ t513 a1 t521 t522 _ ?side1 ?side2 A14.out (Go.Proofs.YthghblmffdfbaaaGreatDoor.Gp.TopU.below HL.out pB)).mono ?_); (case side1 => repeat (first | exact (Kd.R_reads' HO516.out).2.2 | (with_reducible refine Kd.C_alloc ?_ _) | (with_reducible refine Kd.C_drewN ?_ _) | (with_reducible refine Kd.C_drew ?_))); (case side2 => exact (Kd.R_reads' HO516.out).2.1); rintro e w19 ⟨v523, rfl, ho0, hb⟩; refine ⟨_, rfl, ?_⟩; have n0_ := Aside0.mk (Kd.R_elder' (pR HO516) (Kd.R_base ho0) hb); have n1_ := Aside0.mk (Kd.R_below (pR HO520) hb); have n2_ := Aside0.mk (Kd.R_lower (Kd.R_new' ho0 (Kd.R_lt (pR HO516))) (below_size pB)); have n3_ := Aside0.mk (below_step pB hb); clear HO516; clear HO520; clear HB; have HO516 := n0_; have HO520 := n1_; have HO524 := n2_; have HB := n3_; clear n0_ n1_ n2_ n3_; (try clear hb); (try clear hb2); (try clear hk); (try clear hi); (try clear ho0)))
          (try simp only [Act.put, List.setIfInBounds_toArray, List.set_cons_zero, List.set_cons_succ])
          go_cut [68] (fun v68 wc => ∃ (kq : Nat) (x68_14 : Bool), v68 = .bool x68_14 ∧ Aside0 (capnptop_WholePack.j1 kq l0 a1 t521 t522 x68_14 = some r) ∧ Aside0 (kq ≤ kj2) ∧ Aside0 (Kd.R (Kd.int .u8) 5 wc w.heap.size (fun _ => True) v523 t521) ∧ Aside0 (Below w.heap.size w wc))
          case first =>
            have H := HC15.out
            clear HC15
            by_cases c20 : t514 = 0
            · rw [if_pos c20] at H
              have c20b0 : (t514 == 0) = true := beq_iff_eq.mpr c20
              have c20b1 : (t514 != 0) = false := bne_eq_false_iff_eq.mpr c20
              clear c20
              (first | rw [c20b0] | (simp only [i64_w, i32_w]; rw [c20b0]) | skip)
              replace H := Option.bind_eq_some_iff.mp H
              obtain ⟨t525, A210, H⟩ := H
              replace H : (if t525 = true then ((grammar_Canonical.f kj2 t513).bind fun t526 => (if t526 = true then (capnptop_WholePack.j1 kj2 l0 a1 t521 t522 (decide ((t513.length : Int) > (wrap64 ((wrap64 ((l0.length : Int) + (wrap64 ((l0.length : Int) / 8)))) + 2))))) else (capnptop_WholePack.j1 kj2 l0 a1 t521 t522 true))) else (capnptop_WholePack.j1 kj2 l0 a1 t521 t522 true)) = some r := H
              have A21 := Aside0.mk A210
              clear A210
              by_cases c22 : t525 = true
              · subst c22
                have H1 : ((grammar_Canonical.f kj2 t513).bind fun t526 => (if t526 = true then (capnptop_WholePack.j1 kj2 l0 a1 t521 t522 (decide ((t513.length : Int) > (wrap64 ((wrap64 ((l0.length : Int) + (wrap64 ((l0.length : Int) / 8)))) + 2))))) else (capnptop_WholePack.j1 kj2 l0 a1 t521 t522 true))) = some r := by rw [if_pos rfl] at H; exact H
                clear H
                have H := H1
                clear H1
                replace H := Option.bind_eq_some_iff.mp H
                obtain ⟨t526, A230, H⟩ := H
                replace H : (if t526 = true then (capnptop_WholePack.j1 kj2 l0 a1 t521 t522 (decide ((t513.length : Int) > (wrap64 ((wrap64 ((l0.length : Int) + (wrap64 ((l0.length : Int) / 8)))) + 2))))) else (capnptop_WholePack.j1 kj2 l0 a1 t521 t522 true)) = some r := H
                have A23 := Aside0.mk A230
                clear A230
                by_cases c24 : t526 = true
                · subst c24
                  have H1 : (capnptop_WholePack.j1 kj2 l0 a1 t521 t522 (decide ((t513.length : Int) > (wrap64 ((wrap64 ((l0.length : Int) + (wrap64 ((l0.length : Int) / 8)))) + 2))))) = some r := by rw [if_pos rfl] at H; exact H
                  clear H
                  have H := H1
                  clear H1
                  have H' := Aside0.mk H
                  clear H
                  obtain ⟨Ao25, co25, eo25⟩ := Kd.R_slice HO520.out
                  subst eo25
                  go_wp2_with (first | (go_at_call 12; (with_reducible refine (grammar_Accepts.calls kj2 _ _ t513 _ _ t517 true _ ?side1 ?side2 ?side3 ?side4 A21.out (Go.Proofs.YthghblmffdfbaaaGreatDoor.Gp.TopU.below HL.out pB)).mono ?_); (case side1 => repeat (first | exact (Kd.R_reads' HO516.out).2.2 | (with_reducible refine Kd.C_alloc ?_ _) | (with_reducible refine Kd.C_drewN ?_ _) | (with_reducible refine Kd.C_drew ?_))); (case side2 => exact (Kd.R_reads' HO516.out).2.1); (case side3 => repeat (first | exact (Kd.R_reads' HO520.out).2.2 | (with_reducible refine Kd.C_alloc ?_ _) | (with_reducible refine Kd.C_drewN ?_ _) | (with_reducible refine Kd.C_drew ?_))); (case side4 => exact (Kd.R_reads' HO520.out).2.1); rintro e w26 ⟨rfl, hb⟩; have n0_ := Aside0.mk (Kd.R_below (pR HO516) hb); have n1_ := Aside0.mk (Kd.R_below (pR HO520) hb); have n2_ := Aside0.mk (Kd.R_below (pR HO524) hb); have n3_ := Aside0.mk (below_step pB hb); clear HO516; clear HO520; clear HO524; clear HB; have HO516 := n0_; have HO520 := n1_; have HO524 := n2_; have HB := n3_; clear n0_ n1_ n2_ n3_; (try clear hb); (try clear hb2); (try clear hk); (try clear hi)) | (go_at_call 13; (with_reducible refine (grammar_Canonical.calls kj2 _ _ t513 true _ ?side1 ?side2 A23.out (Go.Proofs.YthghblmffdfbaaaGreatDoor.Gp.TopU.below HL.out pB)).mono ?_); (case side1 => repeat (first | exact (Kd.R_reads' HO516.out).2.2 | (with_reducible refine Kd.C_alloc ?_ _) | (with_reducible refine Kd.C_drewN ?_ _) | (with_reducible refine Kd.C_drew ?_))); (case side2 => exact (Kd.R_reads' HO516.out).2.1); rintro e w27 ⟨rfl, hb⟩; have n0_ := Aside0.mk (Kd.R_below (pR HO516) hb); have n1_ := Aside0.mk (Kd.R_below (pR HO520) hb); have n2_ := Aside0.mk (Kd.R_below (pR HO524) hb); have n3_ := Aside0.mk (below_step pB hb); clear HO516; clear HO520; clear HO524; clear HB; have HO516 := n0_; have HO520 := n1_; have HO524 := n2_; have HB := n3_; clear n0_ n1_ n2_ n3_; (try clear hb); (try clear hb2); (try clear hk); (try clear hi)))
                  go_meet
                  case rel => exact ⟨_, (decide ((t513.length : Int) > (wrap64 ((wrap64 ((l0.length : Int) + (wrap64 ((l0.length : Int) / 8)))) + 2)))), (by first | rfl | (simp; done) | (simp [*]; done)), H', ⟨by have := HJ2.out; first | omega | exact Nat.le_refl _⟩, ⟨by (with_reducible repeat (first | apply Kd.R_alloc | apply Kd.R_drewN | apply Kd.R_drew)); exact Kd.R_mono HO524.out (fun _ hk => trivial)⟩, ⟨pB⟩⟩
                · replace c24 := Bool.eq_false_iff.mpr c24
                  subst c24
                  have H1 : (capnptop_WholePack.j1 kj2 l0 a1 t521 t522 true) = some r := by rw [if_neg (show ¬ (false = true) by decide)] at H; exact H
                  clear H
                  have H := H1
                  clear H1
                  have H' := Aside0.mk H
                  clear H
                  obtain ⟨Ao28, co28, eo28⟩ := Kd.R_slice HO520.out
                  subst eo28
                  go_wp2_with (first | (go_at_call 12; (with_reducible refine (grammar_Accepts.calls kj2 _ _ t513 _ _ t517 true _ ?side1 ?side2 ?side3 ?side4 A21.out (Go.Proofs.YthghblmffdfbaaaGreatDoor.Gp.TopU.below HL.out pB)).mono ?_); (case side1 => repeat (first | exact (Kd.R_reads' HO516.out).2.2 | (with_reducible refine Kd.C_alloc ?_ _) | (with_reducible refine Kd.C_drewN ?_ _) | (with_reducible refine Kd.C_drew ?_))); (case side2 => exact (Kd.R_reads' HO516.out).2.1); (case side3 => repeat (first | exact (Kd.R_reads' HO520.out).2.2 | (with_reducible refine Kd.C_alloc ?_ _) | (with_reducible refine Kd.C_drewN ?_ _) | (with_reducible refine Kd.C_drew ?_))); (case side4 => exact (Kd.R_reads' HO520.out).2.1); rintro e w29 ⟨rfl, hb⟩; have n0_ := Aside0.mk (Kd.R_below (pR HO516) hb); have n1_ := Aside0.mk (Kd.R_below (pR HO520) hb); have n2_ := Aside0.mk (Kd.R_below (pR HO524) hb); have n3_ := Aside0.mk (below_step pB hb); clear HO516; clear HO520; clear HO524; clear HB; have HO516 := n0_; have HO520 := n1_; have HO524 := n2_; have HB := n3_; clear n0_ n1_ n2_ n3_; (try clear hb); (try clear hb2); (try clear hk); (try clear hi)) | (go_at_call 13; (with_reducible refine (grammar_Canonical.calls kj2 _ _ t513 false _ ?side1 ?side2 A23.out (Go.Proofs.YthghblmffdfbaaaGreatDoor.Gp.TopU.below HL.out pB)).mono ?_); (case side1 => repeat (first | exact (Kd.R_reads' HO516.out).2.2 | (with_reducible refine Kd.C_alloc ?_ _) | (with_reducible refine Kd.C_drewN ?_ _) | (with_reducible refine Kd.C_drew ?_))); (case side2 => exact (Kd.R_reads' HO516.out).2.1); rintro e w30 ⟨rfl, hb⟩; have n0_ := Aside0.mk (Kd.R_below (pR HO516) hb); have n1_ := Aside0.mk (Kd.R_below (pR HO520) hb); have n2_ := Aside0.mk (Kd.R_below (pR HO524) hb); have n3_ := Aside0.mk (below_step pB hb); clear HO516; clear HO520; clear HO524; clear HB; have HO516 := n0_; have HO520 := n1_; have HO524 := n2_; have HB := n3_; clear n0_ n1_ n2_ n3_; (try clear hb); (try clear hb2); (try clear hk); (try clear hi)))
                  go_meet
                  case rel => exact ⟨_, (true), (by first | rfl | (simp; done) | (simp [*]; done)), H', ⟨by have := HJ2.out; first | omega | exact Nat.le_refl _⟩, ⟨by (with_reducible repeat (first | apply Kd.R_alloc | apply Kd.R_drewN | apply Kd.R_drew)); exact Kd.R_mono HO524.out (fun _ hk => trivial)⟩, ⟨pB⟩⟩
              · replace c22 := Bool.eq_false_iff.mpr c22
                subst c22
                have H1 : (capnptop_WholePack.j1 kj2 l0 a1 t521 t522 true) = some r := by rw [if_neg (show ¬ (false = true) by decide)] at H; exact H
                clear H
                have H := H1
                clear H1
                have H' := Aside0.mk H
                clear H
                obtain ⟨Ao31, co31, eo31⟩ := Kd.R_slice HO520.out
                subst eo31
                go_wp2_with (first | (go_at_call 12; (with_reducible refine (grammar_Accepts.calls kj2 _ _ t513 _ _ t517 false _ ?side1 ?side2 ?side3 ?side4 A21.out (Go.Proofs.YthghblmffdfbaaaGreatDoor.Gp.TopU.below HL.out pB)).mono ?_); (case side1 => repeat (first | exact (Kd.R_reads' HO516.out).2.2 | (with_reducible refine Kd.C_alloc ?_ _) | (with_reducible refine Kd.C_drewN ?_ _) | (with_reducible refine Kd.C_drew ?_))); (case side2 => exact (Kd.R_reads' HO516.out).2.1); (case side3 => repeat (first | exact (Kd.R_reads' HO520.out).2.2 | (with_reducible refine Kd.C_alloc ?_ _) | (with_reducible refine Kd.C_drewN ?_ _) | (with_reducible refine Kd.C_drew ?_))); (case side4 => exact (Kd.R_reads' HO520.out).2.1); rintro e w32 ⟨rfl, hb⟩; have n0_ := Aside0.mk (Kd.R_below (pR HO516) hb); have n1_ := Aside0.mk (Kd.R_below (pR HO520) hb); have n2_ := Aside0.mk (Kd.R_below (pR HO524) hb); have n3_ := Aside0.mk (below_step pB hb); clear HO516; clear HO520; clear HO524; clear HB; have HO516 := n0_; have HO520 := n1_; have HO524 := n2_; have HB := n3_; clear n0_ n1_ n2_ n3_; (try clear hb); (try clear hb2); (try clear hk); (try clear hi)))
                go_meet
                case rel => exact ⟨_, (true), (by first | rfl | (simp; done) | (simp [*]; done)), H', ⟨by have := HJ2.out; first | omega | exact Nat.le_refl _⟩, ⟨by (with_reducible repeat (first | apply Kd.R_alloc | apply Kd.R_drewN | apply Kd.R_drew)); exact Kd.R_mono HO524.out (fun _ hk => trivial)⟩, ⟨pB⟩⟩
            · rw [if_neg c20] at H
              have c20b0 : (t514 == 0) = false := beq_eq_false_iff_ne.mpr c20
              have c20b1 : (t514 != 0) = true := bne_iff_ne.mpr c20
              (first | rw [c20b0] | (simp only [i64_w, i32_w]; rw [c20b0]) | skip)
              have H' := Aside0.mk H
              clear H
              go_wp2
              go_meet
              case rel => exact ⟨_, (true), (by first | rfl | (simp; done) | (simp [*]; done)), H', ⟨by have := HJ2.out; first | omega | exact Nat.le_refl _⟩, ⟨by (with_reducible repeat (first | apply Kd.R_alloc | apply Kd.R_drewN | apply Kd.R_drew)); exact Kd.R_mono HO524.out (fun _ hk => trivial)⟩, ⟨pB⟩⟩
          case rest =>
            clear HC15
            try clear c1
            try clear c2
            try clear p2
            try clear c3
            try clear c5
            try clear p6
            try clear c8
            try clear c9
            try clear c10
            try clear c11
            try clear c13
            try clear c20
            try clear c20b0
            try clear c20b1
            try clear c22
            try clear c24
            try clear p2
            obtain ⟨kq, x68_14, rfl, HA, HJ14, HO_9, HB⟩ := hcut
            cases kq with
            | zero => exact absurd HA.out (by simp [capnptop_WholePack.j1])
            | succ kj14 =>
              have H := HA.out
              clear HA
              simp only [capnptop_WholePack.j1] at H
              by_cases c33 : x68_14 = true
              · subst c33
                have H1 : (some false) = some r := by rw [if_pos rfl] at H; exact H
                clear H
                have H := H1
                clear H1
                obtain rfl := Option.some.inj H
                go_wp2
                go_ret
                exact ⟨by first | rfl | (simp [errW_none, errW_some] <;> rfl) | (simp [*, errW_none, errW_some] <;> rfl), pB⟩
              · replace c33 := Bool.eq_false_iff.mpr c33
                subst c33
                have H1 : (if a1 ≥ (l0.length : Int) then (if t522 = 0 then ((capnpref01_Same.f kj14 t521 l0).bind fun t527 => (some t527)) else (none)) else (if (t521.length : Int) = 0 then (if t522 = 11 then (some true) else (if (l0.length : Int) = 0 then (some (t522 == 0)) else (some false))) else (some false))) = some r := by rw [if_neg (show ¬ (false = true) by decide)] at H; exact H
                clear H
                have H := H1
                clear H1
                by_cases c34 : a1 ≥ (l0.length : Int)
                · rw [if_pos c34] at H
                  have c34b0 : decide ((l0.length : Int) ≤ a1) = true := decide_eq_true c34
                  clear c34
                  by_cases c35 : t522 = 0
                  · rw [if_pos c35] at H
                    have c35b0 : (t522 == 0) = true := beq_iff_eq.mpr c35
                    have c35b1 : (t522 != 0) = false := bne_eq_false_iff_eq.mpr c35
                    clear c35
                    replace H := Option.bind_eq_some_iff.mp H
                    obtain ⟨t527, A360, H⟩ := H
                    replace H : (some t527) = some r := H
                    have A36 := Aside0.mk A360
                    clear A360
                    obtain rfl := Option.some.inj H
                    obtain ⟨Ao37, co37, eo37⟩ := Kd.R_slice HO_9.out
                    subst eo37
                    go_wp2_with (first | (go_at_call 14; (with_reducible refine (capnpref01_Same.calls kj14 _ _ t521 _ _ l0 t527 _ ?side1 ?side2 ?side3 ?side4 A36.out).mono ?_); (case side1 => repeat (first | exact (Kd.R_reads' HO_9.out).2.2 | (with_reducible refine Kd.C_alloc ?_ _) | (with_reducible refine Kd.C_drewN ?_ _) | (with_reducible refine Kd.C_drew ?_))); (case side2 => exact (Kd.R_reads' HO_9.out).2.1); (case side3 => repeat (first | exact (Kd.C_below HR0.out HB.out) | (with_reducible refine Kd.C_alloc ?_ _) | (with_reducible refine Kd.C_drewN ?_ _) | (with_reducible refine Kd.C_drew ?_))); (case side4 => exact HC0.out); rintro e w' ⟨rfl, ⟨nd, rfl⟩⟩))
                    go_ret
                    exact ⟨by first | rfl | (simp [errW_none, errW_some] <;> rfl) | (simp [*, errW_none, errW_some] <;> rfl), pB⟩
                  · rw [if_neg c35] at H
                    exact absurd H (by simp)
                · rw [if_neg c34] at H
                  have c34b0 : decide ((l0.length : Int) ≤ a1) = false := decide_eq_false c34
                  clear c34
                  by_cases c38 : (t521.length : Int) = 0
                  · rw [if_pos c38] at H
                    have c38b0 : ((t521.length : Int) == 0) = true := beq_iff_eq.mpr c38
                    have c38b1 : ((t521.length : Int) != 0) = false := bne_eq_false_iff_eq.mpr c38
                    clear c38
                    by_cases c39 : t522 = 11
                    · rw [if_pos c39] at H
                      have c39b0 : (t522 == 11) = true := beq_iff_eq.mpr c39
                      have c39b1 : (t522 != 11) = false := bne_eq_false_iff_eq.mpr c39
                      clear c39
                      obtain rfl := Option.some.inj H
                      obtain ⟨Ao40, co40, eo40⟩ := Kd.R_slice HO_9.out
                      subst eo40
                      go_wp2
                      go_ret
                      exact ⟨by first | rfl | (simp [errW_none, errW_some] <;> rfl) | (simp [*, errW_none, errW_some] <;> rfl), pB⟩
                    · rw [if_neg c39] at H
                      have c39b0 : (t522 == 11) = false := beq_eq_false_iff_ne.mpr c39
                      have c39b1 : (t522 != 11) = true := bne_iff_ne.mpr c39
                      by_cases c41 : (l0.length : Int) = 0
                      · rw [if_pos c41] at H
                        have c41b0 : ((l0.length : Int) == 0) = true := beq_iff_eq.mpr c41
                        have c41b1 : ((l0.length : Int) != 0) = false := bne_eq_false_iff_eq.mpr c41
                        clear c41
                        obtain rfl := Option.some.inj H
                        obtain ⟨Ao42, co42, eo42⟩ := Kd.R_slice HO_9.out
                        subst eo42
                        go_wp2
                        go_ret
                        exact ⟨by first | rfl | (simp [errW_none, errW_some] <;> rfl) | (simp [*, errW_none, errW_some] <;> rfl), pB⟩
                      · rw [if_neg c41] at H
                        have c41b0 : ((l0.length : Int) == 0) = false := beq_eq_false_iff_ne.mpr c41
                        have c41b1 : ((l0.length : Int) != 0) = true := bne_iff_ne.mpr c41
                        have c41b2 : ¬ (l0 = []) := fun h_ => c41 (by rw [h_]; rfl)
                        obtain rfl := Option.some.inj H
                        obtain ⟨Ao43, co43, eo43⟩ := Kd.R_slice HO_9.out
                        subst eo43
                        go_wp2
                        go_ret
                        exact ⟨by first | rfl | (simp [errW_none, errW_some] <;> rfl) | (simp [*, errW_none, errW_some] <;> rfl), pB⟩
                  · rw [if_neg c38] at H
                    have c38b0 : ((t521.length : Int) == 0) = false := beq_eq_false_iff_ne.mpr c38
                    have c38b1 : ((t521.length : Int) != 0) = true := bne_iff_ne.mpr c38
                    have c38b2 : ¬ (t521 = []) := fun h_ => c38 (by rw [h_]; rfl)
                    obtain rfl := Option.some.inj H
                    obtain ⟨Ao44, co44, eo44⟩ := Kd.R_slice HO_9.out
                    subst eo44
                    go_wp2
                    go_ret
                    exact ⟨by first | rfl | (simp [errW_none, errW_some] <;> rfl) | (simp [*, errW_none, errW_some] <;> rfl), pB⟩
        · replace c13 := Bool.eq_false_iff.mpr c13
          subst c13
          have H1 : (if t514 = 9 then (some ((t513.length : Int) == 0)) else (none)) = some r := by rw [if_neg (show ¬ (false = true) by decide)] at H; exact H
          clear H
          have H := H1
          clear H1
          by_cases c45 : t514 = 9
          · rw [if_pos c45] at H
            have c45b0 : (t514 == 9) = true := beq_iff_eq.mpr c45
            have c45b1 : (t514 != 9) = false := bne_eq_false_iff_eq.mpr c45
            clear c45
            obtain rfl := Option.some.inj H
            go_wp2_with (first | ((with_reducible refine gate_callee (f := 9) rfl ?_); refine goesL_ (some 21) rfl rfl Tryz.func9 (by kernel_rfl) rfl #[.slice A0 l0.length c0] rfl pM ?_; (with_reducible refine (pack_Bytes.calls kj2 _ _ l0 t513 t514 _ ?side1 ?side2 A11.out).mono ?_); (case side1 => repeat (first | exact (Kd.C_below HR0.out HB.out) | (with_reducible refine Kd.C_alloc ?_ _) | (with_reducible refine Kd.C_drewN ?_ _) | (with_reducible refine Kd.C_drew ?_))); (case side2 => exact HC0.out); rintro e w46 ⟨v515, rfl, ho0, hb⟩; refine ⟨_, rfl, ?_⟩; have n0_ := Aside0.mk (Kd.R_lower ho0 (below_size pB)); have n1_ := Aside0.mk (below_step pB hb); clear HB; have HO516 := n0_; have HB := n1_; clear n0_ n1_; (try clear hb); (try clear hb2); (try clear hk); (try clear hi); (try clear ho0)) | ((with_reducible refine gate_callee (f := 10) rfl ?_); refine goesL_ (some 26) rfl rfl Tryz.func10 (by kernel_rfl) rfl #[.slice A0 l0.length c0] rfl pM ?_; (with_reducible refine (capnpref01_Words.calls kj2 _ _ l0 t517 false _ ?side1 ?side2 A12.out).mono ?_); (case side1 => repeat (first | exact (Kd.C_below HR0.out HB.out) | (with_reducible refine Kd.C_alloc ?_ _) | (with_reducible refine Kd.C_drewN ?_ _) | (with_reducible refine Kd.C_drew ?_))); (case side2 => exact HC0.out); rintro e w47 ⟨v519, rfl, ho0, hb⟩; refine ⟨_, rfl, ?_⟩; have n0_ := Aside0.mk (Kd.R_below (pR HO516) hb); have n1_ := Aside0.mk (Kd.R_lower ho0 (below_size pB)); have n2_ := Aside0.mk (below_step pB hb); clear HO516; clear HB; have HO516 := n0_; have HO520 := n1_; have HB := n2_; clear n0_ n1_ n2_; (try clear hb); (try clear hb2); (try clear hk); (try clear hi); (try clear ho0); obtain ⟨Ao48, co48, eo48⟩ := Kd.R_slice HO516.out; subst eo48))
            go_ret
            exact ⟨by first | rfl | (simp [errW_none, errW_some] <;> rfl) | (simp [*, errW_none, errW_some] <;> rfl), pB⟩
          · rw [if_neg c45] at H
            exact absurd H (by simp)
def capnptop_WholePack.Pure : Prop := ∀ (l0 : List Int) (a1 : Int), l0.length ≤ maxLen → l0.length * 1 ≤ 140737488351232 → (∀ x ∈ l0, (Lit.int .u8 x).wf = true) → (Lit.int .i64 a1).wf = true → ∃ k, capnptop_WholePack.f k l0 a1 = some true
theorem capnptop_WholePack.walk (P : capnptop_WholePack.Pure) (a0 : Option Addr) (len0 cap0 : Nat) (z0 : List Int) (a1 : Int) (w : World) (w0 : (a0 = none ∧ len0 = 0 ∧ cap0 = 0 ∧ z0 = []) ∨ ∃ x, a0 = some x ∧ len0 ≤ cap0 ∧ cap0 ≤ maxLen ∧ z0.length = cap0 ∧ (∀ i, i < z0.length → w.cell? (x.add i) = some (.int .u8 (z0.getD i 0))) ∧ ∀ n ∈ z0, (Lit.int .u8 n).wf = true) (y0 : len0 * 1 ≤ 140737488351232) (w1 : (Lit.int .i64 a1).wf = true) (hL : Go.Proofs.YthghblmffdfbaaaGreatDoor.Gp.TopU w) :
    Calls Tryz.prog 3 #[.slice a0 len0 cap0, .int .i64 a1] w fun e w' => e = .returned (.bool true) ∧ Below w.heap.size w w' := by
  obtain ⟨l0, rfl, hr0, hm0, hw0, hc0⟩ := ReadsInt.ofRowC w0
  obtain ⟨k, h⟩ := P l0 a1 hm0 y0 hw0 w1
  refine (capnptop_WholePack.calls k _ _ l0 a1 true w (Kd.C_of_reads (d := (0 : Int)) (h1 := fun _ => rfl) hr0) hc0 h hL).mono ?_
  rintro e w' ⟨rfl, hd⟩
  exact ⟨rfl, hd⟩
end Go.Proofs.YthghblmffdfbaaaGreatDoor.PWholePack
