/- Printed functions of a law, and their walks. -/
import Derived.Test.YthghblmffdfbaaaGreatDoorXShortH
import Derived.Test.YthghblmffdfbaaaGreatDoorPWholePackx2H
import Derived.Test.YthghblmffdfbaaaGreatDoorPWholePackx8H
namespace Go.Proofs.YthghblmffdfbaaaGreatDoor.PWholePack
open Go.RowKit Go.Proofs.YthghblmffdfbaaaGreatDoorW.PrintWords Go.Proofs.YthghblmffdfbaaaGreatDoorW.PrintLast Go.Proofs.YthghblmffdfbaaaGreatDoorW.PrintMore
open Go.Proofs.YthghblmffdfbaaaGreatDoor.PFrBase
open Go.Proofs.YthghblmffdfbaaaGreatDoor.PUnBase (bits_OnesCount8.f bits_OnesCount8.calls tagbyte_Ones.f tagbyte_Ones.calls)
open Go.Proofs.YthghblmffdfbaaaGreatDoor.POfBase (tagbyte_Of.f tagbyte_Of.calls tagbyte_Of.mono tagbyte_Of.mono_l)
attribute [local go_sem] max2_int min2_int max_two min_two max_three min_three max_four min_four   -- for this text's walks alone
set_option linter.unusedVariables false
set_option linter.unusedSimpArgs false
set_option maxHeartbeats 8000000
set_option maxRecDepth 100000
def capnpref01_Words.l0 : Nat → List Int → List Int → Int → Option (List Int × Bool)
  | 0, _, _, _ => none
  | k + 1, x0, x4, x5 => if x5 < (wrap64 ((x0.length : Int) / 8)) then ((capnpref01_Get.f k x0 x5).bind fun bt474 => (if x4.length < 17592186044416 then (capnpref01_Words.l0 k x0 (x4 ++ [bt474.1]) (wrap64 (x5 + 1))) else (none))) else (some (x4, true))
def capnpref01_Words.f (k : Nat) (l0 : List Int) : Option (List Int × Bool) := if ((l0.length : Int) % 8) = 0 then (capnpref01_Words.l0 k l0 ([] : List Int) 0) else (some (([] : List Int), false))
theorem capnpref01_Words.calls (k : Nat) (A0 : Option Addr) (c0 : Nat) (l0 : List Int) (r1 : List Int) (r2 : Bool) (w : World) (hr0 : Kd.C (Kd.int .u8) w A0 l0.length l0) (hc0 : l0.length ≤ c0) (h : capnpref01_Words.f k l0 = some (r1, r2)) :
    Calls Tryz.prog 10 #[.slice A0 l0.length c0] w fun e w' => ∃ v0_ : Value, e = .returned (.tuple #[v0_, .bool r2]) ∧ Kd.R (Kd.int .u64) 61 w' w.heap.size (fun _ => True) v0_ r1 ∧ Below w.heap.size w w' := by
  have HR0 := Aside0.mk hr0
  have HC0 := Aside0.mk hc0
  clear hr0 hc0
  have HB := Aside0.mk (Below.refl w.heap.size w)
  have H : (if ((l0.length : Int) % 8) = 0 then (capnpref01_Words.l0 k l0 ([] : List Int) 0) else (some (([] : List Int), false))) = some (r1, r2) := h
  clear h
  by_cases c2 : ((l0.length : Int) % 8) = 0
  · rw [if_pos c2] at H
    have c2b0 : (((l0.length : Int) % 8) == 0) = true := beq_iff_eq.mpr c2
    have c2b1 : (((l0.length : Int) % 8) != 0) = false := bne_eq_false_iff_eq.mpr c2
    clear c2
    have H' := Aside0.mk H
    clear H
    go_enter Tryz.func10, Tryz.ntmps10
    go_wp2
    go_loopg [4, 5] k (fun kq v4 v5 w' => ∃ (x4_1 : List Int) (x5_1 : Int), v5 = .int .i64 x5_1 ∧ Aside0 (capnpref01_Words.l0 kq l0 x4_1 x5_1 = some (r1, r2)) ∧ Aside0 (kq ≤ k) ∧ Aside0 (Kd.R (Kd.int .u64) 61 w' w.heap.size (fun _ => True) v4 x4_1) ∧ Aside0 (Below w.heap.size w w'))
    case atStart => exact ⟨(([] : List Int)), (0), (by first | rfl | (simp; done) | (simp [*]; done)), H', ⟨Nat.le_refl _⟩, ⟨by first | exact Kd.R_nil _ _ _ _ _ | exact Kd.N_nil _ _ _ _ _ | exact Kd.V_nil _ _ _ _ _ | exact Kd.Q_nil _ _ _ _ _ | exact Kd.S_nil _ _ _ _ _⟩, ⟨pB⟩⟩
    case round =>
      clear H'
      try clear c1
      try clear c2
      try clear c2b0
      try clear c2b1
      try clear p2
      obtain ⟨x4_1, x5_1, rfl, HA, HK1, HO_4, HB⟩ := hrel
      cases gk with
      | zero => exact absurd HA.out (by simp [capnpref01_Words.l0])
      | succ k1 =>
        have H := HA.out
        clear HA
        simp only [capnpref01_Words.l0] at H
        by_cases c3 : x5_1 < (wrap64 ((l0.length : Int) / 8))
        · rw [if_pos c3] at H
          have c3b0 : decide (x5_1 < (wrap64 ((l0.length : Int) / 8))) = true := decide_eq_true c3
          clear c3
          replace H := Option.bind_eq_some_iff.mp H
          obtain ⟨⟨t474, t475⟩, A40, H⟩ := H
          replace H : (if x4_1.length < 17592186044416 then (capnpref01_Words.l0 k1 l0 (x4_1 ++ [t474]) (wrap64 (x5_1 + 1))) else (none)) = some (r1, r2) := H
          have A4 := Aside0.mk A40
          clear A40
          by_cases c5 : x4_1.length < 17592186044416
          · rw [if_pos c5] at H
            have LMc5 := Aside0.mk c5
            clear c5
            obtain ⟨y476, hy476⟩ : ∃ y_ : List Int, y_ = (x4_1 ++ [t474]) := ⟨_, rfl⟩
            replace H : (capnpref01_Words.l0 k1 l0 y476 (wrap64 (x5_1 + 1))) = some (r1, r2) := by first | (rw [hy476]; with_reducible exact H) | (have H2_ := (Option.bind_some _ _).symm.trans H; rw [hy476]; with_reducible exact H2_) | (have H2_ := (Option.bind_some _ _).symm.trans H; with_reducible exact H2_) | with_reducible exact H | (rw [hy476]; exact H) | exact H
            have Ny476 := Aside0.mk hy476
            clear hy476
            have H' := Aside0.mk H
            clear H
            go_wp2_with (first | ((with_reducible refine gate_callee (f := 32) rfl ?_); refine goesL_ (some 22) rfl rfl Tryz.func32 (by kernel_rfl) rfl #[.slice A0 l0.length c0, .int .i64 x5_1] rfl pM ?_; (with_reducible refine (capnpref01_Get.calls k1 _ _ l0 x5_1 t474 t475 _ ?side1 ?side2 A4.out).mono ?_); (case side1 => repeat (first | exact (Kd.C_below HR0.out HB.out) | (with_reducible refine Kd.C_alloc ?_ _) | (with_reducible refine Kd.C_drewN ?_ _) | (with_reducible refine Kd.C_drew ?_))); (case side2 => exact HC0.out); rintro e w' ⟨rfl, ⟨nd, rfl⟩⟩; refine ⟨_, rfl, ?_⟩) | ((with_reducible refine gate_builtin (b := .append) (xs := #[.tmp 25, .tmp 27]) rfl ?_); at_builtin; refine Kd.R_append (Kd.int .u64) (w0 := w) w.heap.size rfl (.tmp 25) (.tmp 27) 27 61 (.int .u64 0) 8 rfl Tryz.underlying27 info61 rfl (by decide) (by omega) u4 x4_1 t474 [.int .u64 t474] (fun _ => True) (fun _ => False) rfl rfl ?aP (fun _ hk => hk.elim) ?aF ?aO ?aB ?aS ?aL ?_; (case aP => exact rfl); (case aB => exact pB); (case aF => exact (fun _ _ => trivial)); (case aO => exact (pR HO_4)); (case aS => exact (below_size pB)); (case aL => have := LMc5.out; omega); intro v477 w6 ho hb hg hat; rw [← Ny476.out] at ho; have n0_ := Aside0.mk (hb); have n1_ := Aside0.mk (ho); clear HB; clear HO_4; have HB := n0_; have HO478 := n1_; clear n0_ n1_; clear ho hb hg hat))
            go_roundg k1
            case measure => have := HK1.out; omega
            case rel => exact ⟨(y476), (wrap64 (x5_1 + 1)), (by first | rfl | (simp; done) | (simp [*]; done)), H', ⟨by have := HK1.out; omega⟩, ⟨pR HO478⟩, ⟨pB⟩⟩
          · rw [if_neg c5] at H
            exact absurd H (by simp)
        · rw [if_neg c3] at H
          have c3b0 : decide (x5_1 < (wrap64 ((l0.length : Int) / 8))) = false := decide_eq_false c3
          clear c3
          simp only [Option.some.injEq, Prod.mk.injEq] at H
          obtain ⟨rfl, rfl⟩ := H
          go_wp2
          go_ret2
          exact ⟨_, by first | rfl | (simp [errW_none, errW_some] <;> rfl) | (simp [*, errW_none, errW_some] <;> rfl), by (with_reducible repeat (first | apply Kd.R_alloc | apply Kd.R_drewN | apply Kd.R_drew)); exact HO_4.out, pB⟩
  · rw [if_neg c2] at H
    have c2b0 : (((l0.length : Int) % 8) == 0) = false := beq_eq_false_iff_ne.mpr c2
    have c2b1 : (((l0.length : Int) % 8) != 0) = true := bne_iff_ne.mpr c2
    simp only [Option.some.injEq, Prod.mk.injEq] at H
    obtain ⟨rfl, rfl⟩ := H
    go_enter Tryz.func10, Tryz.ntmps10
    go_wp2
    go_ret2
    exact ⟨_, by first | rfl | (simp [errW_none, errW_some] <;> rfl) | (simp [*, errW_none, errW_some] <;> rfl), by first | exact Kd.R_nil _ _ _ _ _ | exact Kd.N_nil _ _ _ _ _ | exact Kd.V_nil _ _ _ _ _ | exact Kd.Q_nil _ _ _ _ _ | exact Kd.S_nil _ _ _ _ _, pB⟩
def grammar_Accepts.f (k : Nat) (l0 : List Int) (l1 : List Int) : Option (Bool) := (unpack_Bytes.f l0 (wrap64 (8 * (l1.length : Int)))).bind fun bt479 => (if bt479.2 = 0 then ((word_Bytes.f k l1).bind fun t483 => (some ((strOfNums bt479.1).toList == (strOfNums t483).toList))) else (some false))
def grammar_Accepts.T2 : Bool × List (List Nat × List Nat) := (true, [([], []), ([0], [0]), ([1], [1]), ([2], [2]), ([3, 2], [2, 3]), ([2], [2]), ([5, 2, 2], [2, 5]), ([6, 2], [2, 6]), ([4, 7, 2], [2, 4, 7]), ([2, 8], [2, 8]), ([9, 6, 0, 1, 2, 3, 4, 5, 6, 7, 8, 9], [9])])
def grammar_Accepts.B2 : List Nat := [0, 1, 3, 7, 15, 7, 39, 103, 255, 511, 1023]
theorem grammar_Accepts.tab2 : rtab .any (opsOf Tryz.f12 2) = grammar_Accepts.T2 := by kernel_rfl
theorem grammar_Accepts.bits2 : waitsOk grammar_Accepts.T2.2 grammar_Accepts.B2 = true := by kernel_rfl
theorem grammar_Accepts.calls (k : Nat) (A0 : Option Addr) (c0 : Nat) (l0 : List Int) (A1 : Option Addr) (c1 : Nat) (l1 : List Int) (r : Bool) (w : World) (hr0 : Kd.C (Kd.int .u8) w A0 l0.length l0) (hc0 : l0.length ≤ c0) (hr1 : Kd.C (Kd.int .u64) w A1 l1.length l1) (hc1 : l1.length ≤ c1) (h : grammar_Accepts.f k l0 l1 = some r) (hL : Go.Proofs.YthghblmffdfbaaaGreatDoor.Gp.TopU w) :
    Calls Tryz.prog 12 #[.slice A0 l0.length c0, .slice A1 l1.length c1] w fun e w' => e = .returned (.bool r) ∧ Below w.heap.size w w' := by
  have HL := Aside0.mk hL
  clear hL
  have HR0 := Aside0.mk hr0
  have HC0 := Aside0.mk hc0
  clear hr0 hc0
  have HR1 := Aside0.mk hr1
  have HC1 := Aside0.mk hc1
  clear hr1 hc1
  have HB := Aside0.mk (Below.refl w.heap.size w)
  have H : ((unpack_Bytes.f l0 (wrap64 (8 * (l1.length : Int)))).bind fun bt479 => (if bt479.2 = 0 then ((word_Bytes.f k l1).bind fun t483 => (some ((strOfNums bt479.1).toList == (strOfNums t483).toList))) else (some false))) = some r := h
  clear h
  replace H := Option.bind_eq_some_iff.mp H
  obtain ⟨⟨t479, t480⟩, A30, H⟩ := H
  replace H : (if t480 = 0 then ((word_Bytes.f k l1).bind fun t483 => (some ((strOfNums t479).toList == (strOfNums t483).toList))) else (some false)) = some r := H
  have A3 := Aside0.mk A30
  clear A30
  by_cases c4 : t480 = 0
  · rw [if_pos c4] at H
    have c4b0 : (t480 == 0) = true := beq_iff_eq.mpr c4
    have c4b1 : (t480 != 0) = false := bne_eq_false_iff_eq.mpr c4
    clear c4
    replace H := Option.bind_eq_some_iff.mp H
    obtain ⟨t483, A50, H⟩ := H
    replace H : (some ((strOfNums t479).toList == (strOfNums t483).toList)) = some r := H
    have A5 := Aside0.mk A50
    clear A50
    obtain rfl := Option.some.inj H
    go_enter Tryz.func12, Tryz.ntmps12
    try go_wp2_with (first | ((with_reducible refine gate_callee (f := 11) rfl ?_); refine goesL_ (some 12) rfl rfl Tryz.func11 (by kernel_rfl) rfl #[.slice A0 l0.length c0, .int .i64 (wrap64 (8 * (l1.length : Int)))] rfl pM ?_; (with_reducible refine (unpack_Bytes.calls _ _ l0 (wrap64 (8 * (l1.length : Int))) t479 t480 _ ?side1 ?side2 A3.out (Go.Proofs.YthghblmffdfbaaaGreatDoor.Gp.TopU.below HL.out pB)).mono ?_); (case side1 => repeat (first | exact HR0.out | (with_reducible refine Kd.C_alloc ?_ _) | (with_reducible refine Kd.C_drewN ?_ _) | (with_reducible refine Kd.C_drew ?_))); (case side2 => exact HC0.out); rintro e w6 ⟨v481, rfl, ho0, hb⟩; refine ⟨_, rfl, ?_⟩; have n0_ := Aside0.mk (Kd.R_lower ho0 (below_size pB)); have n1_ := Aside0.mk (below_step pB hb); clear HB; have HO482 := n0_; have HB := n1_; clear n0_ n1_; (try clear hb); (try clear hb2); (try clear hk); (try clear hi); (try clear ho0)))
    have n0_ := Aside0.mk (Kd.R_drew HO482.out)
    have n1_ := Aside0.mk (below_drew1 HB.out)
    clear HO482
    clear HB
    have HO482 := n0_
    have HB := n1_
    clear n0_ n1_
    have hcv8 := own_string (P := Tryz.prog) Tryz.underlying22 Tryz.underlying5 Tryz.underlying9 (Kd.own_of_R HO482.out)
    refine start_ (n := 11) (S := fun w' => Sem.run Tryz.prog (convert 22 9 v481) w' = Result.ok (Value.string (strOfNums t479)) w') (ds := []) #[false, false, false, false, false, false, false, false, false, false, false] (by kernel_rfl) rfl rfl hcv8 (fun hHeld => ?_); refine with_tabW grammar_Accepts.tab2 grammar_Accepts.bits2 (fun HT_ HW_ => ?_)
    generalize w6.drew = w7 at HO482 HB hHeld ⊢
    refine pure_ (i := 0) (N := some 15) (v := ?_) (a' := ?_) #[true, false, false, false, false, false, false, false, false, false, false] rfl rfl (any_of HT_.out (by kernel_rfl)) (fun _ _ _ h => h) (Or.inl ⟨by rfl, ?_⟩) ?_ ?_
    rotate_left
    · intro w'
      go_simp
      with_reducible rfl
    rotate_left
    · simp only [Act.put, List.setIfInBounds_toArray, List.set_cons_zero, List.set_cons_succ, i64_w, i32_w]
      rfl
    refine pure_ (i := 1) (N := some 16) (v := ?_) (a' := ?_) #[true, true, false, false, false, false, false, false, false, false, false] rfl rfl (any_of HT_.out (by kernel_rfl)) (fun _ _ _ h => h) (Or.inl ⟨by rfl, ?_⟩) ?_ ?_
    rotate_left
    · intro w'
      go_simp
      with_reducible rfl
    rotate_left
    · simp only [Act.put, List.setIfInBounds_toArray, List.set_cons_zero, List.set_cons_succ, i64_w, i32_w]
      rfl
    refine pure_ (i := 2) (N := some 17) (v := ?_) (a' := ?_) #[true, true, true, false, false, false, false, false, false, false, false] rfl rfl (any_of HT_.out (by kernel_rfl)) (fun _ _ _ h => h) (Or.inl ⟨by rfl, ?_⟩) ?_ ?_
    rotate_left
    · intro w'
      go_simp
      with_reducible rfl
    rotate_left
    · simp only [Act.put, List.setIfInBounds_toArray, List.set_cons_zero, List.set_cons_succ, i64_w, i32_w]
      rfl
    refine pure_ (i := 3) (N := some 18) (v := ?_) (a' := ?_) #[true, true, true, true, false, false, false, false, false, false, false] rfl rfl (any_of HT_.out (by kernel_rfl)) (fun _ _ _ h => h) (Or.inl ⟨by rfl, ?_⟩) ?_ ?_
    rotate_left
    · intro w'
      go_simp
      with_reducible rfl
    rotate_left
    · simp only [Act.put, List.setIfInBounds_toArray, List.set_cons_zero, List.set_cons_succ, i64_w, i32_w]
      rfl
    refine take_ (i := 4) (N := some 19) (v := ?_) (a' := ?_) #[true, true, true, true, true, false, false, false, false, false, false] rfl rfl (take_ofW HT_.out HW_.out (by kernel_rfl)) (fun _ _ _ h => h) (Or.inl ⟨by rfl, ?_⟩) hHeld ?_ ?_
    rotate_left
    · intro w' s0_
      go_simp
      with_reducible rfl
    rotate_left
    · simp only [Act.put, List.setIfInBounds_toArray, List.set_cons_zero, List.set_cons_succ, i64_w, i32_w]
      rfl
    refine pure_ (i := 5) (N := some 20) (v := ?_) (a' := ?_) #[true, true, true, true, true, true, false, false, false, false, false] rfl rfl (any_of HT_.out (by kernel_rfl)) (fun _ _ _ h => h) (Or.inl ⟨by rfl, ?_⟩) ?_ ?_
    rotate_left
    · intro w'
      go_simp
      with_reducible rfl
    rotate_left
    · simp only [Act.put, List.setIfInBounds_toArray, List.set_cons_zero, List.set_cons_succ, i64_w, i32_w]
      rfl
    refine one_ (i := 6) (N := some 21) #[true, true, true, true, true, true, true, false, false, false, false] rfl rfl (one_of HT_.out (by kernel_rfl)) (by decide) (fun K hK => ?_)
    refine goes_ Tryz.func34 (by kernel_rfl) rfl #[.slice A1 l1.length c1] (by rfl) rfl rfl pM ?_
    with_reducible refine (word_Bytes.calls k _ _ l1 t483 _ ?side1 ?side2 A5.out).mono ?_
    (case side1 => repeat (first | exact (Kd.C_below HR1.out HB.out) | (with_reducible refine Kd.C_alloc ?_ _) | (with_reducible refine Kd.C_drewN ?_ _) | (with_reducible refine Kd.C_drew ?_)))
    (case side2 => exact HC1.out)
    rintro e w9 ⟨v484, rfl, ho0, hb⟩
    refine ⟨_, rfl, ?_⟩
    have n0_ := Aside0.mk (Kd.R_elder' (pR HO482) (Kd.R_base ho0) hb)
    have n1_ := Aside0.mk (Kd.R_lower (Kd.R_new' ho0 (Kd.R_lt (pR HO482))) (below_size pB))
    have n2_ := Aside0.mk (below_step pB hb)
    clear HO482
    clear HB
    have HO482 := n0_
    have HO485 := n1_
    have HB := n2_
    clear n0_ n1_ n2_
    (try clear hb)
    (try clear hb2)
    (try clear hk)
    (try clear hi)
    (try clear ho0)
    refine hK.out _ _ (own_string (P := Tryz.prog) Tryz.underlying22 Tryz.underlying5 Tryz.underlying9 (Kd.own_of_R HO482.out)) (fun hHeld => ?_)
    clear hK K
    refine norm_ (a' := ?_) ?_ ?_
    rotate_left
    · show Act.put _ (some 21) _ = _
      simp only [Act.put, List.setIfInBounds_toArray, List.set_cons_zero, List.set_cons_succ, i64_w, i32_w]
      rfl
    refine one_ (i := 7) (N := some 22) #[true, true, true, true, true, true, true, true, false, false, false] rfl rfl (one_of HT_.out (by kernel_rfl)) (by decide) (fun K hK => ?_)
    have hcv10 := own_string (P := Tryz.prog) Tryz.underlying22 Tryz.underlying5 Tryz.underlying9 (Kd.own_of_R HO485.out)
    refine value_ (w1 := ?_) (v := ?_) (by rfl) rfl ?_ ?_
    rotate_left 2
    · go_simp
      constructor
      · rfl
      · rfl
    clear hcv10
    refine hK.out _ _ hHeld (fun hHeld => ?_)
    clear hK K
    refine norm_ (a' := ?_) ?_ ?_
    rotate_left
    · show Act.put _ (some 22) _ = _
      simp only [Act.put, List.setIfInBounds_toArray, List.set_cons_zero, List.set_cons_succ, i64_w, i32_w]
      rfl
    refine pure_ (i := 8) (N := some 23) (v := ?_) (a' := ?_) #[true, true, true, true, true, true, true, true, true, false, false] rfl rfl (any_of HT_.out (by kernel_rfl)) (fun _ _ _ h => h) (Or.inl ⟨by rfl, ?_⟩) ?_ ?_
    rotate_left
    · intro w'
      go_simp
      with_reducible rfl
    rotate_left
    · simp only [Act.put, List.setIfInBounds_toArray, List.set_cons_zero, List.set_cons_succ, i64_w, i32_w]
      rfl
    refine pure_ (i := 9) (N := some 24) (v := ?_) (a' := ?_) #[true, true, true, true, true, true, true, true, true, true, false] rfl rfl (any_of HT_.out (by kernel_rfl)) (fun _ _ _ h => h) (Or.inl ⟨by rfl, ?_⟩) ?_ ?_
    rotate_left
    · intro w'
      go_simp
      with_reducible rfl
    rotate_left
    · simp only [Act.put, List.setIfInBounds_toArray, List.set_cons_zero, List.set_cons_succ, i64_w, i32_w]
      rfl
    refine pure_ (i := 10) (N := some 4) (v := ?_) (a' := ?_) #[true, true, true, true, true, true, true, true, true, true, true] rfl rfl (any_of HT_.out (by kernel_rfl)) (fun _ _ _ h => h) (Or.inl ⟨by rfl, ?_⟩) ?_ ?_
    rotate_left
    · intro w'
      go_simp
      with_reducible rfl
    rotate_left
    · simp only [Act.put, List.setIfInBounds_toArray, List.set_cons_zero, List.set_cons_succ, i64_w, i32_w]
      rfl
    refine done_ (done_of HT_.out (by kernel_rfl)) ?_
    try go_wp2
    go_ret
    exact ⟨by first | rfl | (simp [errW_none, errW_some] <;> rfl) | (simp [*, errW_none, errW_some] <;> rfl), pB⟩
  · rw [if_neg c4] at H
    have c4b0 : (t480 == 0) = false := beq_eq_false_iff_ne.mpr c4
    have c4b1 : (t480 != 0) = true := bne_iff_ne.mpr c4
    obtain rfl := Option.some.inj H
    go_enter Tryz.func12, Tryz.ntmps12
    try go_wp2_with (first | ((with_reducible refine gate_callee (f := 11) rfl ?_); refine goesL_ (some 12) rfl rfl Tryz.func11 (by kernel_rfl) rfl #[.slice A0 l0.length c0, .int .i64 (wrap64 (8 * (l1.length : Int)))] rfl pM ?_; (with_reducible refine (unpack_Bytes.calls _ _ l0 (wrap64 (8 * (l1.length : Int))) t479 t480 _ ?side1 ?side2 A3.out (Go.Proofs.YthghblmffdfbaaaGreatDoor.Gp.TopU.below HL.out pB)).mono ?_); (case side1 => repeat (first | exact HR0.out | (with_reducible refine Kd.C_alloc ?_ _) | (with_reducible refine Kd.C_drewN ?_ _) | (with_reducible refine Kd.C_drew ?_))); (case side2 => exact HC0.out); rintro e w12 ⟨v481, rfl, ho0, hb⟩; refine ⟨_, rfl, ?_⟩; have n0_ := Aside0.mk (Kd.R_lower ho0 (below_size pB)); have n1_ := Aside0.mk (below_step pB hb); clear HB; have HO482 := n0_; have HB := n1_; clear n0_ n1_; (try clear hb); (try clear hb2); (try clear hk); (try clear hi); (try clear ho0)))
    have n0_ := Aside0.mk (Kd.R_drew HO482.out)
    have n1_ := Aside0.mk (below_drew1 HB.out)
    clear HO482
    clear HB
    have HO482 := n0_
    have HB := n1_
    clear n0_ n1_
    refine start_ (n := 11) (S := fun w' => True) (ds := []) #[false, false, false, false, false, false, false, false, false, false, false] (by kernel_rfl) rfl rfl trivial (fun hHeld => ?_); refine with_tabW grammar_Accepts.tab2 grammar_Accepts.bits2 (fun HT_ HW_ => ?_)
    generalize w12.drew = w13 at HO482 HB hHeld ⊢
    refine pure_ (i := 0) (N := some 15) (v := ?_) (a' := ?_) #[true, false, false, false, false, false, false, false, false, false, false] rfl rfl (any_of HT_.out (by kernel_rfl)) (fun _ _ _ h => h) (Or.inl ⟨by rfl, ?_⟩) ?_ ?_
    rotate_left
    · intro w'
      go_simp
      with_reducible rfl
    rotate_left
    · simp only [Act.put, List.setIfInBounds_toArray, List.set_cons_zero, List.set_cons_succ, i64_w, i32_w]
      rfl
    refine pure_ (i := 1) (N := some 16) (v := ?_) (a' := ?_) #[true, true, false, false, false, false, false, false, false, false, false] rfl rfl (any_of HT_.out (by kernel_rfl)) (fun _ _ _ h => h) (Or.inl ⟨by rfl, ?_⟩) ?_ ?_
    rotate_left
    · intro w'
      go_simp
      with_reducible rfl
    rotate_left
    · simp only [Act.put, List.setIfInBounds_toArray, List.set_cons_zero, List.set_cons_succ, i64_w, i32_w]
      rfl
    refine pure_ (i := 2) (N := some 17) (v := ?_) (a' := ?_) #[true, true, true, false, false, false, false, false, false, false, false] rfl rfl (any_of HT_.out (by kernel_rfl)) (fun _ _ _ h => h) (Or.inl ⟨by rfl, ?_⟩) ?_ ?_
    rotate_left
    · intro w'
      go_simp
      with_reducible rfl
    rotate_left
    · simp only [Act.put, List.setIfInBounds_toArray, List.set_cons_zero, List.set_cons_succ, i64_w, i32_w]
      rfl
    refine pure_ (i := 3) (N := some 18) (v := undef) (a' := ?_) #[true, true, true, true, false, false, false, false, false, false, false] rfl rfl (any_of HT_.out (by kernel_rfl)) (fun _ _ _ h => h) (Or.inr ⟨by rfl, rfl⟩) ?_ ?_
    rotate_left
    · simp only [Act.put, List.setIfInBounds_toArray, List.set_cons_zero, List.set_cons_succ, i64_w, i32_w]
      rfl
    refine pure_ (i := 4) (N := some 19) (v := undef) (a' := ?_) #[true, true, true, true, true, false, false, false, false, false, false] rfl rfl (any_of HT_.out (by kernel_rfl)) (fun _ _ _ h => h) (Or.inr ⟨by rfl, rfl⟩) ?_ ?_
    rotate_left
    · simp only [Act.put, List.setIfInBounds_toArray, List.set_cons_zero, List.set_cons_succ, i64_w, i32_w]
      rfl
    refine pure_ (i := 5) (N := some 20) (v := undef) (a' := ?_) #[true, true, true, true, true, true, false, false, false, false, false] rfl rfl (any_of HT_.out (by kernel_rfl)) (fun _ _ _ h => h) (Or.inr ⟨by rfl, rfl⟩) ?_ ?_
    rotate_left
    · simp only [Act.put, List.setIfInBounds_toArray, List.set_cons_zero, List.set_cons_succ, i64_w, i32_w]
      rfl
    refine pure_ (i := 6) (N := some 21) (v := undef) (a' := ?_) #[true, true, true, true, true, true, true, false, false, false, false] rfl rfl (any_of HT_.out (by kernel_rfl)) (fun _ _ _ h => h) (Or.inr ⟨by rfl, rfl⟩) ?_ ?_
    rotate_left
    · simp only [Act.put, List.setIfInBounds_toArray, List.set_cons_zero, List.set_cons_succ, i64_w, i32_w]
      rfl
    refine pure_ (i := 7) (N := some 22) (v := undef) (a' := ?_) #[true, true, true, true, true, true, true, true, false, false, false] rfl rfl (any_of HT_.out (by kernel_rfl)) (fun _ _ _ h => h) (Or.inr ⟨by rfl, rfl⟩) ?_ ?_
    rotate_left
    · simp only [Act.put, List.setIfInBounds_toArray, List.set_cons_zero, List.set_cons_succ, i64_w, i32_w]
      rfl
    refine pure_ (i := 8) (N := some 23) (v := undef) (a' := ?_) #[true, true, true, true, true, true, true, true, true, false, false] rfl rfl (any_of HT_.out (by kernel_rfl)) (fun _ _ _ h => h) (Or.inr ⟨by rfl, rfl⟩) ?_ ?_
    rotate_left
    · simp only [Act.put, List.setIfInBounds_toArray, List.set_cons_zero, List.set_cons_succ, i64_w, i32_w]
      rfl
    refine pure_ (i := 9) (N := some 24) (v := ?_) (a' := ?_) #[true, true, true, true, true, true, true, true, true, true, false] rfl rfl (any_of HT_.out (by kernel_rfl)) (fun _ _ _ h => h) (Or.inl ⟨by rfl, ?_⟩) ?_ ?_
    rotate_left
    · intro w'
      go_simp
      with_reducible rfl
    rotate_left
    · simp only [Act.put, List.setIfInBounds_toArray, List.set_cons_zero, List.set_cons_succ, i64_w, i32_w]
      rfl
    refine pure_ (i := 10) (N := some 4) (v := ?_) (a' := ?_) #[true, true, true, true, true, true, true, true, true, true, true] rfl rfl (any_of HT_.out (by kernel_rfl)) (fun _ _ _ h => h) (Or.inl ⟨by rfl, ?_⟩) ?_ ?_
    rotate_left
    · intro w'
      go_simp
      with_reducible rfl
    rotate_left
    · simp only [Act.put, List.setIfInBounds_toArray, List.set_cons_zero, List.set_cons_succ, i64_w, i32_w]
      rfl
    refine done_ (done_of HT_.out (by kernel_rfl)) ?_
    try go_wp2
    go_ret
    exact ⟨by first | rfl | (simp [errW_none, errW_some] <;> rfl) | (simp [*, errW_none, errW_some] <;> rfl), pB⟩
def grammar_group.f (l0 : List Int) : Option (Int × Int × Int × Int × Int × Bool) := Go.Proofs.YthghblmffdfbaaaGreatDoor.Un.grpF l0
theorem grammar_group.calls (A0 : Option Addr) (c0 : Nat) (l0 : List Int) (r1 : Int) (r2 : Int) (r3 : Int) (r4 : Int) (r5 : Int) (r6 : Bool) (w : World) (hr0 : Kd.C (Kd.int .u8) w A0 l0.length l0) (hc0 : l0.length ≤ c0) (h : grammar_group.f l0 = some (r1, r2, r3, r4, r5, r6)) :
    Calls Tryz.prog 63 #[.slice A0 l0.length c0] w fun e w' => e = .returned (.tuple #[.agg #[.int .u8 r1, .int .i64 r2, .int .i64 r3, .int .i64 r4, .int .i64 r5], .bool r6]) ∧ Below w.heap.size w w' := Go.Proofs.YthghblmffdfbaaaGreatDoor.Un.grpF_calls hr0 hc0 h
def grammar_Groups.l0 : Nat → List Int → List (S79) → Int → Int → Option ((List (S79)) × Int)
  | 0, _, _, _, _ => none
  | k + 1, x0, x4, x5, x6 => if x5 < (x0.length : Int) then (if 0 ≤ x5 then (if x5 ≤ (x0.length : Int) then ((grammar_group.f (x0.drop (x5 : Int).toNat)).bind fun bt487 => (if bt487.2.2.2.2.2 = true then (if x4.length < 3518437208883 then (grammar_Groups.l0 k x0 (x4 ++ [(⟨bt487.1, x5, wrap64 (x5 + bt487.2.2.1), x6, bt487.2.2.2.2.1⟩ : S79)]) (wrap64 (x5 + bt487.2.2.1)) (wrap64 (x6 + bt487.2.2.2.2.1))) else (none)) else (some (([] : List (S79)), 10)))) else (none)) else (none)) else (some (x4, 0))
def grammar_Groups.f (k : Nat) (l0 : List Int) : Option ((List (S79)) × Int) := grammar_Groups.l0 k l0 ([] : List (S79)) 0 0
theorem grammar_Groups.calls (k : Nat) (A0 : Option Addr) (c0 : Nat) (l0 : List Int) (r1 : List (S79)) (r2 : Int) (w : World) (hr0 : Kd.C (Kd.int .u8) w A0 l0.length l0) (hc0 : l0.length ≤ c0) (h : grammar_Groups.f k l0 = some (r1, r2)) :
    Calls Tryz.prog 35 #[.slice A0 l0.length c0] w fun e w' => ∃ v0_ : Value, e = .returned (.tuple #[v0_, .int .i64 r2]) ∧ Kd.R k79 79 w' w.heap.size (fun _ => True) v0_ r1 ∧ Below w.heap.size w w' := by
  have hu79 := Tryz.underlying79
  have HR0 := Aside0.mk hr0
  have HC0 := Aside0.mk hc0
  clear hr0 hc0
  have HB := Aside0.mk (Below.refl w.heap.size w)
  have H : (grammar_Groups.l0 k l0 ([] : List (S79)) 0 0) = some (r1, r2) := h
  clear h
  have H' := Aside0.mk H
  clear H
  go_enter Tryz.func35, Tryz.ntmps35
  go_wp2
  repeat (go_quiet (fail); try go_wp2)
  go_loopg [4, 5, 6] k (fun kq v4 v5 v6 w' => ∃ (x4_1 : List (S79)) (x5_1 : Int) (x6_1 : Int), v5 = .int .i64 x5_1 ∧ v6 = .int .i64 x6_1 ∧ Aside0 (grammar_Groups.l0 kq l0 x4_1 x5_1 x6_1 = some (r1, r2)) ∧ Aside0 (kq ≤ k) ∧ Aside0 (Kd.R k79 79 w' w.heap.size (fun _ => True) v4 x4_1) ∧ Aside0 (Below w.heap.size w w'))
  case atStart => exact ⟨(([] : List (S79))), (0), (0), (by first | rfl | (simp; done) | (simp [*]; done)), (by first | rfl | (simp; done) | (simp [*]; done)), H', ⟨Nat.le_refl _⟩, ⟨by first | exact Kd.R_nil _ _ _ _ _ | exact Kd.N_nil _ _ _ _ _ | exact Kd.V_nil _ _ _ _ _ | exact Kd.Q_nil _ _ _ _ _ | exact Kd.S_nil _ _ _ _ _⟩, ⟨pB⟩⟩
  case round =>
    clear H'
    obtain ⟨x4_1, x5_1, x6_1, rfl, rfl, HA, HK1, HO_4, HB⟩ := hrel
    cases gk with
    | zero => exact absurd HA.out (by simp [grammar_Groups.l0])
    | succ k1 =>
      have H := HA.out
      clear HA
      simp only [grammar_Groups.l0] at H
      by_cases c2 : x5_1 < (l0.length : Int)
      · rw [if_pos c2] at H
        have c2b0 : decide (x5_1 < (l0.length : Int)) = true := decide_eq_true c2
        clear c2
        by_cases c3 : 0 ≤ x5_1
        · rw [if_pos c3] at H
          have c3b0 := eq_true c3
          have c3b1 : decide (0 ≤ x5_1) = true := decide_eq_true c3
          clear c3
          by_cases c4 : x5_1 ≤ (l0.length : Int)
          · rw [if_pos c4] at H
            have c4b0 := eq_true c4
            have c4b1 : decide (x5_1 ≤ (l0.length : Int)) = true := decide_eq_true c4
            clear c4
            replace H := Option.bind_eq_some_iff.mp H
            obtain ⟨⟨t487, t488, t489, t490, t491, t492⟩, A50, H⟩ := H
            replace H : (if t492 = true then (if x4_1.length < 3518437208883 then (grammar_Groups.l0 k1 l0 (x4_1 ++ [(⟨t487, x5_1, wrap64 (x5_1 + t489), x6_1, t491⟩ : S79)]) (wrap64 (x5_1 + t489)) (wrap64 (x6_1 + t491))) else (none)) else (some (([] : List (S79)), 10))) = some (r1, r2) := H
            have A5 := Aside0.mk A50
            clear A50
            by_cases c6 : t492 = true
            · subst c6
              have H1 : (if x4_1.length < 3518437208883 then (grammar_Groups.l0 k1 l0 (x4_1 ++ [(⟨t487, x5_1, wrap64 (x5_1 + t489), x6_1, t491⟩ : S79)]) (wrap64 (x5_1 + t489)) (wrap64 (x6_1 + t491))) else (none)) = some (r1, r2) := by rw [if_pos rfl] at H; exact H
              clear H
              have H := H1
              clear H1
              by_cases c7 : x4_1.length < 3518437208883
              · rw [if_pos c7] at H
                have LMc7 := Aside0.mk c7
                clear c7
                obtain ⟨y494, hy494⟩ : ∃ y_ : List (S79), y_ = (x4_1 ++ [(⟨t487, x5_1, wrap64 (x5_1 + t489), x6_1, t491⟩ : S79)]) := ⟨_, rfl⟩
                replace H : (grammar_Groups.l0 k1 l0 y494 (wrap64 (x5_1 + t489)) (wrap64 (x6_1 + t491))) = some (r1, r2) := by first | (rw [hy494]; with_reducible exact H) | (have H2_ := (Option.bind_some _ _).symm.trans H; rw [hy494]; with_reducible exact H2_) | (have H2_ := (Option.bind_some _ _).symm.trans H; with_reducible exact H2_) | with_reducible exact H | (rw [hy494]; exact H) | exact H
                have Ny494 := Aside0.mk hy494
                clear hy494
                have H' := Aside0.mk H
                clear H
                obtain ⟨i08, hi08, _, hsz8, _⟩ := info_parts info5
                obtain ⟨A8, hcut8, hA8, hC8⟩ := print_drop_of (P := Tryz.prog) (Value.int .u8) 0 22 5 .i64 Tryz.underlying22 hi08 hsz8 A0 c0 l0 x5_1 (of_decide_eq_true pA) (of_decide_eq_true pA) HC0.out
                have HR486 := Aside0.mk (Kd.C_of_reads (h1 := fun _ => rfl) (hA8 _ (Kd.reads_of_C HR0.out)))
                have HC486 := Aside0.mk hC8
                clear hA8 hC8 hi08 hsz8
                go_wp2_with (first | (go_at_call 63; (try rw [← (List.length_drop : (List.drop (x5_1 : Int).toNat l0).length = l0.length - (x5_1 : Int).toNat)]); (with_reducible refine (grammar_group.calls _ _ (l0.drop (x5_1 : Int).toNat) t487 t488 t489 t490 t491 true _ ?side1 ?side2 A5.out).mono ?_); (case side1 => repeat (first | exact (Kd.C_below HR486.out HB.out) | (with_reducible refine Kd.C_alloc ?_ _) | (with_reducible refine Kd.C_drewN ?_ _) | (with_reducible refine Kd.C_drew ?_))); (case side2 => exact HC486.out); rintro e w9 ⟨rfl, hb⟩; have n0_ := Aside0.mk (Kd.R_below (pR HO_4) hb); have n1_ := Aside0.mk (below_step pB hb); clear HO_4; clear HB; have HO_4 := n0_; have HB := n1_; clear n0_ n1_; (try clear hb); (try clear hb2); (try clear hk); (try clear hi)) | ((with_reducible refine gate_dst (N := 7) rfl ?_); refine box_event ?hg (N := 7) ?hd (cs := #[.int .u8 0, .int .i64 0, .int .i64 0, .int .i64 0, .int .i64 0]) (t := 79) ?hr ?_; (case hd => rfl); (case hg => rfl); (case hr => first | (go_simp; done) | (go_simp; rfl)); intro gb493 hg w10 hbox hb; have n0_ := Aside0.mk (Kd.R_below (Kd.R_elderB (pR HO_4) gb493 (Nat.le_of_eq hg.symm)) hb); have n1_ := Aside0.mk (below_step pB hb); have n2_ := Aside0.mk (hbox); have n3_ := Aside0.mk ((by rw [hg]; exact (below_size pB) : w.heap.size ≤ gb493)); have n4_ := Aside0.mk ((by rw [hg]; exact (below_size pB) : w.heap.size ≤ gb493)); clear HO_4; clear HB; have HO_4 := n0_; have HB := n1_; have BK493 := n2_; have GW493 := n3_; have GE493 := n4_; clear n0_ n1_ n2_ n3_ n4_; clear hb hbox hg; have hcz11_0 : w10.cell? ⟨gb493, 0, none⟩ = some (.int .u8 0) := (blk_cell BK493.out 0).trans rfl; have hcz11_1 : w10.cell? ⟨gb493, 1, none⟩ = some (.int .i64 0) := (blk_cell BK493.out 1).trans rfl; have hcz11_2 : w10.cell? ⟨gb493, 2, none⟩ = some (.int .i64 0) := (blk_cell BK493.out 2).trans rfl; have hcz11_3 : w10.cell? ⟨gb493, 3, none⟩ = some (.int .i64 0) := (blk_cell BK493.out 3).trans rfl; have hcz11_4 : w10.cell? ⟨gb493, 4, none⟩ = some (.int .i64 0) := (blk_cell BK493.out 4).trans rfl; have hfz11_0 := blk_frozen BK493.out 0; have hfz11_1 := blk_frozen BK493.out 1; have hfz11_2 := blk_frozen BK493.out 2; have hfz11_3 := blk_frozen BK493.out 3; have hfz11_4 := blk_frozen BK493.out 4) | ((with_reducible refine gate_builtin (b := .append) (xs := #[.tmp 37, .tmp 39]) rfl ?_); at_builtin; refine Kd.R_append k79 (w0 := w) w.heap.size rfl (.tmp 37) (.tmp 39) 75 79 (.agg #[(.int .u8 0), (.int .i64 0), (.int .i64 0), (.int .i64 0), (.int .i64 0)]) 40 rfl Tryz.underlying75 info79 rfl (by decide) (by omega) u4 x4_1 (⟨t487, x5_1, wrap64 (x5_1 + t489), x6_1, t491⟩ : S79) [.int .u8 t487, .int .i64 x5_1, .int .i64 (wrap64 (x5_1 + t489)), .int .i64 x6_1, .int .i64 t491] (fun k_ => k_ ≠ gb493) (fun _ => False) rfl (by first | (go_simp; done) | (go_simp; rfl)) ?aP (fun _ hk => hk.elim) ?aF ?aO ?aB ?aS ?aL ?_; (case aP => exact k79_mkM _ _ _ (⟨t487, x5_1, wrap64 (x5_1 + t489), x6_1, t491⟩ : S79)); (case aB => exact (by repeat (first | (with_reducible first | exact HB.out | apply below_alloc | apply pw_below_drewN | apply below_drew1 | refine below_set ?_ GE493.out) | exact HB.out))); (case aF => exact (fun k_ hk => Kd.freshB (g := gb493) (o := .cells #[.int .u8 t487, .int .i64 x5_1, .int .i64 (wrap64 (x5_1 + t489)), .int .i64 x6_1, .int .i64 t491] 79 (0, 0)) (by (with_reducible repeat (first | refine blk_drewN ?_ _ | refine blk_drew ?_ | refine blk_alloc ?_ _)); refine blk_put (cs := #[.int .u8 t487, .int .i64 x5_1, .int .i64 (wrap64 (x5_1 + t489)), .int .i64 t490, .int .i64 t491]) ?_ 3 _ rfl; (with_reducible repeat (first | refine blk_drewN ?_ _ | refine blk_drew ?_ | refine blk_alloc ?_ _)); refine blk_put (cs := #[.int .u8 t487, .int .i64 x5_1, .int .i64 t489, .int .i64 t490, .int .i64 t491]) ?_ 2 _ rfl; (with_reducible repeat (first | refine blk_drewN ?_ _ | refine blk_drew ?_ | refine blk_alloc ?_ _)); refine blk_put (cs := #[.int .u8 t487, .int .i64 t488, .int .i64 t489, .int .i64 t490, .int .i64 t491]) ?_ 1 _ rfl; (with_reducible repeat (first | refine blk_drewN ?_ _ | refine blk_drew ?_ | refine blk_alloc ?_ _)); refine blk_put (cs := #[.int .u8 t487, .int .i64 t488, .int .i64 t489, .int .i64 t490, .int .i64 0]) ?_ 4 _ rfl; (with_reducible repeat (first | refine blk_drewN ?_ _ | refine blk_drew ?_ | refine blk_alloc ?_ _)); refine blk_put (cs := #[.int .u8 t487, .int .i64 t488, .int .i64 t489, .int .i64 0, .int .i64 0]) ?_ 3 _ rfl; (with_reducible repeat (first | refine blk_drewN ?_ _ | refine blk_drew ?_ | refine blk_alloc ?_ _)); refine blk_put (cs := #[.int .u8 t487, .int .i64 t488, .int .i64 0, .int .i64 0, .int .i64 0]) ?_ 2 _ rfl; (with_reducible repeat (first | refine blk_drewN ?_ _ | refine blk_drew ?_ | refine blk_alloc ?_ _)); refine blk_put (cs := #[.int .u8 t487, .int .i64 0, .int .i64 0, .int .i64 0, .int .i64 0]) ?_ 1 _ rfl; (with_reducible repeat (first | refine blk_drewN ?_ _ | refine blk_drew ?_ | refine blk_alloc ?_ _)); refine blk_put (cs := #[.int .u8 0, .int .i64 0, .int .i64 0, .int .i64 0, .int .i64 0]) ?_ 0 _ rfl; (with_reducible repeat (first | refine blk_drewN ?_ _ | refine blk_drew ?_ | refine blk_alloc ?_ _)); exact BK493.out) k_ hk)); (case aO => exact (by (with_reducible repeat (first | apply Kd.R_alloc | apply Kd.R_drewN | apply Kd.R_drew)); exact Kd.R_mono (Kd.R_far (p := ⟨gb493, 3, none⟩) (Kd.R_far (p := ⟨gb493, 2, none⟩) (Kd.R_far (p := ⟨gb493, 1, none⟩) (Kd.R_far (p := ⟨gb493, 4, none⟩) (Kd.R_far (p := ⟨gb493, 3, none⟩) (Kd.R_far (p := ⟨gb493, 2, none⟩) (Kd.R_far (p := ⟨gb493, 1, none⟩) (Kd.R_far (p := ⟨gb493, 0, none⟩) (Kd.R_mono HO_4.out (fun k_ hk => (⟨hk, hk.2⟩ : _ ∧ k_ ≠ gb493))) (fun _ hk => hk.2) (.int .u8 t487)) (fun _ hk => hk.2) (.int .i64 t488)) (fun _ hk => hk.2) (.int .i64 t489)) (fun _ hk => hk.2) (.int .i64 t490)) (fun _ hk => hk.2) (.int .i64 t491)) (fun _ hk => hk.2) (.int .i64 x5_1)) (fun _ hk => hk.2) (.int .i64 (wrap64 (x5_1 + t489)))) (fun _ hk => hk.2) (.int .i64 x6_1)) (fun _ hk => hk.1.2))); (case aS => exact (below_size (by repeat (first | (with_reducible first | exact HB.out | apply below_alloc | apply pw_below_drewN | apply below_drew1 | refine below_set ?_ GE493.out) | exact HB.out)))); (case aL => have := LMc7.out; omega); intro v495 w12 ho hb hg hat; rw [← Ny494.out] at ho; have n0_ := Aside0.mk (blk_grown (g := gb493) (o := .cells #[.int .u8 t487, .int .i64 x5_1, .int .i64 (wrap64 (x5_1 + t489)), .int .i64 x6_1, .int .i64 t491] 79 (0, 0)) (by (with_reducible repeat (first | refine blk_drewN ?_ _ | refine blk_drew ?_ | refine blk_alloc ?_ _)); refine blk_put (cs := #[.int .u8 t487, .int .i64 x5_1, .int .i64 (wrap64 (x5_1 + t489)), .int .i64 t490, .int .i64 t491]) ?_ 3 _ rfl; (with_reducible repeat (first | refine blk_drewN ?_ _ | refine blk_drew ?_ | refine blk_alloc ?_ _)); refine blk_put (cs := #[.int .u8 t487, .int .i64 x5_1, .int .i64 t489, .int .i64 t490, .int .i64 t491]) ?_ 2 _ rfl; (with_reducible repeat (first | refine blk_drewN ?_ _ | refine blk_drew ?_ | refine blk_alloc ?_ _)); refine blk_put (cs := #[.int .u8 t487, .int .i64 t488, .int .i64 t489, .int .i64 t490, .int .i64 t491]) ?_ 1 _ rfl; (with_reducible repeat (first | refine blk_drewN ?_ _ | refine blk_drew ?_ | refine blk_alloc ?_ _)); refine blk_put (cs := #[.int .u8 t487, .int .i64 t488, .int .i64 t489, .int .i64 t490, .int .i64 0]) ?_ 4 _ rfl; (with_reducible repeat (first | refine blk_drewN ?_ _ | refine blk_drew ?_ | refine blk_alloc ?_ _)); refine blk_put (cs := #[.int .u8 t487, .int .i64 t488, .int .i64 t489, .int .i64 0, .int .i64 0]) ?_ 3 _ rfl; (with_reducible repeat (first | refine blk_drewN ?_ _ | refine blk_drew ?_ | refine blk_alloc ?_ _)); refine blk_put (cs := #[.int .u8 t487, .int .i64 t488, .int .i64 0, .int .i64 0, .int .i64 0]) ?_ 2 _ rfl; (with_reducible repeat (first | refine blk_drewN ?_ _ | refine blk_drew ?_ | refine blk_alloc ?_ _)); refine blk_put (cs := #[.int .u8 t487, .int .i64 0, .int .i64 0, .int .i64 0, .int .i64 0]) ?_ 1 _ rfl; (with_reducible repeat (first | refine blk_drewN ?_ _ | refine blk_drew ?_ | refine blk_alloc ?_ _)); refine blk_put (cs := #[.int .u8 0, .int .i64 0, .int .i64 0, .int .i64 0, .int .i64 0]) ?_ 0 _ rfl; (with_reducible repeat (first | refine blk_drewN ?_ _ | refine blk_drew ?_ | refine blk_alloc ?_ _)); exact BK493.out) hg (Kd.R_away HO_4.out (fun _ hk => hk.2))); have n1_ := Aside0.mk (hb); have n2_ := Aside0.mk (ho); clear BK493; clear HB; clear HO_4; have BK493 := n0_; have HB := n1_; have HO496 := n2_; clear n0_ n1_ n2_; clear ho hb hg hat))
                repeat (go_quiet (first | (go_at_call 63; (try rw [← (List.length_drop : (List.drop (x5_1 : Int).toNat l0).length = l0.length - (x5_1 : Int).toNat)]); (with_reducible refine (grammar_group.calls _ _ (l0.drop (x5_1 : Int).toNat) t487 t488 t489 t490 t491 true _ ?side1 ?side2 A5.out).mono ?_); (case side1 => repeat (first | exact (Kd.C_below HR486.out HB.out) | (with_reducible refine Kd.C_alloc ?_ _) | (with_reducible refine Kd.C_drewN ?_ _) | (with_reducible refine Kd.C_drew ?_))); (case side2 => exact HC486.out); rintro e w9 ⟨rfl, hb⟩; have n0_ := Aside0.mk (Kd.R_below (pR HO_4) hb); have n1_ := Aside0.mk (below_step pB hb); clear HO_4; clear HB; have HO_4 := n0_; have HB := n1_; clear n0_ n1_; (try clear hb); (try clear hb2); (try clear hk); (try clear hi)) | ((with_reducible refine gate_dst (N := 7) rfl ?_); refine box_event ?hg (N := 7) ?hd (cs := #[.int .u8 0, .int .i64 0, .int .i64 0, .int .i64 0, .int .i64 0]) (t := 79) ?hr ?_; (case hd => rfl); (case hg => rfl); (case hr => first | (go_simp; done) | (go_simp; rfl)); intro gb493 hg w10 hbox hb; have n0_ := Aside0.mk (Kd.R_below (Kd.R_elderB (pR HO_4) gb493 (Nat.le_of_eq hg.symm)) hb); have n1_ := Aside0.mk (below_step pB hb); have n2_ := Aside0.mk (hbox); have n3_ := Aside0.mk ((by rw [hg]; exact (below_size pB) : w.heap.size ≤ gb493)); have n4_ := Aside0.mk ((by rw [hg]; exact (below_size pB) : w.heap.size ≤ gb493)); clear HO_4; clear HB; have HO_4 := n0_; have HB := n1_; have BK493 := n2_; have GW493 := n3_; have GE493 := n4_; clear n0_ n1_ n2_ n3_ n4_; clear hb hbox hg; have hcz11_0 : w10.cell? ⟨gb493, 0, none⟩ = some (.int .u8 0) := (blk_cell BK493.out 0).trans rfl; have hcz11_1 : w10.cell? ⟨gb493, 1, none⟩ = some (.int .i64 0) := (blk_cell BK493.out 1).trans rfl; have hcz11_2 : w10.cell? ⟨gb493, 2, none⟩ = some (.int .i64 0) := (blk_cell BK493.out 2).trans rfl; have hcz11_3 : w10.cell? ⟨gb493, 3, none⟩ = some (.int .i64 0) := (blk_cell BK493.out 3).trans rfl; have hcz11_4 : w10.cell? ⟨gb493, 4, none⟩ = some (.int .i64 0) := (blk_cell BK493.out 4).trans rfl; have hfz11_0 := blk_frozen BK493.out 0; have hfz11_1 := blk_frozen BK493.out 1; have hfz11_2 := blk_frozen BK493.out 2; have hfz11_3 := blk_frozen BK493.out 3; have hfz11_4 := blk_frozen BK493.out 4) | ((with_reducible refine gate_builtin (b := .append) (xs := #[.tmp 37, .tmp 39]) rfl ?_); at_builtin; refine Kd.R_append k79 (w0 := w) w.heap.size rfl (.tmp 37) (.tmp 39) 75 79 (.agg #[(.int .u8 0), (.int .i64 0), (.int .i64 0), (.int .i64 0), (.int .i64 0)]) 40 rfl Tryz.underlying75 info79 rfl (by decide) (by omega) u4 x4_1 (⟨t487, x5_1, wrap64 (x5_1 + t489), x6_1, t491⟩ : S79) [.int .u8 t487, .int .i64 x5_1, .int .i64 (wrap64 (x5_1 + t489)), .int .i64 x6_1, .int .i64 t491] (fun k_ => k_ ≠ gb493) (fun _ => False) rfl (by first | (go_simp; done) | (go_simp; rfl)) ?aP (fun _ hk => hk.elim) ?aF ?aO ?aB ?aS ?aL ?_; (case aP => exact k79_mkM _ _ _ (⟨t487, x5_1, wrap64 (x5_1 + t489), x6_1, t491⟩ : S79)); (case aB => exact (by repeat (first | (with_reducible first | exact HB.out | apply below_alloc | apply pw_below_drewN | apply below_drew1 | refine below_set ?_ GE493.out) | exact HB.out))); (case aF => exact (fun k_ hk => Kd.freshB (g := gb493) (o := .cells #[.int .u8 t487, .int .i64 x5_1, .int .i64 (wrap64 (x5_1 + t489)), .int .i64 x6_1, .int .i64 t491] 79 (0, 0)) (by (with_reducible repeat (first | refine blk_drewN ?_ _ | refine blk_drew ?_ | refine blk_alloc ?_ _)); refine blk_put (cs := #[.int .u8 t487, .int .i64 x5_1, .int .i64 (wrap64 (x5_1 + t489)), .int .i64 t490, .int .i64 t491]) ?_ 3 _ rfl; (with_reducible repeat (first | refine blk_drewN ?_ _ | refine blk_drew ?_ | refine blk_alloc ?_ _)); refine blk_put (cs := #[.int .u8 t487, .int .i64 x5_1, .int .i64 t489, .int .i64 t490, .int .i64 t491]) ?_ 2 _ rfl; (with_reducible repeat (first | refine blk_drewN ?_ _ | refine blk_drew ?_ | refine blk_alloc ?_ _)); refine blk_put (cs := #[.int .u8 t487, .int .i64 t488, .int .i64 t489, .int .i64 t490, .int .i64 t491]) ?_ 1 _ rfl; (with_reducible repeat (first | refine blk_drewN ?_ _ | refine blk_drew ?_ | refine blk_alloc ?_ _)); refine blk_put (cs := #[.int .u8 t487, .int .i64 t488, .int .i64 t489, .int .i64 t490, .int .i64 0]) ?_ 4 _ rfl; (with_reducible repeat (first | refine blk_drewN ?_ _ | refine blk_drew ?_ | refine blk_alloc ?_ _)); refine blk_put (cs := #[.int .u8 t487, .int .i64 t488, .int .i64 t489, .int .i64 0, .int .i64 0]) ?_ 3 _ rfl; (with_reducible repeat (first | refine blk_drewN ?_ _ | refine blk_drew ?_ | refine blk_alloc ?_ _)); refine blk_put (cs := #[.int .u8 t487, .int .i64 t488, .int .i64 0, .int .i64 0, .int .i64 0]) ?_ 2 _ rfl; (with_reducible repeat (first | refine blk_drewN ?_ _ | refine blk_drew ?_ | refine blk_alloc ?_ _)); refine blk_put (cs := #[.int .u8 t487, .int .i64 0, .int .i64 0, .int .i64 0, .int .i64 0]) ?_ 1 _ rfl; (with_reducible repeat (first | refine blk_drewN ?_ _ | refine blk_drew ?_ | refine blk_alloc ?_ _)); refine blk_put (cs := #[.int .u8 0, .int .i64 0, .int .i64 0, .int .i64 0, .int .i64 0]) ?_ 0 _ rfl; (with_reducible repeat (first | refine blk_drewN ?_ _ | refine blk_drew ?_ | refine blk_alloc ?_ _)); exact BK493.out) k_ hk)); (case aO => exact (by (with_reducible repeat (first | apply Kd.R_alloc | apply Kd.R_drewN | apply Kd.R_drew)); exact Kd.R_mono (Kd.R_far (p := ⟨gb493, 3, none⟩) (Kd.R_far (p := ⟨gb493, 2, none⟩) (Kd.R_far (p := ⟨gb493, 1, none⟩) (Kd.R_far (p := ⟨gb493, 4, none⟩) (Kd.R_far (p := ⟨gb493, 3, none⟩) (Kd.R_far (p := ⟨gb493, 2, none⟩) (Kd.R_far (p := ⟨gb493, 1, none⟩) (Kd.R_far (p := ⟨gb493, 0, none⟩) (Kd.R_mono HO_4.out (fun k_ hk => (⟨hk, hk.2⟩ : _ ∧ k_ ≠ gb493))) (fun _ hk => hk.2) (.int .u8 t487)) (fun _ hk => hk.2) (.int .i64 t488)) (fun _ hk => hk.2) (.int .i64 t489)) (fun _ hk => hk.2) (.int .i64 t490)) (fun _ hk => hk.2) (.int .i64 t491)) (fun _ hk => hk.2) (.int .i64 x5_1)) (fun _ hk => hk.2) (.int .i64 (wrap64 (x5_1 + t489)))) (fun _ hk => hk.2) (.int .i64 x6_1)) (fun _ hk => hk.1.2))); (case aS => exact (below_size (by repeat (first | (with_reducible first | exact HB.out | apply below_alloc | apply pw_below_drewN | apply below_drew1 | refine below_set ?_ GE493.out) | exact HB.out)))); (case aL => have := LMc7.out; omega); intro v495 w12 ho hb hg hat; rw [← Ny494.out] at ho; have n0_ := Aside0.mk (blk_grown (g := gb493) (o := .cells #[.int .u8 t487, .int .i64 x5_1, .int .i64 (wrap64 (x5_1 + t489)), .int .i64 x6_1, .int .i64 t491] 79 (0, 0)) (by (with_reducible repeat (first | refine blk_drewN ?_ _ | refine blk_drew ?_ | refine blk_alloc ?_ _)); refine blk_put (cs := #[.int .u8 t487, .int .i64 x5_1, .int .i64 (wrap64 (x5_1 + t489)), .int .i64 t490, .int .i64 t491]) ?_ 3 _ rfl; (with_reducible repeat (first | refine blk_drewN ?_ _ | refine blk_drew ?_ | refine blk_alloc ?_ _)); refine blk_put (cs := #[.int .u8 t487, .int .i64 x5_1, .int .i64 t489, .int .i64 t490, .int .i64 t491]) ?_ 2 _ rfl; (with_reducible repeat (first | refine blk_drewN ?_ _ | refine blk_drew ?_ | refine blk_alloc ?_ _)); refine blk_put (cs := #[.int .u8 t487, .int .i64 t488, .int .i64 t489, .int .i64 t490, .int .i64 t491]) ?_ 1 _ rfl; (with_reducible repeat (first | refine blk_drewN ?_ _ | refine blk_drew ?_ | refine blk_alloc ?_ _)); refine blk_put (cs := #[.int .u8 t487, .int .i64 t488, .int .i64 t489, .int .i64 t490, .int .i64 0]) ?_ 4 _ rfl; (with_reducible repeat (first | refine blk_drewN ?_ _ | refine blk_drew ?_ | refine blk_alloc ?_ _)); refine blk_put (cs := #[.int .u8 t487, .int .i64 t488, .int .i64 t489, .int .i64 0, .int .i64 0]) ?_ 3 _ rfl; (with_reducible repeat (first | refine blk_drewN ?_ _ | refine blk_drew ?_ | refine blk_alloc ?_ _)); refine blk_put (cs := #[.int .u8 t487, .int .i64 t488, .int .i64 0, .int .i64 0, .int .i64 0]) ?_ 2 _ rfl; (with_reducible repeat (first | refine blk_drewN ?_ _ | refine blk_drew ?_ | refine blk_alloc ?_ _)); refine blk_put (cs := #[.int .u8 t487, .int .i64 0, .int .i64 0, .int .i64 0, .int .i64 0]) ?_ 1 _ rfl; (with_reducible repeat (first | refine blk_drewN ?_ _ | refine blk_drew ?_ | refine blk_alloc ?_ _)); refine blk_put (cs := #[.int .u8 0, .int .i64 0, .int .i64 0, .int .i64 0, .int .i64 0]) ?_ 0 _ rfl; (with_reducible repeat (first | refine blk_drewN ?_ _ | refine blk_drew ?_ | refine blk_alloc ?_ _)); exact BK493.out) hg (Kd.R_away HO_4.out (fun _ hk => hk.2))); have n1_ := Aside0.mk (hb); have n2_ := Aside0.mk (ho); clear BK493; clear HB; clear HO_4; have BK493 := n0_; have HB := n1_; have HO496 := n2_; clear n0_ n1_ n2_; clear ho hb hg hat)); try go_wp2_with (first | (go_at_call 63; (try rw [← (List.length_drop : (List.drop (x5_1 : Int).toNat l0).length = l0.length - (x5_1 : Int).toNat)]); (with_reducible refine (grammar_group.calls _ _ (l0.drop (x5_1 : Int).toNat) t487 t488 t489 t490 t491 true _ ?side1 ?side2 A5.out).mono ?_); (case side1 => repeat (first | exact (Kd.C_below HR486.out HB.out) | (with_reducible refine Kd.C_alloc ?_ _) | (with_reducible refine Kd.C_drewN ?_ _) | (with_reducible refine Kd.C_drew ?_))); (case side2 => exact HC486.out); rintro e w9 ⟨rfl, hb⟩; have n0_ := Aside0.mk (Kd.R_below (pR HO_4) hb); have n1_ := Aside0.mk (below_step pB hb); clear HO_4; clear HB; have HO_4 := n0_; have HB := n1_; clear n0_ n1_; (try clear hb); (try clear hb2); (try clear hk); (try clear hi)) | ((with_reducible refine gate_dst (N := 7) rfl ?_); refine box_event ?hg (N := 7) ?hd (cs := #[.int .u8 0, .int .i64 0, .int .i64 0, .int .i64 0, .int .i64 0]) (t := 79) ?hr ?_; (case hd => rfl); (case hg => rfl); (case hr => first | (go_simp; done) | (go_simp; rfl)); intro gb493 hg w10 hbox hb; have n0_ := Aside0.mk (Kd.R_below (Kd.R_elderB (pR HO_4) gb493 (Nat.le_of_eq hg.symm)) hb); have n1_ := Aside0.mk (below_step pB hb); have n2_ := Aside0.mk (hbox); have n3_ := Aside0.mk ((by rw [hg]; exact (below_size pB) : w.heap.size ≤ gb493)); have n4_ := Aside0.mk ((by rw [hg]; exact (below_size pB) : w.heap.size ≤ gb493)); clear HO_4; clear HB; have HO_4 := n0_; have HB := n1_; have BK493 := n2_; have GW493 := n3_; have GE493 := n4_; clear n0_ n1_ n2_ n3_ n4_; clear hb hbox hg; have hcz11_0 : w10.cell? ⟨gb493, 0, none⟩ = some (.int .u8 0) := (blk_cell BK493.out 0).trans rfl; have hcz11_1 : w10.cell? ⟨gb493, 1, none⟩ = some (.int .i64 0) := (blk_cell BK493.out 1).trans rfl; have hcz11_2 : w10.cell? ⟨gb493, 2, none⟩ = some (.int .i64 0) := (blk_cell BK493.out 2).trans rfl; have hcz11_3 : w10.cell? ⟨gb493, 3, none⟩ = some (.int .i64 0) := (blk_cell BK493.out 3).trans rfl; have hcz11_4 : w10.cell? ⟨gb493, 4, none⟩ = some (.int .i64 0) := (blk_cell BK493.out 4).trans rfl; have hfz11_0 := blk_frozen BK493.out 0; have hfz11_1 := blk_frozen BK493.out 1; have hfz11_2 := blk_frozen BK493.out 2; have hfz11_3 := blk_frozen BK493.out 3; have hfz11_4 := blk_frozen BK493.out 4) | ((with_reducible refine gate_builtin (b := .append) (xs := #[.tmp 37, .tmp 39]) rfl ?_); at_builtin; refine Kd.R_append k79 (w0 := w) w.heap.size rfl (.tmp 37) (.tmp 39) 75 79 (.agg #[(.int .u8 0), (.int .i64 0), (.int .i64 0), (.int .i64 0), (.int .i64 0)]) 40 rfl Tryz.underlying75 info79 rfl (by decide) (by omega) u4 x4_1 (⟨t487, x5_1, wrap64 (x5_1 + t489), x6_1, t491⟩ : S79) [.int .u8 t487, .int .i64 x5_1, .int .i64 (wrap64 (x5_1 + t489)), .int .i64 x6_1, .int .i64 t491] (fun k_ => k_ ≠ gb493) (fun _ => False) rfl (by first | (go_simp; done) | (go_simp; rfl)) ?aP (fun _ hk => hk.elim) ?aF ?aO ?aB ?aS ?aL ?_; (case aP => exact k79_mkM _ _ _ (⟨t487, x5_1, wrap64 (x5_1 + t489), x6_1, t491⟩ : S79)); (case aB => exact (by repeat (first | (with_reducible first | exact HB.out | apply below_alloc | apply pw_below_drewN | apply below_drew1 | refine below_set ?_ GE493.out) | exact HB.out))); (case aF => exact (fun k_ hk => Kd.freshB (g := gb493) (o := .cells #[.int .u8 t487, .int .i64 x5_1, .int .i64 (wrap64 (x5_1 + t489)), .int .i64 x6_1, .int .i64 t491] 79 (0, 0)) (by (with_reducible repeat (first | refine blk_drewN ?_ _ | refine blk_drew ?_ | refine blk_alloc ?_ _)); refine blk_put (cs := #[.int .u8 t487, .int .i64 x5_1, .int .i64 (wrap64 (x5_1 + t489)), .int .i64 t490, .int .i64 t491]) ?_ 3 _ rfl; (with_reducible repeat (first | refine blk_drewN ?_ _ | refine blk_drew ?_ | refine blk_alloc ?_ _)); refine blk_put (cs := #[.int .u8 t487, .int .i64 x5_1, .int .i64 t489, .int .i64 t490, .int .i64 t491]) ?_ 2 _ rfl; (with_reducible repeat (first | refine blk_drewN ?_ _ | refine blk_drew ?_ | refine blk_alloc ?_ _)); refine blk_put (cs := #[.int .u8 t487, .int .i64 t488, .int .i64 t489, .int .i64 t490, .int .i64 t491]) ?_ 1 _ rfl; (with_reducible repeat (first | refine blk_drewN ?_ _ | refine blk_drew ?_ | refine blk_alloc ?_ _)); refine blk_put (cs := #[.int .u8 t487, .int .i64 t488, .int .i64 t489, .int .i64 t490, .int .i64 0]) ?_ 4 _ rfl; (with_reducible repeat (first | refine blk_drewN ?_ _ | refine blk_drew ?_ | refine blk_alloc ?_ _)); refine blk_put (cs := #[.int .u8 t487, .int .i64 t488, .int .i64 t489, .int .i64 0, .int .i64 0]) ?_ 3 _ rfl; (with_reducible repeat (first | refine blk_drewN ?_ _ | refine blk_drew ?_ | refine blk_alloc ?_ _)); refine blk_put (cs := #[.int .u8 t487, .int .i64 t488, .int .i64 0, .int .i64 0, .int .i64 0]) ?_ 2 _ rfl; (with_reducible repeat (first | refine blk_drewN ?_ _ | refine blk_drew ?_ | refine blk_alloc ?_ _)); refine blk_put (cs := #[.int .u8 t487, .int .i64 0, .int .i64 0, .int .i64 0, .int .i64 0]) ?_ 1 _ rfl; (with_reducible repeat (first | refine blk_drewN ?_ _ | refine blk_drew ?_ | refine blk_alloc ?_ _)); refine blk_put (cs := #[.int .u8 0, .int .i64 0, .int .i64 0, .int .i64 0, .int .i64 0]) ?_ 0 _ rfl; (with_reducible repeat (first | refine blk_drewN ?_ _ | refine blk_drew ?_ | refine blk_alloc ?_ _)); exact BK493.out) k_ hk)); (case aO => exact (by (with_reducible repeat (first | apply Kd.R_alloc | apply Kd.R_drewN | apply Kd.R_drew)); exact Kd.R_mono (Kd.R_far (p := ⟨gb493, 3, none⟩) (Kd.R_far (p := ⟨gb493, 2, none⟩) (Kd.R_far (p := ⟨gb493, 1, none⟩) (Kd.R_far (p := ⟨gb493, 4, none⟩) (Kd.R_far (p := ⟨gb493, 3, none⟩) (Kd.R_far (p := ⟨gb493, 2, none⟩) (Kd.R_far (p := ⟨gb493, 1, none⟩) (Kd.R_far (p := ⟨gb493, 0, none⟩) (Kd.R_mono HO_4.out (fun k_ hk => (⟨hk, hk.2⟩ : _ ∧ k_ ≠ gb493))) (fun _ hk => hk.2) (.int .u8 t487)) (fun _ hk => hk.2) (.int .i64 t488)) (fun _ hk => hk.2) (.int .i64 t489)) (fun _ hk => hk.2) (.int .i64 t490)) (fun _ hk => hk.2) (.int .i64 t491)) (fun _ hk => hk.2) (.int .i64 x5_1)) (fun _ hk => hk.2) (.int .i64 (wrap64 (x5_1 + t489)))) (fun _ hk => hk.2) (.int .i64 x6_1)) (fun _ hk => hk.1.2))); (case aS => exact (below_size (by repeat (first | (with_reducible first | exact HB.out | apply below_alloc | apply pw_below_drewN | apply below_drew1 | refine below_set ?_ GE493.out) | exact HB.out)))); (case aL => have := LMc7.out; omega); intro v495 w12 ho hb hg hat; rw [← Ny494.out] at ho; have n0_ := Aside0.mk (blk_grown (g := gb493) (o := .cells #[.int .u8 t487, .int .i64 x5_1, .int .i64 (wrap64 (x5_1 + t489)), .int .i64 x6_1, .int .i64 t491] 79 (0, 0)) (by (with_reducible repeat (first | refine blk_drewN ?_ _ | refine blk_drew ?_ | refine blk_alloc ?_ _)); refine blk_put (cs := #[.int .u8 t487, .int .i64 x5_1, .int .i64 (wrap64 (x5_1 + t489)), .int .i64 t490, .int .i64 t491]) ?_ 3 _ rfl; (with_reducible repeat (first | refine blk_drewN ?_ _ | refine blk_drew ?_ | refine blk_alloc ?_ _)); refine blk_put (cs := #[.int .u8 t487, .int .i64 x5_1, .int .i64 t489, .int .i64 t490, .int .i64 t491]) ?_ 2 _ rfl; (with_reducible repeat (first | refine blk_drewN ?_ _ | refine blk_drew ?_ | refine blk_alloc ?_ _)); refine blk_put (cs := #[.int .u8 t487, .int .i64 t488, .int .i64 t489, .int .i64 t490, .int .i64 t491]) ?_ 1 _ rfl; (with_reducible repeat (first | refine blk_drewN ?_ _ | refine blk_drew ?_ | refine blk_alloc ?_ _)); refine blk_put (cs := #[.int .u8 t487, .int .i64 t488, .int .i64 t489, .int .i64 t490, .int .i64 0]) ?_ 4 _ rfl; (with_reducible repeat (first | refine blk_drewN ?_ _ | refine blk_drew ?_ | refine blk_alloc ?_ _)); refine blk_put (cs := #[.int .u8 t487, .int .i64 t488, .int .i64 t489, .int .i64 0, .int .i64 0]) ?_ 3 _ rfl; (with_reducible repeat (first | refine blk_drewN ?_ _ | refine blk_drew ?_ | refine blk_alloc ?_ _)); refine blk_put (cs := #[.int .u8 t487, .int .i64 t488, .int .i64 0, .int .i64 0, .int .i64 0]) ?_ 2 _ rfl; (with_reducible repeat (first | refine blk_drewN ?_ _ | refine blk_drew ?_ | refine blk_alloc ?_ _)); refine blk_put (cs := #[.int .u8 t487, .int .i64 0, .int .i64 0, .int .i64 0, .int .i64 0]) ?_ 1 _ rfl; (with_reducible repeat (first | refine blk_drewN ?_ _ | refine blk_drew ?_ | refine blk_alloc ?_ _)); refine blk_put (cs := #[.int .u8 0, .int .i64 0, .int .i64 0, .int .i64 0, .int .i64 0]) ?_ 0 _ rfl; (with_reducible repeat (first | refine blk_drewN ?_ _ | refine blk_drew ?_ | refine blk_alloc ?_ _)); exact BK493.out) hg (Kd.R_away HO_4.out (fun _ hk => hk.2))); have n1_ := Aside0.mk (hb); have n2_ := Aside0.mk (ho); clear BK493; clear HB; clear HO_4; have BK493 := n0_; have HB := n1_; have HO496 := n2_; clear n0_ n1_ n2_; clear ho hb hg hat)))
                obtain ⟨wq, hwq⟩ : ∃ wq, wq = (World.drew (World.setCell (World.setCell (World.setCell (World.setCell (World.setCell (World.setCell (World.setCell (World.setCell w10 ⟨gb493, 0, none⟩ (.int .u8 t487)) ⟨gb493, 1, none⟩ (.int .i64 t488)) ⟨gb493, 2, none⟩ (.int .i64 t489)) ⟨gb493, 3, none⟩ (.int .i64 t490)) ⟨gb493, 4, none⟩ (.int .i64 t491)) ⟨gb493, 1, none⟩ (.int .i64 x5_1)) ⟨gb493, 2, none⟩ (.int .i64 (wrap64 (x5_1 + t489)))) ⟨gb493, 3, none⟩ (.int .i64 x6_1))) := ⟨_, rfl⟩
                have hbk_ : wq.heap[gb493]? = some (.cells #[.int .u8 t487, .int .i64 x5_1, .int .i64 (wrap64 (x5_1 + t489)), .int .i64 x6_1, .int .i64 t491] 79 (0, 0)) := by
                  rw [hwq]; (repeat (with_reducible first | refine blk_drew ?_ | apply blk_put)); (with_reducible exact BK493.out); all_goals rfl
                have hob_ : Kd.R k79 79 wq w.heap.size (fun k_ => k_ ≠ gb493) u4 x4_1 := by
                  rw [hwq]; apply Kd.R_drew; exact Kd.R_mono (Kd.R_far (p := ⟨gb493, 3, none⟩) (Kd.R_far (p := ⟨gb493, 2, none⟩) (Kd.R_far (p := ⟨gb493, 1, none⟩) (Kd.R_far (p := ⟨gb493, 4, none⟩) (Kd.R_far (p := ⟨gb493, 3, none⟩) (Kd.R_far (p := ⟨gb493, 2, none⟩) (Kd.R_far (p := ⟨gb493, 1, none⟩) (Kd.R_far (p := ⟨gb493, 0, none⟩) (Kd.R_mono HO_4.out (fun k_ hk => (⟨hk, hk.2⟩ : _ ∧ k_ ≠ gb493))) (fun _ hk => hk.2) (.int .u8 t487)) (fun _ hk => hk.2) (.int .i64 t488)) (fun _ hk => hk.2) (.int .i64 t489)) (fun _ hk => hk.2) (.int .i64 t490)) (fun _ hk => hk.2) (.int .i64 t491)) (fun _ hk => hk.2) (.int .i64 x5_1)) (fun _ hk => hk.2) (.int .i64 (wrap64 (x5_1 + t489)))) (fun _ hk => hk.2) (.int .i64 x6_1)) (fun _ hk => hk.2)
                have hbb_ : Below w.heap.size w wq := by
                  rw [hwq]; (repeat (with_reducible first | exact HB.out | apply below_drew1 | refine below_set ?_ GE493.out))
                have hzq0_ := (blk_cell hbk_ 0).trans rfl
                have hzq1_ := (blk_cell hbk_ 1).trans rfl
                have hzq2_ := (blk_cell hbk_ 2).trans rfl
                have hzq3_ := (blk_cell hbk_ 3).trans rfl
                have hzq4_ := (blk_cell hbk_ 4).trans rfl
                have HOQ := Aside0.mk hob_
                have HBQ := Aside0.mk hbb_
                have BKQ := Aside0.mk hbk_
                have hwq2 := hwq
                rw [hwq2] at hzq0_ hzq1_ hzq2_ hzq3_ hzq4_
                have HWQ := Aside0.mk hwq
                clear hbk_ hob_ hbb_ hwq2 hwq
                go_region
                rw [← HWQ.out] at hzq0_ hzq1_ hzq2_ hzq3_ hzq4_
                rw [← HWQ.out]
                clear HWQ HB HO_4 BK493
                have HB := HBQ
                clear HBQ
                go_wp2_with (first | ((with_reducible refine gate_builtin (b := .append) (xs := #[.tmp 37, .tmp 39]) rfl ?_); at_builtin; refine Kd.R_append k79 (w0 := w) w.heap.size rfl (.tmp 37) (.tmp 39) 75 79 (.agg #[(.int .u8 0), (.int .i64 0), (.int .i64 0), (.int .i64 0), (.int .i64 0)]) 40 rfl Tryz.underlying75 info79 rfl (by decide) (by omega) u4 x4_1 (⟨t487, x5_1, wrap64 (x5_1 + t489), x6_1, t491⟩ : S79) [.int .u8 t487, .int .i64 x5_1, .int .i64 (wrap64 (x5_1 + t489)), .int .i64 x6_1, .int .i64 t491] (fun k_ => k_ ≠ gb493) (fun _ => False) rfl (by first | (go_simp; done) | (go_simp; rfl)) ?aP (fun _ hk => hk.elim) ?aF ?aO ?aB ?aS ?aL ?_; (case aP => exact k79_mkM _ _ _ (⟨t487, x5_1, wrap64 (x5_1 + t489), x6_1, t491⟩ : S79)); (case aB => exact HB.out); (case aF => exact fun k_ hk => Kd.freshB (g := gb493) (o := .cells #[.int .u8 t487, .int .i64 x5_1, .int .i64 (wrap64 (x5_1 + t489)), .int .i64 x6_1, .int .i64 t491] 79 (0, 0)) BKQ.out k_ hk); (case aO => exact HOQ.out); (case aS => exact below_size HB.out); (case aL => have := LMc7.out; omega); intro v495 w12 ho hb hg hat; rw [← Ny494.out] at ho; have n1_ := Aside0.mk (hb); have n2_ := Aside0.mk (ho); clear HB; clear HOQ; have HB := n1_; have HO496 := n2_; clear n1_ n2_; clear ho hb hg hat))
                go_roundg k1
                case measure => have := HK1.out; omega
                case rel => exact ⟨(y494), (wrap64 (x5_1 + t489)), (wrap64 (x6_1 + t491)), (by first | rfl | (simp; done) | (simp [*]; done)), (by first | rfl | (simp; done) | (simp [*]; done)), H', ⟨by have := HK1.out; omega⟩, ⟨by (with_reducible repeat (first | apply Kd.R_alloc | apply Kd.R_drewN | apply Kd.R_drew)); exact Kd.R_mono HO496.out (fun _ hk => trivial)⟩, ⟨by repeat (first | (with_reducible first | exact HB.out | apply below_alloc | apply pw_below_drewN | apply below_drew1 | refine below_set ?_ GE493.out) | exact HB.out)⟩⟩
              · rw [if_neg c7] at H
                exact absurd H (by simp)
            · replace c6 := Bool.eq_false_iff.mpr c6
              subst c6
              have H1 : (some (([] : List (S79)), 10)) = some (r1, r2) := by rw [if_neg (show ¬ (false = true) by decide)] at H; exact H
              clear H
              have H := H1
              clear H1
              simp only [Option.some.injEq, Prod.mk.injEq] at H
              obtain ⟨rfl, rfl⟩ := H
              obtain ⟨i013, hi013, _, hsz13, _⟩ := info_parts info5
              obtain ⟨A13, hcut13, hA13, hC13⟩ := print_drop_of (P := Tryz.prog) (Value.int .u8) 0 22 5 .i64 Tryz.underlying22 hi013 hsz13 A0 c0 l0 x5_1 (of_decide_eq_true pA) (of_decide_eq_true pA) HC0.out
              have HR486 := Aside0.mk (Kd.C_of_reads (h1 := fun _ => rfl) (hA13 _ (Kd.reads_of_C HR0.out)))
              have HC486 := Aside0.mk hC13
              clear hA13 hC13 hi013 hsz13
              go_wp2_with (first | (go_at_call 63; (try rw [← (List.length_drop : (List.drop (x5_1 : Int).toNat l0).length = l0.length - (x5_1 : Int).toNat)]); (with_reducible refine (grammar_group.calls _ _ (l0.drop (x5_1 : Int).toNat) t487 t488 t489 t490 t491 false _ ?side1 ?side2 A5.out).mono ?_); (case side1 => repeat (first | exact (Kd.C_below HR486.out HB.out) | (with_reducible refine Kd.C_alloc ?_ _) | (with_reducible refine Kd.C_drewN ?_ _) | (with_reducible refine Kd.C_drew ?_))); (case side2 => exact HC486.out); rintro e w14 ⟨rfl, hb⟩; have n0_ := Aside0.mk (Kd.R_below (pR HO_4) hb); have n1_ := Aside0.mk (below_step pB hb); clear HO_4; clear HB; have HO_4 := n0_; have HB := n1_; clear n0_ n1_; (try clear hb); (try clear hb2); (try clear hk); (try clear hi)) | ((with_reducible refine gate_dst (N := 7) rfl ?_); refine box_event ?hg (N := 7) ?hd (cs := #[.int .u8 0, .int .i64 0, .int .i64 0, .int .i64 0, .int .i64 0]) (t := 79) ?hr ?_; (case hd => rfl); (case hg => rfl); (case hr => first | (go_simp; done) | (go_simp; rfl)); intro gb493 hg w15 hbox hb; have n0_ := Aside0.mk (Kd.R_below (Kd.R_elderB (pR HO_4) gb493 (Nat.le_of_eq hg.symm)) hb); have n1_ := Aside0.mk (below_step pB hb); have n2_ := Aside0.mk (hbox); have n3_ := Aside0.mk ((by rw [hg]; exact (below_size pB) : w.heap.size ≤ gb493)); have n4_ := Aside0.mk ((by rw [hg]; exact (below_size pB) : w.heap.size ≤ gb493)); clear HO_4; clear HB; have HO_4 := n0_; have HB := n1_; have BK493 := n2_; have GW493 := n3_; have GE493 := n4_; clear n0_ n1_ n2_ n3_ n4_; clear hb hbox hg; have hcz16_0 : w15.cell? ⟨gb493, 0, none⟩ = some (.int .u8 0) := (blk_cell BK493.out 0).trans rfl; have hcz16_1 : w15.cell? ⟨gb493, 1, none⟩ = some (.int .i64 0) := (blk_cell BK493.out 1).trans rfl; have hcz16_2 : w15.cell? ⟨gb493, 2, none⟩ = some (.int .i64 0) := (blk_cell BK493.out 2).trans rfl; have hcz16_3 : w15.cell? ⟨gb493, 3, none⟩ = some (.int .i64 0) := (blk_cell BK493.out 3).trans rfl; have hcz16_4 : w15.cell? ⟨gb493, 4, none⟩ = some (.int .i64 0) := (blk_cell BK493.out 4).trans rfl; have hfz16_0 := blk_frozen BK493.out 0; have hfz16_1 := blk_frozen BK493.out 1; have hfz16_2 := blk_frozen BK493.out 2; have hfz16_3 := blk_frozen BK493.out 3; have hfz16_4 := blk_frozen BK493.out 4))
              repeat (go_quiet (first | (go_at_call 63; (try rw [← (List.length_drop : (List.drop (x5_1 : Int).toNat l0).length = l0.length - (x5_1 : Int).toNat)]); (with_reducible refine (grammar_group.calls _ _ (l0.drop (x5_1 : Int).toNat) t487 t488 t489 t490 t491 false _ ?side1 ?side2 A5.out).mono ?_); (case side1 => repeat (first | exact (Kd.C_below HR486.out HB.out) | (with_reducible refine Kd.C_alloc ?_ _) | (with_reducible refine Kd.C_drewN ?_ _) | (with_reducible refine Kd.C_drew ?_))); (case side2 => exact HC486.out); rintro e w14 ⟨rfl, hb⟩; have n0_ := Aside0.mk (Kd.R_below (pR HO_4) hb); have n1_ := Aside0.mk (below_step pB hb); clear HO_4; clear HB; have HO_4 := n0_; have HB := n1_; clear n0_ n1_; (try clear hb); (try clear hb2); (try clear hk); (try clear hi)) | ((with_reducible refine gate_dst (N := 7) rfl ?_); refine box_event ?hg (N := 7) ?hd (cs := #[.int .u8 0, .int .i64 0, .int .i64 0, .int .i64 0, .int .i64 0]) (t := 79) ?hr ?_; (case hd => rfl); (case hg => rfl); (case hr => first | (go_simp; done) | (go_simp; rfl)); intro gb493 hg w15 hbox hb; have n0_ := Aside0.mk (Kd.R_below (Kd.R_elderB (pR HO_4) gb493 (Nat.le_of_eq hg.symm)) hb); have n1_ := Aside0.mk (below_step pB hb); have n2_ := Aside0.mk (hbox); have n3_ := Aside0.mk ((by rw [hg]; exact (below_size pB) : w.heap.size ≤ gb493)); have n4_ := Aside0.mk ((by rw [hg]; exact (below_size pB) : w.heap.size ≤ gb493)); clear HO_4; clear HB; have HO_4 := n0_; have HB := n1_; have BK493 := n2_; have GW493 := n3_; have GE493 := n4_; clear n0_ n1_ n2_ n3_ n4_; clear hb hbox hg; have hcz16_0 : w15.cell? ⟨gb493, 0, none⟩ = some (.int .u8 0) := (blk_cell BK493.out 0).trans rfl; have hcz16_1 : w15.cell? ⟨gb493, 1, none⟩ = some (.int .i64 0) := (blk_cell BK493.out 1).trans rfl; have hcz16_2 : w15.cell? ⟨gb493, 2, none⟩ = some (.int .i64 0) := (blk_cell BK493.out 2).trans rfl; have hcz16_3 : w15.cell? ⟨gb493, 3, none⟩ = some (.int .i64 0) := (blk_cell BK493.out 3).trans rfl; have hcz16_4 : w15.cell? ⟨gb493, 4, none⟩ = some (.int .i64 0) := (blk_cell BK493.out 4).trans rfl; have hfz16_0 := blk_frozen BK493.out 0; have hfz16_1 := blk_frozen BK493.out 1; have hfz16_2 := blk_frozen BK493.out 2; have hfz16_3 := blk_frozen BK493.out 3; have hfz16_4 := blk_frozen BK493.out 4)); try go_wp2_with (first | (go_at_call 63; (try rw [← (List.length_drop : (List.drop (x5_1 : Int).toNat l0).length = l0.length - (x5_1 : Int).toNat)]); (with_reducible refine (grammar_group.calls _ _ (l0.drop (x5_1 : Int).toNat) t487 t488 t489 t490 t491 false _ ?side1 ?side2 A5.out).mono ?_); (case side1 => repeat (first | exact (Kd.C_below HR486.out HB.out) | (with_reducible refine Kd.C_alloc ?_ _) | (with_reducible refine Kd.C_drewN ?_ _) | (with_reducible refine Kd.C_drew ?_))); (case side2 => exact HC486.out); rintro e w14 ⟨rfl, hb⟩; have n0_ := Aside0.mk (Kd.R_below (pR HO_4) hb); have n1_ := Aside0.mk (below_step pB hb); clear HO_4; clear HB; have HO_4 := n0_; have HB := n1_; clear n0_ n1_; (try clear hb); (try clear hb2); (try clear hk); (try clear hi)) | ((with_reducible refine gate_dst (N := 7) rfl ?_); refine box_event ?hg (N := 7) ?hd (cs := #[.int .u8 0, .int .i64 0, .int .i64 0, .int .i64 0, .int .i64 0]) (t := 79) ?hr ?_; (case hd => rfl); (case hg => rfl); (case hr => first | (go_simp; done) | (go_simp; rfl)); intro gb493 hg w15 hbox hb; have n0_ := Aside0.mk (Kd.R_below (Kd.R_elderB (pR HO_4) gb493 (Nat.le_of_eq hg.symm)) hb); have n1_ := Aside0.mk (below_step pB hb); have n2_ := Aside0.mk (hbox); have n3_ := Aside0.mk ((by rw [hg]; exact (below_size pB) : w.heap.size ≤ gb493)); have n4_ := Aside0.mk ((by rw [hg]; exact (below_size pB) : w.heap.size ≤ gb493)); clear HO_4; clear HB; have HO_4 := n0_; have HB := n1_; have BK493 := n2_; have GW493 := n3_; have GE493 := n4_; clear n0_ n1_ n2_ n3_ n4_; clear hb hbox hg; have hcz16_0 : w15.cell? ⟨gb493, 0, none⟩ = some (.int .u8 0) := (blk_cell BK493.out 0).trans rfl; have hcz16_1 : w15.cell? ⟨gb493, 1, none⟩ = some (.int .i64 0) := (blk_cell BK493.out 1).trans rfl; have hcz16_2 : w15.cell? ⟨gb493, 2, none⟩ = some (.int .i64 0) := (blk_cell BK493.out 2).trans rfl; have hcz16_3 : w15.cell? ⟨gb493, 3, none⟩ = some (.int .i64 0) := (blk_cell BK493.out 3).trans rfl; have hcz16_4 : w15.cell? ⟨gb493, 4, none⟩ = some (.int .i64 0) := (blk_cell BK493.out 4).trans rfl; have hfz16_0 := blk_frozen BK493.out 0; have hfz16_1 := blk_frozen BK493.out 1; have hfz16_2 := blk_frozen BK493.out 2; have hfz16_3 := blk_frozen BK493.out 3; have hfz16_4 := blk_frozen BK493.out 4)))
              go_ret2
              exact ⟨_, by first | rfl | (simp [errW_none, errW_some] <;> rfl) | (simp [*, errW_none, errW_some] <;> rfl), by first | exact Kd.R_nil _ _ _ _ _ | exact Kd.N_nil _ _ _ _ _ | exact Kd.V_nil _ _ _ _ _ | exact Kd.Q_nil _ _ _ _ _ | exact Kd.S_nil _ _ _ _ _, by repeat (first | (with_reducible first | exact HB.out | apply below_alloc | apply pw_below_drewN | apply below_drew1 | refine below_set ?_ GE493.out) | exact HB.out)⟩
          · rw [if_neg c4] at H
            exact absurd H (by simp)
        · rw [if_neg c3] at H
          exact absurd H (by simp)
      · rw [if_neg c2] at H
        have c2b0 : decide (x5_1 < (l0.length : Int)) = false := decide_eq_false c2
        clear c2
        simp only [Option.some.injEq, Prod.mk.injEq] at H
        obtain ⟨rfl, rfl⟩ := H
        go_wp2
        repeat (go_quiet (fail); try go_wp2)
        go_ret2
        exact ⟨_, by first | rfl | (simp [errW_none, errW_some] <;> rfl) | (simp [*, errW_none, errW_some] <;> rfl), by (with_reducible repeat (first | apply Kd.R_alloc | apply Kd.R_drewN | apply Kd.R_drew)); exact HO_4.out, pB⟩
def grammar_Canonical.l0 : Nat → List Int → Int → List (S79) → Int → Int → Option (Bool)
  | 0, _, _, _, _, _ => none
  | k + 1, x0, x5, x19, x20, x21 => if x21 < x20 then (if 0 ≤ x21 then (if x21 < (x19.length : Int) then (grammar_Canonical.l0 k x0 (wrap64 (x5 + ((rd_T79 x19 x21).f4))) x19 x20 (wrap64 (x21 + 1))) else (none)) else (none)) else ((unpack_Bytes.f x0 (wrap64 (8 * x5))).bind fun bt503 => ((pack_Bytes.f k bt503.1).bind fun bt507 => (some ((strOfNums x0).toList == (strOfNums bt507.1).toList))))
def grammar_Canonical.f (k : Nat) (l0 : List Int) : Option (Bool) := (grammar_Groups.f k l0).bind fun bt497 => (if bt497.2 = 0 then (grammar_Canonical.l0 k l0 0 bt497.1 (bt497.1.length : Int) 0) else (some false))
theorem grammar_Canonical.calls (k : Nat) (A0 : Option Addr) (c0 : Nat) (l0 : List Int) (r : Bool) (w : World) (hr0 : Kd.C (Kd.int .u8) w A0 l0.length l0) (hc0 : l0.length ≤ c0) (h : grammar_Canonical.f k l0 = some r) (hL : Go.Proofs.YthghblmffdfbaaaGreatDoor.Gp.TopU w) :
    Calls Tryz.prog 13 #[.slice A0 l0.length c0] w fun e w' => e = .returned (.bool r) ∧ Below w.heap.size w w' := by
  have HL := Aside0.mk hL
  clear hL
  have hu79 := Tryz.underlying79
  have HR0 := Aside0.mk hr0
  have HC0 := Aside0.mk hc0
  clear hr0 hc0
  have HB := Aside0.mk (Below.refl w.heap.size w)
  have H : ((grammar_Groups.f k l0).bind fun bt497 => (if bt497.2 = 0 then (grammar_Canonical.l0 k l0 0 bt497.1 (bt497.1.length : Int) 0) else (some false))) = some r := h
  clear h
  replace H := Option.bind_eq_some_iff.mp H
  obtain ⟨⟨t497, t498⟩, A20, H⟩ := H
  replace H : (if t498 = 0 then (grammar_Canonical.l0 k l0 0 t497 (t497.length : Int) 0) else (some false)) = some r := H
  have A2 := Aside0.mk A20
  clear A20
  by_cases c3 : t498 = 0
  · rw [if_pos c3] at H
    have c3b0 : (t498 == 0) = true := beq_iff_eq.mpr c3
    have c3b1 : (t498 != 0) = false := bne_eq_false_iff_eq.mpr c3
    clear c3
    have H' := Aside0.mk H
    clear H
    go_enter Tryz.func13, Tryz.ntmps13
    go_wp2_with (first | ((with_reducible refine gate_callee (f := 35) rfl ?_); refine goesL_ (some 14) rfl rfl Tryz.func35 (by kernel_rfl) rfl #[.slice A0 l0.length c0] rfl pM ?_; (with_reducible refine (grammar_Groups.calls k _ _ l0 t497 t498 _ ?side1 ?side2 A2.out).mono ?_); (case side1 => repeat (first | exact HR0.out | (with_reducible refine Kd.C_alloc ?_ _) | (with_reducible refine Kd.C_drewN ?_ _) | (with_reducible refine Kd.C_drew ?_))); (case side2 => exact HC0.out); rintro e w4 ⟨v499, rfl, ho0, hb⟩; refine ⟨_, rfl, ?_⟩; have n0_ := Aside0.mk (Kd.R_lower ho0 (below_size pB)); have n1_ := Aside0.mk (below_step pB hb); clear HB; have HO500 := n0_; have HB := n1_; clear n0_ n1_; (try clear hb); (try clear hb2); (try clear hk); (try clear hi); (try clear ho0); obtain ⟨Ao5, co5, eo5⟩ := Kd.R_slice HO500.out; subst eo5))
    go_loopg [5, 21] k (fun kq v5 v21 w' => ∃ (x5_1 : Int) (x21_1 : Int), v5 = .int .i64 x5_1 ∧ v21 = .int .i64 x21_1 ∧ Aside0 (grammar_Canonical.l0 kq l0 x5_1 t497 (t497.length : Int) x21_1 = some r) ∧ Aside0 (kq ≤ k) ∧ Aside0 (Kd.R k79 79 w' w.heap.size (fun _ => True) (.slice Ao5 t497.length co5) t497) ∧ Aside0 (Below w.heap.size w w'))
    case atStart => exact ⟨(0), (0), (by first | rfl | (simp; done) | (simp [*]; done)), (by first | rfl | (simp; done) | (simp [*]; done)), H', ⟨Nat.le_refl _⟩, ⟨pR HO500⟩, ⟨pB⟩⟩
    case round =>
      clear H'
      try clear c1
      try clear p2
      try clear c3
      try clear c3b0
      try clear c3b1
      obtain ⟨x5_1, x21_1, rfl, rfl, HA, HK1, HO_19, HB⟩ := hrel
      cases gk with
      | zero => exact absurd HA.out (by simp [grammar_Canonical.l0])
      | succ k1 =>
        have H := HA.out
        clear HA
        simp only [grammar_Canonical.l0] at H
        by_cases c6 : x21_1 < (t497.length : Int)
        · rw [if_pos c6] at H
          have c6b0 : decide (x21_1 < (t497.length : Int)) = true := decide_eq_true c6
          clear c6
          by_cases c7 : 0 ≤ x21_1
          · rw [if_pos c7] at H
            have c7b0 : decide (0 ≤ x21_1) = true := decide_eq_true c7
            clear c7
            by_cases c8 : x21_1 < (t497.length : Int)
            · rw [if_pos c8] at H
              have c8b0 : decide (x21_1 < (t497.length : Int)) = true := decide_eq_true c8
              clear c8
              have H' := Aside0.mk H
              clear H
              have p501 : 0 ≤ (x21_1 : Int) := of_decide_eq_true pA
              have q501 : x21_1 < (t497.length : Int) := of_decide_eq_true pA
              try (obtain ⟨Aq_, cq_, eq_⟩ := Kd.R_slice HO_19.out; subst eq_)
              obtain ⟨ad501, e501, hx501_0, hx501_1, hx501_2, hx501_3, hx501_4⟩ := at_T79 (Kd.R_reads' HO_19.out).2.2 x21_1 p501 q501
              cases e501
              replace p501 := eq_true p501
              replace q501 := eq_true q501
              go_wp2_with (first | ((with_reducible refine gate_dst (N := 7) rfl ?_); refine box_event ?hg (N := 7) ?hd (cs := #[.int .u8 0, .int .i64 0, .int .i64 0, .int .i64 0, .int .i64 0]) (t := 79) ?hr ?_; (case hd => rfl); (case hg => rfl); (case hr => first | (go_simp; done) | (go_simp; rfl)); intro gb502 hg w9 hbox hb; have n0_ := Aside0.mk (Kd.R_below (Kd.R_elderB (pR HO_19) gb502 (Nat.le_of_eq hg.symm)) hb); have n1_ := Aside0.mk (below_step pB hb); have n2_ := Aside0.mk (hbox); have n3_ := Aside0.mk ((by rw [hg]; exact (below_size pB) : w.heap.size ≤ gb502)); have n4_ := Aside0.mk ((by rw [hg]; exact (below_size pB) : w.heap.size ≤ gb502)); clear HO_19; clear HB; have HO_19 := n0_; have HB := n1_; have BK502 := n2_; have GW502 := n3_; have GE502 := n4_; clear n0_ n1_ n2_ n3_ n4_; clear hb hbox hg; have hcz10_0 : w9.cell? ⟨gb502, 0, none⟩ = some (.int .u8 0) := (blk_cell BK502.out 0).trans rfl; have hcz10_1 : w9.cell? ⟨gb502, 1, none⟩ = some (.int .i64 0) := (blk_cell BK502.out 1).trans rfl; have hcz10_2 : w9.cell? ⟨gb502, 2, none⟩ = some (.int .i64 0) := (blk_cell BK502.out 2).trans rfl; have hcz10_3 : w9.cell? ⟨gb502, 3, none⟩ = some (.int .i64 0) := (blk_cell BK502.out 3).trans rfl; have hcz10_4 : w9.cell? ⟨gb502, 4, none⟩ = some (.int .i64 0) := (blk_cell BK502.out 4).trans rfl; have hfz10_0 := blk_frozen BK502.out 0; have hfz10_1 := blk_frozen BK502.out 1; have hfz10_2 := blk_frozen BK502.out 2; have hfz10_3 := blk_frozen BK502.out 3; have hfz10_4 := blk_frozen BK502.out 4))
              go_roundg k1
              case measure => have := HK1.out; omega
              case rel => exact ⟨(wrap64 (x5_1 + ((rd_T79 t497 x21_1).f4))), (wrap64 (x21_1 + 1)), (by first | rfl | (simp; done) | (simp [*]; done)), (by first | rfl | (simp; done) | (simp [*]; done)), H', ⟨by have := HK1.out; omega⟩, ⟨by (with_reducible repeat (first | apply Kd.R_alloc | apply Kd.R_drewN | apply Kd.R_drew)); exact Kd.R_mono (Kd.R_far (p := ⟨gb502, 4, none⟩) (Kd.R_far (p := ⟨gb502, 3, none⟩) (Kd.R_far (p := ⟨gb502, 2, none⟩) (Kd.R_far (p := ⟨gb502, 1, none⟩) (Kd.R_far (p := ⟨gb502, 0, none⟩) (Kd.R_mono HO_19.out (fun k_ hk => (⟨hk, hk.2⟩ : _ ∧ k_ ≠ gb502))) (fun _ hk => hk.2) (.int .u8 ((rd_T79 t497 x21_1).f0))) (fun _ hk => hk.2) (.int .i64 ((rd_T79 t497 x21_1).f1))) (fun _ hk => hk.2) (.int .i64 ((rd_T79 t497 x21_1).f2))) (fun _ hk => hk.2) (.int .i64 ((rd_T79 t497 x21_1).f3))) (fun _ hk => hk.2) (.int .i64 ((rd_T79 t497 x21_1).f4))) (fun _ hk => trivial)⟩, ⟨by repeat (first | (with_reducible first | exact HB.out | apply below_alloc | apply pw_below_drewN | apply below_drew1 | refine below_set ?_ GE502.out) | exact HB.out)⟩⟩
            · rw [if_neg c8] at H
              exact absurd H (by simp)
          · rw [if_neg c7] at H
            exact absurd H (by simp)
        · rw [if_neg c6] at H
          have c6b0 : decide (x21_1 < (t497.length : Int)) = false := decide_eq_false c6
          clear c6
          replace H := Option.bind_eq_some_iff.mp H
          obtain ⟨⟨t503, t504⟩, A110, H⟩ := H
          replace H : ((pack_Bytes.f k1 t503).bind fun bt507 => (some ((strOfNums l0).toList == (strOfNums bt507.1).toList))) = some r := H
          have A11 := Aside0.mk A110
          clear A110
          replace H := Option.bind_eq_some_iff.mp H
          obtain ⟨⟨t507, t508⟩, A120, H⟩ := H
          replace H : (some ((strOfNums l0).toList == (strOfNums t507).toList)) = some r := H
          have A12 := Aside0.mk A120
          clear A120
          obtain rfl := Option.some.inj H
          go_wp2_with (first | ((with_reducible refine gate_callee (f := 11) rfl ?_); refine goesL_ (some 34) rfl rfl Tryz.func11 (by kernel_rfl) rfl #[.slice A0 l0.length c0, .int .i64 (wrap64 (8 * x5_1))] rfl pM ?_; (with_reducible refine (unpack_Bytes.calls _ _ l0 (wrap64 (8 * x5_1)) t503 t504 _ ?side1 ?side2 A11.out (Go.Proofs.YthghblmffdfbaaaGreatDoor.Gp.TopU.below HL.out pB)).mono ?_); (case side1 => repeat (first | exact (Kd.C_below HR0.out HB.out) | (with_reducible refine Kd.C_alloc ?_ _) | (with_reducible refine Kd.C_drewN ?_ _) | (with_reducible refine Kd.C_drew ?_))); (case side2 => exact HC0.out); rintro e w13 ⟨v505, rfl, ho0, hb⟩; refine ⟨_, rfl, ?_⟩; have n0_ := Aside0.mk (Kd.R_below (pR HO_19) hb); have n1_ := Aside0.mk (Kd.R_lower ho0 (below_size pB)); have n2_ := Aside0.mk (below_step pB hb); clear HO_19; clear HB; have HO_19 := n0_; have HO506 := n1_; have HB := n2_; clear n0_ n1_ n2_; (try clear hb); (try clear hb2); (try clear hk); (try clear hi); (try clear ho0); obtain ⟨Ao14, co14, eo14⟩ := Kd.R_slice HO506.out; subst eo14) | ((with_reducible refine gate_callee (f := 9) rfl ?_); refine goesL_ (some 39) rfl rfl Tryz.func9 (by kernel_rfl) rfl #[.slice Ao14 t503.length co14] rfl pM ?_; (with_reducible refine (pack_Bytes.calls k1 _ _ t503 t507 t508 _ ?side1 ?side2 A12.out).mono ?_); (case side1 => repeat (first | exact (Kd.R_reads' HO506.out).2.2 | (with_reducible refine Kd.C_alloc ?_ _) | (with_reducible refine Kd.C_drewN ?_ _) | (with_reducible refine Kd.C_drew ?_))); (case side2 => exact (Kd.R_reads' HO506.out).2.1); rintro e w15 ⟨v509, rfl, ho0, hb⟩; refine ⟨_, rfl, ?_⟩; have n0_ := Aside0.mk (Kd.R_below (pR HO_19) hb); have n1_ := Aside0.mk (Kd.R_elder' (pR HO506) (Kd.R_base ho0) hb); have n2_ := Aside0.mk (Kd.R_lower (Kd.R_new' ho0 (Kd.R_lt (pR HO506))) (below_size pB)); have n3_ := Aside0.mk (below_step pB hb); clear HO_19; clear HO506; clear HB; have HO_19 := n0_; have HO506 := n1_; have HO510 := n2_; have HB := n3_; clear n0_ n1_ n2_ n3_; (try clear hb); (try clear hb2); (try clear hk); (try clear hi); (try clear ho0); have hcv16 := Kd.C_string (P := Tryz.prog) (A := A0) (c := c0) Tryz.underlying22 Tryz.underlying5 Tryz.underlying9 (Kd.C_below HR0.out HB.out); have hcv17 := own_string (P := Tryz.prog) Tryz.underlying22 Tryz.underlying5 Tryz.underlying9 (Kd.own_of_R HO510.out)))
          go_ret
          exact ⟨by first | rfl | (simp [errW_none, errW_some] <;> rfl) | (simp [*, errW_none, errW_some] <;> rfl), pB⟩
  · rw [if_neg c3] at H
    have c3b0 : (t498 == 0) = false := beq_eq_false_iff_ne.mpr c3
    have c3b1 : (t498 != 0) = true := bne_iff_ne.mpr c3
    obtain rfl := Option.some.inj H
    go_enter Tryz.func13, Tryz.ntmps13
    go_wp2_with (first | ((with_reducible refine gate_callee (f := 35) rfl ?_); refine goesL_ (some 14) rfl rfl Tryz.func35 (by kernel_rfl) rfl #[.slice A0 l0.length c0] rfl pM ?_; (with_reducible refine (grammar_Groups.calls k _ _ l0 t497 t498 _ ?side1 ?side2 A2.out).mono ?_); (case side1 => repeat (first | exact HR0.out | (with_reducible refine Kd.C_alloc ?_ _) | (with_reducible refine Kd.C_drewN ?_ _) | (with_reducible refine Kd.C_drew ?_))); (case side2 => exact HC0.out); rintro e w18 ⟨v499, rfl, ho0, hb⟩; refine ⟨_, rfl, ?_⟩; have n0_ := Aside0.mk (Kd.R_lower ho0 (below_size pB)); have n1_ := Aside0.mk (below_step pB hb); clear HB; have HO500 := n0_; have HB := n1_; clear n0_ n1_; (try clear hb); (try clear hb2); (try clear hk); (try clear hi); (try clear ho0)))
    go_ret
    exact ⟨by first | rfl | (simp [errW_none, errW_some] <;> rfl) | (simp [*, errW_none, errW_some] <;> rfl), pB⟩
end Go.Proofs.YthghblmffdfbaaaGreatDoor.PWholePack
