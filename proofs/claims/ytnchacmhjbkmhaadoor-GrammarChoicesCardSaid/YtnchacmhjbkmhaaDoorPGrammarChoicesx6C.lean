/- (Halved.) Printed functions of a law, and their walks. -/
import Derived.Test.YtnchacmhjbkmhaaDoorXShortC
import Derived.Test.YtnchacmhjbkmhaaDoorPGrammarChoicesx0C
import Derived.Test.YtnchacmhjbkmhaaDoorPGrammarChoicesx1C
import Derived.Test.YtnchacmhjbkmhaaDoorPGrammarChoicesx2C
import Derived.Test.YtnchacmhjbkmhaaDoorPGrammarChoicesx3C
import Derived.Test.YtnchacmhjbkmhaaDoorPGrammarChoicesx5C
namespace Go.Proofs.YtnchacmhjbkmhaaDoor.PGrammarChoices
open Go.RowKit Go.Proofs.YtnchacmhjbkmhaaDoorW.PrintWords Go.Proofs.YtnchacmhjbkmhaaDoorW.PrintLast Go.Proofs.YtnchacmhjbkmhaaDoorW.PrintMore
open Go.Proofs.YtnchacmhjbkmhaaDoor.PUnBase
open Go.Proofs.YtnchacmhjbkmhaaDoor.POfBase (tagbyte_Of.f tagbyte_Of.calls tagbyte_Of.mono tagbyte_Of.mono_l)
attribute [local go_sem] max2_int min2_int max_two min_two max_three min_three max_four min_four   -- for this text's walks alone
set_option linter.unusedVariables false
set_option linter.unusedSimpArgs false
set_option maxHeartbeats 8000000
set_option maxRecDepth 100000
attribute [local go_sem high] eqA33
def pack_Bytes.f (k : Nat) (l0 : List Int) : Option (List Int × Int) := (word_Words.f k l0).bind fun bt203 => (if bt203.2 = true then ((pack_Words.f k bt203.1).bind fun t207 => (some (t207, 0))) else (some (([] : List Int), 9)))
theorem pack_Bytes.mono : ∀ a0 k, LeO (pack_Bytes.f k a0) (pack_Bytes.f (k + 1) a0) := by
 intro a0 k
 unfold pack_Bytes.f
 repeat' first
   | (with_reducible exact pack_Words.mono _ _)
   | (with_reducible exact word_Words.mono _ _)
   | (with_reducible exact LeO.refl _)
   | (with_reducible exact LeO.none _)
   | (with_reducible refine LeO.ite ?_ ?_)
   | (with_reducible refine LeO.bind ?_ (fun _ => ?_))
   | exact pack_Words.mono _ _
   | exact word_Words.mono _ _
   | exact LeO.none _
   | refine LeO.ite ?_ ?_
   | refine LeO.bind ?_ (fun _ => ?_)
theorem pack_Bytes.calls (k : Nat) (A0 : Option Addr) (c0 : Nat) (l0 : List Int) (r1 : List Int) (r2 : Int) (w : World) (hr0 : Kd.C (Kd.int .u8) w A0 l0.length l0) (hc0 : l0.length ≤ c0) (h : pack_Bytes.f k l0 = some (r1, r2)) :
  Calls Tryd.prog 31 #[.slice A0 l0.length c0] w fun e w' => ∃ v0_ : Value, e = .returned (.tuple #[v0_, .int .i64 r2]) ∧ Kd.R (Kd.int .u8) 5 w' w.heap.size (fun _ => True) v0_ r1 ∧ Below w.heap.size w w' := by
 have HR0 := Aside0.mk hr0
 have HC0 := Aside0.mk hc0
 clear hr0 hc0
 have HB := Aside0.mk (Below.refl w.heap.size w)
 have H : ((word_Words.f k l0).bind fun bt203 => (if bt203.2 = true then ((pack_Words.f k bt203.1).bind fun t207 => (some (t207, 0))) else (some (([] : List Int), 9)))) = some (r1, r2) := h
 clear h
 replace H := Option.bind_eq_some_iff.mp H
 obtain ⟨⟨t203, t204⟩, A20, H⟩ := H
 replace H : (if t204 = true then ((pack_Words.f k t203).bind fun t207 => (some (t207, 0))) else (some (([] : List Int), 9))) = some (r1, r2) := H
 have A2 := Aside0.mk A20
 clear A20
 by_cases c3 : t204 = true
 ·subst c3
  have H1 : ((pack_Words.f k t203).bind fun t207 => (some (t207, 0))) = some (r1, r2) := by rw [if_pos rfl] at H; exact H
  clear H
  have H := H1
  clear H1
  replace H := Option.bind_eq_some_iff.mp H
  obtain ⟨t207, A40, H⟩ := H
  replace H : (some (t207, 0)) = some (r1, r2) := H
  have A4 := Aside0.mk A40
  clear A40
  simp only [Option.some.injEq, Prod.mk.injEq] at H
  obtain ⟨rfl, rfl⟩ := H
  go_enter Tryd.func31, Tryd.ntmps31
  go_wp2_with (first | ((with_reducible refine gate_callee (f := 42) rfl ?_); refine goesL_ (some 8) rfl rfl Tryd.func42 (by kernel_rfl) rfl #[.slice A0 l0.length c0] rfl pM ?_; (with_reducible refine (word_Words.calls k _ _ l0 t203 true _ ?side1 ?side2 A2.out).mono ?_); (case side1 => repeat (first | exact HR0.out | (with_reducible refine Kd.C_alloc ?_ _) | (with_reducible refine Kd.C_drewN ?_ _) | (with_reducible refine Kd.C_drew ?_))); (case side2 => exact HC0.out); rintro e w5 ⟨v205, rfl, ho0, hb⟩; refine ⟨_, rfl, ?_⟩; have n0_ := Aside0.mk (Kd.R_lower ho0 (below_size pB)); have n1_ := Aside0.mk (below_step pB hb); clear HB; have HO206 := n0_; have HB := n1_; clear n0_ n1_; (try clear hb); (try clear hb2); (try clear hk); (try clear hi); (try clear ho0); obtain ⟨Ao6, co6, eo6⟩ := Kd.R_slice HO206.out; subst eo6) | ((with_reducible refine gate_callee (f := 43) rfl ?_); refine goesL_ (some 14) rfl rfl Tryd.func43 (by kernel_rfl) rfl #[.slice Ao6 t203.length co6] rfl pM ?_; (with_reducible refine (pack_Words.calls k _ _ t203 t207 _ ?side1 ?side2 A4.out).mono ?_); (case side1 => repeat (first | exact (Kd.R_reads' HO206.out).2.2 | (with_reducible refine Kd.C_alloc ?_ _) | (with_reducible refine Kd.C_drewN ?_ _) | (with_reducible refine Kd.C_drew ?_))); (case side2 => exact (Kd.R_reads' HO206.out).2.1); rintro e w7 ⟨v208, rfl, ho0, hb⟩; refine ⟨_, rfl, ?_⟩; have n0_ := Aside0.mk (Kd.R_below (pR HO206) hb); have n1_ := Aside0.mk (Kd.R_lower ho0 (below_size pB)); have n2_ := Aside0.mk (below_step pB hb); clear HO206; clear HB; have HO206 := n0_; have HO209 := n1_; have HB := n2_; clear n0_ n1_ n2_; (try clear hb); (try clear hb2); (try clear hk); (try clear hi); (try clear ho0)))
  go_ret2
  exact ⟨_, by first | rfl | (simp [errW_none, errW_some] <;> rfl) | (simp [*, errW_none, errW_some] <;> rfl), by (with_reducible repeat (first | apply Kd.R_alloc | apply Kd.R_drewN | apply Kd.R_drew)); exact HO209.out, pB⟩
 ·replace c3 := Bool.eq_false_iff.mpr c3
  subst c3
  have H1 : (some (([] : List Int), 9)) = some (r1, r2) := by rw [if_neg (show ¬ (false = true) by decide)] at H; exact H
  clear H
  have H := H1
  clear H1
  simp only [Option.some.injEq, Prod.mk.injEq] at H
  obtain ⟨rfl, rfl⟩ := H
  go_enter Tryd.func31, Tryd.ntmps31
  go_wp2_with (first | ((with_reducible refine gate_callee (f := 42) rfl ?_); refine goesL_ (some 8) rfl rfl Tryd.func42 (by kernel_rfl) rfl #[.slice A0 l0.length c0] rfl pM ?_; (with_reducible refine (word_Words.calls k _ _ l0 t203 false _ ?side1 ?side2 A2.out).mono ?_); (case side1 => repeat (first | exact HR0.out | (with_reducible refine Kd.C_alloc ?_ _) | (with_reducible refine Kd.C_drewN ?_ _) | (with_reducible refine Kd.C_drew ?_))); (case side2 => exact HC0.out); rintro e w8 ⟨v205, rfl, ho0, hb⟩; refine ⟨_, rfl, ?_⟩; have n0_ := Aside0.mk (Kd.R_lower ho0 (below_size pB)); have n1_ := Aside0.mk (below_step pB hb); clear HB; have HO206 := n0_; have HB := n1_; clear n0_ n1_; (try clear hb); (try clear hb2); (try clear hk); (try clear hi); (try clear ho0)))
  go_ret2
  exact ⟨_, by first | rfl | (simp [errW_none, errW_some] <;> rfl) | (simp [*, errW_none, errW_some] <;> rfl), by first | exact Kd.R_nil _ _ _ _ _ | exact Kd.N_nil _ _ _ _ _ | exact Kd.V_nil _ _ _ _ _ | exact Kd.Q_nil _ _ _ _ _ | exact Kd.S_nil _ _ _ _ _, pB⟩
def grammar_Canonical.l0 : Nat → List Int → Int → List (S33) → Int → Int → Option (Bool)
 | 0, _, _, _, _, _ => none
 | k + 1, x0, x5, x19, x20, x21 => if x21 < x20 then (if 0 ≤ x21 then (if x21 < (x19.length : Int) then (grammar_Canonical.l0 k x0 (wrap64 (x5 + ((rd_T33 x19 x21).f4))) x19 x20 (wrap64 (x21 + 1))) else (none)) else (none)) else ((unpack_Bytes.f x0 (wrap64 (8 * x5))).bind fun bt216 => ((pack_Bytes.f k bt216.1).bind fun bt220 => (some ((strOfNums x0).toList == (strOfNums bt220.1).toList))))
def grammar_Canonical.f (k : Nat) (l0 : List Int) : Option (Bool) := (grammar_Groups.f k l0).bind fun bt210 => (if bt210.2 = 0 then (grammar_Canonical.l0 k l0 0 bt210.1 (bt210.1.length : Int) 0) else (some false))
theorem grammar_Canonical.mono_l : ∀ k, (∀ y0 y1 y2 y3 y4, LeO (grammar_Canonical.l0 k y0 y1 y2 y3 y4) (grammar_Canonical.l0 (k + 1) y0 y1 y2 y3 y4))
 | 0 => fun _ _ _ _ _ r h => by simp [grammar_Canonical.l0] at h
 | k + 1 => by
  have ih0 := grammar_Canonical.mono_l k
  ·intro y0 y1 y2 y3 y4
   unfold grammar_Canonical.l0
   repeat' first
   | (with_reducible exact ih0 _ _ _ _ _)
   | (with_reducible exact grammar_Groups.mono _ _)
   | (with_reducible exact pack_Bytes.mono _ _)
   | (with_reducible exact LeO.refl _)
   | (with_reducible exact LeO.none _)
   | (with_reducible refine LeO.ite ?_ ?_)
   | (with_reducible refine LeO.bind ?_ (fun _ => ?_))
   | exact ih0 _ _ _ _ _
   | exact grammar_Groups.mono _ _
   | exact pack_Bytes.mono _ _
   | exact LeO.none _
   | refine LeO.ite ?_ ?_
   | refine LeO.bind ?_ (fun _ => ?_)
theorem grammar_Canonical.mono : ∀ a0 k, LeO (grammar_Canonical.f k a0) (grammar_Canonical.f (k + 1) a0) := by
 intro a0 k
 have ih0 := grammar_Canonical.mono_l k
 unfold grammar_Canonical.f
 repeat' first
   | (with_reducible exact ih0 _ _ _ _ _)
   | (with_reducible exact grammar_Groups.mono _ _)
   | (with_reducible exact pack_Bytes.mono _ _)
   | (with_reducible exact LeO.refl _)
   | (with_reducible exact LeO.none _)
   | (with_reducible refine LeO.ite ?_ ?_)
   | (with_reducible refine LeO.bind ?_ (fun _ => ?_))
   | exact ih0 _ _ _ _ _
   | exact grammar_Groups.mono _ _
   | exact pack_Bytes.mono _ _
   | exact LeO.none _
   | refine LeO.ite ?_ ?_
   | refine LeO.bind ?_ (fun _ => ?_)
theorem grammar_Canonical.calls (k : Nat) (A0 : Option Addr) (c0 : Nat) (l0 : List Int) (r : Bool) (w : World) (hr0 : Kd.C (Kd.int .u8) w A0 l0.length l0) (hc0 : l0.length ≤ c0) (h : grammar_Canonical.f k l0 = some r) {aL aT : Addr} (hL : Go.Proofs.YtnchacmhjbkmhaaDoor.Un.LaidU w aL aT) :
  Calls Tryd.prog 14 #[.slice A0 l0.length c0] w fun e w' => e = .returned (.bool r) ∧ Below w.heap.size w w' := by
 have HL := Aside0.mk hL
 clear hL
 have hu33 := Tryd.underlying33
 have HR0 := Aside0.mk hr0
 have HC0 := Aside0.mk hc0
 clear hr0 hc0
 have HB := Aside0.mk (Below.refl w.heap.size w)
 have H : ((grammar_Groups.f k l0).bind fun bt210 => (if bt210.2 = 0 then (grammar_Canonical.l0 k l0 0 bt210.1 (bt210.1.length : Int) 0) else (some false))) = some r := h
 clear h
 replace H := Option.bind_eq_some_iff.mp H
 obtain ⟨⟨t210, t211⟩, A20, H⟩ := H
 replace H : (if t211 = 0 then (grammar_Canonical.l0 k l0 0 t210 (t210.length : Int) 0) else (some false)) = some r := H
 have A2 := Aside0.mk A20
 clear A20
 by_cases c3 : t211 = 0
 ·rw [if_pos c3] at H
  have c3b0 : (t211 == 0) = true := beq_iff_eq.mpr c3
  have c3b1 : (t211 != 0) = false := bne_eq_false_iff_eq.mpr c3
  clear c3
  have H' := Aside0.mk H
  clear H
  go_enter Tryd.func14, Tryd.ntmps14
  go_wp2_with (first | ((with_reducible refine gate_callee (f := 10) rfl ?_); refine goesL_ (some 14) rfl rfl Tryd.func10 (by kernel_rfl) rfl #[.slice A0 l0.length c0] rfl pM ?_; (with_reducible refine (grammar_Groups.calls k _ _ l0 t210 t211 _ ?side1 ?side2 A2.out).mono ?_); (case side1 => repeat (first | exact HR0.out | (with_reducible refine Kd.C_alloc ?_ _) | (with_reducible refine Kd.C_drewN ?_ _) | (with_reducible refine Kd.C_drew ?_))); (case side2 => exact HC0.out); rintro e w4 ⟨v212, rfl, ho0, hb⟩; refine ⟨_, rfl, ?_⟩; have n0_ := Aside0.mk (Kd.R_lower ho0 (below_size pB)); have n1_ := Aside0.mk (below_step pB hb); clear HB; have HO213 := n0_; have HB := n1_; clear n0_ n1_; (try clear hb); (try clear hb2); (try clear hk); (try clear hi); (try clear ho0); obtain ⟨Ao5, co5, eo5⟩ := Kd.R_slice HO213.out; subst eo5))
  go_loopg [5, 21] k (fun kq v5 v21 w' => ∃ (x5_1 : Int) (x21_1 : Int), v5 = .int .i64 x5_1 ∧ v21 = .int .i64 x21_1 ∧ Aside0 (grammar_Canonical.l0 kq l0 x5_1 t210 (t210.length : Int) x21_1 = some r) ∧ Aside0 (kq ≤ k) ∧ Aside0 (Kd.R k33 33 w' w.heap.size (fun _ => True) (.slice Ao5 t210.length co5) t210) ∧ Aside0 (Below w.heap.size w w'))
  case atStart => exact ⟨(0), (0), (by first | rfl | (simp; done) | (simp [*]; done)), (by first | rfl | (simp; done) | (simp [*]; done)), H', ⟨Nat.le_refl _⟩, ⟨pR HO213⟩, ⟨pB⟩⟩
  case round =>
   clear H'
   try clear c1
   try clear p2
   try clear c3
   try clear c3b0
   try clear c3b1
   obtain ⟨x5_1, x21_1, rfl, rfl, HA, HK1, HO_19, HB⟩ := hrel
   cases gk with
   | zero => exact absurd HA.out (by simp [grammar_Canonical.l0])
   | succ k1 =>
    have H := HA.out
    clear HA
    simp only [grammar_Canonical.l0] at H
    by_cases c6 : x21_1 < (t210.length : Int)
    ·rw [if_pos c6] at H
     have c6b0 : decide (x21_1 < (t210.length : Int)) = true := decide_eq_true c6
     clear c6
     by_cases c7 : 0 ≤ x21_1
     ·rw [if_pos c7] at H
      have c7b0 : decide (0 ≤ x21_1) = true := decide_eq_true c7
      clear c7
      by_cases c8 : x21_1 < (t210.length : Int)
      ·rw [if_pos c8] at H
       have c8b0 : decide (x21_1 < (t210.length : Int)) = true := decide_eq_true c8
       clear c8
       have H' := Aside0.mk H
       clear H
       have p214 : 0 ≤ (x21_1 : Int) := of_decide_eq_true pA
       have q214 : x21_1 < (t210.length : Int) := of_decide_eq_true pA
       try (obtain ⟨Aq_, cq_, eq_⟩ := Kd.R_slice HO_19.out; subst eq_)
       obtain ⟨ad214, e214, hx214_0, hx214_1, hx214_2, hx214_3, hx214_4⟩ := at_T33 (Kd.R_reads' HO_19.out).2.2 x21_1 p214 q214
       cases e214
       replace p214 := eq_true p214
       replace q214 := eq_true q214
       go_wp2_with (first | ((with_reducible refine gate_dst (N := 7) rfl ?_); refine box_event ?hg (N := 7) ?hd (cs := #[.int .u8 0, .int .i64 0, .int .i64 0, .int .i64 0, .int .i64 0]) (t := 33) ?hr ?_; (case hd => rfl); (case hg => rfl); (case hr => first | (go_simp; done) | (go_simp; rfl)); intro gb215 hg w9 hbox hb; have n0_ := Aside0.mk (Kd.R_below (Kd.R_elderB (pR HO_19) gb215 (Nat.le_of_eq hg.symm)) hb); have n1_ := Aside0.mk (below_step pB hb); have n2_ := Aside0.mk (hbox); have n3_ := Aside0.mk ((by rw [hg]; exact (below_size pB) : w.heap.size ≤ gb215)); have n4_ := Aside0.mk ((by rw [hg]; exact (below_size pB) : w.heap.size ≤ gb215)); clear HO_19; clear HB; have HO_19 := n0_; have HB := n1_; have BK215 := n2_; have GW215 := n3_; have GE215 := n4_; clear n0_ n1_ n2_ n3_ n4_; clear hb hbox hg; have hcz10_0 : w9.cell? ⟨gb215, 0, none⟩ = some (.int .u8 0) := (blk_cell BK215.out 0).trans rfl; have hcz10_1 : w9.cell? ⟨gb215, 1, none⟩ = some (.int .i64 0) := (blk_cell BK215.out 1).trans rfl; have hcz10_2 : w9.cell? ⟨gb215, 2, none⟩ = some (.int .i64 0) := (blk_cell BK215.out 2).trans rfl; have hcz10_3 : w9.cell? ⟨gb215, 3, none⟩ = some (.int .i64 0) := (blk_cell BK215.out 3).trans rfl; have hcz10_4 : w9.cell? ⟨gb215, 4, none⟩ = some (.int .i64 0) := (blk_cell BK215.out 4).trans rfl; have hfz10_0 := blk_frozen BK215.out 0; have hfz10_1 := blk_frozen BK215.out 1; have hfz10_2 := blk_frozen BK215.out 2; have hfz10_3 := blk_frozen BK215.out 3; have hfz10_4 := blk_frozen BK215.out 4))
       go_roundg k1
       case measure => have := HK1.out; omega
       case rel => exact ⟨(wrap64 (x5_1 + ((rd_T33 t210 x21_1).f4))), (wrap64 (x21_1 + 1)), (by first | rfl | (simp; done) | (simp [*]; done)), (by first | rfl | (simp; done) | (simp [*]; done)), H', ⟨by have := HK1.out; omega⟩, ⟨by (with_reducible repeat (first | apply Kd.R_alloc | apply Kd.R_drewN | apply Kd.R_drew)); exact Kd.R_mono (Kd.R_far (p := ⟨gb215, 4, none⟩) (Kd.R_far (p := ⟨gb215, 3, none⟩) (Kd.R_far (p := ⟨gb215, 2, none⟩) (Kd.R_far (p := ⟨gb215, 1, none⟩) (Kd.R_far (p := ⟨gb215, 0, none⟩) (Kd.R_mono HO_19.out (fun k_ hk => (⟨hk, hk.2⟩ : _ ∧ k_ ≠ gb215))) (fun _ hk => hk.2) (.int .u8 ((rd_T33 t210 x21_1).f0))) (fun _ hk => hk.2) (.int .i64 ((rd_T33 t210 x21_1).f1))) (fun _ hk => hk.2) (.int .i64 ((rd_T33 t210 x21_1).f2))) (fun _ hk => hk.2) (.int .i64 ((rd_T33 t210 x21_1).f3))) (fun _ hk => hk.2) (.int .i64 ((rd_T33 t210 x21_1).f4))) (fun _ hk => trivial)⟩, ⟨by repeat (first | (with_reducible first | exact HB.out | apply below_alloc | apply pw_below_drewN | apply below_drew1 | refine below_set ?_ GE215.out) | exact HB.out)⟩⟩
      ·rw [if_neg c8] at H
       exact absurd H (by simp)
     ·rw [if_neg c7] at H
      exact absurd H (by simp)
    ·rw [if_neg c6] at H
     have c6b0 : decide (x21_1 < (t210.length : Int)) = false := decide_eq_false c6
     clear c6
     replace H := Option.bind_eq_some_iff.mp H
     obtain ⟨⟨t216, t217⟩, A110, H⟩ := H
     replace H : ((pack_Bytes.f k1 t216).bind fun bt220 => (some ((strOfNums l0).toList == (strOfNums bt220.1).toList))) = some r := H
     have A11 := Aside0.mk A110
     clear A110
     replace H := Option.bind_eq_some_iff.mp H
     obtain ⟨⟨t220, t221⟩, A120, H⟩ := H
     replace H : (some ((strOfNums l0).toList == (strOfNums t220).toList)) = some r := H
     have A12 := Aside0.mk A120
     clear A120
     obtain rfl := Option.some.inj H
     go_wp2_with (first | ((with_reducible refine gate_callee (f := 29) rfl ?_); refine goesL_ (some 34) rfl rfl Tryd.func29 (by kernel_rfl) rfl #[.slice A0 l0.length c0, .int .i64 (wrap64 (8 * x5_1))] rfl pM ?_; (with_reducible refine (unpack_Bytes.calls _ _ l0 (wrap64 (8 * x5_1)) t216 t217 _ ?side1 ?side2 A11.out (Go.Proofs.YtnchacmhjbkmhaaDoor.Un.LaidU.below HL.out pB)).mono ?_); (case side1 => repeat (first | exact (Kd.C_below HR0.out HB.out) | (with_reducible refine Kd.C_alloc ?_ _) | (with_reducible refine Kd.C_drewN ?_ _) | (with_reducible refine Kd.C_drew ?_))); (case side2 => exact HC0.out); rintro e w13 ⟨v218, rfl, ho0, hb⟩; refine ⟨_, rfl, ?_⟩; have n0_ := Aside0.mk (Kd.R_below (pR HO_19) hb); have n1_ := Aside0.mk (Kd.R_lower ho0 (below_size pB)); have n2_ := Aside0.mk (below_step pB hb); clear HO_19; clear HB; have HO_19 := n0_; have HO219 := n1_; have HB := n2_; clear n0_ n1_ n2_; (try clear hb); (try clear hb2); (try clear hk); (try clear hi); (try clear ho0); obtain ⟨Ao14, co14, eo14⟩ := Kd.R_slice HO219.out; subst eo14) | ((with_reducible refine gate_callee (f := 31) rfl ?_); refine goesL_ (some 39) rfl rfl Tryd.func31 (by kernel_rfl) rfl #[.slice Ao14 t216.length co14] rfl pM ?_; (with_reducible refine (pack_Bytes.calls k1 _ _ t216 t220 t221 _ ?side1 ?side2 A12.out).mono ?_); (case side1 => repeat (first | exact (Kd.R_reads' HO219.out).2.2 | (with_reducible refine Kd.C_alloc ?_ _) | (with_reducible refine Kd.C_drewN ?_ _) | (with_reducible refine Kd.C_drew ?_))); (case side2 => exact (Kd.R_reads' HO219.out).2.1); rintro e w15 ⟨v222, rfl, ho0, hb⟩; refine ⟨_, rfl, ?_⟩; have n0_ := Aside0.mk (Kd.R_below (pR HO_19) hb); have n1_ := Aside0.mk (Kd.R_elder' (pR HO219) (Kd.R_base ho0) hb); have n2_ := Aside0.mk (Kd.R_lower (Kd.R_new' ho0 (Kd.R_lt (pR HO219))) (below_size pB)); have n3_ := Aside0.mk (below_step pB hb); clear HO_19; clear HO219; clear HB; have HO_19 := n0_; have HO219 := n1_; have HO223 := n2_; have HB := n3_; clear n0_ n1_ n2_ n3_; (try clear hb); (try clear hb2); (try clear hk); (try clear hi); (try clear ho0); have hcv16 := Kd.C_string (P := Tryd.prog) (A := A0) (c := c0) Tryd.underlying22 Tryd.underlying5 Tryd.underlying9 (Kd.C_below HR0.out HB.out); have hcv17 := own_string (P := Tryd.prog) Tryd.underlying22 Tryd.underlying5 Tryd.underlying9 (Kd.own_of_R HO223.out)))
     go_ret
     exact ⟨by first | rfl | (simp [errW_none, errW_some] <;> rfl) | (simp [*, errW_none, errW_some] <;> rfl), pB⟩
 ·rw [if_neg c3] at H
  have c3b0 : (t211 == 0) = false := beq_eq_false_iff_ne.mpr c3
  have c3b1 : (t211 != 0) = true := bne_iff_ne.mpr c3
  obtain rfl := Option.some.inj H
  go_enter Tryd.func14, Tryd.ntmps14
  go_wp2_with (first | ((with_reducible refine gate_callee (f := 10) rfl ?_); refine goesL_ (some 14) rfl rfl Tryd.func10 (by kernel_rfl) rfl #[.slice A0 l0.length c0] rfl pM ?_; (with_reducible refine (grammar_Groups.calls k _ _ l0 t210 t211 _ ?side1 ?side2 A2.out).mono ?_); (case side1 => repeat (first | exact HR0.out | (with_reducible refine Kd.C_alloc ?_ _) | (with_reducible refine Kd.C_drewN ?_ _) | (with_reducible refine Kd.C_drew ?_))); (case side2 => exact HC0.out); rintro e w18 ⟨v212, rfl, ho0, hb⟩; refine ⟨_, rfl, ?_⟩; have n0_ := Aside0.mk (Kd.R_lower ho0 (below_size pB)); have n1_ := Aside0.mk (below_step pB hb); clear HB; have HO213 := n0_; have HB := n1_; clear n0_ n1_; (try clear hb); (try clear hb2); (try clear hk); (try clear hi); (try clear ho0)))
  go_ret
  exact ⟨by first | rfl | (simp [errW_none, errW_some] <;> rfl) | (simp [*, errW_none, errW_some] <;> rfl), pB⟩
def grammar_Ways.f (l0 : List Int) : Option Int := Go.Proofs.YtnchacmhjbkmhaaDoor.UnWays.waysF l0
theorem grammar_Ways.calls (A0 : Option Addr) (c0 : Nat) (l0 : List Int) (r : Int) (w : World) (hr0 : Kd.C (Kd.int .u64) w A0 l0.length l0) (hc0 : l0.length ≤ c0) (h : grammar_Ways.f l0 = some r) :
  Calls Tryd.prog 16 #[.slice A0 l0.length c0] w fun e w' => e = .returned (.int .u64 r) ∧ Below w.heap.size w w' := Go.Proofs.YtnchacmhjbkmhaaDoor.UnWays.waysF_calls hr0 hc0 h
def grammar_Shortest.f (l0 : List Int) : Option Int := Go.Proofs.YtnchacmhjbkmhaaDoor.UnShortest.shortestF l0
theorem grammar_Shortest.calls (A0 : Option Addr) (c0 : Nat) (l0 : List Int) (r : Int) (w : World) (hr0 : Kd.C (Kd.int .u64) w A0 l0.length l0) (hc0 : l0.length ≤ c0) (h : grammar_Shortest.f l0 = some r) :
  Calls Tryd.prog 18 #[.slice A0 l0.length c0] w fun e w' => e = .returned (.int .i64 r) ∧ Below w.heap.size w w' := Go.Proofs.YtnchacmhjbkmhaaDoor.UnShortest.shortestF_calls hr0 hc0 h
def capnplaw23_awake.f (k : Nat)  : Option (Bool) := (grammar_Groups.f k (([0, 2, 1, 5] : List Int))).bind fun bt230 => ((grammar_Groups.f k (([255, 1] : List Int))).bind fun bt237 => ((grammar_Ways.f (([0] : List Int))).bind fun t244 => (if t244 = 256 then ((grammar_Ways.f (([5] : List Int))).bind fun t248 => (if t248 = 128 then ((grammar_Ways.f ([] : List Int)).bind fun t249 => (if t249 = 1 then ((grammar_Shortest.f (([0] : List Int))).bind fun t253 => (if t253 = 2 then ((grammar_Shortest.f ([] : List Int)).bind fun t254 => (if t254 = 0 then ((grammar_Shortest.f (([72340172838076673, 1103823438081, 72340172838076673] : List Int))).bind fun t255 => (if t255 = 26 then (if bt230.2 = 0 then (if bt237.2 = 10 then (if (bt230.1.length : Int) = 2 then (if 1 < (bt230.1.length : Int) then (if (((rd_T33 bt230.1 1).f0) == 1 && (((rd_T33 bt230.1 1).f1) == 2 && (((rd_T33 bt230.1 1).f2) == 4 && (((rd_T33 bt230.1 1).f3) == 3 && (((rd_T33 bt230.1 1).f4) == 1))))) = true then ((grammar_Accepts.f k (([3, 5, 0] : List Int)) (([5] : List Int))).bind fun t263 => (if t263 = true then ((grammar_Canonical.f k (([3, 5, 0] : List Int))).bind fun t267 => (if t267 = true then (none) else ((grammar_Canonical.f k (([1, 5] : List Int))).bind fun t271 => (if t271 = true then ((grammar_Accepts.f k (([1] : List Int)) ([] : List Int)).bind fun t275 => (some (!t275))) else (none))))) else (none))) else (none)) else (none)) else (none)) else (none)) else (none)) else (none))) else (none))) else (none))) else (none))) else (none))) else (none))))
theorem capnplaw23_awake.mono : ∀ k, LeO (capnplaw23_awake.f k ) (capnplaw23_awake.f (k + 1) ) := by
 intro  k
 unfold capnplaw23_awake.f
 repeat' first
   | (with_reducible exact grammar_Accepts.mono _ _ _)
   | (with_reducible exact grammar_Canonical.mono _ _)
   | (with_reducible exact grammar_Groups.mono _ _)
   | (with_reducible exact LeO.refl _)
   | (with_reducible exact LeO.none _)
   | (with_reducible refine LeO.ite ?_ ?_)
   | (with_reducible refine LeO.bind ?_ (fun _ => ?_))
   | exact grammar_Accepts.mono _ _ _
   | exact grammar_Canonical.mono _ _
   | exact grammar_Groups.mono _ _
   | exact LeO.none _
   | refine LeO.ite ?_ ?_
   | refine LeO.bind ?_ (fun _ => ?_)
theorem capnplaw23_awake.calls (k : Nat)  (r : Bool) (w : World) (h : capnplaw23_awake.f k  = some r) {aL aT : Addr} (hL : Go.Proofs.YtnchacmhjbkmhaaDoor.Un.LaidU w aL aT) :
  Calls Tryd.prog 9 #[] w fun e w' => e = .returned (.bool r) ∧ Below w.heap.size w w' := by
 have HL := Aside0.mk hL
 clear hL
 have hu33 := Tryd.underlying33
 have HB := Aside0.mk (Below.refl w.heap.size w)
 have H : ((grammar_Groups.f k (([0, 2, 1, 5] : List Int))).bind fun bt230 => ((grammar_Groups.f k (([255, 1] : List Int))).bind fun bt237 => ((grammar_Ways.f (([0] : List Int))).bind fun t244 => (if t244 = 256 then ((grammar_Ways.f (([5] : List Int))).bind fun t248 => (if t248 = 128 then ((grammar_Ways.f ([] : List Int)).bind fun t249 => (if t249 = 1 then ((grammar_Shortest.f (([0] : List Int))).bind fun t253 => (if t253 = 2 then ((grammar_Shortest.f ([] : List Int)).bind fun t254 => (if t254 = 0 then ((grammar_Shortest.f (([72340172838076673, 1103823438081, 72340172838076673] : List Int))).bind fun t255 => (if t255 = 26 then (if bt230.2 = 0 then (if bt237.2 = 10 then (if (bt230.1.length : Int) = 2 then (if 1 < (bt230.1.length : Int) then (if (((rd_T33 bt230.1 1).f0) == 1 && (((rd_T33 bt230.1 1).f1) == 2 && (((rd_T33 bt230.1 1).f2) == 4 && (((rd_T33 bt230.1 1).f3) == 3 && (((rd_T33 bt230.1 1).f4) == 1))))) = true then ((grammar_Accepts.f k (([3, 5, 0] : List Int)) (([5] : List Int))).bind fun t263 => (if t263 = true then ((grammar_Canonical.f k (([3, 5, 0] : List Int))).bind fun t267 => (if t267 = true then (none) else ((grammar_Canonical.f k (([1, 5] : List Int))).bind fun t271 => (if t271 = true then ((grammar_Accepts.f k (([1] : List Int)) ([] : List Int)).bind fun t275 => (some (!t275))) else (none))))) else (none))) else (none)) else (none)) else (none)) else (none)) else (none)) else (none))) else (none))) else (none))) else (none))) else (none))) else (none))))) = some r := h
 clear h
 obtain ⟨y224, hy224⟩ : ∃ y_ : List Int, y_ = (([72340172838076673, 1103823438081, 72340172838076673] : List Int)) := ⟨_, rfl⟩
 replace H : ((grammar_Groups.f k (([0, 2, 1, 5] : List Int))).bind fun bt230 => ((grammar_Groups.f k (([255, 1] : List Int))).bind fun bt237 => ((grammar_Ways.f (([0] : List Int))).bind fun t244 => (if t244 = 256 then ((grammar_Ways.f (([5] : List Int))).bind fun t248 => (if t248 = 128 then ((grammar_Ways.f ([] : List Int)).bind fun t249 => (if t249 = 1 then ((grammar_Shortest.f (([0] : List Int))).bind fun t253 => (if t253 = 2 then ((grammar_Shortest.f ([] : List Int)).bind fun t254 => (if t254 = 0 then ((grammar_Shortest.f y224).bind fun t255 => (if t255 = 26 then (if bt230.2 = 0 then (if bt237.2 = 10 then (if (bt230.1.length : Int) = 2 then (if 1 < (bt230.1.length : Int) then (if (((rd_T33 bt230.1 1).f0) == 1 && (((rd_T33 bt230.1 1).f1) == 2 && (((rd_T33 bt230.1 1).f2) == 4 && (((rd_T33 bt230.1 1).f3) == 3 && (((rd_T33 bt230.1 1).f4) == 1))))) = true then ((grammar_Accepts.f k (([3, 5, 0] : List Int)) (([5] : List Int))).bind fun t263 => (if t263 = true then ((grammar_Canonical.f k (([3, 5, 0] : List Int))).bind fun t267 => (if t267 = true then (none) else ((grammar_Canonical.f k (([1, 5] : List Int))).bind fun t271 => (if t271 = true then ((grammar_Accepts.f k (([1] : List Int)) ([] : List Int)).bind fun t275 => (some (!t275))) else (none))))) else (none))) else (none)) else (none)) else (none)) else (none)) else (none)) else (none))) else (none))) else (none))) else (none))) else (none))) else (none))))) = some r := by first | (rw [hy224]; with_reducible exact H) | (have H2_ := (Option.bind_some _ _).symm.trans H; rw [hy224]; with_reducible exact H2_) | (have H2_ := (Option.bind_some _ _).symm.trans H; with_reducible exact H2_) | with_reducible exact H | (rw [hy224]; exact H) | exact H
 have Ny224 := Aside0.mk hy224
 clear hy224
 obtain ⟨y227, hy227⟩ : ∃ y_ : List Int, y_ = (([0, 2, 1, 5] : List Int)) := ⟨_, rfl⟩
 replace H : ((grammar_Groups.f k y227).bind fun bt230 => ((grammar_Groups.f k (([255, 1] : List Int))).bind fun bt237 => ((grammar_Ways.f (([0] : List Int))).bind fun t244 => (if t244 = 256 then ((grammar_Ways.f (([5] : List Int))).bind fun t248 => (if t248 = 128 then ((grammar_Ways.f ([] : List Int)).bind fun t249 => (if t249 = 1 then ((grammar_Shortest.f (([0] : List Int))).bind fun t253 => (if t253 = 2 then ((grammar_Shortest.f ([] : List Int)).bind fun t254 => (if t254 = 0 then ((grammar_Shortest.f y224).bind fun t255 => (if t255 = 26 then (if bt230.2 = 0 then (if bt237.2 = 10 then (if (bt230.1.length : Int) = 2 then (if 1 < (bt230.1.length : Int) then (if (((rd_T33 bt230.1 1).f0) == 1 && (((rd_T33 bt230.1 1).f1) == 2 && (((rd_T33 bt230.1 1).f2) == 4 && (((rd_T33 bt230.1 1).f3) == 3 && (((rd_T33 bt230.1 1).f4) == 1))))) = true then ((grammar_Accepts.f k (([3, 5, 0] : List Int)) (([5] : List Int))).bind fun t263 => (if t263 = true then ((grammar_Canonical.f k (([3, 5, 0] : List Int))).bind fun t267 => (if t267 = true then (none) else ((grammar_Canonical.f k (([1, 5] : List Int))).bind fun t271 => (if t271 = true then ((grammar_Accepts.f k (([1] : List Int)) ([] : List Int)).bind fun t275 => (some (!t275))) else (none))))) else (none))) else (none)) else (none)) else (none)) else (none)) else (none)) else (none))) else (none))) else (none))) else (none))) else (none))) else (none))))) = some r := by first | (rw [hy227]; with_reducible exact H) | (have H2_ := (Option.bind_some _ _).symm.trans H; rw [hy227]; with_reducible exact H2_) | (have H2_ := (Option.bind_some _ _).symm.trans H; with_reducible exact H2_) | with_reducible exact H | (rw [hy227]; exact H) | exact H
 have Ny227 := Aside0.mk hy227
 clear hy227
 replace H := Option.bind_eq_some_iff.mp H
 obtain ⟨⟨t230, t231⟩, A10, H⟩ := H
 replace H : ((grammar_Groups.f k (([255, 1] : List Int))).bind fun bt237 => ((grammar_Ways.f (([0] : List Int))).bind fun t244 => (if t244 = 256 then ((grammar_Ways.f (([5] : List Int))).bind fun t248 => (if t248 = 128 then ((grammar_Ways.f ([] : List Int)).bind fun t249 => (if t249 = 1 then ((grammar_Shortest.f (([0] : List Int))).bind fun t253 => (if t253 = 2 then ((grammar_Shortest.f ([] : List Int)).bind fun t254 => (if t254 = 0 then ((grammar_Shortest.f y224).bind fun t255 => (if t255 = 26 then (if t231 = 0 then (if bt237.2 = 10 then (if (t230.length : Int) = 2 then (if 1 < (t230.length : Int) then (if (((rd_T33 t230 1).f0) == 1 && (((rd_T33 t230 1).f1) == 2 && (((rd_T33 t230 1).f2) == 4 && (((rd_T33 t230 1).f3) == 3 && (((rd_T33 t230 1).f4) == 1))))) = true then ((grammar_Accepts.f k (([3, 5, 0] : List Int)) (([5] : List Int))).bind fun t263 => (if t263 = true then ((grammar_Canonical.f k (([3, 5, 0] : List Int))).bind fun t267 => (if t267 = true then (none) else ((grammar_Canonical.f k (([1, 5] : List Int))).bind fun t271 => (if t271 = true then ((grammar_Accepts.f k (([1] : List Int)) ([] : List Int)).bind fun t275 => (some (!t275))) else (none))))) else (none))) else (none)) else (none)) else (none)) else (none)) else (none)) else (none))) else (none))) else (none))) else (none))) else (none))) else (none)))) = some r := H
 have A1 := Aside0.mk A10
 clear A10
 obtain ⟨y234, hy234⟩ : ∃ y_ : List Int, y_ = (([255, 1] : List Int)) := ⟨_, rfl⟩
 replace H : ((grammar_Groups.f k y234).bind fun bt237 => ((grammar_Ways.f (([0] : List Int))).bind fun t244 => (if t244 = 256 then ((grammar_Ways.f (([5] : List Int))).bind fun t248 => (if t248 = 128 then ((grammar_Ways.f ([] : List Int)).bind fun t249 => (if t249 = 1 then ((grammar_Shortest.f (([0] : List Int))).bind fun t253 => (if t253 = 2 then ((grammar_Shortest.f ([] : List Int)).bind fun t254 => (if t254 = 0 then ((grammar_Shortest.f y224).bind fun t255 => (if t255 = 26 then (if t231 = 0 then (if bt237.2 = 10 then (if (t230.length : Int) = 2 then (if 1 < (t230.length : Int) then (if (((rd_T33 t230 1).f0) == 1 && (((rd_T33 t230 1).f1) == 2 && (((rd_T33 t230 1).f2) == 4 && (((rd_T33 t230 1).f3) == 3 && (((rd_T33 t230 1).f4) == 1))))) = true then ((grammar_Accepts.f k (([3, 5, 0] : List Int)) (([5] : List Int))).bind fun t263 => (if t263 = true then ((grammar_Canonical.f k (([3, 5, 0] : List Int))).bind fun t267 => (if t267 = true then (none) else ((grammar_Canonical.f k (([1, 5] : List Int))).bind fun t271 => (if t271 = true then ((grammar_Accepts.f k (([1] : List Int)) ([] : List Int)).bind fun t275 => (some (!t275))) else (none))))) else (none))) else (none)) else (none)) else (none)) else (none)) else (none)) else (none))) else (none))) else (none))) else (none))) else (none))) else (none)))) = some r := by first | (rw [hy234]; with_reducible exact H) | (have H2_ := (Option.bind_some _ _).symm.trans H; rw [hy234]; with_reducible exact H2_) | (have H2_ := (Option.bind_some _ _).symm.trans H; with_reducible exact H2_) | with_reducible exact H | (rw [hy234]; exact H) | exact H
 have Ny234 := Aside0.mk hy234
 clear hy234
 replace H := Option.bind_eq_some_iff.mp H
 obtain ⟨⟨t237, t238⟩, A20, H⟩ := H
 replace H : ((grammar_Ways.f (([0] : List Int))).bind fun t244 => (if t244 = 256 then ((grammar_Ways.f (([5] : List Int))).bind fun t248 => (if t248 = 128 then ((grammar_Ways.f ([] : List Int)).bind fun t249 => (if t249 = 1 then ((grammar_Shortest.f (([0] : List Int))).bind fun t253 => (if t253 = 2 then ((grammar_Shortest.f ([] : List Int)).bind fun t254 => (if t254 = 0 then ((grammar_Shortest.f y224).bind fun t255 => (if t255 = 26 then (if t231 = 0 then (if t238 = 10 then (if (t230.length : Int) = 2 then (if 1 < (t230.length : Int) then (if (((rd_T33 t230 1).f0) == 1 && (((rd_T33 t230 1).f1) == 2 && (((rd_T33 t230 1).f2) == 4 && (((rd_T33 t230 1).f3) == 3 && (((rd_T33 t230 1).f4) == 1))))) = true then ((grammar_Accepts.f k (([3, 5, 0] : List Int)) (([5] : List Int))).bind fun t263 => (if t263 = true then ((grammar_Canonical.f k (([3, 5, 0] : List Int))).bind fun t267 => (if t267 = true then (none) else ((grammar_Canonical.f k (([1, 5] : List Int))).bind fun t271 => (if t271 = true then ((grammar_Accepts.f k (([1] : List Int)) ([] : List Int)).bind fun t275 => (some (!t275))) else (none))))) else (none))) else (none)) else (none)) else (none)) else (none)) else (none)) else (none))) else (none))) else (none))) else (none))) else (none))) else (none))) = some r := H
 have A2 := Aside0.mk A20
 clear A20
 obtain ⟨y241, hy241⟩ : ∃ y_ : List Int, y_ = (([0] : List Int)) := ⟨_, rfl⟩
 replace H : ((grammar_Ways.f y241).bind fun t244 => (if t244 = 256 then ((grammar_Ways.f (([5] : List Int))).bind fun t248 => (if t248 = 128 then ((grammar_Ways.f ([] : List Int)).bind fun t249 => (if t249 = 1 then ((grammar_Shortest.f (([0] : List Int))).bind fun t253 => (if t253 = 2 then ((grammar_Shortest.f ([] : List Int)).bind fun t254 => (if t254 = 0 then ((grammar_Shortest.f y224).bind fun t255 => (if t255 = 26 then (if t231 = 0 then (if t238 = 10 then (if (t230.length : Int) = 2 then (if 1 < (t230.length : Int) then (if (((rd_T33 t230 1).f0) == 1 && (((rd_T33 t230 1).f1) == 2 && (((rd_T33 t230 1).f2) == 4 && (((rd_T33 t230 1).f3) == 3 && (((rd_T33 t230 1).f4) == 1))))) = true then ((grammar_Accepts.f k (([3, 5, 0] : List Int)) (([5] : List Int))).bind fun t263 => (if t263 = true then ((grammar_Canonical.f k (([3, 5, 0] : List Int))).bind fun t267 => (if t267 = true then (none) else ((grammar_Canonical.f k (([1, 5] : List Int))).bind fun t271 => (if t271 = true then ((grammar_Accepts.f k (([1] : List Int)) ([] : List Int)).bind fun t275 => (some (!t275))) else (none))))) else (none))) else (none)) else (none)) else (none)) else (none)) else (none)) else (none))) else (none))) else (none))) else (none))) else (none))) else (none))) = some r := by first | (rw [hy241]; with_reducible exact H) | (have H2_ := (Option.bind_some _ _).symm.trans H; rw [hy241]; with_reducible exact H2_) | (have H2_ := (Option.bind_some _ _).symm.trans H; with_reducible exact H2_) | with_reducible exact H | (rw [hy241]; exact H) | exact H
 have Ny241 := Aside0.mk hy241
 clear hy241
 replace H := Option.bind_eq_some_iff.mp H
 obtain ⟨t244, A30, H⟩ := H
 replace H : (if t244 = 256 then ((grammar_Ways.f (([5] : List Int))).bind fun t248 => (if t248 = 128 then ((grammar_Ways.f ([] : List Int)).bind fun t249 => (if t249 = 1 then ((grammar_Shortest.f (([0] : List Int))).bind fun t253 => (if t253 = 2 then ((grammar_Shortest.f ([] : List Int)).bind fun t254 => (if t254 = 0 then ((grammar_Shortest.f y224).bind fun t255 => (if t255 = 26 then (if t231 = 0 then (if t238 = 10 then (if (t230.length : Int) = 2 then (if 1 < (t230.length : Int) then (if (((rd_T33 t230 1).f0) == 1 && (((rd_T33 t230 1).f1) == 2 && (((rd_T33 t230 1).f2) == 4 && (((rd_T33 t230 1).f3) == 3 && (((rd_T33 t230 1).f4) == 1))))) = true then ((grammar_Accepts.f k (([3, 5, 0] : List Int)) (([5] : List Int))).bind fun t263 => (if t263 = true then ((grammar_Canonical.f k (([3, 5, 0] : List Int))).bind fun t267 => (if t267 = true then (none) else ((grammar_Canonical.f k (([1, 5] : List Int))).bind fun t271 => (if t271 = true then ((grammar_Accepts.f k (([1] : List Int)) ([] : List Int)).bind fun t275 => (some (!t275))) else (none))))) else (none))) else (none)) else (none)) else (none)) else (none)) else (none)) else (none))) else (none))) else (none))) else (none))) else (none))) else (none)) = some r := H
 have A3 := Aside0.mk A30
 clear A30
 by_cases c4 : t244 = 256
 ·rw [if_pos c4] at H
  have c4b0 : (t244 == 256) = true := beq_iff_eq.mpr c4
  have c4b1 : (t244 != 256) = false := bne_eq_false_iff_eq.mpr c4
  clear c4
  obtain ⟨y245, hy245⟩ : ∃ y_ : List Int, y_ = (([5] : List Int)) := ⟨_, rfl⟩
  replace H : ((grammar_Ways.f y245).bind fun t248 => (if t248 = 128 then ((grammar_Ways.f ([] : List Int)).bind fun t249 => (if t249 = 1 then ((grammar_Shortest.f (([0] : List Int))).bind fun t253 => (if t253 = 2 then ((grammar_Shortest.f ([] : List Int)).bind fun t254 => (if t254 = 0 then ((grammar_Shortest.f y224).bind fun t255 => (if t255 = 26 then (if t231 = 0 then (if t238 = 10 then (if (t230.length : Int) = 2 then (if 1 < (t230.length : Int) then (if (((rd_T33 t230 1).f0) == 1 && (((rd_T33 t230 1).f1) == 2 && (((rd_T33 t230 1).f2) == 4 && (((rd_T33 t230 1).f3) == 3 && (((rd_T33 t230 1).f4) == 1))))) = true then ((grammar_Accepts.f k (([3, 5, 0] : List Int)) (([5] : List Int))).bind fun t263 => (if t263 = true then ((grammar_Canonical.f k (([3, 5, 0] : List Int))).bind fun t267 => (if t267 = true then (none) else ((grammar_Canonical.f k (([1, 5] : List Int))).bind fun t271 => (if t271 = true then ((grammar_Accepts.f k (([1] : List Int)) ([] : List Int)).bind fun t275 => (some (!t275))) else (none))))) else (none))) else (none)) else (none)) else (none)) else (none)) else (none)) else (none))) else (none))) else (none))) else (none))) else (none))) = some r := by first | (rw [hy245]; with_reducible exact H) | (have H2_ := (Option.bind_some _ _).symm.trans H; rw [hy245]; with_reducible exact H2_) | (have H2_ := (Option.bind_some _ _).symm.trans H; with_reducible exact H2_) | with_reducible exact H | (rw [hy245]; exact H) | exact H
  have Ny245 := Aside0.mk hy245
  clear hy245
  replace H := Option.bind_eq_some_iff.mp H
  obtain ⟨t248, A50, H⟩ := H
  replace H : (if t248 = 128 then ((grammar_Ways.f ([] : List Int)).bind fun t249 => (if t249 = 1 then ((grammar_Shortest.f (([0] : List Int))).bind fun t253 => (if t253 = 2 then ((grammar_Shortest.f ([] : List Int)).bind fun t254 => (if t254 = 0 then ((grammar_Shortest.f y224).bind fun t255 => (if t255 = 26 then (if t231 = 0 then (if t238 = 10 then (if (t230.length : Int) = 2 then (if 1 < (t230.length : Int) then (if (((rd_T33 t230 1).f0) == 1 && (((rd_T33 t230 1).f1) == 2 && (((rd_T33 t230 1).f2) == 4 && (((rd_T33 t230 1).f3) == 3 && (((rd_T33 t230 1).f4) == 1))))) = true then ((grammar_Accepts.f k (([3, 5, 0] : List Int)) (([5] : List Int))).bind fun t263 => (if t263 = true then ((grammar_Canonical.f k (([3, 5, 0] : List Int))).bind fun t267 => (if t267 = true then (none) else ((grammar_Canonical.f k (([1, 5] : List Int))).bind fun t271 => (if t271 = true then ((grammar_Accepts.f k (([1] : List Int)) ([] : List Int)).bind fun t275 => (some (!t275))) else (none))))) else (none))) else (none)) else (none)) else (none)) else (none)) else (none)) else (none))) else (none))) else (none))) else (none))) else (none)) = some r := H
  have A5 := Aside0.mk A50
  clear A50
  by_cases c6 : t248 = 128
  ·rw [if_pos c6] at H
   have c6b0 : (t248 == 128) = true := beq_iff_eq.mpr c6
   have c6b1 : (t248 != 128) = false := bne_eq_false_iff_eq.mpr c6
   clear c6
   replace H := Option.bind_eq_some_iff.mp H
   obtain ⟨t249, A70, H⟩ := H
   replace H : (if t249 = 1 then ((grammar_Shortest.f (([0] : List Int))).bind fun t253 => (if t253 = 2 then ((grammar_Shortest.f ([] : List Int)).bind fun t254 => (if t254 = 0 then ((grammar_Shortest.f y224).bind fun t255 => (if t255 = 26 then (if t231 = 0 then (if t238 = 10 then (if (t230.length : Int) = 2 then (if 1 < (t230.length : Int) then (if (((rd_T33 t230 1).f0) == 1 && (((rd_T33 t230 1).f1) == 2 && (((rd_T33 t230 1).f2) == 4 && (((rd_T33 t230 1).f3) == 3 && (((rd_T33 t230 1).f4) == 1))))) = true then ((grammar_Accepts.f k (([3, 5, 0] : List Int)) (([5] : List Int))).bind fun t263 => (if t263 = true then ((grammar_Canonical.f k (([3, 5, 0] : List Int))).bind fun t267 => (if t267 = true then (none) else ((grammar_Canonical.f k (([1, 5] : List Int))).bind fun t271 => (if t271 = true then ((grammar_Accepts.f k (([1] : List Int)) ([] : List Int)).bind fun t275 => (some (!t275))) else (none))))) else (none))) else (none)) else (none)) else (none)) else (none)) else (none)) else (none))) else (none))) else (none))) else (none)) = some r := H
   have A7 := Aside0.mk A70
   clear A70
   by_cases c8 : t249 = 1
   ·rw [if_pos c8] at H
    have c8b0 : (t249 == 1) = true := beq_iff_eq.mpr c8
    have c8b1 : (t249 != 1) = false := bne_eq_false_iff_eq.mpr c8
    clear c8
    obtain ⟨y250, hy250⟩ : ∃ y_ : List Int, y_ = (([0] : List Int)) := ⟨_, rfl⟩
    replace H : ((grammar_Shortest.f y250).bind fun t253 => (if t253 = 2 then ((grammar_Shortest.f ([] : List Int)).bind fun t254 => (if t254 = 0 then ((grammar_Shortest.f y224).bind fun t255 => (if t255 = 26 then (if t231 = 0 then (if t238 = 10 then (if (t230.length : Int) = 2 then (if 1 < (t230.length : Int) then (if (((rd_T33 t230 1).f0) == 1 && (((rd_T33 t230 1).f1) == 2 && (((rd_T33 t230 1).f2) == 4 && (((rd_T33 t230 1).f3) == 3 && (((rd_T33 t230 1).f4) == 1))))) = true then ((grammar_Accepts.f k (([3, 5, 0] : List Int)) (([5] : List Int))).bind fun t263 => (if t263 = true then ((grammar_Canonical.f k (([3, 5, 0] : List Int))).bind fun t267 => (if t267 = true then (none) else ((grammar_Canonical.f k (([1, 5] : List Int))).bind fun t271 => (if t271 = true then ((grammar_Accepts.f k (([1] : List Int)) ([] : List Int)).bind fun t275 => (some (!t275))) else (none))))) else (none))) else (none)) else (none)) else (none)) else (none)) else (none)) else (none))) else (none))) else (none))) = some r := by first | (rw [hy250]; with_reducible exact H) | (have H2_ := (Option.bind_some _ _).symm.trans H; rw [hy250]; with_reducible exact H2_) | (have H2_ := (Option.bind_some _ _).symm.trans H; with_reducible exact H2_) | with_reducible exact H | (rw [hy250]; exact H) | exact H
    have Ny250 := Aside0.mk hy250
    clear hy250
    replace H := Option.bind_eq_some_iff.mp H
    obtain ⟨t253, A90, H⟩ := H
    replace H : (if t253 = 2 then ((grammar_Shortest.f ([] : List Int)).bind fun t254 => (if t254 = 0 then ((grammar_Shortest.f y224).bind fun t255 => (if t255 = 26 then (if t231 = 0 then (if t238 = 10 then (if (t230.length : Int) = 2 then (if 1 < (t230.length : Int) then (if (((rd_T33 t230 1).f0) == 1 && (((rd_T33 t230 1).f1) == 2 && (((rd_T33 t230 1).f2) == 4 && (((rd_T33 t230 1).f3) == 3 && (((rd_T33 t230 1).f4) == 1))))) = true then ((grammar_Accepts.f k (([3, 5, 0] : List Int)) (([5] : List Int))).bind fun t263 => (if t263 = true then ((grammar_Canonical.f k (([3, 5, 0] : List Int))).bind fun t267 => (if t267 = true then (none) else ((grammar_Canonical.f k (([1, 5] : List Int))).bind fun t271 => (if t271 = true then ((grammar_Accepts.f k (([1] : List Int)) ([] : List Int)).bind fun t275 => (some (!t275))) else (none))))) else (none))) else (none)) else (none)) else (none)) else (none)) else (none)) else (none))) else (none))) else (none)) = some r := H
    have A9 := Aside0.mk A90
    clear A90
    by_cases c10 : t253 = 2
    ·rw [if_pos c10] at H
     have c10b0 : (t253 == 2) = true := beq_iff_eq.mpr c10
     have c10b1 : (t253 != 2) = false := bne_eq_false_iff_eq.mpr c10
     clear c10
     replace H := Option.bind_eq_some_iff.mp H
     obtain ⟨t254, A110, H⟩ := H
     replace H : (if t254 = 0 then ((grammar_Shortest.f y224).bind fun t255 => (if t255 = 26 then (if t231 = 0 then (if t238 = 10 then (if (t230.length : Int) = 2 then (if 1 < (t230.length : Int) then (if (((rd_T33 t230 1).f0) == 1 && (((rd_T33 t230 1).f1) == 2 && (((rd_T33 t230 1).f2) == 4 && (((rd_T33 t230 1).f3) == 3 && (((rd_T33 t230 1).f4) == 1))))) = true then ((grammar_Accepts.f k (([3, 5, 0] : List Int)) (([5] : List Int))).bind fun t263 => (if t263 = true then ((grammar_Canonical.f k (([3, 5, 0] : List Int))).bind fun t267 => (if t267 = true then (none) else ((grammar_Canonical.f k (([1, 5] : List Int))).bind fun t271 => (if t271 = true then ((grammar_Accepts.f k (([1] : List Int)) ([] : List Int)).bind fun t275 => (some (!t275))) else (none))))) else (none))) else (none)) else (none)) else (none)) else (none)) else (none)) else (none))) else (none)) = some r := H
     have A11 := Aside0.mk A110
     clear A110
     by_cases c12 : t254 = 0
     ·rw [if_pos c12] at H
      have c12b0 : (t254 == 0) = true := beq_iff_eq.mpr c12
      have c12b1 : (t254 != 0) = false := bne_eq_false_iff_eq.mpr c12
      clear c12
      replace H := Option.bind_eq_some_iff.mp H
      obtain ⟨t255, A130, H⟩ := H
      replace H : (if t255 = 26 then (if t231 = 0 then (if t238 = 10 then (if (t230.length : Int) = 2 then (if 1 < (t230.length : Int) then (if (((rd_T33 t230 1).f0) == 1 && (((rd_T33 t230 1).f1) == 2 && (((rd_T33 t230 1).f2) == 4 && (((rd_T33 t230 1).f3) == 3 && (((rd_T33 t230 1).f4) == 1))))) = true then ((grammar_Accepts.f k (([3, 5, 0] : List Int)) (([5] : List Int))).bind fun t263 => (if t263 = true then ((grammar_Canonical.f k (([3, 5, 0] : List Int))).bind fun t267 => (if t267 = true then (none) else ((grammar_Canonical.f k (([1, 5] : List Int))).bind fun t271 => (if t271 = true then ((grammar_Accepts.f k (([1] : List Int)) ([] : List Int)).bind fun t275 => (some (!t275))) else (none))))) else (none))) else (none)) else (none)) else (none)) else (none)) else (none)) else (none)) = some r := H
      have A13 := Aside0.mk A130
      clear A130
      by_cases c14 : t255 = 26
      ·rw [if_pos c14] at H
       have c14b0 : (t255 == 26) = true := beq_iff_eq.mpr c14
       have c14b1 : (t255 != 26) = false := bne_eq_false_iff_eq.mpr c14
       clear c14
       by_cases c15 : t231 = 0
       ·rw [if_pos c15] at H
        have c15b0 : (t231 == 0) = true := beq_iff_eq.mpr c15
        have c15b1 : (t231 != 0) = false := bne_eq_false_iff_eq.mpr c15
        clear c15
        by_cases c16 : t238 = 10
        ·rw [if_pos c16] at H
         have c16b0 : (t238 == 10) = true := beq_iff_eq.mpr c16
         have c16b1 : (t238 != 10) = false := bne_eq_false_iff_eq.mpr c16
         clear c16
         by_cases c17 : (t230.length : Int) = 2
         ·rw [if_pos c17] at H
          have c17b0 : ((t230.length : Int) == 2) = true := beq_iff_eq.mpr c17
          have c17b1 : ((t230.length : Int) != 2) = false := bne_eq_false_iff_eq.mpr c17
          clear c17
          by_cases c18 : 1 < (t230.length : Int)
          ·rw [if_pos c18] at H
           have c18b0 : decide (1 < (t230.length : Int)) = true := decide_eq_true c18
           have c18b1 : decide (1 < t230.length) = true := decide_eq_true (by omega)
           clear c18
           by_cases c19 : (((rd_T33 t230 1).f0) == 1 && (((rd_T33 t230 1).f1) == 2 && (((rd_T33 t230 1).f2) == 4 && (((rd_T33 t230 1).f3) == 3 && (((rd_T33 t230 1).f4) == 1))))) = true
           ·rw [if_pos c19] at H
            have c19b0 : (((rd_T33 t230 1).f0) == 1 && (((rd_T33 t230 1).f1) == 2 && (((rd_T33 t230 1).f2) == 4 && (((rd_T33 t230 1).f3) == 3 && (((rd_T33 t230 1).f4) == 1))))) = true := c19
            (try (have c19b1 : decide (((rd_T33 t230 1).f0) = 1 && (((rd_T33 t230 1).f1) == 2 && (((rd_T33 t230 1).f2) == 4 && (((rd_T33 t230 1).f3) == 3 && (((rd_T33 t230 1).f4) == 1))))) = true := by simpa using c19))
            (try (have c19b2 : (((rd_T33 t230 1).f0) == 1 && (((rd_T33 t230 1).f1) == 2 && (((rd_T33 t230 1).f2) == 4 && (((rd_T33 t230 1).f3) == 3 && (((rd_T33 t230 1).f4) == 1))))) = true := by simpa using c19))
            clear c19
            obtain ⟨y257, hy257⟩ : ∃ y_ : List Int, y_ = (([3, 5, 0] : List Int)) := ⟨_, rfl⟩
            replace H : ((grammar_Accepts.f k y257 (([5] : List Int))).bind fun t263 => (if t263 = true then ((grammar_Canonical.f k (([3, 5, 0] : List Int))).bind fun t267 => (if t267 = true then (none) else ((grammar_Canonical.f k (([1, 5] : List Int))).bind fun t271 => (if t271 = true then ((grammar_Accepts.f k (([1] : List Int)) ([] : List Int)).bind fun t275 => (some (!t275))) else (none))))) else (none))) = some r := by first | (rw [hy257]; with_reducible exact H) | (have H2_ := (Option.bind_some _ _).symm.trans H; rw [hy257]; with_reducible exact H2_) | (have H2_ := (Option.bind_some _ _).symm.trans H; with_reducible exact H2_) | with_reducible exact H | (rw [hy257]; exact H) | exact H
            have Ny257 := Aside0.mk hy257
            clear hy257
            obtain ⟨y260, hy260⟩ : ∃ y_ : List Int, y_ = (([5] : List Int)) := ⟨_, rfl⟩
            replace H : ((grammar_Accepts.f k y257 y260).bind fun t263 => (if t263 = true then ((grammar_Canonical.f k (([3, 5, 0] : List Int))).bind fun t267 => (if t267 = true then (none) else ((grammar_Canonical.f k (([1, 5] : List Int))).bind fun t271 => (if t271 = true then ((grammar_Accepts.f k (([1] : List Int)) ([] : List Int)).bind fun t275 => (some (!t275))) else (none))))) else (none))) = some r := by first | (rw [hy260]; with_reducible exact H) | (have H2_ := (Option.bind_some _ _).symm.trans H; rw [hy260]; with_reducible exact H2_) | (have H2_ := (Option.bind_some _ _).symm.trans H; with_reducible exact H2_) | with_reducible exact H | (rw [hy260]; exact H) | exact H
            have Ny260 := Aside0.mk hy260
            clear hy260
            replace H := Option.bind_eq_some_iff.mp H
            obtain ⟨t263, A200, H⟩ := H
            replace H : (if t263 = true then ((grammar_Canonical.f k (([3, 5, 0] : List Int))).bind fun t267 => (if t267 = true then (none) else ((grammar_Canonical.f k (([1, 5] : List Int))).bind fun t271 => (if t271 = true then ((grammar_Accepts.f k (([1] : List Int)) ([] : List Int)).bind fun t275 => (some (!t275))) else (none))))) else (none)) = some r := H
            have A20 := Aside0.mk A200
            clear A200
            by_cases c21 : t263 = true
            ·subst c21
             have H1 : ((grammar_Canonical.f k (([3, 5, 0] : List Int))).bind fun t267 => (if t267 = true then (none) else ((grammar_Canonical.f k (([1, 5] : List Int))).bind fun t271 => (if t271 = true then ((grammar_Accepts.f k (([1] : List Int)) ([] : List Int)).bind fun t275 => (some (!t275))) else (none))))) = some r := by rw [if_pos rfl] at H; exact H
             clear H
             have H := H1
             clear H1
             obtain ⟨y264, hy264⟩ : ∃ y_ : List Int, y_ = (([3, 5, 0] : List Int)) := ⟨_, rfl⟩
             replace H : ((grammar_Canonical.f k y264).bind fun t267 => (if t267 = true then (none) else ((grammar_Canonical.f k (([1, 5] : List Int))).bind fun t271 => (if t271 = true then ((grammar_Accepts.f k (([1] : List Int)) ([] : List Int)).bind fun t275 => (some (!t275))) else (none))))) = some r := by first | (rw [hy264]; with_reducible exact H) | (have H2_ := (Option.bind_some _ _).symm.trans H; rw [hy264]; with_reducible exact H2_) | (have H2_ := (Option.bind_some _ _).symm.trans H; with_reducible exact H2_) | with_reducible exact H | (rw [hy264]; exact H) | exact H
             have Ny264 := Aside0.mk hy264
             clear hy264
             replace H := Option.bind_eq_some_iff.mp H
             obtain ⟨t267, A220, H⟩ := H
             replace H : (if t267 = true then (none) else ((grammar_Canonical.f k (([1, 5] : List Int))).bind fun t271 => (if t271 = true then ((grammar_Accepts.f k (([1] : List Int)) ([] : List Int)).bind fun t275 => (some (!t275))) else (none)))) = some r := H
             have A22 := Aside0.mk A220
             clear A220
             by_cases c23 : t267 = true
             ·subst c23
              have H1 : (none) = some r := by rw [if_pos rfl] at H; exact H
              clear H
              have H := H1
              clear H1
              exact absurd H (by simp)
             ·replace c23 := Bool.eq_false_iff.mpr c23
              subst c23
              have H1 : ((grammar_Canonical.f k (([1, 5] : List Int))).bind fun t271 => (if t271 = true then ((grammar_Accepts.f k (([1] : List Int)) ([] : List Int)).bind fun t275 => (some (!t275))) else (none))) = some r := by rw [if_neg (show ¬ (false = true) by decide)] at H; exact H
              clear H
              have H := H1
              clear H1
              obtain ⟨y268, hy268⟩ : ∃ y_ : List Int, y_ = (([1, 5] : List Int)) := ⟨_, rfl⟩
              replace H : ((grammar_Canonical.f k y268).bind fun t271 => (if t271 = true then ((grammar_Accepts.f k (([1] : List Int)) ([] : List Int)).bind fun t275 => (some (!t275))) else (none))) = some r := by first | (rw [hy268]; with_reducible exact H) | (have H2_ := (Option.bind_some _ _).symm.trans H; rw [hy268]; with_reducible exact H2_) | (have H2_ := (Option.bind_some _ _).symm.trans H; with_reducible exact H2_) | with_reducible exact H | (rw [hy268]; exact H) | exact H
              have Ny268 := Aside0.mk hy268
              clear hy268
              replace H := Option.bind_eq_some_iff.mp H
              obtain ⟨t271, A240, H⟩ := H
              replace H : (if t271 = true then ((grammar_Accepts.f k (([1] : List Int)) ([] : List Int)).bind fun t275 => (some (!t275))) else (none)) = some r := H
              have A24 := Aside0.mk A240
              clear A240
              by_cases c25 : t271 = true
              ·subst c25
               have H1 : ((grammar_Accepts.f k (([1] : List Int)) ([] : List Int)).bind fun t275 => (some (!t275))) = some r := by rw [if_pos rfl] at H; exact H
               clear H
               have H := H1
               clear H1
               obtain ⟨y272, hy272⟩ : ∃ y_ : List Int, y_ = (([1] : List Int)) := ⟨_, rfl⟩
               replace H : ((grammar_Accepts.f k y272 ([] : List Int)).bind fun t275 => (some (!t275))) = some r := by first | (rw [hy272]; with_reducible exact H) | (have H2_ := (Option.bind_some _ _).symm.trans H; rw [hy272]; with_reducible exact H2_) | (have H2_ := (Option.bind_some _ _).symm.trans H; with_reducible exact H2_) | with_reducible exact H | (rw [hy272]; exact H) | exact H
               have Ny272 := Aside0.mk hy272
               clear hy272
               replace H := Option.bind_eq_some_iff.mp H
               obtain ⟨t275, A260, H⟩ := H
               replace H : (some (!t275)) = some r := H
               have A26 := Aside0.mk A260
               clear A260
               obtain rfl := Option.some.inj H
               go_enter Tryd.func9, Tryd.ntmps9
               try simp only [List.append_eq, List.cons_append, List.nil_append]
               go_wp2_with (first | ((with_reducible refine gate_dst (N := 9) rfl ?_); (try (refine gate_guard (by rfl) ?_; dsimp only)); refine Kd.R_lit (Kd.int .u64) _ 37 ?hg (N := 9) ?hd (xs := ([72340172838076673, 1103823438081, 72340172838076673] : List Int)) (inner := [.int .u64 72340172838076673, .int .u64 1103823438081, .int .u64 72340172838076673]) (ok := fun _ => True) (okp := fun _ => True) ?hr ?hp (fun _ hk => hk) trivial (Below.refl _ _) (Nat.le_refl _) (by simp) ?_; (case hd => rfl); (case hg => rfl); (case hr => first | (go_simp; done) | (go_simp; rfl)); (case hp => exact (Reps.one (show Kd.M (Kd.int .u64) _ _ _ 72340172838076673 [.int .u64 72340172838076673] from rfl) (Reps.one (show Kd.M (Kd.int .u64) _ _ _ 1103823438081 [.int .u64 1103823438081] from rfl) (Reps.one (show Kd.M (Kd.int .u64) _ _ _ 72340172838076673 [.int .u64 72340172838076673] from rfl) (Reps.none _ _))))); intro v225 w27 ho28 hb hg_ hnew_; clear hg_ hnew_; (first | rw [← Ny224.out] at ho28 | (simp only [Int.reduceToNat] at ho28; rw [← Ny224.out] at ho28)); have n0_ := Aside0.mk (Kd.R_lower ho28 (below_size pB)); have n1_ := Aside0.mk (below_step pB hb); clear HB; have HO226 := n0_; have HB := n1_; clear n0_ n1_; clear hb ho28) | ((with_reducible refine gate_dst (N := 11) rfl ?_); (try (refine gate_guard (by rfl) ?_; dsimp only)); refine Kd.R_lit (Kd.int .u8) _ 5 ?hg (N := 11) ?hd (xs := ([0, 2, 1, 5] : List Int)) (inner := [.int .u8 0, .int .u8 2, .int .u8 1, .int .u8 5]) (ok := fun _ => True) (okp := fun _ => True) ?hr ?hp (fun _ hk => hk) trivial (Below.refl _ _) (Nat.le_refl _) (by simp) ?_; (case hd => rfl); (case hg => rfl); (case hr => first | (go_simp; done) | (go_simp; rfl)); (case hp => exact (Reps.one (show Kd.M (Kd.int .u8) _ _ _ 0 [.int .u8 0] from rfl) (Reps.one (show Kd.M (Kd.int .u8) _ _ _ 2 [.int .u8 2] from rfl) (Reps.one (show Kd.M (Kd.int .u8) _ _ _ 1 [.int .u8 1] from rfl) (Reps.one (show Kd.M (Kd.int .u8) _ _ _ 5 [.int .u8 5] from rfl) (Reps.none _ _)))))); intro v228 w29 ho30 hb hg_ hnew_; clear hg_ hnew_; (first | rw [← Ny227.out] at ho30 | (simp only [Int.reduceToNat] at ho30; rw [← Ny227.out] at ho30)); have n0_ := Aside0.mk (Kd.R_below (pR HO226) hb); have n1_ := Aside0.mk (Kd.R_lower ho30 (below_size pB)); have n2_ := Aside0.mk (below_step pB hb); clear HO226; clear HB; have HO226 := n0_; have HO229 := n1_; have HB := n2_; clear n0_ n1_ n2_; clear hb ho30; obtain ⟨Ao31, co31, eo31⟩ := Kd.R_slice HO229.out; subst eo31) | ((with_reducible refine gate_callee (f := 10) rfl ?_); refine goesL_ (some 12) rfl rfl Tryd.func10 (by kernel_rfl) rfl #[.slice Ao31 y227.length co31] rfl pM ?_; (with_reducible refine (grammar_Groups.calls k _ _ y227 t230 t231 _ ?side1 ?side2 A1.out).mono ?_); (case side1 => repeat (first | exact (Kd.R_reads' HO229.out).2.2 | (with_reducible refine Kd.C_alloc ?_ _) | (with_reducible refine Kd.C_drewN ?_ _) | (with_reducible refine Kd.C_drew ?_))); (case side2 => exact (Kd.R_reads' HO229.out).2.1); rintro e w32 ⟨v232, rfl, ho0, hb⟩; refine ⟨_, rfl, ?_⟩; have n0_ := Aside0.mk (Kd.R_below (pR HO226) hb); have n1_ := Aside0.mk (Kd.R_below (pR HO229) hb); have n2_ := Aside0.mk (Kd.R_lower ho0 (below_size pB)); have n3_ := Aside0.mk (below_step pB hb); clear HO226; clear HO229; clear HB; have HO226 := n0_; have HO229 := n1_; have HO233 := n2_; have HB := n3_; clear n0_ n1_ n2_ n3_; (try clear hb); (try clear hb2); (try clear hk); (try clear hi); (try clear ho0)) | ((with_reducible refine gate_dst (N := 16) rfl ?_); (try (refine gate_guard (by rfl) ?_; dsimp only)); refine Kd.R_lit (Kd.int .u8) _ 5 ?hg (N := 16) ?hd (xs := ([255, 1] : List Int)) (inner := [.int .u8 255, .int .u8 1]) (ok := fun _ => True) (okp := fun _ => True) ?hr ?hp (fun _ hk => hk) trivial (Below.refl _ _) (Nat.le_refl _) (by simp) ?_; (case hd => rfl); (case hg => rfl); (case hr => first | (go_simp; done) | (go_simp; rfl)); (case hp => exact (Reps.one (show Kd.M (Kd.int .u8) _ _ _ 255 [.int .u8 255] from rfl) (Reps.one (show Kd.M (Kd.int .u8) _ _ _ 1 [.int .u8 1] from rfl) (Reps.none _ _)))); intro v235 w33 ho34 hb hg_ hnew_; clear hg_ hnew_; (first | rw [← Ny234.out] at ho34 | (simp only [Int.reduceToNat] at ho34; rw [← Ny234.out] at ho34)); have n0_ := Aside0.mk (Kd.R_below (pR HO226) hb); have n1_ := Aside0.mk (Kd.R_elder' (pR HO229) (Kd.R_base ho34) hb); have n2_ := Aside0.mk (Kd.R_below (pR HO233) hb); have n3_ := Aside0.mk (Kd.R_lower (Kd.R_new' ho34 (Kd.R_lt (pR HO229))) (below_size pB)); have n4_ := Aside0.mk (below_step pB hb); clear HO226; clear HO229; clear HO233; clear HB; have HO226 := n0_; have HO229 := n1_; have HO233 := n2_; have HO236 := n3_; have HB := n4_; clear n0_ n1_ n2_ n3_ n4_; clear hb ho34; obtain ⟨Ao35, co35, eo35⟩ := Kd.R_slice HO236.out; subst eo35) | ((with_reducible refine gate_callee (f := 10) rfl ?_); refine goesL_ (some 17) rfl rfl Tryd.func10 (by kernel_rfl) rfl #[.slice Ao35 y234.length co35] rfl pM ?_; (with_reducible refine (grammar_Groups.calls k _ _ y234 t237 t238 _ ?side1 ?side2 A2.out).mono ?_); (case side1 => repeat (first | exact (Kd.R_reads' HO236.out).2.2 | (with_reducible refine Kd.C_alloc ?_ _) | (with_reducible refine Kd.C_drewN ?_ _) | (with_reducible refine Kd.C_drew ?_))); (case side2 => exact (Kd.R_reads' HO236.out).2.1); rintro e w36 ⟨v239, rfl, ho0, hb⟩; refine ⟨_, rfl, ?_⟩; have n0_ := Aside0.mk (Kd.R_below (pR HO226) hb); have n1_ := Aside0.mk (Kd.R_below (pR HO229) hb); have n2_ := Aside0.mk (Kd.R_elder' (pR HO233) (Kd.R_base ho0) hb); have n3_ := Aside0.mk (Kd.R_below (pR HO236) hb); have n4_ := Aside0.mk (Kd.R_lower (Kd.R_new' ho0 (Kd.R_lt (pR HO233))) (below_size pB)); have n5_ := Aside0.mk (below_step pB hb); clear HO226; clear HO229; clear HO233; clear HO236; clear HB; have HO226 := n0_; have HO229 := n1_; have HO233 := n2_; have HO236 := n3_; have HO240 := n4_; have HB := n5_; clear n0_ n1_ n2_ n3_ n4_ n5_; (try clear hb); (try clear hb2); (try clear hk); (try clear hi); (try clear ho0)) | ((with_reducible refine gate_dst (N := 20) rfl ?_); (try (refine gate_guard (by rfl) ?_; dsimp only)); refine Kd.R_lit (Kd.int .u64) _ 37 ?hg (N := 20) ?hd (xs := ([0] : List Int)) (inner := [.int .u64 0]) (ok := fun _ => True) (okp := fun _ => True) ?hr ?hp (fun _ hk => hk) trivial (Below.refl _ _) (Nat.le_refl _) (by simp) ?_; (case hd => rfl); (case hg => rfl); (case hr => first | (go_simp; done) | (go_simp; rfl)); (case hp => exact (Reps.one (show Kd.M (Kd.int .u64) _ _ _ 0 [.int .u64 0] from rfl) (Reps.none _ _))); intro v242 w37 ho38 hb hg_ hnew_; clear hg_ hnew_; (first | rw [← Ny241.out] at ho38 | (simp only [Int.reduceToNat] at ho38; rw [← Ny241.out] at ho38)); have n0_ := Aside0.mk (Kd.R_elder' (pR HO226) (Kd.R_base ho38) hb); have n1_ := Aside0.mk (Kd.R_below (pR HO229) hb); have n2_ := Aside0.mk (Kd.R_below (pR HO233) hb); have n3_ := Aside0.mk (Kd.R_below (pR HO236) hb); have n4_ := Aside0.mk (Kd.R_below (pR HO240) hb); have n5_ := Aside0.mk (Kd.R_lower (Kd.R_new' ho38 (Kd.R_lt (pR HO226))) (below_size pB)); have n6_ := Aside0.mk (below_step pB hb); clear HO226; clear HO229; clear HO233; clear HO236; clear HO240; clear HB; have HO226 := n0_; have HO229 := n1_; have HO233 := n2_; have HO236 := n3_; have HO240 := n4_; have HO243 := n5_; have HB := n6_; clear n0_ n1_ n2_ n3_ n4_ n5_ n6_; clear hb ho38; obtain ⟨Ao39, co39, eo39⟩ := Kd.R_slice HO243.out; subst eo39) | ((with_reducible refine gate_callee (f := 16) rfl ?_); refine goesL_ (some 21) rfl rfl Tryd.func16 (by kernel_rfl) rfl #[.slice Ao39 y241.length co39] rfl pM ?_; (with_reducible refine (grammar_Ways.calls _ _ y241 t244 _ ?side1 ?side2 A3.out).mono ?_); (case side1 => repeat (first | exact (Kd.R_reads' HO243.out).2.2 | (with_reducible refine Kd.C_alloc ?_ _) | (with_reducible refine Kd.C_drewN ?_ _) | (with_reducible refine Kd.C_drew ?_))); (case side2 => exact (Kd.R_reads' HO243.out).2.1); rintro e w40 ⟨rfl, hb⟩; refine ⟨_, rfl, ?_⟩; have n0_ := Aside0.mk (Kd.R_below (pR HO226) hb); have n1_ := Aside0.mk (Kd.R_below (pR HO229) hb); have n2_ := Aside0.mk (Kd.R_below (pR HO233) hb); have n3_ := Aside0.mk (Kd.R_below (pR HO236) hb); have n4_ := Aside0.mk (Kd.R_below (pR HO240) hb); have n5_ := Aside0.mk (Kd.R_below (pR HO243) hb); have n6_ := Aside0.mk (below_step pB hb); clear HO226; clear HO229; clear HO233; clear HO236; clear HO240; clear HO243; clear HB; have HO226 := n0_; have HO229 := n1_; have HO233 := n2_; have HO236 := n3_; have HO240 := n4_; have HO243 := n5_; have HB := n6_; clear n0_ n1_ n2_ n3_ n4_ n5_ n6_; (try clear hb); (try clear hb2); (try clear hk); (try clear hi)) | ((with_reducible refine gate_dst (N := 24) rfl ?_); (try (refine gate_guard (by rfl) ?_; dsimp only)); refine Kd.R_lit (Kd.int .u64) _ 37 ?hg (N := 24) ?hd (xs := ([5] : List Int)) (inner := [.int .u64 5]) (ok := fun _ => True) (okp := fun _ => True) ?hr ?hp (fun _ hk => hk) trivial (Below.refl _ _) (Nat.le_refl _) (by simp) ?_; (case hd => rfl); (case hg => rfl); (case hr => first | (go_simp; done) | (go_simp; rfl)); (case hp => exact (Reps.one (show Kd.M (Kd.int .u64) _ _ _ 5 [.int .u64 5] from rfl) (Reps.none _ _))); intro v246 w41 ho42 hb hg_ hnew_; clear hg_ hnew_; (first | rw [← Ny245.out] at ho42 | (simp only [Int.reduceToNat] at ho42; rw [← Ny245.out] at ho42)); have n0_ := Aside0.mk (Kd.R_elder' (pR HO226) (Kd.R_base ho42) hb); have n1_ := Aside0.mk (Kd.R_below (pR HO229) hb); have n2_ := Aside0.mk (Kd.R_below (pR HO233) hb); have n3_ := Aside0.mk (Kd.R_below (pR HO236) hb); have n4_ := Aside0.mk (Kd.R_below (pR HO240) hb); have n5_ := Aside0.mk (Kd.R_elder' (pR HO243) (Kd.R_base ho42) hb); have n6_ := Aside0.mk (Kd.R_lower (Kd.R_new' (Kd.R_new' ho42 (Kd.R_lt (pR HO226))) (Kd.R_lt (pR HO243))) (below_size pB)); have n7_ := Aside0.mk (below_step pB hb); clear HO226; clear HO229; clear HO233; clear HO236; clear HO240; clear HO243; clear HB; have HO226 := n0_; have HO229 := n1_; have HO233 := n2_; have HO236 := n3_; have HO240 := n4_; have HO243 := n5_; have HO247 := n6_; have HB := n7_; clear n0_ n1_ n2_ n3_ n4_ n5_ n6_ n7_; clear hb ho42; obtain ⟨Ao43, co43, eo43⟩ := Kd.R_slice HO247.out; subst eo43) | (go_at_call 16; (with_reducible refine (grammar_Ways.calls _ _ y245 t248 _ ?side1 ?side2 A5.out).mono ?_); (case side1 => repeat (first | exact (Kd.R_reads' HO247.out).2.2 | (with_reducible refine Kd.C_alloc ?_ _) | (with_reducible refine Kd.C_drewN ?_ _) | (with_reducible refine Kd.C_drew ?_))); (case side2 => exact (Kd.R_reads' HO247.out).2.1); rintro e w44 ⟨rfl, hb⟩; have n0_ := Aside0.mk (Kd.R_below (pR HO226) hb); have n1_ := Aside0.mk (Kd.R_below (pR HO229) hb); have n2_ := Aside0.mk (Kd.R_below (pR HO233) hb); have n3_ := Aside0.mk (Kd.R_below (pR HO236) hb); have n4_ := Aside0.mk (Kd.R_below (pR HO240) hb); have n5_ := Aside0.mk (Kd.R_below (pR HO243) hb); have n6_ := Aside0.mk (Kd.R_below (pR HO247) hb); have n7_ := Aside0.mk (below_step pB hb); clear HO226; clear HO229; clear HO233; clear HO236; clear HO240; clear HO243; clear HO247; clear HB; have HO226 := n0_; have HO229 := n1_; have HO233 := n2_; have HO236 := n3_; have HO240 := n4_; have HO243 := n5_; have HO247 := n6_; have HB := n7_; clear n0_ n1_ n2_ n3_ n4_ n5_ n6_ n7_; (try clear hb); (try clear hb2); (try clear hk); (try clear hi)) | (go_at_call 16; (rw [show (Value.slice none 0 0) = Value.slice none ([] : List Int).length 0 from rfl]); (with_reducible refine (grammar_Ways.calls _ _ ([] : List Int) t249 _ ?side1 ?side2 A7.out).mono ?_); (case side1 => exact Kd.C_nil _ _); (case side2 => exact Nat.le_refl _); rintro e w45 ⟨rfl, hb⟩; have n0_ := Aside0.mk (Kd.R_below (pR HO226) hb); have n1_ := Aside0.mk (Kd.R_below (pR HO229) hb); have n2_ := Aside0.mk (Kd.R_below (pR HO233) hb); have n3_ := Aside0.mk (Kd.R_below (pR HO236) hb); have n4_ := Aside0.mk (Kd.R_below (pR HO240) hb); have n5_ := Aside0.mk (Kd.R_below (pR HO243) hb); have n6_ := Aside0.mk (Kd.R_below (pR HO247) hb); have n7_ := Aside0.mk (below_step pB hb); clear HO226; clear HO229; clear HO233; clear HO236; clear HO240; clear HO243; clear HO247; clear HB; have HO226 := n0_; have HO229 := n1_; have HO233 := n2_; have HO236 := n3_; have HO240 := n4_; have HO243 := n5_; have HO247 := n6_; have HB := n7_; clear n0_ n1_ n2_ n3_ n4_ n5_ n6_ n7_; (try clear hb); (try clear hb2); (try clear hk); (try clear hi)) | ((with_reducible refine gate_dst (N := 33) rfl ?_); (try (refine gate_guard (by rfl) ?_; dsimp only)); refine Kd.R_lit (Kd.int .u64) _ 37 ?hg (N := 33) ?hd (xs := ([0] : List Int)) (inner := [.int .u64 0]) (ok := fun _ => True) (okp := fun _ => True) ?hr ?hp (fun _ hk => hk) trivial (Below.refl _ _) (Nat.le_refl _) (by simp) ?_; (case hd => rfl); (case hg => rfl); (case hr => first | (go_simp; done) | (go_simp; rfl)); (case hp => exact (Reps.one (show Kd.M (Kd.int .u64) _ _ _ 0 [.int .u64 0] from rfl) (Reps.none _ _))); intro v251 w46 ho47 hb hg_ hnew_; clear hg_ hnew_; (first | rw [← Ny250.out] at ho47 | (simp only [Int.reduceToNat] at ho47; rw [← Ny250.out] at ho47)); have n0_ := Aside0.mk (Kd.R_elder' (pR HO226) (Kd.R_base ho47) hb); have n1_ := Aside0.mk (Kd.R_below (pR HO229) hb); have n2_ := Aside0.mk (Kd.R_below (pR HO233) hb); have n3_ := Aside0.mk (Kd.R_below (pR HO236) hb); have n4_ := Aside0.mk (Kd.R_below (pR HO240) hb); have n5_ := Aside0.mk (Kd.R_elder' (pR HO243) (Kd.R_base ho47) hb); have n6_ := Aside0.mk (Kd.R_elder' (pR HO247) (Kd.R_base ho47) hb); have n7_ := Aside0.mk (Kd.R_lower (Kd.R_new' (Kd.R_new' (Kd.R_new' ho47 (Kd.R_lt (pR HO226))) (Kd.R_lt (pR HO243))) (Kd.R_lt (pR HO247))) (below_size pB)); have n8_ := Aside0.mk (below_step pB hb); clear HO226; clear HO229; clear HO233; clear HO236; clear HO240; clear HO243; clear HO247; clear HB; have HO226 := n0_; have HO229 := n1_; have HO233 := n2_; have HO236 := n3_; have HO240 := n4_; have HO243 := n5_; have HO247 := n6_; have HO252 := n7_; have HB := n8_; clear n0_ n1_ n2_ n3_ n4_ n5_ n6_ n7_ n8_; clear hb ho47; obtain ⟨Ao48, co48, eo48⟩ := Kd.R_slice HO252.out; subst eo48) | (go_at_call 18; (with_reducible refine (grammar_Shortest.calls _ _ y250 t253 _ ?side1 ?side2 A9.out).mono ?_); (case side1 => repeat (first | exact (Kd.R_reads' HO252.out).2.2 | (with_reducible refine Kd.C_alloc ?_ _) | (with_reducible refine Kd.C_drewN ?_ _) | (with_reducible refine Kd.C_drew ?_))); (case side2 => exact (Kd.R_reads' HO252.out).2.1); rintro e w49 ⟨rfl, hb⟩; have n0_ := Aside0.mk (Kd.R_below (pR HO226) hb); have n1_ := Aside0.mk (Kd.R_below (pR HO229) hb); have n2_ := Aside0.mk (Kd.R_below (pR HO233) hb); have n3_ := Aside0.mk (Kd.R_below (pR HO236) hb); have n4_ := Aside0.mk (Kd.R_below (pR HO240) hb); have n5_ := Aside0.mk (Kd.R_below (pR HO243) hb); have n6_ := Aside0.mk (Kd.R_below (pR HO247) hb); have n7_ := Aside0.mk (Kd.R_below (pR HO252) hb); have n8_ := Aside0.mk (below_step pB hb); clear HO226; clear HO229; clear HO233; clear HO236; clear HO240; clear HO243; clear HO247; clear HO252; clear HB; have HO226 := n0_; have HO229 := n1_; have HO233 := n2_; have HO236 := n3_; have HO240 := n4_; have HO243 := n5_; have HO247 := n6_; have HO252 := n7_; have HB := n8_; clear n0_ n1_ n2_ n3_ n4_ n5_ n6_ n7_ n8_; (try clear hb); (try clear hb2); (try clear hk); (try clear hi)) | (go_at_call 18; (rw [show (Value.slice none 0 0) = Value.slice none ([] : List Int).length 0 from rfl]); (with_reducible refine (grammar_Shortest.calls _ _ ([] : List Int) t254 _ ?side1 ?side2 A11.out).mono ?_); (case side1 => exact Kd.C_nil _ _); (case side2 => exact Nat.le_refl _); rintro e w50 ⟨rfl, hb⟩; have n0_ := Aside0.mk (Kd.R_below (pR HO226) hb); have n1_ := Aside0.mk (Kd.R_below (pR HO229) hb); have n2_ := Aside0.mk (Kd.R_below (pR HO233) hb); have n3_ := Aside0.mk (Kd.R_below (pR HO236) hb); have n4_ := Aside0.mk (Kd.R_below (pR HO240) hb); have n5_ := Aside0.mk (Kd.R_below (pR HO243) hb); have n6_ := Aside0.mk (Kd.R_below (pR HO247) hb); have n7_ := Aside0.mk (Kd.R_below (pR HO252) hb); have n8_ := Aside0.mk (below_step pB hb); clear HO226; clear HO229; clear HO233; clear HO236; clear HO240; clear HO243; clear HO247; clear HO252; clear HB; have HO226 := n0_; have HO229 := n1_; have HO233 := n2_; have HO236 := n3_; have HO240 := n4_; have HO243 := n5_; have HO247 := n6_; have HO252 := n7_; have HB := n8_; clear n0_ n1_ n2_ n3_ n4_ n5_ n6_ n7_ n8_; (try clear hb); (try clear hb2); (try clear hk); (try clear hi); obtain ⟨Ao51, co51, eo51⟩ := Kd.R_slice HO226.out; subst eo51) | (go_at_call 18; (with_reducible refine (grammar_Shortest.calls _ _ y224 t255 _ ?side1 ?side2 A13.out).mono ?_); (case side1 => repeat (first | exact (Kd.R_reads' HO226.out).2.2 | (with_reducible refine Kd.C_alloc ?_ _) | (with_reducible refine Kd.C_drewN ?_ _) | (with_reducible refine Kd.C_drew ?_))); (case side2 => exact (Kd.R_reads' HO226.out).2.1); rintro e w52 ⟨rfl, hb⟩; have n0_ := Aside0.mk (Kd.R_below (pR HO226) hb); have n1_ := Aside0.mk (Kd.R_below (pR HO229) hb); have n2_ := Aside0.mk (Kd.R_below (pR HO233) hb); have n3_ := Aside0.mk (Kd.R_below (pR HO236) hb); have n4_ := Aside0.mk (Kd.R_below (pR HO240) hb); have n5_ := Aside0.mk (Kd.R_below (pR HO243) hb); have n6_ := Aside0.mk (Kd.R_below (pR HO247) hb); have n7_ := Aside0.mk (Kd.R_below (pR HO252) hb); have n8_ := Aside0.mk (below_step pB hb); clear HO226; clear HO229; clear HO233; clear HO236; clear HO240; clear HO243; clear HO247; clear HO252; clear HB; have HO226 := n0_; have HO229 := n1_; have HO233 := n2_; have HO236 := n3_; have HO240 := n4_; have HO243 := n5_; have HO247 := n6_; have HO252 := n7_; have HB := n8_; clear n0_ n1_ n2_ n3_ n4_ n5_ n6_ n7_ n8_; (try clear hb); (try clear hb2); (try clear hk); (try clear hi); obtain ⟨Ao53, co53, eo53⟩ := Kd.R_slice HO233.out; subst eo53; have p256 : 0 ≤ (1 : Int) := (by omega); have q256 : 1 < (t230.length : Int) := of_decide_eq_true pA; obtain ⟨ad256, e256, hx256_0, hx256_1, hx256_2, hx256_3, hx256_4⟩ := at_T33 (Kd.R_reads' HO233.out).2.2 1 p256 q256; cases e256; (try simp only [show (1 : Int).toNat = 1 from rfl, Nat.reduceMul, Nat.reduceEqDiff, Go.Addr.add, ↓reduceIte] at hx256_0); (try simp only [show (1 : Int).toNat = 1 from rfl, Nat.reduceMul, Nat.reduceEqDiff, Go.Addr.add, ↓reduceIte] at hx256_1); (try simp only [show (1 : Int).toNat = 1 from rfl, Nat.reduceMul, Nat.reduceEqDiff, Go.Addr.add, ↓reduceIte] at hx256_2); (try simp only [show (1 : Int).toNat = 1 from rfl, Nat.reduceMul, Nat.reduceEqDiff, Go.Addr.add, ↓reduceIte] at hx256_3); (try simp only [show (1 : Int).toNat = 1 from rfl, Nat.reduceMul, Nat.reduceEqDiff, Go.Addr.add, ↓reduceIte] at hx256_4); have qi256 : (1 < t230.length) = True := eq_true (by omega); (try rw [show ((1 : Int)).toNat = 1 from rfl] at hx256_0); (try rw [show 1 * 5 = 5 from rfl] at hx256_0); (try rw [show ((1 : Int)).toNat = 1 from rfl] at hx256_1); (try rw [show 1 * 5 = 5 from rfl] at hx256_1); (try rw [show ((1 : Int)).toNat = 1 from rfl] at hx256_2); (try rw [show 1 * 5 = 5 from rfl] at hx256_2); (try rw [show ((1 : Int)).toNat = 1 from rfl] at hx256_3); (try rw [show 1 * 5 = 5 from rfl] at hx256_3); (try rw [show ((1 : Int)).toNat = 1 from rfl] at hx256_4); (try rw [show 1 * 5 = 5 from rfl] at hx256_4); replace p256 := eq_true p256; replace q256 := eq_true q256) | ((with_reducible refine gate_dst (N := 67) rfl ?_); (try (refine gate_guard (by rfl) ?_; dsimp only)); refine Kd.R_lit (Kd.int .u8) _ 5 ?hg (N := 67) ?hd (xs := ([3, 5, 0] : List Int)) (inner := [.int .u8 3, .int .u8 5, .int .u8 0]) (ok := fun _ => True) (okp := fun _ => True) ?hr ?hp (fun _ hk => hk) trivial (Below.refl _ _) (Nat.le_refl _) (by simp) ?_; (case hd => rfl); (case hg => rfl); (case hr => first | (go_simp; done) | (go_simp; rfl)); (case hp => exact (Reps.one (show Kd.M (Kd.int .u8) _ _ _ 3 [.int .u8 3] from rfl) (Reps.one (show Kd.M (Kd.int .u8) _ _ _ 5 [.int .u8 5] from rfl) (Reps.one (show Kd.M (Kd.int .u8) _ _ _ 0 [.int .u8 0] from rfl) (Reps.none _ _))))); intro v258 w54 ho55 hb hg_ hnew_; clear hg_ hnew_; (first | rw [← Ny257.out] at ho55 | (simp only [Int.reduceToNat] at ho55; rw [← Ny257.out] at ho55)); have n0_ := Aside0.mk (Kd.R_below (pR HO226) hb); have n1_ := Aside0.mk (Kd.R_elder' (pR HO229) (Kd.R_base ho55) hb); have n2_ := Aside0.mk (Kd.R_below (pR HO233) hb); have n3_ := Aside0.mk (Kd.R_elder' (pR HO236) (Kd.R_base ho55) hb); have n4_ := Aside0.mk (Kd.R_below (pR HO240) hb); have n5_ := Aside0.mk (Kd.R_below (pR HO243) hb); have n6_ := Aside0.mk (Kd.R_below (pR HO247) hb); have n7_ := Aside0.mk (Kd.R_below (pR HO252) hb); have n8_ := Aside0.mk (Kd.R_lower (Kd.R_new' (Kd.R_new' ho55 (Kd.R_lt (pR HO229))) (Kd.R_lt (pR HO236))) (below_size pB)); have n9_ := Aside0.mk (below_step pB hb); clear HO226; clear HO229; clear HO233; clear HO236; clear HO240; clear HO243; clear HO247; clear HO252; clear HB; have HO226 := n0_; have HO229 := n1_; have HO233 := n2_; have HO236 := n3_; have HO240 := n4_; have HO243 := n5_; have HO247 := n6_; have HO252 := n7_; have HO259 := n8_; have HB := n9_; clear n0_ n1_ n2_ n3_ n4_ n5_ n6_ n7_ n8_ n9_; clear hb ho55) | ((with_reducible refine gate_dst (N := 68) rfl ?_); (try (refine gate_guard (by rfl) ?_; dsimp only)); refine Kd.R_lit (Kd.int .u64) _ 37 ?hg (N := 68) ?hd (xs := ([5] : List Int)) (inner := [.int .u64 5]) (ok := fun _ => True) (okp := fun _ => True) ?hr ?hp (fun _ hk => hk) trivial (Below.refl _ _) (Nat.le_refl _) (by simp) ?_; (case hd => rfl); (case hg => rfl); (case hr => first | (go_simp; done) | (go_simp; rfl)); (case hp => exact (Reps.one (show Kd.M (Kd.int .u64) _ _ _ 5 [.int .u64 5] from rfl) (Reps.none _ _))); intro v261 w56 ho57 hb hg_ hnew_; clear hg_ hnew_; (first | rw [← Ny260.out] at ho57 | (simp only [Int.reduceToNat] at ho57; rw [← Ny260.out] at ho57)); have n0_ := Aside0.mk (Kd.R_elder' (pR HO226) (Kd.R_base ho57) hb); have n1_ := Aside0.mk (Kd.R_below (pR HO229) hb); have n2_ := Aside0.mk (Kd.R_below (pR HO233) hb); have n3_ := Aside0.mk (Kd.R_below (pR HO236) hb); have n4_ := Aside0.mk (Kd.R_below (pR HO240) hb); have n5_ := Aside0.mk (Kd.R_elder' (pR HO243) (Kd.R_base ho57) hb); have n6_ := Aside0.mk (Kd.R_elder' (pR HO247) (Kd.R_base ho57) hb); have n7_ := Aside0.mk (Kd.R_elder' (pR HO252) (Kd.R_base ho57) hb); have n8_ := Aside0.mk (Kd.R_below (pR HO259) hb); have n9_ := Aside0.mk (Kd.R_lower (Kd.R_new' (Kd.R_new' (Kd.R_new' (Kd.R_new' ho57 (Kd.R_lt (pR HO226))) (Kd.R_lt (pR HO243))) (Kd.R_lt (pR HO247))) (Kd.R_lt (pR HO252))) (below_size pB)); have n10_ := Aside0.mk (below_step pB hb); clear HO226; clear HO229; clear HO233; clear HO236; clear HO240; clear HO243; clear HO247; clear HO252; clear HO259; clear HB; have HO226 := n0_; have HO229 := n1_; have HO233 := n2_; have HO236 := n3_; have HO240 := n4_; have HO243 := n5_; have HO247 := n6_; have HO252 := n7_; have HO259 := n8_; have HO262 := n9_; have HB := n10_; clear n0_ n1_ n2_ n3_ n4_ n5_ n6_ n7_ n8_ n9_ n10_; clear hb ho57; obtain ⟨Ao58, co58, eo58⟩ := Kd.R_slice HO259.out; subst eo58; obtain ⟨Ao59, co59, eo59⟩ := Kd.R_slice HO262.out; subst eo59) | (go_at_call 12; (with_reducible refine (grammar_Accepts.calls k _ _ y257 _ _ y260 true _ ?side1 ?side2 ?side3 ?side4 A20.out (Go.Proofs.YtnchacmhjbkmhaaDoor.Un.LaidU.below HL.out pB)).mono ?_); (case side1 => repeat (first | exact (Kd.R_reads' HO259.out).2.2 | (with_reducible refine Kd.C_alloc ?_ _) | (with_reducible refine Kd.C_drewN ?_ _) | (with_reducible refine Kd.C_drew ?_))); (case side2 => exact (Kd.R_reads' HO259.out).2.1); (case side3 => repeat (first | exact (Kd.R_reads' HO262.out).2.2 | (with_reducible refine Kd.C_alloc ?_ _) | (with_reducible refine Kd.C_drewN ?_ _) | (with_reducible refine Kd.C_drew ?_))); (case side4 => exact (Kd.R_reads' HO262.out).2.1); rintro e w60 ⟨rfl, hb⟩; have n0_ := Aside0.mk (Kd.R_below (pR HO226) hb); have n1_ := Aside0.mk (Kd.R_below (pR HO229) hb); have n2_ := Aside0.mk (Kd.R_below (pR HO233) hb); have n3_ := Aside0.mk (Kd.R_below (pR HO236) hb); have n4_ := Aside0.mk (Kd.R_below (pR HO240) hb); have n5_ := Aside0.mk (Kd.R_below (pR HO243) hb); have n6_ := Aside0.mk (Kd.R_below (pR HO247) hb); have n7_ := Aside0.mk (Kd.R_below (pR HO252) hb); have n8_ := Aside0.mk (Kd.R_below (pR HO259) hb); have n9_ := Aside0.mk (Kd.R_below (pR HO262) hb); have n10_ := Aside0.mk (below_step pB hb); clear HO226; clear HO229; clear HO233; clear HO236; clear HO240; clear HO243; clear HO247; clear HO252; clear HO259; clear HO262; clear HB; have HO226 := n0_; have HO229 := n1_; have HO233 := n2_; have HO236 := n3_; have HO240 := n4_; have HO243 := n5_; have HO247 := n6_; have HO252 := n7_; have HO259 := n8_; have HO262 := n9_; have HB := n10_; clear n0_ n1_ n2_ n3_ n4_ n5_ n6_ n7_ n8_ n9_ n10_; (try clear hb); (try clear hb2); (try clear hk); (try clear hi)) | ((with_reducible refine gate_dst (N := 72) rfl ?_); (try (refine gate_guard (by rfl) ?_; dsimp only)); refine Kd.R_lit (Kd.int .u8) _ 5 ?hg (N := 72) ?hd (xs := ([3, 5, 0] : List Int)) (inner := [.int .u8 3, .int .u8 5, .int .u8 0]) (ok := fun _ => True) (okp := fun _ => True) ?hr ?hp (fun _ hk => hk) trivial (Below.refl _ _) (Nat.le_refl _) (by simp) ?_; (case hd => rfl); (case hg => rfl); (case hr => first | (go_simp; done) | (go_simp; rfl)); (case hp => exact (Reps.one (show Kd.M (Kd.int .u8) _ _ _ 3 [.int .u8 3] from rfl) (Reps.one (show Kd.M (Kd.int .u8) _ _ _ 5 [.int .u8 5] from rfl) (Reps.one (show Kd.M (Kd.int .u8) _ _ _ 0 [.int .u8 0] from rfl) (Reps.none _ _))))); intro v265 w61 ho62 hb hg_ hnew_; clear hg_ hnew_; (first | rw [← Ny264.out] at ho62 | (simp only [Int.reduceToNat] at ho62; rw [← Ny264.out] at ho62)); have n0_ := Aside0.mk (Kd.R_below (pR HO226) hb); have n1_ := Aside0.mk (Kd.R_elder' (pR HO229) (Kd.R_base ho62) hb); have n2_ := Aside0.mk (Kd.R_below (pR HO233) hb); have n3_ := Aside0.mk (Kd.R_elder' (pR HO236) (Kd.R_base ho62) hb); have n4_ := Aside0.mk (Kd.R_below (pR HO240) hb); have n5_ := Aside0.mk (Kd.R_below (pR HO243) hb); have n6_ := Aside0.mk (Kd.R_below (pR HO247) hb); have n7_ := Aside0.mk (Kd.R_below (pR HO252) hb); have n8_ := Aside0.mk (Kd.R_elder' (pR HO259) (Kd.R_base ho62) hb); have n9_ := Aside0.mk (Kd.R_below (pR HO262) hb); have n10_ := Aside0.mk (Kd.R_lower (Kd.R_new' (Kd.R_new' (Kd.R_new' ho62 (Kd.R_lt (pR HO229))) (Kd.R_lt (pR HO236))) (Kd.R_lt (pR HO259))) (below_size pB)); have n11_ := Aside0.mk (below_step pB hb); clear HO226; clear HO229; clear HO233; clear HO236; clear HO240; clear HO243; clear HO247; clear HO252; clear HO259; clear HO262; clear HB; have HO226 := n0_; have HO229 := n1_; have HO233 := n2_; have HO236 := n3_; have HO240 := n4_; have HO243 := n5_; have HO247 := n6_; have HO252 := n7_; have HO259 := n8_; have HO262 := n9_; have HO266 := n10_; have HB := n11_; clear n0_ n1_ n2_ n3_ n4_ n5_ n6_ n7_ n8_ n9_ n10_ n11_; clear hb ho62; obtain ⟨Ao63, co63, eo63⟩ := Kd.R_slice HO266.out; subst eo63) | (go_at_call 14; (with_reducible refine (grammar_Canonical.calls k _ _ y264 false _ ?side1 ?side2 A22.out (Go.Proofs.YtnchacmhjbkmhaaDoor.Un.LaidU.below HL.out pB)).mono ?_); (case side1 => repeat (first | exact (Kd.R_reads' HO266.out).2.2 | (with_reducible refine Kd.C_alloc ?_ _) | (with_reducible refine Kd.C_drewN ?_ _) | (with_reducible refine Kd.C_drew ?_))); (case side2 => exact (Kd.R_reads' HO266.out).2.1); rintro e w64 ⟨rfl, hb⟩; have n0_ := Aside0.mk (Kd.R_below (pR HO226) hb); have n1_ := Aside0.mk (Kd.R_below (pR HO229) hb); have n2_ := Aside0.mk (Kd.R_below (pR HO233) hb); have n3_ := Aside0.mk (Kd.R_below (pR HO236) hb); have n4_ := Aside0.mk (Kd.R_below (pR HO240) hb); have n5_ := Aside0.mk (Kd.R_below (pR HO243) hb); have n6_ := Aside0.mk (Kd.R_below (pR HO247) hb); have n7_ := Aside0.mk (Kd.R_below (pR HO252) hb); have n8_ := Aside0.mk (Kd.R_below (pR HO259) hb); have n9_ := Aside0.mk (Kd.R_below (pR HO262) hb); have n10_ := Aside0.mk (Kd.R_below (pR HO266) hb); have n11_ := Aside0.mk (below_step pB hb); clear HO226; clear HO229; clear HO233; clear HO236; clear HO240; clear HO243; clear HO247; clear HO252; clear HO259; clear HO262; clear HO266; clear HB; have HO226 := n0_; have HO229 := n1_; have HO233 := n2_; have HO236 := n3_; have HO240 := n4_; have HO243 := n5_; have HO247 := n6_; have HO252 := n7_; have HO259 := n8_; have HO262 := n9_; have HO266 := n10_; have HB := n11_; clear n0_ n1_ n2_ n3_ n4_ n5_ n6_ n7_ n8_ n9_ n10_ n11_; (try clear hb); (try clear hb2); (try clear hk); (try clear hi)) | ((with_reducible refine gate_dst (N := 77) rfl ?_); (try (refine gate_guard (by rfl) ?_; dsimp only)); refine Kd.R_lit (Kd.int .u8) _ 5 ?hg (N := 77) ?hd (xs := ([1, 5] : List Int)) (inner := [.int .u8 1, .int .u8 5]) (ok := fun _ => True) (okp := fun _ => True) ?hr ?hp (fun _ hk => hk) trivial (Below.refl _ _) (Nat.le_refl _) (by simp) ?_; (case hd => rfl); (case hg => rfl); (case hr => first | (go_simp; done) | (go_simp; rfl)); (case hp => exact (Reps.one (show Kd.M (Kd.int .u8) _ _ _ 1 [.int .u8 1] from rfl) (Reps.one (show Kd.M (Kd.int .u8) _ _ _ 5 [.int .u8 5] from rfl) (Reps.none _ _)))); intro v269 w65 ho66 hb hg_ hnew_; clear hg_ hnew_; (first | rw [← Ny268.out] at ho66 | (simp only [Int.reduceToNat] at ho66; rw [← Ny268.out] at ho66)); have n0_ := Aside0.mk (Kd.R_below (pR HO226) hb); have n1_ := Aside0.mk (Kd.R_elder' (pR HO229) (Kd.R_base ho66) hb); have n2_ := Aside0.mk (Kd.R_below (pR HO233) hb); have n3_ := Aside0.mk (Kd.R_elder' (pR HO236) (Kd.R_base ho66) hb); have n4_ := Aside0.mk (Kd.R_below (pR HO240) hb); have n5_ := Aside0.mk (Kd.R_below (pR HO243) hb); have n6_ := Aside0.mk (Kd.R_below (pR HO247) hb); have n7_ := Aside0.mk (Kd.R_below (pR HO252) hb); have n8_ := Aside0.mk (Kd.R_elder' (pR HO259) (Kd.R_base ho66) hb); have n9_ := Aside0.mk (Kd.R_below (pR HO262) hb); have n10_ := Aside0.mk (Kd.R_elder' (pR HO266) (Kd.R_base ho66) hb); have n11_ := Aside0.mk (Kd.R_lower (Kd.R_new' (Kd.R_new' (Kd.R_new' (Kd.R_new' ho66 (Kd.R_lt (pR HO229))) (Kd.R_lt (pR HO236))) (Kd.R_lt (pR HO259))) (Kd.R_lt (pR HO266))) (below_size pB)); have n12_ := Aside0.mk (below_step pB hb); clear HO226; clear HO229; clear HO233; clear HO236; clear HO240; clear HO243; clear HO247; clear HO252; clear HO259; clear HO262; clear HO266; clear HB; have HO226 := n0_; have HO229 := n1_; have HO233 := n2_; have HO236 := n3_; have HO240 := n4_; have HO243 := n5_; have HO247 := n6_; have HO252 := n7_; have HO259 := n8_; have HO262 := n9_; have HO266 := n10_; have HO270 := n11_; have HB := n12_; clear n0_ n1_ n2_ n3_ n4_ n5_ n6_ n7_ n8_ n9_ n10_ n11_ n12_; clear hb ho66; obtain ⟨Ao67, co67, eo67⟩ := Kd.R_slice HO270.out; subst eo67) | (go_at_call 14; (with_reducible refine (grammar_Canonical.calls k _ _ y268 true _ ?side1 ?side2 A24.out (Go.Proofs.YtnchacmhjbkmhaaDoor.Un.LaidU.below HL.out pB)).mono ?_); (case side1 => repeat (first | exact (Kd.R_reads' HO270.out).2.2 | (with_reducible refine Kd.C_alloc ?_ _) | (with_reducible refine Kd.C_drewN ?_ _) | (with_reducible refine Kd.C_drew ?_))); (case side2 => exact (Kd.R_reads' HO270.out).2.1); rintro e w68 ⟨rfl, hb⟩; have n0_ := Aside0.mk (Kd.R_below (pR HO226) hb); have n1_ := Aside0.mk (Kd.R_below (pR HO229) hb); have n2_ := Aside0.mk (Kd.R_below (pR HO233) hb); have n3_ := Aside0.mk (Kd.R_below (pR HO236) hb); have n4_ := Aside0.mk (Kd.R_below (pR HO240) hb); have n5_ := Aside0.mk (Kd.R_below (pR HO243) hb); have n6_ := Aside0.mk (Kd.R_below (pR HO247) hb); have n7_ := Aside0.mk (Kd.R_below (pR HO252) hb); have n8_ := Aside0.mk (Kd.R_below (pR HO259) hb); have n9_ := Aside0.mk (Kd.R_below (pR HO262) hb); have n10_ := Aside0.mk (Kd.R_below (pR HO266) hb); have n11_ := Aside0.mk (Kd.R_below (pR HO270) hb); have n12_ := Aside0.mk (below_step pB hb); clear HO226; clear HO229; clear HO233; clear HO236; clear HO240; clear HO243; clear HO247; clear HO252; clear HO259; clear HO262; clear HO266; clear HO270; clear HB; have HO226 := n0_; have HO229 := n1_; have HO233 := n2_; have HO236 := n3_; have HO240 := n4_; have HO243 := n5_; have HO247 := n6_; have HO252 := n7_; have HO259 := n8_; have HO262 := n9_; have HO266 := n10_; have HO270 := n11_; have HB := n12_; clear n0_ n1_ n2_ n3_ n4_ n5_ n6_ n7_ n8_ n9_ n10_ n11_ n12_; (try clear hb); (try clear hb2); (try clear hk); (try clear hi)) | ((with_reducible refine gate_dst (N := 81) rfl ?_); (try (refine gate_guard (by rfl) ?_; dsimp only)); refine Kd.R_lit (Kd.int .u8) _ 5 ?hg (N := 81) ?hd (xs := ([1] : List Int)) (inner := [.int .u8 1]) (ok := fun _ => True) (okp := fun _ => True) ?hr ?hp (fun _ hk => hk) trivial (Below.refl _ _) (Nat.le_refl _) (by simp) ?_; (case hd => rfl); (case hg => rfl); (case hr => first | (go_simp; done) | (go_simp; rfl)); (case hp => exact (Reps.one (show Kd.M (Kd.int .u8) _ _ _ 1 [.int .u8 1] from rfl) (Reps.none _ _))); intro v273 w69 ho70 hb hg_ hnew_; clear hg_ hnew_; (first | rw [← Ny272.out] at ho70 | (simp only [Int.reduceToNat] at ho70; rw [← Ny272.out] at ho70)); have n0_ := Aside0.mk (Kd.R_below (pR HO226) hb); have n1_ := Aside0.mk (Kd.R_elder' (pR HO229) (Kd.R_base ho70) hb); have n2_ := Aside0.mk (Kd.R_below (pR HO233) hb); have n3_ := Aside0.mk (Kd.R_elder' (pR HO236) (Kd.R_base ho70) hb); have n4_ := Aside0.mk (Kd.R_below (pR HO240) hb); have n5_ := Aside0.mk (Kd.R_below (pR HO243) hb); have n6_ := Aside0.mk (Kd.R_below (pR HO247) hb); have n7_ := Aside0.mk (Kd.R_below (pR HO252) hb); have n8_ := Aside0.mk (Kd.R_elder' (pR HO259) (Kd.R_base ho70) hb); have n9_ := Aside0.mk (Kd.R_below (pR HO262) hb); have n10_ := Aside0.mk (Kd.R_elder' (pR HO266) (Kd.R_base ho70) hb); have n11_ := Aside0.mk (Kd.R_elder' (pR HO270) (Kd.R_base ho70) hb); have n12_ := Aside0.mk (Kd.R_lower (Kd.R_new' (Kd.R_new' (Kd.R_new' (Kd.R_new' (Kd.R_new' ho70 (Kd.R_lt (pR HO229))) (Kd.R_lt (pR HO236))) (Kd.R_lt (pR HO259))) (Kd.R_lt (pR HO266))) (Kd.R_lt (pR HO270))) (below_size pB)); have n13_ := Aside0.mk (below_step pB hb); clear HO226; clear HO229; clear HO233; clear HO236; clear HO240; clear HO243; clear HO247; clear HO252; clear HO259; clear HO262; clear HO266; clear HO270; clear HB; have HO226 := n0_; have HO229 := n1_; have HO233 := n2_; have HO236 := n3_; have HO240 := n4_; have HO243 := n5_; have HO247 := n6_; have HO252 := n7_; have HO259 := n8_; have HO262 := n9_; have HO266 := n10_; have HO270 := n11_; have HO274 := n12_; have HB := n13_; clear n0_ n1_ n2_ n3_ n4_ n5_ n6_ n7_ n8_ n9_ n10_ n11_ n12_ n13_; clear hb ho70; obtain ⟨Ao71, co71, eo71⟩ := Kd.R_slice HO274.out; subst eo71) | (go_at_call 12; (rw [show (Value.slice none 0 0) = Value.slice none ([] : List Int).length 0 from rfl]); (with_reducible refine (grammar_Accepts.calls k _ _ y272 _ _ ([] : List Int) t275 _ ?side1 ?side2 ?side3 ?side4 A26.out (Go.Proofs.YtnchacmhjbkmhaaDoor.Un.LaidU.below HL.out pB)).mono ?_); (case side1 => repeat (first | exact (Kd.R_reads' HO274.out).2.2 | (with_reducible refine Kd.C_alloc ?_ _) | (with_reducible refine Kd.C_drewN ?_ _) | (with_reducible refine Kd.C_drew ?_))); (case side2 => exact (Kd.R_reads' HO274.out).2.1); (case side3 => exact Kd.C_nil _ _); (case side4 => exact Nat.le_refl _); rintro e w72 ⟨rfl, hb⟩; have n0_ := Aside0.mk (Kd.R_below (pR HO226) hb); have n1_ := Aside0.mk (Kd.R_below (pR HO229) hb); have n2_ := Aside0.mk (Kd.R_below (pR HO233) hb); have n3_ := Aside0.mk (Kd.R_below (pR HO236) hb); have n4_ := Aside0.mk (Kd.R_below (pR HO240) hb); have n5_ := Aside0.mk (Kd.R_below (pR HO243) hb); have n6_ := Aside0.mk (Kd.R_below (pR HO247) hb); have n7_ := Aside0.mk (Kd.R_below (pR HO252) hb); have n8_ := Aside0.mk (Kd.R_below (pR HO259) hb); have n9_ := Aside0.mk (Kd.R_below (pR HO262) hb); have n10_ := Aside0.mk (Kd.R_below (pR HO266) hb); have n11_ := Aside0.mk (Kd.R_below (pR HO270) hb); have n12_ := Aside0.mk (Kd.R_below (pR HO274) hb); have n13_ := Aside0.mk (below_step pB hb); clear HO226; clear HO229; clear HO233; clear HO236; clear HO240; clear HO243; clear HO247; clear HO252; clear HO259; clear HO262; clear HO266; clear HO270; clear HO274; clear HB; have HO226 := n0_; have HO229 := n1_; have HO233 := n2_; have HO236 := n3_; have HO240 := n4_; have HO243 := n5_; have HO247 := n6_; have HO252 := n7_; have HO259 := n8_; have HO262 := n9_; have HO266 := n10_; have HO270 := n11_; have HO274 := n12_; have HB := n13_; clear n0_ n1_ n2_ n3_ n4_ n5_ n6_ n7_ n8_ n9_ n10_ n11_ n12_ n13_; (try clear hb); (try clear hb2); (try clear hk); (try clear hi)))
               go_ret
               exact ⟨by first | rfl | (simp [errW_none, errW_some] <;> rfl) | (simp [*, errW_none, errW_some] <;> rfl), pB⟩
              ·replace c25 := Bool.eq_false_iff.mpr c25
               subst c25
               have H1 : (none) = some r := by rw [if_neg (show ¬ (false = true) by decide)] at H; exact H
               clear H
               have H := H1
               clear H1
               exact absurd H (by simp)
            ·replace c21 := Bool.eq_false_iff.mpr c21
             subst c21
             have H1 : (none) = some r := by rw [if_neg (show ¬ (false = true) by decide)] at H; exact H
             clear H
             have H := H1
             clear H1
             exact absurd H (by simp)
           ·rw [if_neg c19] at H
            exact absurd H (by simp)
          ·rw [if_neg c18] at H
           exact absurd H (by simp)
         ·rw [if_neg c17] at H
          exact absurd H (by simp)
        ·rw [if_neg c16] at H
         exact absurd H (by simp)
       ·rw [if_neg c15] at H
        exact absurd H (by simp)
      ·rw [if_neg c14] at H
       exact absurd H (by simp)
     ·rw [if_neg c12] at H
      exact absurd H (by simp)
    ·rw [if_neg c10] at H
     exact absurd H (by simp)
   ·rw [if_neg c8] at H
    exact absurd H (by simp)
  ·rw [if_neg c6] at H
   exact absurd H (by simp)
 ·rw [if_neg c4] at H
  exact absurd H (by simp)
mutual
def capnpref01_Bytes.l0 : Nat → List Int → List Int → Int → Option (List Int)
 | 0, _, _, _ => none
 | k + 1, x0, x3, x4 => if x4 < (x0.length : Int) then (if 0 ≤ x4 then (capnpref01_Bytes.l1 k x0 x3 x4 (rd x0 x4) 0) else (none)) else (some x3)
def capnpref01_Bytes.l1 : Nat → List Int → List Int → Int → Int → Int → Option (List Int)
 | 0, _, _, _, _, _ => none
 | k + 1, x0, x3, x4, x5, x6 => if x6 < 8 then (if x3.length < 140737488355328 then (capnpref01_Bytes.l1 k x0 (x3 ++ [(Int.tmod x5 256) % 256]) x4 (IntKind.u64.wrap (Int.tdiv x5 256)) (wrap64 (x6 + 1))) else (none)) else (capnpref01_Bytes.l0 k x0 x3 (wrap64 (x4 + 1)))
end
def capnpref01_Bytes.f (k : Nat) (l0 : List Int) : Option (List Int) := capnpref01_Bytes.l0 k l0 ([] : List Int) 0
theorem capnpref01_Bytes.mono_l : ∀ k, (∀ y0 y1 y2, LeO (capnpref01_Bytes.l0 k y0 y1 y2) (capnpref01_Bytes.l0 (k + 1) y0 y1 y2)) ∧ (∀ y0 y1 y2 y3 y4, LeO (capnpref01_Bytes.l1 k y0 y1 y2 y3 y4) (capnpref01_Bytes.l1 (k + 1) y0 y1 y2 y3 y4))
 | 0 => ⟨fun _ _ _ r h => by simp [capnpref01_Bytes.l0] at h, fun _ _ _ _ _ r h => by simp [capnpref01_Bytes.l1] at h⟩
 | k + 1 => by
  obtain ⟨ih0, ih1⟩ := capnpref01_Bytes.mono_l k
  refine ⟨?_, ?_⟩
  ·intro y0 y1 y2
   unfold capnpref01_Bytes.l0
   repeat' first
   | (with_reducible exact ih0 _ _ _)
   | (with_reducible exact ih1 _ _ _ _ _)
   | (with_reducible exact LeO.refl _)
   | (with_reducible exact LeO.none _)
   | (with_reducible refine LeO.ite ?_ ?_)
   | (with_reducible refine LeO.bind ?_ (fun _ => ?_))
   | exact ih0 _ _ _
   | exact ih1 _ _ _ _ _
   | exact LeO.none _
   | refine LeO.ite ?_ ?_
   | refine LeO.bind ?_ (fun _ => ?_)
  ·intro y0 y1 y2 y3 y4
   unfold capnpref01_Bytes.l1
   repeat' first
   | (with_reducible exact ih0 _ _ _)
   | (with_reducible exact ih1 _ _ _ _ _)
   | (with_reducible exact LeO.refl _)
   | (with_reducible exact LeO.none _)
   | (with_reducible refine LeO.ite ?_ ?_)
   | (with_reducible refine LeO.bind ?_ (fun _ => ?_))
   | exact ih0 _ _ _
   | exact ih1 _ _ _ _ _
   | exact LeO.none _
   | refine LeO.ite ?_ ?_
   | refine LeO.bind ?_ (fun _ => ?_)
theorem capnpref01_Bytes.mono : ∀ a0 k, LeO (capnpref01_Bytes.f k a0) (capnpref01_Bytes.f (k + 1) a0) := by
 intro a0 k
 obtain ⟨ih0, ih1⟩ := capnpref01_Bytes.mono_l k
 unfold capnpref01_Bytes.f
 repeat' first
   | (with_reducible exact ih0 _ _ _)
   | (with_reducible exact ih1 _ _ _ _ _)
   | (with_reducible exact LeO.refl _)
   | (with_reducible exact LeO.none _)
   | (with_reducible refine LeO.ite ?_ ?_)
   | (with_reducible refine LeO.bind ?_ (fun _ => ?_))
   | exact ih0 _ _ _
   | exact ih1 _ _ _ _ _
   | exact LeO.none _
   | refine LeO.ite ?_ ?_
   | refine LeO.bind ?_ (fun _ => ?_)
theorem capnpref01_Bytes.calls (k : Nat) (A0 : Option Addr) (c0 : Nat) (l0 : List Int) (r : List Int) (w : World) (hr0 : Kd.C (Kd.int .u64) w A0 l0.length l0) (hc0 : l0.length ≤ c0) (h : capnpref01_Bytes.f k l0 = some r) :
  Calls Tryd.prog 23 #[.slice A0 l0.length c0] w fun e w' => ∃ v0_ : Value, e = .returned (v0_) ∧ Kd.R (Kd.int .u8) 5 w' w.heap.size (fun _ => True) v0_ r ∧ Below w.heap.size w w' := by
 have HR0 := Aside0.mk hr0
 have HC0 := Aside0.mk hc0
 clear hr0 hc0
 have HB := Aside0.mk (Below.refl w.heap.size w)
 have H : (capnpref01_Bytes.l0 k l0 ([] : List Int) 0) = some r := h
 clear h
 have H' := Aside0.mk H
 clear H
 go_enter Tryd.func23, Tryd.ntmps23
 go_wp2
 go_loopg [3, 4] k (fun kq v3 v4 w' => ∃ (x3_1 : List Int) (x4_1 : Int), v4 = .int .i64 x4_1 ∧ Aside0 (capnpref01_Bytes.l0 kq l0 x3_1 x4_1 = some r) ∧ Aside0 (kq ≤ k) ∧ Aside0 (Kd.R (Kd.int .u8) 5 w' w.heap.size (fun _ => True) v3 x3_1) ∧ Aside0 (Below w.heap.size w w'))
 case atStart => exact ⟨(([] : List Int)), (0), (by first | rfl | (simp; done) | (simp [*]; done)), H', ⟨Nat.le_refl _⟩, ⟨by first | exact Kd.R_nil _ _ _ _ _ | exact Kd.N_nil _ _ _ _ _ | exact Kd.V_nil _ _ _ _ _ | exact Kd.Q_nil _ _ _ _ _ | exact Kd.S_nil _ _ _ _ _⟩, ⟨pB⟩⟩
 case round =>
  clear H'
  obtain ⟨x3_1, x4_1, rfl, HA, HK1, HO_3, HB⟩ := hrel
  cases gk with
  | zero => exact absurd HA.out (by simp [capnpref01_Bytes.l0])
  | succ k1 =>
   have H := HA.out
   clear HA
   simp only [capnpref01_Bytes.l0] at H
   by_cases c2 : x4_1 < (l0.length : Int)
   ·rw [if_pos c2] at H
    have c2b0 : decide (x4_1 < (l0.length : Int)) = true := decide_eq_true c2
    clear c2
    by_cases c3 : 0 ≤ x4_1
    ·rw [if_pos c3] at H
     have c3b0 : decide (0 ≤ x4_1) = true := decide_eq_true c3
     clear c3
     have H' := Aside0.mk H
     clear H
     have p276 : 0 ≤ (x4_1 : Int) := of_decide_eq_true pA
     have q276 : x4_1 < (l0.length : Int) := of_decide_eq_true pA
     obtain ⟨ad276, e276, hx276_0⟩ := Kd.at_int HR0.out x4_1 p276 q276
     cases e276
     replace hx276_0 := (HB.out.cell (World.block_lt_of_cell? w _ hx276_0)).trans hx276_0
     replace p276 := eq_true p276
     replace q276 := eq_true q276
     go_wp2
     go_loopg [3, 5, 6] k1 (fun kq v3 v5 v6 w' => ∃ (x3_2 : List Int) (x5_2 : Int) (x6_2 : Int), v5 = .int .u64 x5_2 ∧ v6 = .int .i64 x6_2 ∧ Aside0 (capnpref01_Bytes.l1 kq l0 x3_2 x4_1 x5_2 x6_2 = some r) ∧ Aside0 (kq ≤ k1) ∧ Aside0 (Kd.R (Kd.int .u8) 5 w' w.heap.size (fun _ => True) v3 x3_2) ∧ Aside0 (Below w.heap.size w w'))
     case atStart => exact ⟨(x3_1), (rd l0 x4_1), (0), (by first | rfl | (simp; done) | (simp [*]; done)), (by first | rfl | (simp; done) | (simp [*]; done)), H', ⟨Nat.le_refl _⟩, ⟨pR HO_3⟩, ⟨pB⟩⟩
     case round =>
      clear H'
      try clear c2
      try clear c2b0
      try clear p2
      try clear q2
      try clear hx2
      try clear c3
      try clear c3b0
      try clear hx276_0
      try clear p276
      try clear q276
      obtain ⟨x3_2, x5_2, x6_2, rfl, rfl, HA, HK2, HO_3, HB⟩ := hrel
      cases gk with
      | zero => exact absurd HA.out (by simp [capnpref01_Bytes.l1])
      | succ k2 =>
       have H := HA.out
       clear HA
       simp only [capnpref01_Bytes.l1] at H
       by_cases c4 : x6_2 < 8
       ·rw [if_pos c4] at H
        have c4b0 : decide (x6_2 < 8) = true := decide_eq_true c4
        clear c4
        by_cases c5 : x3_2.length < 140737488355328
        ·rw [if_pos c5] at H
         have LMc5 := Aside0.mk c5
         clear c5
         obtain ⟨y277, hy277⟩ : ∃ y_ : List Int, y_ = (x3_2 ++ [(Int.tmod x5_2 256) % 256]) := ⟨_, rfl⟩
         replace H : (capnpref01_Bytes.l1 k2 l0 y277 x4_1 (IntKind.u64.wrap (Int.tdiv x5_2 256)) (wrap64 (x6_2 + 1))) = some r := by first | (rw [hy277]; with_reducible exact H) | (have H2_ := (Option.bind_some _ _).symm.trans H; rw [hy277]; with_reducible exact H2_) | (have H2_ := (Option.bind_some _ _).symm.trans H; with_reducible exact H2_) | with_reducible exact H | (rw [hy277]; exact H) | exact H
         have Ny277 := Aside0.mk hy277
         clear hy277
         have H' := Aside0.mk H
         clear H
         go_wp2_with (first | ((with_reducible refine gate_builtin (b := .append) (xs := #[.tmp 21, .tmp 25]) rfl ?_); at_builtin; refine Kd.R_append (Kd.int .u8) (w0 := w) w.heap.size rfl (.tmp 21) (.tmp 25) 22 5 (.int .u8 0) 1 rfl Tryd.underlying22 info5 rfl (by decide) (by omega) u3 x3_2 ((Int.tmod x5_2 256) % 256) [.int .u8 ((Int.tmod x5_2 256) % 256)] (fun _ => True) (fun _ => False) rfl rfl ?aP (fun _ hk => hk.elim) ?aF ?aO ?aB ?aS ?aL ?_; (case aP => exact rfl); (case aB => exact pB); (case aF => exact (fun _ _ => trivial)); (case aO => exact (pR HO_3)); (case aS => exact (below_size pB)); (case aL => have := LMc5.out; omega); intro v278 w6 ho hb hg hat; rw [← Ny277.out] at ho; have n0_ := Aside0.mk (hb); have n1_ := Aside0.mk (ho); clear HB; clear HO_3; have HB := n0_; have HO279 := n1_; clear n0_ n1_; clear ho hb hg hat))
         go_roundg k2
         case measure => have := HK1.out; have := HK2.out; omega
         case rel => exact ⟨(y277), (IntKind.u64.wrap (Int.tdiv x5_2 256)), (wrap64 (x6_2 + 1)), (by first | rfl | (simp; done) | (simp [*]; done)), (by first | rfl | (simp; done) | (simp [*]; done)), H', ⟨by have := HK1.out; have := HK2.out; omega⟩, ⟨pR HO279⟩, ⟨pB⟩⟩
        ·rw [if_neg c5] at H
         exact absurd H (by simp)
       ·rw [if_neg c4] at H
        have c4b0 : decide (x6_2 < 8) = false := decide_eq_false c4
        clear c4
        have H' := Aside0.mk H
        clear H
        go_wp2
        go_roundg k2
        case measure => have := HK1.out; have := HK2.out; omega
        case rel => exact ⟨(x3_2), (wrap64 (x4_1 + 1)), (by first | rfl | (simp; done) | (simp [*]; done)), H', ⟨by have := HK1.out; have := HK2.out; omega⟩, ⟨pR HO_3⟩, ⟨pB⟩⟩
    ·rw [if_neg c3] at H
     exact absurd H (by simp)
   ·rw [if_neg c2] at H
    have c2b0 : decide (x4_1 < (l0.length : Int)) = false := decide_eq_false c2
    clear c2
    obtain rfl := Option.some.inj H
    go_wp2
    go_ret
    exact ⟨_, by first | rfl | (simp [errW_none, errW_some] <;> rfl) | (simp [*, errW_none, errW_some] <;> rfl), by (with_reducible repeat (first | apply Kd.R_alloc | apply Kd.R_drewN | apply Kd.R_drew)); exact HO_3.out, pB⟩
def capnpref20_Of.l0 : Nat → List Int → Int → Int → Int → Option (Int)
 | 0, _, _, _, _ => none
 | k + 1, x3, x4, x5, x6 => if x6 < 8 then (if 0 ≤ x6 then (if x6 < (x3.length : Int) then (if (rd x3 x6) = 0 then (capnpref20_Of.l0 k x3 x4 (wrap64 (x5 * 2)) (wrap64 (x6 + 1))) else (capnpref20_Of.l0 k x3 (wrap64 (x4 + x5)) (wrap64 (x5 * 2)) (wrap64 (x6 + 1)))) else (none)) else (none)) else (some ((x4) % 256))
def capnpref20_Of.f (k : Nat) (a0 : Int) : Option (Int) := (capnpref01_Bytes.f k (([a0] : List Int))).bind fun t283 => (capnpref20_Of.l0 k t283 0 1 0)
theorem capnpref20_Of.mono_l : ∀ k, (∀ y0 y1 y2 y3, LeO (capnpref20_Of.l0 k y0 y1 y2 y3) (capnpref20_Of.l0 (k + 1) y0 y1 y2 y3))
 | 0 => fun _ _ _ _ r h => by simp [capnpref20_Of.l0] at h
 | k + 1 => by
  have ih0 := capnpref20_Of.mono_l k
  ·intro y0 y1 y2 y3
   unfold capnpref20_Of.l0
   repeat' first
   | (with_reducible exact ih0 _ _ _ _)
   | (with_reducible exact capnpref01_Bytes.mono _ _)
   | (with_reducible exact LeO.refl _)
   | (with_reducible exact LeO.none _)
   | (with_reducible refine LeO.ite ?_ ?_)
   | (with_reducible refine LeO.bind ?_ (fun _ => ?_))
   | exact ih0 _ _ _ _
   | exact capnpref01_Bytes.mono _ _
   | exact LeO.none _
   | refine LeO.ite ?_ ?_
   | refine LeO.bind ?_ (fun _ => ?_)
theorem capnpref20_Of.mono : ∀ a0 k, LeO (capnpref20_Of.f k a0) (capnpref20_Of.f (k + 1) a0) := by
 intro a0 k
 have ih0 := capnpref20_Of.mono_l k
 unfold capnpref20_Of.f
 repeat' first
   | (with_reducible exact ih0 _ _ _ _)
   | (with_reducible exact capnpref01_Bytes.mono _ _)
   | (with_reducible exact LeO.refl _)
   | (with_reducible exact LeO.none _)
   | (with_reducible refine LeO.ite ?_ ?_)
   | (with_reducible refine LeO.bind ?_ (fun _ => ?_))
   | exact ih0 _ _ _ _
   | exact capnpref01_Bytes.mono _ _
   | exact LeO.none _
   | refine LeO.ite ?_ ?_
   | refine LeO.bind ?_ (fun _ => ?_)
theorem capnpref20_Of.calls (k : Nat) (a0 : Int) (r : Int) (w : World) (h : capnpref20_Of.f k a0 = some r) :
  Calls Tryd.prog 24 #[.int .u64 a0] w fun e w' => e = .returned (.int .u8 r) ∧ Below w.heap.size w w' := by
 have HB := Aside0.mk (Below.refl w.heap.size w)
 have H : ((capnpref01_Bytes.f k (([a0] : List Int))).bind fun t283 => (capnpref20_Of.l0 k t283 0 1 0)) = some r := h
 clear h
 obtain ⟨y280, hy280⟩ : ∃ y_ : List Int, y_ = (([a0] : List Int)) := ⟨_, rfl⟩
 replace H : ((capnpref01_Bytes.f k y280).bind fun t283 => (capnpref20_Of.l0 k t283 0 1 0)) = some r := by first | (rw [hy280]; with_reducible exact H) | (have H2_ := (Option.bind_some _ _).symm.trans H; rw [hy280]; with_reducible exact H2_) | (have H2_ := (Option.bind_some _ _).symm.trans H; with_reducible exact H2_) | with_reducible exact H | (rw [hy280]; exact H) | exact H
 have Ny280 := Aside0.mk hy280
 clear hy280
 replace H := Option.bind_eq_some_iff.mp H
 obtain ⟨t283, A20, H⟩ := H
 replace H : (capnpref20_Of.l0 k t283 0 1 0) = some r := H
 have A2 := Aside0.mk A20
 clear A20
 have H' := Aside0.mk H
 clear H
 go_enter Tryd.func24, Tryd.ntmps24
 go_wp2_with (first | ((with_reducible refine gate_dst (N := 8) rfl ?_); refine Kd.R_lit (Kd.int .u64) _ 37 ?hg (N := 8) ?hd (xs := ([a0] : List Int)) (inner := [.int .u64 a0]) (ok := fun _ => True) (okp := fun _ => True) ?hr ?hp (fun _ hk => hk) trivial (Below.refl _ _) (Nat.le_refl _) (by simp) ?_; (case hd => rfl); (case hg => rfl); (case hr => first | (go_simp; done) | (go_simp; rfl)); (case hp => exact (Reps.one (show Kd.M (Kd.int .u64) _ _ _ a0 [.int .u64 a0] from rfl) (Reps.none _ _))); intro v281 w3 ho4 hb hg_ hnew_; clear hg_ hnew_; (first | rw [← Ny280.out] at ho4 | (simp only [Int.reduceToNat] at ho4; rw [← Ny280.out] at ho4)); have n0_ := Aside0.mk (Kd.R_lower ho4 (below_size pB)); have n1_ := Aside0.mk (below_step pB hb); clear HB; have HO282 := n0_; have HB := n1_; clear n0_ n1_; clear hb ho4; obtain ⟨Ao5, co5, eo5⟩ := Kd.R_slice HO282.out; subst eo5) | ((with_reducible refine gate_callee (f := 23) rfl ?_); refine goesL_ (some 9) rfl rfl Tryd.func23 (by kernel_rfl) rfl #[.slice Ao5 y280.length co5] rfl pM ?_; (with_reducible refine (capnpref01_Bytes.calls k _ _ y280 t283 _ ?side1 ?side2 A2.out).mono ?_); (case side1 => repeat (first | exact (Kd.R_reads' HO282.out).2.2 | (with_reducible refine Kd.C_alloc ?_ _) | (with_reducible refine Kd.C_drewN ?_ _) | (with_reducible refine Kd.C_drew ?_))); (case side2 => exact (Kd.R_reads' HO282.out).2.1); rintro e w6 ⟨v284, rfl, ho0, hb⟩; refine ⟨_, rfl, ?_⟩; have n0_ := Aside0.mk (Kd.R_below (pR HO282) hb); have n1_ := Aside0.mk (Kd.R_lower ho0 (below_size pB)); have n2_ := Aside0.mk (below_step pB hb); clear HO282; clear HB; have HO282 := n0_; have HO285 := n1_; have HB := n2_; clear n0_ n1_ n2_; (try clear hb); (try clear hb2); (try clear hk); (try clear hi); (try clear ho0)))
 go_loopg [4, 5, 6] k (fun kq v4 v5 v6 w' => ∃ (x4_1 : Int) (x5_1 : Int) (x6_1 : Int), v4 = .int .i64 x4_1 ∧ v5 = .int .i64 x5_1 ∧ v6 = .int .i64 x6_1 ∧ Aside0 (capnpref20_Of.l0 kq t283 x4_1 x5_1 x6_1 = some r) ∧ Aside0 (kq ≤ k) ∧ Aside0 (Kd.R (Kd.int .u8) 5 w' w.heap.size (fun _ => True) v284 t283) ∧ Aside0 (Below w.heap.size w w'))
 case atStart => exact ⟨(0), (1), (0), (by first | rfl | (simp; done) | (simp [*]; done)), (by first | rfl | (simp; done) | (simp [*]; done)), (by first | rfl | (simp; done) | (simp [*]; done)), H', ⟨Nat.le_refl _⟩, ⟨pR HO285⟩, ⟨pB⟩⟩
 case round =>
  clear H'
  try clear c2
  try clear p2
  obtain ⟨x4_1, x5_1, x6_1, rfl, rfl, rfl, HA, HK1, HO_3, HB⟩ := hrel
  cases gk with
  | zero => exact absurd HA.out (by simp [capnpref20_Of.l0])
  | succ k1 =>
   have H := HA.out
   clear HA
   simp only [capnpref20_Of.l0] at H
   by_cases c7 : x6_1 < 8
   ·rw [if_pos c7] at H
    have c7b0 : decide (x6_1 < 8) = true := decide_eq_true c7
    clear c7
    by_cases c8 : 0 ≤ x6_1
    ·rw [if_pos c8] at H
     have c8b0 : decide (0 ≤ x6_1) = true := decide_eq_true c8
     clear c8
     by_cases c9 : x6_1 < (t283.length : Int)
     ·rw [if_pos c9] at H
      have c9b0 : decide (x6_1 < (t283.length : Int)) = true := decide_eq_true c9
      clear c9
      by_cases c10 : (rd t283 x6_1) = 0
      ·rw [if_pos c10] at H
       have c10b0 : ((rd t283 x6_1) == 0) = true := beq_iff_eq.mpr c10
       have c10b1 : ((rd t283 x6_1) != 0) = false := bne_eq_false_iff_eq.mpr c10
       clear c10
       have H' := Aside0.mk H
       clear H
       obtain ⟨Ao11, co11, eo11⟩ := Kd.R_slice HO_3.out
       subst eo11
       have p286 : 0 ≤ (x6_1 : Int) := of_decide_eq_true pA
       have q286 : x6_1 < (t283.length : Int) := of_decide_eq_true pA
       obtain ⟨ad286, e286, hx286_0⟩ := Kd.at_int (Kd.R_reads' HO_3.out).2.2 x6_1 p286 q286
       cases e286
       replace p286 := eq_true p286
       replace q286 := eq_true q286
       go_wp2
       go_roundg k1
       case measure => have := HK1.out; omega
       case rel => exact ⟨(x4_1), (wrap64 (x5_1 * 2)), (wrap64 (x6_1 + 1)), (by first | rfl | (simp; done) | (simp [*]; done)), (by first | rfl | (simp; done) | (simp [*]; done)), (by first | rfl | (simp; done) | (simp [*]; done)), H', ⟨by have := HK1.out; omega⟩, ⟨pR HO_3⟩, ⟨pB⟩⟩
      ·rw [if_neg c10] at H
       have c10b0 : ((rd t283 x6_1) == 0) = false := beq_eq_false_iff_ne.mpr c10
       have c10b1 : ((rd t283 x6_1) != 0) = true := bne_iff_ne.mpr c10
       have H' := Aside0.mk H
       clear H
       obtain ⟨Ao12, co12, eo12⟩ := Kd.R_slice HO_3.out
       subst eo12
       have p286 : 0 ≤ (x6_1 : Int) := of_decide_eq_true pA
       have q286 : x6_1 < (t283.length : Int) := of_decide_eq_true pA
       obtain ⟨ad286, e286, hx286_0⟩ := Kd.at_int (Kd.R_reads' HO_3.out).2.2 x6_1 p286 q286
       cases e286
       replace p286 := eq_true p286
       replace q286 := eq_true q286
       go_wp2
       go_roundg k1
       case measure => have := HK1.out; omega
       case rel => exact ⟨(wrap64 (x4_1 + x5_1)), (wrap64 (x5_1 * 2)), (wrap64 (x6_1 + 1)), (by first | rfl | (simp; done) | (simp [*]; done)), (by first | rfl | (simp; done) | (simp [*]; done)), (by first | rfl | (simp; done) | (simp [*]; done)), H', ⟨by have := HK1.out; omega⟩, ⟨pR HO_3⟩, ⟨pB⟩⟩
     ·rw [if_neg c9] at H
      exact absurd H (by simp)
    ·rw [if_neg c8] at H
     exact absurd H (by simp)
   ·rw [if_neg c7] at H
    have c7b0 : decide (x6_1 < 8) = false := decide_eq_false c7
    clear c7
    obtain rfl := Option.some.inj H
    go_wp2
    go_ret
    exact ⟨by first | rfl | (simp [errW_none, errW_some] <;> rfl) | (simp [*, errW_none, errW_some] <;> rfl), pB⟩
end Go.Proofs.YtnchacmhjbkmhaaDoor.PGrammarChoices
