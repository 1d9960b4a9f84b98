/- Printed functions of a law, and their walks. -/
import Derived.Test.YtibkbgaonjdpiaaXShortR
import Derived.Test.YtibkbgaonjdpiaaPPackstreamMatchesReferencex0R
import Derived.Test.YtibkbgaonjdpiaaPPackstreamMatchesReferencex5R
import Derived.Test.YtibkbgaonjdpiaaPPackstreamMatchesReferencex7R
import Derived.Test.YtibkbgaonjdpiaaPPackstreamMatchesReferencex8R
namespace Go.Proofs.Ytibkbgaonjdpiaa.PPackstreamMatchesReference
open Go.RowKit Go.Proofs.YtibkbgaonjdpiaaW.PrintWords Go.Proofs.YtibkbgaonjdpiaaW.PrintLast Go.Proofs.YtibkbgaonjdpiaaW.PrintMore
open Go.Proofs.Ytibkbgaonjdpiaa.PPaBase
attribute [local go_sem] max2_int min2_int max_two min_two max_three min_three max_four min_four   -- for this text's walks alone
set_option linter.unusedVariables false
set_option linter.unusedSimpArgs false
set_option maxHeartbeats 8000000
set_option maxRecDepth 100000
def capnpref24_After.j0 : Nat → List Int → Int → Bool → List Int → Int → Option (List Int × Int × List Int × List Int)
  | 0, _, _, _, _, _ => none
  | k + 1, x5, x7, x40, x367000, x367001 => if x40 = true then (if 0 ≤ x7 then (if x7 ≤ (x5.length : Int) then ((capnpref21_Words.f k (x5.take (x7 : Int).toNat)).bind fun t372 => (some (x367000, wrap64 ((x5.length : Int) - x7), ([] : List Int), t372))) else (none)) else (none)) else (if 0 ≤ x7 then (if x7 ≤ (x5.length : Int) then ((capnpref01_Bytes.f k (x5.drop (x7 : Int).toNat)).bind fun t379 => ((capnpref21_Words.f k (x5.take (x7 : Int).toNat)).bind fun t386 => (some (x367000, x367001, t379, t386)))) else (none)) else (none))
def capnpref24_After.f (k : Nat) (l0 : List Int) : Option (List Int × Int × List Int × List Int) := if 0 ≤ (wrap64 ((l0.length : Int) - ((l0.length : Int) % 8))) then (if (wrap64 ((l0.length : Int) - ((l0.length : Int) % 8))) ≤ (l0.length : Int) then ((capnpref01_Words.f k (l0.take ((wrap64 ((l0.length : Int) - ((l0.length : Int) % 8))) : Int).toNat)).bind fun bt354 => ((capnpref24_Begin.f k bt354.1).bind fun t358 => ((some (([] : List Int) : List Int)).bind fun y359 => (if y359.length + (l0.drop ((wrap64 ((l0.length : Int) - ((l0.length : Int) % 8))) : Int).toNat).length < 140737488355328 then ((some (y359 ++ (l0.drop ((wrap64 ((l0.length : Int) - ((l0.length : Int) % 8))) : Int).toNat) : List Int)).bind fun y363 => (if t358 < (bt354.1.length : Int) then (if 0 ≤ t358 then (capnpref24_After.j0 k bt354.1 t358 ((rd bt354.1 t358) == 0) y363 0) else (none)) else (capnpref24_After.j0 k bt354.1 t358 false y363 0))) else (none))))) else (none)) else (none)
theorem capnpref24_After.mono_l : ∀ k, (∀ y0 y1 y2 y3 y4, LeO (capnpref24_After.j0 k y0 y1 y2 y3 y4) (capnpref24_After.j0 (k + 1) y0 y1 y2 y3 y4))
  | 0 => fun _ _ _ _ _ r h => by simp [capnpref24_After.j0] at h
  | k + 1 => by
    have ih0 := capnpref24_After.mono_l k
    · intro y0 y1 y2 y3 y4
      unfold capnpref24_After.j0
      repeat' first
      | (with_reducible exact ih0 _ _ _ _ _)
      | (with_reducible exact capnpref01_Bytes.mono _ _)
      | (with_reducible exact capnpref01_Words.mono _ _)
      | (with_reducible exact capnpref21_Words.mono _ _)
      | (with_reducible exact capnpref24_Begin.mono _ _)
      | (with_reducible exact LeO.refl _)
      | (with_reducible exact LeO.none _)
      | (with_reducible refine LeO.ite ?_ ?_)
      | (with_reducible refine LeO.bind ?_ (fun _ => ?_))
      | exact ih0 _ _ _ _ _
      | exact capnpref01_Bytes.mono _ _
      | exact capnpref01_Words.mono _ _
      | exact capnpref21_Words.mono _ _
      | exact capnpref24_Begin.mono _ _
      | exact LeO.none _
      | refine LeO.ite ?_ ?_
      | refine LeO.bind ?_ (fun _ => ?_)
theorem capnpref24_After.mono : ∀ a0 k, LeO (capnpref24_After.f k a0) (capnpref24_After.f (k + 1) a0) := by
  intro a0 k
  have ih0 := capnpref24_After.mono_l k
  unfold capnpref24_After.f
  repeat' first
      | (with_reducible exact ih0 _ _ _ _ _)
      | (with_reducible exact capnpref01_Bytes.mono _ _)
      | (with_reducible exact capnpref01_Words.mono _ _)
      | (with_reducible exact capnpref21_Words.mono _ _)
      | (with_reducible exact capnpref24_Begin.mono _ _)
      | (with_reducible exact LeO.refl _)
      | (with_reducible exact LeO.none _)
      | (with_reducible refine LeO.ite ?_ ?_)
      | (with_reducible refine LeO.bind ?_ (fun _ => ?_))
      | exact ih0 _ _ _ _ _
      | exact capnpref01_Bytes.mono _ _
      | exact capnpref01_Words.mono _ _
      | exact capnpref21_Words.mono _ _
      | exact capnpref24_Begin.mono _ _
      | exact LeO.none _
      | refine LeO.ite ?_ ?_
      | refine LeO.bind ?_ (fun _ => ?_)
theorem capnpref24_After.calls (k : Nat) (A0 : Option Addr) (c0 : Nat) (l0 : List Int) (r1 : List Int) (r2 : Int) (r3 : List Int) (r4 : List Int) (w : World) (hr0 : Kd.C (Kd.int .u8) w A0 l0.length l0) (hc0 : l0.length ≤ c0) (h : capnpref24_After.f k l0 = some (r1, r2, r3, r4)) :
    Calls Try.prog 13 #[.slice A0 l0.length c0] w fun e w' => ∃ v0_ v2_ v3_ : Value, e = .returned (.tuple #[.agg #[v0_, .int .i64 r2, v2_], v3_]) ∧ Kd.R (Kd.int .u8) 5 w' w.heap.size (fun k_ => some k_ ≠ (v2_ : Value).ownBlock ∧ some k_ ≠ (v3_ : Value).ownBlock) v0_ r1 ∧ Kd.R (Kd.int .u8) 5 w' w.heap.size (fun k_ => some k_ ≠ (v0_ : Value).ownBlock ∧ some k_ ≠ (v3_ : Value).ownBlock) v2_ r3 ∧ Kd.R (Kd.int .u8) 5 w' w.heap.size (fun k_ => some k_ ≠ (v0_ : Value).ownBlock ∧ some k_ ≠ (v2_ : Value).ownBlock) v3_ r4 ∧ Below w.heap.size w w' := by
  have hu24 := Try.underlying24
  have HR0 := Aside0.mk hr0
  have HC0 := Aside0.mk hc0
  clear hr0 hc0
  have HB := Aside0.mk (Below.refl w.heap.size w)
  have H : (if 0 ≤ (wrap64 ((l0.length : Int) - ((l0.length : Int) % 8))) then (if (wrap64 ((l0.length : Int) - ((l0.length : Int) % 8))) ≤ (l0.length : Int) then ((capnpref01_Words.f k (l0.take ((wrap64 ((l0.length : Int) - ((l0.length : Int) % 8))) : Int).toNat)).bind fun bt354 => ((capnpref24_Begin.f k bt354.1).bind fun t358 => ((some (([] : List Int) : List Int)).bind fun y359 => (if y359.length + (l0.drop ((wrap64 ((l0.length : Int) - ((l0.length : Int) % 8))) : Int).toNat).length < 140737488355328 then ((some (y359 ++ (l0.drop ((wrap64 ((l0.length : Int) - ((l0.length : Int) % 8))) : Int).toNat) : List Int)).bind fun y363 => (if t358 < (bt354.1.length : Int) then (if 0 ≤ t358 then (capnpref24_After.j0 k bt354.1 t358 ((rd bt354.1 t358) == 0) y363 0) else (none)) else (capnpref24_After.j0 k bt354.1 t358 false y363 0))) else (none))))) else (none)) else (none)) = some (r1, r2, r3, r4) := h
  clear h
  obtain ⟨ji2, hji2⟩ : ∃ j_ : Int, (wrap64 ((l0.length : Int) - ((l0.length : Int) % 8))) = j_ := ⟨_, rfl⟩
  replace H : (if 0 ≤ (ji2) then (if (ji2) ≤ (l0.length : Int) then ((capnpref01_Words.f k (l0.take ((ji2) : Int).toNat)).bind fun bt354 => ((capnpref24_Begin.f k bt354.1).bind fun t358 => ((some (([] : List Int) : List Int)).bind fun y359 => (if y359.length + (l0.drop ((ji2) : Int).toNat).length < 140737488355328 then ((some (y359 ++ (l0.drop ((ji2) : Int).toNat) : List Int)).bind fun y363 => (if t358 < (bt354.1.length : Int) then (if 0 ≤ t358 then (capnpref24_After.j0 k bt354.1 t358 ((rd bt354.1 t358) == 0) y363 0) else (none)) else (capnpref24_After.j0 k bt354.1 t358 false y363 0))) else (none))))) else (none)) else (none)) = some (r1, r2, r3, r4) := by first | (rw [hji2] at H; exact H) | (simp only [hji2] at H ⊢; exact H)
  have hji2w : (IntKind.i64.wrap ((l0.length : Int) - ((l0.length : Int) % 8))) = ji2 := (i64_w _).trans hji2
  by_cases c3 : 0 ≤ (ji2)
  · rw [if_pos c3] at H
    have c3b0 := eq_true c3
    have c3b1 : decide (0 ≤ (ji2)) = true := decide_eq_true c3
    clear c3
    by_cases c4 : (ji2) ≤ (l0.length : Int)
    · rw [if_pos c4] at H
      have c4b0 := eq_true c4
      have c4b1 : decide ((ji2) ≤ (l0.length : Int)) = true := decide_eq_true c4
      clear c4
      replace H := Option.bind_eq_some_iff.mp H
      obtain ⟨⟨t354, t355⟩, A50, H⟩ := H
      replace H : ((capnpref24_Begin.f k t354).bind fun t358 => ((some (([] : List Int) : List Int)).bind fun y359 => (if y359.length + (l0.drop ((ji2) : Int).toNat).length < 140737488355328 then ((some (y359 ++ (l0.drop ((ji2) : Int).toNat) : List Int)).bind fun y363 => (if t358 < (t354.length : Int) then (if 0 ≤ t358 then (capnpref24_After.j0 k t354 t358 ((rd t354 t358) == 0) y363 0) else (none)) else (capnpref24_After.j0 k t354 t358 false y363 0))) else (none)))) = some (r1, r2, r3, r4) := H
      have A5 := Aside0.mk A50
      clear A50
      replace H := Option.bind_eq_some_iff.mp H
      obtain ⟨t358, A60, H⟩ := H
      replace H : ((some (([] : List Int) : List Int)).bind fun y359 => (if y359.length + (l0.drop ((ji2) : Int).toNat).length < 140737488355328 then ((some (y359 ++ (l0.drop ((ji2) : Int).toNat) : List Int)).bind fun y363 => (if t358 < (t354.length : Int) then (if 0 ≤ t358 then (capnpref24_After.j0 k t354 t358 ((rd t354 t358) == 0) y363 0) else (none)) else (capnpref24_After.j0 k t354 t358 false y363 0))) else (none))) = some (r1, r2, r3, r4) := H
      have A6 := Aside0.mk A60
      clear A60
      obtain ⟨y359, hy359⟩ : ∃ y_ : List Int, y_ = (([] : List Int)) := ⟨_, rfl⟩
      replace H : (if y359.length + (l0.drop ((ji2) : Int).toNat).length < 140737488355328 then ((some (y359 ++ (l0.drop ((ji2) : Int).toNat) : List Int)).bind fun y363 => (if t358 < (t354.length : Int) then (if 0 ≤ t358 then (capnpref24_After.j0 k t354 t358 ((rd t354 t358) == 0) y363 0) else (none)) else (capnpref24_After.j0 k t354 t358 false y363 0))) else (none)) = some (r1, r2, r3, r4) := by first | (rw [hy359]; with_reducible exact H) | (have H2_ := (Option.bind_some _ _).symm.trans H; rw [hy359]; with_reducible exact H2_) | (have H2_ := (Option.bind_some _ _).symm.trans H; with_reducible exact H2_) | with_reducible exact H | (rw [hy359]; exact H) | exact H
      have Ny359 := Aside0.mk hy359
      clear hy359
      have c7b0 := eq_true (of_decide_eq_true pA : 0 ≤ (ji2))
      have c8b0 := eq_true (of_decide_eq_true pA : (ji2) ≤ (l0.length : Int))
      by_cases c9 : y359.length + (l0.drop ((ji2) : Int).toNat).length < 140737488355328
      · rw [if_pos c9] at H
        have LMc9 := Aside0.mk c9
        clear c9
        obtain ⟨y363, hy363⟩ : ∃ y_ : List Int, y_ = (y359 ++ (l0.drop ((ji2) : Int).toNat)) := ⟨_, rfl⟩
        replace H : (if t358 < (t354.length : Int) then (if 0 ≤ t358 then (capnpref24_After.j0 k t354 t358 ((rd t354 t358) == 0) y363 0) else (none)) else (capnpref24_After.j0 k t354 t358 false y363 0)) = some (r1, r2, r3, r4) := by first | (rw [hy363]; with_reducible exact H) | (have H2_ := (Option.bind_some _ _).symm.trans H; rw [hy363]; with_reducible exact H2_) | (have H2_ := (Option.bind_some _ _).symm.trans H; with_reducible exact H2_) | with_reducible exact H | (rw [hy363]; exact H) | exact H
        have Ny363 := Aside0.mk hy363
        clear hy363
        have HC10 := Aside0.mk H
        clear H
        go_enter Try.func13, Try.ntmps13
        go_upto_region 5 with (first | ((with_reducible refine gate_dst (N := 2) rfl ?_); refine box_event ?hg (N := 2) ?hd (cs := #[.slice none 0 0, .int .i64 0, .slice none 0 0]) (t := 24) ?hr ?_; (case hd => rfl); (case hg => rfl); (case hr => first | (go_simp; done) | (go_simp; rfl)); intro gb352 hg w11 hbox hb; have n0_ := Aside0.mk (below_step pB hb); have n1_ := Aside0.mk (hbox); have n2_ := Aside0.mk ((by rw [hg]; exact (below_size pB) : w.heap.size ≤ gb352)); have n3_ := Aside0.mk ((by rw [hg]; exact (below_size pB) : w.heap.size ≤ gb352)); clear HB; have HB := n0_; have BK352 := n1_; have GW352 := n2_; have GE352 := n3_; clear n0_ n1_ n2_ n3_; clear hb hbox hg; obtain ⟨i012, hi012, _, hsz12, _⟩ := info_parts info5; obtain ⟨hcut12, hA12, hC12⟩ := print_take_of (P := Try.prog) (Value.int .u8) 0 22 5 .i64 Try.underlying22 hi012 hsz12 A0 c0 l0 (ji2) (of_decide_eq_true pA) (of_decide_eq_true pA) HC0.out; have HR353 := Aside0.mk (Kd.C_of_reads (h1 := fun _ => rfl) (hA12 _ (Kd.reads_of_C HR0.out))); have HC353 := Aside0.mk hC12; clear hA12 hC12 hi012 hsz12) | ((with_reducible refine gate_callee (f := 19) rfl ?_); refine goesL_ (some 19) rfl rfl Try.func19 (by kernel_rfl) rfl #[.slice A0 (l0.take ((ji2) : Int).toNat).length c0] rfl (by (try simp only [List.map_toArray, List.map_cons, List.map_nil]); first | done | (rw [show (l0.take ((ji2) : Int).toNat).length = (ji2).toNat from (by rw [List.length_take]; have h_ : ((ji2) : Int) ≤ (l0.length : Int) := of_decide_eq_true pA; omega)] <;> rfl) | (simp only [hji2]; rfl) | rfl | (simp only [List.length_drop, List.length_take]; rfl)) ?_; (with_reducible refine (capnpref01_Words.calls k _ _ (l0.take ((ji2) : Int).toNat) t354 t355 _ ?side1 ?side2 A5.out).mono ?_); (case side1 => repeat (first | exact (Kd.C_below HR353.out HB.out) | (with_reducible refine Kd.C_alloc ?_ _) | (with_reducible refine Kd.C_drewN ?_ _) | (with_reducible refine Kd.C_drew ?_))); (case side2 => exact HC353.out); rintro e w13 ⟨v356, rfl, ho0, hb⟩; refine ⟨_, rfl, ?_⟩; have n0_ := Aside0.mk (Kd.R_lower ho0 (below_size (by repeat (first | (with_reducible first | exact HB.out | apply below_alloc | apply pw_below_drewN | apply below_drew1 | refine below_set ?_ GE352.out) | exact HB.out)))); have n1_ := Aside0.mk (blk_below (g := gb352) (o := .cells #[.slice none 0 0, .int .i64 0, .slice none 0 0] 24 (0, 0)) (pK BK352) hb); have n2_ := Aside0.mk (below_step (by repeat (first | (with_reducible first | exact HB.out | apply below_alloc | apply pw_below_drewN | apply below_drew1 | refine below_set ?_ GE352.out) | exact HB.out)) hb); clear BK352; clear HB; have HO357 := n0_; have BK352 := n1_; have HB := n2_; clear n0_ n1_ n2_; (try clear hb); (try clear hb2); (try clear hk); (try clear hi); (try clear ho0); obtain ⟨Ao14, co14, eo14⟩ := Kd.R_slice HO357.out; subst eo14) | ((with_reducible refine gate_callee (f := 28) rfl ?_); refine goesL_ (some 23) rfl rfl Try.func28 (by kernel_rfl) rfl #[.slice Ao14 t354.length co14] rfl pM ?_; (with_reducible refine (capnpref24_Begin.calls k _ _ t354 t358 _ ?side1 ?side2 A6.out).mono ?_); (case side1 => repeat (first | exact (Kd.R_reads' HO357.out).2.2 | (with_reducible refine Kd.C_alloc ?_ _) | (with_reducible refine Kd.C_drewN ?_ _) | (with_reducible refine Kd.C_drew ?_))); (case side2 => exact (Kd.R_reads' HO357.out).2.1); rintro e w15 ⟨rfl, hb⟩; refine ⟨_, rfl, ?_⟩; have n0_ := Aside0.mk (Kd.R_below (pR HO357) hb); have n1_ := Aside0.mk (blk_below (g := gb352) (o := .cells #[.slice none 0 0, .int .i64 0, .slice none 0 0] 24 (0, 0)) (pK BK352) hb); have n2_ := Aside0.mk (below_step (by repeat (first | (with_reducible first | exact HB.out | apply below_alloc | apply pw_below_drewN | apply below_drew1 | refine below_set ?_ GE352.out) | exact HB.out)) hb); clear HO357; clear BK352; clear HB; have HO357 := n0_; have BK352 := n1_; have HB := n2_; clear n0_ n1_ n2_; (try clear hb); (try clear hb2); (try clear hk); (try clear hi)) | ((with_reducible refine gate_dst (N := 24) rfl ?_); refine Kd.R_lit (Kd.int .u8) _ 5 ?hg (N := 24) ?hd (xs := ([] : List Int)) (inner := []) (ok := fun _ => True) (okp := fun _ => True) ?hr ?hp (fun _ hk => hk) trivial (Below.refl _ _) (Nat.le_refl _) (by simp) ?_; (case hd => rfl); (case hg => rfl); (case hr => first | (go_simp; done) | (go_simp; rfl)); (case hp => exact (Reps.none _ _)); intro v360 w16 ho17 hb hg_ hnew_; clear hg_ hnew_; (first | rw [← Ny359.out] at ho17 | (simp only [Int.reduceToNat] at ho17; rw [← Ny359.out] at ho17)); have n0_ := Aside0.mk (Kd.R_below (pR HO357) hb); have n1_ := Aside0.mk (Kd.R_lower ho17 (below_size (by repeat (first | (with_reducible first | exact HB.out | apply below_alloc | apply pw_below_drewN | apply below_drew1 | refine below_set ?_ GE352.out) | exact HB.out)))); have n2_ := Aside0.mk (blk_below (g := gb352) (o := .cells #[.slice none 0 0, .int .i64 0, .slice none 0 0] 24 (0, 0)) (pK BK352) hb); have n3_ := Aside0.mk (below_step (by repeat (first | (with_reducible first | exact HB.out | apply below_alloc | apply pw_below_drewN | apply below_drew1 | refine below_set ?_ GE352.out) | exact HB.out)) hb); clear HO357; clear BK352; clear HB; have HO357 := n0_; have HO361 := n1_; have BK352 := n2_; have HB := n3_; clear n0_ n1_ n2_ n3_; clear hb ho17; obtain ⟨i018, hi018, _, hsz18, _⟩ := info_parts info5; obtain ⟨A18, hcut18, hA18, hC18⟩ := print_drop_of (P := Try.prog) (Value.int .u8) 0 22 5 .i64 Try.underlying22 hi018 hsz18 A0 c0 l0 (ji2) (of_decide_eq_true pA) (of_decide_eq_true pA) HC0.out; have HR362 := Aside0.mk (Kd.C_of_reads (h1 := fun _ => rfl) (hA18 _ (Kd.reads_of_C HR0.out))); have HC362 := Aside0.mk hC18; clear hA18 hC18 hi018 hsz18) | ((with_reducible refine gate_builtin (b := .append) (xs := #[.tmp 24, .tmp 27]) rfl ?_); at_builtin; refine Kd.R_append_rows (Kd.int .u8) (w0 := w) w.heap.size rfl (.tmp 24) (.tmp 27) 22 5 (.int .u8 0) 1 rfl Try.underlying22 info5 rfl (by decide) (by omega) v360 y359 (l0.drop ((ji2) : Int).toNat) _ _ _ (fun _ => True) (fun _ => False) rfl rfl ?aO ?aR (fun _ _ h => h) (fun _ h => h.elim) ?aF ?aB ?aS ?aL ?_; (case aR => first | (rw [← show (l0.drop ((ji2) : Int).toNat).length = (l0.length - (ji2).toNat) from List.length_drop]; repeat (first | exact (Kd.C_below HR362.out HB.out) | (with_reducible refine Kd.C_alloc ?_ _) | (with_reducible refine Kd.C_drewN ?_ _) | (with_reducible refine Kd.C_drew ?_))) | (repeat (first | exact (Kd.C_below HR362.out HB.out) | (with_reducible refine Kd.C_alloc ?_ _) | (with_reducible refine Kd.C_drewN ?_ _) | (with_reducible refine Kd.C_drew ?_)))); (case aB => exact (by repeat (first | (with_reducible first | exact HB.out | apply below_alloc | apply pw_below_drewN | apply below_drew1 | refine below_set ?_ GE352.out) | exact HB.out))); (case aF => exact (fun _ _ => trivial)); (case aO => exact (pR HO361)); (case aS => exact (below_size (by repeat (first | (with_reducible first | exact HB.out | apply below_alloc | apply pw_below_drewN | apply below_drew1 | refine below_set ?_ GE352.out) | exact HB.out)))); (case aL => have := LMc9.out; have hlx_ := (show (l0.drop ((ji2) : Int).toNat).length = (l0.length - (ji2).toNat) from List.length_drop); omega); intro v364 w19 ho hb hg hat; rw [← Ny363.out] at ho; have n0_ := Aside0.mk (blk_grown (g := gb352) (o := .cells #[.slice none 0 0, .int .i64 0, .slice none 0 0] 24 (0, 0)) (pK BK352) hg (Kd.R_ne HO361.out BK352.out (by decide))); have n1_ := Aside0.mk (Kd.R_over' (pR HO357) (Kd.R_typed (pR HO361)) (by decide) hg); have n2_ := Aside0.mk (hb); have n3_ := Aside0.mk (ho); clear BK352; clear HO357; clear HB; clear HO361; have BK352 := n0_; have HO357 := n1_; have HB := n2_; have HO365 := n3_; clear n0_ n1_ n2_ n3_; clear ho hb hg hat; obtain ⟨Ao20, co20, eo20⟩ := Kd.R_slice HO365.out; subst eo20) | ((with_reducible refine gate_dst (N := 8) rfl ?_); refine box_event ?hg (N := 8) ?hd (cs := #[.slice none 0 0, .int .i64 0, .slice none 0 0]) (t := 24) ?hr ?_; (case hd => rfl); (case hg => rfl); (case hr => first | (go_simp; done) | (go_simp; rfl)); intro gb366 hg w21 hbox hb; have n0_ := Aside0.mk (Kd.R_below (pR HO357) hb); have n1_ := Aside0.mk (Kd.R_below (pR HO365) hb); have n2_ := Aside0.mk (blk_below (g := gb352) (o := .cells #[.slice none 0 0, .int .i64 0, .slice none 0 0] 24 (0, 0)) (pK BK352) hb); have n3_ := Aside0.mk (below_step (by repeat (first | (with_reducible first | exact HB.out | apply below_alloc | apply pw_below_drewN | apply below_drew1 | refine below_set ?_ GE352.out) | exact HB.out)) hb); have n4_ := Aside0.mk (hbox); have n5_ := Aside0.mk ((by rw [hg]; exact (below_size (by repeat (first | (with_reducible first | exact HB.out | apply below_alloc | apply pw_below_drewN | apply below_drew1 | refine below_set ?_ GE352.out) | exact HB.out))) : w.heap.size ≤ gb366)); have n6_ := Aside0.mk ((by rw [hg]; exact (below_size (by repeat (first | (with_reducible first | exact HB.out | apply below_alloc | apply pw_below_drewN | apply below_drew1 | refine below_set ?_ GE352.out) | exact HB.out))) : w.heap.size ≤ gb366)); have n7_ := Aside0.mk ((by rw [hg]; exact Nat.ne_of_lt (blk_lt (g := gb352) (o := .cells #[.slice none 0 0, .int .i64 0, .slice none 0 0] 24 (0, 0)) (pK BK352)) : gb352 ≠ gb366)); have n8_ := Aside0.mk ((by rw [hg]; exact Nat.ne_of_gt (blk_lt (g := gb352) (o := .cells #[.slice none 0 0, .int .i64 0, .slice none 0 0] 24 (0, 0)) (pK BK352)) : gb366 ≠ gb352)); clear HO357; clear HO365; clear BK352; clear HB; have HO357 := n0_; have HO365 := n1_; have BK352 := n2_; have HB := n3_; have BK366 := n4_; have GW366 := n5_; have GE366 := n6_; have NB352_366 := n7_; have NB366_352 := n8_; clear n0_ n1_ n2_ n3_ n4_ n5_ n6_ n7_ n8_; clear hb hbox hg; have hnb22 := NB366_352.out; have hnc22 := NB352_366.out; have hcz23_0 : w21.cell? ⟨gb366, 0, none⟩ = some (.slice none 0 0) := (blk_cell BK366.out 0).trans rfl; have hcz23_1 : w21.cell? ⟨gb366, 1, none⟩ = some (.int .i64 0) := (blk_cell BK366.out 1).trans rfl; have hcz23_2 : w21.cell? ⟨gb366, 2, none⟩ = some (.slice none 0 0) := (blk_cell BK366.out 2).trans rfl; have hfz23_0 := blk_frozen BK366.out 0; have hfz23_1 := blk_frozen BK366.out 1; have hfz23_2 := blk_frozen BK366.out 2))
        (try simp only [Act.put, List.setIfInBounds_toArray, List.set_cons_zero, List.set_cons_succ])
        go_cut [40] (fun v40 wc => ∃ (kq : Nat) (x40_9 : Bool), v40 = .bool x40_9 ∧ Aside0 (capnpref24_After.j0 kq t354 t358 x40_9 y363 0 = some (r1, r2, r3, r4)) ∧ Aside0 (kq ≤ k) ∧ Aside0 (Kd.R (Kd.int .u64) 53 wc w.heap.size (fun _ => True) (.slice Ao14 t354.length co14) t354) ∧ Aside0 (Kd.R (Kd.int .u8) 5 wc w.heap.size (fun _ => True) (.slice Ao20 y363.length co20) y363) ∧ Aside0 (wc.heap[gb352]? = some (.cells #[(.slice none 0 0), .int .i64 0, (.slice none 0 0)] 24 (0, 0))) ∧ Aside0 (wc.heap[gb366]? = some (.cells #[(.slice Ao20 y363.length co20), .int .i64 0, (.slice none 0 0)] 24 (0, 0))) ∧ Aside0 (Below w.heap.size w wc))
        case first =>
          have H := HC10.out
          clear HC10
          by_cases c24 : t358 < (t354.length : Int)
          · rw [if_pos c24] at H
            have c24b0 : decide (t358 < (t354.length : Int)) = true := decide_eq_true c24
            clear c24
            (first | rw [c24b0] | (simp only [i64_w, i32_w]; rw [c24b0]) | skip)
            by_cases c25 : 0 ≤ t358
            · rw [if_pos c25] at H
              have c25b0 : decide (0 ≤ t358) = true := decide_eq_true c25
              clear c25
              have H' := Aside0.mk H
              clear H
              have p367 : 0 ≤ (t358 : Int) := of_decide_eq_true pA
              have q367 : t358 < (t354.length : Int) := of_decide_eq_true pA
              obtain ⟨ad367, e367, hx367_0⟩ := Kd.at_int (Kd.R_reads' HO357.out).2.2 t358 p367 q367
              cases e367
              have hn367_0 : ad367.block ≠ gb366 := Kd.own_blk (Kd.R_ne HO357.out BK366.out (by decide))
              have hn367_1 : ad367.block ≠ gb366 := Kd.own_blk (Kd.R_ne HO357.out BK366.out (by decide))
              have hn367_2 : ad367.block ≠ gb366 := Kd.own_blk (Kd.R_ne HO357.out BK366.out (by decide))
              replace hx367_0 := (cell_far (p := ⟨gb366, 0, none⟩) (by first | (rw [add_block]; exact hn367_0) | (show (Addr.add _ _).block ≠ _; rw [add_block]; exact hn367_0) | exact hn367_0) (.slice Ao20 y363.length co20)).trans hx367_0
              replace hx367_0 := (cell_far (p := ⟨gb366, 1, none⟩) (by first | (rw [add_block]; exact hn367_1) | (show (Addr.add _ _).block ≠ _; rw [add_block]; exact hn367_1) | exact hn367_1) (.int .i64 0)).trans hx367_0
              replace hx367_0 := (cell_far (p := ⟨gb366, 2, none⟩) (by first | (rw [add_block]; exact hn367_2) | (show (Addr.add _ _).block ≠ _; rw [add_block]; exact hn367_2) | exact hn367_2) (.slice none 0 0)).trans hx367_0
              clear hn367_0
              clear hn367_1
              clear hn367_2
              replace p367 := eq_true p367
              replace q367 := eq_true q367
              go_wp2
              go_meet
              case rel => exact ⟨_, (((rd t354 t358) == 0)), (by first | rfl | (simp; done) | (simp [*]; done)), H', ⟨by first | omega | exact Nat.le_refl _⟩, ⟨by (with_reducible repeat (first | apply Kd.R_alloc | apply Kd.R_drewN | apply Kd.R_drew)); exact Kd.R_mono (Kd.R_far (p := ⟨gb366, 2, none⟩) (Kd.R_far (p := ⟨gb366, 1, none⟩) (Kd.R_far (p := ⟨gb366, 0, none⟩) (Kd.R_types HO357.out BK366.out (by decide)) (fun _ hk => hk.2) (.slice Ao20 y363.length co20)) (fun _ hk => hk.2) (.int .i64 0)) (fun _ hk => hk.2) (.slice none 0 0)) (fun _ hk => trivial)⟩, ⟨by (with_reducible repeat (first | apply Kd.R_alloc | apply Kd.R_drewN | apply Kd.R_drew)); exact Kd.R_mono (Kd.R_far (p := ⟨gb366, 2, none⟩) (Kd.R_far (p := ⟨gb366, 1, none⟩) (Kd.R_far (p := ⟨gb366, 0, none⟩) (Kd.R_types HO365.out BK366.out (by decide)) (fun _ hk => hk.2) (.slice Ao20 y363.length co20)) (fun _ hk => hk.2) (.int .i64 0)) (fun _ hk => hk.2) (.slice none 0 0)) (fun _ hk => trivial)⟩, ⟨by (with_reducible repeat (first | refine blk_drewN ?_ _ | refine blk_drew ?_ | refine blk_alloc ?_ _)); refine blk_far ?_ NB352_366.out _; (with_reducible repeat (first | refine blk_drewN ?_ _ | refine blk_drew ?_ | refine blk_alloc ?_ _)); refine blk_far ?_ NB352_366.out _; (with_reducible repeat (first | refine blk_drewN ?_ _ | refine blk_drew ?_ | refine blk_alloc ?_ _)); refine blk_far ?_ NB352_366.out _; (with_reducible repeat (first | refine blk_drewN ?_ _ | refine blk_drew ?_ | refine blk_alloc ?_ _)); exact BK352.out⟩, ⟨by (with_reducible repeat (first | refine blk_drewN ?_ _ | refine blk_drew ?_ | refine blk_alloc ?_ _)); refine blk_put (cs := #[.slice Ao20 y363.length co20, .int .i64 0, .slice none 0 0]) ?_ 2 _ rfl; (with_reducible repeat (first | refine blk_drewN ?_ _ | refine blk_drew ?_ | refine blk_alloc ?_ _)); refine blk_put (cs := #[.slice Ao20 y363.length co20, .int .i64 0, .slice none 0 0]) ?_ 1 _ rfl; (with_reducible repeat (first | refine blk_drewN ?_ _ | refine blk_drew ?_ | refine blk_alloc ?_ _)); refine blk_put (cs := #[.slice none 0 0, .int .i64 0, .slice none 0 0]) ?_ 0 _ rfl; (with_reducible repeat (first | refine blk_drewN ?_ _ | refine blk_drew ?_ | refine blk_alloc ?_ _)); exact BK366.out⟩, ⟨by repeat (first | (with_reducible first | exact HB.out | apply below_alloc | apply pw_below_drewN | apply below_drew1 | refine below_set ?_ GE352.out | refine below_set ?_ GE366.out) | exact HB.out)⟩⟩
            · rw [if_neg c25] at H
              exact absurd H (by simp)
          · rw [if_neg c24] at H
            have c24b0 : decide (t358 < (t354.length : Int)) = false := decide_eq_false c24
            clear c24
            (first | rw [c24b0] | (simp only [i64_w, i32_w]; rw [c24b0]) | skip)
            have H' := Aside0.mk H
            clear H
            go_wp2
            go_meet
            case rel => exact ⟨_, (false), (by first | rfl | (simp; done) | (simp [*]; done)), H', ⟨by first | omega | exact Nat.le_refl _⟩, ⟨by (with_reducible repeat (first | apply Kd.R_alloc | apply Kd.R_drewN | apply Kd.R_drew)); exact Kd.R_mono (Kd.R_far (p := ⟨gb366, 2, none⟩) (Kd.R_far (p := ⟨gb366, 1, none⟩) (Kd.R_far (p := ⟨gb366, 0, none⟩) (Kd.R_types HO357.out BK366.out (by decide)) (fun _ hk => hk.2) (.slice Ao20 y363.length co20)) (fun _ hk => hk.2) (.int .i64 0)) (fun _ hk => hk.2) (.slice none 0 0)) (fun _ hk => trivial)⟩, ⟨by (with_reducible repeat (first | apply Kd.R_alloc | apply Kd.R_drewN | apply Kd.R_drew)); exact Kd.R_mono (Kd.R_far (p := ⟨gb366, 2, none⟩) (Kd.R_far (p := ⟨gb366, 1, none⟩) (Kd.R_far (p := ⟨gb366, 0, none⟩) (Kd.R_types HO365.out BK366.out (by decide)) (fun _ hk => hk.2) (.slice Ao20 y363.length co20)) (fun _ hk => hk.2) (.int .i64 0)) (fun _ hk => hk.2) (.slice none 0 0)) (fun _ hk => trivial)⟩, ⟨by (with_reducible repeat (first | refine blk_drewN ?_ _ | refine blk_drew ?_ | refine blk_alloc ?_ _)); refine blk_far ?_ NB352_366.out _; (with_reducible repeat (first | refine blk_drewN ?_ _ | refine blk_drew ?_ | refine blk_alloc ?_ _)); refine blk_far ?_ NB352_366.out _; (with_reducible repeat (first | refine blk_drewN ?_ _ | refine blk_drew ?_ | refine blk_alloc ?_ _)); refine blk_far ?_ NB352_366.out _; (with_reducible repeat (first | refine blk_drewN ?_ _ | refine blk_drew ?_ | refine blk_alloc ?_ _)); exact BK352.out⟩, ⟨by (with_reducible repeat (first | refine blk_drewN ?_ _ | refine blk_drew ?_ | refine blk_alloc ?_ _)); refine blk_put (cs := #[.slice Ao20 y363.length co20, .int .i64 0, .slice none 0 0]) ?_ 2 _ rfl; (with_reducible repeat (first | refine blk_drewN ?_ _ | refine blk_drew ?_ | refine blk_alloc ?_ _)); refine blk_put (cs := #[.slice Ao20 y363.length co20, .int .i64 0, .slice none 0 0]) ?_ 1 _ rfl; (with_reducible repeat (first | refine blk_drewN ?_ _ | refine blk_drew ?_ | refine blk_alloc ?_ _)); refine blk_put (cs := #[.slice none 0 0, .int .i64 0, .slice none 0 0]) ?_ 0 _ rfl; (with_reducible repeat (first | refine blk_drewN ?_ _ | refine blk_drew ?_ | refine blk_alloc ?_ _)); exact BK366.out⟩, ⟨by repeat (first | (with_reducible first | exact HB.out | apply below_alloc | apply pw_below_drewN | apply below_drew1 | refine below_set ?_ GE352.out | refine below_set ?_ GE366.out) | exact HB.out)⟩⟩
        case rest =>
          clear HC10
          try clear c1
          try clear c2
          try clear p2
          try clear c3
          try clear c3b0
          try clear c3b1
          try clear p3
          try clear q3
          try clear hx3
          try clear c4
          try clear c4b0
          try clear c4b1
          try clear p6
          try clear c7
          try clear c7b0
          try clear c8
          try clear c8b0
          try clear c9
          try clear c13
          try clear c19
          try clear c22
          try clear c24
          try clear c24b0
          try clear c25
          try clear c25b0
          try clear hcz23_0
          try clear hcz23_1
          try clear hcz23_2
          try clear hfz23_0
          try clear hfz23_1
          try clear hfz23_2
          try clear hx367_0
          try clear p367
          try clear q367
          obtain ⟨kq, x40_9, rfl, HA, HJ9, HO_5, HO_367000, BK352, BK366, HB⟩ := hcut
          cases kq with
          | zero => exact absurd HA.out (by simp [capnpref24_After.j0])
          | succ kj9 =>
            have H := HA.out
            clear HA
            simp only [capnpref24_After.j0] at H
            by_cases c26 : x40_9 = true
            · subst c26
              have H1 : (if 0 ≤ t358 then (if t358 ≤ (t354.length : Int) then ((capnpref21_Words.f kj9 (t354.take (t358 : Int).toNat)).bind fun t372 => (some (y363, wrap64 ((t354.length : Int) - t358), ([] : List Int), t372))) else (none)) else (none)) = some (r1, r2, r3, r4) := by rw [if_pos rfl] at H; exact H
              clear H
              have H := H1
              clear H1
              by_cases c27 : 0 ≤ t358
              · rw [if_pos c27] at H
                have c27b0 := eq_true c27
                have c27b1 : decide (0 ≤ t358) = true := decide_eq_true c27
                clear c27
                by_cases c28 : t358 ≤ (t354.length : Int)
                · rw [if_pos c28] at H
                  have c28b0 := eq_true c28
                  have c28b1 : decide (t358 ≤ (t354.length : Int)) = true := decide_eq_true c28
                  clear c28
                  obtain ⟨y368, hy368⟩ : ∃ y_ : List Int, y_ = (t354.take (t358 : Int).toNat) := ⟨_, rfl⟩
                  replace H : ((capnpref21_Words.f kj9 y368).bind fun t372 => (some (y363, wrap64 ((t354.length : Int) - t358), ([] : List Int), t372))) = some (r1, r2, r3, r4) := by first | (rw [hy368]; with_reducible exact H) | (have H2_ := (Option.bind_some _ _).symm.trans H; rw [hy368]; with_reducible exact H2_) | (have H2_ := (Option.bind_some _ _).symm.trans H; with_reducible exact H2_) | with_reducible exact H | (rw [hy368]; exact H) | exact H
                  have Ny368 := Aside0.mk hy368
                  clear hy368
                  replace H := Option.bind_eq_some_iff.mp H
                  obtain ⟨t372, A290, H⟩ := H
                  replace H : (some (y363, wrap64 ((t354.length : Int) - t358), ([] : List Int), t372)) = some (r1, r2, r3, r4) := H
                  have A29 := Aside0.mk A290
                  clear A290
                  simp only [Option.some.injEq, Prod.mk.injEq] at H
                  obtain ⟨rfl, rfl, rfl, rfl⟩ := H
                  have hnb30 := NB366_352.out
                  have hnc30 := NB352_366.out
                  have hcz31_0 : wc.cell? ⟨gb366, 0, none⟩ = some (.slice Ao20 y363.length co20) := (blk_cell BK366.out 0).trans rfl
                  have hcz31_1 : wc.cell? ⟨gb366, 1, none⟩ = some (.int .i64 0) := (blk_cell BK366.out 1).trans rfl
                  have hcz31_2 : wc.cell? ⟨gb366, 2, none⟩ = some (.slice none 0 0) := (blk_cell BK366.out 2).trans rfl
                  have hfz31_0 := blk_frozen BK366.out 0
                  have hfz31_1 := blk_frozen BK366.out 1
                  have hfz31_2 := blk_frozen BK366.out 2
                  try go_wp2
                  have n0_ : Aside0 (Kd.R (Kd.int .u64) 53 (wc.setCell ⟨gb366, 1, none⟩ (.int .i64 (wrap64 ((t354.length : Int) - t358)))) w.heap.size (fun _ => True) (.slice Ao14 t354.length co14) t354) := ⟨by (with_reducible repeat (first | apply Kd.R_alloc | apply Kd.R_drewN | apply Kd.R_drew)); exact Kd.R_mono (Kd.R_far (p := ⟨gb366, 1, none⟩) (Kd.R_types HO_5.out BK366.out (by decide)) (fun _ hk => hk.2) (.int .i64 (wrap64 ((t354.length : Int) - t358)))) (fun _ hk => trivial)⟩
                  have n1_ : Aside0 (Kd.R (Kd.int .u8) 5 (wc.setCell ⟨gb366, 1, none⟩ (.int .i64 (wrap64 ((t354.length : Int) - t358)))) w.heap.size (fun _ => True) (.slice Ao20 y363.length co20) y363) := ⟨by (with_reducible repeat (first | apply Kd.R_alloc | apply Kd.R_drewN | apply Kd.R_drew)); exact Kd.R_mono (Kd.R_far (p := ⟨gb366, 1, none⟩) (Kd.R_types HO_367000.out BK366.out (by decide)) (fun _ hk => hk.2) (.int .i64 (wrap64 ((t354.length : Int) - t358)))) (fun _ hk => trivial)⟩
                  have n2_ : Aside0 ((wc.setCell ⟨gb366, 1, none⟩ (.int .i64 (wrap64 ((t354.length : Int) - t358)))).heap[gb352]? = some (.cells #[.slice none 0 0, .int .i64 0, .slice none 0 0] 24 (0, 0))) := ⟨by (with_reducible repeat (first | refine blk_drewN ?_ _ | refine blk_drew ?_ | refine blk_alloc ?_ _)); refine blk_far ?_ NB352_366.out _; (with_reducible repeat (first | refine blk_drewN ?_ _ | refine blk_drew ?_ | refine blk_alloc ?_ _)); exact BK352.out⟩
                  have n3_ : Aside0 ((wc.setCell ⟨gb366, 1, none⟩ (.int .i64 (wrap64 ((t354.length : Int) - t358)))).heap[gb366]? = some (.cells #[.slice Ao20 y363.length co20, .int .i64 (wrap64 ((t354.length : Int) - t358)), .slice none 0 0] 24 (0, 0))) := ⟨by (with_reducible repeat (first | refine blk_drewN ?_ _ | refine blk_drew ?_ | refine blk_alloc ?_ _)); refine blk_put (cs := #[.slice Ao20 y363.length co20, .int .i64 0, .slice none 0 0]) ?_ 1 _ rfl; (with_reducible repeat (first | refine blk_drewN ?_ _ | refine blk_drew ?_ | refine blk_alloc ?_ _)); exact BK366.out⟩
                  have n4_ : Aside0 (Below w.heap.size w (wc.setCell ⟨gb366, 1, none⟩ (.int .i64 (wrap64 ((t354.length : Int) - t358))))) := ⟨by repeat (first | (with_reducible first | exact HB.out | apply below_alloc | apply pw_below_drewN | apply below_drew1 | refine below_set ?_ GE352.out | refine below_set ?_ GE366.out) | exact HB.out)⟩
                  (try clear HO_5)
                  (try clear HO_367000)
                  (try clear BK352)
                  (try clear BK366)
                  (try clear HB)
                  generalize (wc.setCell ⟨gb366, 1, none⟩ (.int .i64 (wrap64 ((t354.length : Int) - t358)))) = w32 at n0_ n1_ n2_ n3_ n4_ ⊢
                  have HO_5 := n0_
                  have HO_367000 := n1_
                  have BK352 := n2_
                  have BK366 := n3_
                  have HB := n4_
                  clear n0_ n1_ n2_ n3_ n4_
                  have n0_ := Aside0.mk (Kd.R_drew HO_5.out)
                  have n1_ := Aside0.mk (Kd.R_drew HO_367000.out)
                  have n2_ := Aside0.mk (blk_drew BK352.out)
                  have n3_ := Aside0.mk (blk_drew BK366.out)
                  have n4_ := Aside0.mk (below_drew1 HB.out)
                  clear HO_5
                  clear HO_367000
                  clear BK352
                  clear BK366
                  clear HB
                  have HO_5 := n0_
                  have HO_367000 := n1_
                  have BK352 := n2_
                  have BK366 := n3_
                  have HB := n4_
                  clear n0_ n1_ n2_ n3_ n4_
                  have q34 : (t358 : Int) ≤ ((t354.length : Int) : Int) := of_decide_eq_true pA
                  obtain ⟨i034, hi034, _, hsz34, _⟩ := info_parts info53
                  have hroom34 : t354.length ≤ co14 := (Kd.R_reads' HO_5.out).2.1
                  have hC34 : Kd.C (Kd.int .u64) _ Ao14 t354.length t354 := (Kd.R_reads' HO_5.out).2.2
                  have hcut34 := cut_to (P := Try.prog) 44 53 .i64 Try.underlying44 hi034 Ao14 t354.length co14 t358 (of_decide_eq_true pA) q34 hroom34
                  have hr34 := Kd.C_take (m := (t358 : Int).toNat) hC34 (by omega)
                  have hy34 : y368.length = (t358 : Int).toNat := (by rw [Ny368.out, List.length_take]; omega)
                  rw [← Ny368.out] at hr34
                  rw [← hy34] at hcut34
                  have HR371 := Aside0.mk hr34
                  have HC371 := Aside0.mk (show y368.length ≤ co14 from by omega)
                  clear hr34 hC34 hroom34 hi034 hsz34
                  have KY34 := Aside0.mk hy34
                  clear hy34
                  have KL34 := Aside0.mk (show (t358 : Int).toNat ≤ t354.length from by omega)
                  replace q34 := eq_true q34
                  refine start_ (n := 7) (S := fun w' => w'.cell? ⟨gb366, 0, none⟩ = some (.slice Ao20 y363.length co20) ∧ w'.cell? ⟨gb366, 1, none⟩ = some (.int .i64 (wrap64 ((t354.length : Int) - t358))) ∧ w'.cell? ⟨gb366, 2, none⟩ = some (.slice none 0 0)) (ds := []) #[false, false, false, false, false, false, false] (by kernel_rfl) rfl rfl ⟨(blk_cell BK366.out 0).trans rfl, (blk_cell BK366.out 1).trans rfl, (blk_cell BK366.out 2).trans rfl⟩ (fun hHeld => ?_)
                  generalize w32.drew = w33 at HO_5 HO_367000 BK352 BK366 HB HR371 hHeld ⊢
                  refine pure_ (i := 1) (N := some 52) (v := ?_) (a' := ?_) #[false, true, false, false, false, false, false] rfl rfl (by kernel_rfl) (fun _ _ _ h => h) (Or.inl ⟨by rfl, ?_⟩) ?_ ?_
                  rotate_left
                  · intro w'
                    go_simp
                    with_reducible rfl
                  rotate_left
                  · simp only [Act.put, List.setIfInBounds_toArray, List.set_cons_zero, List.set_cons_succ, i64_w, i32_w]
                    rfl
                  refine pure_ (i := 2) (N := some 53) (v := ?_) (a' := ?_) #[false, true, true, false, false, false, false] rfl rfl (by kernel_rfl) (fun _ _ _ h => h) (Or.inl ⟨by rfl, ?_⟩) ?_ ?_
                  rotate_left
                  · intro w'
                    go_simp
                    with_reducible rfl
                  rotate_left
                  · simp only [Act.put, List.setIfInBounds_toArray, List.set_cons_zero, List.set_cons_succ, i64_w, i32_w]
                    rfl
                  refine pure_ (i := 3) (N := some 54) (v := ?_) (a' := ?_) #[false, true, true, true, false, false, false] rfl rfl (by kernel_rfl) (fun _ _ _ h => h) (Or.inl ⟨by rfl, ?_⟩) ?_ ?_
                  rotate_left
                  · intro w'
                    go_simp
                    with_reducible rfl
                  rotate_left
                  · simp only [Act.put, List.setIfInBounds_toArray, List.set_cons_zero, List.set_cons_succ, i64_w, i32_w]
                    rfl
                  refine take_ (i := 0) (N := some 51) (v := ?_) (a' := ?_) #[true, true, true, true, false, false, false] rfl rfl (by kernel_rfl) (fun _ _ _ h => h) (Or.inl ⟨by rfl, ?_⟩) hHeld ?_ ?_
                  rotate_left
                  · rintro w' ⟨s0, s1, s2⟩
                    go_simp
                    with_reducible rfl
                  rotate_left
                  · simp only [Act.put, List.setIfInBounds_toArray, List.set_cons_zero, List.set_cons_succ, i64_w, i32_w]
                    rfl
                  refine one_ (i := 4) (N := some 55) #[true, true, true, true, true, false, false] rfl rfl (by kernel_rfl) (by decide) (fun K hK => ?_)
                  refine goes_ Try.func20 (by kernel_rfl) rfl #[.slice Ao14 y368.length co14] (by rfl) rfl rfl pM ?_
                  with_reducible refine (capnpref21_Words.calls kj9 _ _ y368 t372 _ ?side1 ?side2 A29.out).mono ?_
                  (case side1 => repeat (first | exact (by repeat (first | (with_reducible exact HR371.out) | (with_reducible refine Kd.C_alloc ?_ _) | (with_reducible refine Kd.C_drewN ?_ _) | (with_reducible refine Kd.C_drew ?_) | exact HR371.out)) | (with_reducible refine Kd.C_alloc ?_ _) | (with_reducible refine Kd.C_drewN ?_ _) | (with_reducible refine Kd.C_drew ?_)))
                  (case side2 => exact HC371.out)
                  rintro e w35 ⟨v373, rfl, ho0, hb⟩
                  refine ⟨_, rfl, ?_⟩
                  have n0_ := Aside0.mk (Kd.R_below (pR HO_5) hb)
                  have n1_ := Aside0.mk (Kd.R_elder' (pR HO_367000) (Kd.R_base ho0) hb)
                  have n2_ := Aside0.mk (Kd.R_lower (Kd.R_new' ho0 (Kd.R_lt (pR HO_367000))) (below_size (by repeat (first | (with_reducible first | exact HB.out | apply below_alloc | apply pw_below_drewN | apply below_drew1 | refine below_set ?_ GE352.out | refine below_set ?_ GE366.out) | exact HB.out))))
                  have n3_ := Aside0.mk (blk_below (g := gb352) (o := .cells #[.slice none 0 0, .int .i64 0, .slice none 0 0] 24 (0, 0)) (pK BK352) hb)
                  have n4_ := Aside0.mk (blk_below (g := gb366) (o := .cells #[.slice Ao20 y363.length co20, .int .i64 (wrap64 ((t354.length : Int) - t358)), .slice none 0 0] 24 (0, 0)) (pK BK366) hb)
                  have n5_ := Aside0.mk (Kd.C_below (by repeat (first | (with_reducible exact HR371.out) | (with_reducible refine Kd.C_alloc ?_ _) | (with_reducible refine Kd.C_drewN ?_ _) | (with_reducible refine Kd.C_drew ?_) | exact HR371.out)) hb)
                  have n6_ := Aside0.mk (below_step (by repeat (first | (with_reducible first | exact HB.out | apply below_alloc | apply pw_below_drewN | apply below_drew1 | refine below_set ?_ GE352.out | refine below_set ?_ GE366.out) | exact HB.out)) hb)
                  clear HO_5
                  clear HO_367000
                  clear BK352
                  clear BK366
                  clear HR371
                  clear HB
                  have HO_5 := n0_
                  have HO_367000 := n1_
                  have HO374 := n2_
                  have BK352 := n3_
                  have BK366 := n4_
                  have HR371 := n5_
                  have HB := n6_
                  clear n0_ n1_ n2_ n3_ n4_ n5_ n6_
                  (try clear hb)
                  (try clear hb2)
                  (try clear hk)
                  (try clear hi)
                  (try clear ho0)
                  refine hK.out _ _ ⟨(blk_cell BK366.out 0).trans rfl, (blk_cell BK366.out 1).trans rfl, (blk_cell BK366.out 2).trans rfl⟩ (fun hHeld => ?_)
                  clear hK K
                  refine norm_ (a' := ?_) ?_ ?_
                  rotate_left
                  · show Act.put _ (some 55) _ = _
                    simp only [Act.put, List.setIfInBounds_toArray, List.set_cons_zero, List.set_cons_succ, i64_w, i32_w]
                    rfl
                  refine one_ (i := 5) (N := none) #[true, true, true, true, true, true, false] rfl rfl (by kernel_rfl) (by decide) (fun K hK => ?_)
                  have hs36 : w35.cell? ⟨gb352, 0, none⟩ = some (.slice none 0 0) := (blk_cell BK352.out 0).trans rfl
                  have hfs36 := blk_frozen BK352.out 0
                  have hns36_1 := NB366_352.out
                  have hms36_1 := NB352_366.out
                  have hs37 : w35.cell? ⟨gb352, 1, none⟩ = some (.int .i64 0) := (blk_cell BK352.out 1).trans rfl
                  have hfs37 := blk_frozen BK352.out 1
                  have hns37_1 := NB366_352.out
                  have hms37_1 := NB352_366.out
                  have hs38 : w35.cell? ⟨gb352, 2, none⟩ = some (.slice none 0 0) := (blk_cell BK352.out 2).trans rfl
                  have hfs38 := blk_frozen BK352.out 2
                  have hns38_1 := NB366_352.out
                  have hms38_1 := NB352_366.out
                  refine skip_ (w1 := ?_) (by rfl) rfl ?_ ?_
                  rotate_left
                  · go_simp
                    rfl
                  refine hK.out _ _ ⟨((cell_far (p := ⟨gb352, _, none⟩) NB366_352.out _).trans (((cell_far (p := ⟨gb352, _, none⟩) NB366_352.out _).trans (((cell_far (p := ⟨gb352, _, none⟩) NB366_352.out _).trans (hHeld.1)))))), ((cell_far (p := ⟨gb352, _, none⟩) NB366_352.out _).trans (((cell_far (p := ⟨gb352, _, none⟩) NB366_352.out _).trans (((cell_far (p := ⟨gb352, _, none⟩) NB366_352.out _).trans (hHeld.2.1)))))), ((cell_far (p := ⟨gb352, _, none⟩) NB366_352.out _).trans (((cell_far (p := ⟨gb352, _, none⟩) NB366_352.out _).trans (((cell_far (p := ⟨gb352, _, none⟩) NB366_352.out _).trans (hHeld.2.2))))))⟩ (fun hHeld => ?_)
                  clear hK K
                  refine pure_ (i := 6) (N := some 3) (v := ?_) (a' := ?_) #[true, true, true, true, true, true, true] rfl rfl (by kernel_rfl) (fun _ _ _ h => h) (Or.inl ⟨by rfl, ?_⟩) ?_ ?_
                  rotate_left
                  · intro w'
                    go_simp
                    with_reducible rfl
                  rotate_left
                  · simp only [Act.put, List.setIfInBounds_toArray, List.set_cons_zero, List.set_cons_succ, i64_w, i32_w]
                    rfl
                  refine done_ (by kernel_rfl) ?_
                  try go_wp2
                  refine bodyPost_ret (results_ct rfl _ _ gb352 24 #[.slice Ao20 y363.length co20, .int .i64 (wrap64 ((t354.length : Int) - t358)), .slice none 0 0] (0, 0) _ rfl (by (with_reducible repeat (first | refine blk_drewN ?_ _ | refine blk_drew ?_ | refine blk_alloc ?_ _)); refine blk_put (cs := #[.slice Ao20 y363.length co20, .int .i64 (wrap64 ((t354.length : Int) - t358)), .slice none 0 0]) ?_ 2 _ rfl; (with_reducible repeat (first | refine blk_drewN ?_ _ | refine blk_drew ?_ | refine blk_alloc ?_ _)); refine blk_put (cs := #[.slice Ao20 y363.length co20, .int .i64 0, .slice none 0 0]) ?_ 1 _ rfl; (with_reducible repeat (first | refine blk_drewN ?_ _ | refine blk_drew ?_ | refine blk_alloc ?_ _)); refine blk_put (cs := #[.slice none 0 0, .int .i64 0, .slice none 0 0]) ?_ 0 _ rfl; (with_reducible repeat (first | refine blk_drewN ?_ _ | refine blk_drew ?_ | refine blk_alloc ?_ _)); exact BK352.out) Try.underlying24 rfl (by kernel_rfl)) rfl ?_
                  exact ⟨_, _, _, by first | rfl | (simp [errW_none, errW_some] <;> rfl) | (simp only [← hji2]; first | rfl | (simp [errW_none, errW_some] <;> rfl)) | (simp [*, errW_none, errW_some] <;> rfl), by (with_reducible repeat (first | apply Kd.R_alloc | apply Kd.R_drewN | apply Kd.R_drew)); exact Kd.R_mono (Kd.R_far (p := ⟨gb352, 2, none⟩) (Kd.R_far (p := ⟨gb352, 1, none⟩) (Kd.R_far (p := ⟨gb352, 0, none⟩) (Kd.R_types HO_367000.out BK352.out (by decide)) (fun _ hk => hk.2) (.slice Ao20 y363.length co20)) (fun _ hk => hk.2) (.int .i64 (wrap64 ((t354.length : Int) - t358)))) (fun _ hk => hk.2) (.slice none 0 0)) (fun _ hk => ⟨(by simp [Value.ownBlock]), hk.1.2⟩), by first | exact Kd.R_nil _ _ _ _ _ | exact Kd.N_nil _ _ _ _ _ | exact Kd.V_nil _ _ _ _ _ | exact Kd.Q_nil _ _ _ _ _ | exact Kd.S_nil _ _ _ _ _, by (with_reducible repeat (first | apply Kd.R_alloc | apply Kd.R_drewN | apply Kd.R_drew)); exact Kd.R_mono (Kd.R_far (p := ⟨gb352, 2, none⟩) (Kd.R_far (p := ⟨gb352, 1, none⟩) (Kd.R_far (p := ⟨gb352, 0, none⟩) (Kd.R_types HO374.out BK352.out (by decide)) (fun _ hk => hk.2) (.slice Ao20 y363.length co20)) (fun _ hk => hk.2) (.int .i64 (wrap64 ((t354.length : Int) - t358)))) (fun _ hk => hk.2) (.slice none 0 0)) (fun _ hk => ⟨hk.1.2, (by simp [Value.ownBlock])⟩), by repeat (first | (with_reducible first | exact HB.out | apply below_alloc | apply pw_below_drewN | apply below_drew1 | refine below_set ?_ GE352.out | refine below_set ?_ GE366.out) | exact HB.out)⟩
                · rw [if_neg c28] at H
                  exact absurd H (by simp)
              · rw [if_neg c27] at H
                exact absurd H (by simp)
            · replace c26 := Bool.eq_false_iff.mpr c26
              subst c26
              have H1 : (if 0 ≤ t358 then (if t358 ≤ (t354.length : Int) then ((capnpref01_Bytes.f kj9 (t354.drop (t358 : Int).toNat)).bind fun t379 => ((capnpref21_Words.f kj9 (t354.take (t358 : Int).toNat)).bind fun t386 => (some (y363, 0, t379, t386)))) else (none)) else (none)) = some (r1, r2, r3, r4) := by rw [if_neg (show ¬ (false = true) by decide)] at H; exact H
              clear H
              have H := H1
              clear H1
              by_cases c39 : 0 ≤ t358
              · rw [if_pos c39] at H
                have c39b0 := eq_true c39
                have c39b1 : decide (0 ≤ t358) = true := decide_eq_true c39
                clear c39
                by_cases c40 : t358 ≤ (t354.length : Int)
                · rw [if_pos c40] at H
                  have c40b0 := eq_true c40
                  have c40b1 : decide (t358 ≤ (t354.length : Int)) = true := decide_eq_true c40
                  clear c40
                  obtain ⟨y375, hy375⟩ : ∃ y_ : List Int, y_ = (t354.drop (t358 : Int).toNat) := ⟨_, rfl⟩
                  replace H : ((capnpref01_Bytes.f kj9 y375).bind fun t379 => ((capnpref21_Words.f kj9 (t354.take (t358 : Int).toNat)).bind fun t386 => (some (y363, 0, t379, t386)))) = some (r1, r2, r3, r4) := by first | (rw [hy375]; with_reducible exact H) | (have H2_ := (Option.bind_some _ _).symm.trans H; rw [hy375]; with_reducible exact H2_) | (have H2_ := (Option.bind_some _ _).symm.trans H; with_reducible exact H2_) | with_reducible exact H | (rw [hy375]; exact H) | exact H
                  have Ny375 := Aside0.mk hy375
                  clear hy375
                  replace H := Option.bind_eq_some_iff.mp H
                  obtain ⟨t379, A410, H⟩ := H
                  replace H : ((capnpref21_Words.f kj9 (t354.take (t358 : Int).toNat)).bind fun t386 => (some (y363, 0, t379, t386))) = some (r1, r2, r3, r4) := H
                  have A41 := Aside0.mk A410
                  clear A410
                  have c42b0 := eq_true (of_decide_eq_true pA : 0 ≤ t358)
                  have c43b0 := eq_true (of_decide_eq_true pA : t358 ≤ (t354.length : Int))
                  obtain ⟨y382, hy382⟩ : ∃ y_ : List Int, y_ = (t354.take (t358 : Int).toNat) := ⟨_, rfl⟩
                  replace H : ((capnpref21_Words.f kj9 y382).bind fun t386 => (some (y363, 0, t379, t386))) = some (r1, r2, r3, r4) := by first | (rw [hy382]; with_reducible exact H) | (have H2_ := (Option.bind_some _ _).symm.trans H; rw [hy382]; with_reducible exact H2_) | (have H2_ := (Option.bind_some _ _).symm.trans H; with_reducible exact H2_) | with_reducible exact H | (rw [hy382]; exact H) | exact H
                  have Ny382 := Aside0.mk hy382
                  clear hy382
                  replace H := Option.bind_eq_some_iff.mp H
                  obtain ⟨t386, A440, H⟩ := H
                  replace H : (some (y363, 0, t379, t386)) = some (r1, r2, r3, r4) := H
                  have A44 := Aside0.mk A440
                  clear A440
                  simp only [Option.some.injEq, Prod.mk.injEq] at H
                  obtain ⟨rfl, rfl, rfl, rfl⟩ := H
                  have q45 : (t358 : Int) ≤ ((t354.length : Int) : Int) := of_decide_eq_true pA
                  obtain ⟨i045, hi045, _, hsz45, _⟩ := info_parts info53
                  have hroom45 : t354.length ≤ co14 := (Kd.R_reads' HO_5.out).2.1
                  have hC45 : Kd.C (Kd.int .u64) _ Ao14 t354.length t354 := (Kd.R_reads' HO_5.out).2.2
                  have q045 : (0 : Int) ≤ (t358 : Int) := of_decide_eq_true pA
                  have hcut45 := cut_from (P := Try.prog) 44 53 .i64 Try.underlying44 hi045 1 hsz45 Ao14 t354.length co14 t358 q045 q45
                  have hr45 := Kd.C_drop (m := (t358 : Int).toNat) (c := co14) hC45 (by omega) hroom45
                  obtain ⟨A45, hA45⟩ : ∃ A1, A1 = (if co14 = (t358 : Int).toNat then Ao14 else (Ao14 : Option Addr).map (·.add ((t358 : Int).toNat * 1))) := ⟨_, rfl⟩
                  obtain ⟨c45, hc45⟩ : ∃ c1, c1 = co14 - (t358 : Int).toNat := ⟨_, rfl⟩
                  have hy45 : y375.length = t354.length - (t358 : Int).toNat := (by rw [Ny375.out, List.length_drop] <;> omega)
                  rw [show (t354).drop (t358 : Int).toNat = y375 from Ny375.out.symm] at hr45
                  replace hr45 : Kd.C (Kd.int .u64) _ A45 y375.length y375 := (by rw [hA45]; exact hr45)
                  rw [← hy45, ← hA45, ← hc45] at hcut45
                  have HR378 := Aside0.mk hr45
                  have HC378 := Aside0.mk (show y375.length ≤ c45 from by rw [hy45, hc45]; exact Nat.sub_le_sub_right hroom45 _)
                  clear hr45 hC45 hroom45 hi045 hsz45 hc45
                  have KY45 := Aside0.mk hy45
                  have KA45 := Aside0.mk hA45
                  clear hy45 hA45
                  have KL45 := Aside0.mk (show (t358 : Int).toNat ≤ t354.length from by omega)
                  replace q45 := eq_true q45
                  try go_wp2_with (first | ((with_reducible refine gate_callee (f := 29) rfl ?_); refine goesL_ (some 49) rfl rfl Try.func29 (by kernel_rfl) rfl #[.slice A45 y375.length c45] rfl pM ?_; (with_reducible refine (capnpref01_Bytes.calls kj9 _ _ y375 t379 _ ?side1 ?side2 A41.out).mono ?_); (case side1 => repeat (first | exact (by repeat (first | (with_reducible exact HR378.out) | (with_reducible refine Kd.C_alloc ?_ _) | (with_reducible refine Kd.C_drewN ?_ _) | (with_reducible refine Kd.C_drew ?_) | exact HR378.out)) | (with_reducible refine Kd.C_alloc ?_ _) | (with_reducible refine Kd.C_drewN ?_ _) | (with_reducible refine Kd.C_drew ?_))); (case side2 => exact HC378.out); rintro e w46 ⟨v380, rfl, ho0, hb⟩; refine ⟨_, rfl, ?_⟩; have n0_ := Aside0.mk (Kd.R_below (pR HO_5) hb); have n1_ := Aside0.mk (Kd.R_elder' (pR HO_367000) (Kd.R_base ho0) hb); have n2_ := Aside0.mk (Kd.R_lower (Kd.R_new' ho0 (Kd.R_lt (pR HO_367000))) (below_size (by repeat (first | (with_reducible first | exact HB.out | apply below_alloc | apply pw_below_drewN | apply below_drew1 | refine below_set ?_ GE352.out | refine below_set ?_ GE366.out) | exact HB.out)))); have n3_ := Aside0.mk (blk_below (g := gb352) (o := .cells #[.slice none 0 0, .int .i64 0, .slice none 0 0] 24 (0, 0)) (pK BK352) hb); have n4_ := Aside0.mk (blk_below (g := gb366) (o := .cells #[.slice Ao20 y363.length co20, .int .i64 0, .slice none 0 0] 24 (0, 0)) (pK BK366) hb); have n5_ := Aside0.mk (Kd.C_below (by repeat (first | (with_reducible exact HR378.out) | (with_reducible refine Kd.C_alloc ?_ _) | (with_reducible refine Kd.C_drewN ?_ _) | (with_reducible refine Kd.C_drew ?_) | exact HR378.out)) hb); have n6_ := Aside0.mk (below_step (by repeat (first | (with_reducible first | exact HB.out | apply below_alloc | apply pw_below_drewN | apply below_drew1 | refine below_set ?_ GE352.out | refine below_set ?_ GE366.out) | exact HB.out)) hb); clear HO_5; clear HO_367000; clear BK352; clear BK366; clear HR378; clear HB; have HO_5 := n0_; have HO_367000 := n1_; have HO381 := n2_; have BK352 := n3_; have BK366 := n4_; have HR378 := n5_; have HB := n6_; clear n0_ n1_ n2_ n3_ n4_ n5_ n6_; (try clear hb); (try clear hb2); (try clear hk); (try clear hi); (try clear ho0); obtain ⟨Ao47, co47, eo47⟩ := Kd.R_slice HO381.out; subst eo47; have hnb48 := NB366_352.out; have hnc48 := NB352_366.out; have hcz49_0 : w46.cell? ⟨gb366, 0, none⟩ = some (.slice Ao20 y363.length co20) := (blk_cell BK366.out 0).trans rfl; have hcz49_1 : w46.cell? ⟨gb366, 1, none⟩ = some (.int .i64 0) := (blk_cell BK366.out 1).trans rfl; have hcz49_2 : w46.cell? ⟨gb366, 2, none⟩ = some (.slice none 0 0) := (blk_cell BK366.out 2).trans rfl; have hfz49_0 := blk_frozen BK366.out 0; have hfz49_1 := blk_frozen BK366.out 1; have hfz49_2 := blk_frozen BK366.out 2))
                  have n0_ : Aside0 (Kd.R (Kd.int .u64) 53 (w46.setCell ⟨gb366, 2, none⟩ (.slice Ao47 t379.length co47)) w.heap.size (fun _ => True) (.slice Ao14 t354.length co14) t354) := ⟨by (with_reducible repeat (first | apply Kd.R_alloc | apply Kd.R_drewN | apply Kd.R_drew)); exact Kd.R_mono (Kd.R_far (p := ⟨gb366, 2, none⟩) (Kd.R_types HO_5.out BK366.out (by decide)) (fun _ hk => hk.2) (.slice Ao47 t379.length co47)) (fun _ hk => trivial)⟩
                  have n1_ : Aside0 (Kd.R (Kd.int .u8) 5 (w46.setCell ⟨gb366, 2, none⟩ (.slice Ao47 t379.length co47)) w.heap.size (fun k_ => some k_ ≠ (.slice Ao47 t379.length co47 : Value).ownBlock) (.slice Ao20 y363.length co20) y363) := ⟨by (with_reducible repeat (first | apply Kd.R_alloc | apply Kd.R_drewN | apply Kd.R_drew)); exact Kd.R_mono (Kd.R_far (p := ⟨gb366, 2, none⟩) (Kd.R_types HO_367000.out BK366.out (by decide)) (fun _ hk => hk.2) (.slice Ao47 t379.length co47)) (fun _ hk => hk.1.2)⟩
                  have n2_ : Aside0 (Kd.R (Kd.int .u8) 5 (w46.setCell ⟨gb366, 2, none⟩ (.slice Ao47 t379.length co47)) w.heap.size (fun k_ => some k_ ≠ (.slice Ao20 y363.length co20 : Value).ownBlock) (.slice Ao47 t379.length co47) t379) := ⟨by (with_reducible repeat (first | apply Kd.R_alloc | apply Kd.R_drewN | apply Kd.R_drew)); exact Kd.R_mono (Kd.R_far (p := ⟨gb366, 2, none⟩) (Kd.R_types HO381.out BK366.out (by decide)) (fun _ hk => hk.2) (.slice Ao47 t379.length co47)) (fun _ hk => hk.1.2)⟩
                  have n3_ : Aside0 ((w46.setCell ⟨gb366, 2, none⟩ (.slice Ao47 t379.length co47)).heap[gb352]? = some (.cells #[.slice none 0 0, .int .i64 0, .slice none 0 0] 24 (0, 0))) := ⟨by (with_reducible repeat (first | refine blk_drewN ?_ _ | refine blk_drew ?_ | refine blk_alloc ?_ _)); refine blk_far ?_ NB352_366.out _; (with_reducible repeat (first | refine blk_drewN ?_ _ | refine blk_drew ?_ | refine blk_alloc ?_ _)); exact BK352.out⟩
                  have n4_ : Aside0 ((w46.setCell ⟨gb366, 2, none⟩ (.slice Ao47 t379.length co47)).heap[gb366]? = some (.cells #[.slice Ao20 y363.length co20, .int .i64 0, .slice Ao47 t379.length co47] 24 (0, 0))) := ⟨by (with_reducible repeat (first | refine blk_drewN ?_ _ | refine blk_drew ?_ | refine blk_alloc ?_ _)); refine blk_put (cs := #[.slice Ao20 y363.length co20, .int .i64 0, .slice none 0 0]) ?_ 2 _ rfl; (with_reducible repeat (first | refine blk_drewN ?_ _ | refine blk_drew ?_ | refine blk_alloc ?_ _)); exact BK366.out⟩
                  have n5_ : Aside0 (Below w.heap.size w (w46.setCell ⟨gb366, 2, none⟩ (.slice Ao47 t379.length co47))) := ⟨by repeat (first | (with_reducible first | exact HB.out | apply below_alloc | apply pw_below_drewN | apply below_drew1 | refine below_set ?_ GE352.out | refine below_set ?_ GE366.out) | exact HB.out)⟩
                  (try clear HO_5)
                  (try clear HO_367000)
                  (try clear HO381)
                  (try clear BK352)
                  (try clear BK366)
                  (try clear HB)
                  generalize (w46.setCell ⟨gb366, 2, none⟩ (.slice Ao47 t379.length co47)) = w50 at n0_ n1_ n2_ n3_ n4_ n5_ ⊢
                  have HO_5 := n0_
                  have HO_367000 := n1_
                  have HO381 := n2_
                  have BK352 := n3_
                  have BK366 := n4_
                  have HB := n5_
                  clear n0_ n1_ n2_ n3_ n4_ n5_
                  have n0_ := Aside0.mk (Kd.R_drew HO_5.out)
                  have n1_ := Aside0.mk (Kd.R_drew HO_367000.out)
                  have n2_ := Aside0.mk (Kd.R_drew HO381.out)
                  have n3_ := Aside0.mk (blk_drew BK352.out)
                  have n4_ := Aside0.mk (blk_drew BK366.out)
                  have n5_ := Aside0.mk (below_drew1 HB.out)
                  clear HO_5
                  clear HO_367000
                  clear HO381
                  clear BK352
                  clear BK366
                  clear HB
                  have HO_5 := n0_
                  have HO_367000 := n1_
                  have HO381 := n2_
                  have BK352 := n3_
                  have BK366 := n4_
                  have HB := n5_
                  clear n0_ n1_ n2_ n3_ n4_ n5_
                  have q52 : (t358 : Int) ≤ ((t354.length : Int) : Int) := of_decide_eq_true pA
                  obtain ⟨i052, hi052, _, hsz52, _⟩ := info_parts info53
                  have hroom52 : t354.length ≤ co14 := (Kd.R_reads' HO_5.out).2.1
                  have hC52 : Kd.C (Kd.int .u64) _ Ao14 t354.length t354 := (Kd.R_reads' HO_5.out).2.2
                  have hcut52 := cut_to (P := Try.prog) 44 53 .i64 Try.underlying44 hi052 Ao14 t354.length co14 t358 (of_decide_eq_true pA) q52 hroom52
                  have hr52 := Kd.C_take (m := (t358 : Int).toNat) hC52 (by omega)
                  have hy52 : y382.length = (t358 : Int).toNat := (by rw [Ny382.out, List.length_take]; omega)
                  rw [← Ny382.out] at hr52
                  rw [← hy52] at hcut52
                  have HR385 := Aside0.mk hr52
                  have HC385 := Aside0.mk (show y382.length ≤ co14 from by omega)
                  clear hr52 hC52 hroom52 hi052 hsz52
                  have KY52 := Aside0.mk hy52
                  clear hy52
                  have KL52 := Aside0.mk (show (t358 : Int).toNat ≤ t354.length from by omega)
                  replace q52 := eq_true q52
                  refine start_ (n := 7) (S := fun w' => w'.cell? ⟨gb366, 0, none⟩ = some (.slice Ao20 y363.length co20) ∧ w'.cell? ⟨gb366, 1, none⟩ = some (.int .i64 0) ∧ w'.cell? ⟨gb366, 2, none⟩ = some (.slice Ao47 t379.length co47)) (ds := []) #[false, false, false, false, false, false, false] (by kernel_rfl) rfl rfl ⟨(blk_cell BK366.out 0).trans rfl, (blk_cell BK366.out 1).trans rfl, (blk_cell BK366.out 2).trans rfl⟩ (fun hHeld => ?_)
                  generalize w50.drew = w51 at HO_5 HO_367000 HO381 BK352 BK366 HB HR385 hHeld ⊢
                  refine pure_ (i := 1) (N := some 52) (v := ?_) (a' := ?_) #[false, true, false, false, false, false, false] rfl rfl (by kernel_rfl) (fun _ _ _ h => h) (Or.inl ⟨by rfl, ?_⟩) ?_ ?_
                  rotate_left
                  · intro w'
                    go_simp
                    with_reducible rfl
                  rotate_left
                  · simp only [Act.put, List.setIfInBounds_toArray, List.set_cons_zero, List.set_cons_succ, i64_w, i32_w]
                    rfl
                  refine pure_ (i := 2) (N := some 53) (v := ?_) (a' := ?_) #[false, true, true, false, false, false, false] rfl rfl (by kernel_rfl) (fun _ _ _ h => h) (Or.inl ⟨by rfl, ?_⟩) ?_ ?_
                  rotate_left
                  · intro w'
                    go_simp
                    with_reducible rfl
                  rotate_left
                  · simp only [Act.put, List.setIfInBounds_toArray, List.set_cons_zero, List.set_cons_succ, i64_w, i32_w]
                    rfl
                  refine pure_ (i := 3) (N := some 54) (v := ?_) (a' := ?_) #[false, true, true, true, false, false, false] rfl rfl (by kernel_rfl) (fun _ _ _ h => h) (Or.inl ⟨by rfl, ?_⟩) ?_ ?_
                  rotate_left
                  · intro w'
                    go_simp
                    with_reducible rfl
                  rotate_left
                  · simp only [Act.put, List.setIfInBounds_toArray, List.set_cons_zero, List.set_cons_succ, i64_w, i32_w]
                    rfl
                  refine take_ (i := 0) (N := some 51) (v := ?_) (a' := ?_) #[true, true, true, true, false, false, false] rfl rfl (by kernel_rfl) (fun _ _ _ h => h) (Or.inl ⟨by rfl, ?_⟩) hHeld ?_ ?_
                  rotate_left
                  · rintro w' ⟨s0, s1, s2⟩
                    go_simp
                    with_reducible rfl
                  rotate_left
                  · simp only [Act.put, List.setIfInBounds_toArray, List.set_cons_zero, List.set_cons_succ, i64_w, i32_w]
                    rfl
                  refine one_ (i := 4) (N := some 55) #[true, true, true, true, true, false, false] rfl rfl (by kernel_rfl) (by decide) (fun K hK => ?_)
                  refine goes_ Try.func20 (by kernel_rfl) rfl #[.slice Ao14 y382.length co14] (by rfl) rfl rfl pM ?_
                  with_reducible refine (capnpref21_Words.calls kj9 _ _ y382 t386 _ ?side1 ?side2 A44.out).mono ?_
                  (case side1 => repeat (first | exact (by repeat (first | (with_reducible exact HR385.out) | (with_reducible refine Kd.C_alloc ?_ _) | (with_reducible refine Kd.C_drewN ?_ _) | (with_reducible refine Kd.C_drew ?_) | exact HR385.out)) | (with_reducible refine Kd.C_alloc ?_ _) | (with_reducible refine Kd.C_drewN ?_ _) | (with_reducible refine Kd.C_drew ?_)))
                  (case side2 => exact HC385.out)
                  rintro e w53 ⟨v387, rfl, ho0, hb⟩
                  refine ⟨_, rfl, ?_⟩
                  have n0_ := Aside0.mk (Kd.R_below (pR HO_5) hb)
                  have n1_ := Aside0.mk (Kd.R_elder' (pR HO_367000) (Kd.R_base ho0) hb)
                  have n2_ := Aside0.mk (Kd.R_elder' (pR HO381) (Kd.R_base ho0) hb)
                  have n3_ := Aside0.mk (Kd.R_lower (Kd.R_new' (Kd.R_new' ho0 (Kd.R_lt (pR HO_367000))) (Kd.R_lt (pR HO381))) (below_size (by repeat (first | (with_reducible first | exact HB.out | apply below_alloc | apply pw_below_drewN | apply below_drew1 | refine below_set ?_ GE352.out | refine below_set ?_ GE366.out) | exact HB.out))))
                  have n4_ := Aside0.mk (blk_below (g := gb352) (o := .cells #[.slice none 0 0, .int .i64 0, .slice none 0 0] 24 (0, 0)) (pK BK352) hb)
                  have n5_ := Aside0.mk (blk_below (g := gb366) (o := .cells #[.slice Ao20 y363.length co20, .int .i64 0, .slice Ao47 t379.length co47] 24 (0, 0)) (pK BK366) hb)
                  have n6_ := Aside0.mk (Kd.C_below (by repeat (first | (with_reducible exact HR385.out) | (with_reducible refine Kd.C_alloc ?_ _) | (with_reducible refine Kd.C_drewN ?_ _) | (with_reducible refine Kd.C_drew ?_) | exact HR385.out)) hb)
                  have n7_ := Aside0.mk (below_step (by repeat (first | (with_reducible first | exact HB.out | apply below_alloc | apply pw_below_drewN | apply below_drew1 | refine below_set ?_ GE352.out | refine below_set ?_ GE366.out) | exact HB.out)) hb)
                  clear HO_5
                  clear HO_367000
                  clear HO381
                  clear BK352
                  clear BK366
                  clear HR385
                  clear HB
                  have HO_5 := n0_
                  have HO_367000 := n1_
                  have HO381 := n2_
                  have HO388 := n3_
                  have BK352 := n4_
                  have BK366 := n5_
                  have HR385 := n6_
                  have HB := n7_
                  clear n0_ n1_ n2_ n3_ n4_ n5_ n6_ n7_
                  (try clear hb)
                  (try clear hb2)
                  (try clear hk)
                  (try clear hi)
                  (try clear ho0)
                  refine hK.out _ _ ⟨(blk_cell BK366.out 0).trans rfl, (blk_cell BK366.out 1).trans rfl, (blk_cell BK366.out 2).trans rfl⟩ (fun hHeld => ?_)
                  clear hK K
                  refine norm_ (a' := ?_) ?_ ?_
                  rotate_left
                  · show Act.put _ (some 55) _ = _
                    simp only [Act.put, List.setIfInBounds_toArray, List.set_cons_zero, List.set_cons_succ, i64_w, i32_w]
                    rfl
                  refine one_ (i := 5) (N := none) #[true, true, true, true, true, true, false] rfl rfl (by kernel_rfl) (by decide) (fun K hK => ?_)
                  have hs54 : w53.cell? ⟨gb352, 0, none⟩ = some (.slice none 0 0) := (blk_cell BK352.out 0).trans rfl
                  have hfs54 := blk_frozen BK352.out 0
                  have hns54_1 := NB366_352.out
                  have hms54_1 := NB352_366.out
                  have hs55 : w53.cell? ⟨gb352, 1, none⟩ = some (.int .i64 0) := (blk_cell BK352.out 1).trans rfl
                  have hfs55 := blk_frozen BK352.out 1
                  have hns55_1 := NB366_352.out
                  have hms55_1 := NB352_366.out
                  have hs56 : w53.cell? ⟨gb352, 2, none⟩ = some (.slice none 0 0) := (blk_cell BK352.out 2).trans rfl
                  have hfs56 := blk_frozen BK352.out 2
                  have hns56_1 := NB366_352.out
                  have hms56_1 := NB352_366.out
                  refine skip_ (w1 := ?_) (by rfl) rfl ?_ ?_
                  rotate_left
                  · go_simp
                    rfl
                  refine hK.out _ _ ⟨((cell_far (p := ⟨gb352, _, none⟩) NB366_352.out _).trans (((cell_far (p := ⟨gb352, _, none⟩) NB366_352.out _).trans (((cell_far (p := ⟨gb352, _, none⟩) NB366_352.out _).trans (hHeld.1)))))), ((cell_far (p := ⟨gb352, _, none⟩) NB366_352.out _).trans (((cell_far (p := ⟨gb352, _, none⟩) NB366_352.out _).trans (((cell_far (p := ⟨gb352, _, none⟩) NB366_352.out _).trans (hHeld.2.1)))))), ((cell_far (p := ⟨gb352, _, none⟩) NB366_352.out _).trans (((cell_far (p := ⟨gb352, _, none⟩) NB366_352.out _).trans (((cell_far (p := ⟨gb352, _, none⟩) NB366_352.out _).trans (hHeld.2.2))))))⟩ (fun hHeld => ?_)
                  clear hK K
                  refine pure_ (i := 6) (N := some 3) (v := ?_) (a' := ?_) #[true, true, true, true, true, true, true] rfl rfl (by kernel_rfl) (fun _ _ _ h => h) (Or.inl ⟨by rfl, ?_⟩) ?_ ?_
                  rotate_left
                  · intro w'
                    go_simp
                    with_reducible rfl
                  rotate_left
                  · simp only [Act.put, List.setIfInBounds_toArray, List.set_cons_zero, List.set_cons_succ, i64_w, i32_w]
                    rfl
                  refine done_ (by kernel_rfl) ?_
                  try go_wp2
                  refine bodyPost_ret (results_ct rfl _ _ gb352 24 #[.slice Ao20 y363.length co20, .int .i64 0, .slice Ao47 t379.length co47] (0, 0) _ rfl (by (with_reducible repeat (first | refine blk_drewN ?_ _ | refine blk_drew ?_ | refine blk_alloc ?_ _)); refine blk_put (cs := #[.slice Ao20 y363.length co20, .int .i64 0, .slice none 0 0]) ?_ 2 _ rfl; (with_reducible repeat (first | refine blk_drewN ?_ _ | refine blk_drew ?_ | refine blk_alloc ?_ _)); refine blk_put (cs := #[.slice Ao20 y363.length co20, .int .i64 0, .slice none 0 0]) ?_ 1 _ rfl; (with_reducible repeat (first | refine blk_drewN ?_ _ | refine blk_drew ?_ | refine blk_alloc ?_ _)); refine blk_put (cs := #[.slice none 0 0, .int .i64 0, .slice none 0 0]) ?_ 0 _ rfl; (with_reducible repeat (first | refine blk_drewN ?_ _ | refine blk_drew ?_ | refine blk_alloc ?_ _)); exact BK352.out) Try.underlying24 rfl (by kernel_rfl)) rfl ?_
                  exact ⟨_, _, _, by first | rfl | (simp [errW_none, errW_some] <;> rfl) | (simp only [← hji2]; first | rfl | (simp [errW_none, errW_some] <;> rfl)) | (simp [*, errW_none, errW_some] <;> rfl), by (with_reducible repeat (first | apply Kd.R_alloc | apply Kd.R_drewN | apply Kd.R_drew)); exact Kd.R_mono (Kd.R_far (p := ⟨gb352, 2, none⟩) (Kd.R_far (p := ⟨gb352, 1, none⟩) (Kd.R_far (p := ⟨gb352, 0, none⟩) (Kd.R_types HO_367000.out BK352.out (by decide)) (fun _ hk => hk.2) (.slice Ao20 y363.length co20)) (fun _ hk => hk.2) (.int .i64 0)) (fun _ hk => hk.2) (.slice Ao47 t379.length co47)) (fun _ hk => ⟨hk.1.1, hk.1.2⟩), by (with_reducible repeat (first | apply Kd.R_alloc | apply Kd.R_drewN | apply Kd.R_drew)); exact Kd.R_mono (Kd.R_far (p := ⟨gb352, 2, none⟩) (Kd.R_far (p := ⟨gb352, 1, none⟩) (Kd.R_far (p := ⟨gb352, 0, none⟩) (Kd.R_types HO381.out BK352.out (by decide)) (fun _ hk => hk.2) (.slice Ao20 y363.length co20)) (fun _ hk => hk.2) (.int .i64 0)) (fun _ hk => hk.2) (.slice Ao47 t379.length co47)) (fun _ hk => ⟨hk.1.1, hk.1.2⟩), by (with_reducible repeat (first | apply Kd.R_alloc | apply Kd.R_drewN | apply Kd.R_drew)); exact Kd.R_mono (Kd.R_far (p := ⟨gb352, 2, none⟩) (Kd.R_far (p := ⟨gb352, 1, none⟩) (Kd.R_far (p := ⟨gb352, 0, none⟩) (Kd.R_types HO388.out BK352.out (by decide)) (fun _ hk => hk.2) (.slice Ao20 y363.length co20)) (fun _ hk => hk.2) (.int .i64 0)) (fun _ hk => hk.2) (.slice Ao47 t379.length co47)) (fun _ hk => ⟨hk.1.1.2, hk.1.2⟩), by repeat (first | (with_reducible first | exact HB.out | apply below_alloc | apply pw_below_drewN | apply below_drew1 | refine below_set ?_ GE352.out | refine below_set ?_ GE366.out) | exact HB.out)⟩
                · rw [if_neg c40] at H
                  exact absurd H (by simp)
              · rw [if_neg c39] at H
                exact absurd H (by simp)
      · rw [if_neg c9] at H
        exact absurd H (by simp)
    · rw [if_neg c4] at H
      exact absurd H (by simp)
  · rw [if_neg c3] at H
    exact absurd H (by simp)
def capnpref24_Bytes.l0 : Nat → List Int → Int → List Int → Int → List Int → Option (List Int)
  | 0, _, _, _, _, _ => none
  | k + 1, x3, x4, x390000, x390001, x390002 => if x4 < (wrap64 (8 * x390001)) then (if x3.length < 140737488355328 then (capnpref24_Bytes.l0 k (x3 ++ [0]) (wrap64 (x4 + 1)) x390000 x390001 x390002) else (none)) else (if x3.length + x390002.length < 140737488355328 then ((some (x3 ++ x390002 : List Int)).bind fun y393 => (if y393.length + x390000.length < 140737488355328 then (some (y393 ++ x390000)) else (none))) else (none))
def capnpref24_Bytes.f (k : Nat) (l0_0 : List Int) (a0_1 : Int) (l0_2 : List Int) : Option (List Int) := capnpref24_Bytes.l0 k ([] : List Int) 0 l0_0 a0_1 l0_2
theorem capnpref24_Bytes.mono_l : ∀ k, (∀ y0 y1 y2 y3 y4, LeO (capnpref24_Bytes.l0 k y0 y1 y2 y3 y4) (capnpref24_Bytes.l0 (k + 1) y0 y1 y2 y3 y4))
  | 0 => fun _ _ _ _ _ r h => by simp [capnpref24_Bytes.l0] at h
  | k + 1 => by
    have ih0 := capnpref24_Bytes.mono_l k
    · intro y0 y1 y2 y3 y4
      unfold capnpref24_Bytes.l0
      repeat' first
      | (with_reducible exact ih0 _ _ _ _ _)
      | (with_reducible exact LeO.refl _)
      | (with_reducible exact LeO.none _)
      | (with_reducible refine LeO.ite ?_ ?_)
      | (with_reducible refine LeO.bind ?_ (fun _ => ?_))
      | exact ih0 _ _ _ _ _
      | exact LeO.none _
      | refine LeO.ite ?_ ?_
      | refine LeO.bind ?_ (fun _ => ?_)
theorem capnpref24_Bytes.mono : ∀ a0 a1 a2 k, LeO (capnpref24_Bytes.f k a0 a1 a2) (capnpref24_Bytes.f (k + 1) a0 a1 a2) := by
  intro a0 a1 a2 k
  have ih0 := capnpref24_Bytes.mono_l k
  unfold capnpref24_Bytes.f
  repeat' first
      | (with_reducible exact ih0 _ _ _ _ _)
      | (with_reducible exact LeO.refl _)
      | (with_reducible exact LeO.none _)
      | (with_reducible refine LeO.ite ?_ ?_)
      | (with_reducible refine LeO.bind ?_ (fun _ => ?_))
      | exact ih0 _ _ _ _ _
      | exact LeO.none _
      | refine LeO.ite ?_ ?_
      | refine LeO.bind ?_ (fun _ => ?_)
def capnpref24_Bytes.T6 : Bool × List (List Nat × List Nat) := (true, [([], []), ([], []), ([1], [1]), ([0, 2], [0, 2]), ([], []), ([4], [4]), ([3, 5, 3], [3, 5]), ([6, 6, 0, 1, 2, 3, 4, 5, 6], [6])])
def capnpref24_Bytes.B6 : List Nat := [0, 0, 2, 7, 0, 16, 63, 127]
theorem capnpref24_Bytes.tab6 : rtab .any (opsOf Try.f14 6) = capnpref24_Bytes.T6 := by kernel_rfl
theorem capnpref24_Bytes.bits6 : waitsOk capnpref24_Bytes.T6.2 capnpref24_Bytes.B6 = true := by kernel_rfl
theorem capnpref24_Bytes.calls (k : Nat) (A0_0 : Option Addr) (c0_0 : Nat) (l0_0 : List Int) (a0_1 : Int) (A0_2 : Option Addr) (c0_2 : Nat) (l0_2 : List Int) (r : List Int) (w : World) (hr0_0 : Kd.C (Kd.int .u8) w A0_0 l0_0.length l0_0) (hc0_0 : l0_0.length ≤ c0_0) (hr0_2 : Kd.C (Kd.int .u8) w A0_2 l0_2.length l0_2) (hc0_2 : l0_2.length ≤ c0_2) (h : capnpref24_Bytes.f k l0_0 a0_1 l0_2 = some r) :
    Calls Try.prog 14 #[.agg #[.slice A0_0 l0_0.length c0_0, .int .i64 a0_1, .slice A0_2 l0_2.length c0_2]] w fun e w' => ∃ v0_ : Value, e = .returned (v0_) ∧ Kd.R (Kd.int .u8) 5 w' w.heap.size (fun _ => True) v0_ r ∧ Below w.heap.size w w' := by
  have hu24 := Try.underlying24
  have HR0_0 := Aside0.mk hr0_0
  have HC0_0 := Aside0.mk hc0_0
  clear hr0_0 hc0_0
  have HR0_2 := Aside0.mk hr0_2
  have HC0_2 := Aside0.mk hc0_2
  clear hr0_2 hc0_2
  have HB := Aside0.mk (Below.refl w.heap.size w)
  have H : (capnpref24_Bytes.l0 k ([] : List Int) 0 l0_0 a0_1 l0_2) = some r := h
  clear h
  have H' := Aside0.mk H
  clear H
  go_enter Try.func14, Try.ntmps14
  go_wp2_with (first | ((with_reducible refine gate_dst (N := 1) rfl ?_); refine box_event ?hg (N := 1) ?hd (cs := #[.slice A0_0 l0_0.length c0_0, .int .i64 a0_1, .slice A0_2 l0_2.length c0_2]) (t := 24) ?hr ?_; (case hd => rfl); (case hg => rfl); (case hr => first | (go_simp; done) | (go_simp; rfl)); intro gb389 hg w2 hbox hb; have n0_ := Aside0.mk (below_step pB hb); have n1_ := Aside0.mk (hbox); have n2_ := Aside0.mk ((by rw [hg]; exact (below_size pB) : w.heap.size ≤ gb389)); have n3_ := Aside0.mk ((by rw [hg]; exact (below_size pB) : w.heap.size ≤ gb389)); clear HB; have HB := n0_; have BK389 := n1_; have GW389 := n2_; have GE389 := n3_; clear n0_ n1_ n2_ n3_; clear hb hbox hg))
  go_loopg [3, 4] k (fun kq v3 v4 w' => ∃ (x3_1 : List Int) (x4_1 : Int), v4 = .int .i64 x4_1 ∧ Aside0 (capnpref24_Bytes.l0 kq x3_1 x4_1 l0_0 a0_1 l0_2 = some r) ∧ Aside0 (kq ≤ k) ∧ Aside0 (Kd.R (Kd.int .u8) 5 w' w.heap.size (fun _ => True) v3 x3_1) ∧ Aside0 (w'.heap[gb389]? = some (.cells #[(.slice A0_0 l0_0.length c0_0), .int .i64 a0_1, (.slice A0_2 l0_2.length c0_2)] 24 (0, 0))) ∧ Aside0 (Below w.heap.size w w'))
  case atStart => exact ⟨(([] : List Int)), (0), (by first | rfl | (simp; done) | (simp [*]; done)), H', ⟨Nat.le_refl _⟩, ⟨by first | exact Kd.R_nil _ _ _ _ _ | exact Kd.N_nil _ _ _ _ _ | exact Kd.V_nil _ _ _ _ _ | exact Kd.Q_nil _ _ _ _ _ | exact Kd.S_nil _ _ _ _ _⟩, ⟨pK BK389⟩, ⟨by repeat (first | (with_reducible first | exact HB.out | apply below_alloc | apply pw_below_drewN | apply below_drew1 | refine below_set ?_ GE389.out) | exact HB.out)⟩⟩
  case round =>
    clear H'
    try clear c1
    try clear p2
    obtain ⟨x3_1, x4_1, rfl, HA, HK1, HO_3, BK389, HB⟩ := hrel
    cases gk with
    | zero => exact absurd HA.out (by simp [capnpref24_Bytes.l0])
    | succ k1 =>
      have H := HA.out
      clear HA
      simp only [capnpref24_Bytes.l0] at H
      by_cases c3 : x4_1 < (wrap64 (8 * a0_1))
      · rw [if_pos c3] at H
        have c3b0 : decide (x4_1 < (wrap64 (8 * a0_1))) = true := decide_eq_true c3
        clear c3
        by_cases c4 : x3_1.length < 140737488355328
        · rw [if_pos c4] at H
          have LMc4 := Aside0.mk c4
          clear c4
          obtain ⟨y390, hy390⟩ : ∃ y_ : List Int, y_ = (x3_1 ++ [0]) := ⟨_, rfl⟩
          replace H : (capnpref24_Bytes.l0 k1 y390 (wrap64 (x4_1 + 1)) l0_0 a0_1 l0_2) = some r := by first | (rw [hy390]; with_reducible exact H) | (have H2_ := (Option.bind_some _ _).symm.trans H; rw [hy390]; with_reducible exact H2_) | (have H2_ := (Option.bind_some _ _).symm.trans H; with_reducible exact H2_) | with_reducible exact H | (rw [hy390]; exact H) | exact H
          have Ny390 := Aside0.mk hy390
          clear hy390
          have H' := Aside0.mk H
          clear H
          have hcz5_0 : wr.cell? ⟨gb389, 0, none⟩ = some (.slice A0_0 l0_0.length c0_0) := (blk_cell BK389.out 0).trans rfl
          have hcz5_1 : wr.cell? ⟨gb389, 1, none⟩ = some (.int .i64 a0_1) := (blk_cell BK389.out 1).trans rfl
          have hcz5_2 : wr.cell? ⟨gb389, 2, none⟩ = some (.slice A0_2 l0_2.length c0_2) := (blk_cell BK389.out 2).trans rfl
          have hfz5_0 := blk_frozen BK389.out 0
          have hfz5_1 := blk_frozen BK389.out 1
          have hfz5_2 := blk_frozen BK389.out 2
          go_wp2_with (first | ((with_reducible refine gate_builtin (b := .append) (xs := #[.tmp 12, .tmp 13]) rfl ?_); at_builtin; refine Kd.R_append (Kd.int .u8) (w0 := w) w.heap.size rfl (.tmp 12) (.tmp 13) 22 5 (.int .u8 0) 1 rfl Try.underlying22 info5 rfl (by decide) (by omega) u3 x3_1 0 [.int .u8 0] (fun _ => True) (fun _ => False) rfl rfl ?aP (fun _ hk => hk.elim) ?aF ?aO ?aB ?aS ?aL ?_; (case aP => exact rfl); (case aB => exact (by repeat (first | (with_reducible first | exact HB.out | apply below_alloc | apply pw_below_drewN | apply below_drew1 | refine below_set ?_ GE389.out) | exact HB.out))); (case aF => exact (fun _ _ => trivial)); (case aO => exact (pR HO_3)); (case aS => exact (below_size (by repeat (first | (with_reducible first | exact HB.out | apply below_alloc | apply pw_below_drewN | apply below_drew1 | refine below_set ?_ GE389.out) | exact HB.out)))); (case aL => have := LMc4.out; omega); intro v391 w6 ho hb hg hat; rw [← Ny390.out] at ho; have n0_ := Aside0.mk (blk_grown (g := gb389) (o := .cells #[.slice A0_0 l0_0.length c0_0, .int .i64 a0_1, .slice A0_2 l0_2.length c0_2] 24 (0, 0)) (pK BK389) hg (Kd.R_ne HO_3.out BK389.out (by decide))); have n1_ := Aside0.mk (hb); have n2_ := Aside0.mk (ho); clear BK389; clear HB; clear HO_3; have BK389 := n0_; have HB := n1_; have HO392 := n2_; clear n0_ n1_ n2_; clear ho hb hg hat))
          go_roundg k1
          case measure => have := HK1.out; omega
          case rel => exact ⟨(y390), (wrap64 (x4_1 + 1)), (by first | rfl | (simp; done) | (simp [*]; done)), H', ⟨by have := HK1.out; omega⟩, ⟨pR HO392⟩, ⟨pK BK389⟩, ⟨by repeat (first | (with_reducible first | exact HB.out | apply below_alloc | apply pw_below_drewN | apply below_drew1 | refine below_set ?_ GE389.out) | exact HB.out)⟩⟩
        · rw [if_neg c4] at H
          exact absurd H (by simp)
      · rw [if_neg c3] at H
        have c3b0 : decide (x4_1 < (wrap64 (8 * a0_1))) = false := decide_eq_false c3
        clear c3
        by_cases c7 : x3_1.length + l0_2.length < 140737488355328
        · rw [if_pos c7] at H
          have LMc7 := Aside0.mk c7
          clear c7
          obtain ⟨y393, hy393⟩ : ∃ y_ : List Int, y_ = (x3_1 ++ l0_2) := ⟨_, rfl⟩
          replace H : (if y393.length + l0_0.length < 140737488355328 then (some (y393 ++ l0_0)) else (none)) = some r := by first | (rw [hy393]; with_reducible exact H) | (have H2_ := (Option.bind_some _ _).symm.trans H; rw [hy393]; with_reducible exact H2_) | (have H2_ := (Option.bind_some _ _).symm.trans H; with_reducible exact H2_) | with_reducible exact H | (rw [hy393]; exact H) | exact H
          have Ny393 := Aside0.mk hy393
          clear hy393
          by_cases c8 : y393.length + l0_0.length < 140737488355328
          · rw [if_pos c8] at H
            have LMc8 := Aside0.mk c8
            clear c8
            obtain ⟨y396, hy396⟩ : ∃ y_ : List Int, y_ = (y393 ++ l0_0) := ⟨_, rfl⟩
            replace H : (some y396) = some r := by first | (rw [hy396]; with_reducible exact H) | (have H2_ := (Option.bind_some _ _).symm.trans H; rw [hy396]; with_reducible exact H2_) | (have H2_ := (Option.bind_some _ _).symm.trans H; with_reducible exact H2_) | with_reducible exact H | (rw [hy396]; exact H) | exact H
            have Ny396 := Aside0.mk hy396
            clear hy396
            obtain rfl := Option.some.inj H
            have hcz9_0 : wr.cell? ⟨gb389, 0, none⟩ = some (.slice A0_0 l0_0.length c0_0) := (blk_cell BK389.out 0).trans rfl
            have hcz9_1 : wr.cell? ⟨gb389, 1, none⟩ = some (.int .i64 a0_1) := (blk_cell BK389.out 1).trans rfl
            have hcz9_2 : wr.cell? ⟨gb389, 2, none⟩ = some (.slice A0_2 l0_2.length c0_2) := (blk_cell BK389.out 2).trans rfl
            have hfz9_0 := blk_frozen BK389.out 0
            have hfz9_1 := blk_frozen BK389.out 1
            have hfz9_2 := blk_frozen BK389.out 2
            try go_wp2
            have n0_ := Aside0.mk (Kd.R_drew HO_3.out)
            have n1_ := Aside0.mk (blk_drew BK389.out)
            have n2_ := Aside0.mk (below_drew1 HB.out)
            clear HO_3
            clear BK389
            clear HB
            have HO_3 := n0_
            have BK389 := n1_
            have HB := n2_
            clear n0_ n1_ n2_
            refine start_ (n := 8) (S := fun w' => w'.cell? ⟨gb389, 0, none⟩ = some (.slice A0_0 l0_0.length c0_0) ∧ w'.cell? ⟨gb389, 1, none⟩ = some (.int .i64 a0_1) ∧ w'.cell? ⟨gb389, 2, none⟩ = some (.slice A0_2 l0_2.length c0_2)) (ds := []) #[false, false, false, false, false, false, false, false] (by kernel_rfl) rfl rfl ⟨(blk_cell BK389.out 0).trans rfl, (blk_cell BK389.out 1).trans rfl, (blk_cell BK389.out 2).trans rfl⟩ (fun hHeld => ?_); refine with_tabW capnpref24_Bytes.tab6 capnpref24_Bytes.bits6 (fun HT_ HW_ => ?_)
            generalize wr.drew = w10 at HO_3 BK389 HB hHeld ⊢
            refine pure_ (i := 0) (N := some 15) (v := ?_) (a' := ?_) #[true, false, false, false, false, false, false, false] rfl rfl (any_of HT_.out (by kernel_rfl)) (fun _ _ _ h => h) (Or.inl ⟨by rfl, ?_⟩) ?_ ?_
            rotate_left
            · intro w'
              go_simp
              with_reducible rfl
            rotate_left
            · simp only [Act.put, List.setIfInBounds_toArray, List.set_cons_zero, List.set_cons_succ, i64_w, i32_w]
              rfl
            refine pure_ (i := 1) (N := some 16) (v := ?_) (a' := ?_) #[true, true, false, false, false, false, false, false] rfl rfl (any_of HT_.out (by kernel_rfl)) (fun _ _ _ h => h) (Or.inl ⟨by rfl, ?_⟩) ?_ ?_
            rotate_left
            · intro w'
              go_simp
              with_reducible rfl
            rotate_left
            · simp only [Act.put, List.setIfInBounds_toArray, List.set_cons_zero, List.set_cons_succ, i64_w, i32_w]
              rfl
            refine pure_ (i := 4) (N := some 19) (v := ?_) (a' := ?_) #[true, true, false, false, true, false, false, false] rfl rfl (any_of HT_.out (by kernel_rfl)) (fun _ _ _ h => h) (Or.inl ⟨by rfl, ?_⟩) ?_ ?_
            rotate_left
            · intro w'
              go_simp
              with_reducible rfl
            rotate_left
            · simp only [Act.put, List.setIfInBounds_toArray, List.set_cons_zero, List.set_cons_succ, i64_w, i32_w]
              rfl
            refine take_ (i := 2) (N := some 17) (v := ?_) (a' := ?_) #[true, true, true, false, true, false, false, false] rfl rfl (take_ofW HT_.out HW_.out (by kernel_rfl)) (fun _ _ _ h => h) (Or.inl ⟨by rfl, ?_⟩) hHeld ?_ ?_
            rotate_left
            · rintro w' ⟨s0, s1, s2⟩
              go_simp
              with_reducible rfl
            rotate_left
            · simp only [Act.put, List.setIfInBounds_toArray, List.set_cons_zero, List.set_cons_succ, i64_w, i32_w]
              rfl
            refine take_ (i := 5) (N := some 20) (v := ?_) (a' := ?_) #[true, true, true, false, true, true, false, false] rfl rfl (take_ofW HT_.out HW_.out (by kernel_rfl)) (fun _ _ _ h => h) (Or.inl ⟨by rfl, ?_⟩) hHeld ?_ ?_
            rotate_left
            · rintro w' ⟨s0, s1, s2⟩
              go_simp
              with_reducible rfl
            rotate_left
            · simp only [Act.put, List.setIfInBounds_toArray, List.set_cons_zero, List.set_cons_succ, i64_w, i32_w]
              rfl
            refine one_ (i := 3) (N := some 18) #[true, true, true, true, true, true, false, false] rfl rfl (one_of HT_.out (by kernel_rfl)) (by decide) (fun K hK => ?_)
            refine Kd.R_append_rows_step (Kd.int .u8) (w0 := w) w.heap.size (by rfl) (.tmp 15) (.tmp 17) 22 5 (.int .u8 0) 1 rfl Try.underlying22 info5 rfl (by decide) (by omega) u3 x3_1 l0_2 _ _ _ (fun _ => True) (fun _ => False) rfl rfl ?aO ?aR (fun _ _ h => h) (fun _ h => h.elim) ?aF ?aB ?aS ?aL ?_
            (case aR => repeat (first | exact (Kd.C_below HR0_2.out HB.out) | (with_reducible refine Kd.C_alloc ?_ _) | (with_reducible refine Kd.C_drewN ?_ _) | (with_reducible refine Kd.C_drew ?_)))
            (case aB => exact (by repeat (first | (with_reducible first | exact HB.out | apply below_alloc | apply pw_below_drewN | apply below_drew1 | refine below_set ?_ GE389.out) | exact HB.out)))
            (case aF => exact (fun _ _ => trivial))
            (case aO => exact (pR HO_3))
            (case aS => exact (below_size (by repeat (first | (with_reducible first | exact HB.out | apply below_alloc | apply pw_below_drewN | apply below_drew1 | refine below_set ?_ GE389.out) | exact HB.out))))
            (case aL => have := LMc7.out; omega)
            intro v394 w11 ho hb hg hat
            rw [← Ny393.out] at ho
            have n0_ := Aside0.mk (blk_grown (g := gb389) (o := .cells #[.slice A0_0 l0_0.length c0_0, .int .i64 a0_1, .slice A0_2 l0_2.length c0_2] 24 (0, 0)) (pK BK389) hg (Kd.R_ne HO_3.out BK389.out (by decide)))
            have n1_ := Aside0.mk (hb)
            have n2_ := Aside0.mk (ho)
            clear BK389
            clear HB
            clear HO_3
            have BK389 := n0_
            have HB := n1_
            have HO395 := n2_
            clear n0_ n1_ n2_
            clear ho hb hg hat
            refine hK.out _ _ ⟨(blk_cell BK389.out 0).trans rfl, (blk_cell BK389.out 1).trans rfl, (blk_cell BK389.out 2).trans rfl⟩ (fun hHeld => ?_)
            clear hK K
            refine norm_ (a' := ?_) ?_ ?_
            rotate_left
            · show Act.put _ (some 18) _ = _
              simp only [Act.put, List.setIfInBounds_toArray, List.set_cons_zero, List.set_cons_succ, i64_w, i32_w]
              rfl
            refine one_ (i := 6) (N := some 21) #[true, true, true, true, true, true, true, false] rfl rfl (one_of HT_.out (by kernel_rfl)) (by decide) (fun K hK => ?_)
            refine Kd.R_append_rows_step (Kd.int .u8) (w0 := w) w.heap.size (by rfl) (.tmp 18) (.tmp 20) 22 5 (.int .u8 0) 1 rfl Try.underlying22 info5 rfl (by decide) (by omega) v394 y393 l0_0 _ _ _ (fun _ => True) (fun _ => False) rfl rfl ?aO ?aR (fun _ _ h => h) (fun _ h => h.elim) ?aF ?aB ?aS ?aL ?_
            (case aR => repeat (first | exact (Kd.C_below HR0_0.out HB.out) | (with_reducible refine Kd.C_alloc ?_ _) | (with_reducible refine Kd.C_drewN ?_ _) | (with_reducible refine Kd.C_drew ?_)))
            (case aB => exact (by repeat (first | (with_reducible first | exact HB.out | apply below_alloc | apply pw_below_drewN | apply below_drew1 | refine below_set ?_ GE389.out) | exact HB.out)))
            (case aF => exact (fun _ _ => trivial))
            (case aO => exact (pR HO395))
            (case aS => exact (below_size (by repeat (first | (with_reducible first | exact HB.out | apply below_alloc | apply pw_below_drewN | apply below_drew1 | refine below_set ?_ GE389.out) | exact HB.out))))
            (case aL => have := LMc8.out; omega)
            intro v397 w12 ho hb hg hat
            rw [← Ny396.out] at ho
            have n0_ := Aside0.mk (blk_grown (g := gb389) (o := .cells #[.slice A0_0 l0_0.length c0_0, .int .i64 a0_1, .slice A0_2 l0_2.length c0_2] 24 (0, 0)) (pK BK389) hg (Kd.R_ne HO395.out BK389.out (by decide)))
            have n1_ := Aside0.mk (hb)
            have n2_ := Aside0.mk (ho)
            clear BK389
            clear HB
            clear HO395
            have BK389 := n0_
            have HB := n1_
            have HO398 := n2_
            clear n0_ n1_ n2_
            clear ho hb hg hat
            refine hK.out _ _ ⟨(blk_cell BK389.out 0).trans rfl, (blk_cell BK389.out 1).trans rfl, (blk_cell BK389.out 2).trans rfl⟩ (fun hHeld => ?_)
            clear hK K
            refine norm_ (a' := ?_) ?_ ?_
            rotate_left
            · show Act.put _ (some 21) _ = _
              simp only [Act.put, List.setIfInBounds_toArray, List.set_cons_zero, List.set_cons_succ, i64_w, i32_w]
              rfl
            refine pure_ (i := 7) (N := some 2) (v := ?_) (a' := ?_) #[true, true, true, true, true, true, true, true] rfl rfl (any_of HT_.out (by kernel_rfl)) (fun _ _ _ h => h) (Or.inl ⟨by rfl, ?_⟩) ?_ ?_
            rotate_left
            · intro w'
              go_simp
              with_reducible rfl
            rotate_left
            · simp only [Act.put, List.setIfInBounds_toArray, List.set_cons_zero, List.set_cons_succ, i64_w, i32_w]
              rfl
            refine done_ (done_of HT_.out (by kernel_rfl)) ?_
            try go_wp2
            go_ret
            exact ⟨_, by first | rfl | (simp [errW_none, errW_some] <;> rfl) | (simp [*, errW_none, errW_some] <;> rfl), by (with_reducible repeat (first | apply Kd.R_alloc | apply Kd.R_drewN | apply Kd.R_drew)); exact HO398.out, by repeat (first | (with_reducible first | exact HB.out | apply below_alloc | apply pw_below_drewN | apply below_drew1 | refine below_set ?_ GE389.out) | exact HB.out)⟩
          · rw [if_neg c8] at H
            exact absurd H (by simp)
        · rw [if_neg c7] at H
          exact absurd H (by simp)
end Go.Proofs.Ytibkbgaonjdpiaa.PPackstreamMatchesReference
