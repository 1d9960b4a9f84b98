/- Package frame: Parse, its loop. -/
import Derived.Test.YtcdkgccmmfjnhaaFr3
import Derived.Deep.RegionWith
import Derived.Deep.RegionLaw
namespace Go.Proofs.Ytcdkgccmmfjnhaa.Fm
open Go Go.RowKit Go.Proofs.Ytcdkgccmmfjnhaa Go.Proofs.Ytcdkgccmmfjnhaa.M Go.Proofs.Ytcdkgccmmfjnhaa.PFrBase Go.Proofs.Ytcdkgccmmfjnhaa.QFrBase Go.Proofs.YtcdkgccmmfjnhaaW.PrintWords Go.Proofs.YtcdkgccmmfjnhaaW.PrintLast Go.Proofs.YtcdkgccmmfjnhaaW.PrintMore
attribute [local go_sem] max2_int min2_int max_two min_two
set_option linter.unusedVariables false
set_option linter.unusedSimpArgs false
set_option maxHeartbeats 8000000
set_option maxRecDepth 100000

theorem info41 : (Try.prog.info? 41).map (fun i => (i.zero, i.size, i.bytes)) = some (some (.slice none 0 0), 1, 24) := by kernel_rfl
/-- The segments, one after the other. -/
def parseL (l : List Int) : Nat → Nat → List Int → List (List Int) → Option (List (List Int))
  | 0, _, rest, S => if rest.length = 0 then some S else none
  | d + 1, i, rest, S => if num4 l (i + 1) < 536870912 ∧ 8 * num4 l (i + 1) ≤ (rest.length : Int) then parseL l d (i + 1) (rest.drop (8 * num4 l (i + 1)).toNat) (S ++ [wordsS (rest.take (8 * num4 l (i + 1)).toNat)]) else none
theorem num4_range {b : List Int} (hB : IsB b) (i : Nat) : 0 ≤ num4 b i ∧ num4 b i < 4294967296 := by
  have := accN_range hB i 4 (Nat.le_refl _)
  rw [accN_4] at this
  exact ⟨this.1, by have := this.2; omega⟩
theorem number_ok' {w : World} {A : Option Addr} {c : Nat} {b : List Int} {i : Nat} {j : Int} (hj : j = (i : Int)) (hin : Kd.C (Kd.int .u8) w A b.length b) (hc : b.length ≤ c) (hB : IsB b) (hi : 4 * (i + 1) ≤ b.length) (hl : b.length ≤ 1000000) :
    Calls Try.prog 19 #[.slice A b.length c, .int .i64 j] w fun e w' => e = .returned (.int .i64 (num4 b i)) ∧ Drawn0 w w' := by
  subst hj; exact number_ok hin hc hB hi hl
theorem words_ok {w : World} {A : Option Addr} {c : Nat} {l : List Int} (hC : Kd.C (Kd.int .u8) w A l.length l) (hc : l.length ≤ c) (hB : IsB l) (h8 : l.length % 8 = 0) (hM : l.length ≤ 1000000000) :
    Calls Try.prog 22 #[.slice A l.length c] w fun e w' => ∃ v0_ : Value, e = .returned (.tuple #[v0_, .bool true]) ∧ Kd.R (Kd.int .u64) 43 w' w.heap.size (fun _ => True) v0_ (wordsS l) ∧ Below w.heap.size w w' := by
  obtain ⟨kw, hkw⟩ := Ev.rounds (wordWords_yes l hB (by omega) (by omega))
  exact word_Words.calls kw A c l (wordsS l) true w hC hc hkw
theorem PS.good {W0 w : World} {v : Value} {S : List (List Int)} (h : PS W0 w v S) {tmps : Array Value} (h2 : tmps[2]? = some (.pointer (some ⟨W0.heap.size, 0, none⟩))) (h3 : tmps[3]? = some (.pointer (some ⟨W0.heap.size + 1, 0, none⟩))) :
    Leaves Try.prog Try.f10 tmps (Res W0 S 0) [dfr W0.heap.size] .returning w := by
  refine leaves_cons (f := 18) (args := #[.pointer (some ⟨W0.heap.size, 0, none⟩), .pointer (some ⟨W0.heap.size + 1, 0, none⟩)]) (by simp) (by simp [go_sem]) ?_
  refine (catch_idle _ _ _).mono ?_
  rintro e u' w'' ⟨rfl, rfl, rfl⟩
  have c1 := (blk_cell h.cp 0).trans rfl
  have c2 := (blk_cell h.cq 0).trans rfl
  simp [Leaves, settle, results, Try.results10, go_sem, c1, c2, h2, h3]
  exact ⟨_, rfl, Kd.S_mono h.rows (fun _ _ => trivial), h.bel⟩
theorem S_slice {α : Type} {d : Kd α} {e base : Nat} {ok : Nat → Prop} {w : World} {v : Value} {xs : List α} (h : Kd.S d e w base ok v xs) : ∃ (A : Option Addr) (n c : Nat), v = .slice A n c := by
  obtain ⟨f, hf⟩ := h
  obtain ⟨A, c, e⟩ := Kd.R_slice hf
  exact ⟨A, _, c, e⟩
theorem PS.slice {W0 w : World} {v : Value} {S : List (List Int)} (h : PS W0 w v S) : ∃ (A : Option Addr) (n c : Nat), v = .slice A n c := by
  obtain ⟨f, hf⟩ := h.rows
  obtain ⟨A, c, e⟩ := Kd.R_slice hf
  exact ⟨A, _, c, e⟩
theorem PS.own {W0 w : World} {v : Value} {S : List (List Int)} (h : PS W0 w v S) : ∀ k, v.ownBlock = some k → k ≠ W0.heap.size ∧ k ≠ W0.heap.size + 1 := by
  obtain ⟨f, hf⟩ := h.rows
  exact fun k hk => hf.1 k hk
theorem PS.fresh {W0 w : World} {v v8 : Value} {S : List (List Int)} (h : PS W0 w v S) (hb : ∀ k, v8.ownBlock = some k → w.heap.size ≤ k) : ∀ k, some k = v8.ownBlock → (k ≠ W0.heap.size ∧ k ≠ W0.heap.size + 1) ∧ some k ≠ v.ownBlock := fun k hk => by
  have h1 := hb k hk.symm
  have h2 := blk_lt h.cp
  have h3 := blk_lt h.cq
  refine ⟨⟨by omega, by omega⟩, fun e => ?_⟩
  have h4 := Kd.S_lt h.rows k e.symm
  omega
theorem PS.newer {W0 w : World} {v : Value} {S : List (List Int)} (h : PS W0 w v S) : ∀ k, w.heap.size ≤ k → k ≠ W0.heap.size ∧ k ≠ W0.heap.size + 1 := fun k hk => by
  have h2 := blk_lt h.cp
  have h3 := blk_lt h.cq
  exact ⟨by omega, by omega⟩
theorem segs_room {n : Nat} (h : n ≤ 512) : (n + 1) * 24 ≤ 140737488355328 := by omega
theorem PS.setp {W0 w : World} {v v' : Value} {S S' : List (List Int)} (h : PS W0 w v S) (hr : Kd.S (Kd.slice 43 (Kd.int .u64)) 41 w W0.heap.size (fun k => k ≠ W0.heap.size ∧ k ≠ W0.heap.size + 1) v' S') : PS W0 (w.setCell ⟨W0.heap.size, 0, none⟩ v') v' S' :=
  ⟨blk_set h.cp 0 v', blk_far h.cq (p := ⟨W0.heap.size, 0, none⟩) (by simp) v', Kd.S_far hr (p := ⟨W0.heap.size, 0, none⟩) (fun k hk => hk.1) v', h.bel.setCell (Nat.le_refl _) _⟩
theorem PS.setq {W0 w : World} {v : Value} {S : List (List Int)} (h : PS W0 w v S) : PS W0 (w.setCell ⟨W0.heap.size + 1, 0, none⟩ (.int .i64 0)) v S :=
  ⟨blk_far h.cp (p := ⟨W0.heap.size + 1, 0, none⟩) (by simp) _, blk_set h.cq 0 _, Kd.S_far h.rows (p := ⟨W0.heap.size + 1, 0, none⟩) (fun k hk => hk.2) _, h.bel.setCell (Nat.le_succ _) _⟩
def ResO (w : World) : Option (List (List Int)) → Ending → World → Prop
  | some S => Res w S 0
  | none => Res w [] 1
/-- A region that ends as it should. -/
def OkQ (Q : Exit → Act → World → Prop) : Exit → Act → World → Prop
  | .normal, a, w => Q .normal a w
  | _, _, _ => False
theorem okq {P : Program} {c : Code} {Q : Exit → Act → World → Prop} {a : Act} {w : World} (h : Code.wp P c (OkQ Q) a w) : Code.wp P c Q a w :=
  wp_mono h (fun e a w h => by cases e <;> first | exact h | exact h.elim)
theorem okq_ {Q : Exit → Act → World → Prop} {a : Act} {w : World} (h : Q .normal a w) : OkQ Q .normal a w := h
theorem PS.badD {W0 w : World} {v : Value} {S : List (List Int)} {a : Act} (h : PS W0 w v S) (ha : a.defers = [dfr W0.heap.size]) (h2 : a.tmps[2]? = some (.pointer (some ⟨W0.heap.size, 0, none⟩))) (h3 : a.tmps[3]? = some (.pointer (some ⟨W0.heap.size + 1, 0, none⟩))) :
    bodyPostD Try.prog Try.f10 (ResO W0 none) (Exit.panic [pm]) a w := by
  show Leaves Try.prog Try.f10 a.tmps (Res W0 [] 1) a.defers (.panicking [pm]) w
  rw [ha]; exact h.bad h2 h3
theorem PS.goodD {W0 w : World} {v : Value} {S : List (List Int)} {a : Act} (h : PS W0 w v S) (ha : a.defers = [dfr W0.heap.size]) (h2 : a.tmps[2]? = some (.pointer (some ⟨W0.heap.size, 0, none⟩))) (h3 : a.tmps[3]? = some (.pointer (some ⟨W0.heap.size + 1, 0, none⟩))) :
    bodyPostD Try.prog Try.f10 (ResO W0 (some S)) Exit.ret a w := by
  show Leaves Try.prog Try.f10 a.tmps (Res W0 S 0) a.defers .returning w
  rw [ha]; exact h.good h2 h3
theorem words_ok' {w : World} {A : Option Addr} {c n : Nat} {l : List Int} (hn : l.length = n) (hC : Kd.C (Kd.int .u8) w A l.length l) (hc : l.length ≤ c) (hB : IsB l) (h8 : l.length % 8 = 0) (hM : l.length ≤ 1000000000) :
    Calls Try.prog 22 #[.slice A n c] w fun e w' => ∃ v0_ : Value, e = .returned (.tuple #[v0_, .bool true]) ∧ Kd.R (Kd.int .u64) 43 w' w.heap.size (fun _ => True) v0_ (wordsS l) ∧ Below w.heap.size w w' := by
  subst hn; exact words_ok hC hc hB h8 hM
theorem parse_main {w : World} {A : Option Addr} {c N : Nat} {l : List Int} (hin : Kd.C (Kd.int .u8) w A l.length l) (hc : l.length ≤ c) (hB : IsB l) (hl : l.length ≤ 1000000) (h : 4 ≤ l.length) (hn : num4 l 0 + 1 = (N : Int)) (hn2 : N ≤ 512) (hT : tbS N ≤ l.length) (hZ : ((l.take (tbS N)).drop (4 * (N + 1))).all (· == 0) = true) (RR : Option (List (List Int))) (hRR : parseL l N 0 (l.drop (tbS N)) [] = RR) :
    Calls Try.prog 10 #[.slice A l.length c] w (ResO w RR) := by
  have hmf : ∀ (fn : Fn) (first cap : Array Value) (w : World), (Instr.makeFunc fn first cap).run Try.prog w = .ok (.func fn first cap) w := fun _ _ _ _ => rfl
  have HS := Aside0.mk (PS.start w)
  have HR := Aside0.mk hin
  have HB := Aside0.mk hB
  have HC := Aside0.mk hc
  have HL := Aside0.mk hl
  have H4 := Aside0.mk h
  obtain ⟨x, hx⟩ : ∃ x, x = num4 l 0 := ⟨_, rfl⟩
  have HX := Aside0.mk hx
  have e1 : wrap64 (x + 1) = (N : Int) := by rw [hx, hn, w64 (by omega) (by omega)]
  have e2 : decide ((N : Int) ≤ 512) = true := decide_eq_true (by omega)
  have hTn : 4 * (N + 1) ≤ tbS N := by unfold tbS; omega
  obtain ⟨T, hTe⟩ : ∃ T, T = tbS N := ⟨_, rfl⟩
  rw [← hTe] at hT hZ hTn hRR
  have HT := Aside0.mk (show frame_TableBytes.f (N : Int) = some (T : Int) by rw [hTe]; exact frTable N (by omega))
  have HTT := Aside0.mk (And.intro hT hTn)
  have e3 : decide ((T : Int) ≤ (l.length : Int)) = true := decide_eq_true (by omega)
  obtain ⟨Z, hZe⟩ : ∃ Z, Z = (l.take T).drop (4 * (N + 1)) := ⟨_, rfl⟩
  rw [← hZe] at hZ
  obtain ⟨kz, hkz⟩ := Ev.rounds (frZero Z (by rw [hZe, List.length_drop, List.length_take]; omega))
  rw [hZ] at hkz
  have HZ := Aside0.mk hkz
  obtain ⟨i0, hi0, _, hsz, _⟩ := info_parts info5
  have HI0 := Aside0.mk hi0
  have HSZ := Aside0.mk hsz
  obtain ⟨A', hcut, hA', hC'⟩ := print_mid_of (P := Try.prog) (Value.int .u8) 0 22 5 .i64 .i64 Try.underlying22 hi0 hsz A c l (4 * ((N : Int) + 1)) (T : Int) (by omega) (by omega) (by omega) hc
  rw [Int.toNat_natCast, show (4 * ((N : Int) + 1)).toNat = 4 * (N + 1) by omega, ← hZe] at hcut hA' hC'
  have HR2 := Aside0.mk (Kd.C_of_reads (h1 := fun _ => rfl) (hA' _ (Kd.reads_of_C HR.out)))
  have HC2 := Aside0.mk hC'
  obtain ⟨A3, hcut3, hA3, hC3⟩ := print_drop_of (P := Try.prog) (Value.int .u8) 0 22 5 .i64 Try.underlying22 hi0 hsz A c l (T : Int) (by omega) (by omega) hc
  rw [Int.toNat_natCast] at hcut3 hA3 hC3
  have HR3 := Aside0.mk (Kd.C_of_reads (h1 := fun _ => rfl) (hA3 _ (Kd.reads_of_C HR.out)))
  have HC3 := Aside0.mk hC3
  obtain ⟨rest0, hr0⟩ : ∃ r, r = l.drop T := ⟨_, rfl⟩
  have HB3 := Aside0.mk (show IsB rest0 by rw [hr0]; exact hB.drop T)
  have HL3 := Aside0.mk (show rest0.length ≤ l.length by rw [hr0, List.length_drop]; omega)
  rw [← hr0] at hcut3 HR3 HC3 hRR
  have HRR := Aside0.mk hRR
  clear hin hB hn hx hc hl h hTe hA' hC' hZ hZe hA3 hC3 hr0 hRR hTn hkz hi0 hsz
  go_enter_defers Try.func10, Try.ntmps10
  go_wp2_with (first
    | (go_at_call 19; refine (number_ok (i := 0) (Kd.C_below HR.out HS.out.bel) HC.out HB.out H4.out HL.out).mono ?_; rintro e w2 ⟨rfl, ⟨m1, hw⟩⟩; rw [← HX.out])
    | (go_at_call 16; refine (frame_TableBytes.calls (N : Int) _ _ HT.out).mono ?_; rintro e w4 ⟨rfl, ⟨m2, hw4⟩⟩)
    | (go_at_call 21; refine (frame_zero.calls kz _ _ _ _ _ (Kd.C_drewN (Kd.C_below HR2.out HS.out.bel) _) HC2.out HZ.out).mono ?_; rintro e w4 ⟨rfl, ⟨m3, hw4⟩⟩)
    | (go_at_call 20; refine (must_true _).mono ?_; rintro e w3 ⟨rfl, hw3⟩))
  go_loopg [6, 38] N (fun kq v6 v38 w' => ∃ (i : Nat) (rest : List Int) (A' : Option Addr) (c' : Nat) (S : List (List Int)) (v : Value), Aside0 (kq + i = N) ∧ v6 = .slice A' rest.length c' ∧ v38 = .int .i64 (i : Int) ∧ Aside0 (parseL l kq i rest S = RR) ∧ Aside0 (Kd.C (Kd.int .u8) w A' rest.length rest ∧ rest.length ≤ c' ∧ IsB rest ∧ rest.length ≤ l.length) ∧ Aside0 (PS w w' v S) ∧ Aside0 (S.length ≤ i))
  case atStart => exact ⟨0, rest0, A3, c - T, [], .slice none 0 0, ⟨by omega⟩, rfl, rfl, HRR, ⟨HR3.out, HC3.out, HB3.out, HL3.out⟩, ⟨HS.out.drewN _⟩, ⟨Nat.le_refl _⟩⟩
  case round =>
    obtain ⟨i, rest, A', c', S, v, ⟨hki⟩, rfl, rfl, ⟨HP⟩, ⟨hr1, hr2, hr3, hr4⟩, HPS, ⟨hSl⟩⟩ := hrel
    obtain ⟨A5, n5, c5, rfl⟩ := HPS.out.slice
    cases gk with
    | zero =>
      obtain rfl : i = N := by omega
      clear hcut hcut3 e1 e2
      have bx := (blk_cell HPS.out.cp 0).trans rfl
      have bz := blk_frozen HPS.out.cp 0
      have by_ := (blk_cell (HPS.out.setp HPS.out.rows).cq 0).trans rfl
      have byz := blk_frozen (HPS.out.setp HPS.out.rows).cq 0
      have c0 : decide ((i : Int) < (i : Int)) = false := decide_eq_false (by omega)
      by_cases hz : rest.length = 0
      · simp only [parseL] at HP
        rw [if_pos hz] at HP
        subst HP
        have z0 : (((rest.length : Nat) : Int) == 0) = true := by rw [hz]; rfl
        go_wp2_with (first | (go_at_call 20; refine (must_true _).mono ?_; rintro e w7 ⟨rfl, hw7⟩))
        exact PS.goodD ((HPS.out.setp HPS.out.rows).setq) rfl rfl rfl
      · simp only [parseL] at HP
        rw [if_neg hz] at HP
        subst HP
        have z0 : (((rest.length : Nat) : Int) == 0) = false := by rw [beq_eq_false_iff_ne]; omega
        go_wp2_with (first | (go_at_call 20; refine (must_false _).mono ?_; rintro e w7 ⟨rfl, hw7⟩))
        exact PS.badD (by first | exact HPS.out | exact HPS.out.drewN _) rfl rfl rfl
    | succ k1 =>
      clear hcut hcut3 e1 e2 e3
      obtain ⟨s, hs⟩ : ∃ s, s = num4 l (i + 1) := ⟨_, rfl⟩
      have hsr := num4_range HB.out (i + 1)
      rw [← hs] at hsr
      have HSN := Aside0.mk hs
      have HI4 := Aside0.mk (show 4 * (i + 1 + 1) ≤ l.length by have := HTT.out; omega)
      have HSL := Aside0.mk (show S.length ≤ 512 by omega)
      simp only [parseL] at HP
      rw [← hs] at HP
      clear hs
      have c0 : decide ((i : Int) < (N : Int)) = true := decide_eq_true (by omega)
      by_cases g1 : s < 536870912
      · by_cases g2 : 8 * s ≤ (rest.length : Int)
        · rw [if_pos ⟨g1, g2⟩] at HP
          have g1b : decide (s < 536870912) = true := decide_eq_true g1
          have g2b : decide (s * 8 ≤ (rest.length : Int)) = true := decide_eq_true (by omega)
          obtain ⟨LT, hLT⟩ : ∃ LT, LT = rest.take (8 * s).toNat := ⟨_, rfl⟩
          have HLTL := Aside0.mk (show LT.length = (s * 8).toNat by rw [hLT, List.length_take]; omega)
          obtain ⟨i0, hi0, _, hsz, _⟩ := info_parts info5
          have htk := print_take_of (P := Try.prog) (Value.int .u8) 0 22 5 .i64 Try.underlying22 hi0 hsz A' c' rest (8 * s) (by omega) g2 hr2
          rw [← hLT] at htk
          have HLTC := Aside0.mk (Kd.C_of_reads (h1 := fun _ => rfl) (htk.2.1 w (Kd.reads_of_C hr1)))
          have HLTc := Aside0.mk (show LT.length ≤ c' from htk.2.2)
          have HLTB := Aside0.mk (show IsB LT by rw [hLT]; exact hr3.take _)
          have HLT8 := Aside0.mk (show LT.length % 8 = 0 by rw [HLTL.out]; omega)
          have HLTM := Aside0.mk (show LT.length ≤ 1000000000 by rw [hLT, List.length_take]; have := HL.out; omega)
          have hmr : (s * 8).toNat ≤ rest.length := by omega
          have hdro := Kd.C_of_reads (d := (0 : Int)) (h1 := fun _ => rfl) ((Kd.reads_of_C hr1).drop_ (s * 8).toNat hmr hr2)
          obtain ⟨DR, hDR⟩ : ∃ DR, DR = rest.drop (s * 8).toNat := ⟨_, rfl⟩
          rw [show (8 : Int) * s = s * 8 by omega, ← hDR] at HP
          rw [show (8 : Int) * s = s * 8 by omega] at hLT
          rw [← hLT] at HP
          rw [← hDR] at hdro
          have HPP := Aside0.mk HP
          obtain ⟨A7, hA7⟩ : ∃ A7, A7 = (if c' = (s * 8).toNat then A' else Option.map (fun x => x.add (s * 8).toNat) A') := ⟨_, rfl⟩
          rw [← hA7] at hdro
          have HDRC := Aside0.mk hdro
          have HA7 := Aside0.mk hA7
          clear hA7
          have HDRl := Aside0.mk (show DR.length = rest.length - (s * 8).toNat by rw [hDR, List.length_drop])
          have HDRc := Aside0.mk (show DR.length ≤ c' - (s * 8).toNat by rw [hDR, List.length_drop]; omega)
          have HDRB := Aside0.mk (show IsB DR by rw [hDR]; exact hr3.drop _)
          have HDRL := Aside0.mk (show DR.length ≤ l.length by rw [hDR, List.length_drop]; omega)
          have w13 : IntKind.i64.wrap (s * 8) = s * 8 := by rw [i64_w, w64 (by have := HL.out; omega) (by have := HL.out; omega)]
          have p13 := eq_true (show 0 ≤ s * 8 by omega)
          have q13 := eq_true (show s * 8 ≤ (rest.length : Int) by omega)
          clear htk hdro hLT hDR HP hi0 hsz hmr
          go_wp2_with (first
            | (go_at_call 19; refine (number_ok' (i := i + 1) (by omega) (Kd.C_below HR.out HPS.out.bel) HC.out HB.out HI4.out HL.out).mono ?_; rintro e w6 ⟨rfl, ⟨m6, hw6⟩⟩; rw [← HSN.out])
            | (go_at_call 20; refine (must_true _).mono ?_; rintro e w7 ⟨rfl, hw7⟩)
            | (go_at_call 22
               refine (words_ok' HLTL.out (Kd.C_drewN (Kd.C_below HLTC.out HPS.out.bel) _) HLTc.out HLTB.out HLT8.out HLTM.out).mono ?_
               rintro e w8 ⟨v8, rfl, hv8, hb8⟩
               have HB8 := Aside0.mk (show Below wr.heap.size wr w8 from (pw_below_drewN (Below.refl _ _) m6).trans (hb8.mono (Nat.le_refl _)))
               have HPS8 := Aside0.mk (HPS.out.below HB8.out)
               have HROW := Aside0.mk (show Kd.S (Kd.slice 43 (Kd.int .u64)) 41 w8 w.heap.size (fun k => (k ≠ w.heap.size ∧ k ≠ w.heap.size + 1) ∧ some k ≠ v8.ownBlock) _ S from Kd.S_elder' (Kd.S_drewN HPS.out.rows m6) (Kd.R_base hv8) hb8)
               have HV8 := Aside0.mk (show Kd.R (Kd.int .u64) 43 w8 wr.heap.size (fun _ => True) v8 (wordsS LT) from hv8)
               have HTY := Aside0.mk (Kd.S_typed HROW.out)
               obtain ⟨A8, c8, e8⟩ := Kd.R_slice hv8
               have HE8 := Aside0.mk e8
               subst e8
               have bx8 := (blk_cell HPS8.out.cp 0).trans rfl
               have bx8a := (blk_cell (blk_alloc HPS8.out.cp (.cells #[.slice A8 (wordsS LT).length c8] 41)) 0).trans rfl
               clear hv8 hb8))
          refine okq ?_
          go_region_law (first
            | ((first | rw [show (w8.alloc (.cells #[.slice A8 (wordsS LT).length c8] 41)).drew.drew = w8.drew.drew.alloc (.cells #[.slice A8 (wordsS LT).length c8] 41) from rfl] | rw [show (w8.alloc (.cells #[.slice A8 (wordsS LT).length c8] 41)).drew = w8.drew.alloc (.cells #[.slice A8 (wordsS LT).length c8] 41) from rfl])
               (refine Kd.S_append_step (Kd.slice 43 (Kd.int .u64)) (w0 := w) w.heap.size (by rfl) (.tmp 63) (.tmp 65) 23 41 (.slice none 0 0) 24 rfl Try.underlying23 info41 rfl (by decide) (by omega) (.slice A5 n5 c5) S (wordsS LT) [.slice A8 (wordsS LT).length c8] (fun k => k ≠ w.heap.size ∧ k ≠ w.heap.size + 1) (fun k => some k = (.slice A8 (wordsS LT).length c8 : Value).ownBlock) rfl rfl ?aP ?aK ?aF ?aO ?aB ?aS ?aL ?_)
               case aP => exact Kd.M_row (by (repeat (with_reducible refine Kd.R_drew ?_)); exact Kd.R_lower (Kd.R_tight rfl HV8.out) HPS.out.bel.size)
               case aK => exact HPS.out.fresh (Kd.R_base HV8.out)
               case aF => exact HPS8.out.newer
               case aO => exact (by (repeat (with_reducible refine Kd.S_drew ?_)); exact HROW.out)
               case aB => first | exact HPS8.out.bel.drew | exact HPS8.out.bel.drew.drew
               case aS => exact HPS8.out.bel.size
               case aL => exact segs_room HSL.out
               intro v9 w9 ho hb hg hat
               obtain ⟨A9, n9, c9, e9⟩ := S_slice ho
               subst e9
               have HO9 := Aside0.mk (show Kd.S (Kd.slice 43 (Kd.int .u64)) 41 w9 w.heap.size (fun k => k ≠ w.heap.size ∧ k ≠ w.heap.size + 1) _ (S ++ [wordsS LT]) from ho)
               have HB9 := Aside0.mk hb
               have HP9 := Aside0.mk (blk_grown (show (w8.drew).heap[w.heap.size]? = _ from HPS8.out.cp) hg (fun e => (HPS.out.own _ e.symm).1 rfl))
               have HQ9 := Aside0.mk (blk_grown (show (w8.drew).heap[w.heap.size + 1]? = _ from HPS8.out.cq) hg (fun e => (HPS.out.own _ e.symm).2 rfl))
               have bx9 := (blk_cell HP9.out 0).trans rfl
               have bz9 := blk_frozen HP9.out 0
               clear ho hb hg hat))
          · refine okq_ ?_
            rw [← HA7.out]
            go_wp2
            go_roundg k1
            case measure => omega
            case rel =>
              refine ⟨i + 1, DR, A7, c' - (s * 8).toNat, S ++ [wordsS LT], _, ⟨by omega⟩, ?_, ?_, HPP, ⟨?_, HDRc.out, HDRB.out, HDRL.out⟩, ⟨⟨blk_set HP9.out 0 _, blk_far HQ9.out (p := ⟨w.heap.size, 0, none⟩) (by simp) _, Kd.S_far HO9.out (p := ⟨w.heap.size, 0, none⟩) (fun k hk => hk.1) _, HB9.out.setCell (Nat.le_refl _) _⟩⟩, ⟨?_⟩⟩
              · rw [HDRl.out]
              · rfl
              · rw [HDRl.out]; exact HDRC.out
              · rw [List.length_append]; exact Nat.succ_le_succ hSl
          · refine okq_ ?_
            rw [← HA7.out]
            go_wp2
            go_roundg k1
            case measure => omega
            case rel =>
              refine ⟨i + 1, DR, A7, c' - (s * 8).toNat, S ++ [wordsS LT], _, ⟨by omega⟩, ?_, ?_, HPP, ⟨?_, HDRc.out, HDRB.out, HDRL.out⟩, ⟨⟨blk_set HP9.out 0 _, blk_far HQ9.out (p := ⟨w.heap.size, 0, none⟩) (by simp) _, Kd.S_far HO9.out (p := ⟨w.heap.size, 0, none⟩) (fun k hk => hk.1) _, HB9.out.setCell (Nat.le_refl _) _⟩⟩, ⟨?_⟩⟩
              · rw [HDRl.out]
              · rfl
              · rw [HDRl.out]; exact HDRC.out
              · rw [List.length_append]; exact Nat.succ_le_succ hSl
        · rw [if_neg (fun e => g2 e.2)] at HP
          subst HP
          have g1b : decide (s < 536870912) = true := decide_eq_true g1
          have g2b : decide (s * 8 ≤ (rest.length : Int)) = false := decide_eq_false (by omega)
          go_wp2_with (first | (go_at_call 19; refine (number_ok' (i := i + 1) (by omega) (Kd.C_below HR.out HPS.out.bel) HC.out HB.out HI4.out HL.out).mono ?_; rintro e w6 ⟨rfl, ⟨m6, hw6⟩⟩; rw [← HSN.out]) | (go_at_call 20; refine (must_false _).mono ?_; rintro e w7 ⟨rfl, hw7⟩))
          exact PS.badD (by first | exact HPS.out | exact HPS.out.drewN _) rfl rfl rfl
      · rw [if_neg (fun e => g1 e.1)] at HP
        subst HP
        have g1b : decide (s < 536870912) = false := decide_eq_false g1
        go_wp2_with (first | (go_at_call 19; refine (number_ok' (i := i + 1) (by omega) (Kd.C_below HR.out HPS.out.bel) HC.out HB.out HI4.out HL.out).mono ?_; rintro e w6 ⟨rfl, ⟨m6, hw6⟩⟩; rw [← HSN.out]) | (go_at_call 20; refine (must_false _).mono ?_; rintro e w7 ⟨rfl, hw7⟩))
        exact PS.badD (by first | exact HPS.out | exact HPS.out.drewN _) rfl rfl rfl
end Go.Proofs.Ytcdkgccmmfjnhaa.Fm
