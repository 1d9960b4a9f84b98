/- Package packstream, walked by hand: Write of a valid state. -/
import Derived.Test.YtibkbgaonjdpiaaPk7S
namespace Go.Proofs.Ytibkbgaonjdpiaa.Ps
open Go Go.RowKit Go.Proofs.Ytibkbgaonjdpiaa Go.Proofs.Ytibkbgaonjdpiaa.M Go.Proofs.Ytibkbgaonjdpiaa.PPaBase Go.Proofs.Ytibkbgaonjdpiaa.QPaBase Go.Proofs.YtibkbgaonjdpiaaW.PrintWords Go.Proofs.YtibkbgaonjdpiaaW.PrintLast Go.Proofs.YtibkbgaonjdpiaaW.PrintMore
set_option linter.unusedVariables false
set_option linter.unusedSimpArgs false
set_option maxHeartbeats 4000000
set_option maxRecDepth 100000
def Same2 (g h : Nat) (w w' : World) : Prop := ∀ k, k ≠ g → k ≠ h → w'.heap[k]? = w.heap[k]?
theorem Same2.refl (g h : Nat) (w : World) : Same2 g h w w := fun _ _ _ => rfl
theorem Same2.drew {g h : Nat} {w w' : World} (s : Same2 g h w w') : Same2 g h w w'.drew := s
theorem Same2.drewN {g h : Nat} {w w' : World} (s : Same2 g h w w') (n : Nat) : Same2 g h w (w'.drewN n) := s
theorem Same2.set1 {g h j : Nat} {w w' : World} {v : Value} (s : Same2 g h w w') : Same2 g h w (w'.setCell ⟨g, j, none⟩ v) := fun k h1 h2 => (Below.heap_setCell w' ⟨g, j, none⟩ v k h1).trans (s k h1 h2)
theorem Same2.set2 {g h j : Nat} {w w' : World} {v : Value} (s : Same2 g h w w') : Same2 g h w (w'.setCell ⟨h, j, none⟩ v) := fun k h1 h2 => (Below.heap_setCell w' ⟨h, j, none⟩ v k h2).trans (s k h1 h2)
theorem blk_setOther {w : World} {g k j : Nat} {o : Obj} {v : Value} (h : w.heap[k]? = some o) (hne : k ≠ g) : (w.setCell ⟨g, j, none⟩ v).heap[k]? = some o := (Below.heap_setCell w ⟨g, j, none⟩ v k hne).trans h
theorem cut_hm (A : Option Addr) (n c M : Nat) (hn : M ≤ n) (hc : n ≤ c) : ∀ W : World, (Instr.slice 22 (.slice A n c) none (some (.int .i64 (M : Int))) (some (.int .i64 (M : Int)))).run Try.prog W = .ok (.slice A M M) W := by
  intro W
  obtain ⟨i0, hi0, _, hsz, _⟩ := info_parts info5
  have hel : Try.prog.elem 22 = 5 := by simp [Program.elem, Try.underlying22]
  have hu : Try.prog.underlying 22 = some (.slice (Try.prog.elem 22)) := by rw [hel]; exact Try.underlying22
  have ha : (A.map fun x => x.add 0) = A := by cases A <;> simp [Addr.add]
  rw [run_slice_hm W 22 A n c hu .i64 .i64 (M : Int) (M : Int) (by omega) (by omega) (by omega), hel]
  simp [sizeOf, typeInfo, hi0, sliced, Result.andThen, ha]
theorem words_cut {w : World} {A : Option Addr} {M : Nat} {LT : List Int} (hC : Kd.C (Kd.int .u8) w A M LT) (hB : IsB LT) (hl : LT.length = M) (h8 : M % 8 = 0) (hM : M ≤ 1000000000) :
    Calls Try.prog 22 #[.slice A M M] w fun e w' => ∃ v0_ : Value, e = .returned (.tuple #[v0_, .bool true]) ∧ Kd.R (Kd.int .u64) 53 w' w.heap.size (fun _ => True) v0_ (wordsS LT) ∧ Below w.heap.size w w' := by
  obtain ⟨kw, hkw⟩ := Ev.rounds (wordWords_yes LT hB (by omega) (by omega))
  subst hl
  exact word_Words.calls kw A LT.length LT (wordsS LT) true w hC (Nat.le_refl _) hkw
def runBB (ws : List Int) (s : SB) : SB := ws.foldl wordB s
theorem write_ok {w : World} {A0 A2 A1 : Option Addr} {c0 c2 c1 : Nat} {p r b : List Int} {z : Int} (hp : Kd.C (Kd.int .u8) w A0 p.length p) (hcp : p.length ≤ c0) (hr : Kd.C (Kd.int .u8) w A2 r.length r) (hcr : r.length ≤ c2) (hb : Kd.C (Kd.int .u8) w A1 b.length b) (hcb : b.length ≤ c1) (hpl : p.length ≤ 1000000) (hrl : r.length ≤ 1000000) (hbl : b.length ≤ 1000000) (hrB : IsB r) (hpB : IsB p) (hbB : IsB b) (hv : validB p z r = true) (hI : IB z r) {ALL LT WS DL : List Int} {M : Nat} (hALL : ALL = p ++ b) (hM : M = ALL.length / 8 * 8) (hLT : LT = ALL.take M) (hDL : DL = ALL.drop M) (hWS : WS = wordsS LT) {RZ : Int} {RR RO : List Int} (hres : runBB WS (z, r, []) = (RZ, RR, RO)) :
    Calls Try.prog 8 #[.agg #[.slice A0 p.length c0, .int .i64 z, .slice A2 r.length c2], .slice A1 b.length c1] w fun e w' => ∃ v0_ v2_ v3_ : Value, e = .returned (.tuple #[.agg #[v0_, .int .i64 RZ, v2_], v3_]) ∧ Kd.R (Kd.int .u8) 5 w' w.heap.size (fun k_ => some k_ ≠ (v2_ : Value).ownBlock ∧ some k_ ≠ (v3_ : Value).ownBlock) v0_ DL ∧ Kd.R (Kd.int .u8) 5 w' w.heap.size (fun k_ => some k_ ≠ (v0_ : Value).ownBlock ∧ some k_ ≠ (v3_ : Value).ownBlock) v2_ RR ∧ Kd.R (Kd.int .u8) 5 w' w.heap.size (fun k_ => some k_ ≠ (v0_ : Value).ownBlock ∧ some k_ ≠ (v2_ : Value).ownBlock) v3_ RO ∧ Below w.heap.size w w' := by
  obtain ⟨kv, hkv⟩ := Ev.rounds (packValid p z hrB hrl hpl)
  rw [hv] at hkv
  have HKV := Aside0.mk hkv
  have S0 : ((w.alloc (.cells #[.slice A0 p.length c0, .int .i64 z, .slice A2 r.length c2] 24)).alloc (.cells #[.slice none 0 0, .int .i64 0, .slice none 0 0] 24)).heap.size = w.heap.size + 2 := by simp
  have HB0 := Aside0.mk (show Below w.heap.size w ((w.alloc (.cells #[.slice A0 p.length c0, .int .i64 z, .slice A2 r.length c2] 24)).alloc (.cells #[.slice none 0 0, .int .i64 0, .slice none 0 0] 24)) from below_alloc (below_alloc (Below.refl _ _) _) _)
  have HK0 := Aside0.mk (show ((w.alloc (.cells #[.slice A0 p.length c0, .int .i64 z, .slice A2 r.length c2] 24)).alloc (.cells #[.slice none 0 0, .int .i64 0, .slice none 0 0] 24)).heap[w.heap.size]? = some (.cells #[.slice A0 p.length c0, .int .i64 z, .slice A2 r.length c2] 24 (0, 0)) from blk_alloc (blk_new w _) _)
  have HK1 := Aside0.mk (show ((w.alloc (.cells #[.slice A0 p.length c0, .int .i64 z, .slice A2 r.length c2] 24)).alloc (.cells #[.slice none 0 0, .int .i64 0, .slice none 0 0] 24)).heap[w.heap.size + 1]? = some (.cells #[.slice none 0 0, .int .i64 0, .slice none 0 0] 24 (0, 0)) by
    have := blk_new (w.alloc (.cells #[.slice A0 p.length c0, .int .i64 z, .slice A2 r.length c2] 24)) (.cells #[.slice none 0 0, .int .i64 0, .slice none 0 0] 24)
    rwa [show (w.alloc (.cells #[.slice A0 p.length c0, .int .i64 z, .slice A2 r.length c2] 24)).heap.size = w.heap.size + 1 by simp] at this)
  have HCP := Aside0.mk (Kd.C_below hp HB0.out)
  have HCR := Aside0.mk (Kd.C_below hr HB0.out)
  have HCB := Aside0.mk (Kd.C_below hb HB0.out)
  have HLP := Aside0.mk (And.intro hcp (Nat.le_trans hpl (by decide : (1000000 : Nat) ≤ 1000000000)))
  have HLR := Aside0.mk (And.intro hcr (Nat.le_trans hrl (by decide : (1000000 : Nat) ≤ 1000000000)))
  have HLB := Aside0.mk (And.intro hcb hbl)
  have HLL := Aside0.mk (And.intro hpl hrl)
  have HIB := Aside0.mk hrB
  obtain ⟨W1, hW1⟩ : ∃ W1, W1 = ((w.alloc (.cells #[.slice A0 p.length c0, .int .i64 z, .slice A2 r.length c2] 24)).alloc (.cells #[.slice none 0 0, .int .i64 0, .slice none 0 0] 24)) := ⟨_, rfl⟩
  have HW1 := Aside0.mk hW1
  have HS0 := Aside0.mk S0
  rw [← hW1] at HB0 HK0 HK1 HCP HCR HCB HS0
  have bx0 := (blk_cell HK0.out 0).trans rfl
  have bxz0 := blk_frozen HK0.out 0
  have bx1 := (blk_cell HK0.out 1).trans rfl
  have bxz1 := blk_frozen HK0.out 1
  have bx2 := (blk_cell HK0.out 2).trans rfl
  have bxz2 := blk_frozen HK0.out 2
  have hAl : ALL.length = p.length + b.length := by rw [hALL, List.length_append]
  have HAL := Aside0.mk (show ALL.length ≤ 2000000 by omega)
  have HABY := Aside0.mk (show IsB ALL by rw [hALL]; exact hpB.append hbB)
  obtain ⟨N8, hN8⟩ : ∃ N8 : Nat, N8 = ALL.length / 8 := ⟨_, rfl⟩
  have hMN : M = N8 * 8 := by rw [hM, hN8]
  have HMA := Aside0.mk (show M ≤ ALL.length by omega)
  have HM8 := Aside0.mk (show M % 8 = 0 by rw [hMN]; omega)
  have n1 : N8 ≤ 250000 := by omega
  have q3 : wrap64 ((ALL.length : Int) / 8) = (N8 : Int) := by rw [w64 (by omega) (by omega)]; omega
  have q4 : wrap64 ((N8 : Int) * 8) = (M : Int) := by clear q3 hN8 hM; rw [w64 (by omega) (by omega)]; omega
  have HLTL := Aside0.mk (show LT.length = M by rw [hLT, List.length_take]; clear q3 q4; omega)
  have HLTT := Aside0.mk hLT
  have HLTB := Aside0.mk (show IsB LT by rw [hLT]; exact HABY.out.take M)
  have HWSE := Aside0.mk hWS
  have HWSL := Aside0.mk (show WS.length ≤ 250000 by rw [hWS, wordsS_length, HLTL.out]; clear q3 q4; omega)
  have HDLE := Aside0.mk hDL
  have HDLL := Aside0.mk (show DL.length ≤ 1000000000 by rw [hDL, List.length_drop]; clear q3 q4; omega)
  have HALE := Aside0.mk hALL
  have HRES := Aside0.mk hres
  have HIB0 := Aside0.mk hI
  clear hpB hbB hI hALL hM hLT hDL hWS hres hAl hN8 hMN n1
  clear hW1 hkv S0 hp hcp hr hcr hb hcb hpl hrl hbl hrB
  go_enter Try.func8, Try.ntmps8
  go_wp2
  rw [← HW1.out]
  go_region_law (first
    | (refine goes_ Try.func21 (by kernel_rfl) rfl #[.slice A0 p.length c0] (by rfl) rfl rfl (by first | rfl | simp [Act.eval, Act.put]) ?_
       refine (clone_calls (w := _) (A := A0) (c := c0) (l := p) ?h1 HLP.out.1 HLP.out.2).mono ?_
       case h1 => repeat (first | exact HCP.out | (with_reducible refine Kd.C_drewN ?_ _) | (with_reducible refine Kd.C_drew ?_))
       rintro e w2 ⟨v15, rfl, hv, hbb⟩
       refine ⟨_, rfl, ?_⟩
       have HB2 := Aside0.mk (show Below W1.heap.size W1 w2 from (Below.refl W1.heap.size W1).drew.trans (hbb.mono (Nat.le_refl _)))
       have HV15 := Aside0.mk (show Kd.R (Kd.int .u8) 5 w2 W1.heap.size (fun _ => True) v15 p from hv)
       have HK02 := Aside0.mk (blk_below HK0.out HB2.out)
       have HK12 := Aside0.mk (blk_below HK1.out HB2.out)
       have by0 := (blk_cell HK02.out 1).trans rfl
       have by1 := (blk_cell HK02.out 2).trans rfl
       obtain ⟨A15, c15, e15⟩ := Kd.R_slice HV15.out
       subst e15
       clear hv hbb)
    | (refine goes_ Try.func21 (by kernel_rfl) rfl #[.slice A2 r.length c2] (by rfl) rfl rfl (by first | rfl | simp [Act.eval, Act.put]) ?_
       refine (clone_calls (w := w2) (A := A2) (c := c2) (l := r) (Kd.C_below HCR.out HB2.out) HLR.out.1 HLR.out.2).mono ?_
       rintro e w3 ⟨v20, rfl, hv, hbb⟩
       refine ⟨_, rfl, ?_⟩
       have HB3 := Aside0.mk (show Below W1.heap.size W1 w3 from HB2.out.trans (hbb.mono HB2.out.size))
       have HV20 := Aside0.mk (show Kd.R (Kd.int .u8) 5 w3 w2.heap.size (fun _ => True) v20 r from hv)
       have HV15X := HV15
       have HV15 := Aside0.mk (Kd.R_below HV15X.out hbb)
       have HB23 := Aside0.mk hbb
       have HV15L := Aside0.mk (show ∀ k, (Value.slice A15 p.length c15).ownBlock = some k → k < w2.heap.size from Kd.R_lt HV15X.out)
       have HK03 := Aside0.mk (blk_below HK02.out hbb)
       have HK13 := Aside0.mk (blk_below HK12.out hbb)
       have bv1 := (blk_cell HK03.out 1).trans rfl
       obtain ⟨A20, c20, e20⟩ := Kd.R_slice HV20.out
       subst e20
       clear hv hbb))
  all_goals (
    generalize hW4 : w3.alloc (.cells #[.slice A15 p.length c15, .int .i64 z, .slice A20 r.length c20, .slice none 0 0] 52) = W4
    have HK04 := Aside0.mk (show W4.heap[w.heap.size]? = some (.cells #[.slice A0 p.length c0, .int .i64 z, .slice A2 r.length c2] 24 (0, 0)) by rw [← hW4]; exact blk_alloc HK03.out _)
    have HK14 := Aside0.mk (show W4.heap[w.heap.size + 1]? = some (.cells #[.slice none 0 0, .int .i64 0, .slice none 0 0] 24 (0, 0)) by rw [← hW4]; exact blk_alloc HK13.out _)
    have HK24 := Aside0.mk (show W4.heap[w3.heap.size]? = some (.cells #[.slice A15 p.length c15, .int .i64 z, .slice A20 r.length c20, .slice none 0 0] 52 (0, 0)) by rw [← hW4]; exact blk_new w3 _)
    have HB34 := Aside0.mk (show Below w3.heap.size w3 W4 by rw [← hW4]; exact below_alloc (Below.refl _ _) _)
    have HB4 := Aside0.mk (HB3.out.trans (HB34.out.mono HB3.out.size))
    have HP4 := Aside0.mk (Kd.R_below HV15.out HB34.out)
    have HR4 := Aside0.mk (Kd.R_below HV20.out HB34.out)
    have HPG := Aside0.mk (show ∀ k, (Value.slice A15 p.length c15).ownBlock = some k → k < w3.heap.size from Kd.R_lt HV15.out)
    have HRG := Aside0.mk (show ∀ k, (Value.slice A20 r.length c20).ownBlock = some k → k < w3.heap.size from Kd.R_lt HV20.out)
    obtain ⟨g, hg⟩ : ∃ g, g = w3.heap.size := ⟨_, rfl⟩
    rw [← hg] at HK24 HPG HRG
    have HG := Aside0.mk (show W1.heap.size ≤ g by rw [hg]; exact HB3.out.size)
    have HG2 := Aside0.mk (show w2.heap.size ≤ g by rw [hg]; exact HB23.out.size)
    rw [← hg]
    clear hg hW4
    have cx0 := (blk_cell HK04.out 0).trans rfl
    have cxz0 := blk_frozen HK04.out 0
    have cx1 := (blk_cell HK04.out 1).trans rfl
    have cxz1 := blk_frozen HK04.out 1
    have cx2 := (blk_cell HK04.out 2).trans rfl
    have cxz2 := blk_frozen HK04.out 2
    go_wp2_with (first
      | (go_at_call 11; refine (packstream_Valid.calls kv A0 c0 p z A2 c2 r true _ ?a1 HLP.out.1 ?a2 HLR.out.1 HKV.out).mono ?_; (case a1 => exact Kd.C_below HCP.out HB4.out); (case a2 => exact Kd.C_below HCR.out HB4.out); rintro e w5 ⟨rfl, hb5⟩; have HB5 := Aside0.mk (HB4.out.trans (hb5.mono HB4.out.size)); have HK15 := Aside0.mk (blk_below HK14.out hb5); have HK25 := Aside0.mk (blk_below HK24.out hb5); have HP5 := Aside0.mk (Kd.R_below HP4.out hb5); have HR5 := Aside0.mk (Kd.R_below HR4.out hb5); have d0 := (blk_cell HK15.out 0).trans rfl; have dz0 := blk_frozen HK15.out 0; have d1 := (blk_cell HK15.out 1).trans rfl; have dz1 := blk_frozen HK15.out 1; have d2 := (blk_cell HK15.out 2).trans rfl; have dz2 := blk_frozen HK15.out 2; have e0 := (blk_cell HK25.out 0).trans rfl; have ez0 := blk_frozen HK25.out 0; have e1 := (blk_cell HK25.out 1).trans rfl; have ez1 := blk_frozen HK25.out 1; have e2 := (blk_cell HK25.out 2).trans rfl; have ez2 := blk_frozen HK25.out 2; have e3 := (blk_cell HK25.out 3).trans rfl; have ez3 := blk_frozen HK25.out 3; clear hb5)
      | ((with_reducible refine gate_builtin (b := .append) (xs := #[.tmp 35, .tmp 36]) rfl ?_); at_builtin; go_loud (refine Kd.R_append_rows (Kd.int .u8) (w0 := W1) W1.heap.size rfl (.tmp 35) (.tmp 36) 22 5 (.int .u8 0) 1 rfl Try.underlying22 info5 rfl (by decide) (by omega) (.slice A15 p.length c15) p b A1 b.length c1 (fun k => (W1.heap.size ≤ k ∧ k ≠ g) ∧ some k ≠ (Value.slice A20 r.length c20).ownBlock) (fun _ => False) rfl rfl ?aO ?aR (fun _ _ h => h) (fun _ h => h.elim) ?aF ?aB ?aS ?aL ?_); (case aR => exact Kd.C_below HCB.out HB5.out); (case aO => exact R_own8 HP5.out (fun k hk => ⟨⟨R_base HP5.out k hk, fun e => by have := HPG.out k hk; omega⟩, fun e => by have := R_base HR5.out k e.symm; have := HV15L.out k hk; omega⟩)); (case aB => exact HB5.out); (case aF => exact fun k hk => ⟨⟨Nat.le_trans HB5.out.size hk, fun e => by have := blk_lt HK25.out; omega⟩, fun e => by have := Kd.R_lt HR5.out k e.symm; omega⟩); (case aS => exact HB5.out.size); (case aL => have := HLL.out.1; have := HLB.out.2; omega); intro vA w6 ho hb6 hg6 hat6; rw [← HALE.out] at ho; have HA6 := Aside0.mk ho; have HB6 := Aside0.mk hb6; have HK16 := Aside0.mk (blk_grown HK15.out hg6 (fun e => by have := R_base HP5.out _ e.symm; have := HS0.out; omega)); have HK26 := Aside0.mk (blk_grown HK25.out hg6 (fun e => by have := HPG.out _ e.symm; omega)); have HR6 := Aside0.mk (show Kd.R (Kd.int .u8) 5 w6 W1.heap.size (fun k => k ≠ g ∧ some k ≠ vA.ownBlock) (.slice A20 r.length c20) r from Kd.R_lower (R_own8 (Kd.R_move (R_own8 (ok' := fun k => k < w5.heap.size ∧ some k ≠ (Value.slice A15 p.length c15).ownBlock) HR5.out (fun k hk => ⟨Kd.R_lt HR5.out k hk, fun e => by have := R_base HR5.out k hk; have := HV15L.out k e.symm; omega⟩)) (fun k hk => hg6.block k hk.1 hk.2)) (fun k hk => ⟨fun e => by have := HRG.out k hk; omega, fun e => by rcases hat6 with h | ⟨bb, h1, h2⟩; (rw [h] at e; have := R_base HR5.out k hk; have := HV15L.out k e.symm; omega); (have := Kd.R_lt HR5.out k hk; rw [h1] at e; injection e with e; omega)⟩)) HB2.out.size); obtain ⟨AA, cA, eA⟩ := Kd.R_slice ho; subst eA; have HCA := Aside0.mk (Kd.R_reads' ho).2.1; have hcM := cut_hm AA ALL.length cA M HMA.out HCA.out; have HCL := Aside0.mk (show Kd.C (Kd.int .u8) w6 AA M LT from by have h := Kd.C_take (Kd.R_reads' ho).2.2 HMA.out; rwa [← HLTT.out, HLTL.out] at h); have u0 := (blk_cell HK26.out 0).trans rfl; have uz0 := blk_frozen HK26.out 0; have u1 := (blk_cell HK26.out 1).trans rfl; have uz1 := blk_frozen HK26.out 1; have u2 := (blk_cell HK26.out 2).trans rfl; have uz2 := blk_frozen HK26.out 2; have u3 := (blk_cell HK26.out 3).trans rfl; have uz3 := blk_frozen HK26.out 3; clear ho hb6 hg6 hat6)
      | (go_at_call 22; go_loud (refine (words_cut HCL.out HLTB.out HLTL.out HM8.out (by have := HMA.out; have := HAL.out; omega)).mono ?_); rintro e w7 ⟨vW, rfl, hvW, hb7⟩; rw [← HWSE.out] at hvW; have HB67 := Aside0.mk hb7; have HW7 := Aside0.mk hvW; have HB7 := Aside0.mk (HB6.out.trans (hb7.mono HB6.out.size)); have HK17 := Aside0.mk (blk_below HK16.out hb7); have HK27 := Aside0.mk (blk_below HK26.out hb7); have HA7 := Aside0.mk (Kd.R_below HA6.out hb7); have HR7 := Aside0.mk (Kd.R_below HR6.out hb7); have HRL6 := Aside0.mk (show ∀ k, (Value.slice A20 r.length c20).ownBlock = some k → k < w6.heap.size from Kd.R_lt HR6.out); have HGL6 := Aside0.mk (blk_lt HK26.out); obtain ⟨AW, cW, eW⟩ := Kd.R_slice hvW; subst eW; clear hvW hb7))
    obtain ⟨S, hS⟩ : ∃ S : Nat → Prop, S = fun k => some k = (Value.slice AA ALL.length cA).ownBlock ∨ some k = (Value.slice AW WS.length cW).ownBlock := ⟨_, rfl⟩
    obtain ⟨ob, hob⟩ : ∃ ob : Nat → Obj, ∀ b, S b → w7.heap[b]? = some (ob b) := ⟨fun b => (w7.heap[b]?).getD (.cells #[] 0), fun b hb => by
      have hlt : b < w7.heap.size := by
        rw [hS] at hb
        rcases hb with h | h
        · exact Kd.R_lt HA7.out b h.symm
        · exact Kd.R_lt HW7.out b h.symm
      simp only [Array.getElem?_eq_getElem hlt, Option.getD_some]⟩
    have HSA := Aside0.mk (show ∀ k, (Value.slice AA ALL.length cA).ownBlock = some k → S k by rw [hS]; exact fun k hk => Or.inl hk.symm)
    have HSW := Aside0.mk (show ∀ k, (Value.slice AW WS.length cW).ownBlock = some k → S k by rw [hS]; exact fun k hk => Or.inr hk.symm)
    have HWR := Aside0.mk (show Wr W1 w7 g S ob (.slice A15 p.length c15) z r [] from Wr.of (w := w7) (vR := .slice A20 r.length c20) (vO := .slice none 0 0) (R_own8 HR7.out (fun k hk => ⟨⟨(HR7.out.1 k hk).1, fun hs => by
      rw [hS] at hs
      rcases hs with h | h
      · exact (HR7.out.1 k hk).2 h
      · have := R_base HW7.out k h.symm; have := HRL6.out k hk; omega⟩, by simp [Value.ownBlock]⟩)) (Kd.R_nil _ _ _ _ _) (SameB.refl _ _) HB7.out HG.out hob (fun hs => by
      rw [hS] at hs
      rcases hs with h | h
      · exact (HA7.out.1 g h.symm).1.2 rfl
      · have := R_base HW7.out g h.symm; have := HGL6.out; omega) HK27.out)
    have HOB := Aside0.mk hob
    clear hS hob
    go_loopg [52] WS.length (fun kq v52 w' => ∃ (j : Nat) (z' : Int) (r' o' : List Int), v52 = .int .i64 (j : Int) ∧ Aside0 (j + kq = WS.length) ∧ Aside0 (Wr W1 w' g S ob (.slice A15 p.length c15) z' r' o') ∧ Aside0 (runBB (WS.drop j) (z', r', o') = (RZ, RR, RO)) ∧ Aside0 (IB z' r') ∧ Aside0 (o'.length + 2100 * kq ≤ 600000000))
    case atStart => exact ⟨0, z, r, [], (by first | rfl | (simp; done) | (simp [*]; done)), ⟨by omega⟩, HWR, HRES, HIB0, ⟨by have := HWSL.out; simp only [List.length_nil]; omega⟩⟩
    case round =>
      obtain ⟨j, z', r', o', rfl, HJ, HD, HS, HI, HOL⟩ := hrel
      clear HRES HWR HIB0
      cases gk with
      | zero =>
        have c0 : decide ((j : Int) < (WS.length : Int)) = false := decide_eq_false (by have := HJ.out; omega)
        have c1 : decide (j < WS.length) = false := decide_eq_false (by have := HJ.out; omega)
        have c2 : (j < WS.length) = False := eq_false (by have := HJ.out; omega)
        have hs := HS.out
        rw [List.drop_of_length_le (by have := HJ.out; omega)] at hs
        simp only [runBB, List.foldl_nil, Prod.mk.injEq] at hs
        obtain ⟨rfl, rfl, rfl⟩ := hs
        clear HS
        obtain ⟨⟨vR, vO, hblk, hrR, hoR⟩, hbel, hgg, hkb, hbg⟩ := HD.out
        obtain ⟨AR, cR, rfl⟩ := Kd.R_slice hrR
        obtain ⟨AO, cO, rfl⟩ := Kd.R_slice hoR
        have HKR := Aside0.mk ((hbel.block (w.heap.size + 1) (by rw [HS0.out]; omega)).trans HK1.out)
        have HKG := Aside0.mk hblk
        have HRE := Aside0.mk hrR
        have HOE := Aside0.mk hoR
        have HBE := Aside0.mk hbel
        have HAw := Aside0.mk (Kd.R_move (R_own8 (ok' := S) HA7.out HSA.out) (fun k hk => (hkb k hk).trans (HOB.out k hk).symm))
        obtain ⟨AD, cD, hcD, hCD, hcD'⟩ := cut_in AA cA ALL M HMA.out (Kd.R_reads' HAw.out).2.2 HCA.out
        rw [← HDLE.out] at hcD hCD hcD'
        have HCD := Aside0.mk hCD
        have HCD2 := Aside0.mk hcD'
        have s0 := (blk_cell HKG.out 0).trans rfl
        have sz0 := blk_frozen HKG.out 0
        have s1 := (blk_cell HKG.out 1).trans rfl
        have sz1 := blk_frozen HKG.out 1
        have s2 := (blk_cell HKG.out 2).trans rfl
        have sz2 := blk_frozen HKG.out 2
        have s3 := (blk_cell HKG.out 3).trans rfl
        have sz3 := blk_frozen HKG.out 3
        have t0 := (blk_cell HKR.out 0).trans rfl
        have tz0 := blk_frozen HKR.out 0
        have t1 := (blk_cell HKR.out 1).trans rfl
        have tz1 := blk_frozen HKR.out 1
        have t2 := (blk_cell HKR.out 2).trans rfl
        have tz2 := blk_frozen HKR.out 2
        clear hblk hrR hoR hbel hgg hkb hbg hCD hcD'
        go_wp2_with (first
          | (go_at_call 21; refine (clone_calls (A := AD) (c := cD) (l := DL) HCD.out HCD2.out HDLL.out).mono ?_; rintro e w9 ⟨v64, rfl, hv64, hb9⟩; obtain ⟨A64, c64, e64⟩ := Kd.R_slice hv64; subst e64; have HV9 := Aside0.mk hv64; have HB9 := Aside0.mk (HBE.out.trans (hb9.mono HBE.out.size)); have HKR9 := Aside0.mk (blk_below HKR.out hb9); have HKG9 := Aside0.mk (blk_below HKG.out hb9); have HR9 := Aside0.mk (Kd.R_below HRE.out hb9); have HO9 := Aside0.mk (Kd.R_below HOE.out hb9); have HRX := Aside0.mk (show ∀ k, (Value.slice AR r'.length cR).ownBlock = some k → k < wr.heap.size from Kd.R_lt HRE.out); have HOX := Aside0.mk (show ∀ k, (Value.slice AO o'.length cO).ownBlock = some k → k < wr.heap.size from Kd.R_lt HOE.out); have HGX := Aside0.mk (blk_lt HKG.out); have HNX := Aside0.mk (blk_lt HKR.out); have ss0 := (blk_cell HKG9.out 0).trans rfl; have ssz0 := blk_frozen HKG9.out 0; have ss1 := (blk_cell HKG9.out 1).trans rfl; have ssz1 := blk_frozen HKG9.out 1; have ss2 := (blk_cell HKG9.out 2).trans rfl; have ssz2 := blk_frozen HKG9.out 2; have ss3 := (blk_cell HKG9.out 3).trans rfl; have ssz3 := blk_frozen HKG9.out 3; have tt0 := (blk_cell HKR9.out 0).trans rfl; have ttz0 := blk_frozen HKR9.out 0; have tt1 := (blk_cell HKR9.out 1).trans rfl; have ttz1 := blk_frozen HKR9.out 1; have tt2 := (blk_cell HKR9.out 2).trans rfl; have ttz2 := blk_frozen HKR9.out 2; clear hv64 hb9))
        have hng : ¬ w.heap.size + 1 = g := by have := HG.out; have := HS0.out; omega
        have hgn : ¬ g = w.heap.size + 1 := fun e => hng e.symm
        go_region
        (try go_wp2)
        (try simp only [Exit.inBlock, Exit.then])
        refine bodyPost_ret (results_ct rfl _ _ (w.heap.size + 1) 24 #[.slice A64 DL.length c64, .int .i64 z', .slice AR r'.length cR] (0, 0) _ rfl (by (repeat (with_reducible first | refine blk_drewN ?_ _ | refine blk_drew ?_ | apply blk_put)); (first | (with_reducible exact HKR9.out) | (refine blk_setOther ?_ (by have := HG.out; have := HS0.out; omega); exact HKR9.out)); all_goals rfl) Try.underlying24 rfl (by kernel_rfl)) rfl ?_
        refine ⟨.slice A64 DL.length c64, .slice AR r'.length cR, .slice AO o'.length cO, rfl, ?_, ?_, ?_, ?_⟩
        · refine Kd.R_lower (R_own8 (Kd.R_move (R_own8 (ok' := fun k => k ≠ g ∧ k ≠ w.heap.size + 1) HV9.out (fun k hk => by have := R_base HV9.out k hk; have := HGX.out; have := HNX.out; omega)) (fun k hk => (show Same2 g (w.heap.size + 1) w9 _ from ?_) k hk.1 hk.2)) (fun k hk => ⟨fun e => by have := R_base HV9.out k hk; have := HRX.out k e.symm; omega, fun e => by have := R_base HV9.out k hk; have := HOX.out k e.symm; omega⟩)) (Nat.le_trans HB0.out.size HBE.out.size)
          repeat (with_reducible first | exact Same2.refl _ _ _ | apply Same2.drewN | apply Same2.drew | apply Same2.set1 | apply Same2.set2)
        · refine Kd.R_lower (R_own8 (Kd.R_move (R_own8 (ok' := fun k => k ≠ g ∧ k ≠ w.heap.size + 1) HR9.out (fun k hk => ⟨(HR9.out.1 k hk).1.1, by have := R_base HR9.out k hk; have := HS0.out; omega⟩)) (fun k hk => (show Same2 g (w.heap.size + 1) w9 _ from ?_) k hk.1 hk.2)) (fun k hk => ⟨fun e => by have := R_base HV9.out k e.symm; have := HRX.out k hk; omega, (HR9.out.1 k hk).2⟩)) HB0.out.size
          repeat (with_reducible first | exact Same2.refl _ _ _ | apply Same2.drewN | apply Same2.drew | apply Same2.set1 | apply Same2.set2)
        · refine Kd.R_lower (R_own8 (Kd.R_move (R_own8 (ok' := fun k => k ≠ g ∧ k ≠ w.heap.size + 1) HO9.out (fun k hk => ⟨(HO9.out.1 k hk).1.1, by have := R_base HO9.out k hk; have := HS0.out; omega⟩)) (fun k hk => (show Same2 g (w.heap.size + 1) w9 _ from ?_) k hk.1 hk.2)) (fun k hk => ⟨fun e => by have := R_base HV9.out k e.symm; have := HOX.out k hk; omega, (HO9.out.1 k hk).2⟩)) HB0.out.size
          repeat (with_reducible first | exact Same2.refl _ _ _ | apply Same2.drewN | apply Same2.drew | apply Same2.set1 | apply Same2.set2)
        · have HBF := Aside0.mk (HB0.out.trans (HB9.out.mono HB0.out.size))
          have HGW := Aside0.mk (Nat.le_trans HB0.out.size HG.out)
          repeat (with_reducible first | exact HBF.out | apply below_drew1 | apply pw_below_drewN | refine below_set ?_ (by first | exact HGW.out | omega))
      | succ k1 =>
        have hj : j < WS.length := by have := HJ.out; omega
        have c0 : decide ((j : Int) < (WS.length : Int)) = true := decide_eq_true (by omega)
        have c1 : decide (j < WS.length) = true := decide_eq_true hj
        have c2 : (j < WS.length) = True := eq_true hj
        have hs := HS.out
        have hdj : WS.drop j = rd WS (j : Int) :: WS.drop (j + 1) := drop_rd hj
        rw [hdj] at hs
        have HS2 := Aside0.mk (show runBB (WS.drop (j + 1)) (wordB (z', r', o') (rd WS (j : Int))) = (RZ, RR, RO) from hs)
        clear hs hdj HS
        have HWw := Aside0.mk (Kd.R_move (R_own64 (ok' := S) HW7.out HSW.out) (fun k hk => (HD.out.kb k hk).trans (HOB.out k hk).symm))
        obtain ⟨ad, eA, hx⟩ := Kd.at_int (Kd.R_reads' HWw.out).2.2 (j : Int) (by omega) (by omega)
        rw [Int.toNat_natCast] at hx
        subst eA
        have HC2 := Aside0.mk (word_calls (x := rd WS (j : Int)) HD.out HI.out (by have := HOL.out; omega))
        have HI2 := Aside0.mk (wordB_IB HI.out o' (rd WS (j : Int)))
        have hj2 : (j : Int) + 1 < 9223372036854775807 := by have := HWSL.out; omega
        go_wp2_with (first
          | (go_at_call 23; refine HC2.out.mono ?_; rintro e2 w2x ⟨rfl, hd2⟩; have HD2 := Aside0.mk hd2; clear hd2))
        go_roundg k1
        case measure => omega
        case rel => exact ⟨j + 1, (wordB (z', r', o') (rd WS (j : Int))).1, (wordB (z', r', o') (rd WS (j : Int))).2.1, (wordB (z', r', o') (rd WS (j : Int))).2.2, (by first | rfl | (simp; done) | (simp [*]; done) | (simp; exact w64 (by omega) (by omega))), ⟨by have := HJ.out; omega⟩, HD2, HS2, ⟨HI2.out.1⟩, ⟨by have := HI2.out.2; have := HOL.out; omega⟩⟩)
end Go.Proofs.Ytibkbgaonjdpiaa.Ps
