/- Package packstream, walked by hand: Write. -/
import Derived.Test.YtibkbgaonjdpiaaPk6S
namespace Go.Proofs.Ytibkbgaonjdpiaa.Ps
open Go Go.RowKit Go.Proofs.Ytibkbgaonjdpiaa Go.Proofs.Ytibkbgaonjdpiaa.M Go.Proofs.Ytibkbgaonjdpiaa.PPaBase Go.Proofs.Ytibkbgaonjdpiaa.QPaBase Go.Proofs.YtibkbgaonjdpiaaW.PrintWords Go.Proofs.YtibkbgaonjdpiaaW.PrintLast Go.Proofs.YtibkbgaonjdpiaaW.PrintMore
set_option linter.unusedVariables false
set_option linter.unusedSimpArgs false
set_option maxHeartbeats 1000000
set_option maxRecDepth 100000
theorem R_own8 {e : Nat} {w : World} {base : Nat} {ok ok' : Nat → Prop} {v : Value} {l : List Int} (h : Kd.R (Kd.int .u8) e w base ok v l) (h' : ∀ k, v.ownBlock = some k → ok' k) : Kd.R (Kd.int .u8) e w base ok' v l := ⟨h', h.2⟩
theorem R_own64 {e : Nat} {w : World} {base : Nat} {ok ok' : Nat → Prop} {v : Value} {l : List Int} (h : Kd.R (Kd.int .u64) e w base ok v l) (h' : ∀ k, v.ownBlock = some k → ok' k) : Kd.R (Kd.int .u64) e w base ok' v l := ⟨h', h.2⟩
theorem R_base {α : Type} {d : Kd α} {e : Nat} {w : World} {base : Nat} {ok : Nat → Prop} {v : Value} {l : List α} (h : Kd.R d e w base ok v l) : ∀ k, v.ownBlock = some k → base ≤ k := fun k hk => ((Kd.R_bound h).1 k hk).2.1
theorem write_bad {w : World} {A0 A2 A1 : Option Addr} {c0 c2 c1 : Nat} {p r b : List Int} {z : Int} (hp : Kd.C (Kd.int .u8) w A0 p.length p) (hcp : p.length ≤ c0) (hr : Kd.C (Kd.int .u8) w A2 r.length r) (hcr : r.length ≤ c2) (hb : Kd.C (Kd.int .u8) w A1 b.length b) (hcb : b.length ≤ c1) (hpl : p.length ≤ 1000000) (hrl : r.length ≤ 1000000) (hbl : b.length ≤ 1000000) (hrB : IsB r) (hv : validB p z r = false) :
    Calls Try.prog 8 #[.agg #[.slice A0 p.length c0, .int .i64 z, .slice A2 r.length c2], .slice A1 b.length c1] w fun e w' => ∃ v0_ v2_ v3_ : Value, e = .returned (.tuple #[.agg #[v0_, .int .i64 z, v2_], v3_]) ∧ Kd.R (Kd.int .u8) 5 w' w.heap.size (fun k_ => some k_ ≠ (v2_ : Value).ownBlock ∧ some k_ ≠ (v3_ : Value).ownBlock) v0_ p ∧ Kd.R (Kd.int .u8) 5 w' w.heap.size (fun k_ => some k_ ≠ (v0_ : Value).ownBlock ∧ some k_ ≠ (v3_ : Value).ownBlock) v2_ r ∧ Kd.R (Kd.int .u8) 5 w' w.heap.size (fun k_ => some k_ ≠ (v0_ : Value).ownBlock ∧ some k_ ≠ (v2_ : Value).ownBlock) v3_ [] ∧ Below w.heap.size w w' := by
  obtain ⟨kv, hkv⟩ := Ev.rounds (packValid p z hrB hrl hpl)
  rw [hv] at hkv
  have HKV := Aside0.mk hkv
  have S0 : ((w.alloc (.cells #[.slice A0 p.length c0, .int .i64 z, .slice A2 r.length c2] 24)).alloc (.cells #[.slice none 0 0, .int .i64 0, .slice none 0 0] 24)).heap.size = w.heap.size + 2 := by simp
  have HB0 := Aside0.mk (show Below w.heap.size w ((w.alloc (.cells #[.slice A0 p.length c0, .int .i64 z, .slice A2 r.length c2] 24)).alloc (.cells #[.slice none 0 0, .int .i64 0, .slice none 0 0] 24)) from below_alloc (below_alloc (Below.refl _ _) _) _)
  have HK0 := Aside0.mk (show ((w.alloc (.cells #[.slice A0 p.length c0, .int .i64 z, .slice A2 r.length c2] 24)).alloc (.cells #[.slice none 0 0, .int .i64 0, .slice none 0 0] 24)).heap[w.heap.size]? = some (.cells #[.slice A0 p.length c0, .int .i64 z, .slice A2 r.length c2] 24 (0, 0)) from blk_alloc (blk_new w _) _)
  have HK1 := Aside0.mk (show ((w.alloc (.cells #[.slice A0 p.length c0, .int .i64 z, .slice A2 r.length c2] 24)).alloc (.cells #[.slice none 0 0, .int .i64 0, .slice none 0 0] 24)).heap[w.heap.size + 1]? = some (.cells #[.slice none 0 0, .int .i64 0, .slice none 0 0] 24 (0, 0)) by
    have := blk_new (w.alloc (.cells #[.slice A0 p.length c0, .int .i64 z, .slice A2 r.length c2] 24)) (.cells #[.slice none 0 0, .int .i64 0, .slice none 0 0] 24)
    rwa [show (w.alloc (.cells #[.slice A0 p.length c0, .int .i64 z, .slice A2 r.length c2] 24)).heap.size = w.heap.size + 1 by simp] at this)
  have HCP := Aside0.mk (Kd.C_below hp HB0.out)
  have HCR := Aside0.mk (Kd.C_below hr HB0.out)
  have HCB := Aside0.mk (Kd.C_below hb HB0.out)
  have HLP := Aside0.mk (And.intro hcp (Nat.le_trans hpl (by decide : (1000000 : Nat) ≤ 1000000000)))
  have HLR := Aside0.mk (And.intro hcr (Nat.le_trans hrl (by decide : (1000000 : Nat) ≤ 1000000000)))
  have HLB := Aside0.mk (And.intro hcb hbl)
  have HLL := Aside0.mk (And.intro hpl hrl)
  have HIB := Aside0.mk hrB
  obtain ⟨W1, hW1⟩ : ∃ W1, W1 = ((w.alloc (.cells #[.slice A0 p.length c0, .int .i64 z, .slice A2 r.length c2] 24)).alloc (.cells #[.slice none 0 0, .int .i64 0, .slice none 0 0] 24)) := ⟨_, rfl⟩
  have HW1 := Aside0.mk hW1
  have HS0 := Aside0.mk S0
  rw [← hW1] at HB0 HK0 HK1 HCP HCR HCB HS0
  have bx0 := (blk_cell HK0.out 0).trans rfl
  have bxz0 := blk_frozen HK0.out 0
  have bx1 := (blk_cell HK0.out 1).trans rfl
  have bxz1 := blk_frozen HK0.out 1
  have bx2 := (blk_cell HK0.out 2).trans rfl
  have bxz2 := blk_frozen HK0.out 2
  clear hW1 hkv S0 hp hcp hr hcr hb hcb hpl hrl hbl hrB
  go_enter Try.func8, Try.ntmps8
  go_wp2
  rw [← HW1.out]
  go_region_law (first
    | (refine goes_ Try.func21 (by kernel_rfl) rfl #[.slice A0 p.length c0] (by rfl) rfl rfl (by first | rfl | simp [Act.eval, Act.put]) ?_
       refine (clone_calls (w := _) (A := A0) (c := c0) (l := p) ?h1 HLP.out.1 HLP.out.2).mono ?_
       case h1 => repeat (first | exact HCP.out | (with_reducible refine Kd.C_drewN ?_ _) | (with_reducible refine Kd.C_drew ?_))
       rintro e w2 ⟨v15, rfl, hv, hbb⟩
       refine ⟨_, rfl, ?_⟩
       have HB2 := Aside0.mk (show Below W1.heap.size W1 w2 from (Below.refl W1.heap.size W1).drew.trans (hbb.mono (Nat.le_refl _)))
       have HV15 := Aside0.mk (show Kd.R (Kd.int .u8) 5 w2 W1.heap.size (fun _ => True) v15 p from hv)
       have HK02 := Aside0.mk (blk_below HK0.out HB2.out)
       have HK12 := Aside0.mk (blk_below HK1.out HB2.out)
       have by0 := (blk_cell HK02.out 1).trans rfl
       have by1 := (blk_cell HK02.out 2).trans rfl
       obtain ⟨A15, c15, e15⟩ := Kd.R_slice HV15.out
       subst e15
       clear hv hbb)
    | (refine goes_ Try.func21 (by kernel_rfl) rfl #[.slice A2 r.length c2] (by rfl) rfl rfl (by first | rfl | simp [Act.eval, Act.put]) ?_
       refine (clone_calls (w := w2) (A := A2) (c := c2) (l := r) (Kd.C_below HCR.out HB2.out) HLR.out.1 HLR.out.2).mono ?_
       rintro e w3 ⟨v20, rfl, hv, hbb⟩
       refine ⟨_, rfl, ?_⟩
       have HB3 := Aside0.mk (show Below W1.heap.size W1 w3 from HB2.out.trans (hbb.mono HB2.out.size))
       have HV20 := Aside0.mk (show Kd.R (Kd.int .u8) 5 w3 w2.heap.size (fun _ => True) v20 r from hv)
       have HV15X := HV15
       have HV15 := Aside0.mk (Kd.R_below HV15X.out hbb)
       have HB23 := Aside0.mk hbb
       have HV15L := Aside0.mk (show ∀ k, (Value.slice A15 p.length c15).ownBlock = some k → k < w2.heap.size from Kd.R_lt HV15X.out)
       have HK03 := Aside0.mk (blk_below HK02.out hbb)
       have HK13 := Aside0.mk (blk_below HK12.out hbb)
       have bv1 := (blk_cell HK03.out 1).trans rfl
       obtain ⟨A20, c20, e20⟩ := Kd.R_slice HV20.out
       subst e20
       clear hv hbb))
  all_goals (
    generalize hW4 : w3.alloc (.cells #[.slice A15 p.length c15, .int .i64 z, .slice A20 r.length c20, .slice none 0 0] 52) = W4
    have HK04 := Aside0.mk (show W4.heap[w.heap.size]? = some (.cells #[.slice A0 p.length c0, .int .i64 z, .slice A2 r.length c2] 24 (0, 0)) by rw [← hW4]; exact blk_alloc HK03.out _)
    have HK14 := Aside0.mk (show W4.heap[w.heap.size + 1]? = some (.cells #[.slice none 0 0, .int .i64 0, .slice none 0 0] 24 (0, 0)) by rw [← hW4]; exact blk_alloc HK13.out _)
    have HK24 := Aside0.mk (show W4.heap[w3.heap.size]? = some (.cells #[.slice A15 p.length c15, .int .i64 z, .slice A20 r.length c20, .slice none 0 0] 52 (0, 0)) by rw [← hW4]; exact blk_new w3 _)
    have HB34 := Aside0.mk (show Below w3.heap.size w3 W4 by rw [← hW4]; exact below_alloc (Below.refl _ _) _)
    have HB4 := Aside0.mk (HB3.out.trans (HB34.out.mono HB3.out.size))
    have HP4 := Aside0.mk (Kd.R_below HV15.out HB34.out)
    have HR4 := Aside0.mk (Kd.R_below HV20.out HB34.out)
    have HPG := Aside0.mk (show ∀ k, (Value.slice A15 p.length c15).ownBlock = some k → k < w3.heap.size from Kd.R_lt HV15.out)
    have HRG := Aside0.mk (show ∀ k, (Value.slice A20 r.length c20).ownBlock = some k → k < w3.heap.size from Kd.R_lt HV20.out)
    obtain ⟨g, hg⟩ : ∃ g, g = w3.heap.size := ⟨_, rfl⟩
    rw [← hg] at HK24 HPG HRG
    have HG := Aside0.mk (show W1.heap.size ≤ g by rw [hg]; exact HB3.out.size)
    have HG2 := Aside0.mk (show w2.heap.size ≤ g by rw [hg]; exact HB23.out.size)
    rw [← hg]
    clear hg hW4
    have cx0 := (blk_cell HK04.out 0).trans rfl
    have cxz0 := blk_frozen HK04.out 0
    have cx1 := (blk_cell HK04.out 1).trans rfl
    have cxz1 := blk_frozen HK04.out 1
    have cx2 := (blk_cell HK04.out 2).trans rfl
    have cxz2 := blk_frozen HK04.out 2
    go_wp2_with (first
      | (go_at_call 11; refine (packstream_Valid.calls kv A0 c0 p z A2 c2 r false _ ?a1 HLP.out.1 ?a2 HLR.out.1 HKV.out).mono ?_; (case a1 => exact Kd.C_below HCP.out HB4.out); (case a2 => exact Kd.C_below HCR.out HB4.out); rintro e w5 ⟨rfl, hb5⟩; have HB5 := Aside0.mk (HB4.out.trans (hb5.mono HB4.out.size)); have HK15 := Aside0.mk (blk_below HK14.out hb5); have HK25 := Aside0.mk (blk_below HK24.out hb5); have HP5 := Aside0.mk (Kd.R_below HP4.out hb5); have HR5 := Aside0.mk (Kd.R_below HR4.out hb5); have d0 := (blk_cell HK15.out 0).trans rfl; have dz0 := blk_frozen HK15.out 0; have d1 := (blk_cell HK15.out 1).trans rfl; have dz1 := blk_frozen HK15.out 1; have d2 := (blk_cell HK15.out 2).trans rfl; have dz2 := blk_frozen HK15.out 2; have e0 := (blk_cell HK25.out 0).trans rfl; have ez0 := blk_frozen HK25.out 0; have e1 := (blk_cell HK25.out 1).trans rfl; have ez1 := blk_frozen HK25.out 1; have e2 := (blk_cell HK25.out 2).trans rfl; have ez2 := blk_frozen HK25.out 2; have e3 := (blk_cell HK25.out 3).trans rfl; have ez3 := blk_frozen HK25.out 3; clear hb5))
    (try simp only [Exit.inBlock, Exit.then])
    refine bodyPost_ret (results_ct rfl _ _ (w.heap.size + 1) 24 #[.slice A15 p.length c15, .int .i64 z, .slice A20 r.length c20] (0, 0) _ rfl (by (repeat (with_reducible first | refine blk_drewN ?_ _ | refine blk_drew ?_ | apply blk_put)); (with_reducible exact HK15.out); all_goals rfl) Try.underlying24 rfl (by kernel_rfl)) rfl ?_
    refine ⟨.slice A15 p.length c15, .slice A20 r.length c20, .slice none 0 0, rfl, ?_, ?_, ?_, ?_⟩
    · refine Kd.R_lower (R_own8 (Kd.R_move (R_own8 (ok' := fun k => k ≠ w.heap.size + 1) HP5.out (fun k hk => by have := R_base HP5.out k hk; have := HS0.out; omega)) (fun k hk => (show SameB (w.heap.size + 1) w5 _ from ?_) k hk)) (fun k hk => ⟨fun e => by have := R_base HR5.out k e.symm; have := HV15L.out k hk; omega, by simp [Value.ownBlock]⟩)) HB0.out.size
      repeat (with_reducible first | exact SameB.refl _ _ | apply SameB.drewN | apply SameB.drew | apply SameB.set)
    · refine Kd.R_lower (R_own8 (Kd.R_move (R_own8 (ok' := fun k => k ≠ w.heap.size + 1) HR5.out (fun k hk => by have := R_base HR5.out k hk; have := HB2.out.size; have := HS0.out; omega)) (fun k hk => (show SameB (w.heap.size + 1) w5 _ from ?_) k hk)) (fun k hk => ⟨fun e => by have := R_base HR5.out k hk; have := HV15L.out k e.symm; omega, by simp [Value.ownBlock]⟩)) (Nat.le_trans HB0.out.size HB2.out.size)
      repeat (with_reducible first | exact SameB.refl _ _ | apply SameB.drewN | apply SameB.drew | apply SameB.set)
    · exact Kd.R_nil _ _ _ _ _
    · have HBF := Aside0.mk (HB0.out.trans (HB5.out.mono HB0.out.size))
      repeat (with_reducible first | exact HBF.out | apply below_drew1 | apply pw_below_drewN | refine below_set ?_ (by omega)))
end Go.Proofs.Ytibkbgaonjdpiaa.Ps
