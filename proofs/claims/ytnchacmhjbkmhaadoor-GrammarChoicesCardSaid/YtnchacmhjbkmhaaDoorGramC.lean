/- The closures of package grammar: what Ways and Shortest hand to suffixes. -/
import Derived.Test.YtnchacmhjbkmhaaDoorDec6C
namespace Go.Proofs.YtnchacmhjbkmhaaDoor.Un
open Go Go.RowKit Go.Proofs.YtnchacmhjbkmhaaDoor Go.Proofs.YtnchacmhjbkmhaaDoor.M Go.Proofs.YtnchacmhjbkmhaaDoor.PUnBase Go.Proofs.YtnchacmhjbkmhaaDoor.QUnBase Go.Proofs.YtnchacmhjbkmhaaDoorW.PrintWords Go.Proofs.YtnchacmhjbkmhaaDoorW.PrintLast Go.Proofs.YtnchacmhjbkmhaaDoorW.PrintMore
set_option linter.unusedVariables false
set_option linter.unusedSimpArgs false
set_option maxHeartbeats 8000000
set_option maxRecDepth 100000
structure Tab (k : IntKind) (e te : Nat) (W0 : World) (ok : Nat → Prop) (w : World) (pw : Nat) (S : List Int) : Prop where
  ex : ∃ (gb cap : Nat), w.heap[pw]? = some (.cells #[.slice (some ⟨gb, 0, none⟩) S.length cap] te (0, 0)) ∧ Kd.R (Kd.int k) e w W0.heap.size ok (.slice (some ⟨gb, 0, none⟩) S.length cap) S
  bel : Below W0.heap.size W0 w
  hg : W0.heap.size ≤ pw
  nok : ¬ ok pw
structure Fr (ok : Nat → Prop) (w w' : World) : Prop where
  fr : ∀ j, j < w.heap.size → ¬ ok j → w'.heap[j]? = w.heap[j]?
  sz : w.heap.size ≤ w'.heap.size
theorem Fr.refl (ok : Nat → Prop) (w : World) : Fr ok w w := ⟨fun _ _ _ => rfl, Nat.le_refl _⟩
theorem Fr.trans {ok : Nat → Prop} {a b c : World} (h : Fr ok a b) (k : Fr ok b c) : Fr ok a c := ⟨fun j hj hn => (k.fr j (Nat.lt_of_lt_of_le hj h.sz) hn).trans (h.fr j hj hn), Nat.le_trans h.sz k.sz⟩
theorem Fr.drew {ok : Nat → Prop} {a b : World} (h : Fr ok a b) : Fr ok a b.drew := ⟨h.fr, h.sz⟩
theorem Fr.below {ok : Nat → Prop} {a b : World} (h : Below a.heap.size a b) : Fr ok a b := ⟨fun j hj _ => h.block j hj, h.size⟩
theorem Fr.keeps {ok : Nat → Prop} {a b : World} (h : Fr ok a b) {j : Nat} {o : Obj} (hj : a.heap[j]? = some o) (hn : ¬ ok j) : b.heap[j]? = some o := (h.fr j (block_lt hj) hn).trans hj
theorem Tab.below {k : IntKind} {e te : Nat} {W0 w w' : World} {ok : Nat → Prop} {pw : Nat} {S : List Int} (h : Tab k e te W0 ok w pw S) (hb : Below w.heap.size w w') : Tab k e te W0 ok w' pw S := by
  obtain ⟨⟨gb, cap, hc, hr⟩, hbel, hg, hn⟩ := h
  exact ⟨⟨gb, cap, (hb.block _ (block_lt hc)).trans hc, Kd.R_below hr hb⟩, hbel.trans (hb.mono hbel.size), hg, hn⟩
theorem Tab.drew {k : IntKind} {e te : Nat} {W0 w : World} {ok : Nat → Prop} {pw : Nat} {S : List Int} (h : Tab k e te W0 ok w pw S) : Tab k e te W0 ok w.drew pw S := by
  obtain ⟨⟨gb, cap, hb, hr⟩, hbel, hg, hn⟩ := h
  exact ⟨⟨gb, cap, hb, Kd.R_drew hr⟩, hbel.drew, hg, hn⟩
theorem Tab.open {k : IntKind} {e te : Nat} {W0 w : World} {ok : Nat → Prop} {pw : Nat} {S : List Int} (h : Tab k e te W0 ok w pw S) : ∃ gb cap : Nat, w.cell? ⟨pw, 0, none⟩ = some (.slice (some ⟨gb, 0, none⟩) S.length cap) ∧
    (∀ i : Nat, i < S.length → w.cell? ⟨gb, i, none⟩ = some (.int k (rd S (i : Int)))) ∧ (∀ i : Nat, w.frozen? ⟨gb, i, none⟩ = false) ∧
    (∀ (i : Nat) (x : Int), Tab k e te W0 ok (w.setCell ⟨gb, i, none⟩ (.int k x)) pw (S.set i x) ∧ Fr ok w (w.setCell ⟨gb, i, none⟩ (.int k x))) := by
  obtain ⟨⟨gb, cap, hb, hr⟩, hbel, hg, hn⟩ := h
  have hok : ok gb := hr.1 gb rfl
  have hne : gb ≠ pw := fun e => hn (e ▸ hok)
  obtain ⟨inner, hown⟩ := Kd.R_own hr
  obtain ⟨cells, hc⟩ := own_typed hown gb rfl
  obtain ⟨A, c, he, hl, hC⟩ := Kd.R_reads hr
  obtain ⟨rfl, rfl⟩ : A = some ⟨gb, 0, none⟩ ∧ c = cap := by injection he with h1 h2 h3; exact ⟨h1.symm, h3.symm⟩
  refine ⟨gb, c, by simp [World.cell?, hb], fun i hi => ?_, fun i => by simp [World.frozen?, hc], fun i x => ⟨?_, ⟨fun j _ hj => Below.heap_setCell _ _ _ _ (fun e => hj (e ▸ hok)), by simp [World.setCell]⟩⟩⟩
  · obtain ⟨ad, e1, h1⟩ := Kd.at_int hC (i : Int) (by omega) (by omega)
    injection e1 with e1
    subst e1
    rw [Int.toNat_natCast] at h1
    have e2 : (Addr.add ⟨gb, 0, none⟩ i) = ⟨gb, i, none⟩ := by simp [Addr.add]; intro h; exact h.symm
    rw [e2] at h1
    exact h1
  · have hp := Kd.R_putg hr (i : Int) x
    rw [Int.toNat_natCast] at hp
    refine ⟨⟨gb, c, ?_, ?_⟩, hbel.setCell (own_base hown gb rfl) _, hg, hn⟩
    · rw [Below.heap_setCell _ _ _ _ (show pw ≠ gb from fun e => hne e.symm), List.length_set]; exact hb
    · rw [List.length_set]; exact hp.1
def wayS (S : List Int) (at_ next : Nat) (many : Int) : List Int := S.set at_ (IntKind.u64.wrap (rd S (at_ : Int) + IntKind.u64.wrap (many * rd S (next : Int))))
theorem ways1_calls {W0 w : World} {ok : Nat → Prop} {pw : Nat} {S : List Int} {at_ next : Nat} {size many : Int} (h : Tab .u64 37 23 W0 ok w pw S) (h1 : at_ < S.length) (h2 : next < S.length) :
    Calls Tryd.prog 33 #[.int .i64 (at_ : Int), .int .i64 size, .int .i64 (next : Int), .int .u64 many, .pointer (some ⟨pw, 0, none⟩)] w fun e w' => e = .returned (.tuple #[]) ∧ Tab .u64 37 23 W0 ok w' pw (wayS S at_ next many) ∧ Fr ok w w' := by
  obtain ⟨gb, cap, f0, f1, fz, hput⟩ := h.open
  have HP := Aside0.mk (hput at_ (IntKind.u64.wrap (rd S (at_ : Int) + IntKind.u64.wrap (many * rd S (next : Int)))))
  have c1 := f1 at_ h1
  have c2 := f1 next h2
  have z1 := fz at_
  have q1 : ((at_ : Int) < (S.length : Int)) = True := eq_true (by omega)
  have q2 : ((next : Int) < (S.length : Int)) = True := eq_true (by omega)
  have q1' : (at_ < S.length) = True := eq_true h1
  have q2' : (next < S.length) = True := eq_true h2
  clear f1 fz hput h h1 h2
  go_enter Tryd.func33, Tryd.ntmps33
  go_wp2
  go_region
  all_goals (try go_wp2)
  all_goals (go_end0; exact ⟨rfl, HP.out.1.drew, HP.out.2.drew⟩)
def shortS (S : List Int) (at_ next : Nat) (size : Int) : List Int := if rd S (at_ : Int) = 0 ∨ wrap64 (size + rd S (next : Int)) < rd S (at_ : Int) then S.set at_ (wrap64 (size + rd S (next : Int))) else S
theorem short1_calls {W0 w : World} {ok : Nat → Prop} {pw : Nat} {S : List Int} {at_ next : Nat} {size many : Int} (h : Tab .i64 3 58 W0 ok w pw S) (h1 : at_ < S.length) (h2 : next < S.length) :
    Calls Tryd.prog 36 #[.int .i64 (at_ : Int), .int .i64 size, .int .i64 (next : Int), .int .u64 many, .pointer (some ⟨pw, 0, none⟩)] w fun e w' => e = .returned (.tuple #[]) ∧ Tab .i64 3 58 W0 ok w' pw (shortS S at_ next size) ∧ Fr ok w w' := by
  have H := Aside0.mk h
  obtain ⟨gb, cap, f0, f1, fz, hput⟩ := h.open
  obtain ⟨v, hv⟩ : ∃ v, v = wrap64 (size + rd S (next : Int)) := ⟨_, rfl⟩
  have HP := Aside0.mk (hput at_ v)
  have c1 := f1 at_ h1
  have c2 := f1 next h2
  have z1 := fz at_
  have q1 : ((at_ : Int) < (S.length : Int)) = True := eq_true (by omega)
  have q2 : ((next : Int) < (S.length : Int)) = True := eq_true (by omega)
  have q1' : (at_ < S.length) = True := eq_true h1
  have q2' : (next < S.length) = True := eq_true h2
  have hv' := hv.symm
  unfold shortS
  rw [hv']
  clear f1 fz hput h h1 h2 hv
  by_cases a : rd S (at_ : Int) = 0
  · rw [if_pos (.inl a)]
    have a0 : (rd S (at_ : Int) == 0) = true := beq_iff_eq.mpr a
    go_enter Tryd.func36, Tryd.ntmps36
    go_wp2
    all_goals (go_end0; exact ⟨rfl, HP.out.1, HP.out.2⟩)
  · have a0 : (rd S (at_ : Int) == 0) = false := beq_eq_false_iff_ne.mpr a
    by_cases b : v < rd S (at_ : Int)
    · rw [if_pos (.inr b)]
      have b0 : decide (v < rd S (at_ : Int)) = true := decide_eq_true b
      go_enter Tryd.func36, Tryd.ntmps36
      go_wp2
      all_goals (go_end0; exact ⟨rfl, HP.out.1, HP.out.2⟩)
    · rw [if_neg (by rintro (x | x); exact a x; exact b x)]
      have b0 : decide (v < rd S (at_ : Int)) = false := decide_eq_false b
      go_enter Tryd.func36, Tryd.ntmps36
      go_wp2
      all_goals (go_end0; exact ⟨rfl, H.out, Fr.refl _ _⟩)
end Go.Proofs.YtnchacmhjbkmhaaDoor.Un
