/- Short words for what the printed walks say often: a proof that is looked for where it is wanted (the facts HB, HO.. are those of the place of use). -/
import Derived.Test.YthghblmffdfbaaaGreatDoorWWordsH
namespace Go.Proofs.YthghblmffdfbaaaGreatDoorW.PrintWords
open Go.RowKit
/-- Below, at the world as it stands. -/
theorem pB {q : Prop} (h_ : q := by repeat (first | (with_reducible first | exact HB.out | apply below_alloc | apply pw_below_drewN | apply below_drew1) | exact HB.out)) : q := h_
/-- A row of the call's own, at the world as it stands. -/
theorem pR {p q : Prop} (h : Aside0 p) (f_ : p → q := by intro h_; (with_reducible repeat (first | apply Kd.R_alloc | apply Kd.R_drewN | apply Kd.R_drew)); exact h_) : q := f_ h.out
theorem pA {q : Prop} (h_ : q := by first | (with_reducible assumption) | assumption) : q := h_
theorem pM {q : Prop} (h_ : q := by (try simp only [List.map_toArray, List.map_cons, List.map_nil]); first | done | rfl | (simp only [List.length_drop, List.length_take]; rfl)) : q := h_
/-- A block, at the world as it stands. -/
theorem pK {p q : Prop} (h : Aside0 p) (f_ : p → q := by intro h_; (with_reducible repeat (first | refine blk_drewN ?_ _ | refine blk_drew ?_ | refine blk_alloc ?_ _)); exact h_) : q := f_ h.out
/-- A row of the call's own, with less to keep off. -/
theorem pQ {p q : Prop} (h : Aside0 p) (f_ : p → q := by intro h_; (with_reducible repeat (first | apply Kd.R_alloc | apply Kd.R_drewN | apply Kd.R_drew)); exact Kd.R_mono h_ (fun _ hk => by first | (simpa only [and_assoc] using hk) | (simp only [hk, ne_eq, not_false_eq_true, and_self, true_and, and_true]))) : q := f_ h.out
theorem pN {q : Prop} (h_ : q := by first | (simp only [putAll, Act.put, List.setIfInBounds_toArray, List.set_cons_zero, List.set_cons_succ]; done) | (simp only [putAll, Act.put, List.setIfInBounds_toArray, List.set_cons_zero, List.set_cons_succ]; rfl)) : q := h_
end Go.Proofs.YthghblmffdfbaaaGreatDoorW.PrintWords
