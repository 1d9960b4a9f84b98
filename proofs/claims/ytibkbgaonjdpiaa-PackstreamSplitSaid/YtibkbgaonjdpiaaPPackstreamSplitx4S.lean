/- Printed functions of a law, and their walks. -/
import Derived.Test.YtibkbgaonjdpiaaXShortS
import Derived.Test.YtibkbgaonjdpiaaPPackstreamSplitx0S
import Derived.Test.YtibkbgaonjdpiaaPPackstreamSplitx2S
import Derived.Test.YtibkbgaonjdpiaaPPackstreamSplitx3S
namespace Go.Proofs.Ytibkbgaonjdpiaa.PPackstreamSplit
open Go.RowKit Go.Proofs.YtibkbgaonjdpiaaW.PrintWords Go.Proofs.YtibkbgaonjdpiaaW.PrintLast Go.Proofs.YtibkbgaonjdpiaaW.PrintMore
open Go.Proofs.Ytibkbgaonjdpiaa.PPaBase
attribute [local go_sem] max2_int min2_int max_two min_two max_three min_three max_four min_four   -- for this text's walks alone
set_option linter.unusedVariables false
set_option linter.unusedSimpArgs false
def capnplaw24_awake.f (k : Nat)  : Option (Bool) := (packstream_New.f).bind fun bt170 => (if 8 ≤ 281474976710656 then ((packstream_Write.f bt170.1 bt170.2.1 bt170.2.2 (List.replicate 8 0)).bind fun bt180 => ((packstream_Close.f k bt180.1 bt180.2.1 bt180.2.2.1).bind fun bt191 => ((packstream_New.f).bind fun bt195 => ((packstream_Write.f bt195.1 bt195.2.1 bt195.2.2 (([1, 2, 3] : List Int))).bind fun bt205 => ((packstream_Close.f k bt205.1 bt205.2.1 bt205.2.2.1).bind fun bt216 => ((packstream_Close.f k ([] : List Int) (-1) ([] : List Int)).bind fun bt220 => ((capnpref24_Same.f k bt180.1 bt180.2.1 bt180.2.2.1 ([] : List Int) 1 ([] : List Int)).bind fun t224 => (if t224 = true then (if (bt180.2.2.2.length : Int) = 0 then ((capnpref01_Same.f k bt191.1 (([0, 0] : List Int))).bind fun t228 => (if t228 = true then (if bt191.2 = 0 then ((capnpref24_Same.f k bt205.1 bt205.2.1 bt205.2.2.1 (([1, 2, 3] : List Int)) 0 ([] : List Int)).bind fun t232 => (if t232 = true then (if (bt205.2.2.2.length : Int) = 0 then (if bt216.2 = 9 then (if bt220.2 = 12 then ((packstream_Valid.f k bt180.1 bt180.2.1 bt180.2.2.1).bind fun t233 => (if t233 = true then ((packstream_Valid.f k ([] : List Int) 256 ([] : List Int)).bind fun t234 => (if t234 = true then (none) else ((packstream_New.f).bind fun bt235 => ((capnpref24_Same.f k bt235.1 bt235.2.1 bt235.2.2 ([] : List Int) 0 ([] : List Int)).bind fun t242 => (some t242))))) else (none))) else (none)) else (none)) else (none)) else (none))) else (none)) else (none))) else (none)) else (none))))))))) else (none))
theorem capnplaw24_awake.mono : ∀ k, LeO (capnplaw24_awake.f k ) (capnplaw24_awake.f (k + 1) ) := by
  intro  k
  unfold capnplaw24_awake.f
  repeat' first
      | (with_reducible exact capnpref01_Same.mono _ _ _)
      | (with_reducible exact capnpref24_Same.mono _ _ _ _ _ _ _)
      | (with_reducible exact packstream_Close.mono _ _ _ _)
      | (with_reducible exact packstream_Valid.mono _ _ _ _)
      | (with_reducible exact LeO.refl _)
      | (with_reducible exact LeO.none _)
      | (with_reducible refine LeO.ite ?_ ?_)
      | (with_reducible refine LeO.bind ?_ (fun _ => ?_))
      | exact capnpref01_Same.mono _ _ _
      | exact capnpref24_Same.mono _ _ _ _ _ _ _
      | exact packstream_Close.mono _ _ _ _
      | exact packstream_Valid.mono _ _ _ _
      | exact LeO.none _
      | refine LeO.ite ?_ ?_
      | refine LeO.bind ?_ (fun _ => ?_)
def capnplaw24_awake.T1 : Bool × List (List Nat × List Nat) := (true, [([], []), ([], []), ([0, 1, 0], [0, 1]), ([2], [2]), ([3], [3]), ([3], [3]), ([], []), ([6, 4, 2, 0, 1, 2, 3, 4, 6], [4, 6]), ([5, 7, 0, 1, 2, 3, 4, 5, 6, 7], [5])])
def capnplaw24_awake.B1 : List Nat := [0, 0, 3, 7, 15, 15, 0, 95, 255]
theorem capnplaw24_awake.tab1 : rtab .any (opsOf Try.f7 1) = capnplaw24_awake.T1 := by kernel_rfl
theorem capnplaw24_awake.bits1 : waitsOk capnplaw24_awake.T1.2 capnplaw24_awake.B1 = true := by kernel_rfl
set_option maxHeartbeats 8000000 in
set_option maxRecDepth 100000 in
theorem capnplaw24_awake.calls (k : Nat)  (r : Bool) (w : World) (h : capnplaw24_awake.f k  = some r) :
    Calls Try.prog 7 #[] w fun e w' => e = .returned (.bool r) ∧ Below w.heap.size w w' := by
  have hu24 := Try.underlying24
  have HB := Aside0.mk (Below.refl w.heap.size w)
  have H : ((packstream_New.f).bind fun bt170 => (if 8 ≤ 281474976710656 then ((packstream_Write.f bt170.1 bt170.2.1 bt170.2.2 (List.replicate 8 0)).bind fun bt180 => ((packstream_Close.f k bt180.1 bt180.2.1 bt180.2.2.1).bind fun bt191 => ((packstream_New.f).bind fun bt195 => ((packstream_Write.f bt195.1 bt195.2.1 bt195.2.2 (([1, 2, 3] : List Int))).bind fun bt205 => ((packstream_Close.f k bt205.1 bt205.2.1 bt205.2.2.1).bind fun bt216 => ((packstream_Close.f k ([] : List Int) (-1) ([] : List Int)).bind fun bt220 => ((capnpref24_Same.f k bt180.1 bt180.2.1 bt180.2.2.1 ([] : List Int) 1 ([] : List Int)).bind fun t224 => (if t224 = true then (if (bt180.2.2.2.length : Int) = 0 then ((capnpref01_Same.f k bt191.1 (([0, 0] : List Int))).bind fun t228 => (if t228 = true then (if bt191.2 = 0 then ((capnpref24_Same.f k bt205.1 bt205.2.1 bt205.2.2.1 (([1, 2, 3] : List Int)) 0 ([] : List Int)).bind fun t232 => (if t232 = true then (if (bt205.2.2.2.length : Int) = 0 then (if bt216.2 = 9 then (if bt220.2 = 12 then ((packstream_Valid.f k bt180.1 bt180.2.1 bt180.2.2.1).bind fun t233 => (if t233 = true then ((packstream_Valid.f k ([] : List Int) 256 ([] : List Int)).bind fun t234 => (if t234 = true then (none) else ((packstream_New.f).bind fun bt235 => ((capnpref24_Same.f k bt235.1 bt235.2.1 bt235.2.2 ([] : List Int) 0 ([] : List Int)).bind fun t242 => (some t242))))) else (none))) else (none)) else (none)) else (none)) else (none))) else (none)) else (none))) else (none)) else (none))))))))) else (none))) = some r := h
  clear h
  replace H := Option.bind_eq_some_iff.mp H
  obtain ⟨⟨t170, t173, t174⟩, A10, H⟩ := H
  replace H : (if 8 ≤ 281474976710656 then ((packstream_Write.f t170 t173 t174 (List.replicate 8 0)).bind fun bt180 => ((packstream_Close.f k bt180.1 bt180.2.1 bt180.2.2.1).bind fun bt191 => ((packstream_New.f).bind fun bt195 => ((packstream_Write.f bt195.1 bt195.2.1 bt195.2.2 (([1, 2, 3] : List Int))).bind fun bt205 => ((packstream_Close.f k bt205.1 bt205.2.1 bt205.2.2.1).bind fun bt216 => ((packstream_Close.f k ([] : List Int) (-1) ([] : List Int)).bind fun bt220 => ((capnpref24_Same.f k bt180.1 bt180.2.1 bt180.2.2.1 ([] : List Int) 1 ([] : List Int)).bind fun t224 => (if t224 = true then (if (bt180.2.2.2.length : Int) = 0 then ((capnpref01_Same.f k bt191.1 (([0, 0] : List Int))).bind fun t228 => (if t228 = true then (if bt191.2 = 0 then ((capnpref24_Same.f k bt205.1 bt205.2.1 bt205.2.2.1 (([1, 2, 3] : List Int)) 0 ([] : List Int)).bind fun t232 => (if t232 = true then (if (bt205.2.2.2.length : Int) = 0 then (if bt216.2 = 9 then (if bt220.2 = 12 then ((packstream_Valid.f k bt180.1 bt180.2.1 bt180.2.2.1).bind fun t233 => (if t233 = true then ((packstream_Valid.f k ([] : List Int) 256 ([] : List Int)).bind fun t234 => (if t234 = true then (none) else ((packstream_New.f).bind fun bt235 => ((capnpref24_Same.f k bt235.1 bt235.2.1 bt235.2.2 ([] : List Int) 0 ([] : List Int)).bind fun t242 => (some t242))))) else (none))) else (none)) else (none)) else (none)) else (none))) else (none)) else (none))) else (none)) else (none))))))))) else (none)) = some r := H
  have A1 := Aside0.mk A10
  clear A10
  by_cases c2 : 8 ≤ 281474976710656
  · rw [if_pos c2] at H
    have c2b0 := eq_true c2
    have c2b1 : decide (8 ≤ 281474976710656) = true := decide_eq_true c2
    clear c2
    obtain ⟨y177, hy177⟩ : ∃ y_ : List Int, y_ = (List.replicate 8 0) := ⟨_, rfl⟩
    replace H : ((packstream_Write.f t170 t173 t174 y177).bind fun bt180 => ((packstream_Close.f k bt180.1 bt180.2.1 bt180.2.2.1).bind fun bt191 => ((packstream_New.f).bind fun bt195 => ((packstream_Write.f bt195.1 bt195.2.1 bt195.2.2 (([1, 2, 3] : List Int))).bind fun bt205 => ((packstream_Close.f k bt205.1 bt205.2.1 bt205.2.2.1).bind fun bt216 => ((packstream_Close.f k ([] : List Int) (-1) ([] : List Int)).bind fun bt220 => ((capnpref24_Same.f k bt180.1 bt180.2.1 bt180.2.2.1 ([] : List Int) 1 ([] : List Int)).bind fun t224 => (if t224 = true then (if (bt180.2.2.2.length : Int) = 0 then ((capnpref01_Same.f k bt191.1 (([0, 0] : List Int))).bind fun t228 => (if t228 = true then (if bt191.2 = 0 then ((capnpref24_Same.f k bt205.1 bt205.2.1 bt205.2.2.1 (([1, 2, 3] : List Int)) 0 ([] : List Int)).bind fun t232 => (if t232 = true then (if (bt205.2.2.2.length : Int) = 0 then (if bt216.2 = 9 then (if bt220.2 = 12 then ((packstream_Valid.f k bt180.1 bt180.2.1 bt180.2.2.1).bind fun t233 => (if t233 = true then ((packstream_Valid.f k ([] : List Int) 256 ([] : List Int)).bind fun t234 => (if t234 = true then (none) else ((packstream_New.f).bind fun bt235 => ((capnpref24_Same.f k bt235.1 bt235.2.1 bt235.2.2 ([] : List Int) 0 ([] : List Int)).bind fun t242 => (some t242))))) else (none))) else (none)) else (none)) else (none)) else (none))) else (none)) else (none))) else (none)) else (none))))))))) = some r := by first | (rw [hy177]; with_reducible exact H) | (have H2_ := (Option.bind_some _ _).symm.trans H; rw [hy177]; with_reducible exact H2_) | (have H2_ := (Option.bind_some _ _).symm.trans H; with_reducible exact H2_) | with_reducible exact H | (rw [hy177]; exact H) | exact H
    have Ny177 := Aside0.mk hy177
    clear hy177
    replace H := Option.bind_eq_some_iff.mp H
    obtain ⟨⟨t180, t183, t184, t187⟩, A30, H⟩ := H
    replace H : ((packstream_Close.f k t180 t183 t184).bind fun bt191 => ((packstream_New.f).bind fun bt195 => ((packstream_Write.f bt195.1 bt195.2.1 bt195.2.2 (([1, 2, 3] : List Int))).bind fun bt205 => ((packstream_Close.f k bt205.1 bt205.2.1 bt205.2.2.1).bind fun bt216 => ((packstream_Close.f k ([] : List Int) (-1) ([] : List Int)).bind fun bt220 => ((capnpref24_Same.f k t180 t183 t184 ([] : List Int) 1 ([] : List Int)).bind fun t224 => (if t224 = true then (if (t187.length : Int) = 0 then ((capnpref01_Same.f k bt191.1 (([0, 0] : List Int))).bind fun t228 => (if t228 = true then (if bt191.2 = 0 then ((capnpref24_Same.f k bt205.1 bt205.2.1 bt205.2.2.1 (([1, 2, 3] : List Int)) 0 ([] : List Int)).bind fun t232 => (if t232 = true then (if (bt205.2.2.2.length : Int) = 0 then (if bt216.2 = 9 then (if bt220.2 = 12 then ((packstream_Valid.f k t180 t183 t184).bind fun t233 => (if t233 = true then ((packstream_Valid.f k ([] : List Int) 256 ([] : List Int)).bind fun t234 => (if t234 = true then (none) else ((packstream_New.f).bind fun bt235 => ((capnpref24_Same.f k bt235.1 bt235.2.1 bt235.2.2 ([] : List Int) 0 ([] : List Int)).bind fun t242 => (some t242))))) else (none))) else (none)) else (none)) else (none)) else (none))) else (none)) else (none))) else (none)) else (none)))))))) = some r := H
    have A3 := Aside0.mk A30
    clear A30
    replace H := Option.bind_eq_some_iff.mp H
    obtain ⟨⟨t191, t194⟩, A40, H⟩ := H
    replace H : ((packstream_New.f).bind fun bt195 => ((packstream_Write.f bt195.1 bt195.2.1 bt195.2.2 (([1, 2, 3] : List Int))).bind fun bt205 => ((packstream_Close.f k bt205.1 bt205.2.1 bt205.2.2.1).bind fun bt216 => ((packstream_Close.f k ([] : List Int) (-1) ([] : List Int)).bind fun bt220 => ((capnpref24_Same.f k t180 t183 t184 ([] : List Int) 1 ([] : List Int)).bind fun t224 => (if t224 = true then (if (t187.length : Int) = 0 then ((capnpref01_Same.f k t191 (([0, 0] : List Int))).bind fun t228 => (if t228 = true then (if t194 = 0 then ((capnpref24_Same.f k bt205.1 bt205.2.1 bt205.2.2.1 (([1, 2, 3] : List Int)) 0 ([] : List Int)).bind fun t232 => (if t232 = true then (if (bt205.2.2.2.length : Int) = 0 then (if bt216.2 = 9 then (if bt220.2 = 12 then ((packstream_Valid.f k t180 t183 t184).bind fun t233 => (if t233 = true then ((packstream_Valid.f k ([] : List Int) 256 ([] : List Int)).bind fun t234 => (if t234 = true then (none) else ((packstream_New.f).bind fun bt235 => ((capnpref24_Same.f k bt235.1 bt235.2.1 bt235.2.2 ([] : List Int) 0 ([] : List Int)).bind fun t242 => (some t242))))) else (none))) else (none)) else (none)) else (none)) else (none))) else (none)) else (none))) else (none)) else (none))))))) = some r := H
    have A4 := Aside0.mk A40
    clear A40
    replace H := Option.bind_eq_some_iff.mp H
    obtain ⟨⟨t195, t198, t199⟩, A50, H⟩ := H
    replace H : ((packstream_Write.f t195 t198 t199 (([1, 2, 3] : List Int))).bind fun bt205 => ((packstream_Close.f k bt205.1 bt205.2.1 bt205.2.2.1).bind fun bt216 => ((packstream_Close.f k ([] : List Int) (-1) ([] : List Int)).bind fun bt220 => ((capnpref24_Same.f k t180 t183 t184 ([] : List Int) 1 ([] : List Int)).bind fun t224 => (if t224 = true then (if (t187.length : Int) = 0 then ((capnpref01_Same.f k t191 (([0, 0] : List Int))).bind fun t228 => (if t228 = true then (if t194 = 0 then ((capnpref24_Same.f k bt205.1 bt205.2.1 bt205.2.2.1 (([1, 2, 3] : List Int)) 0 ([] : List Int)).bind fun t232 => (if t232 = true then (if (bt205.2.2.2.length : Int) = 0 then (if bt216.2 = 9 then (if bt220.2 = 12 then ((packstream_Valid.f k t180 t183 t184).bind fun t233 => (if t233 = true then ((packstream_Valid.f k ([] : List Int) 256 ([] : List Int)).bind fun t234 => (if t234 = true then (none) else ((packstream_New.f).bind fun bt235 => ((capnpref24_Same.f k bt235.1 bt235.2.1 bt235.2.2 ([] : List Int) 0 ([] : List Int)).bind fun t242 => (some t242))))) else (none))) else (none)) else (none)) else (none)) else (none))) else (none)) else (none))) else (none)) else (none)))))) = some r := H
    have A5 := Aside0.mk A50
    clear A50
    obtain ⟨y202, hy202⟩ : ∃ y_ : List Int, y_ = (([1, 2, 3] : List Int)) := ⟨_, rfl⟩
    replace H : ((packstream_Write.f t195 t198 t199 y202).bind fun bt205 => ((packstream_Close.f k bt205.1 bt205.2.1 bt205.2.2.1).bind fun bt216 => ((packstream_Close.f k ([] : List Int) (-1) ([] : List Int)).bind fun bt220 => ((capnpref24_Same.f k t180 t183 t184 ([] : List Int) 1 ([] : List Int)).bind fun t224 => (if t224 = true then (if (t187.length : Int) = 0 then ((capnpref01_Same.f k t191 (([0, 0] : List Int))).bind fun t228 => (if t228 = true then (if t194 = 0 then ((capnpref24_Same.f k bt205.1 bt205.2.1 bt205.2.2.1 (([1, 2, 3] : List Int)) 0 ([] : List Int)).bind fun t232 => (if t232 = true then (if (bt205.2.2.2.length : Int) = 0 then (if bt216.2 = 9 then (if bt220.2 = 12 then ((packstream_Valid.f k t180 t183 t184).bind fun t233 => (if t233 = true then ((packstream_Valid.f k ([] : List Int) 256 ([] : List Int)).bind fun t234 => (if t234 = true then (none) else ((packstream_New.f).bind fun bt235 => ((capnpref24_Same.f k bt235.1 bt235.2.1 bt235.2.2 ([] : List Int) 0 ([] : List Int)).bind fun t242 => (some t242))))) else (none))) else (none)) else (none)) else (none)) else (none))) else (none)) else (none))) else (none)) else (none)))))) = some r := by first | (rw [hy202]; with_reducible exact H) | (have H2_ := (Option.bind_some _ _).symm.trans H; rw [hy202]; with_reducible exact H2_) | (have H2_ := (Option.bind_some _ _).symm.trans H; with_reducible exact H2_) | with_reducible exact H | (rw [hy202]; exact H) | exact H
    have Ny202 := Aside0.mk hy202
    clear hy202
    replace H := Option.bind_eq_some_iff.mp H
    obtain ⟨⟨t205, t208, t209, t212⟩, A60, H⟩ := H
    replace H : ((packstream_Close.f k t205 t208 t209).bind fun bt216 => ((packstream_Close.f k ([] : List Int) (-1) ([] : List Int)).bind fun bt220 => ((capnpref24_Same.f k t180 t183 t184 ([] : List Int) 1 ([] : List Int)).bind fun t224 => (if t224 = true then (if (t187.length : Int) = 0 then ((capnpref01_Same.f k t191 (([0, 0] : List Int))).bind fun t228 => (if t228 = true then (if t194 = 0 then ((capnpref24_Same.f k t205 t208 t209 (([1, 2, 3] : List Int)) 0 ([] : List Int)).bind fun t232 => (if t232 = true then (if (t212.length : Int) = 0 then (if bt216.2 = 9 then (if bt220.2 = 12 then ((packstream_Valid.f k t180 t183 t184).bind fun t233 => (if t233 = true then ((packstream_Valid.f k ([] : List Int) 256 ([] : List Int)).bind fun t234 => (if t234 = true then (none) else ((packstream_New.f).bind fun bt235 => ((capnpref24_Same.f k bt235.1 bt235.2.1 bt235.2.2 ([] : List Int) 0 ([] : List Int)).bind fun t242 => (some t242))))) else (none))) else (none)) else (none)) else (none)) else (none))) else (none)) else (none))) else (none)) else (none))))) = some r := H
    have A6 := Aside0.mk A60
    clear A60
    replace H := Option.bind_eq_some_iff.mp H
    obtain ⟨⟨t216, t219⟩, A70, H⟩ := H
    replace H : ((packstream_Close.f k ([] : List Int) (-1) ([] : List Int)).bind fun bt220 => ((capnpref24_Same.f k t180 t183 t184 ([] : List Int) 1 ([] : List Int)).bind fun t224 => (if t224 = true then (if (t187.length : Int) = 0 then ((capnpref01_Same.f k t191 (([0, 0] : List Int))).bind fun t228 => (if t228 = true then (if t194 = 0 then ((capnpref24_Same.f k t205 t208 t209 (([1, 2, 3] : List Int)) 0 ([] : List Int)).bind fun t232 => (if t232 = true then (if (t212.length : Int) = 0 then (if t219 = 9 then (if bt220.2 = 12 then ((packstream_Valid.f k t180 t183 t184).bind fun t233 => (if t233 = true then ((packstream_Valid.f k ([] : List Int) 256 ([] : List Int)).bind fun t234 => (if t234 = true then (none) else ((packstream_New.f).bind fun bt235 => ((capnpref24_Same.f k bt235.1 bt235.2.1 bt235.2.2 ([] : List Int) 0 ([] : List Int)).bind fun t242 => (some t242))))) else (none))) else (none)) else (none)) else (none)) else (none))) else (none)) else (none))) else (none)) else (none)))) = some r := H
    have A7 := Aside0.mk A70
    clear A70
    replace H := Option.bind_eq_some_iff.mp H
    obtain ⟨⟨t220, t223⟩, A80, H⟩ := H
    replace H : ((capnpref24_Same.f k t180 t183 t184 ([] : List Int) 1 ([] : List Int)).bind fun t224 => (if t224 = true then (if (t187.length : Int) = 0 then ((capnpref01_Same.f k t191 (([0, 0] : List Int))).bind fun t228 => (if t228 = true then (if t194 = 0 then ((capnpref24_Same.f k t205 t208 t209 (([1, 2, 3] : List Int)) 0 ([] : List Int)).bind fun t232 => (if t232 = true then (if (t212.length : Int) = 0 then (if t219 = 9 then (if t223 = 12 then ((packstream_Valid.f k t180 t183 t184).bind fun t233 => (if t233 = true then ((packstream_Valid.f k ([] : List Int) 256 ([] : List Int)).bind fun t234 => (if t234 = true then (none) else ((packstream_New.f).bind fun bt235 => ((capnpref24_Same.f k bt235.1 bt235.2.1 bt235.2.2 ([] : List Int) 0 ([] : List Int)).bind fun t242 => (some t242))))) else (none))) else (none)) else (none)) else (none)) else (none))) else (none)) else (none))) else (none)) else (none))) = some r := H
    have A8 := Aside0.mk A80
    clear A80
    replace H := Option.bind_eq_some_iff.mp H
    obtain ⟨t224, A90, H⟩ := H
    replace H : (if t224 = true then (if (t187.length : Int) = 0 then ((capnpref01_Same.f k t191 (([0, 0] : List Int))).bind fun t228 => (if t228 = true then (if t194 = 0 then ((capnpref24_Same.f k t205 t208 t209 (([1, 2, 3] : List Int)) 0 ([] : List Int)).bind fun t232 => (if t232 = true then (if (t212.length : Int) = 0 then (if t219 = 9 then (if t223 = 12 then ((packstream_Valid.f k t180 t183 t184).bind fun t233 => (if t233 = true then ((packstream_Valid.f k ([] : List Int) 256 ([] : List Int)).bind fun t234 => (if t234 = true then (none) else ((packstream_New.f).bind fun bt235 => ((capnpref24_Same.f k bt235.1 bt235.2.1 bt235.2.2 ([] : List Int) 0 ([] : List Int)).bind fun t242 => (some t242))))) else (none))) else (none)) else (none)) else (none)) else (none))) else (none)) else (none))) else (none)) else (none)) = some r := H
    have A9 := Aside0.mk A90
    clear A90
    by_cases c10 : t224 = true
    · subst c10
      have H1 : (if (t187.length : Int) = 0 then ((capnpref01_Same.f k t191 (([0, 0] : List Int))).bind fun t228 => (if t228 = true then (if t194 = 0 then ((capnpref24_Same.f k t205 t208 t209 (([1, 2, 3] : List Int)) 0 ([] : List Int)).bind fun t232 => (if t232 = true then (if (t212.length : Int) = 0 then (if t219 = 9 then (if t223 = 12 then ((packstream_Valid.f k t180 t183 t184).bind fun t233 => (if t233 = true then ((packstream_Valid.f k ([] : List Int) 256 ([] : List Int)).bind fun t234 => (if t234 = true then (none) else ((packstream_New.f).bind fun bt235 => ((capnpref24_Same.f k bt235.1 bt235.2.1 bt235.2.2 ([] : List Int) 0 ([] : List Int)).bind fun t242 => (some t242))))) else (none))) else (none)) else (none)) else (none)) else (none))) else (none)) else (none))) else (none)) = some r := by rw [if_pos rfl] at H; exact H
      clear H
      have H := H1
      clear H1
      by_cases c11 : (t187.length : Int) = 0
      · rw [if_pos c11] at H
        have c11b0 : ((t187.length : Int) == 0) = true := beq_iff_eq.mpr c11
        have c11b1 : ((t187.length : Int) != 0) = false := bne_eq_false_iff_eq.mpr c11
        clear c11
        obtain ⟨y225, hy225⟩ : ∃ y_ : List Int, y_ = (([0, 0] : List Int)) := ⟨_, rfl⟩
        replace H : ((capnpref01_Same.f k t191 y225).bind fun t228 => (if t228 = true then (if t194 = 0 then ((capnpref24_Same.f k t205 t208 t209 (([1, 2, 3] : List Int)) 0 ([] : List Int)).bind fun t232 => (if t232 = true then (if (t212.length : Int) = 0 then (if t219 = 9 then (if t223 = 12 then ((packstream_Valid.f k t180 t183 t184).bind fun t233 => (if t233 = true then ((packstream_Valid.f k ([] : List Int) 256 ([] : List Int)).bind fun t234 => (if t234 = true then (none) else ((packstream_New.f).bind fun bt235 => ((capnpref24_Same.f k bt235.1 bt235.2.1 bt235.2.2 ([] : List Int) 0 ([] : List Int)).bind fun t242 => (some t242))))) else (none))) else (none)) else (none)) else (none)) else (none))) else (none)) else (none))) = some r := by first | (rw [hy225]; with_reducible exact H) | (have H2_ := (Option.bind_some _ _).symm.trans H; rw [hy225]; with_reducible exact H2_) | (have H2_ := (Option.bind_some _ _).symm.trans H; with_reducible exact H2_) | with_reducible exact H | (rw [hy225]; exact H) | exact H
        have Ny225 := Aside0.mk hy225
        clear hy225
        replace H := Option.bind_eq_some_iff.mp H
        obtain ⟨t228, A120, H⟩ := H
        replace H : (if t228 = true then (if t194 = 0 then ((capnpref24_Same.f k t205 t208 t209 (([1, 2, 3] : List Int)) 0 ([] : List Int)).bind fun t232 => (if t232 = true then (if (t212.length : Int) = 0 then (if t219 = 9 then (if t223 = 12 then ((packstream_Valid.f k t180 t183 t184).bind fun t233 => (if t233 = true then ((packstream_Valid.f k ([] : List Int) 256 ([] : List Int)).bind fun t234 => (if t234 = true then (none) else ((packstream_New.f).bind fun bt235 => ((capnpref24_Same.f k bt235.1 bt235.2.1 bt235.2.2 ([] : List Int) 0 ([] : List Int)).bind fun t242 => (some t242))))) else (none))) else (none)) else (none)) else (none)) else (none))) else (none)) else (none)) = some r := H
        have A12 := Aside0.mk A120
        clear A120
        by_cases c13 : t228 = true
        · subst c13
          have H1 : (if t194 = 0 then ((capnpref24_Same.f k t205 t208 t209 (([1, 2, 3] : List Int)) 0 ([] : List Int)).bind fun t232 => (if t232 = true then (if (t212.length : Int) = 0 then (if t219 = 9 then (if t223 = 12 then ((packstream_Valid.f k t180 t183 t184).bind fun t233 => (if t233 = true then ((packstream_Valid.f k ([] : List Int) 256 ([] : List Int)).bind fun t234 => (if t234 = true then (none) else ((packstream_New.f).bind fun bt235 => ((capnpref24_Same.f k bt235.1 bt235.2.1 bt235.2.2 ([] : List Int) 0 ([] : List Int)).bind fun t242 => (some t242))))) else (none))) else (none)) else (none)) else (none)) else (none))) else (none)) = some r := by rw [if_pos rfl] at H; exact H
          clear H
          have H := H1
          clear H1
          by_cases c14 : t194 = 0
          · rw [if_pos c14] at H
            have c14b0 : (t194 == 0) = true := beq_iff_eq.mpr c14
            have c14b1 : (t194 != 0) = false := bne_eq_false_iff_eq.mpr c14
            clear c14
            obtain ⟨y229, hy229⟩ : ∃ y_ : List Int, y_ = (([1, 2, 3] : List Int)) := ⟨_, rfl⟩
            replace H : ((capnpref24_Same.f k t205 t208 t209 y229 0 ([] : List Int)).bind fun t232 => (if t232 = true then (if (t212.length : Int) = 0 then (if t219 = 9 then (if t223 = 12 then ((packstream_Valid.f k t180 t183 t184).bind fun t233 => (if t233 = true then ((packstream_Valid.f k ([] : List Int) 256 ([] : List Int)).bind fun t234 => (if t234 = true then (none) else ((packstream_New.f).bind fun bt235 => ((capnpref24_Same.f k bt235.1 bt235.2.1 bt235.2.2 ([] : List Int) 0 ([] : List Int)).bind fun t242 => (some t242))))) else (none))) else (none)) else (none)) else (none)) else (none))) = some r := by first | (rw [hy229]; with_reducible exact H) | (have H2_ := (Option.bind_some _ _).symm.trans H; rw [hy229]; with_reducible exact H2_) | (have H2_ := (Option.bind_some _ _).symm.trans H; with_reducible exact H2_) | with_reducible exact H | (rw [hy229]; exact H) | exact H
            have Ny229 := Aside0.mk hy229
            clear hy229
            replace H := Option.bind_eq_some_iff.mp H
            obtain ⟨t232, A150, H⟩ := H
            replace H : (if t232 = true then (if (t212.length : Int) = 0 then (if t219 = 9 then (if t223 = 12 then ((packstream_Valid.f k t180 t183 t184).bind fun t233 => (if t233 = true then ((packstream_Valid.f k ([] : List Int) 256 ([] : List Int)).bind fun t234 => (if t234 = true then (none) else ((packstream_New.f).bind fun bt235 => ((capnpref24_Same.f k bt235.1 bt235.2.1 bt235.2.2 ([] : List Int) 0 ([] : List Int)).bind fun t242 => (some t242))))) else (none))) else (none)) else (none)) else (none)) else (none)) = some r := H
            have A15 := Aside0.mk A150
            clear A150
            by_cases c16 : t232 = true
            · subst c16
              have H1 : (if (t212.length : Int) = 0 then (if t219 = 9 then (if t223 = 12 then ((packstream_Valid.f k t180 t183 t184).bind fun t233 => (if t233 = true then ((packstream_Valid.f k ([] : List Int) 256 ([] : List Int)).bind fun t234 => (if t234 = true then (none) else ((packstream_New.f).bind fun bt235 => ((capnpref24_Same.f k bt235.1 bt235.2.1 bt235.2.2 ([] : List Int) 0 ([] : List Int)).bind fun t242 => (some t242))))) else (none))) else (none)) else (none)) else (none)) = some r := by rw [if_pos rfl] at H; exact H
              clear H
              have H := H1
              clear H1
              by_cases c17 : (t212.length : Int) = 0
              · rw [if_pos c17] at H
                have c17b0 : ((t212.length : Int) == 0) = true := beq_iff_eq.mpr c17
                have c17b1 : ((t212.length : Int) != 0) = false := bne_eq_false_iff_eq.mpr c17
                clear c17
                by_cases c18 : t219 = 9
                · rw [if_pos c18] at H
                  have c18b0 : (t219 == 9) = true := beq_iff_eq.mpr c18
                  have c18b1 : (t219 != 9) = false := bne_eq_false_iff_eq.mpr c18
                  clear c18
                  by_cases c19 : t223 = 12
                  · rw [if_pos c19] at H
                    have c19b0 : (t223 == 12) = true := beq_iff_eq.mpr c19
                    have c19b1 : (t223 != 12) = false := bne_eq_false_iff_eq.mpr c19
                    clear c19
                    replace H := Option.bind_eq_some_iff.mp H
                    obtain ⟨t233, A200, H⟩ := H
                    replace H : (if t233 = true then ((packstream_Valid.f k ([] : List Int) 256 ([] : List Int)).bind fun t234 => (if t234 = true then (none) else ((packstream_New.f).bind fun bt235 => ((capnpref24_Same.f k bt235.1 bt235.2.1 bt235.2.2 ([] : List Int) 0 ([] : List Int)).bind fun t242 => (some t242))))) else (none)) = some r := H
                    have A20 := Aside0.mk A200
                    clear A200
                    by_cases c21 : t233 = true
                    · subst c21
                      have H1 : ((packstream_Valid.f k ([] : List Int) 256 ([] : List Int)).bind fun t234 => (if t234 = true then (none) else ((packstream_New.f).bind fun bt235 => ((capnpref24_Same.f k bt235.1 bt235.2.1 bt235.2.2 ([] : List Int) 0 ([] : List Int)).bind fun t242 => (some t242))))) = some r := by rw [if_pos rfl] at H; exact H
                      clear H
                      have H := H1
                      clear H1
                      replace H := Option.bind_eq_some_iff.mp H
                      obtain ⟨t234, A220, H⟩ := H
                      replace H : (if t234 = true then (none) else ((packstream_New.f).bind fun bt235 => ((capnpref24_Same.f k bt235.1 bt235.2.1 bt235.2.2 ([] : List Int) 0 ([] : List Int)).bind fun t242 => (some t242)))) = some r := H
                      have A22 := Aside0.mk A220
                      clear A220
                      by_cases c23 : t234 = true
                      · subst c23
                        have H1 : (none) = some r := by rw [if_pos rfl] at H; exact H
                        clear H
                        have H := H1
                        clear H1
                        exact absurd H (by simp)
                      · replace c23 := Bool.eq_false_iff.mpr c23
                        subst c23
                        have H1 : ((packstream_New.f).bind fun bt235 => ((capnpref24_Same.f k bt235.1 bt235.2.1 bt235.2.2 ([] : List Int) 0 ([] : List Int)).bind fun t242 => (some t242))) = some r := by rw [if_neg (show ¬ (false = true) by decide)] at H; exact H
                        clear H
                        have H := H1
                        clear H1
                        replace H := Option.bind_eq_some_iff.mp H
                        obtain ⟨⟨t235, t238, t239⟩, A240, H⟩ := H
                        replace H : ((capnpref24_Same.f k t235 t238 t239 ([] : List Int) 0 ([] : List Int)).bind fun t242 => (some t242)) = some r := H
                        have A24 := Aside0.mk A240
                        clear A240
                        replace H := Option.bind_eq_some_iff.mp H
                        obtain ⟨t242, A250, H⟩ := H
                        replace H : (some t242) = some r := H
                        have A25 := Aside0.mk A250
                        clear A250
                        obtain rfl := Option.some.inj H
                        go_enter Try.func7, Try.ntmps7
                        try simp only [List.append_eq, List.cons_append, List.nil_append]
                        try go_wp2
                        have n0_ := Aside0.mk (below_drew1 HB.out)
                        clear HB
                        have HB := n0_
                        clear n0_
                        refine start_ (n := 9) (S := fun w' => True) (ds := []) #[false, false, false, false, false, false, false, false, false] (by kernel_rfl) rfl rfl trivial (fun hHeld => ?_); refine with_tabW capnplaw24_awake.tab1 capnplaw24_awake.bits1 (fun HT_ HW_ => ?_)
                        generalize w.drew = w26 at HB hHeld ⊢
                        refine join_ (σ := Value × Value × Value × Value × Value × Value × Nat) 2 #[true, true, true, true, true, true, true, false, false] (fun s_ => [(12, .agg #[s_.1, .int .i64 t173, s_.2.1]), (13, s_.2.2.1), (14, .tuple #[.agg #[s_.2.2.2.1, .int .i64 t183, s_.2.2.2.2.1], s_.2.2.2.2.2.1]), (1, .pointer (some ⟨s_.2.2.2.2.2.2, 0, none⟩)), (11, .tuple #[.agg #[s_.2.2.2.1, .int .i64 t183, s_.2.2.2.2.1], s_.2.2.2.2.2.1]), (15, .agg #[s_.2.2.2.1, .int .i64 t183, s_.2.2.2.2.1]), (16, s_.2.2.2.2.2.1)]) (fun s_ w' => (Kd.R (Kd.int .u8) 5 w' w.heap.size (fun k_ => some k_ ≠ (s_.2.1 : Value).ownBlock ∧ some k_ ≠ (s_.2.2.1 : Value).ownBlock ∧ some k_ ≠ (s_.2.2.2.1 : Value).ownBlock ∧ some k_ ≠ (s_.2.2.2.2.1 : Value).ownBlock ∧ some k_ ≠ (s_.2.2.2.2.2.1 : Value).ownBlock) s_.1 t170) ∧ (Kd.R (Kd.int .u8) 5 w' w.heap.size (fun k_ => some k_ ≠ (s_.1 : Value).ownBlock ∧ some k_ ≠ (s_.2.2.1 : Value).ownBlock ∧ some k_ ≠ (s_.2.2.2.1 : Value).ownBlock ∧ some k_ ≠ (s_.2.2.2.2.1 : Value).ownBlock ∧ some k_ ≠ (s_.2.2.2.2.2.1 : Value).ownBlock) s_.2.1 t174) ∧ (Kd.R (Kd.int .u8) 5 w' w.heap.size (fun k_ => some k_ ≠ (s_.1 : Value).ownBlock ∧ some k_ ≠ (s_.2.1 : Value).ownBlock ∧ some k_ ≠ (s_.2.2.2.1 : Value).ownBlock ∧ some k_ ≠ (s_.2.2.2.2.1 : Value).ownBlock ∧ some k_ ≠ (s_.2.2.2.2.2.1 : Value).ownBlock) s_.2.2.1 y177) ∧ (Kd.R (Kd.int .u8) 5 w' w.heap.size (fun k_ => some k_ ≠ (s_.1 : Value).ownBlock ∧ some k_ ≠ (s_.2.1 : Value).ownBlock ∧ some k_ ≠ (s_.2.2.1 : Value).ownBlock ∧ some k_ ≠ (s_.2.2.2.2.1 : Value).ownBlock ∧ some k_ ≠ (s_.2.2.2.2.2.1 : Value).ownBlock) s_.2.2.2.1 t180) ∧ (Kd.R (Kd.int .u8) 5 w' w.heap.size (fun k_ => some k_ ≠ (s_.1 : Value).ownBlock ∧ some k_ ≠ (s_.2.1 : Value).ownBlock ∧ some k_ ≠ (s_.2.2.1 : Value).ownBlock ∧ some k_ ≠ (s_.2.2.2.1 : Value).ownBlock ∧ some k_ ≠ (s_.2.2.2.2.2.1 : Value).ownBlock) s_.2.2.2.2.1 t184) ∧ (Kd.R (Kd.int .u8) 5 w' w.heap.size (fun k_ => some k_ ≠ (s_.1 : Value).ownBlock ∧ some k_ ≠ (s_.2.1 : Value).ownBlock ∧ some k_ ≠ (s_.2.2.1 : Value).ownBlock ∧ some k_ ≠ (s_.2.2.2.1 : Value).ownBlock ∧ some k_ ≠ (s_.2.2.2.2.1 : Value).ownBlock) s_.2.2.2.2.2.1 t187) ∧ (w'.heap[s_.2.2.2.2.2.2]? = some (.cells #[.slice none 0 0, .int .i64 0, .slice none 0 0] 24 (0, 0))) ∧ (w.heap.size ≤ s_.2.2.2.2.2.2) ∧ (w.heap.size ≤ s_.2.2.2.2.2.2) ∧ (Below w.heap.size w w')) ?_ ?_
                        rotate_left
                        · intro hJ0_1_2_6
                          refine join_ (σ := Value × Value × Value × Value × Value × Value) 3 #[true, true, true, true, true, true, false, false, false] (fun s_ => [(12, .agg #[s_.1, .int .i64 t173, s_.2.1]), (13, s_.2.2.1), (14, .tuple #[.agg #[s_.2.2.2.1, .int .i64 t183, s_.2.2.2.2.1], s_.2.2.2.2.2]), (11, .tuple #[.agg #[s_.2.2.2.1, .int .i64 t183, s_.2.2.2.2.1], s_.2.2.2.2.2]), (15, .agg #[s_.2.2.2.1, .int .i64 t183, s_.2.2.2.2.1]), (16, s_.2.2.2.2.2)]) (fun s_ w' => (Kd.R (Kd.int .u8) 5 w' w.heap.size (fun k_ => some k_ ≠ (s_.2.1 : Value).ownBlock ∧ some k_ ≠ (s_.2.2.1 : Value).ownBlock ∧ some k_ ≠ (s_.2.2.2.1 : Value).ownBlock ∧ some k_ ≠ (s_.2.2.2.2.1 : Value).ownBlock ∧ some k_ ≠ (s_.2.2.2.2.2 : Value).ownBlock) s_.1 t170) ∧ (Kd.R (Kd.int .u8) 5 w' w.heap.size (fun k_ => some k_ ≠ (s_.1 : Value).ownBlock ∧ some k_ ≠ (s_.2.2.1 : Value).ownBlock ∧ some k_ ≠ (s_.2.2.2.1 : Value).ownBlock ∧ some k_ ≠ (s_.2.2.2.2.1 : Value).ownBlock ∧ some k_ ≠ (s_.2.2.2.2.2 : Value).ownBlock) s_.2.1 t174) ∧ (Kd.R (Kd.int .u8) 5 w' w.heap.size (fun k_ => some k_ ≠ (s_.1 : Value).ownBlock ∧ some k_ ≠ (s_.2.1 : Value).ownBlock ∧ some k_ ≠ (s_.2.2.2.1 : Value).ownBlock ∧ some k_ ≠ (s_.2.2.2.2.1 : Value).ownBlock ∧ some k_ ≠ (s_.2.2.2.2.2 : Value).ownBlock) s_.2.2.1 y177) ∧ (Kd.R (Kd.int .u8) 5 w' w.heap.size (fun k_ => some k_ ≠ (s_.1 : Value).ownBlock ∧ some k_ ≠ (s_.2.1 : Value).ownBlock ∧ some k_ ≠ (s_.2.2.1 : Value).ownBlock ∧ some k_ ≠ (s_.2.2.2.2.1 : Value).ownBlock ∧ some k_ ≠ (s_.2.2.2.2.2 : Value).ownBlock) s_.2.2.2.1 t180) ∧ (Kd.R (Kd.int .u8) 5 w' w.heap.size (fun k_ => some k_ ≠ (s_.1 : Value).ownBlock ∧ some k_ ≠ (s_.2.1 : Value).ownBlock ∧ some k_ ≠ (s_.2.2.1 : Value).ownBlock ∧ some k_ ≠ (s_.2.2.2.1 : Value).ownBlock ∧ some k_ ≠ (s_.2.2.2.2.2 : Value).ownBlock) s_.2.2.2.2.1 t184) ∧ (Kd.R (Kd.int .u8) 5 w' w.heap.size (fun k_ => some k_ ≠ (s_.1 : Value).ownBlock ∧ some k_ ≠ (s_.2.1 : Value).ownBlock ∧ some k_ ≠ (s_.2.2.1 : Value).ownBlock ∧ some k_ ≠ (s_.2.2.2.1 : Value).ownBlock ∧ some k_ ≠ (s_.2.2.2.2.1 : Value).ownBlock) s_.2.2.2.2.2 t187) ∧ (Below w.heap.size w w')) ?_ ?_
                          rotate_left
                          · intro hJ0_1_2
                            refine join_ (σ := Value × Value × Value × Nat) 6 #[true, true, false, false, false, false, true, false, false] (fun s_ => [(12, .agg #[s_.1, .int .i64 t173, s_.2.1]), (13, s_.2.2.1), (1, .pointer (some ⟨s_.2.2.2, 0, none⟩))]) (fun s_ w' => (Kd.R (Kd.int .u8) 5 w' w.heap.size (fun k_ => some k_ ≠ (s_.2.1 : Value).ownBlock ∧ some k_ ≠ (s_.2.2.1 : Value).ownBlock) s_.1 t170) ∧ (Kd.R (Kd.int .u8) 5 w' w.heap.size (fun k_ => some k_ ≠ (s_.1 : Value).ownBlock ∧ some k_ ≠ (s_.2.2.1 : Value).ownBlock) s_.2.1 t174) ∧ (Kd.R (Kd.int .u8) 5 w' w.heap.size (fun k_ => some k_ ≠ (s_.1 : Value).ownBlock ∧ some k_ ≠ (s_.2.1 : Value).ownBlock) s_.2.2.1 y177) ∧ (w'.heap[s_.2.2.2]? = some (.cells #[.slice none 0 0, .int .i64 0, .slice none 0 0] 24 (0, 0))) ∧ (w.heap.size ≤ s_.2.2.2) ∧ (w.heap.size ≤ s_.2.2.2) ∧ (Below w.heap.size w w')) ?_ ?_
                            rotate_left
                            · intro hJ0_1_6
                              refine join_ (σ := Value × Value × Value) 7 #[true, true, false, false, false, false, false, false, false] (fun s_ => [(12, .agg #[s_.1, .int .i64 t173, s_.2.1]), (13, s_.2.2)]) (fun s_ w' => (Kd.R (Kd.int .u8) 5 w' w.heap.size (fun k_ => some k_ ≠ (s_.2.1 : Value).ownBlock ∧ some k_ ≠ (s_.2.2 : Value).ownBlock) s_.1 t170) ∧ (Kd.R (Kd.int .u8) 5 w' w.heap.size (fun k_ => some k_ ≠ (s_.1 : Value).ownBlock ∧ some k_ ≠ (s_.2.2 : Value).ownBlock) s_.2.1 t174) ∧ (Kd.R (Kd.int .u8) 5 w' w.heap.size (fun k_ => some k_ ≠ (s_.1 : Value).ownBlock ∧ some k_ ≠ (s_.2.1 : Value).ownBlock) s_.2.2 y177) ∧ (Below w.heap.size w w')) ?_ ?_
                              rotate_left
                              · intro hJ0_1
                                refine join_ (σ := Value × Value × Nat) 7 #[true, false, false, false, false, false, true, false, false] (fun s_ => [(12, .agg #[s_.1, .int .i64 t173, s_.2.1]), (1, .pointer (some ⟨s_.2.2, 0, none⟩))]) (fun s_ w' => (Kd.R (Kd.int .u8) 5 w' w.heap.size (fun k_ => some k_ ≠ (s_.2.1 : Value).ownBlock) s_.1 t170) ∧ (Kd.R (Kd.int .u8) 5 w' w.heap.size (fun k_ => some k_ ≠ (s_.1 : Value).ownBlock) s_.2.1 t174) ∧ (w'.heap[s_.2.2]? = some (.cells #[.slice none 0 0, .int .i64 0, .slice none 0 0] 24 (0, 0))) ∧ (w.heap.size ≤ s_.2.2) ∧ (w.heap.size ≤ s_.2.2) ∧ (Below w.heap.size w w')) ?_ ?_
                                rotate_left
                                · intro hJ0_6
                                  refine join_ (σ := Value × Nat) 7 #[false, true, false, false, false, false, true, false, false] (fun s_ => [(13, s_.1), (1, .pointer (some ⟨s_.2, 0, none⟩))]) (fun s_ w' => (Kd.R (Kd.int .u8) 5 w' w.heap.size (fun _ => True) s_.1 y177) ∧ (w'.heap[s_.2]? = some (.cells #[.slice none 0 0, .int .i64 0, .slice none 0 0] 24 (0, 0))) ∧ (w.heap.size ≤ s_.2) ∧ (w.heap.size ≤ s_.2) ∧ (Below w.heap.size w w')) ?_ ?_
                                  rotate_left
                                  · intro hJ1_6
                                    refine join_ (σ := Value × Value) 8 #[true, false, false, false, false, false, false, false, false] (fun s_ => [(12, .agg #[s_.1, .int .i64 t173, s_.2])]) (fun s_ w' => (Kd.R (Kd.int .u8) 5 w' w.heap.size (fun k_ => some k_ ≠ (s_.2 : Value).ownBlock) s_.1 t170) ∧ (Kd.R (Kd.int .u8) 5 w' w.heap.size (fun k_ => some k_ ≠ (s_.1 : Value).ownBlock) s_.2 t174) ∧ (Below w.heap.size w w')) ?_ ?_
                                    rotate_left
                                    · intro hJ0
                                      refine join_ (σ := Value) 8 #[false, true, false, false, false, false, false, false, false] (fun s_ => [(13, s_)]) (fun s_ w' => (Kd.R (Kd.int .u8) 5 w' w.heap.size (fun _ => True) s_ y177) ∧ (Below w.heap.size w w')) ?_ ?_
                                      rotate_left
                                      · intro hJ1
                                        refine join_ (σ := Nat) 8 #[false, false, false, false, false, false, true, false, false] (fun s_ => [(1, .pointer (some ⟨s_, 0, none⟩))]) (fun s_ w' => (w'.heap[s_]? = some (.cells #[.slice none 0 0, .int .i64 0, .slice none 0 0] 24 (0, 0))) ∧ (w.heap.size ≤ s_) ∧ (w.heap.size ≤ s_) ∧ (Below w.heap.size w w')) ?_ ?_
                                        rotate_left
                                        · intro hJ6
                                          refine three_ (i := 0) (j := 1) (k := 6) (Ni := some 12) (Nj := some 13) (Nk := some 1) #[true, false, false, false, false, false, false, false, false] #[false, true, false, false, false, false, false, false, false] #[false, false, false, false, false, false, true, false, false] rfl rfl rfl rfl rfl rfl (three_of HT_.out (by kernel_rfl)) (by decide) (by decide) (by decide) (fun K hK => ?_) (fun K hK => ?_) (fun K hK => ?_)
                                          · skip
                                            refine goes_ Try.func17 (by kernel_rfl) rfl #[] (by rfl) rfl rfl pM ?_
                                            with_reducible refine (packstream_New.calls  t170 t173 t174 _ A1.out).mono ?_
                                            rintro e w27 ⟨v171, v175, rfl, ho0, ho1, hb⟩
                                            refine ⟨_, rfl, ?_⟩
                                            have n0_ := Aside0.mk (Kd.R_lower ho0 (below_size pB))
                                            have n1_ := Aside0.mk (Kd.R_lower ho1 (below_size pB))
                                            have n2_ := Aside0.mk (below_step pB hb)
                                            clear HB
                                            have HO172 := n0_
                                            have HO176 := n1_
                                            have HB := n2_
                                            clear n0_ n1_ n2_
                                            (try clear hb)
                                            (try clear hb2)
                                            (try clear hk)
                                            (try clear hi)
                                            (try clear ho0)
                                            (try clear ho1)
                                            refine hK.out _ _ trivial (fun hHeld => ?_)
                                            clear hK K
                                            refine norm_ (a' := ?_) ?_ ?_
                                            rotate_left
                                            · show Act.put _ (some 12) _ = _
                                              simp only [Act.put, List.setIfInBounds_toArray, List.set_cons_zero, List.set_cons_succ, i64_w, i32_w]
                                              rfl
                                            exact norm_ (by first | (simp only [putAll, Act.put, List.setIfInBounds_toArray, List.set_cons_zero, List.set_cons_succ]; done) | (simp only [putAll, Act.put, List.setIfInBounds_toArray, List.set_cons_zero, List.set_cons_succ]; rfl)) (hJ0 (v171, v175) _ ⟨(pR HO172), (pR HO176), pB⟩)
                                          · skip
                                            refine Kd.R_make_step (Kd.int .u8) _ 5 (by rfl) (N := 13) rfl 22 _ _ rfl 8 rfl rfl Try.underlying22 (.int .u8 0) 1 info5 rfl (by decide) (by omega) 0 (ok := fun _ => True) (okp := fun _ => True) rfl (fun _ hk => hk) trivial (by omega) (by omega) (Below.refl _ _) (Nat.le_refl _) ?_
                                            intro v178 w27 ho28 hb hg_ hnew_
                                            clear hg_ hnew_
                                            (first | rw [← Ny177.out] at ho28 | (simp only [Int.reduceToNat] at ho28; rw [← Ny177.out] at ho28))
                                            have n0_ := Aside0.mk (Kd.R_lower ho28 (below_size pB))
                                            have n1_ := Aside0.mk (below_step pB hb)
                                            clear HB
                                            have HO179 := n0_
                                            have HB := n1_
                                            clear n0_ n1_
                                            clear hb ho28
                                            refine hK.out _ _ trivial (fun hHeld => ?_)
                                            clear hK K
                                            refine norm_ (a' := ?_) ?_ ?_
                                            rotate_left
                                            · show Act.put _ (some 13) _ = _
                                              simp only [Act.put, List.setIfInBounds_toArray, List.set_cons_zero, List.set_cons_succ, i64_w, i32_w]
                                              rfl
                                            exact norm_ (by first | (simp only [putAll, Act.put, List.setIfInBounds_toArray, List.set_cons_zero, List.set_cons_succ]; done) | (simp only [putAll, Act.put, List.setIfInBounds_toArray, List.set_cons_zero, List.set_cons_succ]; rfl)) (hJ1 (v178) _ ⟨(pR HO179), pB⟩)
                                          · skip
                                            refine box_step ?hg (N := 1) ?hd (cs := #[.slice none 0 0, .int .i64 0, .slice none 0 0]) (t := 24) ?hr ?_; (case hd => rfl); (case hg => rfl); (case hr => first | (go_simp; done) | (go_simp; rfl))
                                            intro gb190 hg w27 hbox hb
                                            have n0_ := Aside0.mk (below_step pB hb)
                                            have n1_ := Aside0.mk (hbox)
                                            have n2_ := Aside0.mk ((by rw [hg]; exact (below_size pB) : w.heap.size ≤ gb190))
                                            have n3_ := Aside0.mk ((by rw [hg]; exact (below_size pB) : w.heap.size ≤ gb190))
                                            clear HB
                                            have HB := n0_
                                            have BK190 := n1_
                                            have GW190 := n2_
                                            have GE190 := n3_
                                            clear n0_ n1_ n2_ n3_
                                            clear hb hbox hg
                                            refine hK.out _ _ trivial (fun hHeld => ?_)
                                            clear hK K
                                            refine norm_ (a' := ?_) ?_ ?_
                                            rotate_left
                                            · show Act.put _ (some 1) _ = _
                                              simp only [Act.put, List.setIfInBounds_toArray, List.set_cons_zero, List.set_cons_succ, i64_w, i32_w]
                                              rfl
                                            exact norm_ (by first | (simp only [putAll, Act.put, List.setIfInBounds_toArray, List.set_cons_zero, List.set_cons_succ]; done) | (simp only [putAll, Act.put, List.setIfInBounds_toArray, List.set_cons_zero, List.set_cons_succ]; rfl)) (hJ6 (gb190) _ ⟨(pK BK190), GW190.out, GE190.out, (by repeat (first | (with_reducible first | exact HB.out | apply below_alloc | apply pw_below_drewN | apply below_drew1 | refine below_set ?_ GE190.out) | exact HB.out))⟩)
                                        · skip
                                          rintro gb190 w28 ⟨h0_, h1_, h2_, h3_⟩
                                          have n0_ : Aside0 (w28.heap[gb190]? = some (.cells #[.slice none 0 0, .int .i64 0, .slice none 0 0] 24 (0, 0))) := ⟨h0_⟩
                                          have n1_ : Aside0 (w.heap.size ≤ gb190) := ⟨h1_⟩
                                          have n2_ : Aside0 (w.heap.size ≤ gb190) := ⟨h2_⟩
                                          have n3_ : Aside0 (Below w.heap.size w w28) := ⟨h3_⟩
                                          clear HB
                                          clear h0_ h1_ h2_ h3_
                                          have BK190 := n0_
                                          have GW190 := n1_
                                          have GE190 := n2_
                                          have HB := n3_
                                          clear n0_ n1_ n2_ n3_
                                          have hHeld := trivial
                                          refine norm_ (a' := ?_) ?_ ?_
                                          rotate_left
                                          · simp only [putAll, Act.put, List.setIfInBounds_toArray, List.set_cons_zero, List.set_cons_succ]
                                            rfl
                                          refine two_ (i := 0) (j := 1) (Ni := some 12) (Nj := some 13) #[true, false, false, false, false, false, true, false, false] #[false, true, false, false, false, false, true, false, false] rfl rfl rfl rfl (two_of HT_.out (by kernel_rfl)) (by decide) (by decide) (fun K hK => ?_) (fun K hK => ?_)
                                          · skip
                                            refine goes_ Try.func17 (by kernel_rfl) rfl #[] (by rfl) rfl rfl pM ?_
                                            with_reducible refine (packstream_New.calls  t170 t173 t174 _ A1.out).mono ?_
                                            rintro e w29 ⟨v171, v175, rfl, ho0, ho1, hb⟩
                                            refine ⟨_, rfl, ?_⟩
                                            have n0_ := Aside0.mk (Kd.R_lower ho0 (below_size (by repeat (first | (with_reducible first | exact HB.out | apply below_alloc | apply pw_below_drewN | apply below_drew1 | refine below_set ?_ GE190.out) | exact HB.out))))
                                            have n1_ := Aside0.mk (Kd.R_lower ho1 (below_size (by repeat (first | (with_reducible first | exact HB.out | apply below_alloc | apply pw_below_drewN | apply below_drew1 | refine below_set ?_ GE190.out) | exact HB.out))))
                                            have n2_ := Aside0.mk (blk_below (g := gb190) (o := .cells #[.slice none 0 0, .int .i64 0, .slice none 0 0] 24 (0, 0)) (pK BK190) hb)
                                            have n3_ := Aside0.mk (below_step (by repeat (first | (with_reducible first | exact HB.out | apply below_alloc | apply pw_below_drewN | apply below_drew1 | refine below_set ?_ GE190.out) | exact HB.out)) hb)
                                            clear BK190
                                            clear HB
                                            have HO172 := n0_
                                            have HO176 := n1_
                                            have BK190 := n2_
                                            have HB := n3_
                                            clear n0_ n1_ n2_ n3_
                                            (try clear hb)
                                            (try clear hb2)
                                            (try clear hk)
                                            (try clear hi)
                                            (try clear ho0)
                                            (try clear ho1)
                                            refine hK.out _ _ trivial (fun hHeld => ?_)
                                            clear hK K
                                            refine norm_ (a' := ?_) ?_ ?_
                                            rotate_left
                                            · show Act.put _ (some 12) _ = _
                                              simp only [Act.put, List.setIfInBounds_toArray, List.set_cons_zero, List.set_cons_succ, i64_w, i32_w]
                                              rfl
                                            exact norm_ (by first | (simp only [putAll, Act.put, List.setIfInBounds_toArray, List.set_cons_zero, List.set_cons_succ]; done) | (simp only [putAll, Act.put, List.setIfInBounds_toArray, List.set_cons_zero, List.set_cons_succ]; rfl)) (hJ0_6 (v171, v175, gb190) _ ⟨(pR HO172), (pR HO176), (pK BK190), GW190.out, GE190.out, (by repeat (first | (with_reducible first | exact HB.out | apply below_alloc | apply pw_below_drewN | apply below_drew1 | refine below_set ?_ GE190.out) | exact HB.out))⟩)
                                          · skip
                                            refine Kd.R_make_step (Kd.int .u8) _ 5 (by rfl) (N := 13) rfl 22 _ _ rfl 8 rfl rfl Try.underlying22 (.int .u8 0) 1 info5 rfl (by decide) (by omega) 0 (ok := fun _ => True) (okp := fun _ => True) rfl (fun _ hk => hk) trivial (by omega) (by omega) (Below.refl _ _) (Nat.le_refl _) ?_
                                            intro v178 w29 ho30 hb hg_ hnew_
                                            clear hg_ hnew_
                                            (first | rw [← Ny177.out] at ho30 | (simp only [Int.reduceToNat] at ho30; rw [← Ny177.out] at ho30))
                                            have n0_ := Aside0.mk (Kd.R_lower ho30 (below_size (by repeat (first | (with_reducible first | exact HB.out | apply below_alloc | apply pw_below_drewN | apply below_drew1 | refine below_set ?_ GE190.out) | exact HB.out))))
                                            have n1_ := Aside0.mk (blk_below (g := gb190) (o := .cells #[.slice none 0 0, .int .i64 0, .slice none 0 0] 24 (0, 0)) (pK BK190) hb)
                                            have n2_ := Aside0.mk (below_step (by repeat (first | (with_reducible first | exact HB.out | apply below_alloc | apply pw_below_drewN | apply below_drew1 | refine below_set ?_ GE190.out) | exact HB.out)) hb)
                                            clear BK190
                                            clear HB
                                            have HO179 := n0_
                                            have BK190 := n1_
                                            have HB := n2_
                                            clear n0_ n1_ n2_
                                            clear hb ho30
                                            refine hK.out _ _ trivial (fun hHeld => ?_)
                                            clear hK K
                                            refine norm_ (a' := ?_) ?_ ?_
                                            rotate_left
                                            · show Act.put _ (some 13) _ = _
                                              simp only [Act.put, List.setIfInBounds_toArray, List.set_cons_zero, List.set_cons_succ, i64_w, i32_w]
                                              rfl
                                            exact norm_ (by first | (simp only [putAll, Act.put, List.setIfInBounds_toArray, List.set_cons_zero, List.set_cons_succ]; done) | (simp only [putAll, Act.put, List.setIfInBounds_toArray, List.set_cons_zero, List.set_cons_succ]; rfl)) (hJ1_6 (v178, gb190) _ ⟨(pR HO179), (pK BK190), GW190.out, GE190.out, (by repeat (first | (with_reducible first | exact HB.out | apply below_alloc | apply pw_below_drewN | apply below_drew1 | refine below_set ?_ GE190.out) | exact HB.out))⟩)
                                      · skip
                                        rintro v178 w29 ⟨h0_, h1_⟩
                                        have n0_ : Aside0 (Kd.R (Kd.int .u8) 5 w29 w.heap.size (fun _ => True) v178 y177) := ⟨h0_⟩
                                        have n1_ : Aside0 (Below w.heap.size w w29) := ⟨h1_⟩
                                        clear HB
                                        clear h0_ h1_
                                        have HO179 := n0_
                                        have HB := n1_
                                        clear n0_ n1_
                                        have hHeld := trivial
                                        refine norm_ (a' := ?_) ?_ ?_
                                        rotate_left
                                        · simp only [putAll, Act.put, List.setIfInBounds_toArray, List.set_cons_zero, List.set_cons_succ]
                                          rfl
                                        refine two_ (i := 0) (j := 6) (Ni := some 12) (Nj := some 1) #[true, true, false, false, false, false, false, false, false] #[false, true, false, false, false, false, true, false, false] rfl rfl rfl rfl (two_of HT_.out (by kernel_rfl)) (by decide) (by decide) (fun K hK => ?_) (fun K hK => ?_)
                                        · skip
                                          refine goes_ Try.func17 (by kernel_rfl) rfl #[] (by rfl) rfl rfl pM ?_
                                          with_reducible refine (packstream_New.calls  t170 t173 t174 _ A1.out).mono ?_
                                          rintro e w30 ⟨v171, v175, rfl, ho0, ho1, hb⟩
                                          refine ⟨_, rfl, ?_⟩
                                          have n0_ := Aside0.mk (Kd.R_mono (Kd.R_told (Kd.R_told (Kd.R_old (pR HO179) hb) (Kd.R_base ho0)) (Kd.R_base ho1)) (fun _ h_ => h_.1))
                                          have n1_ := Aside0.mk (Kd.R_lower (Kd.R_new' ho0 (Kd.R_lt (pR HO179))) (below_size pB))
                                          have n2_ := Aside0.mk (Kd.R_lower (Kd.R_new' ho1 (Kd.R_lt (pR HO179))) (below_size pB))
                                          have n3_ := Aside0.mk (below_step pB hb)
                                          clear HO179
                                          clear HB
                                          have HO179 := n0_
                                          have HO172 := n1_
                                          have HO176 := n2_
                                          have HB := n3_
                                          clear n0_ n1_ n2_ n3_
                                          (try clear hb)
                                          (try clear hb2)
                                          (try clear hk)
                                          (try clear hi)
                                          (try clear ho0)
                                          (try clear ho1)
                                          refine hK.out _ _ trivial (fun hHeld => ?_)
                                          clear hK K
                                          refine norm_ (a' := ?_) ?_ ?_
                                          rotate_left
                                          · show Act.put _ (some 12) _ = _
                                            simp only [Act.put, List.setIfInBounds_toArray, List.set_cons_zero, List.set_cons_succ, i64_w, i32_w]
                                            rfl
                                          exact norm_ (by first | (simp only [putAll, Act.put, List.setIfInBounds_toArray, List.set_cons_zero, List.set_cons_succ]; done) | (simp only [putAll, Act.put, List.setIfInBounds_toArray, List.set_cons_zero, List.set_cons_succ]; rfl)) (hJ0_1 (v171, v175, v178) _ ⟨(pR HO172), (pR HO176), (by (with_reducible repeat (first | apply Kd.R_alloc | apply Kd.R_drewN | apply Kd.R_drew)); exact Kd.R_mono HO179.out (fun _ hk => ⟨hk.1.2, hk.2⟩)), pB⟩)
                                        · skip
                                          refine box_step ?hg (N := 1) ?hd (cs := #[.slice none 0 0, .int .i64 0, .slice none 0 0]) (t := 24) ?hr ?_; (case hd => rfl); (case hg => rfl); (case hr => first | (go_simp; done) | (go_simp; rfl))
                                          intro gb190 hg w30 hbox hb
                                          have n0_ := Aside0.mk (Kd.R_below (pR HO179) hb)
                                          have n1_ := Aside0.mk (below_step pB hb)
                                          have n2_ := Aside0.mk (hbox)
                                          have n3_ := Aside0.mk ((by rw [hg]; exact (below_size pB) : w.heap.size ≤ gb190))
                                          have n4_ := Aside0.mk ((by rw [hg]; exact (below_size pB) : w.heap.size ≤ gb190))
                                          clear HO179
                                          clear HB
                                          have HO179 := n0_
                                          have HB := n1_
                                          have BK190 := n2_
                                          have GW190 := n3_
                                          have GE190 := n4_
                                          clear n0_ n1_ n2_ n3_ n4_
                                          clear hb hbox hg
                                          refine hK.out _ _ trivial (fun hHeld => ?_)
                                          clear hK K
                                          refine norm_ (a' := ?_) ?_ ?_
                                          rotate_left
                                          · show Act.put _ (some 1) _ = _
                                            simp only [Act.put, List.setIfInBounds_toArray, List.set_cons_zero, List.set_cons_succ, i64_w, i32_w]
                                            rfl
                                          exact norm_ (by first | (simp only [putAll, Act.put, List.setIfInBounds_toArray, List.set_cons_zero, List.set_cons_succ]; done) | (simp only [putAll, Act.put, List.setIfInBounds_toArray, List.set_cons_zero, List.set_cons_succ]; rfl)) (hJ1_6 (v178, gb190) _ ⟨(pR HO179), (pK BK190), GW190.out, GE190.out, (by repeat (first | (with_reducible first | exact HB.out | apply below_alloc | apply pw_below_drewN | apply below_drew1 | refine below_set ?_ GE190.out) | exact HB.out))⟩)
                                    · skip
                                      rintro ⟨v171, v175⟩ w28 ⟨h0_, h1_, h2_⟩
                                      have n0_ : Aside0 (Kd.R (Kd.int .u8) 5 w28 w.heap.size (fun k_ => some k_ ≠ (v175 : Value).ownBlock) v171 t170) := ⟨h0_⟩
                                      have n1_ : Aside0 (Kd.R (Kd.int .u8) 5 w28 w.heap.size (fun k_ => some k_ ≠ (v171 : Value).ownBlock) v175 t174) := ⟨h1_⟩
                                      have n2_ : Aside0 (Below w.heap.size w w28) := ⟨h2_⟩
                                      clear HB
                                      clear h0_ h1_ h2_
                                      have HO172 := n0_
                                      have HO176 := n1_
                                      have HB := n2_
                                      clear n0_ n1_ n2_
                                      have hHeld := trivial
                                      refine norm_ (a' := ?_) ?_ ?_
                                      rotate_left
                                      · simp only [putAll, Act.put, List.setIfInBounds_toArray, List.set_cons_zero, List.set_cons_succ]
                                        rfl
                                      refine two_ (i := 1) (j := 6) (Ni := some 13) (Nj := some 1) #[true, true, false, false, false, false, false, false, false] #[true, false, false, false, false, false, true, false, false] rfl rfl rfl rfl (two_of HT_.out (by kernel_rfl)) (by decide) (by decide) (fun K hK => ?_) (fun K hK => ?_)
                                      · skip
                                        refine Kd.R_make_step (Kd.int .u8) _ 5 (by rfl) (N := 13) rfl 22 _ _ rfl 8 rfl rfl Try.underlying22 (.int .u8 0) 1 info5 rfl (by decide) (by omega) 0 (ok := fun _ => True) (okp := fun _ => True) rfl (fun _ hk => hk) trivial (by omega) (by omega) (Below.refl _ _) (Nat.le_refl _) ?_
                                        intro v178 w29 ho30 hb hg_ hnew_
                                        clear hg_ hnew_
                                        (first | rw [← Ny177.out] at ho30 | (simp only [Int.reduceToNat] at ho30; rw [← Ny177.out] at ho30))
                                        have n0_ := Aside0.mk (Kd.R_elder' (pR HO172) (Kd.R_base ho30) hb)
                                        have n1_ := Aside0.mk (Kd.R_elder' (pR HO176) (Kd.R_base ho30) hb)
                                        have n2_ := Aside0.mk (Kd.R_lower (Kd.R_new' (Kd.R_new' ho30 (Kd.R_lt (pR HO172))) (Kd.R_lt (pR HO176))) (below_size pB))
                                        have n3_ := Aside0.mk (below_step pB hb)
                                        clear HO172
                                        clear HO176
                                        clear HB
                                        have HO172 := n0_
                                        have HO176 := n1_
                                        have HO179 := n2_
                                        have HB := n3_
                                        clear n0_ n1_ n2_ n3_
                                        clear hb ho30
                                        refine hK.out _ _ trivial (fun hHeld => ?_)
                                        clear hK K
                                        refine norm_ (a' := ?_) ?_ ?_
                                        rotate_left
                                        · show Act.put _ (some 13) _ = _
                                          simp only [Act.put, List.setIfInBounds_toArray, List.set_cons_zero, List.set_cons_succ, i64_w, i32_w]
                                          rfl
                                        exact norm_ (by first | (simp only [putAll, Act.put, List.setIfInBounds_toArray, List.set_cons_zero, List.set_cons_succ]; done) | (simp only [putAll, Act.put, List.setIfInBounds_toArray, List.set_cons_zero, List.set_cons_succ]; rfl)) (hJ0_1 (v171, v175, v178) _ ⟨(pR HO172), (pR HO176), (by (with_reducible repeat (first | apply Kd.R_alloc | apply Kd.R_drewN | apply Kd.R_drew)); exact Kd.R_mono HO179.out (fun _ hk => ⟨hk.1.2, hk.2⟩)), pB⟩)
                                      · skip
                                        refine box_step ?hg (N := 1) ?hd (cs := #[.slice none 0 0, .int .i64 0, .slice none 0 0]) (t := 24) ?hr ?_; (case hd => rfl); (case hg => rfl); (case hr => first | (go_simp; done) | (go_simp; rfl))
                                        intro gb190 hg w29 hbox hb
                                        have n0_ := Aside0.mk (Kd.R_below (pR HO172) hb)
                                        have n1_ := Aside0.mk (Kd.R_below (pR HO176) hb)
                                        have n2_ := Aside0.mk (below_step pB hb)
                                        have n3_ := Aside0.mk (hbox)
                                        have n4_ := Aside0.mk ((by rw [hg]; exact (below_size pB) : w.heap.size ≤ gb190))
                                        have n5_ := Aside0.mk ((by rw [hg]; exact (below_size pB) : w.heap.size ≤ gb190))
                                        clear HO172
                                        clear HO176
                                        clear HB
                                        have HO172 := n0_
                                        have HO176 := n1_
                                        have HB := n2_
                                        have BK190 := n3_
                                        have GW190 := n4_
                                        have GE190 := n5_
                                        clear n0_ n1_ n2_ n3_ n4_ n5_
                                        clear hb hbox hg
                                        refine hK.out _ _ trivial (fun hHeld => ?_)
                                        clear hK K
                                        refine norm_ (a' := ?_) ?_ ?_
                                        rotate_left
                                        · show Act.put _ (some 1) _ = _
                                          simp only [Act.put, List.setIfInBounds_toArray, List.set_cons_zero, List.set_cons_succ, i64_w, i32_w]
                                          rfl
                                        exact norm_ (by first | (simp only [putAll, Act.put, List.setIfInBounds_toArray, List.set_cons_zero, List.set_cons_succ]; done) | (simp only [putAll, Act.put, List.setIfInBounds_toArray, List.set_cons_zero, List.set_cons_succ]; rfl)) (hJ0_6 (v171, v175, gb190) _ ⟨(pR HO172), (pR HO176), (pK BK190), GW190.out, GE190.out, (by repeat (first | (with_reducible first | exact HB.out | apply below_alloc | apply pw_below_drewN | apply below_drew1 | refine below_set ?_ GE190.out) | exact HB.out))⟩)
                                  · skip
                                    rintro ⟨v178, gb190⟩ w30 ⟨h0_, h1_, h2_, h3_, h4_⟩
                                    have n0_ : Aside0 (Kd.R (Kd.int .u8) 5 w30 w.heap.size (fun _ => True) v178 y177) := ⟨h0_⟩
                                    have n1_ : Aside0 (w30.heap[gb190]? = some (.cells #[.slice none 0 0, .int .i64 0, .slice none 0 0] 24 (0, 0))) := ⟨h1_⟩
                                    have n2_ : Aside0 (w.heap.size ≤ gb190) := ⟨h2_⟩
                                    have n3_ : Aside0 (w.heap.size ≤ gb190) := ⟨h3_⟩
                                    have n4_ : Aside0 (Below w.heap.size w w30) := ⟨h4_⟩
                                    clear HB
                                    clear h0_ h1_ h2_ h3_ h4_
                                    have HO179 := n0_
                                    have BK190 := n1_
                                    have GW190 := n2_
                                    have GE190 := n3_
                                    have HB := n4_
                                    clear n0_ n1_ n2_ n3_ n4_
                                    have hHeld := trivial
                                    refine norm_ (a' := ?_) ?_ ?_
                                    rotate_left
                                    · simp only [putAll, Act.put, List.setIfInBounds_toArray, List.set_cons_zero, List.set_cons_succ]
                                      rfl
                                    refine one_ (i := 0) (N := some 12) #[true, true, false, false, false, false, true, false, false] rfl rfl (one_of HT_.out (by kernel_rfl)) (by decide) (fun K hK => ?_)
                                    refine goes_ Try.func17 (by kernel_rfl) rfl #[] (by rfl) rfl rfl pM ?_
                                    with_reducible refine (packstream_New.calls  t170 t173 t174 _ A1.out).mono ?_
                                    rintro e w31 ⟨v171, v175, rfl, ho0, ho1, hb⟩
                                    refine ⟨_, rfl, ?_⟩
                                    have n0_ := Aside0.mk (Kd.R_mono (Kd.R_told (Kd.R_told (Kd.R_old (pR HO179) hb) (Kd.R_base ho0)) (Kd.R_base ho1)) (fun _ h_ => h_.1))
                                    have n1_ := Aside0.mk (Kd.R_lower (Kd.R_new' ho0 (Kd.R_lt (pR HO179))) (below_size (by repeat (first | (with_reducible first | exact HB.out | apply below_alloc | apply pw_below_drewN | apply below_drew1 | refine below_set ?_ GE190.out) | exact HB.out))))
                                    have n2_ := Aside0.mk (Kd.R_lower (Kd.R_new' ho1 (Kd.R_lt (pR HO179))) (below_size (by repeat (first | (with_reducible first | exact HB.out | apply below_alloc | apply pw_below_drewN | apply below_drew1 | refine below_set ?_ GE190.out) | exact HB.out))))
                                    have n3_ := Aside0.mk (blk_below (g := gb190) (o := .cells #[.slice none 0 0, .int .i64 0, .slice none 0 0] 24 (0, 0)) (pK BK190) hb)
                                    have n4_ := Aside0.mk (below_step (by repeat (first | (with_reducible first | exact HB.out | apply below_alloc | apply pw_below_drewN | apply below_drew1 | refine below_set ?_ GE190.out) | exact HB.out)) hb)
                                    clear HO179
                                    clear BK190
                                    clear HB
                                    have HO179 := n0_
                                    have HO172 := n1_
                                    have HO176 := n2_
                                    have BK190 := n3_
                                    have HB := n4_
                                    clear n0_ n1_ n2_ n3_ n4_
                                    (try clear hb)
                                    (try clear hb2)
                                    (try clear hk)
                                    (try clear hi)
                                    (try clear ho0)
                                    (try clear ho1)
                                    refine hK.out _ _ trivial (fun hHeld => ?_)
                                    clear hK K
                                    refine norm_ (a' := ?_) ?_ ?_
                                    rotate_left
                                    · show Act.put _ (some 12) _ = _
                                      simp only [Act.put, List.setIfInBounds_toArray, List.set_cons_zero, List.set_cons_succ, i64_w, i32_w]
                                      rfl
                                    exact norm_ (by first | (simp only [putAll, Act.put, List.setIfInBounds_toArray, List.set_cons_zero, List.set_cons_succ]; done) | (simp only [putAll, Act.put, List.setIfInBounds_toArray, List.set_cons_zero, List.set_cons_succ]; rfl)) (hJ0_1_6 (v171, v175, v178, gb190) _ ⟨(pR HO172), (pR HO176), (by (with_reducible repeat (first | apply Kd.R_alloc | apply Kd.R_drewN | apply Kd.R_drew)); exact Kd.R_mono HO179.out (fun _ hk => ⟨hk.1.2, hk.2⟩)), (pK BK190), GW190.out, GE190.out, (by repeat (first | (with_reducible first | exact HB.out | apply below_alloc | apply pw_below_drewN | apply below_drew1 | refine below_set ?_ GE190.out) | exact HB.out))⟩)
                                · skip
                                  rintro ⟨v171, v175, gb190⟩ w29 ⟨h0_, h1_, h2_, h3_, h4_, h5_⟩
                                  have n0_ : Aside0 (Kd.R (Kd.int .u8) 5 w29 w.heap.size (fun k_ => some k_ ≠ (v175 : Value).ownBlock) v171 t170) := ⟨h0_⟩
                                  have n1_ : Aside0 (Kd.R (Kd.int .u8) 5 w29 w.heap.size (fun k_ => some k_ ≠ (v171 : Value).ownBlock) v175 t174) := ⟨h1_⟩
                                  have n2_ : Aside0 (w29.heap[gb190]? = some (.cells #[.slice none 0 0, .int .i64 0, .slice none 0 0] 24 (0, 0))) := ⟨h2_⟩
                                  have n3_ : Aside0 (w.heap.size ≤ gb190) := ⟨h3_⟩
                                  have n4_ : Aside0 (w.heap.size ≤ gb190) := ⟨h4_⟩
                                  have n5_ : Aside0 (Below w.heap.size w w29) := ⟨h5_⟩
                                  clear HB
                                  clear h0_ h1_ h2_ h3_ h4_ h5_
                                  have HO172 := n0_
                                  have HO176 := n1_
                                  have BK190 := n2_
                                  have GW190 := n3_
                                  have GE190 := n4_
                                  have HB := n5_
                                  clear n0_ n1_ n2_ n3_ n4_ n5_
                                  have hHeld := trivial
                                  refine norm_ (a' := ?_) ?_ ?_
                                  rotate_left
                                  · simp only [putAll, Act.put, List.setIfInBounds_toArray, List.set_cons_zero, List.set_cons_succ]
                                    rfl
                                  refine one_ (i := 1) (N := some 13) #[true, true, false, false, false, false, true, false, false] rfl rfl (one_of HT_.out (by kernel_rfl)) (by decide) (fun K hK => ?_)
                                  refine Kd.R_make_step (Kd.int .u8) _ 5 (by rfl) (N := 13) rfl 22 _ _ rfl 8 rfl rfl Try.underlying22 (.int .u8 0) 1 info5 rfl (by decide) (by omega) 0 (ok := fun _ => True) (okp := fun _ => True) rfl (fun _ hk => hk) trivial (by omega) (by omega) (Below.refl _ _) (Nat.le_refl _) ?_
                                  intro v178 w30 ho31 hb hg_ hnew_
                                  clear hg_ hnew_
                                  (first | rw [← Ny177.out] at ho31 | (simp only [Int.reduceToNat] at ho31; rw [← Ny177.out] at ho31))
                                  have n0_ := Aside0.mk (Kd.R_elder' (pR HO172) (Kd.R_base ho31) hb)
                                  have n1_ := Aside0.mk (Kd.R_elder' (pR HO176) (Kd.R_base ho31) hb)
                                  have n2_ := Aside0.mk (Kd.R_lower (Kd.R_new' (Kd.R_new' ho31 (Kd.R_lt (pR HO172))) (Kd.R_lt (pR HO176))) (below_size (by repeat (first | (with_reducible first | exact HB.out | apply below_alloc | apply pw_below_drewN | apply below_drew1 | refine below_set ?_ GE190.out) | exact HB.out))))
                                  have n3_ := Aside0.mk (blk_below (g := gb190) (o := .cells #[.slice none 0 0, .int .i64 0, .slice none 0 0] 24 (0, 0)) (pK BK190) hb)
                                  have n4_ := Aside0.mk (below_step (by repeat (first | (with_reducible first | exact HB.out | apply below_alloc | apply pw_below_drewN | apply below_drew1 | refine below_set ?_ GE190.out) | exact HB.out)) hb)
                                  clear HO172
                                  clear HO176
                                  clear BK190
                                  clear HB
                                  have HO172 := n0_
                                  have HO176 := n1_
                                  have HO179 := n2_
                                  have BK190 := n3_
                                  have HB := n4_
                                  clear n0_ n1_ n2_ n3_ n4_
                                  clear hb ho31
                                  refine hK.out _ _ trivial (fun hHeld => ?_)
                                  clear hK K
                                  refine norm_ (a' := ?_) ?_ ?_
                                  rotate_left
                                  · show Act.put _ (some 13) _ = _
                                    simp only [Act.put, List.setIfInBounds_toArray, List.set_cons_zero, List.set_cons_succ, i64_w, i32_w]
                                    rfl
                                  exact norm_ (by first | (simp only [putAll, Act.put, List.setIfInBounds_toArray, List.set_cons_zero, List.set_cons_succ]; done) | (simp only [putAll, Act.put, List.setIfInBounds_toArray, List.set_cons_zero, List.set_cons_succ]; rfl)) (hJ0_1_6 (v171, v175, v178, gb190) _ ⟨(pR HO172), (pR HO176), (by (with_reducible repeat (first | apply Kd.R_alloc | apply Kd.R_drewN | apply Kd.R_drew)); exact Kd.R_mono HO179.out (fun _ hk => ⟨hk.1.2, hk.2⟩)), (pK BK190), GW190.out, GE190.out, (by repeat (first | (with_reducible first | exact HB.out | apply below_alloc | apply pw_below_drewN | apply below_drew1 | refine below_set ?_ GE190.out) | exact HB.out))⟩)
                              · skip
                                rintro ⟨v171, v175, v178⟩ w30 ⟨h0_, h1_, h2_, h3_⟩
                                have n0_ : Aside0 (Kd.R (Kd.int .u8) 5 w30 w.heap.size (fun k_ => some k_ ≠ (v175 : Value).ownBlock ∧ some k_ ≠ (v178 : Value).ownBlock) v171 t170) := ⟨h0_⟩
                                have n1_ : Aside0 (Kd.R (Kd.int .u8) 5 w30 w.heap.size (fun k_ => some k_ ≠ (v171 : Value).ownBlock ∧ some k_ ≠ (v178 : Value).ownBlock) v175 t174) := ⟨h1_⟩
                                have n2_ : Aside0 (Kd.R (Kd.int .u8) 5 w30 w.heap.size (fun k_ => some k_ ≠ (v171 : Value).ownBlock ∧ some k_ ≠ (v175 : Value).ownBlock) v178 y177) := ⟨h2_⟩
                                have n3_ : Aside0 (Below w.heap.size w w30) := ⟨h3_⟩
                                clear HB
                                clear h0_ h1_ h2_ h3_
                                have HO172 := n0_
                                have HO176 := n1_
                                have HO179 := n2_
                                have HB := n3_
                                clear n0_ n1_ n2_ n3_
                                have hHeld := trivial
                                obtain ⟨Ao31, co31, eo31⟩ := Kd.R_slice HO172.out
                                (first | subst eo31 | (injection eo31 with f1_ f2_ f3_; have f4_ := f1_.symm; have f5_ := f3_.symm; clear f1_ f2_ f3_; subst f4_; subst f5_))
                                obtain ⟨Ao32, co32, eo32⟩ := Kd.R_slice HO176.out
                                (first | subst eo32 | (injection eo32 with f1_ f2_ f3_; have f4_ := f1_.symm; have f5_ := f3_.symm; clear f1_ f2_ f3_; subst f4_; subst f5_))
                                obtain ⟨Ao33, co33, eo33⟩ := Kd.R_slice HO179.out
                                (first | subst eo33 | (injection eo33 with f1_ f2_ f3_; have f4_ := f1_.symm; have f5_ := f3_.symm; clear f1_ f2_ f3_; subst f4_; subst f5_))
                                refine norm_ (a' := ?_) ?_ ?_
                                rotate_left
                                · simp only [putAll, Act.put, List.setIfInBounds_toArray, List.set_cons_zero, List.set_cons_succ]
                                  rfl
                                refine two_ (i := 2) (j := 6) (Ni := some 14) (Nj := some 1) #[true, true, true, false, false, false, false, false, false] #[true, true, false, false, false, false, true, false, false] rfl rfl rfl rfl (two_of HT_.out (by kernel_rfl)) (by decide) (by decide) (fun K hK => ?_) (fun K hK => ?_)
                                · skip
                                  refine goes_ Try.func8 (by kernel_rfl) rfl #[.agg #[.slice Ao31 t170.length co31, .int .i64 t173, .slice Ao32 t174.length co32], .slice Ao33 y177.length co33] (by rfl) rfl rfl pM ?_
                                  with_reducible refine (packstream_Write.calls _ _ t170 t173 _ _ t174 _ _ y177 t180 t183 t184 t187 _ ?side1 ?side2 ?side3 ?side4 ?side5 ?side6 A3.out).mono ?_
                                  (case side1 => repeat (first | exact (Kd.R_reads' HO172.out).2.2 | (with_reducible refine Kd.C_alloc ?_ _) | (with_reducible refine Kd.C_drewN ?_ _) | (with_reducible refine Kd.C_drew ?_)))
                                  (case side2 => exact (Kd.R_reads' HO172.out).2.1)
                                  (case side3 => repeat (first | exact (Kd.R_reads' HO176.out).2.2 | (with_reducible refine Kd.C_alloc ?_ _) | (with_reducible refine Kd.C_drewN ?_ _) | (with_reducible refine Kd.C_drew ?_)))
                                  (case side4 => exact (Kd.R_reads' HO176.out).2.1)
                                  (case side5 => repeat (first | exact (Kd.R_reads' HO179.out).2.2 | (with_reducible refine Kd.C_alloc ?_ _) | (with_reducible refine Kd.C_drewN ?_ _) | (with_reducible refine Kd.C_drew ?_)))
                                  (case side6 => exact (Kd.R_reads' HO179.out).2.1)
                                  rintro e w34 ⟨v181, v185, v188, rfl, ho0, ho1, ho2, hb⟩
                                  refine ⟨_, rfl, ?_⟩
                                  have n0_ := Aside0.mk (Kd.R_mono (Kd.R_told (Kd.R_told (Kd.R_told (Kd.R_old (pR HO172) hb) (Kd.R_base ho0)) (Kd.R_base ho1)) (Kd.R_base ho2)) (fun _ h_ => h_.1))
                                  have n1_ := Aside0.mk (Kd.R_mono (Kd.R_told (Kd.R_told (Kd.R_told (Kd.R_old (pR HO176) hb) (Kd.R_base ho0)) (Kd.R_base ho1)) (Kd.R_base ho2)) (fun _ h_ => h_.1))
                                  have n2_ := Aside0.mk (Kd.R_mono (Kd.R_told (Kd.R_told (Kd.R_told (Kd.R_old (pR HO179) hb) (Kd.R_base ho0)) (Kd.R_base ho1)) (Kd.R_base ho2)) (fun _ h_ => h_.1))
                                  have n3_ := Aside0.mk (Kd.R_lower (Kd.R_new' (Kd.R_new' (Kd.R_new' ho0 (Kd.R_lt (pR HO172))) (Kd.R_lt (pR HO176))) (Kd.R_lt (pR HO179))) (below_size pB))
                                  have n4_ := Aside0.mk (Kd.R_lower (Kd.R_new' (Kd.R_new' (Kd.R_new' ho1 (Kd.R_lt (pR HO172))) (Kd.R_lt (pR HO176))) (Kd.R_lt (pR HO179))) (below_size pB))
                                  have n5_ := Aside0.mk (Kd.R_lower (Kd.R_new' (Kd.R_new' (Kd.R_new' ho2 (Kd.R_lt (pR HO172))) (Kd.R_lt (pR HO176))) (Kd.R_lt (pR HO179))) (below_size pB))
                                  have n6_ := Aside0.mk (below_step pB hb)
                                  clear HO172
                                  clear HO176
                                  clear HO179
                                  clear HB
                                  have HO172 := n0_
                                  have HO176 := n1_
                                  have HO179 := n2_
                                  have HO182 := n3_
                                  have HO186 := n4_
                                  have HO189 := n5_
                                  have HB := n6_
                                  clear n0_ n1_ n2_ n3_ n4_ n5_ n6_
                                  (try clear hb)
                                  (try clear hb2)
                                  (try clear hk)
                                  (try clear hi)
                                  (try clear ho0)
                                  (try clear ho1)
                                  (try clear ho2)
                                  refine hK.out _ _ trivial (fun hHeld => ?_)
                                  clear hK K
                                  refine norm_ (a' := ?_) ?_ ?_
                                  rotate_left
                                  · show Act.put _ (some 14) _ = _
                                    simp only [Act.put, List.setIfInBounds_toArray, List.set_cons_zero, List.set_cons_succ, i64_w, i32_w]
                                    rfl
                                  refine pure_ (i := 3) (N := some 11) (v := ?_) (a' := ?_) #[true, true, true, true, false, false, false, false, false] rfl rfl (any_of HT_.out (by kernel_rfl)) (fun _ _ _ h => h) (Or.inl ⟨by rfl, ?_⟩) ?_ ?_
                                  rotate_left
                                  · intro w'
                                    go_simp
                                    with_reducible rfl
                                  rotate_left
                                  · simp only [Act.put, List.setIfInBounds_toArray, List.set_cons_zero, List.set_cons_succ, i64_w, i32_w]
                                    rfl
                                  refine pure_ (i := 4) (N := some 15) (v := ?_) (a' := ?_) #[true, true, true, true, true, false, false, false, false] rfl rfl (any_of HT_.out (by kernel_rfl)) (fun _ _ _ h => h) (Or.inl ⟨by rfl, ?_⟩) ?_ ?_
                                  rotate_left
                                  · intro w'
                                    go_simp
                                    with_reducible rfl
                                  rotate_left
                                  · simp only [Act.put, List.setIfInBounds_toArray, List.set_cons_zero, List.set_cons_succ, i64_w, i32_w]
                                    rfl
                                  refine pure_ (i := 5) (N := some 16) (v := ?_) (a' := ?_) #[true, true, true, true, true, true, false, false, false] rfl rfl (any_of HT_.out (by kernel_rfl)) (fun _ _ _ h => h) (Or.inl ⟨by rfl, ?_⟩) ?_ ?_
                                  rotate_left
                                  · intro w'
                                    go_simp
                                    with_reducible rfl
                                  rotate_left
                                  · simp only [Act.put, List.setIfInBounds_toArray, List.set_cons_zero, List.set_cons_succ, i64_w, i32_w]
                                    rfl
                                  exact norm_ (by first | (simp only [putAll, Act.put, List.setIfInBounds_toArray, List.set_cons_zero, List.set_cons_succ]; done) | (simp only [putAll, Act.put, List.setIfInBounds_toArray, List.set_cons_zero, List.set_cons_succ]; rfl)) (hJ0_1_2 (.slice Ao31 t170.length co31, .slice Ao32 t174.length co32, .slice Ao33 y177.length co33, v181, v185, v188) _ ⟨(by (with_reducible repeat (first | apply Kd.R_alloc | apply Kd.R_drewN | apply Kd.R_drew)); exact Kd.R_mono HO172.out (fun _ hk => ⟨hk.1.1.1.1, ⟨hk.1.1.1.2, ⟨hk.1.1.2, ⟨hk.1.2, hk.2⟩⟩⟩⟩)), (by (with_reducible repeat (first | apply Kd.R_alloc | apply Kd.R_drewN | apply Kd.R_drew)); exact Kd.R_mono HO176.out (fun _ hk => ⟨hk.1.1.1.1, ⟨hk.1.1.1.2, ⟨hk.1.1.2, ⟨hk.1.2, hk.2⟩⟩⟩⟩)), (by (with_reducible repeat (first | apply Kd.R_alloc | apply Kd.R_drewN | apply Kd.R_drew)); exact Kd.R_mono HO179.out (fun _ hk => ⟨hk.1.1.1.1, ⟨hk.1.1.1.2, ⟨hk.1.1.2, ⟨hk.1.2, hk.2⟩⟩⟩⟩)), (by (with_reducible repeat (first | apply Kd.R_alloc | apply Kd.R_drewN | apply Kd.R_drew)); exact Kd.R_mono HO182.out (fun _ hk => ⟨hk.1.1.2, ⟨hk.1.2, ⟨hk.2, ⟨hk.1.1.1.1, hk.1.1.1.2⟩⟩⟩⟩)), (by (with_reducible repeat (first | apply Kd.R_alloc | apply Kd.R_drewN | apply Kd.R_drew)); exact Kd.R_mono HO186.out (fun _ hk => ⟨hk.1.1.2, ⟨hk.1.2, ⟨hk.2, ⟨hk.1.1.1.1, hk.1.1.1.2⟩⟩⟩⟩)), (by (with_reducible repeat (first | apply Kd.R_alloc | apply Kd.R_drewN | apply Kd.R_drew)); exact Kd.R_mono HO189.out (fun _ hk => ⟨hk.1.1.2, ⟨hk.1.2, ⟨hk.2, ⟨hk.1.1.1.1, hk.1.1.1.2⟩⟩⟩⟩)), pB⟩)
                                · skip
                                  refine box_step ?hg (N := 1) ?hd (cs := #[.slice none 0 0, .int .i64 0, .slice none 0 0]) (t := 24) ?hr ?_; (case hd => rfl); (case hg => rfl); (case hr => first | (go_simp; done) | (go_simp; rfl))
                                  intro gb190 hg w31 hbox hb
                                  have n0_ := Aside0.mk (Kd.R_below (pR HO172) hb)
                                  have n1_ := Aside0.mk (Kd.R_below (pR HO176) hb)
                                  have n2_ := Aside0.mk (Kd.R_below (pR HO179) hb)
                                  have n3_ := Aside0.mk (below_step pB hb)
                                  have n4_ := Aside0.mk (hbox)
                                  have n5_ := Aside0.mk ((by rw [hg]; exact (below_size pB) : w.heap.size ≤ gb190))
                                  have n6_ := Aside0.mk ((by rw [hg]; exact (below_size pB) : w.heap.size ≤ gb190))
                                  clear HO172
                                  clear HO176
                                  clear HO179
                                  clear HB
                                  have HO172 := n0_
                                  have HO176 := n1_
                                  have HO179 := n2_
                                  have HB := n3_
                                  have BK190 := n4_
                                  have GW190 := n5_
                                  have GE190 := n6_
                                  clear n0_ n1_ n2_ n3_ n4_ n5_ n6_
                                  clear hb hbox hg
                                  refine hK.out _ _ trivial (fun hHeld => ?_)
                                  clear hK K
                                  refine norm_ (a' := ?_) ?_ ?_
                                  rotate_left
                                  · show Act.put _ (some 1) _ = _
                                    simp only [Act.put, List.setIfInBounds_toArray, List.set_cons_zero, List.set_cons_succ, i64_w, i32_w]
                                    rfl
                                  exact norm_ (by first | (simp only [putAll, Act.put, List.setIfInBounds_toArray, List.set_cons_zero, List.set_cons_succ]; done) | (simp only [putAll, Act.put, List.setIfInBounds_toArray, List.set_cons_zero, List.set_cons_succ]; rfl)) (hJ0_1_6 (_, _, _, gb190) _ ⟨(pR HO172), (pR HO176), (pR HO179), (pK BK190), GW190.out, GE190.out, (by repeat (first | (with_reducible first | exact HB.out | apply below_alloc | apply pw_below_drewN | apply below_drew1 | refine below_set ?_ GE190.out) | exact HB.out))⟩)
                            · skip
                              rintro ⟨v171, v175, v178, gb190⟩ w31 ⟨h0_, h1_, h2_, h3_, h4_, h5_, h6_⟩
                              have n0_ : Aside0 (Kd.R (Kd.int .u8) 5 w31 w.heap.size (fun k_ => some k_ ≠ (v175 : Value).ownBlock ∧ some k_ ≠ (v178 : Value).ownBlock) v171 t170) := ⟨h0_⟩
                              have n1_ : Aside0 (Kd.R (Kd.int .u8) 5 w31 w.heap.size (fun k_ => some k_ ≠ (v171 : Value).ownBlock ∧ some k_ ≠ (v178 : Value).ownBlock) v175 t174) := ⟨h1_⟩
                              have n2_ : Aside0 (Kd.R (Kd.int .u8) 5 w31 w.heap.size (fun k_ => some k_ ≠ (v171 : Value).ownBlock ∧ some k_ ≠ (v175 : Value).ownBlock) v178 y177) := ⟨h2_⟩
                              have n3_ : Aside0 (w31.heap[gb190]? = some (.cells #[.slice none 0 0, .int .i64 0, .slice none 0 0] 24 (0, 0))) := ⟨h3_⟩
                              have n4_ : Aside0 (w.heap.size ≤ gb190) := ⟨h4_⟩
                              have n5_ : Aside0 (w.heap.size ≤ gb190) := ⟨h5_⟩
                              have n6_ : Aside0 (Below w.heap.size w w31) := ⟨h6_⟩
                              clear HB
                              clear h0_ h1_ h2_ h3_ h4_ h5_ h6_
                              have HO172 := n0_
                              have HO176 := n1_
                              have HO179 := n2_
                              have BK190 := n3_
                              have GW190 := n4_
                              have GE190 := n5_
                              have HB := n6_
                              clear n0_ n1_ n2_ n3_ n4_ n5_ n6_
                              have hHeld := trivial
                              obtain ⟨Ao32, co32, eo32⟩ := Kd.R_slice HO172.out
                              (first | subst eo32 | (injection eo32 with f1_ f2_ f3_; have f4_ := f1_.symm; have f5_ := f3_.symm; clear f1_ f2_ f3_; subst f4_; subst f5_))
                              obtain ⟨Ao33, co33, eo33⟩ := Kd.R_slice HO176.out
                              (first | subst eo33 | (injection eo33 with f1_ f2_ f3_; have f4_ := f1_.symm; have f5_ := f3_.symm; clear f1_ f2_ f3_; subst f4_; subst f5_))
                              obtain ⟨Ao34, co34, eo34⟩ := Kd.R_slice HO179.out
                              (first | subst eo34 | (injection eo34 with f1_ f2_ f3_; have f4_ := f1_.symm; have f5_ := f3_.symm; clear f1_ f2_ f3_; subst f4_; subst f5_))
                              refine norm_ (a' := ?_) ?_ ?_
                              rotate_left
                              · simp only [putAll, Act.put, List.setIfInBounds_toArray, List.set_cons_zero, List.set_cons_succ]
                                rfl
                              refine one_ (i := 2) (N := some 14) #[true, true, true, false, false, false, true, false, false] rfl rfl (one_of HT_.out (by kernel_rfl)) (by decide) (fun K hK => ?_)
                              refine goes_ Try.func8 (by kernel_rfl) rfl #[.agg #[.slice Ao32 t170.length co32, .int .i64 t173, .slice Ao33 t174.length co33], .slice Ao34 y177.length co34] (by rfl) rfl rfl pM ?_
                              with_reducible refine (packstream_Write.calls _ _ t170 t173 _ _ t174 _ _ y177 t180 t183 t184 t187 _ ?side1 ?side2 ?side3 ?side4 ?side5 ?side6 A3.out).mono ?_
                              (case side1 => repeat (first | exact (Kd.R_reads' HO172.out).2.2 | (with_reducible refine Kd.C_alloc ?_ _) | (with_reducible refine Kd.C_drewN ?_ _) | (with_reducible refine Kd.C_drew ?_)))
                              (case side2 => exact (Kd.R_reads' HO172.out).2.1)
                              (case side3 => repeat (first | exact (Kd.R_reads' HO176.out).2.2 | (with_reducible refine Kd.C_alloc ?_ _) | (with_reducible refine Kd.C_drewN ?_ _) | (with_reducible refine Kd.C_drew ?_)))
                              (case side4 => exact (Kd.R_reads' HO176.out).2.1)
                              (case side5 => repeat (first | exact (Kd.R_reads' HO179.out).2.2 | (with_reducible refine Kd.C_alloc ?_ _) | (with_reducible refine Kd.C_drewN ?_ _) | (with_reducible refine Kd.C_drew ?_)))
                              (case side6 => exact (Kd.R_reads' HO179.out).2.1)
                              rintro e w35 ⟨v181, v185, v188, rfl, ho0, ho1, ho2, hb⟩
                              refine ⟨_, rfl, ?_⟩
                              have n0_ := Aside0.mk (Kd.R_mono (Kd.R_told (Kd.R_told (Kd.R_told (Kd.R_old (pR HO172) hb) (Kd.R_base ho0)) (Kd.R_base ho1)) (Kd.R_base ho2)) (fun _ h_ => h_.1))
                              have n1_ := Aside0.mk (Kd.R_mono (Kd.R_told (Kd.R_told (Kd.R_told (Kd.R_old (pR HO176) hb) (Kd.R_base ho0)) (Kd.R_base ho1)) (Kd.R_base ho2)) (fun _ h_ => h_.1))
                              have n2_ := Aside0.mk (Kd.R_mono (Kd.R_told (Kd.R_told (Kd.R_told (Kd.R_old (pR HO179) hb) (Kd.R_base ho0)) (Kd.R_base ho1)) (Kd.R_base ho2)) (fun _ h_ => h_.1))
                              have n3_ := Aside0.mk (Kd.R_lower (Kd.R_new' (Kd.R_new' (Kd.R_new' ho0 (Kd.R_lt (pR HO172))) (Kd.R_lt (pR HO176))) (Kd.R_lt (pR HO179))) (below_size (by repeat (first | (with_reducible first | exact HB.out | apply below_alloc | apply pw_below_drewN | apply below_drew1 | refine below_set ?_ GE190.out) | exact HB.out))))
                              have n4_ := Aside0.mk (Kd.R_lower (Kd.R_new' (Kd.R_new' (Kd.R_new' ho1 (Kd.R_lt (pR HO172))) (Kd.R_lt (pR HO176))) (Kd.R_lt (pR HO179))) (below_size (by repeat (first | (with_reducible first | exact HB.out | apply below_alloc | apply pw_below_drewN | apply below_drew1 | refine below_set ?_ GE190.out) | exact HB.out))))
                              have n5_ := Aside0.mk (Kd.R_lower (Kd.R_new' (Kd.R_new' (Kd.R_new' ho2 (Kd.R_lt (pR HO172))) (Kd.R_lt (pR HO176))) (Kd.R_lt (pR HO179))) (below_size (by repeat (first | (with_reducible first | exact HB.out | apply below_alloc | apply pw_below_drewN | apply below_drew1 | refine below_set ?_ GE190.out) | exact HB.out))))
                              have n6_ := Aside0.mk (blk_below (g := gb190) (o := .cells #[.slice none 0 0, .int .i64 0, .slice none 0 0] 24 (0, 0)) (pK BK190) hb)
                              have n7_ := Aside0.mk (below_step (by repeat (first | (with_reducible first | exact HB.out | apply below_alloc | apply pw_below_drewN | apply below_drew1 | refine below_set ?_ GE190.out) | exact HB.out)) hb)
                              clear HO172
                              clear HO176
                              clear HO179
                              clear BK190
                              clear HB
                              have HO172 := n0_
                              have HO176 := n1_
                              have HO179 := n2_
                              have HO182 := n3_
                              have HO186 := n4_
                              have HO189 := n5_
                              have BK190 := n6_
                              have HB := n7_
                              clear n0_ n1_ n2_ n3_ n4_ n5_ n6_ n7_
                              (try clear hb)
                              (try clear hb2)
                              (try clear hk)
                              (try clear hi)
                              (try clear ho0)
                              (try clear ho1)
                              (try clear ho2)
                              refine hK.out _ _ trivial (fun hHeld => ?_)
                              clear hK K
                              refine norm_ (a' := ?_) ?_ ?_
                              rotate_left
                              · show Act.put _ (some 14) _ = _
                                simp only [Act.put, List.setIfInBounds_toArray, List.set_cons_zero, List.set_cons_succ, i64_w, i32_w]
                                rfl
                              refine pure_ (i := 3) (N := some 11) (v := ?_) (a' := ?_) #[true, true, true, true, false, false, true, false, false] rfl rfl (any_of HT_.out (by kernel_rfl)) (fun _ _ _ h => h) (Or.inl ⟨by rfl, ?_⟩) ?_ ?_
                              rotate_left
                              · intro w'
                                go_simp
                                with_reducible rfl
                              rotate_left
                              · simp only [Act.put, List.setIfInBounds_toArray, List.set_cons_zero, List.set_cons_succ, i64_w, i32_w]
                                rfl
                              refine pure_ (i := 4) (N := some 15) (v := ?_) (a' := ?_) #[true, true, true, true, true, false, true, false, false] rfl rfl (any_of HT_.out (by kernel_rfl)) (fun _ _ _ h => h) (Or.inl ⟨by rfl, ?_⟩) ?_ ?_
                              rotate_left
                              · intro w'
                                go_simp
                                with_reducible rfl
                              rotate_left
                              · simp only [Act.put, List.setIfInBounds_toArray, List.set_cons_zero, List.set_cons_succ, i64_w, i32_w]
                                rfl
                              refine pure_ (i := 5) (N := some 16) (v := ?_) (a' := ?_) #[true, true, true, true, true, true, true, false, false] rfl rfl (any_of HT_.out (by kernel_rfl)) (fun _ _ _ h => h) (Or.inl ⟨by rfl, ?_⟩) ?_ ?_
                              rotate_left
                              · intro w'
                                go_simp
                                with_reducible rfl
                              rotate_left
                              · simp only [Act.put, List.setIfInBounds_toArray, List.set_cons_zero, List.set_cons_succ, i64_w, i32_w]
                                rfl
                              exact norm_ (by first | (simp only [putAll, Act.put, List.setIfInBounds_toArray, List.set_cons_zero, List.set_cons_succ]; done) | (simp only [putAll, Act.put, List.setIfInBounds_toArray, List.set_cons_zero, List.set_cons_succ]; rfl)) (hJ0_1_2_6 (.slice Ao32 t170.length co32, .slice Ao33 t174.length co33, .slice Ao34 y177.length co34, v181, v185, v188, gb190) _ ⟨(by (with_reducible repeat (first | apply Kd.R_alloc | apply Kd.R_drewN | apply Kd.R_drew)); exact Kd.R_mono HO172.out (fun _ hk => ⟨hk.1.1.1.1, ⟨hk.1.1.1.2, ⟨hk.1.1.2, ⟨hk.1.2, hk.2⟩⟩⟩⟩)), (by (with_reducible repeat (first | apply Kd.R_alloc | apply Kd.R_drewN | apply Kd.R_drew)); exact Kd.R_mono HO176.out (fun _ hk => ⟨hk.1.1.1.1, ⟨hk.1.1.1.2, ⟨hk.1.1.2, ⟨hk.1.2, hk.2⟩⟩⟩⟩)), (by (with_reducible repeat (first | apply Kd.R_alloc | apply Kd.R_drewN | apply Kd.R_drew)); exact Kd.R_mono HO179.out (fun _ hk => ⟨hk.1.1.1.1, ⟨hk.1.1.1.2, ⟨hk.1.1.2, ⟨hk.1.2, hk.2⟩⟩⟩⟩)), (by (with_reducible repeat (first | apply Kd.R_alloc | apply Kd.R_drewN | apply Kd.R_drew)); exact Kd.R_mono HO182.out (fun _ hk => ⟨hk.1.1.2, ⟨hk.1.2, ⟨hk.2, ⟨hk.1.1.1.1, hk.1.1.1.2⟩⟩⟩⟩)), (by (with_reducible repeat (first | apply Kd.R_alloc | apply Kd.R_drewN | apply Kd.R_drew)); exact Kd.R_mono HO186.out (fun _ hk => ⟨hk.1.1.2, ⟨hk.1.2, ⟨hk.2, ⟨hk.1.1.1.1, hk.1.1.1.2⟩⟩⟩⟩)), (by (with_reducible repeat (first | apply Kd.R_alloc | apply Kd.R_drewN | apply Kd.R_drew)); exact Kd.R_mono HO189.out (fun _ hk => ⟨hk.1.1.2, ⟨hk.1.2, ⟨hk.2, ⟨hk.1.1.1.1, hk.1.1.1.2⟩⟩⟩⟩)), (pK BK190), GW190.out, GE190.out, (by repeat (first | (with_reducible first | exact HB.out | apply below_alloc | apply pw_below_drewN | apply below_drew1 | refine below_set ?_ GE190.out) | exact HB.out))⟩)
                          · skip
                            rintro ⟨v171, v175, v178, v181, v185, v188⟩ w34 ⟨h0_, h1_, h2_, h3_, h4_, h5_, h6_⟩
                            have n0_ : Aside0 (Kd.R (Kd.int .u8) 5 w34 w.heap.size (fun k_ => some k_ ≠ (v175 : Value).ownBlock ∧ some k_ ≠ (v178 : Value).ownBlock ∧ some k_ ≠ (v181 : Value).ownBlock ∧ some k_ ≠ (v185 : Value).ownBlock ∧ some k_ ≠ (v188 : Value).ownBlock) v171 t170) := ⟨h0_⟩
                            have n1_ : Aside0 (Kd.R (Kd.int .u8) 5 w34 w.heap.size (fun k_ => some k_ ≠ (v171 : Value).ownBlock ∧ some k_ ≠ (v178 : Value).ownBlock ∧ some k_ ≠ (v181 : Value).ownBlock ∧ some k_ ≠ (v185 : Value).ownBlock ∧ some k_ ≠ (v188 : Value).ownBlock) v175 t174) := ⟨h1_⟩
                            have n2_ : Aside0 (Kd.R (Kd.int .u8) 5 w34 w.heap.size (fun k_ => some k_ ≠ (v171 : Value).ownBlock ∧ some k_ ≠ (v175 : Value).ownBlock ∧ some k_ ≠ (v181 : Value).ownBlock ∧ some k_ ≠ (v185 : Value).ownBlock ∧ some k_ ≠ (v188 : Value).ownBlock) v178 y177) := ⟨h2_⟩
                            have n3_ : Aside0 (Kd.R (Kd.int .u8) 5 w34 w.heap.size (fun k_ => some k_ ≠ (v171 : Value).ownBlock ∧ some k_ ≠ (v175 : Value).ownBlock ∧ some k_ ≠ (v178 : Value).ownBlock ∧ some k_ ≠ (v185 : Value).ownBlock ∧ some k_ ≠ (v188 : Value).ownBlock) v181 t180) := ⟨h3_⟩
                            have n4_ : Aside0 (Kd.R (Kd.int .u8) 5 w34 w.heap.size (fun k_ => some k_ ≠ (v171 : Value).ownBlock ∧ some k_ ≠ (v175 : Value).ownBlock ∧ some k_ ≠ (v178 : Value).ownBlock ∧ some k_ ≠ (v181 : Value).ownBlock ∧ some k_ ≠ (v188 : Value).ownBlock) v185 t184) := ⟨h4_⟩
                            have n5_ : Aside0 (Kd.R (Kd.int .u8) 5 w34 w.heap.size (fun k_ => some k_ ≠ (v171 : Value).ownBlock ∧ some k_ ≠ (v175 : Value).ownBlock ∧ some k_ ≠ (v178 : Value).ownBlock ∧ some k_ ≠ (v181 : Value).ownBlock ∧ some k_ ≠ (v185 : Value).ownBlock) v188 t187) := ⟨h5_⟩
                            have n6_ : Aside0 (Below w.heap.size w w34) := ⟨h6_⟩
                            clear HB
                            clear h0_ h1_ h2_ h3_ h4_ h5_ h6_
                            have HO172 := n0_
                            have HO176 := n1_
                            have HO179 := n2_
                            have HO182 := n3_
                            have HO186 := n4_
                            have HO189 := n5_
                            have HB := n6_
                            clear n0_ n1_ n2_ n3_ n4_ n5_ n6_
                            have hHeld := trivial
                            refine norm_ (a' := ?_) ?_ ?_
                            rotate_left
                            · simp only [putAll, Act.put, List.setIfInBounds_toArray, List.set_cons_zero, List.set_cons_succ]
                              rfl
                            refine one_ (i := 6) (N := some 1) #[true, true, true, true, true, true, true, false, false] rfl rfl (one_of HT_.out (by kernel_rfl)) (by decide) (fun K hK => ?_)
                            refine box_step ?hg (N := 1) ?hd (cs := #[.slice none 0 0, .int .i64 0, .slice none 0 0]) (t := 24) ?hr ?_; (case hd => rfl); (case hg => rfl); (case hr => first | (go_simp; done) | (go_simp; rfl))
                            intro gb190 hg w35 hbox hb
                            have n0_ := Aside0.mk (Kd.R_below (pR HO172) hb)
                            have n1_ := Aside0.mk (Kd.R_below (pR HO176) hb)
                            have n2_ := Aside0.mk (Kd.R_below (pR HO179) hb)
                            have n3_ := Aside0.mk (Kd.R_below (pR HO182) hb)
                            have n4_ := Aside0.mk (Kd.R_below (pR HO186) hb)
                            have n5_ := Aside0.mk (Kd.R_below (pR HO189) hb)
                            have n6_ := Aside0.mk (below_step pB hb)
                            have n7_ := Aside0.mk (hbox)
                            have n8_ := Aside0.mk ((by rw [hg]; exact (below_size pB) : w.heap.size ≤ gb190))
                            have n9_ := Aside0.mk ((by rw [hg]; exact (below_size pB) : w.heap.size ≤ gb190))
                            clear HO172
                            clear HO176
                            clear HO179
                            clear HO182
                            clear HO186
                            clear HO189
                            clear HB
                            have HO172 := n0_
                            have HO176 := n1_
                            have HO179 := n2_
                            have HO182 := n3_
                            have HO186 := n4_
                            have HO189 := n5_
                            have HB := n6_
                            have BK190 := n7_
                            have GW190 := n8_
                            have GE190 := n9_
                            clear n0_ n1_ n2_ n3_ n4_ n5_ n6_ n7_ n8_ n9_
                            clear hb hbox hg
                            refine hK.out _ _ trivial (fun hHeld => ?_)
                            clear hK K
                            refine norm_ (a' := ?_) ?_ ?_
                            rotate_left
                            · show Act.put _ (some 1) _ = _
                              simp only [Act.put, List.setIfInBounds_toArray, List.set_cons_zero, List.set_cons_succ, i64_w, i32_w]
                              rfl
                            exact norm_ (by first | (simp only [putAll, Act.put, List.setIfInBounds_toArray, List.set_cons_zero, List.set_cons_succ]; done) | (simp only [putAll, Act.put, List.setIfInBounds_toArray, List.set_cons_zero, List.set_cons_succ]; rfl)) (hJ0_1_2_6 (v171, v175, v178, v181, v185, v188, gb190) _ ⟨(pR HO172), (pR HO176), (pR HO179), (pR HO182), (pR HO186), (pR HO189), (pK BK190), GW190.out, GE190.out, (by repeat (first | (with_reducible first | exact HB.out | apply below_alloc | apply pw_below_drewN | apply below_drew1 | refine below_set ?_ GE190.out) | exact HB.out))⟩)
                        rintro ⟨v171, v175, v178, v181, v185, v188, gb190⟩ w35 ⟨h0_, h1_, h2_, h3_, h4_, h5_, h6_, h7_, h8_, h9_⟩
                        have n0_ : Aside0 (Kd.R (Kd.int .u8) 5 w35 w.heap.size (fun k_ => some k_ ≠ (v175 : Value).ownBlock ∧ some k_ ≠ (v178 : Value).ownBlock ∧ some k_ ≠ (v181 : Value).ownBlock ∧ some k_ ≠ (v185 : Value).ownBlock ∧ some k_ ≠ (v188 : Value).ownBlock) v171 t170) := ⟨h0_⟩
                        have n1_ : Aside0 (Kd.R (Kd.int .u8) 5 w35 w.heap.size (fun k_ => some k_ ≠ (v171 : Value).ownBlock ∧ some k_ ≠ (v178 : Value).ownBlock ∧ some k_ ≠ (v181 : Value).ownBlock ∧ some k_ ≠ (v185 : Value).ownBlock ∧ some k_ ≠ (v188 : Value).ownBlock) v175 t174) := ⟨h1_⟩
                        have n2_ : Aside0 (Kd.R (Kd.int .u8) 5 w35 w.heap.size (fun k_ => some k_ ≠ (v171 : Value).ownBlock ∧ some k_ ≠ (v175 : Value).ownBlock ∧ some k_ ≠ (v181 : Value).ownBlock ∧ some k_ ≠ (v185 : Value).ownBlock ∧ some k_ ≠ (v188 : Value).ownBlock) v178 y177) := ⟨h2_⟩
                        have n3_ : Aside0 (Kd.R (Kd.int .u8) 5 w35 w.heap.size (fun k_ => some k_ ≠ (v171 : Value).ownBlock ∧ some k_ ≠ (v175 : Value).ownBlock ∧ some k_ ≠ (v178 : Value).ownBlock ∧ some k_ ≠ (v185 : Value).ownBlock ∧ some k_ ≠ (v188 : Value).ownBlock) v181 t180) := ⟨h3_⟩
                        have n4_ : Aside0 (Kd.R (Kd.int .u8) 5 w35 w.heap.size (fun k_ => some k_ ≠ (v171 : Value).ownBlock ∧ some k_ ≠ (v175 : Value).ownBlock ∧ some k_ ≠ (v178 : Value).ownBlock ∧ some k_ ≠ (v181 : Value).ownBlock ∧ some k_ ≠ (v188 : Value).ownBlock) v185 t184) := ⟨h4_⟩
                        have n5_ : Aside0 (Kd.R (Kd.int .u8) 5 w35 w.heap.size (fun k_ => some k_ ≠ (v171 : Value).ownBlock ∧ some k_ ≠ (v175 : Value).ownBlock ∧ some k_ ≠ (v178 : Value).ownBlock ∧ some k_ ≠ (v181 : Value).ownBlock ∧ some k_ ≠ (v185 : Value).ownBlock) v188 t187) := ⟨h5_⟩
                        have n6_ : Aside0 (w35.heap[gb190]? = some (.cells #[.slice none 0 0, .int .i64 0, .slice none 0 0] 24 (0, 0))) := ⟨h6_⟩
                        have n7_ : Aside0 (w.heap.size ≤ gb190) := ⟨h7_⟩
                        have n8_ : Aside0 (w.heap.size ≤ gb190) := ⟨h8_⟩
                        have n9_ : Aside0 (Below w.heap.size w w35) := ⟨h9_⟩
                        clear HB
                        clear h0_ h1_ h2_ h3_ h4_ h5_ h6_ h7_ h8_ h9_
                        have HO172 := n0_
                        have HO176 := n1_
                        have HO179 := n2_
                        have HO182 := n3_
                        have HO186 := n4_
                        have HO189 := n5_
                        have BK190 := n6_
                        have GW190 := n7_
                        have GE190 := n8_
                        have HB := n9_
                        clear n0_ n1_ n2_ n3_ n4_ n5_ n6_ n7_ n8_ n9_
                        have hHeld := trivial
                        obtain ⟨Ao36, co36, eo36⟩ := Kd.R_slice HO182.out
                        (first | subst eo36 | (injection eo36 with f1_ f2_ f3_; have f4_ := f1_.symm; have f5_ := f3_.symm; clear f1_ f2_ f3_; subst f4_; subst f5_))
                        obtain ⟨Ao39, co39, eo39⟩ := Kd.R_slice HO186.out
                        (first | subst eo39 | (injection eo39 with f1_ f2_ f3_; have f4_ := f1_.symm; have f5_ := f3_.symm; clear f1_ f2_ f3_; subst f4_; subst f5_))
                        refine norm_ (a' := ?_) ?_ ?_
                        rotate_left
                        · simp only [putAll, Act.put, List.setIfInBounds_toArray, List.set_cons_zero, List.set_cons_succ]
                          rfl
                        refine one_ (i := 7) (N := none) #[true, true, true, true, true, true, true, true, false] rfl rfl (one_of HT_.out (by kernel_rfl)) (by decide) (fun K hK => ?_)
                        have hs37 : w35.cell? ⟨gb190, 0, none⟩ = some (.slice none 0 0) := (blk_cell BK190.out 0).trans rfl
                        have hfs37 := blk_frozen BK190.out 0
                        have hs38 : w35.cell? ⟨gb190, 1, none⟩ = some (.int .i64 0) := (blk_cell BK190.out 1).trans rfl
                        have hfs38 := blk_frozen BK190.out 1
                        have hs40 : w35.cell? ⟨gb190, 2, none⟩ = some (.slice none 0 0) := (blk_cell BK190.out 2).trans rfl
                        have hfs40 := blk_frozen BK190.out 2
                        refine skip_ (w1 := ?_) (by rfl) rfl ?_ ?_
                        rotate_left
                        · go_simp
                          rfl
                        refine hK.out _ _ trivial (fun hHeld => ?_)
                        clear hK K
                        refine pure_ (i := 8) (N := some 2) (v := ?_) (a' := ?_) #[true, true, true, true, true, true, true, true, true] rfl rfl (any_of HT_.out (by kernel_rfl)) (fun _ _ _ h => h) (Or.inl ⟨by rfl, ?_⟩) ?_ ?_
                        rotate_left
                        · intro w'
                          go_simp
                          with_reducible rfl
                        rotate_left
                        · simp only [Act.put, List.setIfInBounds_toArray, List.set_cons_zero, List.set_cons_succ, i64_w, i32_w]
                          rfl
                        refine done_ (done_of HT_.out (by kernel_rfl)) ?_
                        have hcz41_0 : w35.cell? ⟨gb190, 0, none⟩ = some (.slice none 0 0) := (blk_cell BK190.out 0).trans rfl
                        have hcz41_1 : w35.cell? ⟨gb190, 1, none⟩ = some (.int .i64 0) := (blk_cell BK190.out 1).trans rfl
                        have hcz41_2 : w35.cell? ⟨gb190, 2, none⟩ = some (.slice none 0 0) := (blk_cell BK190.out 2).trans rfl
                        have hfz41_0 := blk_frozen BK190.out 0
                        have hfz41_1 := blk_frozen BK190.out 1
                        have hfz41_2 := blk_frozen BK190.out 2
                        try go_wp2_with (first | ((with_reducible refine gate_callee (f := 9) rfl ?_); refine goesL_ (some 19) rfl rfl Try.func9 (by kernel_rfl) rfl #[.agg #[.slice Ao36 t180.length co36, .int .i64 t183, .slice Ao39 t184.length co39]] rfl pM ?_; (with_reducible refine (packstream_Close.calls k _ _ t180 t183 _ _ t184 t191 t194 _ ?side1 ?side2 ?side3 ?side4 A4.out).mono ?_); (case side1 => refine (Kd.R_reads' (e := 5) (base := w.heap.size) (ok := fun k_ => (some k_ ≠ (v171 : Value).ownBlock ∧ (some k_ ≠ (v175 : Value).ownBlock ∧ (some k_ ≠ (v178 : Value).ownBlock ∧ (some k_ ≠ (.slice Ao39 t184.length co39 : Value).ownBlock ∧ some k_ ≠ (v188 : Value).ownBlock))))) (n := t180.length) (c := co36) ?_).2.2; exact (by (with_reducible repeat (first | apply Kd.R_alloc | apply Kd.R_drewN | apply Kd.R_drew)); exact (Kd.R_mono (Kd.R_far (p := ⟨gb190, 2, none⟩) (Kd.R_far (p := ⟨gb190, 1, none⟩) (Kd.R_far (p := ⟨gb190, 0, none⟩) (Kd.R_types HO182.out BK190.out (by decide)) (fun _ hk => hk.2) (.slice Ao36 t180.length co36)) (fun _ hk => hk.2) (.int .i64 t183)) (fun _ hk => hk.2) (.slice Ao39 t184.length co39)) (fun _ h_ => h_.1)))); (case side2 => exact (Kd.R_reads' HO182.out).2.1); (case side3 => refine (Kd.R_reads' (e := 5) (base := w.heap.size) (ok := fun k_ => (some k_ ≠ (v171 : Value).ownBlock ∧ (some k_ ≠ (v175 : Value).ownBlock ∧ (some k_ ≠ (v178 : Value).ownBlock ∧ (some k_ ≠ (.slice Ao36 t180.length co36 : Value).ownBlock ∧ some k_ ≠ (v188 : Value).ownBlock))))) (n := t184.length) (c := co39) ?_).2.2; exact (by (with_reducible repeat (first | apply Kd.R_alloc | apply Kd.R_drewN | apply Kd.R_drew)); exact (Kd.R_mono (Kd.R_far (p := ⟨gb190, 2, none⟩) (Kd.R_far (p := ⟨gb190, 1, none⟩) (Kd.R_far (p := ⟨gb190, 0, none⟩) (Kd.R_types HO186.out BK190.out (by decide)) (fun _ hk => hk.2) (.slice Ao36 t180.length co36)) (fun _ hk => hk.2) (.int .i64 t183)) (fun _ hk => hk.2) (.slice Ao39 t184.length co39)) (fun _ h_ => h_.1)))); (case side4 => exact (Kd.R_reads' HO186.out).2.1); rintro e w42 ⟨v192, rfl, ho0, hb⟩; refine ⟨_, rfl, ?_⟩; have n0_ := Aside0.mk (Kd.R_elder' (by (with_reducible repeat (first | apply Kd.R_alloc | apply Kd.R_drewN | apply Kd.R_drew)); exact (Kd.R_mono (Kd.R_far (p := ⟨gb190, 2, none⟩) (Kd.R_far (p := ⟨gb190, 1, none⟩) (Kd.R_far (p := ⟨gb190, 0, none⟩) (Kd.R_types HO172.out BK190.out (by decide)) (fun _ hk => hk.2) (.slice Ao36 t180.length co36)) (fun _ hk => hk.2) (.int .i64 t183)) (fun _ hk => hk.2) (.slice Ao39 t184.length co39)) (fun _ h_ => h_.1))) (Kd.R_base ho0) hb); have n1_ := Aside0.mk (Kd.R_elder' (by (with_reducible repeat (first | apply Kd.R_alloc | apply Kd.R_drewN | apply Kd.R_drew)); exact (Kd.R_mono (Kd.R_far (p := ⟨gb190, 2, none⟩) (Kd.R_far (p := ⟨gb190, 1, none⟩) (Kd.R_far (p := ⟨gb190, 0, none⟩) (Kd.R_types HO176.out BK190.out (by decide)) (fun _ hk => hk.2) (.slice Ao36 t180.length co36)) (fun _ hk => hk.2) (.int .i64 t183)) (fun _ hk => hk.2) (.slice Ao39 t184.length co39)) (fun _ h_ => h_.1))) (Kd.R_base ho0) hb); have n2_ := Aside0.mk (Kd.R_elder' (by (with_reducible repeat (first | apply Kd.R_alloc | apply Kd.R_drewN | apply Kd.R_drew)); exact (Kd.R_mono (Kd.R_far (p := ⟨gb190, 2, none⟩) (Kd.R_far (p := ⟨gb190, 1, none⟩) (Kd.R_far (p := ⟨gb190, 0, none⟩) (Kd.R_types HO179.out BK190.out (by decide)) (fun _ hk => hk.2) (.slice Ao36 t180.length co36)) (fun _ hk => hk.2) (.int .i64 t183)) (fun _ hk => hk.2) (.slice Ao39 t184.length co39)) (fun _ h_ => h_.1))) (Kd.R_base ho0) hb); have n3_ := Aside0.mk (Kd.R_elder' (by (with_reducible repeat (first | apply Kd.R_alloc | apply Kd.R_drewN | apply Kd.R_drew)); exact (Kd.R_mono (Kd.R_far (p := ⟨gb190, 2, none⟩) (Kd.R_far (p := ⟨gb190, 1, none⟩) (Kd.R_far (p := ⟨gb190, 0, none⟩) (Kd.R_types HO182.out BK190.out (by decide)) (fun _ hk => hk.2) (.slice Ao36 t180.length co36)) (fun _ hk => hk.2) (.int .i64 t183)) (fun _ hk => hk.2) (.slice Ao39 t184.length co39)) (fun _ h_ => h_.1))) (Kd.R_base ho0) hb); have n4_ := Aside0.mk (Kd.R_elder' (by (with_reducible repeat (first | apply Kd.R_alloc | apply Kd.R_drewN | apply Kd.R_drew)); exact (Kd.R_mono (Kd.R_far (p := ⟨gb190, 2, none⟩) (Kd.R_far (p := ⟨gb190, 1, none⟩) (Kd.R_far (p := ⟨gb190, 0, none⟩) (Kd.R_types HO186.out BK190.out (by decide)) (fun _ hk => hk.2) (.slice Ao36 t180.length co36)) (fun _ hk => hk.2) (.int .i64 t183)) (fun _ hk => hk.2) (.slice Ao39 t184.length co39)) (fun _ h_ => h_.1))) (Kd.R_base ho0) hb); have n5_ := Aside0.mk (Kd.R_elder' (by (with_reducible repeat (first | apply Kd.R_alloc | apply Kd.R_drewN | apply Kd.R_drew)); exact (Kd.R_mono (Kd.R_far (p := ⟨gb190, 2, none⟩) (Kd.R_far (p := ⟨gb190, 1, none⟩) (Kd.R_far (p := ⟨gb190, 0, none⟩) (Kd.R_types HO189.out BK190.out (by decide)) (fun _ hk => hk.2) (.slice Ao36 t180.length co36)) (fun _ hk => hk.2) (.int .i64 t183)) (fun _ hk => hk.2) (.slice Ao39 t184.length co39)) (fun _ h_ => h_.1))) (Kd.R_base ho0) hb); have n6_ := Aside0.mk (Kd.R_lower (Kd.R_new' (Kd.R_new' (Kd.R_new' (Kd.R_new' (Kd.R_new' (Kd.R_new' ho0 (Kd.R_lt (by (with_reducible repeat (first | apply Kd.R_alloc | apply Kd.R_drewN | apply Kd.R_drew)); exact (Kd.R_mono (Kd.R_far (p := ⟨gb190, 2, none⟩) (Kd.R_far (p := ⟨gb190, 1, none⟩) (Kd.R_far (p := ⟨gb190, 0, none⟩) (Kd.R_types HO172.out BK190.out (by decide)) (fun _ hk => hk.2) (.slice Ao36 t180.length co36)) (fun _ hk => hk.2) (.int .i64 t183)) (fun _ hk => hk.2) (.slice Ao39 t184.length co39)) (fun _ h_ => h_.1))))) (Kd.R_lt (by (with_reducible repeat (first | apply Kd.R_alloc | apply Kd.R_drewN | apply Kd.R_drew)); exact (Kd.R_mono (Kd.R_far (p := ⟨gb190, 2, none⟩) (Kd.R_far (p := ⟨gb190, 1, none⟩) (Kd.R_far (p := ⟨gb190, 0, none⟩) (Kd.R_types HO176.out BK190.out (by decide)) (fun _ hk => hk.2) (.slice Ao36 t180.length co36)) (fun _ hk => hk.2) (.int .i64 t183)) (fun _ hk => hk.2) (.slice Ao39 t184.length co39)) (fun _ h_ => h_.1))))) (Kd.R_lt (by (with_reducible repeat (first | apply Kd.R_alloc | apply Kd.R_drewN | apply Kd.R_drew)); exact (Kd.R_mono (Kd.R_far (p := ⟨gb190, 2, none⟩) (Kd.R_far (p := ⟨gb190, 1, none⟩) (Kd.R_far (p := ⟨gb190, 0, none⟩) (Kd.R_types HO179.out BK190.out (by decide)) (fun _ hk => hk.2) (.slice Ao36 t180.length co36)) (fun _ hk => hk.2) (.int .i64 t183)) (fun _ hk => hk.2) (.slice Ao39 t184.length co39)) (fun _ h_ => h_.1))))) (Kd.R_lt (by (with_reducible repeat (first | apply Kd.R_alloc | apply Kd.R_drewN | apply Kd.R_drew)); exact (Kd.R_mono (Kd.R_far (p := ⟨gb190, 2, none⟩) (Kd.R_far (p := ⟨gb190, 1, none⟩) (Kd.R_far (p := ⟨gb190, 0, none⟩) (Kd.R_types HO182.out BK190.out (by decide)) (fun _ hk => hk.2) (.slice Ao36 t180.length co36)) (fun _ hk => hk.2) (.int .i64 t183)) (fun _ hk => hk.2) (.slice Ao39 t184.length co39)) (fun _ h_ => h_.1))))) (Kd.R_lt (by (with_reducible repeat (first | apply Kd.R_alloc | apply Kd.R_drewN | apply Kd.R_drew)); exact (Kd.R_mono (Kd.R_far (p := ⟨gb190, 2, none⟩) (Kd.R_far (p := ⟨gb190, 1, none⟩) (Kd.R_far (p := ⟨gb190, 0, none⟩) (Kd.R_types HO186.out BK190.out (by decide)) (fun _ hk => hk.2) (.slice Ao36 t180.length co36)) (fun _ hk => hk.2) (.int .i64 t183)) (fun _ hk => hk.2) (.slice Ao39 t184.length co39)) (fun _ h_ => h_.1))))) (Kd.R_lt (by (with_reducible repeat (first | apply Kd.R_alloc | apply Kd.R_drewN | apply Kd.R_drew)); exact (Kd.R_mono (Kd.R_far (p := ⟨gb190, 2, none⟩) (Kd.R_far (p := ⟨gb190, 1, none⟩) (Kd.R_far (p := ⟨gb190, 0, none⟩) (Kd.R_types HO189.out BK190.out (by decide)) (fun _ hk => hk.2) (.slice Ao36 t180.length co36)) (fun _ hk => hk.2) (.int .i64 t183)) (fun _ hk => hk.2) (.slice Ao39 t184.length co39)) (fun _ h_ => h_.1))))) (below_size (by repeat (first | (with_reducible first | exact HB.out | apply below_alloc | apply pw_below_drewN | apply below_drew1 | refine below_set ?_ GE190.out) | exact HB.out)))); have n7_ := Aside0.mk (blk_below (g := gb190) (o := .cells #[.slice Ao36 t180.length co36, .int .i64 t183, .slice Ao39 t184.length co39] 24 (0, 0)) (by (with_reducible repeat (first | refine blk_drewN ?_ _ | refine blk_drew ?_ | refine blk_alloc ?_ _)); refine blk_put (cs := #[.slice Ao36 t180.length co36, .int .i64 t183, .slice none 0 0]) ?_ 2 _ rfl; (with_reducible repeat (first | refine blk_drewN ?_ _ | refine blk_drew ?_ | refine blk_alloc ?_ _)); refine blk_put (cs := #[.slice Ao36 t180.length co36, .int .i64 0, .slice none 0 0]) ?_ 1 _ rfl; (with_reducible repeat (first | refine blk_drewN ?_ _ | refine blk_drew ?_ | refine blk_alloc ?_ _)); refine blk_put (cs := #[.slice none 0 0, .int .i64 0, .slice none 0 0]) ?_ 0 _ rfl; (with_reducible repeat (first | refine blk_drewN ?_ _ | refine blk_drew ?_ | refine blk_alloc ?_ _)); exact BK190.out) hb); have n8_ := Aside0.mk (below_step (by repeat (first | (with_reducible first | exact HB.out | apply below_alloc | apply pw_below_drewN | apply below_drew1 | refine below_set ?_ GE190.out) | exact HB.out)) hb); clear HO172; clear HO176; clear HO179; clear HO182; clear HO186; clear HO189; clear BK190; clear HB; have HO172 := n0_; have HO176 := n1_; have HO179 := n2_; have HO182 := n3_; have HO186 := n4_; have HO189 := n5_; have HO193 := n6_; have BK190 := n7_; have HB := n8_; clear n0_ n1_ n2_ n3_ n4_ n5_ n6_ n7_ n8_; (try clear hb); (try clear hb2); (try clear hk); (try clear hi); (try clear ho0)) | ((with_reducible refine gate_callee (f := 17) rfl ?_); refine goesL_ (some 23) rfl rfl Try.func17 (by kernel_rfl) rfl #[] rfl pM ?_; (with_reducible refine (packstream_New.calls  t195 t198 t199 _ A5.out).mono ?_); rintro e w43 ⟨v196, v200, rfl, ho0, ho1, hb⟩; refine ⟨_, rfl, ?_⟩; have n0_ := Aside0.mk (Kd.R_mono (Kd.R_told (Kd.R_told (Kd.R_old (pR HO172) hb) (Kd.R_base ho0)) (Kd.R_base ho1)) (fun _ h_ => h_.1)); have n1_ := Aside0.mk (Kd.R_mono (Kd.R_told (Kd.R_told (Kd.R_old (pR HO176) hb) (Kd.R_base ho0)) (Kd.R_base ho1)) (fun _ h_ => h_.1)); have n2_ := Aside0.mk (Kd.R_mono (Kd.R_told (Kd.R_told (Kd.R_old (pR HO179) hb) (Kd.R_base ho0)) (Kd.R_base ho1)) (fun _ h_ => h_.1)); have n3_ := Aside0.mk (Kd.R_mono (Kd.R_told (Kd.R_told (Kd.R_old (pR HO182) hb) (Kd.R_base ho0)) (Kd.R_base ho1)) (fun _ h_ => h_.1)); have n4_ := Aside0.mk (Kd.R_mono (Kd.R_told (Kd.R_told (Kd.R_old (pR HO186) hb) (Kd.R_base ho0)) (Kd.R_base ho1)) (fun _ h_ => h_.1)); have n5_ := Aside0.mk (Kd.R_mono (Kd.R_told (Kd.R_told (Kd.R_old (pR HO189) hb) (Kd.R_base ho0)) (Kd.R_base ho1)) (fun _ h_ => h_.1)); have n6_ := Aside0.mk (Kd.R_mono (Kd.R_told (Kd.R_told (Kd.R_old (pR HO193) hb) (Kd.R_base ho0)) (Kd.R_base ho1)) (fun _ h_ => h_.1)); have n7_ := Aside0.mk (Kd.R_lower (Kd.R_new' (Kd.R_new' (Kd.R_new' (Kd.R_new' (Kd.R_new' (Kd.R_new' (Kd.R_new' ho0 (Kd.R_lt (pR HO172))) (Kd.R_lt (pR HO176))) (Kd.R_lt (pR HO179))) (Kd.R_lt (pR HO182))) (Kd.R_lt (pR HO186))) (Kd.R_lt (pR HO189))) (Kd.R_lt (pR HO193))) (below_size (by repeat (first | (with_reducible first | exact HB.out | apply below_alloc | apply pw_below_drewN | apply below_drew1 | refine below_set ?_ GE190.out) | exact HB.out)))); have n8_ := Aside0.mk (Kd.R_lower (Kd.R_new' (Kd.R_new' (Kd.R_new' (Kd.R_new' (Kd.R_new' (Kd.R_new' (Kd.R_new' ho1 (Kd.R_lt (pR HO172))) (Kd.R_lt (pR HO176))) (Kd.R_lt (pR HO179))) (Kd.R_lt (pR HO182))) (Kd.R_lt (pR HO186))) (Kd.R_lt (pR HO189))) (Kd.R_lt (pR HO193))) (below_size (by repeat (first | (with_reducible first | exact HB.out | apply below_alloc | apply pw_below_drewN | apply below_drew1 | refine below_set ?_ GE190.out) | exact HB.out)))); have n9_ := Aside0.mk (blk_below (g := gb190) (o := .cells #[.slice Ao36 t180.length co36, .int .i64 t183, .slice Ao39 t184.length co39] 24 (0, 0)) (pK BK190) hb); have n10_ := Aside0.mk (below_step (by repeat (first | (with_reducible first | exact HB.out | apply below_alloc | apply pw_below_drewN | apply below_drew1 | refine below_set ?_ GE190.out) | exact HB.out)) hb); clear HO172; clear HO176; clear HO179; clear HO182; clear HO186; clear HO189; clear HO193; clear BK190; clear HB; have HO172 := n0_; have HO176 := n1_; have HO179 := n2_; have HO182 := n3_; have HO186 := n4_; have HO189 := n5_; have HO193 := n6_; have HO197 := n7_; have HO201 := n8_; have BK190 := n9_; have HB := n10_; clear n0_ n1_ n2_ n3_ n4_ n5_ n6_ n7_ n8_ n9_ n10_; (try clear hb); (try clear hb2); (try clear hk); (try clear hi); (try clear ho0); (try clear ho1)) | ((with_reducible refine gate_dst (N := 24) rfl ?_); (try (refine gate_guard (by rfl) ?_; dsimp only)); refine Kd.R_lit (Kd.int .u8) _ 5 ?hg (N := 24) ?hd (xs := ([1, 2, 3] : List Int)) (inner := [.int .u8 1, .int .u8 2, .int .u8 3]) (ok := fun _ => True) (okp := fun _ => True) ?hr ?hp (fun _ hk => hk) trivial (Below.refl _ _) (Nat.le_refl _) (by simp) ?_; (case hd => rfl); (case hg => rfl); (case hr => first | (go_simp; done) | (go_simp; rfl)); (case hp => exact (Reps.one (show Kd.M (Kd.int .u8) _ _ _ 1 [.int .u8 1] from rfl) (Reps.one (show Kd.M (Kd.int .u8) _ _ _ 2 [.int .u8 2] from rfl) (Reps.one (show Kd.M (Kd.int .u8) _ _ _ 3 [.int .u8 3] from rfl) (Reps.none _ _))))); intro v203 w44 ho45 hb hg_ hnew_; clear hg_ hnew_; (first | rw [← Ny202.out] at ho45 | (simp only [Int.reduceToNat] at ho45; rw [← Ny202.out] at ho45)); have n0_ := Aside0.mk (Kd.R_elder' (pR HO172) (Kd.R_base ho45) hb); have n1_ := Aside0.mk (Kd.R_elder' (pR HO176) (Kd.R_base ho45) hb); have n2_ := Aside0.mk (Kd.R_elder' (pR HO179) (Kd.R_base ho45) hb); have n3_ := Aside0.mk (Kd.R_elder' (pR HO182) (Kd.R_base ho45) hb); have n4_ := Aside0.mk (Kd.R_elder' (pR HO186) (Kd.R_base ho45) hb); have n5_ := Aside0.mk (Kd.R_elder' (pR HO189) (Kd.R_base ho45) hb); have n6_ := Aside0.mk (Kd.R_elder' (pR HO193) (Kd.R_base ho45) hb); have n7_ := Aside0.mk (Kd.R_elder' (pR HO197) (Kd.R_base ho45) hb); have n8_ := Aside0.mk (Kd.R_elder' (pR HO201) (Kd.R_base ho45) hb); have n9_ := Aside0.mk (Kd.R_lower (Kd.R_new' (Kd.R_new' (Kd.R_new' (Kd.R_new' (Kd.R_new' (Kd.R_new' (Kd.R_new' (Kd.R_new' (Kd.R_new' ho45 (Kd.R_lt (pR HO172))) (Kd.R_lt (pR HO176))) (Kd.R_lt (pR HO179))) (Kd.R_lt (pR HO182))) (Kd.R_lt (pR HO186))) (Kd.R_lt (pR HO189))) (Kd.R_lt (pR HO193))) (Kd.R_lt (pR HO197))) (Kd.R_lt (pR HO201))) (below_size (by repeat (first | (with_reducible first | exact HB.out | apply below_alloc | apply pw_below_drewN | apply below_drew1 | refine below_set ?_ GE190.out) | exact HB.out)))); have n10_ := Aside0.mk (blk_below (g := gb190) (o := .cells #[.slice Ao36 t180.length co36, .int .i64 t183, .slice Ao39 t184.length co39] 24 (0, 0)) (pK BK190) hb); have n11_ := Aside0.mk (below_step (by repeat (first | (with_reducible first | exact HB.out | apply below_alloc | apply pw_below_drewN | apply below_drew1 | refine below_set ?_ GE190.out) | exact HB.out)) hb); clear HO172; clear HO176; clear HO179; clear HO182; clear HO186; clear HO189; clear HO193; clear HO197; clear HO201; clear BK190; clear HB; have HO172 := n0_; have HO176 := n1_; have HO179 := n2_; have HO182 := n3_; have HO186 := n4_; have HO189 := n5_; have HO193 := n6_; have HO197 := n7_; have HO201 := n8_; have HO204 := n9_; have BK190 := n10_; have HB := n11_; clear n0_ n1_ n2_ n3_ n4_ n5_ n6_ n7_ n8_ n9_ n10_ n11_; clear hb ho45; obtain ⟨Ao46, co46, eo46⟩ := Kd.R_slice HO197.out; subst eo46; obtain ⟨Ao47, co47, eo47⟩ := Kd.R_slice HO201.out; subst eo47; obtain ⟨Ao48, co48, eo48⟩ := Kd.R_slice HO204.out; subst eo48) | ((with_reducible refine gate_callee (f := 8) rfl ?_); refine goesL_ (some 25) rfl rfl Try.func8 (by kernel_rfl) rfl #[.agg #[.slice Ao46 t195.length co46, .int .i64 t198, .slice Ao47 t199.length co47], .slice Ao48 y202.length co48] rfl pM ?_; (with_reducible refine (packstream_Write.calls _ _ t195 t198 _ _ t199 _ _ y202 t205 t208 t209 t212 _ ?side1 ?side2 ?side3 ?side4 ?side5 ?side6 A6.out).mono ?_); (case side1 => repeat (first | exact (Kd.R_reads' HO197.out).2.2 | (with_reducible refine Kd.C_alloc ?_ _) | (with_reducible refine Kd.C_drewN ?_ _) | (with_reducible refine Kd.C_drew ?_))); (case side2 => exact (Kd.R_reads' HO197.out).2.1); (case side3 => repeat (first | exact (Kd.R_reads' HO201.out).2.2 | (with_reducible refine Kd.C_alloc ?_ _) | (with_reducible refine Kd.C_drewN ?_ _) | (with_reducible refine Kd.C_drew ?_))); (case side4 => exact (Kd.R_reads' HO201.out).2.1); (case side5 => repeat (first | exact (Kd.R_reads' HO204.out).2.2 | (with_reducible refine Kd.C_alloc ?_ _) | (with_reducible refine Kd.C_drewN ?_ _) | (with_reducible refine Kd.C_drew ?_))); (case side6 => exact (Kd.R_reads' HO204.out).2.1); rintro e w49 ⟨v206, v210, v213, rfl, ho0, ho1, ho2, hb⟩; refine ⟨_, rfl, ?_⟩; have n0_ := Aside0.mk (Kd.R_mono (Kd.R_told (Kd.R_told (Kd.R_told (Kd.R_old (pR HO172) hb) (Kd.R_base ho0)) (Kd.R_base ho1)) (Kd.R_base ho2)) (fun _ h_ => h_.1)); have n1_ := Aside0.mk (Kd.R_mono (Kd.R_told (Kd.R_told (Kd.R_told (Kd.R_old (pR HO176) hb) (Kd.R_base ho0)) (Kd.R_base ho1)) (Kd.R_base ho2)) (fun _ h_ => h_.1)); have n2_ := Aside0.mk (Kd.R_mono (Kd.R_told (Kd.R_told (Kd.R_told (Kd.R_old (pR HO179) hb) (Kd.R_base ho0)) (Kd.R_base ho1)) (Kd.R_base ho2)) (fun _ h_ => h_.1)); have n3_ := Aside0.mk (Kd.R_mono (Kd.R_told (Kd.R_told (Kd.R_told (Kd.R_old (pR HO182) hb) (Kd.R_base ho0)) (Kd.R_base ho1)) (Kd.R_base ho2)) (fun _ h_ => h_.1)); have n4_ := Aside0.mk (Kd.R_mono (Kd.R_told (Kd.R_told (Kd.R_told (Kd.R_old (pR HO186) hb) (Kd.R_base ho0)) (Kd.R_base ho1)) (Kd.R_base ho2)) (fun _ h_ => h_.1)); have n5_ := Aside0.mk (Kd.R_mono (Kd.R_told (Kd.R_told (Kd.R_told (Kd.R_old (pR HO189) hb) (Kd.R_base ho0)) (Kd.R_base ho1)) (Kd.R_base ho2)) (fun _ h_ => h_.1)); have n6_ := Aside0.mk (Kd.R_mono (Kd.R_told (Kd.R_told (Kd.R_told (Kd.R_old (pR HO193) hb) (Kd.R_base ho0)) (Kd.R_base ho1)) (Kd.R_base ho2)) (fun _ h_ => h_.1)); have n7_ := Aside0.mk (Kd.R_mono (Kd.R_told (Kd.R_told (Kd.R_told (Kd.R_old (pR HO197) hb) (Kd.R_base ho0)) (Kd.R_base ho1)) (Kd.R_base ho2)) (fun _ h_ => h_.1)); have n8_ := Aside0.mk (Kd.R_mono (Kd.R_told (Kd.R_told (Kd.R_told (Kd.R_old (pR HO201) hb) (Kd.R_base ho0)) (Kd.R_base ho1)) (Kd.R_base ho2)) (fun _ h_ => h_.1)); have n9_ := Aside0.mk (Kd.R_mono (Kd.R_told (Kd.R_told (Kd.R_told (Kd.R_old (pR HO204) hb) (Kd.R_base ho0)) (Kd.R_base ho1)) (Kd.R_base ho2)) (fun _ h_ => h_.1)); have n10_ := Aside0.mk (Kd.R_lower (Kd.R_new' (Kd.R_new' (Kd.R_new' (Kd.R_new' (Kd.R_new' (Kd.R_new' (Kd.R_new' (Kd.R_new' (Kd.R_new' (Kd.R_new' ho0 (Kd.R_lt (pR HO172))) (Kd.R_lt (pR HO176))) (Kd.R_lt (pR HO179))) (Kd.R_lt (pR HO182))) (Kd.R_lt (pR HO186))) (Kd.R_lt (pR HO189))) (Kd.R_lt (pR HO193))) (Kd.R_lt (pR HO197))) (Kd.R_lt (pR HO201))) (Kd.R_lt (pR HO204))) (below_size (by repeat (first | (with_reducible first | exact HB.out | apply below_alloc | apply pw_below_drewN | apply below_drew1 | refine below_set ?_ GE190.out) | exact HB.out)))); have n11_ := Aside0.mk (Kd.R_lower (Kd.R_new' (Kd.R_new' (Kd.R_new' (Kd.R_new' (Kd.R_new' (Kd.R_new' (Kd.R_new' (Kd.R_new' (Kd.R_new' (Kd.R_new' ho1 (Kd.R_lt (pR HO172))) (Kd.R_lt (pR HO176))) (Kd.R_lt (pR HO179))) (Kd.R_lt (pR HO182))) (Kd.R_lt (pR HO186))) (Kd.R_lt (pR HO189))) (Kd.R_lt (pR HO193))) (Kd.R_lt (pR HO197))) (Kd.R_lt (pR HO201))) (Kd.R_lt (pR HO204))) (below_size (by repeat (first | (with_reducible first | exact HB.out | apply below_alloc | apply pw_below_drewN | apply below_drew1 | refine below_set ?_ GE190.out) | exact HB.out)))); have n12_ := Aside0.mk (Kd.R_lower (Kd.R_new' (Kd.R_new' (Kd.R_new' (Kd.R_new' (Kd.R_new' (Kd.R_new' (Kd.R_new' (Kd.R_new' (Kd.R_new' (Kd.R_new' ho2 (Kd.R_lt (pR HO172))) (Kd.R_lt (pR HO176))) (Kd.R_lt (pR HO179))) (Kd.R_lt (pR HO182))) (Kd.R_lt (pR HO186))) (Kd.R_lt (pR HO189))) (Kd.R_lt (pR HO193))) (Kd.R_lt (pR HO197))) (Kd.R_lt (pR HO201))) (Kd.R_lt (pR HO204))) (below_size (by repeat (first | (with_reducible first | exact HB.out | apply below_alloc | apply pw_below_drewN | apply below_drew1 | refine below_set ?_ GE190.out) | exact HB.out)))); have n13_ := Aside0.mk (blk_below (g := gb190) (o := .cells #[.slice Ao36 t180.length co36, .int .i64 t183, .slice Ao39 t184.length co39] 24 (0, 0)) (pK BK190) hb); have n14_ := Aside0.mk (below_step (by repeat (first | (with_reducible first | exact HB.out | apply below_alloc | apply pw_below_drewN | apply below_drew1 | refine below_set ?_ GE190.out) | exact HB.out)) hb); clear HO172; clear HO176; clear HO179; clear HO182; clear HO186; clear HO189; clear HO193; clear HO197; clear HO201; clear HO204; clear BK190; clear HB; have HO172 := n0_; have HO176 := n1_; have HO179 := n2_; have HO182 := n3_; have HO186 := n4_; have HO189 := n5_; have HO193 := n6_; have HO197 := n7_; have HO201 := n8_; have HO204 := n9_; have HO207 := n10_; have HO211 := n11_; have HO214 := n12_; have BK190 := n13_; have HB := n14_; clear n0_ n1_ n2_ n3_ n4_ n5_ n6_ n7_ n8_ n9_ n10_ n11_ n12_ n13_ n14_; (try clear hb); (try clear hb2); (try clear hk); (try clear hi); (try clear ho0); (try clear ho1); (try clear ho2)) | ((with_reducible refine gate_dst (N := 5) rfl ?_); (try (refine gate_guard (by rfl) ?_; dsimp only)); refine box_event ?hg (N := 5) ?hd (cs := #[.slice none 0 0, .int .i64 0, .slice none 0 0]) (t := 24) ?hr ?_; (case hd => rfl); (case hg => rfl); (case hr => first | (go_simp; done) | (go_simp; rfl)); intro gb215 hg w50 hbox hb; have n0_ := Aside0.mk (Kd.R_below (pR HO172) hb); have n1_ := Aside0.mk (Kd.R_below (pR HO176) hb); have n2_ := Aside0.mk (Kd.R_below (pR HO179) hb); have n3_ := Aside0.mk (Kd.R_below (pR HO182) hb); have n4_ := Aside0.mk (Kd.R_below (pR HO186) hb); have n5_ := Aside0.mk (Kd.R_below (pR HO189) hb); have n6_ := Aside0.mk (Kd.R_below (pR HO193) hb); have n7_ := Aside0.mk (Kd.R_below (pR HO197) hb); have n8_ := Aside0.mk (Kd.R_below (pR HO201) hb); have n9_ := Aside0.mk (Kd.R_below (pR HO204) hb); have n10_ := Aside0.mk (Kd.R_below (pR HO207) hb); have n11_ := Aside0.mk (Kd.R_below (pR HO211) hb); have n12_ := Aside0.mk (Kd.R_below (pR HO214) hb); have n13_ := Aside0.mk (blk_below (g := gb190) (o := .cells #[.slice Ao36 t180.length co36, .int .i64 t183, .slice Ao39 t184.length co39] 24 (0, 0)) (pK BK190) hb); have n14_ := Aside0.mk (below_step (by repeat (first | (with_reducible first | exact HB.out | apply below_alloc | apply pw_below_drewN | apply below_drew1 | refine below_set ?_ GE190.out) | exact HB.out)) hb); have n15_ := Aside0.mk (hbox); have n16_ := Aside0.mk ((by rw [hg]; exact (below_size (by repeat (first | (with_reducible first | exact HB.out | apply below_alloc | apply pw_below_drewN | apply below_drew1 | refine below_set ?_ GE190.out) | exact HB.out))) : w.heap.size ≤ gb215)); have n17_ := Aside0.mk ((by rw [hg]; exact (below_size (by repeat (first | (with_reducible first | exact HB.out | apply below_alloc | apply pw_below_drewN | apply below_drew1 | refine below_set ?_ GE190.out) | exact HB.out))) : w.heap.size ≤ gb215)); have n18_ := Aside0.mk ((by rw [hg]; exact Nat.ne_of_lt (blk_lt (g := gb190) (o := .cells #[.slice Ao36 t180.length co36, .int .i64 t183, .slice Ao39 t184.length co39] 24 (0, 0)) (pK BK190)) : gb190 ≠ gb215)); have n19_ := Aside0.mk ((by rw [hg]; exact Nat.ne_of_gt (blk_lt (g := gb190) (o := .cells #[.slice Ao36 t180.length co36, .int .i64 t183, .slice Ao39 t184.length co39] 24 (0, 0)) (pK BK190)) : gb215 ≠ gb190)); clear HO172; clear HO176; clear HO179; clear HO182; clear HO186; clear HO189; clear HO193; clear HO197; clear HO201; clear HO204; clear HO207; clear HO211; clear HO214; clear BK190; clear HB; have HO172 := n0_; have HO176 := n1_; have HO179 := n2_; have HO182 := n3_; have HO186 := n4_; have HO189 := n5_; have HO193 := n6_; have HO197 := n7_; have HO201 := n8_; have HO204 := n9_; have HO207 := n10_; have HO211 := n11_; have HO214 := n12_; have BK190 := n13_; have HB := n14_; have BK215 := n15_; have GW215 := n16_; have GE215 := n17_; have NB190_215 := n18_; have NB215_190 := n19_; clear n0_ n1_ n2_ n3_ n4_ n5_ n6_ n7_ n8_ n9_ n10_ n11_ n12_ n13_ n14_ n15_ n16_ n17_ n18_ n19_; clear hb hbox hg; obtain ⟨Ao51, co51, eo51⟩ := Kd.R_slice HO207.out; subst eo51; have hnb52 := NB215_190.out; have hnc52 := NB190_215.out; have hcz53_0 : w50.cell? ⟨gb215, 0, none⟩ = some (.slice none 0 0) := (blk_cell BK215.out 0).trans rfl; have hcz53_1 : w50.cell? ⟨gb215, 1, none⟩ = some (.int .i64 0) := (blk_cell BK215.out 1).trans rfl; have hcz53_2 : w50.cell? ⟨gb215, 2, none⟩ = some (.slice none 0 0) := (blk_cell BK215.out 2).trans rfl; have hfz53_0 := blk_frozen BK215.out 0; have hfz53_1 := blk_frozen BK215.out 1; have hfz53_2 := blk_frozen BK215.out 2; obtain ⟨Ao54, co54, eo54⟩ := Kd.R_slice HO211.out; subst eo54) | ((with_reducible refine gate_callee (f := 9) rfl ?_); refine goesL_ (some 30) rfl rfl Try.func9 (by kernel_rfl) rfl #[.agg #[.slice Ao51 t205.length co51, .int .i64 t208, .slice Ao54 t209.length co54]] rfl pM ?_; (with_reducible refine (packstream_Close.calls k _ _ t205 t208 _ _ t209 t216 t219 _ ?side1 ?side2 ?side3 ?side4 A7.out).mono ?_); (case side1 => refine (Kd.R_reads' (e := 5) (base := w.heap.size) (ok := fun k_ => (((((((((((some k_ ≠ (.slice Ao54 t209.length co54 : Value).ownBlock ∧ some k_ ≠ (v213 : Value).ownBlock) ∧ some k_ ≠ (v171 : Value).ownBlock) ∧ some k_ ≠ (v175 : Value).ownBlock) ∧ some k_ ≠ (v178 : Value).ownBlock) ∧ some k_ ≠ (.slice Ao36 t180.length co36 : Value).ownBlock) ∧ some k_ ≠ (.slice Ao39 t184.length co39 : Value).ownBlock) ∧ some k_ ≠ (v188 : Value).ownBlock) ∧ some k_ ≠ (v192 : Value).ownBlock) ∧ some k_ ≠ (.slice Ao46 t195.length co46 : Value).ownBlock) ∧ some k_ ≠ (.slice Ao47 t199.length co47 : Value).ownBlock) ∧ some k_ ≠ (.slice Ao48 y202.length co48 : Value).ownBlock)) (n := t205.length) (c := co51) ?_).2.2; exact (by (with_reducible repeat (first | apply Kd.R_alloc | apply Kd.R_drewN | apply Kd.R_drew)); exact (Kd.R_mono (Kd.R_far (p := ⟨gb215, 2, none⟩) (Kd.R_far (p := ⟨gb215, 1, none⟩) (Kd.R_far (p := ⟨gb215, 0, none⟩) (Kd.R_types HO207.out BK215.out (by decide)) (fun _ hk => hk.2) (.slice Ao51 t205.length co51)) (fun _ hk => hk.2) (.int .i64 t208)) (fun _ hk => hk.2) (.slice Ao54 t209.length co54)) (fun _ h_ => h_.1)))); (case side2 => exact (Kd.R_reads' HO207.out).2.1); (case side3 => refine (Kd.R_reads' (e := 5) (base := w.heap.size) (ok := fun k_ => (((((((((((some k_ ≠ (.slice Ao51 t205.length co51 : Value).ownBlock ∧ some k_ ≠ (v213 : Value).ownBlock) ∧ some k_ ≠ (v171 : Value).ownBlock) ∧ some k_ ≠ (v175 : Value).ownBlock) ∧ some k_ ≠ (v178 : Value).ownBlock) ∧ some k_ ≠ (.slice Ao36 t180.length co36 : Value).ownBlock) ∧ some k_ ≠ (.slice Ao39 t184.length co39 : Value).ownBlock) ∧ some k_ ≠ (v188 : Value).ownBlock) ∧ some k_ ≠ (v192 : Value).ownBlock) ∧ some k_ ≠ (.slice Ao46 t195.length co46 : Value).ownBlock) ∧ some k_ ≠ (.slice Ao47 t199.length co47 : Value).ownBlock) ∧ some k_ ≠ (.slice Ao48 y202.length co48 : Value).ownBlock)) (n := t209.length) (c := co54) ?_).2.2; exact (by (with_reducible repeat (first | apply Kd.R_alloc | apply Kd.R_drewN | apply Kd.R_drew)); exact (Kd.R_mono (Kd.R_far (p := ⟨gb215, 2, none⟩) (Kd.R_far (p := ⟨gb215, 1, none⟩) (Kd.R_far (p := ⟨gb215, 0, none⟩) (Kd.R_types HO211.out BK215.out (by decide)) (fun _ hk => hk.2) (.slice Ao51 t205.length co51)) (fun _ hk => hk.2) (.int .i64 t208)) (fun _ hk => hk.2) (.slice Ao54 t209.length co54)) (fun _ h_ => h_.1)))); (case side4 => exact (Kd.R_reads' HO211.out).2.1); rintro e w55 ⟨v217, rfl, ho0, hb⟩; refine ⟨_, rfl, ?_⟩; have n0_ := Aside0.mk (Kd.R_elder' (by (with_reducible repeat (first | apply Kd.R_alloc | apply Kd.R_drewN | apply Kd.R_drew)); exact (Kd.R_mono (Kd.R_far (p := ⟨gb215, 2, none⟩) (Kd.R_far (p := ⟨gb215, 1, none⟩) (Kd.R_far (p := ⟨gb215, 0, none⟩) (Kd.R_types HO172.out BK215.out (by decide)) (fun _ hk => hk.2) (.slice Ao51 t205.length co51)) (fun _ hk => hk.2) (.int .i64 t208)) (fun _ hk => hk.2) (.slice Ao54 t209.length co54)) (fun _ h_ => h_.1))) (Kd.R_base ho0) hb); have n1_ := Aside0.mk (Kd.R_elder' (by (with_reducible repeat (first | apply Kd.R_alloc | apply Kd.R_drewN | apply Kd.R_drew)); exact (Kd.R_mono (Kd.R_far (p := ⟨gb215, 2, none⟩) (Kd.R_far (p := ⟨gb215, 1, none⟩) (Kd.R_far (p := ⟨gb215, 0, none⟩) (Kd.R_types HO176.out BK215.out (by decide)) (fun _ hk => hk.2) (.slice Ao51 t205.length co51)) (fun _ hk => hk.2) (.int .i64 t208)) (fun _ hk => hk.2) (.slice Ao54 t209.length co54)) (fun _ h_ => h_.1))) (Kd.R_base ho0) hb); have n2_ := Aside0.mk (Kd.R_elder' (by (with_reducible repeat (first | apply Kd.R_alloc | apply Kd.R_drewN | apply Kd.R_drew)); exact (Kd.R_mono (Kd.R_far (p := ⟨gb215, 2, none⟩) (Kd.R_far (p := ⟨gb215, 1, none⟩) (Kd.R_far (p := ⟨gb215, 0, none⟩) (Kd.R_types HO179.out BK215.out (by decide)) (fun _ hk => hk.2) (.slice Ao51 t205.length co51)) (fun _ hk => hk.2) (.int .i64 t208)) (fun _ hk => hk.2) (.slice Ao54 t209.length co54)) (fun _ h_ => h_.1))) (Kd.R_base ho0) hb); have n3_ := Aside0.mk (Kd.R_elder' (by (with_reducible repeat (first | apply Kd.R_alloc | apply Kd.R_drewN | apply Kd.R_drew)); exact (Kd.R_mono (Kd.R_far (p := ⟨gb215, 2, none⟩) (Kd.R_far (p := ⟨gb215, 1, none⟩) (Kd.R_far (p := ⟨gb215, 0, none⟩) (Kd.R_types HO182.out BK215.out (by decide)) (fun _ hk => hk.2) (.slice Ao51 t205.length co51)) (fun _ hk => hk.2) (.int .i64 t208)) (fun _ hk => hk.2) (.slice Ao54 t209.length co54)) (fun _ h_ => h_.1))) (Kd.R_base ho0) hb); have n4_ := Aside0.mk (Kd.R_elder' (by (with_reducible repeat (first | apply Kd.R_alloc | apply Kd.R_drewN | apply Kd.R_drew)); exact (Kd.R_mono (Kd.R_far (p := ⟨gb215, 2, none⟩) (Kd.R_far (p := ⟨gb215, 1, none⟩) (Kd.R_far (p := ⟨gb215, 0, none⟩) (Kd.R_types HO186.out BK215.out (by decide)) (fun _ hk => hk.2) (.slice Ao51 t205.length co51)) (fun _ hk => hk.2) (.int .i64 t208)) (fun _ hk => hk.2) (.slice Ao54 t209.length co54)) (fun _ h_ => h_.1))) (Kd.R_base ho0) hb); have n5_ := Aside0.mk (Kd.R_elder' (by (with_reducible repeat (first | apply Kd.R_alloc | apply Kd.R_drewN | apply Kd.R_drew)); exact (Kd.R_mono (Kd.R_far (p := ⟨gb215, 2, none⟩) (Kd.R_far (p := ⟨gb215, 1, none⟩) (Kd.R_far (p := ⟨gb215, 0, none⟩) (Kd.R_types HO189.out BK215.out (by decide)) (fun _ hk => hk.2) (.slice Ao51 t205.length co51)) (fun _ hk => hk.2) (.int .i64 t208)) (fun _ hk => hk.2) (.slice Ao54 t209.length co54)) (fun _ h_ => h_.1))) (Kd.R_base ho0) hb); have n6_ := Aside0.mk (Kd.R_elder' (by (with_reducible repeat (first | apply Kd.R_alloc | apply Kd.R_drewN | apply Kd.R_drew)); exact (Kd.R_mono (Kd.R_far (p := ⟨gb215, 2, none⟩) (Kd.R_far (p := ⟨gb215, 1, none⟩) (Kd.R_far (p := ⟨gb215, 0, none⟩) (Kd.R_types HO193.out BK215.out (by decide)) (fun _ hk => hk.2) (.slice Ao51 t205.length co51)) (fun _ hk => hk.2) (.int .i64 t208)) (fun _ hk => hk.2) (.slice Ao54 t209.length co54)) (fun _ h_ => h_.1))) (Kd.R_base ho0) hb); have n7_ := Aside0.mk (Kd.R_elder' (by (with_reducible repeat (first | apply Kd.R_alloc | apply Kd.R_drewN | apply Kd.R_drew)); exact (Kd.R_mono (Kd.R_far (p := ⟨gb215, 2, none⟩) (Kd.R_far (p := ⟨gb215, 1, none⟩) (Kd.R_far (p := ⟨gb215, 0, none⟩) (Kd.R_types HO197.out BK215.out (by decide)) (fun _ hk => hk.2) (.slice Ao51 t205.length co51)) (fun _ hk => hk.2) (.int .i64 t208)) (fun _ hk => hk.2) (.slice Ao54 t209.length co54)) (fun _ h_ => h_.1))) (Kd.R_base ho0) hb); have n8_ := Aside0.mk (Kd.R_elder' (by (with_reducible repeat (first | apply Kd.R_alloc | apply Kd.R_drewN | apply Kd.R_drew)); exact (Kd.R_mono (Kd.R_far (p := ⟨gb215, 2, none⟩) (Kd.R_far (p := ⟨gb215, 1, none⟩) (Kd.R_far (p := ⟨gb215, 0, none⟩) (Kd.R_types HO201.out BK215.out (by decide)) (fun _ hk => hk.2) (.slice Ao51 t205.length co51)) (fun _ hk => hk.2) (.int .i64 t208)) (fun _ hk => hk.2) (.slice Ao54 t209.length co54)) (fun _ h_ => h_.1))) (Kd.R_base ho0) hb); have n9_ := Aside0.mk (Kd.R_elder' (by (with_reducible repeat (first | apply Kd.R_alloc | apply Kd.R_drewN | apply Kd.R_drew)); exact (Kd.R_mono (Kd.R_far (p := ⟨gb215, 2, none⟩) (Kd.R_far (p := ⟨gb215, 1, none⟩) (Kd.R_far (p := ⟨gb215, 0, none⟩) (Kd.R_types HO204.out BK215.out (by decide)) (fun _ hk => hk.2) (.slice Ao51 t205.length co51)) (fun _ hk => hk.2) (.int .i64 t208)) (fun _ hk => hk.2) (.slice Ao54 t209.length co54)) (fun _ h_ => h_.1))) (Kd.R_base ho0) hb); have n10_ := Aside0.mk (Kd.R_elder' (by (with_reducible repeat (first | apply Kd.R_alloc | apply Kd.R_drewN | apply Kd.R_drew)); exact (Kd.R_mono (Kd.R_far (p := ⟨gb215, 2, none⟩) (Kd.R_far (p := ⟨gb215, 1, none⟩) (Kd.R_far (p := ⟨gb215, 0, none⟩) (Kd.R_types HO207.out BK215.out (by decide)) (fun _ hk => hk.2) (.slice Ao51 t205.length co51)) (fun _ hk => hk.2) (.int .i64 t208)) (fun _ hk => hk.2) (.slice Ao54 t209.length co54)) (fun _ h_ => h_.1))) (Kd.R_base ho0) hb); have n11_ := Aside0.mk (Kd.R_elder' (by (with_reducible repeat (first | apply Kd.R_alloc | apply Kd.R_drewN | apply Kd.R_drew)); exact (Kd.R_mono (Kd.R_far (p := ⟨gb215, 2, none⟩) (Kd.R_far (p := ⟨gb215, 1, none⟩) (Kd.R_far (p := ⟨gb215, 0, none⟩) (Kd.R_types HO211.out BK215.out (by decide)) (fun _ hk => hk.2) (.slice Ao51 t205.length co51)) (fun _ hk => hk.2) (.int .i64 t208)) (fun _ hk => hk.2) (.slice Ao54 t209.length co54)) (fun _ h_ => h_.1))) (Kd.R_base ho0) hb); have n12_ := Aside0.mk (Kd.R_elder' (by (with_reducible repeat (first | apply Kd.R_alloc | apply Kd.R_drewN | apply Kd.R_drew)); exact (Kd.R_mono (Kd.R_far (p := ⟨gb215, 2, none⟩) (Kd.R_far (p := ⟨gb215, 1, none⟩) (Kd.R_far (p := ⟨gb215, 0, none⟩) (Kd.R_types HO214.out BK215.out (by decide)) (fun _ hk => hk.2) (.slice Ao51 t205.length co51)) (fun _ hk => hk.2) (.int .i64 t208)) (fun _ hk => hk.2) (.slice Ao54 t209.length co54)) (fun _ h_ => h_.1))) (Kd.R_base ho0) hb); have n13_ := Aside0.mk (Kd.R_lower (Kd.R_new' (Kd.R_new' (Kd.R_new' (Kd.R_new' (Kd.R_new' (Kd.R_new' (Kd.R_new' (Kd.R_new' (Kd.R_new' (Kd.R_new' (Kd.R_new' (Kd.R_new' (Kd.R_new' ho0 (Kd.R_lt (by (with_reducible repeat (first | apply Kd.R_alloc | apply Kd.R_drewN | apply Kd.R_drew)); exact (Kd.R_mono (Kd.R_far (p := ⟨gb215, 2, none⟩) (Kd.R_far (p := ⟨gb215, 1, none⟩) (Kd.R_far (p := ⟨gb215, 0, none⟩) (Kd.R_types HO172.out BK215.out (by decide)) (fun _ hk => hk.2) (.slice Ao51 t205.length co51)) (fun _ hk => hk.2) (.int .i64 t208)) (fun _ hk => hk.2) (.slice Ao54 t209.length co54)) (fun _ h_ => h_.1))))) (Kd.R_lt (by (with_reducible repeat (first | apply Kd.R_alloc | apply Kd.R_drewN | apply Kd.R_drew)); exact (Kd.R_mono (Kd.R_far (p := ⟨gb215, 2, none⟩) (Kd.R_far (p := ⟨gb215, 1, none⟩) (Kd.R_far (p := ⟨gb215, 0, none⟩) (Kd.R_types HO176.out BK215.out (by decide)) (fun _ hk => hk.2) (.slice Ao51 t205.length co51)) (fun _ hk => hk.2) (.int .i64 t208)) (fun _ hk => hk.2) (.slice Ao54 t209.length co54)) (fun _ h_ => h_.1))))) (Kd.R_lt (by (with_reducible repeat (first | apply Kd.R_alloc | apply Kd.R_drewN | apply Kd.R_drew)); exact (Kd.R_mono (Kd.R_far (p := ⟨gb215, 2, none⟩) (Kd.R_far (p := ⟨gb215, 1, none⟩) (Kd.R_far (p := ⟨gb215, 0, none⟩) (Kd.R_types HO179.out BK215.out (by decide)) (fun _ hk => hk.2) (.slice Ao51 t205.length co51)) (fun _ hk => hk.2) (.int .i64 t208)) (fun _ hk => hk.2) (.slice Ao54 t209.length co54)) (fun _ h_ => h_.1))))) (Kd.R_lt (by (with_reducible repeat (first | apply Kd.R_alloc | apply Kd.R_drewN | apply Kd.R_drew)); exact (Kd.R_mono (Kd.R_far (p := ⟨gb215, 2, none⟩) (Kd.R_far (p := ⟨gb215, 1, none⟩) (Kd.R_far (p := ⟨gb215, 0, none⟩) (Kd.R_types HO182.out BK215.out (by decide)) (fun _ hk => hk.2) (.slice Ao51 t205.length co51)) (fun _ hk => hk.2) (.int .i64 t208)) (fun _ hk => hk.2) (.slice Ao54 t209.length co54)) (fun _ h_ => h_.1))))) (Kd.R_lt (by (with_reducible repeat (first | apply Kd.R_alloc | apply Kd.R_drewN | apply Kd.R_drew)); exact (Kd.R_mono (Kd.R_far (p := ⟨gb215, 2, none⟩) (Kd.R_far (p := ⟨gb215, 1, none⟩) (Kd.R_far (p := ⟨gb215, 0, none⟩) (Kd.R_types HO186.out BK215.out (by decide)) (fun _ hk => hk.2) (.slice Ao51 t205.length co51)) (fun _ hk => hk.2) (.int .i64 t208)) (fun _ hk => hk.2) (.slice Ao54 t209.length co54)) (fun _ h_ => h_.1))))) (Kd.R_lt (by (with_reducible repeat (first | apply Kd.R_alloc | apply Kd.R_drewN | apply Kd.R_drew)); exact (Kd.R_mono (Kd.R_far (p := ⟨gb215, 2, none⟩) (Kd.R_far (p := ⟨gb215, 1, none⟩) (Kd.R_far (p := ⟨gb215, 0, none⟩) (Kd.R_types HO189.out BK215.out (by decide)) (fun _ hk => hk.2) (.slice Ao51 t205.length co51)) (fun _ hk => hk.2) (.int .i64 t208)) (fun _ hk => hk.2) (.slice Ao54 t209.length co54)) (fun _ h_ => h_.1))))) (Kd.R_lt (by (with_reducible repeat (first | apply Kd.R_alloc | apply Kd.R_drewN | apply Kd.R_drew)); exact (Kd.R_mono (Kd.R_far (p := ⟨gb215, 2, none⟩) (Kd.R_far (p := ⟨gb215, 1, none⟩) (Kd.R_far (p := ⟨gb215, 0, none⟩) (Kd.R_types HO193.out BK215.out (by decide)) (fun _ hk => hk.2) (.slice Ao51 t205.length co51)) (fun _ hk => hk.2) (.int .i64 t208)) (fun _ hk => hk.2) (.slice Ao54 t209.length co54)) (fun _ h_ => h_.1))))) (Kd.R_lt (by (with_reducible repeat (first | apply Kd.R_alloc | apply Kd.R_drewN | apply Kd.R_drew)); exact (Kd.R_mono (Kd.R_far (p := ⟨gb215, 2, none⟩) (Kd.R_far (p := ⟨gb215, 1, none⟩) (Kd.R_far (p := ⟨gb215, 0, none⟩) (Kd.R_types HO197.out BK215.out (by decide)) (fun _ hk => hk.2) (.slice Ao51 t205.length co51)) (fun _ hk => hk.2) (.int .i64 t208)) (fun _ hk => hk.2) (.slice Ao54 t209.length co54)) (fun _ h_ => h_.1))))) (Kd.R_lt (by (with_reducible repeat (first | apply Kd.R_alloc | apply Kd.R_drewN | apply Kd.R_drew)); exact (Kd.R_mono (Kd.R_far (p := ⟨gb215, 2, none⟩) (Kd.R_far (p := ⟨gb215, 1, none⟩) (Kd.R_far (p := ⟨gb215, 0, none⟩) (Kd.R_types HO201.out BK215.out (by decide)) (fun _ hk => hk.2) (.slice Ao51 t205.length co51)) (fun _ hk => hk.2) (.int .i64 t208)) (fun _ hk => hk.2) (.slice Ao54 t209.length co54)) (fun _ h_ => h_.1))))) (Kd.R_lt (by (with_reducible repeat (first | apply Kd.R_alloc | apply Kd.R_drewN | apply Kd.R_drew)); exact (Kd.R_mono (Kd.R_far (p := ⟨gb215, 2, none⟩) (Kd.R_far (p := ⟨gb215, 1, none⟩) (Kd.R_far (p := ⟨gb215, 0, none⟩) (Kd.R_types HO204.out BK215.out (by decide)) (fun _ hk => hk.2) (.slice Ao51 t205.length co51)) (fun _ hk => hk.2) (.int .i64 t208)) (fun _ hk => hk.2) (.slice Ao54 t209.length co54)) (fun _ h_ => h_.1))))) (Kd.R_lt (by (with_reducible repeat (first | apply Kd.R_alloc | apply Kd.R_drewN | apply Kd.R_drew)); exact (Kd.R_mono (Kd.R_far (p := ⟨gb215, 2, none⟩) (Kd.R_far (p := ⟨gb215, 1, none⟩) (Kd.R_far (p := ⟨gb215, 0, none⟩) (Kd.R_types HO207.out BK215.out (by decide)) (fun _ hk => hk.2) (.slice Ao51 t205.length co51)) (fun _ hk => hk.2) (.int .i64 t208)) (fun _ hk => hk.2) (.slice Ao54 t209.length co54)) (fun _ h_ => h_.1))))) (Kd.R_lt (by (with_reducible repeat (first | apply Kd.R_alloc | apply Kd.R_drewN | apply Kd.R_drew)); exact (Kd.R_mono (Kd.R_far (p := ⟨gb215, 2, none⟩) (Kd.R_far (p := ⟨gb215, 1, none⟩) (Kd.R_far (p := ⟨gb215, 0, none⟩) (Kd.R_types HO211.out BK215.out (by decide)) (fun _ hk => hk.2) (.slice Ao51 t205.length co51)) (fun _ hk => hk.2) (.int .i64 t208)) (fun _ hk => hk.2) (.slice Ao54 t209.length co54)) (fun _ h_ => h_.1))))) (Kd.R_lt (by (with_reducible repeat (first | apply Kd.R_alloc | apply Kd.R_drewN | apply Kd.R_drew)); exact (Kd.R_mono (Kd.R_far (p := ⟨gb215, 2, none⟩) (Kd.R_far (p := ⟨gb215, 1, none⟩) (Kd.R_far (p := ⟨gb215, 0, none⟩) (Kd.R_types HO214.out BK215.out (by decide)) (fun _ hk => hk.2) (.slice Ao51 t205.length co51)) (fun _ hk => hk.2) (.int .i64 t208)) (fun _ hk => hk.2) (.slice Ao54 t209.length co54)) (fun _ h_ => h_.1))))) (below_size (by repeat (first | (with_reducible first | exact HB.out | apply below_alloc | apply pw_below_drewN | apply below_drew1 | refine below_set ?_ GE190.out | refine below_set ?_ GE215.out) | exact HB.out)))); have n14_ := Aside0.mk (blk_below (g := gb190) (o := .cells #[.slice Ao36 t180.length co36, .int .i64 t183, .slice Ao39 t184.length co39] 24 (0, 0)) (by (with_reducible repeat (first | refine blk_drewN ?_ _ | refine blk_drew ?_ | refine blk_alloc ?_ _)); refine blk_far ?_ NB190_215.out _; (with_reducible repeat (first | refine blk_drewN ?_ _ | refine blk_drew ?_ | refine blk_alloc ?_ _)); refine blk_far ?_ NB190_215.out _; (with_reducible repeat (first | refine blk_drewN ?_ _ | refine blk_drew ?_ | refine blk_alloc ?_ _)); refine blk_far ?_ NB190_215.out _; (with_reducible repeat (first | refine blk_drewN ?_ _ | refine blk_drew ?_ | refine blk_alloc ?_ _)); exact BK190.out) hb); have n15_ := Aside0.mk (blk_below (g := gb215) (o := .cells #[.slice Ao51 t205.length co51, .int .i64 t208, .slice Ao54 t209.length co54] 24 (0, 0)) (by (with_reducible repeat (first | refine blk_drewN ?_ _ | refine blk_drew ?_ | refine blk_alloc ?_ _)); refine blk_put (cs := #[.slice Ao51 t205.length co51, .int .i64 t208, .slice none 0 0]) ?_ 2 _ rfl; (with_reducible repeat (first | refine blk_drewN ?_ _ | refine blk_drew ?_ | refine blk_alloc ?_ _)); refine blk_put (cs := #[.slice Ao51 t205.length co51, .int .i64 0, .slice none 0 0]) ?_ 1 _ rfl; (with_reducible repeat (first | refine blk_drewN ?_ _ | refine blk_drew ?_ | refine blk_alloc ?_ _)); refine blk_put (cs := #[.slice none 0 0, .int .i64 0, .slice none 0 0]) ?_ 0 _ rfl; (with_reducible repeat (first | refine blk_drewN ?_ _ | refine blk_drew ?_ | refine blk_alloc ?_ _)); exact BK215.out) hb); have n16_ := Aside0.mk (below_step (by repeat (first | (with_reducible first | exact HB.out | apply below_alloc | apply pw_below_drewN | apply below_drew1 | refine below_set ?_ GE190.out | refine below_set ?_ GE215.out) | exact HB.out)) hb); clear HO172; clear HO176; clear HO179; clear HO182; clear HO186; clear HO189; clear HO193; clear HO197; clear HO201; clear HO204; clear HO207; clear HO211; clear HO214; clear BK190; clear BK215; clear HB; have HO172 := n0_; have HO176 := n1_; have HO179 := n2_; have HO182 := n3_; have HO186 := n4_; have HO189 := n5_; have HO193 := n6_; have HO197 := n7_; have HO201 := n8_; have HO204 := n9_; have HO207 := n10_; have HO211 := n11_; have HO214 := n12_; have HO218 := n13_; have BK190 := n14_; have BK215 := n15_; have HB := n16_; clear n0_ n1_ n2_ n3_ n4_ n5_ n6_ n7_ n8_ n9_ n10_ n11_ n12_ n13_ n14_ n15_ n16_; (try clear hb); (try clear hb2); (try clear hk); (try clear hi); (try clear ho0)) | ((with_reducible refine gate_callee (f := 9) rfl ?_); refine goesL_ (some 35) rfl rfl Try.func9 (by kernel_rfl) rfl #[.agg #[.slice none 0 0, .int .i64 (-1), .slice none 0 0]] rfl pM ?_; (refine (packstream_Close.calls k _ _ ([] : List Int) (-1) _ _ ([] : List Int) t220 t223 _ ?side1 ?side2 ?side3 ?side4 A8.out).mono ?_); (case side1 => exact Kd.C_nil _ _); (case side2 => exact Nat.le_refl _); (case side3 => exact Kd.C_nil _ _); (case side4 => exact Nat.le_refl _); rintro e w56 ⟨v221, rfl, ho0, hb⟩; refine ⟨_, rfl, ?_⟩; have n0_ := Aside0.mk (Kd.R_elder' (pR HO172) (Kd.R_base ho0) hb); have n1_ := Aside0.mk (Kd.R_elder' (pR HO176) (Kd.R_base ho0) hb); have n2_ := Aside0.mk (Kd.R_elder' (pR HO179) (Kd.R_base ho0) hb); have n3_ := Aside0.mk (Kd.R_elder' (pR HO182) (Kd.R_base ho0) hb); have n4_ := Aside0.mk (Kd.R_elder' (pR HO186) (Kd.R_base ho0) hb); have n5_ := Aside0.mk (Kd.R_elder' (pR HO189) (Kd.R_base ho0) hb); have n6_ := Aside0.mk (Kd.R_elder' (pR HO193) (Kd.R_base ho0) hb); have n7_ := Aside0.mk (Kd.R_elder' (pR HO197) (Kd.R_base ho0) hb); have n8_ := Aside0.mk (Kd.R_elder' (pR HO201) (Kd.R_base ho0) hb); have n9_ := Aside0.mk (Kd.R_elder' (pR HO204) (Kd.R_base ho0) hb); have n10_ := Aside0.mk (Kd.R_elder' (pR HO207) (Kd.R_base ho0) hb); have n11_ := Aside0.mk (Kd.R_elder' (pR HO211) (Kd.R_base ho0) hb); have n12_ := Aside0.mk (Kd.R_elder' (pR HO214) (Kd.R_base ho0) hb); have n13_ := Aside0.mk (Kd.R_elder' (pR HO218) (Kd.R_base ho0) hb); have n14_ := Aside0.mk (Kd.R_lower (Kd.R_new' (Kd.R_new' (Kd.R_new' (Kd.R_new' (Kd.R_new' (Kd.R_new' (Kd.R_new' (Kd.R_new' (Kd.R_new' (Kd.R_new' (Kd.R_new' (Kd.R_new' (Kd.R_new' (Kd.R_new' ho0 (Kd.R_lt (pR HO172))) (Kd.R_lt (pR HO176))) (Kd.R_lt (pR HO179))) (Kd.R_lt (pR HO182))) (Kd.R_lt (pR HO186))) (Kd.R_lt (pR HO189))) (Kd.R_lt (pR HO193))) (Kd.R_lt (pR HO197))) (Kd.R_lt (pR HO201))) (Kd.R_lt (pR HO204))) (Kd.R_lt (pR HO207))) (Kd.R_lt (pR HO211))) (Kd.R_lt (pR HO214))) (Kd.R_lt (pR HO218))) (below_size (by repeat (first | (with_reducible first | exact HB.out | apply below_alloc | apply pw_below_drewN | apply below_drew1 | refine below_set ?_ GE190.out | refine below_set ?_ GE215.out) | exact HB.out)))); have n15_ := Aside0.mk (blk_below (g := gb190) (o := .cells #[.slice Ao36 t180.length co36, .int .i64 t183, .slice Ao39 t184.length co39] 24 (0, 0)) (pK BK190) hb); have n16_ := Aside0.mk (blk_below (g := gb215) (o := .cells #[.slice Ao51 t205.length co51, .int .i64 t208, .slice Ao54 t209.length co54] 24 (0, 0)) (pK BK215) hb); have n17_ := Aside0.mk (below_step (by repeat (first | (with_reducible first | exact HB.out | apply below_alloc | apply pw_below_drewN | apply below_drew1 | refine below_set ?_ GE190.out | refine below_set ?_ GE215.out) | exact HB.out)) hb); clear HO172; clear HO176; clear HO179; clear HO182; clear HO186; clear HO189; clear HO193; clear HO197; clear HO201; clear HO204; clear HO207; clear HO211; clear HO214; clear HO218; clear BK190; clear BK215; clear HB; have HO172 := n0_; have HO176 := n1_; have HO179 := n2_; have HO182 := n3_; have HO186 := n4_; have HO189 := n5_; have HO193 := n6_; have HO197 := n7_; have HO201 := n8_; have HO204 := n9_; have HO207 := n10_; have HO211 := n11_; have HO214 := n12_; have HO218 := n13_; have HO222 := n14_; have BK190 := n15_; have BK215 := n16_; have HB := n17_; clear n0_ n1_ n2_ n3_ n4_ n5_ n6_ n7_ n8_ n9_ n10_ n11_ n12_ n13_ n14_ n15_ n16_ n17_; (try clear hb); (try clear hb2); (try clear hk); (try clear hi); (try clear ho0); have hcz57_0 : w56.cell? ⟨gb190, 0, none⟩ = some (.slice Ao36 t180.length co36) := (blk_cell BK190.out 0).trans rfl; have hcz57_1 : w56.cell? ⟨gb190, 1, none⟩ = some (.int .i64 t183) := (blk_cell BK190.out 1).trans rfl; have hcz57_2 : w56.cell? ⟨gb190, 2, none⟩ = some (.slice Ao39 t184.length co39) := (blk_cell BK190.out 2).trans rfl; have hfz57_0 := blk_frozen BK190.out 0; have hfz57_1 := blk_frozen BK190.out 1; have hfz57_2 := blk_frozen BK190.out 2) | ((with_reducible refine gate_callee (f := 12) rfl ?_); refine goesL_ (some 40) rfl rfl Try.func12 (by kernel_rfl) rfl #[.agg #[.slice Ao36 t180.length co36, .int .i64 t183, .slice Ao39 t184.length co39], .agg #[.slice none 0 0, .int .i64 1, .slice none 0 0]] rfl pM ?_; (refine (capnpref24_Same.calls k _ _ t180 t183 _ _ t184 _ _ ([] : List Int) 1 _ _ ([] : List Int) true _ ?side1 ?side2 ?side3 ?side4 ?side5 ?side6 ?side7 ?side8 A9.out).mono ?_); (case side1 => repeat (first | exact (Kd.R_reads' HO182.out).2.2 | (with_reducible refine Kd.C_alloc ?_ _) | (with_reducible refine Kd.C_drewN ?_ _) | (with_reducible refine Kd.C_drew ?_))); (case side2 => exact (Kd.R_reads' HO182.out).2.1); (case side3 => repeat (first | exact (Kd.R_reads' HO186.out).2.2 | (with_reducible refine Kd.C_alloc ?_ _) | (with_reducible refine Kd.C_drewN ?_ _) | (with_reducible refine Kd.C_drew ?_))); (case side4 => exact (Kd.R_reads' HO186.out).2.1); (case side5 => exact Kd.C_nil _ _); (case side6 => exact Nat.le_refl _); (case side7 => exact Kd.C_nil _ _); (case side8 => exact Nat.le_refl _); rintro e w58 ⟨rfl, hb⟩; refine ⟨_, rfl, ?_⟩; have n0_ := Aside0.mk (Kd.R_below (pR HO172) hb); have n1_ := Aside0.mk (Kd.R_below (pR HO176) hb); have n2_ := Aside0.mk (Kd.R_below (pR HO179) hb); have n3_ := Aside0.mk (Kd.R_below (pR HO182) hb); have n4_ := Aside0.mk (Kd.R_below (pR HO186) hb); have n5_ := Aside0.mk (Kd.R_below (pR HO189) hb); have n6_ := Aside0.mk (Kd.R_below (pR HO193) hb); have n7_ := Aside0.mk (Kd.R_below (pR HO197) hb); have n8_ := Aside0.mk (Kd.R_below (pR HO201) hb); have n9_ := Aside0.mk (Kd.R_below (pR HO204) hb); have n10_ := Aside0.mk (Kd.R_below (pR HO207) hb); have n11_ := Aside0.mk (Kd.R_below (pR HO211) hb); have n12_ := Aside0.mk (Kd.R_below (pR HO214) hb); have n13_ := Aside0.mk (Kd.R_below (pR HO218) hb); have n14_ := Aside0.mk (Kd.R_below (pR HO222) hb); have n15_ := Aside0.mk (blk_below (g := gb190) (o := .cells #[.slice Ao36 t180.length co36, .int .i64 t183, .slice Ao39 t184.length co39] 24 (0, 0)) (pK BK190) hb); have n16_ := Aside0.mk (blk_below (g := gb215) (o := .cells #[.slice Ao51 t205.length co51, .int .i64 t208, .slice Ao54 t209.length co54] 24 (0, 0)) (pK BK215) hb); have n17_ := Aside0.mk (below_step (by repeat (first | (with_reducible first | exact HB.out | apply below_alloc | apply pw_below_drewN | apply below_drew1 | refine below_set ?_ GE190.out | refine below_set ?_ GE215.out) | exact HB.out)) hb); clear HO172; clear HO176; clear HO179; clear HO182; clear HO186; clear HO189; clear HO193; clear HO197; clear HO201; clear HO204; clear HO207; clear HO211; clear HO214; clear HO218; clear HO222; clear BK190; clear BK215; clear HB; have HO172 := n0_; have HO176 := n1_; have HO179 := n2_; have HO182 := n3_; have HO186 := n4_; have HO189 := n5_; have HO193 := n6_; have HO197 := n7_; have HO201 := n8_; have HO204 := n9_; have HO207 := n10_; have HO211 := n11_; have HO214 := n12_; have HO218 := n13_; have HO222 := n14_; have BK190 := n15_; have BK215 := n16_; have HB := n17_; clear n0_ n1_ n2_ n3_ n4_ n5_ n6_ n7_ n8_ n9_ n10_ n11_ n12_ n13_ n14_ n15_ n16_ n17_; (try clear hb); (try clear hb2); (try clear hk); (try clear hi); obtain ⟨Ao59, co59, eo59⟩ := Kd.R_slice HO189.out; subst eo59) | ((with_reducible refine gate_dst (N := 48) rfl ?_); (try (refine gate_guard (by rfl) ?_; dsimp only)); refine Kd.R_lit (Kd.int .u8) _ 5 ?hg (N := 48) ?hd (xs := ([0, 0] : List Int)) (inner := [.int .u8 0, .int .u8 0]) (ok := fun _ => True) (okp := fun _ => True) ?hr ?hp (fun _ hk => hk) trivial (Below.refl _ _) (Nat.le_refl _) (by simp) ?_; (case hd => rfl); (case hg => rfl); (case hr => first | (go_simp; done) | (go_simp; rfl)); (case hp => exact (Reps.one (show Kd.M (Kd.int .u8) _ _ _ 0 [.int .u8 0] from rfl) (Reps.one (show Kd.M (Kd.int .u8) _ _ _ 0 [.int .u8 0] from rfl) (Reps.none _ _)))); intro v226 w60 ho61 hb hg_ hnew_; clear hg_ hnew_; (first | rw [← Ny225.out] at ho61 | (simp only [Int.reduceToNat] at ho61; rw [← Ny225.out] at ho61)); have n0_ := Aside0.mk (Kd.R_elder' (pR HO172) (Kd.R_base ho61) hb); have n1_ := Aside0.mk (Kd.R_elder' (pR HO176) (Kd.R_base ho61) hb); have n2_ := Aside0.mk (Kd.R_elder' (pR HO179) (Kd.R_base ho61) hb); have n3_ := Aside0.mk (Kd.R_elder' (pR HO182) (Kd.R_base ho61) hb); have n4_ := Aside0.mk (Kd.R_elder' (pR HO186) (Kd.R_base ho61) hb); have n5_ := Aside0.mk (Kd.R_elder' (pR HO189) (Kd.R_base ho61) hb); have n6_ := Aside0.mk (Kd.R_elder' (pR HO193) (Kd.R_base ho61) hb); have n7_ := Aside0.mk (Kd.R_elder' (pR HO197) (Kd.R_base ho61) hb); have n8_ := Aside0.mk (Kd.R_elder' (pR HO201) (Kd.R_base ho61) hb); have n9_ := Aside0.mk (Kd.R_elder' (pR HO204) (Kd.R_base ho61) hb); have n10_ := Aside0.mk (Kd.R_elder' (pR HO207) (Kd.R_base ho61) hb); have n11_ := Aside0.mk (Kd.R_elder' (pR HO211) (Kd.R_base ho61) hb); have n12_ := Aside0.mk (Kd.R_elder' (pR HO214) (Kd.R_base ho61) hb); have n13_ := Aside0.mk (Kd.R_elder' (pR HO218) (Kd.R_base ho61) hb); have n14_ := Aside0.mk (Kd.R_elder' (pR HO222) (Kd.R_base ho61) hb); have n15_ := Aside0.mk (Kd.R_lower (Kd.R_new' (Kd.R_new' (Kd.R_new' (Kd.R_new' (Kd.R_new' (Kd.R_new' (Kd.R_new' (Kd.R_new' (Kd.R_new' (Kd.R_new' (Kd.R_new' (Kd.R_new' (Kd.R_new' (Kd.R_new' (Kd.R_new' ho61 (Kd.R_lt (pR HO172))) (Kd.R_lt (pR HO176))) (Kd.R_lt (pR HO179))) (Kd.R_lt (pR HO182))) (Kd.R_lt (pR HO186))) (Kd.R_lt (pR HO189))) (Kd.R_lt (pR HO193))) (Kd.R_lt (pR HO197))) (Kd.R_lt (pR HO201))) (Kd.R_lt (pR HO204))) (Kd.R_lt (pR HO207))) (Kd.R_lt (pR HO211))) (Kd.R_lt (pR HO214))) (Kd.R_lt (pR HO218))) (Kd.R_lt (pR HO222))) (below_size (by repeat (first | (with_reducible first | exact HB.out | apply below_alloc | apply pw_below_drewN | apply below_drew1 | refine below_set ?_ GE190.out | refine below_set ?_ GE215.out) | exact HB.out)))); have n16_ := Aside0.mk (blk_below (g := gb190) (o := .cells #[.slice Ao36 t180.length co36, .int .i64 t183, .slice Ao39 t184.length co39] 24 (0, 0)) (pK BK190) hb); have n17_ := Aside0.mk (blk_below (g := gb215) (o := .cells #[.slice Ao51 t205.length co51, .int .i64 t208, .slice Ao54 t209.length co54] 24 (0, 0)) (pK BK215) hb); have n18_ := Aside0.mk (below_step (by repeat (first | (with_reducible first | exact HB.out | apply below_alloc | apply pw_below_drewN | apply below_drew1 | refine below_set ?_ GE190.out | refine below_set ?_ GE215.out) | exact HB.out)) hb); clear HO172; clear HO176; clear HO179; clear HO182; clear HO186; clear HO189; clear HO193; clear HO197; clear HO201; clear HO204; clear HO207; clear HO211; clear HO214; clear HO218; clear HO222; clear BK190; clear BK215; clear HB; have HO172 := n0_; have HO176 := n1_; have HO179 := n2_; have HO182 := n3_; have HO186 := n4_; have HO189 := n5_; have HO193 := n6_; have HO197 := n7_; have HO201 := n8_; have HO204 := n9_; have HO207 := n10_; have HO211 := n11_; have HO214 := n12_; have HO218 := n13_; have HO222 := n14_; have HO227 := n15_; have BK190 := n16_; have BK215 := n17_; have HB := n18_; clear n0_ n1_ n2_ n3_ n4_ n5_ n6_ n7_ n8_ n9_ n10_ n11_ n12_ n13_ n14_ n15_ n16_ n17_ n18_; clear hb ho61; obtain ⟨Ao62, co62, eo62⟩ := Kd.R_slice HO193.out; subst eo62; obtain ⟨Ao63, co63, eo63⟩ := Kd.R_slice HO227.out; subst eo63) | (go_at_call 16; (with_reducible refine (capnpref01_Same.calls k _ _ t191 _ _ y225 true _ ?side1 ?side2 ?side3 ?side4 A12.out).mono ?_); (case side1 => repeat (first | exact (Kd.R_reads' HO193.out).2.2 | (with_reducible refine Kd.C_alloc ?_ _) | (with_reducible refine Kd.C_drewN ?_ _) | (with_reducible refine Kd.C_drew ?_))); (case side2 => exact (Kd.R_reads' HO193.out).2.1); (case side3 => repeat (first | exact (Kd.R_reads' HO227.out).2.2 | (with_reducible refine Kd.C_alloc ?_ _) | (with_reducible refine Kd.C_drewN ?_ _) | (with_reducible refine Kd.C_drew ?_))); (case side4 => exact (Kd.R_reads' HO227.out).2.1); rintro e w' ⟨rfl, ⟨nd, rfl⟩⟩; have hcz64_0 : w60.cell? ⟨gb215, 0, none⟩ = some (.slice Ao51 t205.length co51) := (blk_cell BK215.out 0).trans rfl; have hcz64_1 : w60.cell? ⟨gb215, 1, none⟩ = some (.int .i64 t208) := (blk_cell BK215.out 1).trans rfl; have hcz64_2 : w60.cell? ⟨gb215, 2, none⟩ = some (.slice Ao54 t209.length co54) := (blk_cell BK215.out 2).trans rfl; have hfz64_0 := blk_frozen BK215.out 0; have hfz64_1 := blk_frozen BK215.out 1; have hfz64_2 := blk_frozen BK215.out 2) | ((with_reducible refine gate_dst (N := 57) rfl ?_); (try (refine gate_guard (by rfl) ?_; dsimp only)); refine Kd.R_lit (Kd.int .u8) _ 5 ?hg (N := 57) ?hd (xs := ([1, 2, 3] : List Int)) (inner := [.int .u8 1, .int .u8 2, .int .u8 3]) (ok := fun _ => True) (okp := fun _ => True) ?hr ?hp (fun _ hk => hk) trivial (Below.refl _ _) (Nat.le_refl _) (by simp) ?_; (case hd => rfl); (case hg => rfl); (case hr => first | (go_simp; done) | (go_simp; rfl)); (case hp => exact (Reps.one (show Kd.M (Kd.int .u8) _ _ _ 1 [.int .u8 1] from rfl) (Reps.one (show Kd.M (Kd.int .u8) _ _ _ 2 [.int .u8 2] from rfl) (Reps.one (show Kd.M (Kd.int .u8) _ _ _ 3 [.int .u8 3] from rfl) (Reps.none _ _))))); intro v230 w65 ho66 hb hg_ hnew_; clear hg_ hnew_; (first | rw [← Ny229.out] at ho66 | (simp only [Int.reduceToNat] at ho66; rw [← Ny229.out] at ho66)); have n0_ := Aside0.mk (Kd.R_elder' (pR HO172) (Kd.R_base ho66) hb); have n1_ := Aside0.mk (Kd.R_elder' (pR HO176) (Kd.R_base ho66) hb); have n2_ := Aside0.mk (Kd.R_elder' (pR HO179) (Kd.R_base ho66) hb); have n3_ := Aside0.mk (Kd.R_elder' (pR HO182) (Kd.R_base ho66) hb); have n4_ := Aside0.mk (Kd.R_elder' (pR HO186) (Kd.R_base ho66) hb); have n5_ := Aside0.mk (Kd.R_elder' (pR HO189) (Kd.R_base ho66) hb); have n6_ := Aside0.mk (Kd.R_elder' (pR HO193) (Kd.R_base ho66) hb); have n7_ := Aside0.mk (Kd.R_elder' (pR HO197) (Kd.R_base ho66) hb); have n8_ := Aside0.mk (Kd.R_elder' (pR HO201) (Kd.R_base ho66) hb); have n9_ := Aside0.mk (Kd.R_elder' (pR HO204) (Kd.R_base ho66) hb); have n10_ := Aside0.mk (Kd.R_elder' (pR HO207) (Kd.R_base ho66) hb); have n11_ := Aside0.mk (Kd.R_elder' (pR HO211) (Kd.R_base ho66) hb); have n12_ := Aside0.mk (Kd.R_elder' (pR HO214) (Kd.R_base ho66) hb); have n13_ := Aside0.mk (Kd.R_elder' (pR HO218) (Kd.R_base ho66) hb); have n14_ := Aside0.mk (Kd.R_elder' (pR HO222) (Kd.R_base ho66) hb); have n15_ := Aside0.mk (Kd.R_elder' (pR HO227) (Kd.R_base ho66) hb); have n16_ := Aside0.mk (Kd.R_lower (Kd.R_new' (Kd.R_new' (Kd.R_new' (Kd.R_new' (Kd.R_new' (Kd.R_new' (Kd.R_new' (Kd.R_new' (Kd.R_new' (Kd.R_new' (Kd.R_new' (Kd.R_new' (Kd.R_new' (Kd.R_new' (Kd.R_new' (Kd.R_new' ho66 (Kd.R_lt (pR HO172))) (Kd.R_lt (pR HO176))) (Kd.R_lt (pR HO179))) (Kd.R_lt (pR HO182))) (Kd.R_lt (pR HO186))) (Kd.R_lt (pR HO189))) (Kd.R_lt (pR HO193))) (Kd.R_lt (pR HO197))) (Kd.R_lt (pR HO201))) (Kd.R_lt (pR HO204))) (Kd.R_lt (pR HO207))) (Kd.R_lt (pR HO211))) (Kd.R_lt (pR HO214))) (Kd.R_lt (pR HO218))) (Kd.R_lt (pR HO222))) (Kd.R_lt (pR HO227))) (below_size (by repeat (first | (with_reducible first | exact HB.out | apply below_alloc | apply pw_below_drewN | apply below_drew1 | refine below_set ?_ GE190.out | refine below_set ?_ GE215.out) | exact HB.out)))); have n17_ := Aside0.mk (blk_below (g := gb190) (o := .cells #[.slice Ao36 t180.length co36, .int .i64 t183, .slice Ao39 t184.length co39] 24 (0, 0)) (pK BK190) hb); have n18_ := Aside0.mk (blk_below (g := gb215) (o := .cells #[.slice Ao51 t205.length co51, .int .i64 t208, .slice Ao54 t209.length co54] 24 (0, 0)) (pK BK215) hb); have n19_ := Aside0.mk (below_step (by repeat (first | (with_reducible first | exact HB.out | apply below_alloc | apply pw_below_drewN | apply below_drew1 | refine below_set ?_ GE190.out | refine below_set ?_ GE215.out) | exact HB.out)) hb); clear HO172; clear HO176; clear HO179; clear HO182; clear HO186; clear HO189; clear HO193; clear HO197; clear HO201; clear HO204; clear HO207; clear HO211; clear HO214; clear HO218; clear HO222; clear HO227; clear BK190; clear BK215; clear HB; have HO172 := n0_; have HO176 := n1_; have HO179 := n2_; have HO182 := n3_; have HO186 := n4_; have HO189 := n5_; have HO193 := n6_; have HO197 := n7_; have HO201 := n8_; have HO204 := n9_; have HO207 := n10_; have HO211 := n11_; have HO214 := n12_; have HO218 := n13_; have HO222 := n14_; have HO227 := n15_; have HO231 := n16_; have BK190 := n17_; have BK215 := n18_; have HB := n19_; clear n0_ n1_ n2_ n3_ n4_ n5_ n6_ n7_ n8_ n9_ n10_ n11_ n12_ n13_ n14_ n15_ n16_ n17_ n18_ n19_; clear hb ho66; obtain ⟨Ao67, co67, eo67⟩ := Kd.R_slice HO231.out; subst eo67) | (go_at_call 12; (rw [show (Value.slice none 0 0) = Value.slice none ([] : List Int).length 0 from rfl]); (with_reducible refine (capnpref24_Same.calls k _ _ t205 t208 _ _ t209 _ _ y229 0 _ _ ([] : List Int) true _ ?side1 ?side2 ?side3 ?side4 ?side5 ?side6 ?side7 ?side8 A15.out).mono ?_); (case side1 => repeat (first | exact (Kd.R_reads' HO207.out).2.2 | (with_reducible refine Kd.C_alloc ?_ _) | (with_reducible refine Kd.C_drewN ?_ _) | (with_reducible refine Kd.C_drew ?_))); (case side2 => exact (Kd.R_reads' HO207.out).2.1); (case side3 => repeat (first | exact (Kd.R_reads' HO211.out).2.2 | (with_reducible refine Kd.C_alloc ?_ _) | (with_reducible refine Kd.C_drewN ?_ _) | (with_reducible refine Kd.C_drew ?_))); (case side4 => exact (Kd.R_reads' HO211.out).2.1); (case side5 => repeat (first | exact (Kd.R_reads' HO231.out).2.2 | (with_reducible refine Kd.C_alloc ?_ _) | (with_reducible refine Kd.C_drewN ?_ _) | (with_reducible refine Kd.C_drew ?_))); (case side6 => exact (Kd.R_reads' HO231.out).2.1); (case side7 => exact Kd.C_nil _ _); (case side8 => exact Nat.le_refl _); rintro e w68 ⟨rfl, hb⟩; have n0_ := Aside0.mk (Kd.R_below (pR HO172) hb); have n1_ := Aside0.mk (Kd.R_below (pR HO176) hb); have n2_ := Aside0.mk (Kd.R_below (pR HO179) hb); have n3_ := Aside0.mk (Kd.R_below (pR HO182) hb); have n4_ := Aside0.mk (Kd.R_below (pR HO186) hb); have n5_ := Aside0.mk (Kd.R_below (pR HO189) hb); have n6_ := Aside0.mk (Kd.R_below (pR HO193) hb); have n7_ := Aside0.mk (Kd.R_below (pR HO197) hb); have n8_ := Aside0.mk (Kd.R_below (pR HO201) hb); have n9_ := Aside0.mk (Kd.R_below (pR HO204) hb); have n10_ := Aside0.mk (Kd.R_below (pR HO207) hb); have n11_ := Aside0.mk (Kd.R_below (pR HO211) hb); have n12_ := Aside0.mk (Kd.R_below (pR HO214) hb); have n13_ := Aside0.mk (Kd.R_below (pR HO218) hb); have n14_ := Aside0.mk (Kd.R_below (pR HO222) hb); have n15_ := Aside0.mk (Kd.R_below (pR HO227) hb); have n16_ := Aside0.mk (Kd.R_below (pR HO231) hb); have n17_ := Aside0.mk (blk_below (g := gb190) (o := .cells #[.slice Ao36 t180.length co36, .int .i64 t183, .slice Ao39 t184.length co39] 24 (0, 0)) (pK BK190) hb); have n18_ := Aside0.mk (blk_below (g := gb215) (o := .cells #[.slice Ao51 t205.length co51, .int .i64 t208, .slice Ao54 t209.length co54] 24 (0, 0)) (pK BK215) hb); have n19_ := Aside0.mk (below_step (by repeat (first | (with_reducible first | exact HB.out | apply below_alloc | apply pw_below_drewN | apply below_drew1 | refine below_set ?_ GE190.out | refine below_set ?_ GE215.out) | exact HB.out)) hb); clear HO172; clear HO176; clear HO179; clear HO182; clear HO186; clear HO189; clear HO193; clear HO197; clear HO201; clear HO204; clear HO207; clear HO211; clear HO214; clear HO218; clear HO222; clear HO227; clear HO231; clear BK190; clear BK215; clear HB; have HO172 := n0_; have HO176 := n1_; have HO179 := n2_; have HO182 := n3_; have HO186 := n4_; have HO189 := n5_; have HO193 := n6_; have HO197 := n7_; have HO201 := n8_; have HO204 := n9_; have HO207 := n10_; have HO211 := n11_; have HO214 := n12_; have HO218 := n13_; have HO222 := n14_; have HO227 := n15_; have HO231 := n16_; have BK190 := n17_; have BK215 := n18_; have HB := n19_; clear n0_ n1_ n2_ n3_ n4_ n5_ n6_ n7_ n8_ n9_ n10_ n11_ n12_ n13_ n14_ n15_ n16_ n17_ n18_ n19_; (try clear hb); (try clear hb2); (try clear hk); (try clear hi); obtain ⟨Ao69, co69, eo69⟩ := Kd.R_slice HO214.out; subst eo69; have hcz70_0 : w68.cell? ⟨gb190, 0, none⟩ = some (.slice Ao36 t180.length co36) := (blk_cell BK190.out 0).trans rfl; have hcz70_1 : w68.cell? ⟨gb190, 1, none⟩ = some (.int .i64 t183) := (blk_cell BK190.out 1).trans rfl; have hcz70_2 : w68.cell? ⟨gb190, 2, none⟩ = some (.slice Ao39 t184.length co39) := (blk_cell BK190.out 2).trans rfl; have hfz70_0 := blk_frozen BK190.out 0; have hfz70_1 := blk_frozen BK190.out 1; have hfz70_2 := blk_frozen BK190.out 2) | (go_at_call 11; (with_reducible refine (packstream_Valid.calls k _ _ t180 t183 _ _ t184 true _ ?side1 ?side2 ?side3 ?side4 A20.out).mono ?_); (case side1 => repeat (first | exact (Kd.R_reads' HO182.out).2.2 | (with_reducible refine Kd.C_alloc ?_ _) | (with_reducible refine Kd.C_drewN ?_ _) | (with_reducible refine Kd.C_drew ?_))); (case side2 => exact (Kd.R_reads' HO182.out).2.1); (case side3 => repeat (first | exact (Kd.R_reads' HO186.out).2.2 | (with_reducible refine Kd.C_alloc ?_ _) | (with_reducible refine Kd.C_drewN ?_ _) | (with_reducible refine Kd.C_drew ?_))); (case side4 => exact (Kd.R_reads' HO186.out).2.1); rintro e w71 ⟨rfl, hb⟩; have n0_ := Aside0.mk (Kd.R_below (pR HO172) hb); have n1_ := Aside0.mk (Kd.R_below (pR HO176) hb); have n2_ := Aside0.mk (Kd.R_below (pR HO179) hb); have n3_ := Aside0.mk (Kd.R_below (pR HO182) hb); have n4_ := Aside0.mk (Kd.R_below (pR HO186) hb); have n5_ := Aside0.mk (Kd.R_below (pR HO189) hb); have n6_ := Aside0.mk (Kd.R_below (pR HO193) hb); have n7_ := Aside0.mk (Kd.R_below (pR HO197) hb); have n8_ := Aside0.mk (Kd.R_below (pR HO201) hb); have n9_ := Aside0.mk (Kd.R_below (pR HO204) hb); have n10_ := Aside0.mk (Kd.R_below (pR HO207) hb); have n11_ := Aside0.mk (Kd.R_below (pR HO211) hb); have n12_ := Aside0.mk (Kd.R_below (pR HO214) hb); have n13_ := Aside0.mk (Kd.R_below (pR HO218) hb); have n14_ := Aside0.mk (Kd.R_below (pR HO222) hb); have n15_ := Aside0.mk (Kd.R_below (pR HO227) hb); have n16_ := Aside0.mk (Kd.R_below (pR HO231) hb); have n17_ := Aside0.mk (blk_below (g := gb190) (o := .cells #[.slice Ao36 t180.length co36, .int .i64 t183, .slice Ao39 t184.length co39] 24 (0, 0)) (pK BK190) hb); have n18_ := Aside0.mk (blk_below (g := gb215) (o := .cells #[.slice Ao51 t205.length co51, .int .i64 t208, .slice Ao54 t209.length co54] 24 (0, 0)) (pK BK215) hb); have n19_ := Aside0.mk (below_step (by repeat (first | (with_reducible first | exact HB.out | apply below_alloc | apply pw_below_drewN | apply below_drew1 | refine below_set ?_ GE190.out | refine below_set ?_ GE215.out) | exact HB.out)) hb); clear HO172; clear HO176; clear HO179; clear HO182; clear HO186; clear HO189; clear HO193; clear HO197; clear HO201; clear HO204; clear HO207; clear HO211; clear HO214; clear HO218; clear HO222; clear HO227; clear HO231; clear BK190; clear BK215; clear HB; have HO172 := n0_; have HO176 := n1_; have HO179 := n2_; have HO182 := n3_; have HO186 := n4_; have HO189 := n5_; have HO193 := n6_; have HO197 := n7_; have HO201 := n8_; have HO204 := n9_; have HO207 := n10_; have HO211 := n11_; have HO214 := n12_; have HO218 := n13_; have HO222 := n14_; have HO227 := n15_; have HO231 := n16_; have BK190 := n17_; have BK215 := n18_; have HB := n19_; clear n0_ n1_ n2_ n3_ n4_ n5_ n6_ n7_ n8_ n9_ n10_ n11_ n12_ n13_ n14_ n15_ n16_ n17_ n18_ n19_; (try clear hb); (try clear hb2); (try clear hk); (try clear hi)) | (go_at_call 11; (rw [show (Value.slice none 0 0) = Value.slice none ([] : List Int).length 0 from rfl]); (with_reducible refine (packstream_Valid.calls k _ _ ([] : List Int) 256 _ _ ([] : List Int) false _ ?side1 ?side2 ?side3 ?side4 A22.out).mono ?_); (case side1 => exact Kd.C_nil _ _); (case side2 => exact Nat.le_refl _); (case side3 => exact Kd.C_nil _ _); (case side4 => exact Nat.le_refl _); rintro e w72 ⟨rfl, hb⟩; have n0_ := Aside0.mk (Kd.R_below (pR HO172) hb); have n1_ := Aside0.mk (Kd.R_below (pR HO176) hb); have n2_ := Aside0.mk (Kd.R_below (pR HO179) hb); have n3_ := Aside0.mk (Kd.R_below (pR HO182) hb); have n4_ := Aside0.mk (Kd.R_below (pR HO186) hb); have n5_ := Aside0.mk (Kd.R_below (pR HO189) hb); have n6_ := Aside0.mk (Kd.R_below (pR HO193) hb); have n7_ := Aside0.mk (Kd.R_below (pR HO197) hb); have n8_ := Aside0.mk (Kd.R_below (pR HO201) hb); have n9_ := Aside0.mk (Kd.R_below (pR HO204) hb); have n10_ := Aside0.mk (Kd.R_below (pR HO207) hb); have n11_ := Aside0.mk (Kd.R_below (pR HO211) hb); have n12_ := Aside0.mk (Kd.R_below (pR HO214) hb); have n13_ := Aside0.mk (Kd.R_below (pR HO218) hb); have n14_ := Aside0.mk (Kd.R_below (pR HO222) hb); have n15_ := Aside0.mk (Kd.R_below (pR HO227) hb); have n16_ := Aside0.mk (Kd.R_below (pR HO231) hb); have n17_ := Aside0.mk (blk_below (g := gb190) (o := .cells #[.slice Ao36 t180.length co36, .int .i64 t183, .slice Ao39 t184.length co39] 24 (0, 0)) (pK BK190) hb); have n18_ := Aside0.mk (blk_below (g := gb215) (o := .cells #[.slice Ao51 t205.length co51, .int .i64 t208, .slice Ao54 t209.length co54] 24 (0, 0)) (pK BK215) hb); have n19_ := Aside0.mk (below_step (by repeat (first | (with_reducible first | exact HB.out | apply below_alloc | apply pw_below_drewN | apply below_drew1 | refine below_set ?_ GE190.out | refine below_set ?_ GE215.out) | exact HB.out)) hb); clear HO172; clear HO176; clear HO179; clear HO182; clear HO186; clear HO189; clear HO193; clear HO197; clear HO201; clear HO204; clear HO207; clear HO211; clear HO214; clear HO218; clear HO222; clear HO227; clear HO231; clear BK190; clear BK215; clear HB; have HO172 := n0_; have HO176 := n1_; have HO179 := n2_; have HO182 := n3_; have HO186 := n4_; have HO189 := n5_; have HO193 := n6_; have HO197 := n7_; have HO201 := n8_; have HO204 := n9_; have HO207 := n10_; have HO211 := n11_; have HO214 := n12_; have HO218 := n13_; have HO222 := n14_; have HO227 := n15_; have HO231 := n16_; have BK190 := n17_; have BK215 := n18_; have HB := n19_; clear n0_ n1_ n2_ n3_ n4_ n5_ n6_ n7_ n8_ n9_ n10_ n11_ n12_ n13_ n14_ n15_ n16_ n17_ n18_ n19_; (try clear hb); (try clear hb2); (try clear hk); (try clear hi)) | (go_at_call 17; (with_reducible refine (packstream_New.calls  t235 t238 t239 _ A24.out).mono ?_); rintro e w73 ⟨v236, v240, rfl, ho0, ho1, hb⟩; have n0_ := Aside0.mk (Kd.R_mono (Kd.R_told (Kd.R_told (Kd.R_old (pR HO172) hb) (Kd.R_base ho0)) (Kd.R_base ho1)) (fun _ h_ => h_.1)); have n1_ := Aside0.mk (Kd.R_mono (Kd.R_told (Kd.R_told (Kd.R_old (pR HO176) hb) (Kd.R_base ho0)) (Kd.R_base ho1)) (fun _ h_ => h_.1)); have n2_ := Aside0.mk (Kd.R_mono (Kd.R_told (Kd.R_told (Kd.R_old (pR HO179) hb) (Kd.R_base ho0)) (Kd.R_base ho1)) (fun _ h_ => h_.1)); have n3_ := Aside0.mk (Kd.R_mono (Kd.R_told (Kd.R_told (Kd.R_old (pR HO182) hb) (Kd.R_base ho0)) (Kd.R_base ho1)) (fun _ h_ => h_.1)); have n4_ := Aside0.mk (Kd.R_mono (Kd.R_told (Kd.R_told (Kd.R_old (pR HO186) hb) (Kd.R_base ho0)) (Kd.R_base ho1)) (fun _ h_ => h_.1)); have n5_ := Aside0.mk (Kd.R_mono (Kd.R_told (Kd.R_told (Kd.R_old (pR HO189) hb) (Kd.R_base ho0)) (Kd.R_base ho1)) (fun _ h_ => h_.1)); have n6_ := Aside0.mk (Kd.R_mono (Kd.R_told (Kd.R_told (Kd.R_old (pR HO193) hb) (Kd.R_base ho0)) (Kd.R_base ho1)) (fun _ h_ => h_.1)); have n7_ := Aside0.mk (Kd.R_mono (Kd.R_told (Kd.R_told (Kd.R_old (pR HO197) hb) (Kd.R_base ho0)) (Kd.R_base ho1)) (fun _ h_ => h_.1)); have n8_ := Aside0.mk (Kd.R_mono (Kd.R_told (Kd.R_told (Kd.R_old (pR HO201) hb) (Kd.R_base ho0)) (Kd.R_base ho1)) (fun _ h_ => h_.1)); have n9_ := Aside0.mk (Kd.R_mono (Kd.R_told (Kd.R_told (Kd.R_old (pR HO204) hb) (Kd.R_base ho0)) (Kd.R_base ho1)) (fun _ h_ => h_.1)); have n10_ := Aside0.mk (Kd.R_mono (Kd.R_told (Kd.R_told (Kd.R_old (pR HO207) hb) (Kd.R_base ho0)) (Kd.R_base ho1)) (fun _ h_ => h_.1)); have n11_ := Aside0.mk (Kd.R_mono (Kd.R_told (Kd.R_told (Kd.R_old (pR HO211) hb) (Kd.R_base ho0)) (Kd.R_base ho1)) (fun _ h_ => h_.1)); have n12_ := Aside0.mk (Kd.R_mono (Kd.R_told (Kd.R_told (Kd.R_old (pR HO214) hb) (Kd.R_base ho0)) (Kd.R_base ho1)) (fun _ h_ => h_.1)); have n13_ := Aside0.mk (Kd.R_mono (Kd.R_told (Kd.R_told (Kd.R_old (pR HO218) hb) (Kd.R_base ho0)) (Kd.R_base ho1)) (fun _ h_ => h_.1)); have n14_ := Aside0.mk (Kd.R_mono (Kd.R_told (Kd.R_told (Kd.R_old (pR HO222) hb) (Kd.R_base ho0)) (Kd.R_base ho1)) (fun _ h_ => h_.1)); have n15_ := Aside0.mk (Kd.R_mono (Kd.R_told (Kd.R_told (Kd.R_old (pR HO227) hb) (Kd.R_base ho0)) (Kd.R_base ho1)) (fun _ h_ => h_.1)); have n16_ := Aside0.mk (Kd.R_mono (Kd.R_told (Kd.R_told (Kd.R_old (pR HO231) hb) (Kd.R_base ho0)) (Kd.R_base ho1)) (fun _ h_ => h_.1)); have n17_ := Aside0.mk (Kd.R_lower (Kd.R_new' (Kd.R_new' (Kd.R_new' (Kd.R_new' (Kd.R_new' (Kd.R_new' (Kd.R_new' (Kd.R_new' (Kd.R_new' (Kd.R_new' (Kd.R_new' (Kd.R_new' (Kd.R_new' (Kd.R_new' (Kd.R_new' (Kd.R_new' (Kd.R_new' ho0 (Kd.R_lt (pR HO172))) (Kd.R_lt (pR HO176))) (Kd.R_lt (pR HO179))) (Kd.R_lt (pR HO182))) (Kd.R_lt (pR HO186))) (Kd.R_lt (pR HO189))) (Kd.R_lt (pR HO193))) (Kd.R_lt (pR HO197))) (Kd.R_lt (pR HO201))) (Kd.R_lt (pR HO204))) (Kd.R_lt (pR HO207))) (Kd.R_lt (pR HO211))) (Kd.R_lt (pR HO214))) (Kd.R_lt (pR HO218))) (Kd.R_lt (pR HO222))) (Kd.R_lt (pR HO227))) (Kd.R_lt (pR HO231))) (below_size (by repeat (first | (with_reducible first | exact HB.out | apply below_alloc | apply pw_below_drewN | apply below_drew1 | refine below_set ?_ GE190.out | refine below_set ?_ GE215.out) | exact HB.out)))); have n18_ := Aside0.mk (Kd.R_lower (Kd.R_new' (Kd.R_new' (Kd.R_new' (Kd.R_new' (Kd.R_new' (Kd.R_new' (Kd.R_new' (Kd.R_new' (Kd.R_new' (Kd.R_new' (Kd.R_new' (Kd.R_new' (Kd.R_new' (Kd.R_new' (Kd.R_new' (Kd.R_new' (Kd.R_new' ho1 (Kd.R_lt (pR HO172))) (Kd.R_lt (pR HO176))) (Kd.R_lt (pR HO179))) (Kd.R_lt (pR HO182))) (Kd.R_lt (pR HO186))) (Kd.R_lt (pR HO189))) (Kd.R_lt (pR HO193))) (Kd.R_lt (pR HO197))) (Kd.R_lt (pR HO201))) (Kd.R_lt (pR HO204))) (Kd.R_lt (pR HO207))) (Kd.R_lt (pR HO211))) (Kd.R_lt (pR HO214))) (Kd.R_lt (pR HO218))) (Kd.R_lt (pR HO222))) (Kd.R_lt (pR HO227))) (Kd.R_lt (pR HO231))) (below_size (by repeat (first | (with_reducible first | exact HB.out | apply below_alloc | apply pw_below_drewN | apply below_drew1 | refine below_set ?_ GE190.out | refine below_set ?_ GE215.out) | exact HB.out)))); have n19_ := Aside0.mk (blk_below (g := gb190) (o := .cells #[.slice Ao36 t180.length co36, .int .i64 t183, .slice Ao39 t184.length co39] 24 (0, 0)) (pK BK190) hb); have n20_ := Aside0.mk (blk_below (g := gb215) (o := .cells #[.slice Ao51 t205.length co51, .int .i64 t208, .slice Ao54 t209.length co54] 24 (0, 0)) (pK BK215) hb); have n21_ := Aside0.mk (below_step (by repeat (first | (with_reducible first | exact HB.out | apply below_alloc | apply pw_below_drewN | apply below_drew1 | refine below_set ?_ GE190.out | refine below_set ?_ GE215.out) | exact HB.out)) hb); clear HO172; clear HO176; clear HO179; clear HO182; clear HO186; clear HO189; clear HO193; clear HO197; clear HO201; clear HO204; clear HO207; clear HO211; clear HO214; clear HO218; clear HO222; clear HO227; clear HO231; clear BK190; clear BK215; clear HB; have HO172 := n0_; have HO176 := n1_; have HO179 := n2_; have HO182 := n3_; have HO186 := n4_; have HO189 := n5_; have HO193 := n6_; have HO197 := n7_; have HO201 := n8_; have HO204 := n9_; have HO207 := n10_; have HO211 := n11_; have HO214 := n12_; have HO218 := n13_; have HO222 := n14_; have HO227 := n15_; have HO231 := n16_; have HO237 := n17_; have HO241 := n18_; have BK190 := n19_; have BK215 := n20_; have HB := n21_; clear n0_ n1_ n2_ n3_ n4_ n5_ n6_ n7_ n8_ n9_ n10_ n11_ n12_ n13_ n14_ n15_ n16_ n17_ n18_ n19_ n20_ n21_; (try clear hb); (try clear hb2); (try clear hk); (try clear hi); (try clear ho0); (try clear ho1); obtain ⟨Ao74, co74, eo74⟩ := Kd.R_slice HO237.out; subst eo74; obtain ⟨Ao75, co75, eo75⟩ := Kd.R_slice HO241.out; subst eo75) | (go_at_call 12; (rw [show (Value.slice none 0 0) = Value.slice none ([] : List Int).length 0 from rfl]); (with_reducible refine (capnpref24_Same.calls k _ _ t235 t238 _ _ t239 _ _ ([] : List Int) 0 _ _ ([] : List Int) t242 _ ?side1 ?side2 ?side3 ?side4 ?side5 ?side6 ?side7 ?side8 A25.out).mono ?_); (case side1 => repeat (first | exact (Kd.R_reads' HO237.out).2.2 | (with_reducible refine Kd.C_alloc ?_ _) | (with_reducible refine Kd.C_drewN ?_ _) | (with_reducible refine Kd.C_drew ?_))); (case side2 => exact (Kd.R_reads' HO237.out).2.1); (case side3 => repeat (first | exact (Kd.R_reads' HO241.out).2.2 | (with_reducible refine Kd.C_alloc ?_ _) | (with_reducible refine Kd.C_drewN ?_ _) | (with_reducible refine Kd.C_drew ?_))); (case side4 => exact (Kd.R_reads' HO241.out).2.1); (case side5 => exact Kd.C_nil _ _); (case side6 => exact Nat.le_refl _); (case side7 => exact Kd.C_nil _ _); (case side8 => exact Nat.le_refl _); rintro e w76 ⟨rfl, hb⟩; have n0_ := Aside0.mk (Kd.R_below (pR HO172) hb); have n1_ := Aside0.mk (Kd.R_below (pR HO176) hb); have n2_ := Aside0.mk (Kd.R_below (pR HO179) hb); have n3_ := Aside0.mk (Kd.R_below (pR HO182) hb); have n4_ := Aside0.mk (Kd.R_below (pR HO186) hb); have n5_ := Aside0.mk (Kd.R_below (pR HO189) hb); have n6_ := Aside0.mk (Kd.R_below (pR HO193) hb); have n7_ := Aside0.mk (Kd.R_below (pR HO197) hb); have n8_ := Aside0.mk (Kd.R_below (pR HO201) hb); have n9_ := Aside0.mk (Kd.R_below (pR HO204) hb); have n10_ := Aside0.mk (Kd.R_below (pR HO207) hb); have n11_ := Aside0.mk (Kd.R_below (pR HO211) hb); have n12_ := Aside0.mk (Kd.R_below (pR HO214) hb); have n13_ := Aside0.mk (Kd.R_below (pR HO218) hb); have n14_ := Aside0.mk (Kd.R_below (pR HO222) hb); have n15_ := Aside0.mk (Kd.R_below (pR HO227) hb); have n16_ := Aside0.mk (Kd.R_below (pR HO231) hb); have n17_ := Aside0.mk (Kd.R_below (pR HO237) hb); have n18_ := Aside0.mk (Kd.R_below (pR HO241) hb); have n19_ := Aside0.mk (blk_below (g := gb190) (o := .cells #[.slice Ao36 t180.length co36, .int .i64 t183, .slice Ao39 t184.length co39] 24 (0, 0)) (pK BK190) hb); have n20_ := Aside0.mk (blk_below (g := gb215) (o := .cells #[.slice Ao51 t205.length co51, .int .i64 t208, .slice Ao54 t209.length co54] 24 (0, 0)) (pK BK215) hb); have n21_ := Aside0.mk (below_step (by repeat (first | (with_reducible first | exact HB.out | apply below_alloc | apply pw_below_drewN | apply below_drew1 | refine below_set ?_ GE190.out | refine below_set ?_ GE215.out) | exact HB.out)) hb); clear HO172; clear HO176; clear HO179; clear HO182; clear HO186; clear HO189; clear HO193; clear HO197; clear HO201; clear HO204; clear HO207; clear HO211; clear HO214; clear HO218; clear HO222; clear HO227; clear HO231; clear HO237; clear HO241; clear BK190; clear BK215; clear HB; have HO172 := n0_; have HO176 := n1_; have HO179 := n2_; have HO182 := n3_; have HO186 := n4_; have HO189 := n5_; have HO193 := n6_; have HO197 := n7_; have HO201 := n8_; have HO204 := n9_; have HO207 := n10_; have HO211 := n11_; have HO214 := n12_; have HO218 := n13_; have HO222 := n14_; have HO227 := n15_; have HO231 := n16_; have HO237 := n17_; have HO241 := n18_; have BK190 := n19_; have BK215 := n20_; have HB := n21_; clear n0_ n1_ n2_ n3_ n4_ n5_ n6_ n7_ n8_ n9_ n10_ n11_ n12_ n13_ n14_ n15_ n16_ n17_ n18_ n19_ n20_ n21_; (try clear hb); (try clear hb2); (try clear hk); (try clear hi)))
                        go_ret
                        exact ⟨by first | rfl | (simp [errW_none, errW_some] <;> rfl) | (simp [*, errW_none, errW_some] <;> rfl), by repeat (first | (with_reducible first | exact HB.out | apply below_alloc | apply pw_below_drewN | apply below_drew1 | refine below_set ?_ GE190.out | refine below_set ?_ GE215.out) | exact HB.out)⟩
                    · replace c21 := Bool.eq_false_iff.mpr c21
                      subst c21
                      have H1 : (none) = some r := by rw [if_neg (show ¬ (false = true) by decide)] at H; exact H
                      clear H
                      have H := H1
                      clear H1
                      exact absurd H (by simp)
                  · rw [if_neg c19] at H
                    exact absurd H (by simp)
                · rw [if_neg c18] at H
                  exact absurd H (by simp)
              · rw [if_neg c17] at H
                exact absurd H (by simp)
            · replace c16 := Bool.eq_false_iff.mpr c16
              subst c16
              have H1 : (none) = some r := by rw [if_neg (show ¬ (false = true) by decide)] at H; exact H
              clear H
              have H := H1
              clear H1
              exact absurd H (by simp)
          · rw [if_neg c14] at H
            exact absurd H (by simp)
        · replace c13 := Bool.eq_false_iff.mpr c13
          subst c13
          have H1 : (none) = some r := by rw [if_neg (show ¬ (false = true) by decide)] at H; exact H
          clear H
          have H := H1
          clear H1
          exact absurd H (by simp)
      · rw [if_neg c11] at H
        exact absurd H (by simp)
    · replace c10 := Bool.eq_false_iff.mpr c10
      subst c10
      have H1 : (none) = some r := by rw [if_neg (show ¬ (false = true) by decide)] at H; exact H
      clear H
      have H := H1
      clear H1
      exact absurd H (by simp)
  · rw [if_neg c2] at H
    exact absurd H (by simp)
end Go.Proofs.Ytibkbgaonjdpiaa.PPackstreamSplit
