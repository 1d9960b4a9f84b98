/- The decoder of package unpack: its methods, walked by hand, come to plain functions. -/
import Derived.Test.YthghblmffdfbaaaGreatDoorQUnBaseH
import Derived.Test.YthghblmffdfbaaaGreatDoorIsH
import Derived.Deep.RegionWith
import Derived.Deep.RegionLaw
import Derived.RegionCalls
import Derived.WalkMore
import Derived.Test.YthghblmffdfbaaaGreatDoorM6H

namespace Go.Proofs.YthghblmffdfbaaaGreatDoor.Un
open Go Go.RowKit Go.Proofs.YthghblmffdfbaaaGreatDoor Go.Proofs.YthghblmffdfbaaaGreatDoor.M Go.Proofs.YthghblmffdfbaaaGreatDoor.PUnBase Go.Proofs.YthghblmffdfbaaaGreatDoor.QUnBase Go.Proofs.YthghblmffdfbaaaGreatDoorW.PrintWords Go.Proofs.YthghblmffdfbaaaGreatDoorW.PrintLast Go.Proofs.YthghblmffdfbaaaGreatDoorW.PrintMore
set_option linter.unusedVariables false
set_option linter.unusedSimpArgs false
set_option maxHeartbeats 8000000
set_option maxRecDepth 100000
structure LaidU (W : World) (aL aT : Addr) : Prop where
  c0 : W.cell? ⟨1, 0, none⟩ = some (.iface 289 (.pointer (some aL)))
  c1 : W.cell? ⟨2, 0, none⟩ = some (.iface 289 (.pointer (some aT)))
  ne : aL ≠ aT
  bL : ∃ c t, W.heap[aL.block]? = some (.cells c t (0, 0))
  bT : ∃ c t, W.heap[aT.block]? = some (.cells c t (0, 0))
theorem block_lt {W : World} {k : Nat} {o : Obj} (h : W.heap[k]? = some o) : k < W.heap.size := by
  rcases Nat.lt_or_ge k W.heap.size with h' | h'
  · exact h'
  · rw [Array.getElem?_eq_none h'] at h; cases h
theorem cell_lt {W : World} {a : Addr} {v : Value} (h : W.cell? a = some v) : a.block < W.heap.size := by
  rcases Nat.lt_or_ge a.block W.heap.size with h' | h'
  · exact h'
  · simp [World.cell?, Array.getElem?_eq_none h'] at h
theorem LaidU.below {W w : World} {aL aT : Addr} (h : LaidU W aL aT) (hb : Below W.heap.size W w) : LaidU w aL aT where
  c0 := (hb.cell (cell_lt h.c0)).trans h.c0
  c1 := (hb.cell (cell_lt h.c1)).trans h.c1
  ne := h.ne
  bL := by obtain ⟨c, t, e⟩ := h.bL; exact ⟨c, t, (hb.block _ (block_lt e)).trans e⟩
  bT := by obtain ⟨c, t, e⟩ := h.bT; exact ⟨c, t, (hb.block _ (block_lt e)).trans e⟩
structure Dec (W0 w : World) (g : Nat) (inn out : List Int) (lim : Int) : Prop where
  ex : ∃ (A : Option Addr) (c : Nat) (v : Value), w.heap[g]? = some (.cells #[.slice A inn.length c, v, .int .i64 lim] 119 (0, 0)) ∧ Kd.C (Kd.int .u8) W0 A inn.length inn ∧ inn.length ≤ c ∧ Kd.R (Kd.int .u8) 5 w W0.heap.size (fun k => k ≠ g) v out
  bel : Below W0.heap.size W0 w
  hg : W0.heap.size ≤ g
theorem Dec.cell0 {w : World} {g : Nat} {x y z : Value} {t : TypeId} (h : w.heap[g]? = some (.cells #[x, y, z] t (0, 0))) : w.cell? ⟨g, 0, none⟩ = some x := by simp [World.cell?, h]
theorem Dec.cell1 {w : World} {g : Nat} {x y z : Value} {t : TypeId} (h : w.heap[g]? = some (.cells #[x, y, z] t (0, 0))) : w.cell? ⟨g, 1, none⟩ = some y := by simp [World.cell?, h]
theorem Dec.cell2 {w : World} {g : Nat} {x y z : Value} {t : TypeId} (h : w.heap[g]? = some (.cells #[x, y, z] t (0, 0))) : w.cell? ⟨g, 2, none⟩ = some z := by simp [World.cell?, h]
theorem Dec.drew {W0 w : World} {g : Nat} {inn out : List Int} {lim : Int} (h : Dec W0 w g inn out lim) : Dec W0 w.drew g inn out lim := by
  obtain ⟨⟨A, c, v, hblk, hin, hlen, hown⟩, hbel, hg⟩ := h
  exact ⟨⟨A, c, v, hblk, hin, hlen, Kd.R_drew hown⟩, hbel.drew, hg⟩
theorem Dec.cellN (W : World) (x : Int) (t : TypeId) : (W.alloc (.cells #[.int .u64 x] t)).cell? (Addr.add ⟨W.heap.size, 0, none⟩ (0 * (Kd.int .u64).sz + 0)) = some (.int .u64 x) := by
  have h : (W.alloc (.cells #[.int .u64 x] t)).heap[W.heap.size]? = some (.cells #[.int .u64 x] t) := by
    show (W.heap.push _)[W.heap.size]? = _
    rw [Array.getElem?_push_size]
  show (World.cell? _ ⟨W.heap.size, 0, none⟩) = _
  simp only [World.cell?, h]
  rfl
theorem C_one (W : World) (x : Int) (t : TypeId) : Kd.C (Kd.int .u64) (W.alloc (.cells #[.int .u64 x] t)) (some ⟨W.heap.size, 0, none⟩) 1 [x] := by
  refine ⟨rfl, by omega, fun _ => ⟨_, rfl, fun j p hj => ⟨[.int .u64 x], rfl, ?_, fun i u hu => ?_⟩⟩⟩
  · cases j with
    | zero => simp at hj; subst hj; rfl
    | succ j => simp at hj
  · cases j with
    | zero =>
      cases i with
      | zero => simp at hu; subst hu; exact Dec.cellN W x t
      | succ i => simp at hu
    | succ j => simp at hj
theorem blk_alloc {w : World} {g : Nat} {o o' : Obj} (h : w.heap[g]? = some o) : (w.drew.drew.alloc o').heap[g]? = some o := (Below.heap_alloc w o' g (block_lt h)).trans h
theorem blk_below {w w1 : World} {g : Nat} {o : Obj} (h : w.heap[g]? = some o) (hb : Below w.heap.size w w1) : w1.heap[g]? = some o := (hb.block g (block_lt h)).trans h
theorem blk_frozen {w : World} {g : Nat} {cs : Array Value} {t : TypeId} (h : w.heap[g]? = some (.cells cs t (0, 0))) (j : Nat) : w.frozen? ⟨g, j, none⟩ = false := by
  simp [World.frozen?, h]
theorem blk_set0 {w : World} {g : Nat} {x y z : Value} {t : TypeId} (h : w.heap[g]? = some (.cells #[x, y, z] t (0, 0))) (v : Value) : (w.setCell ⟨g, 0, none⟩ v).heap[g]? = some (.cells #[v, y, z] t (0, 0)) := by
  simp [World.setCell, Array.getElem?_modify, h]
theorem blk_set1 {w : World} {g : Nat} {x y z : Value} {t : TypeId} (h : w.heap[g]? = some (.cells #[x, y, z] t (0, 0))) (v : Value) : (w.setCell ⟨g, 1, none⟩ v).heap[g]? = some (.cells #[x, v, z] t (0, 0)) := by
  simp [World.setCell, Array.getElem?_modify, h]
theorem Dec.setOut {W0 w : World} {g : Nat} {inn out : List Int} {lim : Int} {A : Option Addr} {c : Nat} {y v : Value} (hblk : w.heap[g]? = some (.cells #[.slice A inn.length c, y, .int .i64 lim] 119 (0, 0))) (hin : Kd.C (Kd.int .u8) W0 A inn.length inn) (hlen : inn.length ≤ c) (hown : Kd.R (Kd.int .u8) 5 w W0.heap.size (fun k => k ≠ g) v out) (hb : Below W0.heap.size W0 w) (hg : W0.heap.size ≤ g) : Dec W0 (w.setCell ⟨g, 1, none⟩ v) g inn out lim :=
  ⟨⟨A, c, v, blk_set1 hblk v, hin, hlen, Kd.R_far hown (fun _ hk => hk) v⟩, hb.setCell hg v, hg⟩
theorem Dec.setIn {W0 w : World} {g : Nat} {inn out : List Int} {lim : Int} {A : Option Addr} {c : Nat} {x v : Value} (hblk : w.heap[g]? = some (.cells #[x, v, .int .i64 lim] 119 (0, 0))) (hin : Kd.C (Kd.int .u8) W0 A inn.length inn) (hlen : inn.length ≤ c) (hown : Kd.R (Kd.int .u8) 5 w W0.heap.size (fun k => k ≠ g) v out) (hb : Below W0.heap.size W0 w) (hg : W0.heap.size ≤ g) : Dec W0 (w.setCell ⟨g, 0, none⟩ (.slice A inn.length c)) g inn out lim :=
  ⟨⟨A, c, v, blk_set0 hblk _, hin, hlen, Kd.R_far hown (fun _ hk => hk) _⟩, hb.setCell hg _, hg⟩
theorem emit_full {W0 w : World} {g : Nat} {inn out : List Int} {lim x : Int} {aL aT : Addr} (hd : Dec W0 w g inn out lim) (hL : LaidU W0 aL aT) (h : lim < (out.length : Int) + 8) (hn : out.length ≤ 140737488355328) :
    Calls Tryz.prog 140 #[.pointer (some ⟨g, 0, none⟩), .int .u64 x] w fun e w' => e = .returned (.iface 289 (.pointer (some aL))) ∧ Dec W0 w' g inn out lim := by
  have HD := Aside0.mk hd
  obtain ⟨⟨A, c, v, hblk, hin, hlen, hown⟩, hbel, hg⟩ := hd
  obtain ⟨A', c', rfl, hc', _⟩ := Kd.R_reads hown
  have f0 := Dec.cell0 hblk
  have f1 := Dec.cell1 hblk
  have f2 := Dec.cell2 hblk
  have g0 : w.cell? ⟨1, 0, none⟩ = some (.iface 289 (.pointer (some aL))) := (hL.below hbel).c0
  have e1 : wrap64 ((out.length : Int) + 8) = (out.length : Int) + 8 := w64 (by omega) (by omega)
  have d1 : decide ((out.length : Int) + 8 > lim) = true := decide_eq_true h
  clear hblk hin hlen hown hbel hg hL h hc'
  go_enter Tryz.func140, Tryz.ntmps140
  go_wp2
  go_region
  go_wp2
  go_ret
  exact ⟨rfl, HD.out.drew⟩
theorem emit_ok {W0 w : World} {g : Nat} {inn out : List Int} {lim x : Int} (hd : Dec W0 w g inn out lim) (h : ¬ lim < (out.length : Int) + 8) (hn : out.length ≤ 70368744177664) (hx0 : 0 ≤ x) (hx1 : x < 18446744073709551616) :
    Calls Tryz.prog 140 #[.pointer (some ⟨g, 0, none⟩), .int .u64 x] w fun e w' => e = .returned .nilIface ∧ Dec W0 w' g inn (out ++ bytesS [x]) lim := by
  have HD := Aside0.mk hd
  obtain ⟨kb, hkb⟩ := Ev.rounds (wordBytes [x] (by simp))
  obtain ⟨⟨A, c, v, hblk, hin, hlen, hown⟩, hbel, hg⟩ := hd
  have HOWN := Aside0.mk hown
  obtain ⟨A', c', rfl, hc', _⟩ := Kd.R_reads hown
  have f0 := Dec.cell0 hblk
  have f1 := Dec.cell1 hblk
  have f2 := Dec.cell2 hblk
  have e1 : wrap64 ((out.length : Int) + 8) = (out.length : Int) + 8 := w64 (by omega) (by omega)
  have d1 : decide ((out.length : Int) + 8 > lim) = false := decide_eq_false h
  have HB := Aside0.mk hbel
  have HBLK := Aside0.mk hblk
  have HKB := Aside0.mk hkb
  have HIN := Aside0.mk hin
  have HLEN := Aside0.mk hlen
  have HG := Aside0.mk hg
  have hlt : g < w.heap.size := block_lt hblk
  have hgne : ¬ g = w.heap.size := by omega
  have hszA : w.heap.size ≤ (w.drew.drew.alloc (.cells #[.int .u64 x] 61)).heap.size := by simp
  clear hblk hin hlen hown hbel hg h hc' hkb
  go_enter Tryz.func140, Tryz.ntmps140
  go_wp2
  go_region
  go_wp2
  go_region_law (first
    | (refine goes_ Tryz.func34 (by kernel_rfl) rfl #[.slice (some ⟨w.heap.size, 0, none⟩) 1 1] (by rfl) rfl rfl (by first | rfl | simp [Act.eval, Act.put]) ?_
       refine (word_Bytes.calls kb _ 1 [x] (bytesS [x]) _ ?_ (Nat.le_refl 1) HKB.out).mono ?_
       exact C_one w.drew.drew x 61
       rintro e w2 ⟨v2, rfl, hv2, hb2⟩
       refine ⟨_, rfl, ?_⟩
       obtain ⟨A2, c2, rfl, hlc2, hC2⟩ := Kd.R_reads hv2
       have HC2 := Aside0.mk hC2
       have HB2 := Aside0.mk ((HB.out.drew.drew.alloc (Nat.le_trans HB.out.size (Nat.le_refl _)) _).trans (hb2.mono (Nat.le_trans HB.out.size hszA)))
       have HO2 := Aside0.mk (Kd.R_below (Kd.R_alloc (Kd.R_drew (Kd.R_drew HOWN.out)) _) hb2)
       have HBLK2 := Aside0.mk (blk_below (blk_alloc HBLK.out) hb2)
       have f12 := Dec.cell1 HBLK2.out
       clear hC2 hb2 hv2 hlc2)
    | (refine Kd.R_append_rows_step (Kd.int .u8) (w0 := W0) W0.heap.size (by rfl) (.tmp 21) (.tmp 24) 22 5 (.int .u8 0) 1 rfl Tryz.underlying22 info5 rfl (by decide) (by omega) (.slice A' out.length c') out (bytesS [x]) A2 (bytesS [x]).length c2 (fun k => k ≠ g) (fun _ => False) rfl rfl HO2.out HC2.out (fun _ _ h => h) (fun _ hk => hk.elim) ?hF HB2.out ?hS ?hL ?_
       case hF => have := block_lt HBLK2.out; intro k hk; omega
       case hS => exact Nat.le_trans HB2.out.size (Nat.le_refl _)
       case hL => rw [bytesS_length]; simp only [List.length_cons, List.length_nil]; omega
       intro v3 w3 ho3 hb3 hg3 hat3
       obtain ⟨A3, c3, e3⟩ := Kd.R_slice ho3
       subst e3
       have HB3 := Aside0.mk hb3
       have HO3 := Aside0.mk ho3
       have HBLK3 := Aside0.mk ((hg3.block g (block_lt HBLK2.out) (fun e => HO2.out.1 g e.symm rfl)).trans HBLK2.out)
       have f13 := Dec.cell1 HBLK3.out
       have f14 := blk_frozen HBLK3.out 1
       clear ho3 hb3 hg3 hat3))
  all_goals (try go_wp2)
  all_goals (go_ret; refine ⟨rfl, ?_⟩; rw [← List.length_append]; exact Dec.setOut HBLK3.out HIN.out HLEN.out HO3.out HB3.out HG.out)
def errV (aL aT : Addr) : Nat → Value
  | 0 => .nilIface
  | 1 => .iface 289 (.pointer (some aL))
  | _ => .iface 289 (.pointer (some aT))
def emitS (lim : Int) (out : List Int) (x : Int) : List Int × Nat := if lim < (out.length : Int) + 8 then (out, 1) else (out ++ bytesS [x], 0)
theorem emit_calls {W0 w : World} {g : Nat} {inn out : List Int} {lim x : Int} {aL aT : Addr} (hd : Dec W0 w g inn out lim) (hL : LaidU W0 aL aT) (hn : out.length ≤ 70368744177664) (hx0 : 0 ≤ x) (hx1 : x < 18446744073709551616) :
    Calls Tryz.prog 140 #[.pointer (some ⟨g, 0, none⟩), .int .u64 x] w fun e w' => e = .returned (errV aL aT (emitS lim out x).2) ∧ Dec W0 w' g inn (emitS lim out x).1 lim := by
  unfold emitS
  have hn' : out.length ≤ 140737488355328 := by omega
  by_cases h : lim < (out.length : Int) + 8
  · rw [if_pos h]; exact emit_full hd hL h hn'
  · rw [if_neg h]; exact emit_ok hd h hn hx0 hx1
theorem cut_in (A : Option Addr) (c : Nat) (inn : List Int) (m : Nat) (hm : m ≤ inn.length) {W : World} (hC : Kd.C (Kd.int .u8) W A inn.length inn) (hc : inn.length ≤ c) :
    ∃ (A' : Option Addr) (c' : Nat), (∀ W : World, (Instr.slice 22 (.slice A inn.length c) (some (.int .i64 (m : Int))) none none).run Tryz.prog W = .ok (.slice A' (inn.drop m).length c') W) ∧ Kd.C (Kd.int .u8) W A' (inn.drop m).length (inn.drop m) ∧ (inn.drop m).length ≤ c' := by
  obtain ⟨i0, hi0, _, hsz, _⟩ := info_parts info5
  obtain ⟨A', h1, h2, h3⟩ := print_drop_of (P := Tryz.prog) (Value.int .u8) 0 22 5 .i64 Tryz.underlying22 hi0 hsz A c inn (m : Int) (by omega) (by omega) hc
  simp only [Int.toNat_natCast] at h1 h2 h3
  exact ⟨A', c - m, h1, Kd.C_of_reads (d := 0) (h2 W (Kd.reads_of_C hC)), h3⟩
def nextS (lim t : Int) (inn out : List Int) : List Int × List Int × Nat :=
  if onesS t ≤ inn.length then (inn.drop (onesS t), emitS lim out (expS t inn)) else (inn, out, 2)
theorem Dec.drewN {W0 w : World} {g : Nat} {inn out : List Int} {lim : Int} (h : Dec W0 w g inn out lim) (n : Nat) : Dec W0 (w.drewN n) g inn out lim := by
  obtain ⟨⟨A, c, v, hblk, hin, hlen, hown⟩, hbel, hg⟩ := h
  exact ⟨⟨A, c, v, hblk, hin, hlen, Kd.R_drewN hown n⟩, pw_below_drewN hbel n, hg⟩
theorem next_short {W0 w : World} {g : Nat} {inn out : List Int} {lim t : Int} {aL aT : Addr} (hd : Dec W0 w g inn out lim) (hL : LaidU W0 aL aT) (ht0 : 0 ≤ t) (ht1 : t < 256) (hB : IsB inn) (hi : inn.length ≤ 140737488355328) (h : ¬ onesS t ≤ inn.length) :
    Calls Tryz.prog 96 #[.pointer (some ⟨g, 0, none⟩), .int .u8 t] w fun e w' => e = .returned (errV aL aT 2) ∧ Dec W0 w' g inn out lim := by
  have HD := Aside0.mk hd
  obtain ⟨kb, hkb⟩ := Ev.rounds (tagExpand t inn ht0 ht1 hB hi)
  rw [if_neg h] at hkb
  obtain ⟨⟨A, c, v, hblk, hin, hlen, hown⟩, hbel, hg⟩ := hd
  have f0 := Dec.cell0 hblk
  have g1 : w.cell? ⟨2, 0, none⟩ = some (.iface 289 (.pointer (some aT))) := (hL.below hbel).c1
  have HB := Aside0.mk hbel
  have HKB := Aside0.mk hkb
  have HIN := Aside0.mk (Kd.C_below hin hbel)
  have HLEN := Aside0.mk hlen
  clear hblk hin hlen hown hbel hg hkb hL
  go_enter Tryz.func96, Tryz.ntmps96
  go_wp2_with (first
    | (go_at_call 139; refine (tagbyte_Expand.calls kb t A c inn _ _ _ w HIN.out HLEN.out HKB.out).mono ?_; rintro e w1 ⟨rfl, ⟨nd, rfl⟩⟩))
  go_ret
  exact ⟨rfl, HD.out.drewN _⟩
end Go.Proofs.YthghblmffdfbaaaGreatDoor.Un

/- The decoder of package unpack, part 2: next, count. -/
namespace Go.Proofs.YthghblmffdfbaaaGreatDoor.Un
open Go Go.RowKit Go.Proofs.YthghblmffdfbaaaGreatDoor Go.Proofs.YthghblmffdfbaaaGreatDoor.M Go.Proofs.YthghblmffdfbaaaGreatDoor.PUnBase Go.Proofs.YthghblmffdfbaaaGreatDoor.QUnBase Go.Proofs.YthghblmffdfbaaaGreatDoorW.PrintWords Go.Proofs.YthghblmffdfbaaaGreatDoorW.PrintLast Go.Proofs.YthghblmffdfbaaaGreatDoorW.PrintMore
set_option linter.unusedVariables false
set_option linter.unusedSimpArgs false
set_option maxHeartbeats 8000000
set_option maxRecDepth 100000
theorem Dec.setCut {W0 w : World} {g m : Nat} {inn out : List Int} {lim : Int} {A : Option Addr} {c : Nat} {x v : Value} (hblk : w.heap[g]? = some (.cells #[x, v, .int .i64 lim] 119 (0, 0))) (hin : Kd.C (Kd.int .u8) W0 A (inn.drop m).length (inn.drop m)) (hlen : (inn.drop m).length ≤ c) (hown : Kd.R (Kd.int .u8) 5 w W0.heap.size (fun k => k ≠ g) v out) (hb : Below W0.heap.size W0 w) (hg : W0.heap.size ≤ g) : Dec W0 (w.setCell ⟨g, 0, none⟩ (.slice A (inn.length - m) c)) g (inn.drop m) out lim := by
  rw [← List.length_drop]
  exact Dec.setIn hblk hin hlen hown hb hg
theorem next_yes {W0 w : World} {g : Nat} {inn out : List Int} {lim t : Int} {aL aT : Addr} (hd : Dec W0 w g inn out lim) (hL : LaidU W0 aL aT) (ht0 : 0 ≤ t) (ht1 : t < 256) (hB : IsB inn) (hi : inn.length ≤ 140737488355328) (hn : out.length ≤ 70368744177664) (h : onesS t ≤ inn.length) :
    Calls Tryz.prog 96 #[.pointer (some ⟨g, 0, none⟩), .int .u8 t] w fun e w' => e = .returned (errV aL aT (emitS lim out (expS t inn)).2) ∧ Dec W0 w' g (inn.drop (onesS t)) (emitS lim out (expS t inn)).1 lim := by
  obtain ⟨kb, hkb⟩ := Ev.rounds (tagExpand t inn ht0 ht1 hB hi)
  rw [if_pos h] at hkb
  have hx := expS_range (t := t) hB
  have HX := Aside0.mk hx
  obtain ⟨⟨A, c, v, hblk, hin, hlen, hown⟩, hbel, hg⟩ := hd
  obtain ⟨A', c', hcut, hC', hc'⟩ := cut_in A c inn (onesS t) h hin hlen
  have f0 := Dec.cell0 hblk
  have f0z := blk_frozen hblk 0
  have HB := Aside0.mk hbel
  have HKB := Aside0.mk hkb
  have HIN := Aside0.mk (Kd.C_below hin hbel)
  have HC' := Aside0.mk hC'
  have Hc' := Aside0.mk hc'
  have HLEN := Aside0.mk hlen
  have HOWN := Aside0.mk hown
  have HBLK := Aside0.mk hblk
  have HG := Aside0.mk hg
  have HL := Aside0.mk hL
  have HN := Aside0.mk hn
  clear hblk hin hlen hown hbel hg hkb hL hC' hc' hn hx
  go_enter Tryz.func96, Tryz.ntmps96
  go_wp2_with (first
    | (go_at_call 139; refine (tagbyte_Expand.calls kb t A c inn _ _ _ w HIN.out HLEN.out HKB.out).mono ?_; rintro e w1 ⟨rfl, ⟨nd, rfl⟩⟩)
    | (go_at_call 140; refine (emit_calls (W0 := W0) (inn := inn.drop (onesS t)) (out := out) (lim := lim) (aL := aL) (aT := aT) ?_ HL.out HN.out HX.out.1 HX.out.2).mono ?_; (first | exact Dec.drewN (Dec.setCut (w := w) HBLK.out HC'.out Hc'.out HOWN.out HB.out HG.out) nd | exact Dec.setCut (w := w.drewN nd) HBLK.out HC'.out Hc'.out (Kd.R_drewN HOWN.out nd) (pw_below_drewN HB.out nd) HG.out); rintro e w2 ⟨rfl, hd2⟩; have HD2 := Aside0.mk hd2; clear hd2))
  go_ret
  exact ⟨rfl, HD2.out⟩
theorem next_calls {W0 w : World} {g : Nat} {inn out : List Int} {lim t : Int} {aL aT : Addr} (hd : Dec W0 w g inn out lim) (hL : LaidU W0 aL aT) (ht0 : 0 ≤ t) (ht1 : t < 256) (hB : IsB inn) (hi : inn.length ≤ 140737488355328) (hn : out.length ≤ 70368744177664) :
    Calls Tryz.prog 96 #[.pointer (some ⟨g, 0, none⟩), .int .u8 t] w fun e w' => e = .returned (errV aL aT (nextS lim t inn out).2.2) ∧ Dec W0 w' g (nextS lim t inn out).1 (nextS lim t inn out).2.1 lim := by
  unfold nextS
  by_cases h : onesS t ≤ inn.length
  · rw [if_pos h]; exact next_yes hd hL ht0 ht1 hB hi hn h
  · rw [if_neg h]; exact next_short hd hL ht0 ht1 hB hi h
theorem count_nil {W0 w : World} {g : Nat} {inn out : List Int} {lim : Int} {aL aT : Addr} (hd : Dec W0 w g inn out lim) (hL : LaidU W0 aL aT) (h : inn.length = 0) :
    Calls Tryz.prog 138 #[.pointer (some ⟨g, 0, none⟩)] w fun e w' => e = .returned (.tuple #[.int .i64 0, errV aL aT 2]) ∧ Dec W0 w' g inn out lim := by
  have HD := Aside0.mk hd
  obtain ⟨⟨A, c, v, hblk, hin, hlen, hown⟩, hbel, hg⟩ := hd
  have f0 := Dec.cell0 hblk
  have g1 : w.cell? ⟨2, 0, none⟩ = some (.iface 289 (.pointer (some aT))) := (hL.below hbel).c1
  have h0 : ((inn.length : Int) == 0) = true := by rw [h]; rfl
  clear hblk hin hlen hown hbel hg hL h
  go_enter Tryz.func138, Tryz.ntmps138
  go_wp2
  go_region
  go_wp2
  go_ret2
  exact ⟨rfl, HD.out.drew⟩
theorem count_cons {W0 w : World} {g : Nat} {inn out : List Int} {lim : Int} (hd : Dec W0 w g inn out lim) (h : 0 < inn.length) (hB : IsB inn) :
    Calls Tryz.prog 138 #[.pointer (some ⟨g, 0, none⟩)] w fun e w' => e = .returned (.tuple #[.int .i64 (rd inn 0), .nilIface]) ∧ Dec W0 w' g (inn.drop 1) out lim := by
  obtain ⟨⟨A, c, v, hblk, hin, hlen, hown⟩, hbel, hg⟩ := hd
  obtain ⟨A', c', hcut, hC', hc'⟩ := cut_in A c inn 1 h hin hlen
  have hcut1 := hcut
  simp only [Int.cast_ofNat_Int] at hcut1
  have f0 := Dec.cell0 hblk
  have f0z := blk_frozen hblk 0
  have h0 : ((inn.length : Int) == 0) = false := by rw [beq_eq_false_iff_ne]; omega
  have p0 : (0 : Int) ≤ 0 := Int.le_refl 0
  have q0 : (0 : Int) < (inn.length : Int) := by omega
  obtain ⟨ad, ead, hx⟩ := Kd.at_int (Kd.C_below hin hbel) 0 p0 q0
  cases ead
  have hx' : w.cell? ad = some (.int .u8 (rd inn 0)) := hx
  have h1 : (0 < inn.length) = True := eq_true h
  clear hx q0
  have hr : 0 ≤ rd inn 0 ∧ rd inn 0 < 256 := by
    have : rd inn 0 = inn[0]'h := by simp [rd, List.getD_eq_getElem?_getD, List.getElem?_eq_getElem h]
    rw [this]; exact hB _ (List.getElem_mem h)
  obtain ⟨r0, r1⟩ := hr
  have HB := Aside0.mk hbel
  have HC' := Aside0.mk hC'
  have Hc' := Aside0.mk hc'
  have HOWN := Aside0.mk hown
  have HBLK := Aside0.mk hblk
  have HG := Aside0.mk hg
  clear hblk hin hlen hown hbel hg hC' hc' h hcut
  go_enter Tryz.func138, Tryz.ntmps138
  go_wp2
  go_ret2
  exact ⟨rfl, Dec.setCut HBLK.out HC'.out Hc'.out HOWN.out HB.out HG.out⟩
end Go.Proofs.YthghblmffdfbaaaGreatDoor.Un

/- The decoder of package unpack, part 3: run. -/
namespace Go.Proofs.YthghblmffdfbaaaGreatDoor.Un
open Go Go.RowKit Go.Proofs.YthghblmffdfbaaaGreatDoor Go.Proofs.YthghblmffdfbaaaGreatDoor.M Go.Proofs.YthghblmffdfbaaaGreatDoor.PUnBase Go.Proofs.YthghblmffdfbaaaGreatDoor.QUnBase Go.Proofs.YthghblmffdfbaaaGreatDoorW.PrintWords Go.Proofs.YthghblmffdfbaaaGreatDoorW.PrintLast Go.Proofs.YthghblmffdfbaaaGreatDoorW.PrintMore
set_option linter.unusedVariables false
set_option linter.unusedSimpArgs false
set_option maxHeartbeats 8000000
set_option maxRecDepth 100000
def loopS (lim t : Int) : Nat → List Int → List Int → List Int × List Int × Nat
  | 0, inn, out => (inn, out, 0)
  | n + 1, inn, out => if (nextS lim t inn out).2.2 = 0 then loopS lim t n (nextS lim t inn out).1 (nextS lim t inn out).2.1 else nextS lim t inn out
theorem emitS_len (lim : Int) (out : List Int) (x : Int) : (emitS lim out x).1.length ≤ out.length + 8 := by
  unfold emitS
  split
  · simp
  · simp [bytesS_length]
theorem nextS_out (lim t : Int) (inn out : List Int) : (nextS lim t inn out).2.1.length ≤ out.length + 8 := by
  unfold nextS
  split
  · exact emitS_len _ _ _
  · simp
theorem nextS_inn (lim t : Int) (inn out : List Int) : ∃ m, (nextS lim t inn out).1 = inn.drop m := by
  unfold nextS
  split
  · exact ⟨_, rfl⟩
  · exact ⟨0, rfl⟩
theorem loopS_out (lim t : Int) : ∀ (n : Nat) (inn out : List Int), (loopS lim t n inn out).2.1.length ≤ out.length + 8 * n
  | 0, inn, out => by simp [loopS]
  | n + 1, inn, out => by
    have h := nextS_out lim t inn out
    rw [loopS]
    split
    · have := loopS_out lim t n (nextS lim t inn out).1 (nextS lim t inn out).2.1
      omega
    · omega
theorem loopS_inn (lim t : Int) : ∀ (n : Nat) (inn out : List Int), ∃ m, (loopS lim t n inn out).1 = inn.drop m
  | 0, inn, out => ⟨0, rfl⟩
  | n + 1, inn, out => by
    obtain ⟨m, h⟩ := nextS_inn lim t inn out
    rw [loopS]
    split
    · obtain ⟨m', h'⟩ := loopS_inn lim t n (nextS lim t inn out).1 (nextS lim t inn out).2.1
      rw [h', h, List.drop_drop]
      exact ⟨_, rfl⟩
    · exact ⟨m, h⟩
theorem run_zero_nil {W0 w : World} {g : Nat} {inn out : List Int} {lim : Int} {aL aT : Addr} (hd : Dec W0 w g inn out lim) (hL : LaidU W0 aL aT) (h : inn.length = 0) :
    Calls Tryz.prog 95 #[.pointer (some ⟨g, 0, none⟩), .int .u8 0] w fun e w' => e = .returned (errV aL aT 2) ∧ Dec W0 w' g inn out lim := by
  have HC := Aside0.mk (count_nil hd hL h)
  clear hd hL
  go_enter Tryz.func95, Tryz.ntmps95
  go_wp2_with (first
    | (go_at_call 138; refine HC.out.mono ?_; rintro e w1 ⟨rfl, hd1⟩; simp only [errV]; have HD1 := Aside0.mk hd1; clear hd1))
  refine wp_loop_rounds 1 ?_
  rw [rounds_succ]
  go_wp2
  go_ret
  exact ⟨rfl, HD1.out⟩
theorem run_zero_cons {W0 w : World} {g N RC : Nat} {inn out RI RO : List Int} {lim : Int} {aL aT : Addr} (hd : Dec W0 w g inn out lim) (hL : LaidU W0 aL aT) (hB : IsB inn) (h : 0 < inn.length) (hi : inn.length ≤ 1000000000) (ho : out.length + 4096 ≤ 70368744177664) (hN : rd inn 0 + 1 = (N : Int)) (hN2 : N ≤ 256) (hres : loopS lim 0 N (inn.drop 1) out = (RI, RO, RC)) :
    Calls Tryz.prog 95 #[.pointer (some ⟨g, 0, none⟩), .int .u8 0] w fun e w' => e = .returned (errV aL aT RC) ∧ Dec W0 w' g RI RO lim := by
  have HC := Aside0.mk (count_cons hd h hB)
  obtain ⟨q, hq⟩ : ∃ q, q = inn.drop 1 := ⟨_, rfl⟩
  have HQ : Aside0 (IsB q ∧ q.length ≤ 1000000000 ∧ out.length + 8 * N ≤ 70368744177664) := ⟨by rw [hq]; exact hB.drop 1, by rw [hq, List.length_drop]; omega, by omega⟩
  rw [← hq] at hres HC
  have HRES := Aside0.mk hres
  have HL := Aside0.mk hL
  have HN := Aside0.mk hN2
  have e1 : wrap64 (rd inn 0 + 1) = (N : Int) := by rw [hN]; exact w64 (by omega) (by omega)
  clear hd hL hB hN hres hq
  go_enter Tryz.func95, Tryz.ntmps95
  go_wp2_with (first
    | (go_at_call 138; refine HC.out.mono ?_; rintro e w1 ⟨rfl, hd1⟩; have HD1 := Aside0.mk hd1; clear hd1))
  (try simp only [e1])
  clear e1
  go_loopg [7, 30] N (fun kq v7 v30 w' => ∃ (i : Int) (inn' out' : List Int), v7 = .nilIface ∧ v30 = .int .i64 i ∧ Aside0 (i + kq = N) ∧ Aside0 (kq ≤ N) ∧ Aside0 (Dec W0 w' g inn' out' lim) ∧ Aside0 (loopS lim 0 kq inn' out' = (RI, RO, RC)) ∧ Aside0 (IsB inn' ∧ inn'.length ≤ 1000000000 ∧ out'.length + 8 * kq ≤ 70368744177664))
  case atStart => exact ⟨0, q, out, (by first | rfl | (simp; done) | (simp [*]; done)), (by first | rfl | (simp; done) | (simp [*]; done)), ⟨by omega⟩, ⟨Nat.le_refl _⟩, HD1, HRES, HQ⟩
  case round =>
    obtain ⟨i, inn', out', rfl, rfl, HI, HK, HD', HS, HP⟩ := hrel
    clear HRES HD1
    cases gk with
    | zero =>
      have c0 : decide (i < (N : Int)) = false := decide_eq_false (by have := HI.out; omega)
      have c0' : ¬ i < (N : Int) := by have := HI.out; omega
      have hs := HS.out
      simp only [loopS, Prod.mk.injEq] at hs
      obtain ⟨rfl, rfl, rfl⟩ := hs
      clear HS
      go_wp2
      go_ret
      exact ⟨rfl, HD'.out⟩
    | succ k1 =>
      have c0 : decide (i < (N : Int)) = true := decide_eq_true (by have := HI.out; omega)
      have c0' : i < (N : Int) := by have := HI.out; omega
      have ci : wrap64 (i + 1) = i + 1 := w64 (by have := HI.out; have := HK.out; have := HN.out; omega) (by have := HI.out; have := HN.out; omega)
      have HNX := Aside0.mk (next_calls HD'.out HL.out (t := 0) (by omega) (by omega) HP.out.1 (by have := HP.out.2.1; omega) (by have := HP.out.2.2; omega))
      have HO := Aside0.mk (nextS_out lim 0 inn' out')
      have HI2 := Aside0.mk (nextS_inn lim 0 inn' out')
      have HS2 := Aside0.mk ((loopS.eq_2 lim 0 inn' out' k1).symm.trans HS.out)
      clear HS HD'
      rcases hr : nextS lim 0 inn' out' with ⟨inn1, out1, code⟩
      rw [hr] at HNX HO HI2 HS2
      clear hr
      rcases code with _ | _ | code
      · have HS3 := Aside0.mk ((if_pos rfl).symm.trans HS2.out)
        clear HS2
        go_wp2_with (first
          | (go_at_call 96; refine HNX.out.mono ?_; rintro e w2 ⟨rfl, hd2⟩; simp only [errV]; have HD2 := Aside0.mk hd2; clear hd2))
        go_roundg k1
        case measure => omega
        case rel => exact ⟨i + 1, inn1, out1, (by first | rfl | (simp; done) | (simp [*]; done)), (by first | rfl | (simp; done) | (simp [*]; done)), ⟨by have := HI.out; omega⟩, ⟨by have := HK.out; omega⟩, HD2, HS3, ⟨by obtain ⟨m, hm⟩ := HI2.out; have hm' : inn1 = inn'.drop m := hm; rw [hm']; exact HP.out.1.drop m, by obtain ⟨m, hm⟩ := HI2.out; have hm' : inn1 = inn'.drop m := hm; rw [hm', List.length_drop]; have := HP.out.2.1; omega, by have ho' : out1.length ≤ out'.length + 8 := HO.out; have := HP.out.2.2; omega⟩⟩
      · have hs := (if_neg (by simp)).symm.trans HS2.out
        simp only [Prod.mk.injEq] at hs
        obtain ⟨rfl, rfl, rfl⟩ := hs
        clear HS2
        go_wp2_with (first
          | (go_at_call 96; refine HNX.out.mono ?_; rintro e w2 ⟨rfl, hd2⟩; simp only [errV]; have HD2 := Aside0.mk hd2; clear hd2))
        go_ret
        exact ⟨rfl, HD2.out⟩
      · have hs := (if_neg (by simp)).symm.trans HS2.out
        simp only [Prod.mk.injEq] at hs
        obtain ⟨rfl, rfl, rfl⟩ := hs
        clear HS2
        go_wp2_with (first
          | (go_at_call 96; refine HNX.out.mono ?_; rintro e w2 ⟨rfl, hd2⟩; simp only [errV]; have HD2 := Aside0.mk hd2; clear hd2))
        go_ret
        exact ⟨rfl, HD2.out⟩
theorem run_full_err {W0 w : World} {g RC : Nat} {inn out RI RO : List Int} {lim : Int} {aL aT : Addr} (hd : Dec W0 w g inn out lim) (hL : LaidU W0 aL aT) (hB : IsB inn) (hi : inn.length ≤ 1000000000) (ho : out.length + 4096 ≤ 70368744177664) (hres : nextS lim 255 inn out = (RI, RO, RC + 1)) :
    Calls Tryz.prog 95 #[.pointer (some ⟨g, 0, none⟩), .int .u8 255] w fun e w' => e = .returned (errV aL aT (RC + 1)) ∧ Dec W0 w' g RI RO lim := by
  have HNX := Aside0.mk (next_calls hd hL (t := 255) (by omega) (by omega) hB (by omega) (by omega))
  rw [hres] at HNX
  clear hd hL hB hi ho hres
  rcases RC with _ | RC
  · go_enter Tryz.func95, Tryz.ntmps95
    go_wp2_with (first
      | (go_at_call 96; refine HNX.out.mono ?_; rintro e w2 ⟨rfl, hd2⟩; simp only [errV]; have HD2 := Aside0.mk hd2; clear hd2))
    go_ret
    exact ⟨rfl, HD2.out⟩
  · go_enter Tryz.func95, Tryz.ntmps95
    go_wp2_with (first
      | (go_at_call 96; refine HNX.out.mono ?_; rintro e w2 ⟨rfl, hd2⟩; simp only [errV]; have HD2 := Aside0.mk hd2; clear hd2))
    go_ret
    exact ⟨rfl, HD2.out⟩
theorem run_full_nil {W0 w : World} {g : Nat} {inn out inn1 out1 : List Int} {lim : Int} {aL aT : Addr} (hd : Dec W0 w g inn out lim) (hL : LaidU W0 aL aT) (hB : IsB inn) (hi : inn.length ≤ 1000000000) (ho : out.length + 4096 ≤ 70368744177664) (hres : nextS lim 255 inn out = (inn1, out1, 0)) (h : inn1.length = 0) :
    Calls Tryz.prog 95 #[.pointer (some ⟨g, 0, none⟩), .int .u8 255] w fun e w' => e = .returned (errV aL aT 2) ∧ Dec W0 w' g inn1 out1 lim := by
  have HNX := Aside0.mk (next_calls hd hL (t := 255) (by omega) (by omega) hB (by omega) (by omega))
  rw [hres] at HNX
  have HL := Aside0.mk hL
  have HH := Aside0.mk h
  clear hd hL hB hi ho hres h
  go_enter Tryz.func95, Tryz.ntmps95
  go_wp2_with (first
    | (go_at_call 96; refine HNX.out.mono ?_; rintro e w2 ⟨rfl, hd2⟩; simp only [errV]; have HC := Aside0.mk (count_nil hd2 HL.out HH.out); clear hd2)
    | (go_at_call 138; refine HC.out.mono ?_; rintro e w1 ⟨rfl, hd1⟩; simp only [errV]; have HD1 := Aside0.mk hd1; clear hd1))
  refine wp_loop_rounds 1 ?_
  rw [rounds_succ]
  go_wp2
  go_ret
  exact ⟨rfl, HD1.out⟩
theorem run_full_cons {W0 w : World} {g N RC : Nat} {inn out inn1 out1 RI RO : List Int} {lim : Int} {aL aT : Addr} (hd : Dec W0 w g inn out lim) (hL : LaidU W0 aL aT) (hB : IsB inn) (hi : inn.length ≤ 1000000000) (ho : out.length + 4096 ≤ 70368744177664) (hres1 : nextS lim 255 inn out = (inn1, out1, 0)) (h : 0 < inn1.length) (hN : rd inn1 0 = (N : Int)) (hN2 : N ≤ 255) (hres : loopS lim 255 N (inn1.drop 1) out1 = (RI, RO, RC)) :
    Calls Tryz.prog 95 #[.pointer (some ⟨g, 0, none⟩), .int .u8 255] w fun e w' => e = .returned (errV aL aT RC) ∧ Dec W0 w' g RI RO lim := by
  have HNX := Aside0.mk (next_calls hd hL (t := 255) (by omega) (by omega) hB (by omega) (by omega))
  have h1 := nextS_out lim 255 inn out
  obtain ⟨m, h2⟩ := nextS_inn lim 255 inn out
  rw [hres1] at HNX h1 h2
  simp only at h1 h2
  have HL := Aside0.mk hL
  have HN := Aside0.mk hN2
  have HH := Aside0.mk h
  have hB1 : IsB inn1 := by rw [h2]; exact hB.drop m
  have HB1 := Aside0.mk hB1
  have hl1 : inn1.length ≤ 1000000000 := by rw [h2, List.length_drop]; omega
  obtain ⟨q, hq⟩ : ∃ q, q = inn1.drop 1 := ⟨_, rfl⟩
  have HQ : Aside0 (IsB q ∧ q.length ≤ 1000000000 ∧ out1.length + 8 * N ≤ 70368744177664) := ⟨by rw [hq]; exact hB1.drop 1, by rw [hq, List.length_drop]; omega, by omega⟩
  rw [← hq] at hres
  have HRES := Aside0.mk hres
  have HQQ := Aside0.mk hq
  have HNN := Aside0.mk hN
  clear hd hL hB hi ho hres hres1 h hN h1 h2 hq hB1 hl1
  go_enter Tryz.func95, Tryz.ntmps95
  go_wp2_with (first
    | (go_at_call 96; refine HNX.out.mono ?_; rintro e w2 ⟨rfl, hd2⟩; simp only [errV]; have HC := Aside0.mk (count_cons hd2 HH.out HB1.out); clear hd2; rw [← HQQ.out, HNN.out] at HC)
    | (go_at_call 138; refine HC.out.mono ?_; rintro e w1 ⟨rfl, hd1⟩; have HD1 := Aside0.mk hd1; clear hd1))
  go_loopg [7, 30] N (fun kq v7 v30 w' => ∃ (i : Int) (inn' out' : List Int), v7 = .nilIface ∧ v30 = .int .i64 i ∧ Aside0 (i + kq = N) ∧ Aside0 (kq ≤ N) ∧ Aside0 (Dec W0 w' g inn' out' lim) ∧ Aside0 (loopS lim 255 kq inn' out' = (RI, RO, RC)) ∧ Aside0 (IsB inn' ∧ inn'.length ≤ 1000000000 ∧ out'.length + 8 * kq ≤ 70368744177664))
  case atStart => exact ⟨0, q, out1, (by first | rfl | (simp; done) | (simp [*]; done)), (by first | rfl | (simp; done) | (simp [*]; done)), ⟨by omega⟩, ⟨Nat.le_refl _⟩, HD1, HRES, HQ⟩
  case round =>
    obtain ⟨i, inn', out', rfl, rfl, HI, HK, HD', HS, HP⟩ := hrel
    clear HRES HD1
    cases gk with
    | zero =>
      have c0 : decide (i < (N : Int)) = false := decide_eq_false (by have := HI.out; omega)
      have c0' : ¬ i < (N : Int) := by have := HI.out; omega
      have hs := HS.out
      simp only [loopS, Prod.mk.injEq] at hs
      obtain ⟨rfl, rfl, rfl⟩ := hs
      clear HS
      go_wp2
      go_ret
      exact ⟨rfl, HD'.out⟩
    | succ k1 =>
      have c0 : decide (i < (N : Int)) = true := decide_eq_true (by have := HI.out; omega)
      have c0' : i < (N : Int) := by have := HI.out; omega
      have ci : wrap64 (i + 1) = i + 1 := w64 (by have := HI.out; have := HK.out; have := HN.out; omega) (by have := HI.out; have := HN.out; omega)
      have HNX := Aside0.mk (next_calls HD'.out HL.out (t := 255) (by omega) (by omega) HP.out.1 (by have := HP.out.2.1; omega) (by have := HP.out.2.2; omega))
      have HO := Aside0.mk (nextS_out lim 255 inn' out')
      have HI2 := Aside0.mk (nextS_inn lim 255 inn' out')
      have HS2 := Aside0.mk ((loopS.eq_2 lim 255 inn' out' k1).symm.trans HS.out)
      clear HS HD'
      rcases hr : nextS lim 255 inn' out' with ⟨inn1, out1, code⟩
      rw [hr] at HNX HO HI2 HS2
      clear hr
      rcases code with _ | _ | code
      · have HS3 := Aside0.mk ((if_pos rfl).symm.trans HS2.out)
        clear HS2
        go_wp2_with (first
          | (go_at_call 96; refine HNX.out.mono ?_; rintro e w2 ⟨rfl, hd2⟩; simp only [errV]; have HD2 := Aside0.mk hd2; clear hd2))
        go_roundg k1
        case measure => omega
        case rel => exact ⟨i + 1, inn1, out1, (by first | rfl | (simp; done) | (simp [*]; done)), (by first | rfl | (simp; done) | (simp [*]; done)), ⟨by have := HI.out; omega⟩, ⟨by have := HK.out; omega⟩, HD2, HS3, ⟨by obtain ⟨m, hm⟩ := HI2.out; have hm' : inn1 = inn'.drop m := hm; rw [hm']; exact HP.out.1.drop m, by obtain ⟨m, hm⟩ := HI2.out; have hm' : inn1 = inn'.drop m := hm; rw [hm', List.length_drop]; have := HP.out.2.1; omega, by have ho' : out1.length ≤ out'.length + 8 := HO.out; have := HP.out.2.2; omega⟩⟩
      · have hs := (if_neg (by simp)).symm.trans HS2.out
        simp only [Prod.mk.injEq] at hs
        obtain ⟨rfl, rfl, rfl⟩ := hs
        clear HS2
        go_wp2_with (first
          | (go_at_call 96; refine HNX.out.mono ?_; rintro e w2 ⟨rfl, hd2⟩; simp only [errV]; have HD2 := Aside0.mk hd2; clear hd2))
        go_ret
        exact ⟨rfl, HD2.out⟩
      · have hs := (if_neg (by simp)).symm.trans HS2.out
        simp only [Prod.mk.injEq] at hs
        obtain ⟨rfl, rfl, rfl⟩ := hs
        clear HS2
        go_wp2_with (first
          | (go_at_call 96; refine HNX.out.mono ?_; rintro e w2 ⟨rfl, hd2⟩; simp only [errV]; have HD2 := Aside0.mk hd2; clear hd2))
        go_ret
        exact ⟨rfl, HD2.out⟩
end Go.Proofs.YthghblmffdfbaaaGreatDoor.Un

/- The decoder of package unpack, part 4: run as one contract; decode. -/
namespace Go.Proofs.YthghblmffdfbaaaGreatDoor.Un
open Go Go.RowKit Go.Proofs.YthghblmffdfbaaaGreatDoor Go.Proofs.YthghblmffdfbaaaGreatDoor.M Go.Proofs.YthghblmffdfbaaaGreatDoor.PUnBase Go.Proofs.YthghblmffdfbaaaGreatDoor.QUnBase Go.Proofs.YthghblmffdfbaaaGreatDoorW.PrintWords Go.Proofs.YthghblmffdfbaaaGreatDoorW.PrintLast Go.Proofs.YthghblmffdfbaaaGreatDoorW.PrintMore
set_option linter.unusedVariables false
set_option linter.unusedSimpArgs false
set_option maxHeartbeats 8000000
set_option maxRecDepth 100000
def runS (lim t : Int) (inn out : List Int) : List Int × List Int × Nat :=
  if t = 0 then (if inn.length = 0 then (inn, out, 2) else loopS lim 0 ((rd inn 0).toNat + 1) (inn.drop 1) out)
  else if (nextS lim 255 inn out).2.2 = 0 then
    (if (nextS lim 255 inn out).1.length = 0 then ((nextS lim 255 inn out).1, (nextS lim 255 inn out).2.1, 2)
     else loopS lim 255 (rd (nextS lim 255 inn out).1 0).toNat ((nextS lim 255 inn out).1.drop 1) (nextS lim 255 inn out).2.1)
  else nextS lim 255 inn out
theorem rd_B {l : List Int} (h : IsB l) (h0 : 0 < l.length) : 0 ≤ rd l 0 ∧ rd l 0 < 256 := by
  have : rd l 0 = l[0]'h0 := by simp [rd, List.getD_eq_getElem?_getD, List.getElem?_eq_getElem h0]
  rw [this]; exact h _ (List.getElem_mem h0)
theorem run_calls {W0 w : World} {g : Nat} {inn out : List Int} {lim t : Int} {aL aT : Addr} (hd : Dec W0 w g inn out lim) (hL : LaidU W0 aL aT) (ht : t = 0 ∨ t = 255) (hB : IsB inn) (hi : inn.length ≤ 1000000000) (ho : out.length + 4096 ≤ 70368744177664) :
    Calls Tryz.prog 95 #[.pointer (some ⟨g, 0, none⟩), .int .u8 t] w fun e w' => e = .returned (errV aL aT (runS lim t inn out).2.2) ∧ Dec W0 w' g (runS lim t inn out).1 (runS lim t inn out).2.1 lim := by
  rcases ht with rfl | rfl
  · rw [show runS lim 0 inn out = if inn.length = 0 then (inn, out, 2) else loopS lim 0 ((rd inn 0).toNat + 1) (inn.drop 1) out from if_pos rfl]
    by_cases h : inn.length = 0
    · rw [if_pos h]; exact run_zero_nil hd hL h
    · rw [if_neg h]
      obtain ⟨r0, r1⟩ := rd_B hB (by omega)
      exact run_zero_cons hd hL hB (by omega) hi ho (by omega) (by omega) rfl
  · rw [show runS lim 255 inn out = if (nextS lim 255 inn out).2.2 = 0 then
    (if (nextS lim 255 inn out).1.length = 0 then ((nextS lim 255 inn out).1, (nextS lim 255 inn out).2.1, 2)
     else loopS lim 255 (rd (nextS lim 255 inn out).1 0).toNat ((nextS lim 255 inn out).1.drop 1) (nextS lim 255 inn out).2.1)
  else nextS lim 255 inn out from if_neg (by decide)]
    rcases hr : nextS lim 255 inn out with ⟨inn1, out1, code⟩
    obtain ⟨m, h2⟩ := nextS_inn lim 255 inn out
    rw [hr] at h2
    have h2' : inn1 = inn.drop m := h2
    rcases code with _ | code
    · rw [if_pos rfl]
      by_cases h : inn1.length = 0
      · rw [if_pos h]; exact run_full_nil hd hL hB hi ho hr h
      · rw [if_neg h]
        obtain ⟨r0, r1⟩ := rd_B (l := inn1) (by rw [h2']; exact hB.drop m) (by omega)
        exact run_full_cons hd hL hB hi ho hr (by omega) (N := (rd inn1 0).toNat) (by omega) (by omega) rfl
    · rw [if_neg (by simp)]
      exact run_full_err hd hL hB hi ho hr
theorem runS_out {lim t : Int} {inn out : List Int} (hB : IsB inn) : (runS lim t inn out).2.1.length ≤ out.length + 4096 := by
  unfold runS
  split
  · split
    · simp
    · have := loopS_out lim 0 ((rd inn 0).toNat + 1) (inn.drop 1) out
      have := (rd_B hB (by omega)).2
      omega
  · have h1 := nextS_out lim 255 inn out
    obtain ⟨m, h2⟩ := nextS_inn lim 255 inn out
    split
    · split
      · show (nextS lim 255 inn out).2.1.length ≤ _; omega
      · have h3 := loopS_out lim 255 (rd (nextS lim 255 inn out).1 0).toNat ((nextS lim 255 inn out).1.drop 1) (nextS lim 255 inn out).2.1
        have h4 := (rd_B (l := (nextS lim 255 inn out).1) (by rw [h2]; exact hB.drop m) (by omega)).2
        omega
    · omega
theorem runS_inn (lim t : Int) (inn out : List Int) : ∃ m, (runS lim t inn out).1 = inn.drop m := by
  unfold runS
  split
  · split
    · exact ⟨0, rfl⟩
    · obtain ⟨m, h⟩ := loopS_inn lim 0 ((rd inn 0).toNat + 1) (inn.drop 1) out
      rw [h, List.drop_drop]; exact ⟨_, rfl⟩
  · obtain ⟨m, h2⟩ := nextS_inn lim 255 inn out
    split
    · split
      · exact ⟨m, h2⟩
      · obtain ⟨m', h⟩ := loopS_inn lim 255 (rd (nextS lim 255 inn out).1 0).toNat ((nextS lim 255 inn out).1.drop 1) (nextS lim 255 inn out).2.1
        rw [h, h2, List.drop_drop, List.drop_drop]; exact ⟨_, rfl⟩
    · exact ⟨m, h2⟩
def stepS (lim : Int) (inn out : List Int) : List Int × List Int × Nat :=
  if rd inn 0 = 0 ∨ rd inn 0 = 255 then runS lim (rd inn 0) (inn.drop 1) out else nextS lim (rd inn 0) (inn.drop 1) out
def decoS (lim : Int) : Nat → List Int → List Int → List Int × List Int × Nat
  | 0, inn, out => (inn, out, 0)
  | k + 1, inn, out => if inn.length = 0 then (inn, out, 0) else if (stepS lim inn out).2.2 = 0 then decoS lim k (stepS lim inn out).1 (stepS lim inn out).2.1 else stepS lim inn out
theorem decoS_nil (lim : Int) (k : Nat) (inn out : List Int) (h : inn.length = 0) : decoS lim k inn out = (inn, out, 0) := by
  cases k with
  | zero => rfl
  | succ k => rw [decoS, if_pos h]
theorem stepS_out {lim : Int} {inn out : List Int} (hB : IsB inn) : (stepS lim inn out).2.1.length ≤ out.length + 4096 := by
  unfold stepS
  split
  · exact runS_out (hB.drop 1)
  · have := nextS_out lim (rd inn 0) (inn.drop 1) out
    omega
theorem stepS_inn (lim : Int) (inn out : List Int) : ∃ m, (stepS lim inn out).1 = inn.drop (m + 1) := by
  unfold stepS
  split
  · obtain ⟨m, h⟩ := runS_inn lim (rd inn 0) (inn.drop 1) out
    rw [h, List.drop_drop]; exact ⟨m, by rw [Nat.add_comm]⟩
  · obtain ⟨m, h⟩ := nextS_inn lim (rd inn 0) (inn.drop 1) out
    rw [h, List.drop_drop]; exact ⟨m, by rw [Nat.add_comm]⟩
theorem decode_calls {W0 w : World} {g K RC : Nat} {inn out RI RO : List Int} {lim : Int} {aL aT : Addr} (hd : Dec W0 w g inn out lim) (hL : LaidU W0 aL aT) (hB : IsB inn) (hi : inn.length ≤ 1000000000) (hK : inn.length ≤ K) (ho : out.length + 4096 * inn.length ≤ 70368744177664) (hres : decoS lim K inn out = (RI, RO, RC)) :
    Calls Tryz.prog 61 #[.pointer (some ⟨g, 0, none⟩)] w fun e w' => e = .returned (errV aL aT RC) ∧ Dec W0 w' g RI RO lim := by
  have HD := Aside0.mk hd
  have HL := Aside0.mk hL
  have HRES := Aside0.mk hres
  have HP0 : Aside0 (IsB inn ∧ inn.length ≤ 1000000000 ∧ inn.length ≤ K ∧ out.length + 4096 * inn.length ≤ 70368744177664) := ⟨hB, hi, hK, ho⟩
  clear hd hL hB hi hK ho hres
  go_enter Tryz.func61, Tryz.ntmps61
  go_wp2
  (try go_step3)
  (try go_wp2)
  (try go_step3)
  (try go_wp2)
  go_loopg [2, 3] K (fun kq v2 v3 w' => ∃ (inn' out' : List Int), v2 = .nilIface ∧ Aside0 (Dec W0 w' g inn' out' lim) ∧ Aside0 (decoS lim kq inn' out' = (RI, RO, RC)) ∧ Aside0 (IsB inn' ∧ inn'.length ≤ 1000000000 ∧ inn'.length ≤ kq ∧ out'.length + 4096 * inn'.length ≤ 70368744177664))
  case atStart => exact ⟨inn, out, (by first | rfl | (simp; done) | (simp [*]; done)), HD, HRES, HP0⟩
  case round =>
    obtain ⟨inn', out', rfl, HD', HS, HP⟩ := hrel
    clear HRES HD HP0
    obtain ⟨⟨A, c, v, hblk, hin, hlen, hown⟩, hbel, hg⟩ := HD'.out
    have f0 := Dec.cell0 hblk
    by_cases h0 : inn'.length = 0
    · have c0 : decide ((inn'.length : Int) > 0) = false := decide_eq_false (by omega)
      have c1 : decide (0 < (inn'.length : Int)) = false := decide_eq_false (by omega)
      have c2 : (0 < inn'.length) = False := eq_false (by omega)
      have hs := (decoS_nil lim gk inn' out' h0).symm.trans HS.out
      simp only [Prod.mk.injEq] at hs
      obtain ⟨rfl, rfl, rfl⟩ := hs
      clear HS h0 hblk hin hlen hown hbel hg
      go_wp2
      (try go_step3)
      (try go_wp2)
      (try go_step3)
      (try go_wp2)
      (try simp only [Exit.noGoto])
      go_ret
      exact ⟨rfl, HD'.out⟩
    · cases gk with
      | zero => exact absurd HP.out.2.2.1 (by omega)
      | succ k1 =>
        have c0 : decide ((inn'.length : Int) > 0) = true := decide_eq_true (by omega)
        have c1 : decide (0 < (inn'.length : Int)) = true := decide_eq_true (by omega)
        have c2 : (0 < inn'.length) = True := eq_true (by omega)
        have HS2 := Aside0.mk ((((decoS.eq_2 lim inn' out' k1).symm.trans HS.out)))
        have HS3 := Aside0.mk ((if_neg h0).symm.trans HS2.out)
        clear HS HS2
        obtain ⟨A', c', hcut, hC', hc'⟩ := cut_in A c inn' 1 (by omega) hin hlen
        simp only [Int.cast_ofNat_Int] at hcut
        have f0z := blk_frozen hblk 0
        obtain ⟨ad, ead, hx⟩ := Kd.at_int (Kd.C_below hin hbel) 0 (Int.le_refl 0) (by omega)
        cases ead
        have hx' : wr.cell? ad = some (.int .u8 (rd inn' 0)) := hx
        obtain ⟨r0, r1⟩ := rd_B HP.out.1 (by omega)
        have HR := Aside0.mk (And.intro r0 r1)
        have HDS := Aside0.mk (Dec.setCut (m := 1) hblk hC' hc' hown hbel hg)
        have HH := Aside0.mk h0
        have HSO := Aside0.mk (stepS_out (lim := lim) (out := out') HP.out.1)
        have HSI := Aside0.mk (stepS_inn lim inn' out')
        obtain ⟨t, ht⟩ : ∃ t, t = rd inn' 0 := ⟨_, rfl⟩
        rw [← ht] at hx' HR
        have HT := Aside0.mk ht
        clear hx hblk hin hlen hown hbel hg hC' hc' h0 HD' r0 r1 ht
        by_cases ht : t = 0 ∨ t = 255
        · have HNX : Aside0 (Calls Tryz.prog 95 #[.pointer (some ⟨g, 0, none⟩), .int .u8 t] (wr.setCell ⟨g, 0, none⟩ (.slice A' (inn'.length - 1) c')) fun e w2 => e = .returned (errV aL aT (stepS lim inn' out').2.2) ∧ Dec W0 w2 g (stepS lim inn' out').1 (stepS lim inn' out').2.1 lim) := by
            refine ⟨?_⟩
            rw [show stepS lim inn' out' = runS lim t (inn'.drop 1) out' by rw [HT.out] at ht ⊢; exact if_pos ht]
            exact run_calls HDS.out HL.out ht (HP.out.1.drop 1) (by rw [List.length_drop]; have := HP.out.2.1; omega) (by have := HP.out.2.2.2; have := HH.out; omega)
          rcases hr : stepS lim inn' out' with ⟨inn1, out1, code⟩
          rw [hr] at HNX HS3 HSO HSI
          clear hr
          rcases ht with rfl | rfl
          · rcases code with _ | _ | code
            · have HS4 := Aside0.mk ((if_pos rfl).symm.trans HS3.out)
              clear HS3
              go_wp2_with (first
                | (go_at_call 95; refine HNX.out.mono ?_; rintro e w2 ⟨rfl, hd2⟩; simp only [errV]; have HD2 := Aside0.mk hd2; clear hd2))
              go_roundg k1
              case measure => omega
              case rel =>
                obtain ⟨m, hm⟩ := HSI.out
                have hm' : inn1 = inn'.drop (m + 1) := hm
                have hl : inn1.length ≤ inn'.length - 1 := by rw [hm', List.length_drop]; omega
                have ho1 : out1.length ≤ out'.length + 4096 := HSO.out
                have h0 := HH.out
                have hp := HP.out
                exact ⟨inn1, out1, (by first | rfl | (simp; done) | (simp [*]; done)), HD2, HS4, ⟨by rw [hm']; exact hp.1.drop _, by omega, by omega, by omega⟩⟩
            · have hs := (if_neg (by simp)).symm.trans HS3.out
              simp only [Prod.mk.injEq] at hs
              obtain ⟨rfl, rfl, rfl⟩ := hs
              clear HS3
              go_wp2_with (first
                | (go_at_call 95; refine HNX.out.mono ?_; rintro e w2 ⟨rfl, hd2⟩; simp only [errV]; have HD2 := Aside0.mk hd2; clear hd2))
              (try go_step3)
              (try go_wp2)
              (try go_step3)
              (try go_wp2)
              (try simp only [Exit.noGoto])
              go_ret
              exact ⟨rfl, HD2.out⟩
            · have hs := (if_neg (by simp)).symm.trans HS3.out
              simp only [Prod.mk.injEq] at hs
              obtain ⟨rfl, rfl, rfl⟩ := hs
              clear HS3
              go_wp2_with (first
                | (go_at_call 95; refine HNX.out.mono ?_; rintro e w2 ⟨rfl, hd2⟩; simp only [errV]; have HD2 := Aside0.mk hd2; clear hd2))
              (try go_step3)
              (try go_wp2)
              (try go_step3)
              (try go_wp2)
              (try simp only [Exit.noGoto])
              go_ret
              exact ⟨rfl, HD2.out⟩
          · rcases code with _ | _ | code
            · have HS4 := Aside0.mk ((if_pos rfl).symm.trans HS3.out)
              clear HS3
              go_wp2_with (first
                | (go_at_call 95; refine HNX.out.mono ?_; rintro e w2 ⟨rfl, hd2⟩; simp only [errV]; have HD2 := Aside0.mk hd2; clear hd2))
              go_roundg k1
              case measure => omega
              case rel =>
                obtain ⟨m, hm⟩ := HSI.out
                have hm' : inn1 = inn'.drop (m + 1) := hm
                have hl : inn1.length ≤ inn'.length - 1 := by rw [hm', List.length_drop]; omega
                have ho1 : out1.length ≤ out'.length + 4096 := HSO.out
                have h0 := HH.out
                have hp := HP.out
                exact ⟨inn1, out1, (by first | rfl | (simp; done) | (simp [*]; done)), HD2, HS4, ⟨by rw [hm']; exact hp.1.drop _, by omega, by omega, by omega⟩⟩
            · have hs := (if_neg (by simp)).symm.trans HS3.out
              simp only [Prod.mk.injEq] at hs
              obtain ⟨rfl, rfl, rfl⟩ := hs
              clear HS3
              go_wp2_with (first
                | (go_at_call 95; refine HNX.out.mono ?_; rintro e w2 ⟨rfl, hd2⟩; simp only [errV]; have HD2 := Aside0.mk hd2; clear hd2))
              (try go_step3)
              (try go_wp2)
              (try go_step3)
              (try go_wp2)
              (try simp only [Exit.noGoto])
              go_ret
              exact ⟨rfl, HD2.out⟩
            · have hs := (if_neg (by simp)).symm.trans HS3.out
              simp only [Prod.mk.injEq] at hs
              obtain ⟨rfl, rfl, rfl⟩ := hs
              clear HS3
              go_wp2_with (first
                | (go_at_call 95; refine HNX.out.mono ?_; rintro e w2 ⟨rfl, hd2⟩; simp only [errV]; have HD2 := Aside0.mk hd2; clear hd2))
              (try go_step3)
              (try go_wp2)
              (try go_step3)
              (try go_wp2)
              (try simp only [Exit.noGoto])
              go_ret
              exact ⟨rfl, HD2.out⟩
        · have HNX : Aside0 (Calls Tryz.prog 96 #[.pointer (some ⟨g, 0, none⟩), .int .u8 t] (wr.setCell ⟨g, 0, none⟩ (.slice A' (inn'.length - 1) c')) fun e w2 => e = .returned (errV aL aT (stepS lim inn' out').2.2) ∧ Dec W0 w2 g (stepS lim inn' out').1 (stepS lim inn' out').2.1 lim) := by
            refine ⟨?_⟩
            rw [show stepS lim inn' out' = nextS lim t (inn'.drop 1) out' by rw [HT.out] at ht ⊢; exact if_neg ht]
            exact next_calls HDS.out HL.out HR.out.1 HR.out.2 (HP.out.1.drop 1) (by rw [List.length_drop]; have := HP.out.2.1; omega) (by have := HP.out.2.2.2; omega)
          rcases hr : stepS lim inn' out' with ⟨inn1, out1, code⟩
          rw [hr] at HNX HS3 HSO HSI
          clear hr
          have t0 : (t == 0) = false := beq_eq_false_iff_ne.mpr (fun e => ht (.inl e))
          have t1 : (t == 255) = false := beq_eq_false_iff_ne.mpr (fun e => ht (.inr e))
          clear ht
          rcases code with _ | _ | code
          · have HS4 := Aside0.mk ((if_pos rfl).symm.trans HS3.out)
            clear HS3
            go_wp2_with (first
              | (go_at_call 96; refine HNX.out.mono ?_; rintro e w2 ⟨rfl, hd2⟩; simp only [errV]; have HD2 := Aside0.mk hd2; clear hd2))
            go_roundg k1
            case measure => omega
            case rel =>
              obtain ⟨m, hm⟩ := HSI.out
              have hm' : inn1 = inn'.drop (m + 1) := hm
              have hl : inn1.length ≤ inn'.length - 1 := by rw [hm', List.length_drop]; omega
              have ho1 : out1.length ≤ out'.length + 4096 := HSO.out
              have h0 := HH.out
              have hp := HP.out
              exact ⟨inn1, out1, (by first | rfl | (simp; done) | (simp [*]; done)), HD2, HS4, ⟨by rw [hm']; exact hp.1.drop _, by omega, by omega, by omega⟩⟩
          · have hs := (if_neg (by simp)).symm.trans HS3.out
            simp only [Prod.mk.injEq] at hs
            obtain ⟨rfl, rfl, rfl⟩ := hs
            clear HS3
            go_wp2_with (first
              | (go_at_call 96; refine HNX.out.mono ?_; rintro e w2 ⟨rfl, hd2⟩; simp only [errV]; have HD2 := Aside0.mk hd2; clear hd2))
            (try go_step3)
            (try go_wp2)
            (try go_step3)
            (try go_wp2)
            (try simp only [Exit.noGoto])
            go_ret
            exact ⟨rfl, HD2.out⟩
          · have hs := (if_neg (by simp)).symm.trans HS3.out
            simp only [Prod.mk.injEq] at hs
            obtain ⟨rfl, rfl, rfl⟩ := hs
            clear HS3
            go_wp2_with (first
              | (go_at_call 96; refine HNX.out.mono ?_; rintro e w2 ⟨rfl, hd2⟩; simp only [errV]; have HD2 := Aside0.mk hd2; clear hd2))
            (try go_step3)
            (try go_wp2)
            (try go_step3)
            (try go_wp2)
            (try simp only [Exit.noGoto])
            go_ret
            exact ⟨rfl, HD2.out⟩
end Go.Proofs.YthghblmffdfbaaaGreatDoor.Un

/- The decoder of package unpack, part 5: Prefix. -/
namespace Go.Proofs.YthghblmffdfbaaaGreatDoor.Un
open Go Go.RowKit Go.Proofs.YthghblmffdfbaaaGreatDoor Go.Proofs.YthghblmffdfbaaaGreatDoor.M Go.Proofs.YthghblmffdfbaaaGreatDoor.PUnBase Go.Proofs.YthghblmffdfbaaaGreatDoor.QUnBase Go.Proofs.YthghblmffdfbaaaGreatDoorW.PrintWords Go.Proofs.YthghblmffdfbaaaGreatDoorW.PrintLast Go.Proofs.YthghblmffdfbaaaGreatDoorW.PrintMore
attribute [local go_sem] max2_int min2_int max_two min_two
set_option linter.unusedVariables false
set_option linter.unusedSimpArgs false
set_option maxHeartbeats 8000000
set_option maxRecDepth 100000
def codeS : Nat → Int
  | 0 => 0
  | 1 => 11
  | _ => 10
def prefS (inn : List Int) (lim : Int) : List Int × Int := ((decoS (mx lim 0) inn.length inn []).2.1, codeS (decoS (mx lim 0) inn.length inn []).2.2)
theorem Dec.start (w : World) {A : Option Addr} {c : Nat} {inn : List Int} {lim : Int} (hin : Kd.C (Kd.int .u8) w A inn.length inn) (hc : inn.length ≤ c) :
    Dec w (w.alloc (.cells #[.slice A inn.length c, .slice none 0 0, .int .i64 lim] 119)) w.heap.size inn [] lim := by
  refine ⟨⟨A, c, .slice none 0 0, ?_, hin, hc, Kd.R_nil _ _ _ _ _⟩, (Below.refl _ _).alloc (Nat.le_refl _) _, Nat.le_refl _⟩
  show (w.heap.push _)[w.heap.size]? = _
  rw [Array.getElem?_push_size]
theorem prefix_calls {w : World} {A : Option Addr} {c : Nat} {inn : List Int} {lim : Int} {aL aT : Addr} (hin : Kd.C (Kd.int .u8) w A inn.length inn) (hc : inn.length ≤ c) (hL : LaidU w aL aT) (hB : IsB inn) (hi : inn.length ≤ 1000000000) :
    Calls Tryz.prog 33 #[.slice A inn.length c, .int .i64 lim] w fun e w' => ∃ v0_ : Value, e = .returned (.tuple #[v0_, .int .i64 (prefS inn lim).2]) ∧ Kd.R (Kd.int .u8) 5 w' w.heap.size (fun _ => True) v0_ (prefS inn lim).1 ∧ Below w.heap.size w w' := by
  obtain ⟨L, hl⟩ : ∃ L, L = mx lim 0 := ⟨_, rfl⟩
  unfold prefS
  rw [← hl]
  have HS := Aside0.mk (Dec.start w (lim := L) hin hc)
  rcases hr : decoS L inn.length inn [] with ⟨RI, RO, RC⟩
  have HC := Aside0.mk (decode_calls HS.out hL hB hi (Nat.le_refl _) (by simp; omega) hr)
  have HL := Aside0.mk hL
  have hl2 : (if lim < 0 then 0 else lim) = L := hl.symm
  clear hin hc hL hB hi hr hl
  rcases RC with _ | _ | RC
  · go_enter Tryz.func33, Tryz.ntmps33
    go_wp2_with (first
      | (go_at_call 61; refine HC.out.mono ?_; rintro e w2 ⟨rfl, hd2⟩; simp only [errV]; have HD2 := Aside0.mk hd2; obtain ⟨⟨A2, c2, v2, hblk2, hin2, hlen2, hown2⟩, hbel2, hg2⟩ := hd2; have k0 := (HL.out.below hbel2).c0; have k1 := (HL.out.below hbel2).c1; have k2 := Dec.cell1 hblk2; obtain ⟨cL, tL, hbL⟩ := (HL.out.below hbel2).bL; obtain ⟨cT, tT, hbT⟩ := (HL.out.below hbel2).bT; have HBL := Aside0.mk hbL; have HBT := Aside0.mk hbT; have HO := Aside0.mk hown2; have HB := Aside0.mk hbel2; clear hblk2 hin2 hlen2 hown2 hbel2 hg2 hbL hbT)
      | (go_at_call_of 62 aL; with_reducible refine (is_nil aL _).mono ?_; rintro e w3 ⟨rfl, rfl⟩)
      | (go_at_call_of 62 aT; with_reducible refine (is_nil aT _).mono ?_; rintro e w3 ⟨rfl, rfl⟩))
    go_ret2
    exact ⟨_, rfl, Kd.R_mono HO.out (fun _ _ => trivial), HB.out⟩
  · go_enter Tryz.func33, Tryz.ntmps33
    go_wp2_with (first
      | (go_at_call 61; refine HC.out.mono ?_; rintro e w2 ⟨rfl, hd2⟩; simp only [errV]; have HD2 := Aside0.mk hd2; obtain ⟨⟨A2, c2, v2, hblk2, hin2, hlen2, hown2⟩, hbel2, hg2⟩ := hd2; have k0 := (HL.out.below hbel2).c0; have k1 := (HL.out.below hbel2).c1; have k2 := Dec.cell1 hblk2; obtain ⟨cL, tL, hbL⟩ := (HL.out.below hbel2).bL; obtain ⟨cT, tT, hbT⟩ := (HL.out.below hbel2).bT; have HBL := Aside0.mk hbL; have HBT := Aside0.mk hbT; have HO := Aside0.mk hown2; have HB := Aside0.mk hbel2; clear hblk2 hin2 hlen2 hown2 hbel2 hg2 hbL hbT)
      | (go_at_call 62; with_reducible refine (is_same aL _).mono ?_; rintro e w3 ⟨rfl, rfl⟩))
    go_ret2
    exact ⟨_, rfl, Kd.R_mono HO.out (fun _ _ => trivial), HB.out⟩
  · go_enter Tryz.func33, Tryz.ntmps33
    go_wp2_with (first
      | (go_at_call 61; refine HC.out.mono ?_; rintro e w2 ⟨rfl, hd2⟩; simp only [errV]; have HD2 := Aside0.mk hd2; obtain ⟨⟨A2, c2, v2, hblk2, hin2, hlen2, hown2⟩, hbel2, hg2⟩ := hd2; have k0 := (HL.out.below hbel2).c0; have k1 := (HL.out.below hbel2).c1; have k2 := Dec.cell1 hblk2; obtain ⟨cL, tL, hbL⟩ := (HL.out.below hbel2).bL; obtain ⟨cT, tT, hbT⟩ := (HL.out.below hbel2).bT; have HBL := Aside0.mk hbL; have HBT := Aside0.mk hbT; have HIO := Aside0.mk (is_other aT aL cT cL tT tL w2 (Ne.symm HL.out.ne) HBT.out HBL.out); have HO := Aside0.mk hown2; have HB := Aside0.mk hbel2; clear hblk2 hin2 hlen2 hown2 hbel2 hg2 hbL hbT)
      | (go_at_call_of 62 aL; refine HIO.out.mono ?_; rintro e w3 ⟨rfl, rfl⟩)
      | (go_at_call 62; refine (is_same aT _).mono ?_; rintro e w3 ⟨rfl, rfl⟩))
    go_ret2
    exact ⟨_, rfl, Kd.R_mono HO.out (fun _ _ => trivial), HB.out⟩
end Go.Proofs.YthghblmffdfbaaaGreatDoor.Un

/- The decoder of package unpack, part 6: Prefix is the plain decoding up to the limit. -/
namespace Go.Proofs.YthghblmffdfbaaaGreatDoor.Un
open Go Go.RowKit Go.Proofs.YthghblmffdfbaaaGreatDoor Go.Proofs.YthghblmffdfbaaaGreatDoor.M Go.Proofs.YthghblmffdfbaaaGreatDoorW.PrintWords Go.Proofs.YthghblmffdfbaaaGreatDoorW.PrintLast Go.Proofs.YthghblmffdfbaaaGreatDoorW.PrintMore
set_option linter.unusedVariables false
set_option linter.unusedSimpArgs false
theorem expF_255 : ∀ b : List Int, 8 ≤ b.length → expF 8 255 b = b.take 8
  | a0 :: a1 :: a2 :: a3 :: a4 :: a5 :: a6 :: a7 :: r, _ => rfl
theorem expS_255 {b : List Int} (h : 8 ≤ b.length) : expS 255 b = val (b.take 8) := by rw [expS, expF_255 b h]
theorem expS_0 (b : List Int) : expS 0 b = 0 := by rfl
def Room (lim : Int) (out : List Int) (m : Nat) : Prop := (out.length : Int) + 8 * m ≤ lim ∧ lim < (out.length : Int) + 8 * m + 8
theorem emit_0 {lim : Int} {out : List Int} (h : Room lim out 0) (x : Int) : emitS lim out x = (out, 1) := by
  unfold emitS; obtain ⟨h0, h1⟩ := h; rw [if_pos (by omega)]
theorem emit_s {lim : Int} {out : List Int} {m : Nat} (h : Room lim out (m + 1)) (x : Int) : emitS lim out x = (out ++ bytesS [x], 0) := by
  unfold emitS; obtain ⟨h0, h1⟩ := h; rw [if_neg (by omega)]
theorem Room.step {lim : Int} {out ws : List Int} {m : Nat} (h : Room lim out m) (hw : ws.length ≤ m) : Room lim (out ++ bytesS ws) (m - ws.length) := by
  obtain ⟨h0, h1⟩ := h
  unfold Room
  rw [List.length_append, bytesS_length]
  constructor <;> omega
def Ok (r : List Int × List Int × Nat) (m : Nat) (out ws : List Int) (rest : Option (List Int)) : Prop :=
  (m < ws.length → r.2 = (out ++ bytesS (ws.take m), 1)) ∧ (ws.length ≤ m → r.2.1 = out ++ bytesS ws ∧ match rest with | some q => r.1 = q ∧ r.2.2 = 0 | none => r.2.2 = 2)
theorem Ok.nil (m : Nat) (inn out : List Int) : Ok (inn, out, 0) m out [] (some inn) := ⟨fun h => by simp at h, fun _ => ⟨by simp [bytesS], rfl, rfl⟩⟩
theorem Ok.cut (m : Nat) (inn out : List Int) : Ok (inn, out, 2) m out [] none := ⟨fun h => by simp at h, fun _ => ⟨by simp [bytesS], rfl⟩⟩
theorem Ok.cons {lim x : Int} {m : Nat} {inn1 out ws : List Int} {rest : Option (List Int)} {F : List Int → List Int → List Int × List Int × Nat} {r : List Int × List Int × Nat} (hr : r = (inn1, emitS lim out x)) (h : Room lim out m)
    (hF : ∀ m' out', Room lim out' m' → Ok (F inn1 out') m' out' ws rest) : Ok (if r.2.2 = 0 then F r.1 r.2.1 else r) m out (x :: ws) rest := by
  subst hr
  cases m with
  | zero =>
    rw [emit_0 h, if_neg (by simp)]
    exact ⟨fun _ => by simp [bytesS], fun h => by simp at h⟩
  | succ m =>
    have h' : Room lim (out ++ bytesS [x]) m := by have := h.step (ws := [x]) (by simp); simpa using this
    rw [emit_s h, if_pos rfl]
    obtain ⟨o1, o2⟩ := hF m _ h'
    refine ⟨fun hm => ?_, fun hm => ?_⟩
    · have := o1 (by simpa using hm)
      rw [this, List.take_succ_cons, List.append_assoc, ← bytesS_append]; rfl
    · obtain ⟨p1, p2⟩ := o2 (by simpa using hm)
      refine ⟨?_, p2⟩
      rw [p1, List.append_assoc, ← bytesS_append]; rfl
theorem Ok.one {lim x : Int} {m : Nat} {inn1 out : List Int} {r : List Int × List Int × Nat} (hr : r = (inn1, emitS lim out x)) (h : Room lim out m) : Ok r m out [x] (some inn1) := by
  have := Ok.cons (F := fun a b => (a, b, 0)) hr h (fun m' out' _ => Ok.nil m' inn1 out')
  have e : (if r.2.2 = 0 then (r.1, r.2.1, 0) else r) = r := by
    split
    · next e => rw [← e]
    · rfl
  rwa [e] at this
theorem next_0 (lim : Int) (inn out : List Int) : nextS lim 0 inn out = (inn, emitS lim out 0) := by
  unfold nextS
  rw [onesS_0, if_pos (Nat.zero_le _), expS_0, List.drop_zero]
theorem loop_0 (lim : Int) : ∀ (n m : Nat) (inn out : List Int), Room lim out m → Ok (loopS lim 0 n inn out) m out (List.replicate n 0) (some inn)
  | 0, m, inn, out, h => Ok.nil m inn out
  | n + 1, m, inn, out, h => by
    rw [loopS, List.replicate_succ]
    exact Ok.cons (F := loopS lim 0 n) (next_0 lim inn out) h (fun m' out' h' => loop_0 lim n m' inn out' h')
theorem next_255 (lim : Int) {inn : List Int} (h : 8 ≤ inn.length) (out : List Int) : nextS lim 255 inn out = (inn.drop 8, emitS lim out (expS 255 inn)) := by
  unfold nextS
  rw [onesS_255, if_pos h]
theorem loop_255 (lim : Int) : ∀ (n m : Nat) (q out : List Int), Room lim out m → Ok (loopS lim 255 n q out) m out (if q.length < 8 * n then wordsS q else wordsS (q.take (8 * n))) (if q.length < 8 * n then none else some (q.drop (8 * n)))
  | 0, m, q, out, h => by
    rw [if_neg (by omega), if_neg (by omega), wordsS_short (by simp)]
    exact Ok.nil m q out
  | n + 1, m, q, out, h => by
    by_cases h8 : 8 ≤ q.length
    · have e1 : (if q.length < 8 * (n + 1) then wordsS q else wordsS (q.take (8 * (n + 1)))) = expS 255 q :: (if (q.drop 8).length < 8 * n then wordsS (q.drop 8) else wordsS ((q.drop 8).take (8 * n))) := by
        by_cases hc : q.length < 8 * (n + 1)
        · rw [if_pos hc, if_pos (by rw [List.length_drop]; omega), wordsS_long h8, expS_255 h8]
        · rw [if_neg hc, if_neg (by rw [List.length_drop]; omega), wordsS_long (by rw [List.length_take]; omega), expS_255 h8, List.take_take, show min 8 (8 * (n + 1)) = 8 by omega, List.drop_take, show 8 * (n + 1) - 8 = 8 * n by omega]
      have e2 : (if q.length < 8 * (n + 1) then none else some (q.drop (8 * (n + 1)))) = (if (q.drop 8).length < 8 * n then none else some ((q.drop 8).drop (8 * n))) := by
        by_cases hc : q.length < 8 * (n + 1)
        · rw [if_pos hc, if_pos (by rw [List.length_drop]; omega)]
        · rw [if_neg hc, if_neg (by rw [List.length_drop]; omega), List.drop_drop, show 8 + 8 * n = 8 * (n + 1) by omega]
      rw [loopS, e1, e2]
      exact Ok.cons (F := loopS lim 255 n) (next_255 lim h8 out) h (fun m' out' h' => loop_255 lim n m' (q.drop 8) out' h')
    · rw [if_pos (by omega), if_pos (by omega), wordsS_short (by omega), loopS]
      have e : nextS lim 255 q out = (q, out, 2) := by unfold nextS; rw [onesS_255, if_neg h8]
      rw [e, if_neg (by simp)]
      exact Ok.cut m q out
theorem step_ok (lim : Int) {t : Int} {p out : List Int} {m : Nat} (hB : IsB (t :: p)) (h : Room lim out m) : ∃ ws rest, Ok (stepS lim (t :: p) out) m out ws rest ∧ decS (t :: p) = (match rest with | some q => (ws ++ (decS q).1, (decS q).2) | none => (ws, true)) ∧ ∀ q, rest = some q → ∃ j, q = p.drop j := by
  have hr : rd (t :: p) 0 = t := rfl
  unfold stepS
  rw [hr, List.drop_succ_cons, List.drop_zero]
  have hB' : IsB p := fun x hx => hB x (List.mem_cons_of_mem _ hx)
  have ht := hB t List.mem_cons_self
  by_cases h0 : t = 0
  · subst h0
    rw [if_pos (.inl rfl), runS, if_pos rfl]
    cases p with
    | nil => exact ⟨[], none, Ok.cut m [] out, decS_zero_end, fun q e => by cases e⟩
    | cons c q =>
      have hc := hB' c List.mem_cons_self
      rw [if_neg (by simp), show rd (c :: q) 0 = c from rfl, List.drop_succ_cons, List.drop_zero]
      exact ⟨_, some q, loop_0 lim (c.toNat + 1) m q out h, decS_zero c q, fun q' e => ⟨1, by injection e with e; rw [← e]; rfl⟩⟩
  · by_cases h1 : t = 255
    · subst h1
      rw [if_pos (.inr rfl), runS, if_neg h0]
      by_cases h8 : 8 ≤ p.length
      · rcases Nat.lt_or_ge 8 p.length with h9 | h9
        · obtain ⟨c, q, e⟩ : ∃ c q, p = p.take 8 ++ c :: q := ⟨p[8], p.drop 9, by rw [← List.drop_eq_getElem_cons (by omega), List.take_append_drop]⟩
          have hl : (p.take 8).length = 8 := by rw [List.length_take]; omega
          have hd : p.drop 8 = c :: q := by rw [e, List.drop_append_of_le_length (by omega), List.drop_of_length_le (by omega), List.nil_append]
          have hx : expS 255 p = expS 255 (p.take 8) := by rw [expS_255 h8, expS_255 (by omega), List.take_take, show min 8 8 = 8 from rfl]
          have hq : q = p.drop 9 := by rw [show 9 = 8 + 1 from rfl, ← List.drop_drop, hd]; rfl
          refine ⟨expS 255 p :: (if q.length < 8 * c.toNat then wordsS q else wordsS (q.take (8 * c.toNat))), (if q.length < 8 * c.toNat then none else some (q.drop (8 * c.toNat))), ?_, ?_, ?_⟩
          · refine Ok.cons (F := fun a b => if a.length = 0 then (a, b, 2) else loopS lim 255 (rd a 0).toNat (a.drop 1) b) (next_255 lim h8 out) h (fun m' out' h' => ?_)
            rw [hd, if_neg (by simp), show rd (c :: q) 0 = c from rfl, List.drop_succ_cons, List.drop_zero]
            exact loop_255 lim c.toNat m' q out' h'
          · have := decS_full (c := c) (q := q) hl
            rw [← e, ← hx] at this
            rw [this]
            by_cases hc : q.length < 8 * c.toNat
            · rw [if_pos hc, if_pos hc, if_pos hc]
            · rw [if_neg hc, if_neg hc, if_neg hc]; rfl
          · intro q' e'
            by_cases hc : q.length < 8 * c.toNat
            · rw [if_pos hc] at e'; cases e'
            · rw [if_neg hc] at e'; injection e' with e'; exact ⟨9 + 8 * c.toNat, by rw [← e', hq, List.drop_drop]⟩
        · refine ⟨[expS 255 p], none, ?_, ?_, fun q e => by cases e⟩
          · refine Ok.cons (F := fun a b => if a.length = 0 then (a, b, 2) else loopS lim 255 (rd a 0).toNat (a.drop 1) b) (next_255 lim h8 out) h (fun m' out' h' => ?_)
            rw [if_pos (by rw [List.length_drop]; omega)]
            exact Ok.cut _ _ _
          · exact decS_full_end (by omega)
      · have e : nextS lim 255 p out = (p, out, 2) := by unfold nextS; rw [onesS_255, if_neg h8]
        rw [e, if_neg (by simp)]
        exact ⟨[], none, Ok.cut m p out, decS_short h0 (by rw [onesS_255]; omega), fun q e => by cases e⟩
    · rw [if_neg (not_or.mpr ⟨h0, h1⟩)]
      by_cases hs : onesS t ≤ p.length
      · have e : nextS lim t p out = (p.drop (onesS t), emitS lim out (expS t p)) := by unfold nextS; rw [if_pos hs]
        exact ⟨[expS t p], some (p.drop (onesS t)), Ok.one e h, decS_tag h0 h1 hs, fun q e => ⟨_, by injection e with e; exact e.symm⟩⟩
      · have e : nextS lim t p out = (p, out, 2) := by unfold nextS; rw [if_neg hs]
        rw [e]
        exact ⟨[], none, Ok.cut m p out, decS_short h0 (by omega), fun q e => by cases e⟩
theorem deco_ok (lim : Int) : ∀ (k m : Nat) (inn out : List Int), IsB inn → inn.length ≤ k → Room lim out m →
    (decoS lim k inn out).2 = (out ++ bytesS ((decS inn).1.take m), if m < (decS inn).1.length then 1 else if (decS inn).2 = true then 2 else 0) := by
  intro k
  induction k with
  | zero =>
    intro m inn out hB hl h
    have : inn = [] := by cases inn with | nil => rfl | cons a l => simp at hl
    subst this
    simp [decoS, decS_nil, bytesS]
  | succ k ih =>
    intro m inn out hB hl h
    cases inn with
    | nil => simp [decoS, decS_nil, bytesS]
    | cons t p =>
      obtain ⟨ws, rest, ho, hd, hq⟩ := step_ok lim hB h
      rw [decoS, if_neg (by simp)]
      rcases Nat.lt_or_ge m ws.length with hm | hm
      · have e := ho.1 hm
        rw [if_neg (by rw [e]; simp), e, hd]
        cases rest with
        | none => simp [hm]
        | some q =>
          simp only [List.length_append]
          rw [List.take_append_of_le_length (by omega), if_pos (by omega)]
      · obtain ⟨e1, e2⟩ := ho.2 hm
        cases rest with
        | none =>
          simp only at e2
          rw [if_neg (by rw [e2]; simp), hd]
          simp only [if_neg (Nat.not_lt.mpr hm), if_true]
          rw [List.take_of_length_le hm, ← e1, ← e2]
        | some q =>
          obtain ⟨e2, e3⟩ := e2
          obtain ⟨j, hj⟩ := hq q rfl
          have hB' : IsB p := fun x hx => hB x (List.mem_cons_of_mem _ hx)
          rw [if_pos e3, e1, e2, ih (m - ws.length) q _ (by rw [hj]; exact hB'.drop j) (by rw [hj, List.length_drop]; simp at hl; omega) (h.step hm), hd]
          simp only [List.length_append, List.take_append]
          rw [List.take_of_length_le hm, List.append_assoc, ← bytesS_append]
          by_cases hc : m - ws.length < (decS q).1.length
          · have hc' : m < ws.length + (decS q).1.length := by omega
            rw [if_pos hc, if_pos hc']
          · have hc' : ¬ m < ws.length + (decS q).1.length := by omega
            rw [if_neg hc, if_neg hc']
theorem prefS_eq {inn : List Int} (hB : IsB inn) (lim : Int) (hl : lim ≤ 9223372036854775807) : prefS inn lim = (bytesS ((decS inn).1.take (max lim 0 / 8).toNat), if (max lim 0 / 8).toNat < (decS inn).1.length then 11 else if (decS inn).2 = true then 10 else 0) := by
  have e : mx lim 0 = max lim 0 := by unfold mx; omega
  have := deco_ok (max lim 0) inn.length (max lim 0 / 8).toNat inn [] hB (Nat.le_refl _) ⟨by simp; omega, by simp; omega⟩
  unfold prefS
  rw [e, this, List.nil_append]
  by_cases h1 : (max lim 0 / 8).toNat < (decS inn).1.length
  · rw [if_pos h1, if_pos h1]; rfl
  · rw [if_neg h1, if_neg h1]
    by_cases h2 : (decS inn).2 = true
    · rw [if_pos h2, if_pos h2]; rfl
    · rw [if_neg h2, if_neg h2]; rfl
def byteB (l : List Int) : Bool := l.all fun x => decide (0 ≤ x) && decide (x < 256)
theorem byteB_B {l : List Int} (h : byteB l = true) : IsB l := fun x hx => by
  have := List.all_eq_true.mp h x hx
  simpa using this
theorem B_byteB {l : List Int} (h : IsB l) : byteB l = true := List.all_eq_true.mpr fun x hx => by simpa using h x hx
def prefF (l : List Int) (a : Int) : Option (List Int × Int) := if (decide (l.length ≤ 1000000000) && byteB l) = true then some (prefS l a) else none
theorem prefF_calls {w : World} {A : Option Addr} {c : Nat} {l r1 : List Int} {a r2 : Int} {aL aT : Addr} (hin : Kd.C (Kd.int .u8) w A l.length l) (hc : l.length ≤ c) (h : prefF l a = some (r1, r2)) (hL : LaidU w aL aT) :
    Calls Tryz.prog 33 #[.slice A l.length c, .int .i64 a] w fun e w' => ∃ v0_ : Value, e = .returned (.tuple #[v0_, .int .i64 r2]) ∧ Kd.R (Kd.int .u8) 5 w' w.heap.size (fun _ => True) v0_ r1 ∧ Below w.heap.size w w' := by
  unfold prefF at h
  by_cases hc' : (decide (l.length ≤ 1000000000) && byteB l) = true
  · rw [if_pos hc'] at h
    rw [Bool.and_eq_true, decide_eq_true_eq] at hc'
    have h := Option.some.inj h
    rw [show r1 = (prefS l a).1 by rw [h], show r2 = (prefS l a).2 by rw [h]]
    exact prefix_calls hin hc hL (byteB_B hc'.2) hc'.1
  · rw [if_neg hc'] at h; cases h
theorem prefF_eq {l : List Int} (hB : IsB l) (hl : l.length ≤ 1000000000) (a : Int) (ha : a ≤ 9223372036854775807) : prefF l a = some (bytesS ((decS l).1.take (max a 0 / 8).toNat), if (max a 0 / 8).toNat < (decS l).1.length then 11 else if (decS l).2 = true then 10 else 0) := by
  unfold prefF
  rw [if_pos (by rw [decide_eq_true hl, B_byteB hB]; rfl), prefS_eq hB a ha]
end Go.Proofs.YthghblmffdfbaaaGreatDoor.Un
