/- The decoder of package unpack: its methods, walked by hand, come to plain functions. -/
import Derived.Test.YtcdkgccmmfjnhaaDoorQUnBase
import Derived.Test.YtcdkgccmmfjnhaaDoorIs
import Derived.Deep.RegionWith
import Derived.Deep.RegionLaw
import Derived.RegionCalls
import Derived.WalkMore
namespace Go.Proofs.YtcdkgccmmfjnhaaDoor.Un
open Go Go.RowKit Go.Proofs.YtcdkgccmmfjnhaaDoor Go.Proofs.YtcdkgccmmfjnhaaDoor.M Go.Proofs.YtcdkgccmmfjnhaaDoor.PUnBase Go.Proofs.YtcdkgccmmfjnhaaDoor.QUnBase Go.Proofs.YtcdkgccmmfjnhaaDoorW.PrintWords Go.Proofs.YtcdkgccmmfjnhaaDoorW.PrintLast Go.Proofs.YtcdkgccmmfjnhaaDoorW.PrintMore
set_option linter.unusedVariables false
set_option linter.unusedSimpArgs false
set_option maxHeartbeats 8000000
set_option maxRecDepth 100000

/-- The two sentinels of package unpack, as the program lays them. -/
structure LaidU (W : World) (aL aT : Addr) : Prop where
  c0 : W.cell? ⟨0, 0, none⟩ = some (.iface 76 (.pointer (some aL)))
  c1 : W.cell? ⟨1, 0, none⟩ = some (.iface 76 (.pointer (some aT)))
  ne : aL ≠ aT
  bL : ∃ c t, W.heap[aL.block]? = some (.cells c t (0, 0))
  bT : ∃ c t, W.heap[aT.block]? = some (.cells c t (0, 0))
theorem block_lt {W : World} {k : Nat} {o : Obj} (h : W.heap[k]? = some o) : k < W.heap.size := by
  rcases Nat.lt_or_ge k W.heap.size with h' | h'
  · exact h'
  · rw [Array.getElem?_eq_none h'] at h; cases h
theorem cell_lt {W : World} {a : Addr} {v : Value} (h : W.cell? a = some v) : a.block < W.heap.size := by
  rcases Nat.lt_or_ge a.block W.heap.size with h' | h'
  · exact h'
  · simp [World.cell?, Array.getElem?_eq_none h'] at h
theorem LaidU.below {W w : World} {aL aT : Addr} (h : LaidU W aL aT) (hb : Below W.heap.size W w) : LaidU w aL aT where
  c0 := (hb.cell (cell_lt h.c0)).trans h.c0
  c1 := (hb.cell (cell_lt h.c1)).trans h.c1
  ne := h.ne
  bL := by obtain ⟨c, t, e⟩ := h.bL; exact ⟨c, t, (hb.block _ (block_lt e)).trans e⟩
  bT := by obtain ⟨c, t, e⟩ := h.bT; exact ⟨c, t, (hb.block _ (block_lt e)).trans e⟩

/-- The decoder's state, behind the pointer ⟨g, 0⟩. -/
structure Dec (W0 w : World) (g : Nat) (inn out : List Int) (lim : Int) : Prop where
  ex : ∃ (A : Option Addr) (c : Nat) (v : Value), w.heap[g]? = some (.cells #[.slice A inn.length c, v, .int .i64 lim] 41 (0, 0)) ∧ Kd.C (Kd.int .u8) W0 A inn.length inn ∧ inn.length ≤ c ∧ Kd.R (Kd.int .u8) 5 w W0.heap.size (fun k => k ≠ g) v out
  bel : Below W0.heap.size W0 w
  hg : W0.heap.size ≤ g
theorem Dec.cell0 {w : World} {g : Nat} {x y z : Value} {t : TypeId} (h : w.heap[g]? = some (.cells #[x, y, z] t (0, 0))) : w.cell? ⟨g, 0, none⟩ = some x := by simp [World.cell?, h]
theorem Dec.cell1 {w : World} {g : Nat} {x y z : Value} {t : TypeId} (h : w.heap[g]? = some (.cells #[x, y, z] t (0, 0))) : w.cell? ⟨g, 1, none⟩ = some y := by simp [World.cell?, h]
theorem Dec.cell2 {w : World} {g : Nat} {x y z : Value} {t : TypeId} (h : w.heap[g]? = some (.cells #[x, y, z] t (0, 0))) : w.cell? ⟨g, 2, none⟩ = some z := by simp [World.cell?, h]

theorem Dec.drew {W0 w : World} {g : Nat} {inn out : List Int} {lim : Int} (h : Dec W0 w g inn out lim) : Dec W0 w.drew g inn out lim := by
  obtain ⟨⟨A, c, v, hblk, hin, hlen, hown⟩, hbel, hg⟩ := h
  exact ⟨⟨A, c, v, hblk, hin, hlen, Kd.R_drew hown⟩, hbel.drew, hg⟩
theorem Dec.cellN (W : World) (x : Int) (t : TypeId) : (W.alloc (.cells #[.int .u64 x] t)).cell? (Addr.add ⟨W.heap.size, 0, none⟩ (0 * (Kd.int .u64).sz + 0)) = some (.int .u64 x) := by
  have h : (W.alloc (.cells #[.int .u64 x] t)).heap[W.heap.size]? = some (.cells #[.int .u64 x] t) := by
    show (W.heap.push _)[W.heap.size]? = _
    rw [Array.getElem?_push_size]
  show (World.cell? _ ⟨W.heap.size, 0, none⟩) = _
  simp only [World.cell?, h]
  rfl
theorem C_one (W : World) (x : Int) (t : TypeId) : Kd.C (Kd.int .u64) (W.alloc (.cells #[.int .u64 x] t)) (some ⟨W.heap.size, 0, none⟩) 1 [x] := by
  refine ⟨rfl, by omega, fun _ => ⟨_, rfl, fun j p hj => ⟨[.int .u64 x], rfl, ?_, fun i u hu => ?_⟩⟩⟩
  · cases j with
    | zero => simp at hj; subst hj; rfl
    | succ j => simp at hj
  · cases j with
    | zero =>
      cases i with
      | zero => simp at hu; subst hu; exact Dec.cellN W x t
      | succ i => simp at hu
    | succ j => simp at hj
theorem blk_alloc {w : World} {g : Nat} {o o' : Obj} (h : w.heap[g]? = some o) : (w.drew.drew.alloc o').heap[g]? = some o := (Below.heap_alloc w o' g (block_lt h)).trans h
theorem blk_below {w w1 : World} {g : Nat} {o : Obj} (h : w.heap[g]? = some o) (hb : Below w.heap.size w w1) : w1.heap[g]? = some o := (hb.block g (block_lt h)).trans h
theorem blk_frozen {w : World} {g : Nat} {cs : Array Value} {t : TypeId} (h : w.heap[g]? = some (.cells cs t (0, 0))) (j : Nat) : w.frozen? ⟨g, j, none⟩ = false := by
  simp [World.frozen?, h]
theorem blk_set0 {w : World} {g : Nat} {x y z : Value} {t : TypeId} (h : w.heap[g]? = some (.cells #[x, y, z] t (0, 0))) (v : Value) : (w.setCell ⟨g, 0, none⟩ v).heap[g]? = some (.cells #[v, y, z] t (0, 0)) := by
  simp [World.setCell, Array.getElem?_modify, h]
theorem blk_set1 {w : World} {g : Nat} {x y z : Value} {t : TypeId} (h : w.heap[g]? = some (.cells #[x, y, z] t (0, 0))) (v : Value) : (w.setCell ⟨g, 1, none⟩ v).heap[g]? = some (.cells #[x, v, z] t (0, 0)) := by
  simp [World.setCell, Array.getElem?_modify, h]
theorem Dec.setOut {W0 w : World} {g : Nat} {inn out : List Int} {lim : Int} {A : Option Addr} {c : Nat} {y v : Value} (hblk : w.heap[g]? = some (.cells #[.slice A inn.length c, y, .int .i64 lim] 41 (0, 0))) (hin : Kd.C (Kd.int .u8) W0 A inn.length inn) (hlen : inn.length ≤ c) (hown : Kd.R (Kd.int .u8) 5 w W0.heap.size (fun k => k ≠ g) v out) (hb : Below W0.heap.size W0 w) (hg : W0.heap.size ≤ g) : Dec W0 (w.setCell ⟨g, 1, none⟩ v) g inn out lim :=
  ⟨⟨A, c, v, blk_set1 hblk v, hin, hlen, Kd.R_far hown (fun _ hk => hk) v⟩, hb.setCell hg v, hg⟩
theorem Dec.setIn {W0 w : World} {g : Nat} {inn out : List Int} {lim : Int} {A : Option Addr} {c : Nat} {x v : Value} (hblk : w.heap[g]? = some (.cells #[x, v, .int .i64 lim] 41 (0, 0))) (hin : Kd.C (Kd.int .u8) W0 A inn.length inn) (hlen : inn.length ≤ c) (hown : Kd.R (Kd.int .u8) 5 w W0.heap.size (fun k => k ≠ g) v out) (hb : Below W0.heap.size W0 w) (hg : W0.heap.size ≤ g) : Dec W0 (w.setCell ⟨g, 0, none⟩ (.slice A inn.length c)) g inn out lim :=
  ⟨⟨A, c, v, blk_set0 hblk _, hin, hlen, Kd.R_far hown (fun _ hk => hk) _⟩, hb.setCell hg _, hg⟩
theorem emit_full {W0 w : World} {g : Nat} {inn out : List Int} {lim x : Int} {aL aT : Addr} (hd : Dec W0 w g inn out lim) (hL : LaidU W0 aL aT) (h : lim < (out.length : Int) + 8) (hn : out.length ≤ 140737488355328) :
    Calls Tryd.prog 33 #[.pointer (some ⟨g, 0, none⟩), .int .u64 x] w fun e w' => e = .returned (.iface 76 (.pointer (some aL))) ∧ Dec W0 w' g inn out lim := by
  have HD := Aside0.mk hd
  obtain ⟨⟨A, c, v, hblk, hin, hlen, hown⟩, hbel, hg⟩ := hd
  obtain ⟨A', c', rfl, hc', _⟩ := Kd.R_reads hown
  have f0 := Dec.cell0 hblk
  have f1 := Dec.cell1 hblk
  have f2 := Dec.cell2 hblk
  have g0 : w.cell? ⟨0, 0, none⟩ = some (.iface 76 (.pointer (some aL))) := (hL.below hbel).c0
  have e1 : wrap64 ((out.length : Int) + 8) = (out.length : Int) + 8 := w64 (by omega) (by omega)
  have d1 : decide ((out.length : Int) + 8 > lim) = true := decide_eq_true h
  clear hblk hin hlen hown hbel hg hL h hc'
  go_enter Tryd.func33, Tryd.ntmps33
  go_wp2
  go_region
  go_wp2
  go_ret
  exact ⟨rfl, HD.out.drew⟩

theorem emit_ok {W0 w : World} {g : Nat} {inn out : List Int} {lim x : Int} (hd : Dec W0 w g inn out lim) (h : ¬ lim < (out.length : Int) + 8) (hn : out.length ≤ 70368744177664) (hx0 : 0 ≤ x) (hx1 : x < 18446744073709551616) :
    Calls Tryd.prog 33 #[.pointer (some ⟨g, 0, none⟩), .int .u64 x] w fun e w' => e = .returned .nilIface ∧ Dec W0 w' g inn (out ++ bytesS [x]) lim := by
  have HD := Aside0.mk hd
  obtain ⟨kb, hkb⟩ := Ev.rounds (wordBytes [x] (by simp))
  obtain ⟨⟨A, c, v, hblk, hin, hlen, hown⟩, hbel, hg⟩ := hd
  have HOWN := Aside0.mk hown
  obtain ⟨A', c', rfl, hc', _⟩ := Kd.R_reads hown
  have f0 := Dec.cell0 hblk
  have f1 := Dec.cell1 hblk
  have f2 := Dec.cell2 hblk
  have e1 : wrap64 ((out.length : Int) + 8) = (out.length : Int) + 8 := w64 (by omega) (by omega)
  have d1 : decide ((out.length : Int) + 8 > lim) = false := decide_eq_false h
  have HB := Aside0.mk hbel
  have HBLK := Aside0.mk hblk
  have HKB := Aside0.mk hkb
  have HIN := Aside0.mk hin
  have HLEN := Aside0.mk hlen
  have HG := Aside0.mk hg
  have hlt : g < w.heap.size := block_lt hblk
  have hgne : ¬ g = w.heap.size := by omega
  have hszA : w.heap.size ≤ (w.drew.drew.alloc (.cells #[.int .u64 x] 46)).heap.size := by simp
  clear hblk hin hlen hown hbel hg h hc' hkb
  go_enter Tryd.func33, Tryd.ntmps33
  go_wp2
  go_region
  go_wp2
  go_region_law (first
    | (refine goes_ Tryd.func36 (by kernel_rfl) rfl #[.slice (some ⟨w.heap.size, 0, none⟩) 1 1] (by rfl) rfl rfl (by first | rfl | simp [Act.eval, Act.put]) ?_
       refine (word_Bytes.calls kb _ 1 [x] (bytesS [x]) _ ?_ (Nat.le_refl 1) HKB.out).mono ?_
       exact C_one w.drew.drew x 46
       rintro e w2 ⟨v2, rfl, hv2, hb2⟩
       refine ⟨_, rfl, ?_⟩
       obtain ⟨A2, c2, rfl, hlc2, hC2⟩ := Kd.R_reads hv2
       have HC2 := Aside0.mk hC2
       have HB2 := Aside0.mk ((HB.out.drew.drew.alloc (Nat.le_trans HB.out.size (Nat.le_refl _)) _).trans (hb2.mono (Nat.le_trans HB.out.size hszA)))
       have HO2 := Aside0.mk (Kd.R_below (Kd.R_alloc (Kd.R_drew (Kd.R_drew HOWN.out)) _) hb2)
       have HBLK2 := Aside0.mk (blk_below (blk_alloc HBLK.out) hb2)
       have f12 := Dec.cell1 HBLK2.out
       clear hC2 hb2 hv2 hlc2)
    | (refine Kd.R_append_rows_step (Kd.int .u8) (w0 := W0) W0.heap.size (by rfl) (.tmp 21) (.tmp 24) 22 5 (.int .u8 0) 1 rfl Tryd.underlying22 info5 rfl (by decide) (by omega) (.slice A' out.length c') out (bytesS [x]) A2 (bytesS [x]).length c2 (fun k => k ≠ g) (fun _ => False) rfl rfl HO2.out HC2.out (fun _ _ h => h) (fun _ hk => hk.elim) ?hF HB2.out ?hS ?hL ?_
       case hF => have := block_lt HBLK2.out; intro k hk; omega
       case hS => exact Nat.le_trans HB2.out.size (Nat.le_refl _)
       case hL => rw [bytesS_length]; simp only [List.length_cons, List.length_nil]; omega
       intro v3 w3 ho3 hb3 hg3 hat3
       obtain ⟨A3, c3, e3⟩ := Kd.R_slice ho3
       subst e3
       have HB3 := Aside0.mk hb3
       have HO3 := Aside0.mk ho3
       have HBLK3 := Aside0.mk ((hg3.block g (block_lt HBLK2.out) (fun e => HO2.out.1 g e.symm rfl)).trans HBLK2.out)
       have f13 := Dec.cell1 HBLK3.out
       have f14 := blk_frozen HBLK3.out 1
       clear ho3 hb3 hg3 hat3))
  all_goals (try go_wp2)
  all_goals (go_ret; refine ⟨rfl, ?_⟩; rw [← List.length_append]; exact Dec.setOut HBLK3.out HIN.out HLEN.out HO3.out HB3.out HG.out)

/-! ### next -/
def errV (aL aT : Addr) : Nat → Value
  | 0 => .nilIface
  | 1 => .iface 76 (.pointer (some aL))
  | _ => .iface 76 (.pointer (some aT))
def emitS (lim : Int) (out : List Int) (x : Int) : List Int × Nat := if lim < (out.length : Int) + 8 then (out, 1) else (out ++ bytesS [x], 0)
theorem emit_calls {W0 w : World} {g : Nat} {inn out : List Int} {lim x : Int} {aL aT : Addr} (hd : Dec W0 w g inn out lim) (hL : LaidU W0 aL aT) (hn : out.length ≤ 70368744177664) (hx0 : 0 ≤ x) (hx1 : x < 18446744073709551616) :
    Calls Tryd.prog 33 #[.pointer (some ⟨g, 0, none⟩), .int .u64 x] w fun e w' => e = .returned (errV aL aT (emitS lim out x).2) ∧ Dec W0 w' g inn (emitS lim out x).1 lim := by
  unfold emitS
  have hn' : out.length ≤ 140737488355328 := by omega
  by_cases h : lim < (out.length : Int) + 8
  · rw [if_pos h]; exact emit_full hd hL h hn'
  · rw [if_neg h]; exact emit_ok hd h hn hx0 hx1

theorem cut_in (A : Option Addr) (c : Nat) (inn : List Int) (m : Nat) (hm : m ≤ inn.length) {W : World} (hC : Kd.C (Kd.int .u8) W A inn.length inn) (hc : inn.length ≤ c) :
    ∃ (A' : Option Addr) (c' : Nat), (∀ W : World, (Instr.slice 22 (.slice A inn.length c) (some (.int .i64 (m : Int))) none none).run Tryd.prog W = .ok (.slice A' (inn.drop m).length c') W) ∧ Kd.C (Kd.int .u8) W A' (inn.drop m).length (inn.drop m) ∧ (inn.drop m).length ≤ c' := by
  obtain ⟨i0, hi0, _, hsz, _⟩ := info_parts info5
  obtain ⟨A', h1, h2, h3⟩ := print_drop_of (P := Tryd.prog) (Value.int .u8) 0 22 5 .i64 Tryd.underlying22 hi0 hsz A c inn (m : Int) (by omega) (by omega) hc
  simp only [Int.toNat_natCast] at h1 h2 h3
  exact ⟨A', c - m, h1, Kd.C_of_reads (d := 0) (h2 W (Kd.reads_of_C hC)), h3⟩

def nextS (lim t : Int) (inn out : List Int) : List Int × List Int × Nat :=
  if onesS t ≤ inn.length then (inn.drop (onesS t), emitS lim out (expS t inn)) else (inn, out, 2)

theorem Dec.drewN {W0 w : World} {g : Nat} {inn out : List Int} {lim : Int} (h : Dec W0 w g inn out lim) (n : Nat) : Dec W0 (w.drewN n) g inn out lim := by
  obtain ⟨⟨A, c, v, hblk, hin, hlen, hown⟩, hbel, hg⟩ := h
  exact ⟨⟨A, c, v, hblk, hin, hlen, Kd.R_drewN hown n⟩, pw_below_drewN hbel n, hg⟩

theorem next_short {W0 w : World} {g : Nat} {inn out : List Int} {lim t : Int} {aL aT : Addr} (hd : Dec W0 w g inn out lim) (hL : LaidU W0 aL aT) (ht0 : 0 ≤ t) (ht1 : t < 256) (hB : IsB inn) (hi : inn.length ≤ 140737488355328) (h : ¬ onesS t ≤ inn.length) :
    Calls Tryd.prog 27 #[.pointer (some ⟨g, 0, none⟩), .int .u8 t] w fun e w' => e = .returned (errV aL aT 2) ∧ Dec W0 w' g inn out lim := by
  have HD := Aside0.mk hd
  obtain ⟨kb, hkb⟩ := Ev.rounds (tagExpand t inn ht0 ht1 hB hi)
  rw [if_neg h] at hkb
  obtain ⟨⟨A, c, v, hblk, hin, hlen, hown⟩, hbel, hg⟩ := hd
  have f0 := Dec.cell0 hblk
  have g1 : w.cell? ⟨1, 0, none⟩ = some (.iface 76 (.pointer (some aT))) := (hL.below hbel).c1
  have HB := Aside0.mk hbel
  have HKB := Aside0.mk hkb
  have HIN := Aside0.mk (Kd.C_below hin hbel)
  have HLEN := Aside0.mk hlen
  clear hblk hin hlen hown hbel hg hkb hL
  go_enter Tryd.func27, Tryd.ntmps27
  go_wp2_with (first
    | (go_at_call 32; refine (tagbyte_Expand.calls kb t A c inn _ _ _ w HIN.out HLEN.out HKB.out).mono ?_; rintro e w1 ⟨rfl, ⟨nd, rfl⟩⟩))
  go_ret
  exact ⟨rfl, HD.out.drewN _⟩

end Go.Proofs.YtcdkgccmmfjnhaaDoor.Un
