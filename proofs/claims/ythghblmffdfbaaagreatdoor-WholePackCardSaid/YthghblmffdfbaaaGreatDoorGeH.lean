/- The top: the law of append(l, make([]T, n)...), an append of zeros to a row of the call's own; its condition is that all the bytes stay below 2^47. -/
import Derived.Test.YthghblmffdfbaaaGreatDoorGcH
import Derived.Laws.OwnMore
import Derived.IntWalk
import Derived.Test.YthghblmffdfbaaaGreatDoorPTpBx3H

namespace Go.Proofs.YthghblmffdfbaaaGreatDoor.Gp
open Go Go.RowKit Go.Proofs.YthghblmffdfbaaaGreatDoor Go.Proofs.YthghblmffdfbaaaGreatDoor.M Go.Proofs.YthghblmffdfbaaaGreatDoor.PFrBase Go.Proofs.YthghblmffdfbaaaGreatDoor.QFrBase Go.Proofs.YthghblmffdfbaaaGreatDoorW.PrintWords Go.Proofs.YthghblmffdfbaaaGreatDoorW.PrintLast Go.Proofs.YthghblmffdfbaaaGreatDoorW.PrintMore
set_option linter.unusedVariables false
set_option linter.unusedSimpArgs false
set_option maxHeartbeats 1000000
set_option maxRecDepth 100000
theorem zeroCells_one (z : Value) (n : Nat) : Builtin.zeroCells #[z] n = (List.replicate n z).toArray := by
  apply Array.ext
  · simp [Builtin.zeroCells]
  · intro i h1 h2
    simp [Builtin.zeroCells, Nat.mod_one]
section
variable {P : Program} (w : World)
theorem run_zeros_grow (t u ty e : TypeId) (k : IntKind) (i : TypeInfo) (z : Value) (ht : P.underlying t = some (.slice e)) (hu : P.underlying u = some (.int k)) (hi : P.info? e = some i) (hz : i.zero = some z) (hsz : i.size = 1) (hzc : z.cells = #[z])
    (b : Option Addr) (sLen sCap n : Nat) (olds : List Value) (hlo : olds.length = sLen) (hold : (Builtin.firstCells 1 sLen (.slice b sLen sCap)).run P w.drew = .ok olds.toArray w.drew)
    (hsc : sLen ≤ sCap) (hg : sCap < sLen + n) (h63 : ((sLen + n : Nat) : Int) ≤ 9223372036854775807) (hfit : Builtin.nextslicecap (sLen + n) sCap * i.bytes ≤ 281474976710656) (hn48 : (n : Int) * (i.bytes : Int) ≤ 281474976710656) :
    (Builtin.append_ #[t, u] ty #[.slice b sLen sCap, .int .i64 n]).run P w =
      .ok (.slice (some ⟨w.heap.size, 0, none⟩) (sLen + n) (grownCap w (sLen + n) sCap e))
        (w.drew.alloc (.cells (olds ++ List.replicate (grownCap w (sLen + n) sCap e - sLen) z).toArray e)) := by
  have hn : ¬ (sLen + n ≤ sCap) := by omega
  have h63' : ¬ (9223372036854775807 < ((sLen : Int) + (n : Int))) := by omega
  have h48' : ¬ (281474976710656 < Builtin.nextslicecap (sLen + n) sCap * i.bytes) := by omega
  have hw : IntKind.i64.wrap (n : Int) = (n : Int) := IntWalk.i64_in _ (by omega)
  have hneg : ¬ ((n : Int) < 0) := by omega
  have hn48' : ¬ (281474976710656 < (n : Int) * (i.bytes : Int)) := by omega
  have hge := grownCap_ge w (sLen + n) sCap e
  have ha : (Builtin.zeroCells z.cells n) = (List.replicate n z).toArray := by rw [hzc]; exact zeroCells_one z n
  by_cases hn0 : n = 0
  · omega
  simp [Builtin.append_, run_underlying ht, run_underlying hu, sizeOf, typeInfo, zeroValue, hi, hz, hsz, hn, h63', h48', hw, hneg, hn48', hn0, asInt, asIntOf, Question.forced, hold, newRow, grownCap, hzc, zeroCells_one]
  simp only [grownCap] at hge
  rw [show n + ((Question.appendCap (sLen + n) sCap e).cut (w.tape w.drawn (Question.appendCap (sLen + n) sCap e)) - (sLen + n)) = (Question.appendCap (sLen + n) sCap e).cut (w.tape w.drawn (Question.appendCap (sLen + n) sCap e)) - sLen by omega]
  congr 2
  simp
theorem run_zeros_room (t u ty e : TypeId) (k : IntKind) (i : TypeInfo) (z : Value) (ht : P.underlying t = some (.slice e)) (hu : P.underlying u = some (.int k)) (hi : P.info? e = some i) (hz : i.zero = some z) (hsz : i.size = 1) (hzc : z.cells = #[z]) (h1 : z.oneCell' = true)
    (g sLen sCap n : Nat) (cur : Array Value) (hg : w.heap[g]? = some (.cells cur e (0, 0))) (hroom : sLen + n ≤ sCap) (hfit : sLen + n ≤ cur.size) (hn48 : (n : Int) * (i.bytes : Int) ≤ 281474976710656) (hn : (n : Int) ≤ 9223372036854775807) :
    (Builtin.append_ #[t, u] ty #[.slice (some ⟨g, 0, none⟩) sLen sCap, .int .i64 n]).run P w =
      .ok (.slice (some ⟨g, 0, none⟩) (sLen + n) sCap) (w.setRow g (cur.toList.take sLen ++ List.replicate n z ++ cur.toList.drop (sLen + n)).toArray) := by
  have hw : IntKind.i64.wrap (n : Int) = (n : Int) := IntWalk.i64_in _ (by omega)
  have hneg : ¬ ((n : Int) < 0) := by omega
  have hn48' : ¬ (281474976710656 < (n : Int) * (i.bytes : Int)) := by omega
  have hst := run_storeCells_at P g sLen e (List.replicate n z) 0 cur w hg (by simpa using hfit) (fun v hv => by rw [(List.mem_replicate.1 hv).2]; exact h1)
  simp only [Nat.add_zero, List.length_replicate] at hst
  by_cases hn0 : n = 0
  · subst hn0
    simp only [List.replicate_zero] at hst
    have hw0 : IntKind.i64.wrap 0 = 0 := IntWalk.i64_in _ (by omega)
    have hroom' : sLen ≤ sCap := hroom
    simp [Builtin.append_, run_underlying ht, run_underlying hu, sizeOf, typeInfo, zeroValue, hi, hz, hsz, hroom', hw0, asInt, asIntOf, Addr.add_lit, hst]
  simp [Builtin.append_, run_underlying ht, run_underlying hu, sizeOf, typeInfo, zeroValue, hi, hz, hsz, hroom, hw, hneg, hn48', hn0, asInt, asIntOf, hzc, zeroCells_one, Addr.add_lit, hst]
theorem run_zeros_own (base : Nat) (t u ty e : TypeId) (k : IntKind) (i : TypeInfo) (z : Value) (ht : P.underlying t = some (.slice e)) (hu : P.underlying u = some (.int k)) (hi : P.info? e = some i) (hz : i.zero = some z) (hsz : i.size = 1) (hzc : z.cells = #[z]) (h1 : z.oneCell' = true)
    (v : Value) (n m : Nat) (xs : List Value) (hown : w.ownsRow base e 1 v n xs) (hbytes : (n + m) * i.bytes ≤ 140737488355328) (hm : n + m ≤ maxLen) (hbase : base ≤ w.heap.size) :
    ∃ v' w', (Builtin.append_ #[t, u] ty #[v, .int .i64 m]).run P w = .ok v' w' ∧ w'.ownsRow base e 1 v' (n + m) (xs ++ List.replicate m z) ∧ w.grownBy w' v.ownBlock ∧ (v'.ownBlock = v.ownBlock ∨ ∃ b, v'.ownBlock = some b ∧ w.heap.size ≤ b) := by
  have hxl : xs.length = n := by rw [hown.1, Nat.mul_one]
  have hlen : (xs ++ List.replicate m z).length = (n + m) * 1 := by simp [hxl]
  have h63 : ((n + m : Nat) : Int) ≤ 9223372036854775807 := by unfold maxLen at hm; omega
  have hmb : m * i.bytes ≤ (n + m) * i.bytes := Nat.mul_le_mul_right _ (by omega)
  have hn48 : (m : Int) * (i.bytes : Int) ≤ 281474976710656 := by rw [← Int.natCast_mul]; omega
  have grown : ∀ (b : Option Addr) (old : Nat) (row : Option Nat), old < n + m →
      (w.drew.alloc (.cells (xs ++ List.replicate (grownCap w (n + m) old e - n) z).toArray e)).ownsRow base e 1 (.slice (some ⟨w.heap.size, 0, none⟩) (n + m) (grownCap w (n + m) old e)) (n + m) (xs ++ List.replicate m z) ∧
      w.grownBy (w.drew.alloc (.cells (xs ++ List.replicate (grownCap w (n + m) old e - n) z).toArray e)) row := by
    intro b old row ho
    have hge := grownCap_ge w (n + m) old e
    refine ⟨⟨hlen, .inr ⟨w.heap.size, _, _, rfl, hbase, heap_alloc_new w.drew _, hge, grownCap_le_maxLen w (n + m) old e hm, ?_, ?_⟩⟩, ⟨rfl, rfl, rfl, by simp, fun k hk _ => Below.heap_alloc w.drew _ k hk⟩⟩
    · simp [hxl]; omega
    · simp only [Nat.mul_one, List.take_append, hxl, List.take_replicate]
      rw [List.take_of_length_le (by omega), show min (n + m - n) (grownCap w (n + m) old e - n) = m by omega]
  rcases hown.2 with ⟨rfl, rfl⟩ | ⟨g, cap, cur, rfl, hbg, hg, hnc, hcm, hcs, htake⟩
  · obtain rfl : xs = [] := List.eq_nil_of_length_eq_zero hxl
    by_cases hm0 : m = 0
    · subst hm0
      refine ⟨.slice none 0 0, w, ?_, World.ownsRow_nil w base e 1, ⟨rfl, rfl, rfl, Nat.le_refl _, fun _ _ _ => rfl⟩, .inl rfl⟩
      have hw : IntKind.i64.wrap 0 = 0 := IntWalk.i64_in _ (by omega)
      simp [Builtin.append_, run_underlying ht, run_underlying hu, sizeOf, typeInfo, hi, hz, hsz, hw, asInt, asIntOf]
    · have hr := run_zeros_grow (P := P) w t u ty e k i z ht hu hi hz hsz hzc none 0 0 m [] rfl (by simp [run_firstCells_none]) (Nat.le_refl _) (by omega) (by omega) (growslice_fits (by omega) hbytes) hn48
      have hgr := grown none 0 none (by omega)
      simp only [Nat.zero_add, Nat.sub_zero] at hr hgr ⊢
      exact ⟨_, _, hr, hgr.1, hgr.2, .inr ⟨_, rfl, Nat.le_refl _⟩⟩
  · by_cases hroom : n + m ≤ cap
    · have hr := run_zeros_room (P := P) w t u ty e k i z ht hu hi hz hsz hzc h1 g n cap m cur hg hroom (by omega) hn48 (by omega)
      refine ⟨_, _, hr, ⟨hlen, .inr ⟨g, cap, _, rfl, hbg, setRow_heap w g cur _ e _ hg, hroom, hcm, ?_, ?_⟩⟩, ⟨rfl, rfl, rfl, by simp, fun k _ hk => setRow_other w g k _ (fun e => hk (by simp [Value.ownBlock, e]))⟩, .inl rfl⟩
      · simp only [List.size_toArray, List.length_append, List.length_take, List.length_drop, Array.length_toList, List.length_replicate]
        omega
      · rw [Nat.mul_one] at htake
        rw [htake, ← hlen]
        exact List.take_left
    · have holds : ∀ j u, xs[j]? = some u → w.drew.cell? ((⟨g, 0, none⟩ : Addr).add j) = some u := hown.cells (g := g) rfl
      have hr := run_zeros_grow (P := P) w t u ty e k i z ht hu hi hz hsz hzc (some ⟨g, 0, none⟩) n cap m xs hxl (run_firstCells_some (P := P) w.drew 1 n ⟨g, 0, none⟩ n cap xs (by omega) holds) hnc (by omega) h63 (growslice_fits (by omega) hbytes) hn48
      have hgr := grown none cap (Value.ownBlock (.slice (some ⟨g, 0, none⟩) n cap)) (by omega)
      exact ⟨_, _, hr, hgr.1, hgr.2, .inr ⟨_, rfl, Nat.le_refl _⟩⟩
end
theorem wpList_zeros {w0 w : World} {ops : Array Oper} {rest : List Oper} {o : Oper} {a : Act} {Q : Exit → Act → World → Prop} (hgd : o.guard = none) (s x : Operand)
    (ho : o.op = .call { callee := .builtin .append, args := #[s, x], argTypes := #[27, 3] })
    (base : Nat) {ok : Nat → Prop} (v : Value) (ws : List Int) (m : Nat) (hs : a.eval s = v) (hx : a.eval x = .int .i64 m) (HO : Kd.R (Kd.int .u64) 61 w base ok v ws) (hfresh : ∀ k, w.heap.size ≤ k → ok k)
    (hbytes : (ws.length + m) * 8 ≤ 140737488355328) (HB : Below base w0 w) (hbase : base ≤ w.heap.size)
    (h : ∀ v' w', Kd.R (Kd.int .u64) 61 w' base ok v' (ws ++ List.replicate m 0) → Below base w0 w' → w.grownBy w' v.ownBlock → (v'.ownBlock = v.ownBlock ∨ ∃ b, v'.ownBlock = some b ∧ w.heap.size ≤ b) → wpList Tryz.prog ops Q rest (a.put o.dst v') w') : wpList Tryz.prog ops Q (o :: rest) a w := by
  obtain ⟨i0, hi0, hz0, hsz, hby⟩ := info_parts info61
  have ho1 := Kd.own_of_R HO
  have hi3 : Tryz.prog.underlying 3 = some (.int .i64) := by kernel_rfl
  obtain ⟨v', w', hr, h2, h3, h4⟩ := run_zeros_own (P := Tryz.prog) w base 27 3 o.type 61 .i64 i0 (.int .u64 0) Tryz.underlying27 hi3 hi0 hz0 hsz (by kernel_rfl) rfl v ws.length m _ ho1 (by rw [hby]; exact hbytes) (by unfold maxLen; omega) hbase
  refine wpList_plain hgd fun K hK => ?_
  unfold Oper.wp execOp
  simp only [ho, resolve, invoke, builtin, Sem.run_bind, Sem.run_pure, Result.andThen_ok, List.map_toArray, List.map_cons, List.map_nil, hs, hx, hr]
  refine hK _ _ (h v' w' ?_ (HB.grown h3 hbase (fun k hk => Kd.R_base HO k hk)) h3 h4)
  have e1 : encs (Value.int .u64) ws ++ List.replicate m (.int .u64 0) = encs (Value.int .u64) (ws ++ List.replicate m 0) := by simp [encs]
  rw [e1] at h2
  have e2 : ws.length + m = (ws ++ List.replicate m (0 : Int)).length := by simp
  rw [e2] at h2
  refine Kd.R_of_own (h1 := fun _ => rfl) h2 (fun q hq => ?_)
  rcases h4 with h4 | ⟨b, h4, h5⟩
  · exact HO.1 q (by rw [← h4]; exact hq)
  · rw [h4] at hq
    obtain rfl := Option.some.inj hq
    exact hfresh _ h5
end Go.Proofs.YthghblmffdfbaaaGreatDoor.Gp

/- The top: canonwrite's writer: zeros, bytes at every input whose sizes stay below 2^40. -/
namespace Go.Proofs.YthghblmffdfbaaaGreatDoor.Gp
open Go Go.RowKit Go.Proofs.YthghblmffdfbaaaGreatDoor Go.Proofs.YthghblmffdfbaaaGreatDoor.M Go.Proofs.YthghblmffdfbaaaGreatDoor.PFrBase Go.Proofs.YthghblmffdfbaaaGreatDoor.QFrBase Go.Proofs.YthghblmffdfbaaaGreatDoorW.PrintWords Go.Proofs.YthghblmffdfbaaaGreatDoorW.PrintLast Go.Proofs.YthghblmffdfbaaaGreatDoorW.PrintMore
attribute [local go_sem] max2_int min2_int max_two min_two
set_option linter.unusedVariables false
set_option linter.unusedSimpArgs false
set_option maxHeartbeats 8000000
set_option maxRecDepth 100000
structure Wri (W0 w : World) (g : Nat) (v : Value) (ws : List Int) : Prop where
  blk : w.heap[g]? = some (.cells #[v] 250 (0, 0))
  own : Kd.R (Kd.int .u64) 61 w W0.heap.size (fun _ => True) v ws
  below : Below W0.heap.size W0 w
  base : W0.heap.size ≤ g
structure WStep (g : Nat) (v : Value) (w : World) (v' : Value) (w' : World) : Prop where
  size : w.heap.size ≤ w'.heap.size
  keep : ∀ k, k < w.heap.size → k ≠ g → some k ≠ v.ownBlock → w'.heap[k]? = w.heap[k]?
  own : v'.ownBlock = v.ownBlock ∨ ∃ b, v'.ownBlock = some b ∧ w.heap.size ≤ b
theorem WStep.refl (g : Nat) (v : Value) (w : World) : WStep g v w v w := ⟨Nat.le_refl _, fun _ _ _ _ => rfl, .inl rfl⟩
theorem WStep.trans {g : Nat} {v v1 v2 : Value} {w w1 w2 : World} (h : WStep g v w v1 w1) (h2 : WStep g v1 w1 v2 w2) : WStep g v w v2 w2 where
  size := Nat.le_trans h.size h2.size
  keep := fun k hk hg hv => by
    rw [h2.keep k (Nat.lt_of_lt_of_le hk h.size) hg ?_, h.keep k hk hg hv]
    rcases h.own with e | ⟨b, e, hb⟩
    · rw [e]; exact hv
    · rw [e]; intro e'; have := Option.some.inj e'; omega
  own := by
    rcases h2.own with e | ⟨b, e, hb⟩
    · rw [e]; exact h.own
    · exact .inr ⟨b, e, Nat.le_trans h.size hb⟩
theorem WStep.blk {g k : Nat} {v v' : Value} {w w' : World} {o : Obj} (h : WStep g v w v' w') (hb : w.heap[k]? = some o) (hg : k ≠ g) (hv : some k ≠ v.ownBlock) : w'.heap[k]? = some o := (h.keep k (blk_lt hb) hg hv).trans hb
theorem WStep.of_below {g : Nat} {v : Value} {w w' : World} (h : Below w.heap.size w w') : WStep g v w v w' := ⟨h.size, fun k hk _ _ => h.block k hk, .inl rfl⟩
theorem Wri.below' {W0 w w' : World} {g : Nat} {v : Value} {ws : List Int} (h : Wri W0 w g v ws) (hb : Below w.heap.size w w') : Wri W0 w' g v ws :=
  ⟨blk_below h.blk hb, Kd.R_below h.own hb, below_then h.below hb, h.base⟩
theorem Wri.drew {W0 w : World} {g : Nat} {v : Value} {ws : List Int} (h : Wri W0 w g v ws) : Wri W0 w.drew g v ws := h.below' (below_drew (Below.refl _ _))
theorem Wri.ne {W0 w : World} {g : Nat} {v : Value} {ws : List Int} (h : Wri W0 w g v ws) : some g ≠ v.ownBlock := Kd.R_ne h.own h.blk (by decide)
theorem Wri.neT {W0 w : World} {g k t : Nat} {v : Value} {ws : List Int} {cs : Array Value} (h : Wri W0 w g v ws) (hb : w.heap[k]? = some (.cells cs t (0, 0))) (ht : 61 ≠ t) : some k ≠ v.ownBlock := Kd.R_ne h.own hb ht
theorem Wri.puts {W0 w : World} {g k t : Nat} {v : Value} {ws : List Int} {cs : Array Value} (h : Wri W0 w g v ws) (hk : k ≠ g) (hb : w.heap[k]? = some (.cells cs t (0, 0))) (ht : 61 ≠ t) (hle : W0.heap.size ≤ k) (j : Nat) (vs : List Value) : Wri W0 (putsAt w k j vs) g v ws :=
  ⟨puts_blk_far h.blk (Ne.symm hk) j vs, Kd.R_mono (R_puts (Kd.R_types h.own hb (by intro q hq; simp only [List.mem_cons] at hq; rcases hq with rfl | hq; exact ht; cases hq)) (fun _ hq => hq.2) j vs) (fun _ _ => trivial), puts_below h.below hle j vs, h.base⟩
theorem WStep.puts {g k : Nat} {v v' : Value} {w w' : World} (h : WStep g v w v' w') (hk : w.heap.size ≤ k) (j : Nat) (vs : List Value) : WStep g v w v' (putsAt w' k j vs) :=
  ⟨by rw [puts_size]; exact h.size, fun q hq hg hv => by rw [puts_far (by omega)]; exact h.keep q hq hg hv, h.own⟩
theorem WStep.below {g : Nat} {v v' : Value} {w w' w'' : World} (h : WStep g v w v' w') (hb : Below w'.heap.size w' w'') : WStep g v w v' w'' := h.trans (WStep.of_below hb)
theorem Wri.store {W0 w w1 : World} {g : Nat} {v v1 : Value} {ws ws1 : List Int} (hW : Wri W0 w g v ws) (ho : Kd.R (Kd.int .u64) 61 w1 W0.heap.size (fun _ => True) v1 ws1) (hb : Below W0.heap.size W0 w1) (hg : w.grownBy w1 v.ownBlock)
    (hat : v1.ownBlock = v.ownBlock ∨ ∃ b, v1.ownBlock = some b ∧ w.heap.size ≤ b) : Wri W0 (w1.setCell ⟨g, 0, none⟩ v1) g v1 ws1 ∧ WStep g v w v1 (w1.setCell ⟨g, 0, none⟩ v1) := by
  have BK := blk_grown hW.blk hg hW.ne
  refine ⟨⟨blk_put BK 0 v1 rfl, Kd.R_mono (Kd.R_far (p := ⟨g, 0, none⟩) (Kd.R_types ho BK (by decide)) (fun _ hk => hk.2) v1) (fun _ _ => trivial), hb.setCell hW.base v1, hW.base⟩, ⟨?_, fun k hk hkg hkv => ?_, hat⟩⟩
  · have := hg.size; simpa [World.setCell] using this
  · rw [Below.heap_setCell w1 ⟨g, 0, none⟩ v1 k hkg]; exact hg.block k hk hkv
theorem wzeros {W0 w : World} {g : Nat} {A : Option Addr} {c : Nat} {ws : List Int} (hW : Wri W0 w g (.slice A ws.length c) ws) (n : Nat) (hb : (ws.length + n) * 8 ≤ 140737488355328) :
    Calls Tryz.prog 194 #[.pointer (some ⟨g, 0, none⟩), .int .i64 n] w fun e w' => e = .returned (.int .i64 ws.length) ∧ ∃ A' c', Wri W0 w' g (.slice A' (ws ++ List.replicate n 0).length c') (ws ++ List.replicate n 0) ∧ WStep g (.slice A ws.length c) w (.slice A' (ws ++ List.replicate n 0).length c') w' := by
  have HW := Aside0.mk hW
  have HBY := Aside0.mk hb
  obtain ⟨c0, f0⟩ := box1 hW.blk
  clear hW hb
  go_enter Tryz.func194, Tryz.ntmps194
  go_wp2_with (first
    | ((with_reducible refine gate_builtin (b := .append) (xs := #[.tmp 15, .tmp 16]) rfl ?_); refine wpList_zeros rfl (.tmp 15) (.tmp 16) rfl W0.heap.size (.slice A ws.length c) ws n rfl rfl HW.out.own (fun _ _ => trivial) HBY.out HW.out.below HW.out.below.size ?_; intro v1 w1 ho1 hb1 hg1 hat1; obtain ⟨A1, c1, rfl⟩ := Kd.R_slice ho1; have BK1 := blk_grown HW.out.blk hg1 HW.out.ne; obtain ⟨d0, e0⟩ := box1 BK1; have HO1 := Aside0.mk ho1; have HB1 := Aside0.mk hb1; have HG1 := Aside0.mk hg1; have HAT1 := Aside0.mk hat1; clear ho1 hb1 hg1 hat1))
  have hst := HW.out.store HO1.out HB1.out HG1.out HAT1.out
  have hlen : (ws ++ List.replicate n (0 : Int)).length = ws.length + n := by simp
  rw [hlen] at hst
  go_ret
  rw [hlen]
  exact ⟨rfl, A1, c1, hst.1, hst.2⟩
theorem IsB_pad {bs : List Int} (h : IsB bs) (k : Nat) : IsB (bs ++ List.replicate k 0) := by
  intro x hx
  rcases List.mem_append.1 hx with hx | hx
  · exact h x hx
  · rw [(List.mem_replicate.1 hx).2]; omega
theorem splice_pad {bs : List Int} {m : Nat} (h : bs.length ≤ m) : splice (List.replicate m (Value.int .u8 0)) 0 (bs.map (Value.int .u8)) = (bs ++ List.replicate (m - bs.length) 0).map (Value.int .u8) := by
  simp [splice]
theorem wbytes {W0 w : World} {g : Nat} {A : Option Addr} {c : Nat} {ws : List Int} (hW : Wri W0 w g (.slice A ws.length c) ws) {B : Option Addr} {cb : Nat} {bs : List Int} (hC : Kd.C (Kd.int .u8) w B bs.length bs) (hcb : bs.length ≤ cb) (hIB : IsB bs) (n : Nat) (hn : bs.length ≤ 8 * n) (hb : (ws.length + n) * 8 ≤ 140737488351232) :
    Calls Tryz.prog 195 #[.pointer (some ⟨g, 0, none⟩), .slice B bs.length cb, .int .i64 n] w fun e w' => e = .returned (.tuple #[]) ∧ ∃ A' c', Wri W0 w' g (.slice A' (ws.length + n) c') (ws ++ wordsS (bs ++ List.replicate (8 * n - bs.length) 0)) ∧ WStep g (.slice A ws.length c) w (.slice A' (ws.length + n) c') w' := by
  obtain ⟨PB, hPB⟩ : ∃ PB, PB = bs ++ List.replicate (8 * n - bs.length) 0 := ⟨_, rfl⟩
  have hPl : PB.length = 8 * n := by rw [hPB]; simp; omega
  have hPI : IsB PB := by rw [hPB]; exact IsB_pad hIB _
  obtain ⟨k, hk⟩ := wordWords_yes PB hPI (by omega) (by omega)
  have hWl : (wordsS PB).length = n := by rw [wordsS_length]; omega
  obtain ⟨i0, hi0, hz0, hsz, hby⟩ := info_parts info5
  have hmk := fun w => run_make (P := Tryz.prog) (w := w) 22 5 i0 (.int .u8 0) Tryz.underlying22 hi0 hz0 .i64 .i64 (8 * (n : Int)) (8 * (n : Int)) (by omega) (Int.le_refl _) (by rw [hby]; omega) (by omega)
  have e8 : (8 * (n : Int)).toNat = 8 * n := by omega
  simp only [e8, hsz, Nat.mul_one] at hmk
  obtain ⟨M, hM⟩ : ∃ M, M = madeCells (Value.int .u8 0).cells (8 * n) := ⟨_, rfl⟩
  have hMl : M.toList = List.replicate (8 * n) (Value.int .u8 0) := by rw [hM]; exact toList_madeCells_one _ _
  rw [← hM] at hmk
  have HML := Aside0.mk hMl
  have HSZ := Aside0.mk (show (Tryz.prog.info? 5).map (·.size) = some 1 by rw [hi0]; simp [hsz])
  have HW := Aside0.mk hW
  have HC := Aside0.mk hC
  have HCB := Aside0.mk hcb
  have HN := Aside0.mk hn
  have HBD := Aside0.mk hb
  have HPB := Aside0.mk hPB
  have HPL := Aside0.mk hPl
  have HWL := Aside0.mk hWl
  have HK := Aside0.mk (hk k (Nat.le_refl _))
  have HG := Aside0.mk (blk_new (w := w) (o := .cells M 5 (0, 0)) rfl)
  have HB2 := Aside0.mk (below_alloc (Below.refl w.heap.size w) (.cells M 5 (0, 0)))
  have HC2 := Aside0.mk (Kd.C_alloc hC (.cells M 5 (0, 0)))
  have b1 : 8 * (n : Int) ≤ 9223372036854775807 := by omega
  clear hW hC hcb hn hPB hPl hPI hk hWl hi0 hz0 hsz hby e8 hM hMl hb hIB
  rw [← HPB.out]
  go_enter Tryz.func195, Tryz.ntmps195
  go_upto_region 2 with (first
    | (go_loud (refine wpList_copy_splice rfl (.tmp 12) (.tmp 13) 22 22 rfl 5 Tryz.underlying22 HSZ.out (some ⟨w.heap.size, 0, none⟩) B (8 * n) (8 * n) bs.length cb rfl rfl w.heap.size 0 M.toList 5 (by rw [Array.toArray_toList]; exact HG.out) (bs.map (Value.int .u8)) (by rw [List.length_map]; exact (Nat.min_eq_left HN.out).symm) (fun hp => ⟨rfl, C8_cells HC2.out (by simpa using hp)⟩) (by rw [HML.out]; simpa using HN.out) (fun v hv => (by obtain ⟨x, _, rfl⟩ := List.mem_map.1 hv; rfl)) w.heap.size w HB2.out (Nat.le_refl _) ?_); intro w3 hg3 hb3; have HG3 := Aside0.mk hg3; have HB3 := Aside0.mk hb3; clear hg3 hb3))
  have HCP : Aside0 (Kd.C (Kd.int .u8) w3 (some ⟨w.heap.size, 0, none⟩) PB.length PB) := ⟨by
    have hg := HG3.out
    unfold Hid at hg
    rw [HML.out, splice_pad HN.out, ← HPB.out] at hg
    exact (Kd.R_reads' (own_block8 (B := w.heap.size) hg (Nat.le_refl _) (by rw [HPL.out]; unfold maxLen; have := HBD.out; omega) (fun _ => True) trivial)).2.2⟩
  have HCALL := word_Words.calls k (some ⟨w.heap.size, 0, none⟩) (8 * n) PB (wordsS PB) true w3 HCP.out (by rw [HPL.out]; exact Nat.le_refl _) HK.out
  rw [HPL.out] at HCALL
  have HW3 := Aside0.mk (HW.out.below' HB3.out)
  obtain ⟨c0, f0⟩ := box1 HW3.out.blk
  clear HB2 HC2 hmk
  have HCL := Aside0.mk HCALL
  clear HCALL
  go_wp2_with (first
    | (go_at_call 30; refine HCL.out.mono ?_; rintro e w4 ⟨v4, rfl, ho4, hb4⟩; obtain ⟨A4, c4, rfl⟩ := Kd.R_slice ho4; have HW4 := Aside0.mk (HW3.out.below' hb4); have HB4 := Aside0.mk (below_then HB3.out hb4); have HO4 := Aside0.mk ho4; clear c0 f0 ho4 hb4; obtain ⟨c0, f0⟩ := box1 HW4.out.blk)
    | ((with_reducible refine gate_builtin (b := .append) (xs := #[.tmp 24, .tmp 25]) rfl ?_); at_builtin; refine Kd.R_append_rows (Kd.int .u64) (w0 := W0) W0.heap.size rfl (.tmp 24) (.tmp 25) 27 61 (.int .u64 0) 8 rfl Tryz.underlying27 info61 rfl (by decide) (by omega) (.slice A ws.length c) ws (wordsS PB) A4 (wordsS PB).length c4 (fun _ => True) (fun _ => False) rfl rfl HW4.out.own (Kd.R_reads' HO4.out).2.2 (fun _ _ h => h) (fun _ h => h.elim) (fun _ _ => trivial) HW4.out.below HW4.out.below.size (by rw [HWL.out]; have := HBD.out; omega) ?_; intro v5 w5 ho5 hb5 hg5 hat5; obtain ⟨A5, c5, rfl⟩ := Kd.R_slice ho5; have HO5 := Aside0.mk ho5; have HB5 := Aside0.mk hb5; have HG5 := Aside0.mk hg5; have HAT5 := Aside0.mk hat5; clear c0 f0; obtain ⟨c0, f0⟩ := box1 (blk_grown HW4.out.blk hg5 HW4.out.ne); clear ho5 hb5 hg5 hat5))
  go_end0
  have hst := HW4.out.store HO5.out HB5.out HG5.out HAT5.out
  have e : (ws ++ wordsS PB).length = ws.length + n := by rw [List.length_append, HWL.out]
  rw [e] at hst
  refine ⟨rfl, A5, c5, ?_⟩
  rw [HWL.out]
  exact ⟨hst.1, (WStep.of_below HB4.out).trans hst.2⟩
end Go.Proofs.YthghblmffdfbaaaGreatDoor.Gp
