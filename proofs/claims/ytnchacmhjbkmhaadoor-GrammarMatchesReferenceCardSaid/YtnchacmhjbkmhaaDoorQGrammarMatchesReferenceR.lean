/- The printed functions of the law GrammarMatchesReference hold what their plain specifications say. -/
import Derived.Test.YtnchacmhjbkmhaaDoorPGrammarMatchesReferencex0R
import Derived.Test.YtnchacmhjbkmhaaDoorPGrammarMatchesReferencex1R
import Derived.Test.YtnchacmhjbkmhaaDoorPGrammarMatchesReferencex2R
import Derived.Test.YtnchacmhjbkmhaaDoorPGrammarMatchesReferencex3R
import Derived.Test.YtnchacmhjbkmhaaDoorPGrammarMatchesReferencex4R
import Derived.Test.YtnchacmhjbkmhaaDoorPGrammarMatchesReferencex5R
import Derived.Test.YtnchacmhjbkmhaaDoorPGrammarMatchesReferencex6R
import Derived.Test.YtnchacmhjbkmhaaDoorPGrammarMatchesReferencex7R
import Derived.Test.YtnchacmhjbkmhaaDoorPGrammarMatchesReferencex8R
import Derived.Test.YtnchacmhjbkmhaaDoorPGrammarMatchesReferencex9R
import Derived.Test.YtnchacmhjbkmhaaDoorPGrammarMatchesReferencex10R
import Derived.Test.YtnchacmhjbkmhaaDoorPGrammarMatchesReferencex11R
import Derived.Test.YtnchacmhjbkmhaaDoorPGrammarMatchesReferencex12R
import Derived.Test.YtnchacmhjbkmhaaDoorPGrammarMatchesReferencex13R
import Derived.Test.YtnchacmhjbkmhaaDoorPGrammarMatchesReferencex14R
import Derived.Test.YtnchacmhjbkmhaaDoorM6R
import Derived.Test.YtnchacmhjbkmhaaDoorDec6R
import Derived.Test.YtnchacmhjbkmhaaDoorGrp2R
import Derived.Test.YtnchacmhjbkmhaaDoorSht2R
import Derived.Test.YtnchacmhjbkmhaaDoorCnt2R
import Derived.Test.YtnchacmhjbkmhaaDoorQUnBaseR
import Derived.Test.YtnchacmhjbkmhaaDoorQOfBaseR
namespace Go.Proofs.YtnchacmhjbkmhaaDoor.QGrammarMatchesReference
open Go Go.RowKit Go.Proofs.YtnchacmhjbkmhaaDoor Go.Proofs.YtnchacmhjbkmhaaDoor.M Go.Proofs.YtnchacmhjbkmhaaDoor.PGrammarMatchesReference Go.Proofs.YtnchacmhjbkmhaaDoorW.PrintWords Go.Proofs.YtnchacmhjbkmhaaDoorW.PrintLast Go.Proofs.YtnchacmhjbkmhaaDoorW.PrintMore
open Go.Proofs.YtnchacmhjbkmhaaDoor.QUnBase (bitsOnes_all bitsOnes tagOnes wordMask wordInsert and_tag insert_byte tagExpand_yes tagExpand wordBytes_l1 wordBytes_l0 wordBytes)
open Go.Proofs.YtnchacmhjbkmhaaDoor.QOfBase (tagOf_step or_tag tagOf_l0 tagOf)
open Go.Proofs.YtnchacmhjbkmhaaDoor.PUnBase
open Go.Proofs.YtnchacmhjbkmhaaDoor.POfBase (tagbyte_Of.f tagbyte_Of.calls tagbyte_Of.mono tagbyte_Of.mono_l)
set_option linter.unusedVariables false
set_option linter.unusedSimpArgs false
set_option maxRecDepth 10000
set_option maxHeartbeats 1000000
theorem grpOf {p : List Int} (hB : IsB p) (hp : p.length ≤ 1000000) (h0 : 0 < p.length) : grammar_group.f p = some (Un.grpS p) := by
 unfold grammar_group.f Un.grpF
 rw [if_pos ⟨h0, by omega, hB⟩]
def Gs : List S33 → List Int → Nat → Nat → Prop
 | [], p, _, _ => p = []
 | g :: L, p, a, n => ∃ (tt nn : Nat) (W : List Int), 0 < p.length ∧ 1 ≤ tt ∧ tt ≤ p.length ∧ 1 ≤ nn ∧ nn ≤ 256 ∧ W.length = nn ∧ decS (p.take tt) = (W, false) ∧ decS p = (W ++ (decS (p.drop tt)).1, (decS (p.drop tt)).2) ∧
   (g = ⟨rd p 0, (a : Int), ((a + tt : Nat) : Int), (n : Int), (nn : Int)⟩ ∧ Un.grpS p = (rd p 0, 0, (tt : Int), 0, (nn : Int), true)) ∧ Gs L (p.drop tt) (a + tt) (n + nn)
theorem groups_l0 (p : List Int) (hB : IsB p) (hp : p.length ≤ 1000000) : ∀ m a : Nat, p.length - a ≤ m → a ≤ p.length → ∀ (n : Nat) (acc : List S33), n ≤ 256 * a → acc.length ≤ a →
  ((decS (p.drop a)).2 = true ∧ Ev (fun k => grammar_Groups.l0 k p acc (a : Int) (n : Int)) ([], 10)) ∨
  ((decS (p.drop a)).2 = false ∧ ∃ L, Gs L (p.drop a) a n ∧ Ev (fun k => grammar_Groups.l0 k p acc (a : Int) (n : Int)) (acc ++ L, 0)) := by
 intro m
 induction m with
 | zero =>
  intro a hm ha n acc hn hacc
  have e : p.drop a = [] := List.drop_of_length_le (by omega)
  refine .inr ⟨by rw [e]; rfl, [], by rw [e]; rfl, ?_⟩
  rw [List.append_nil]
  exact Ev.step (f := fun _ => some (acc, 0)) (fun k => by simp only [grammar_Groups.l0]; rw [if_neg (by omega)]) (Ev.now _)
 | succ m ih =>
  intro a hm ha n acc hn hacc
  by_cases hq : a < p.length
  ·have hd : 0 < (p.drop a).length := by rw [List.length_drop]; omega
   have hg := grpOf (hB.drop a) (by rw [List.length_drop]; omega) hd
   rcases Un.grp_case (hB.drop a) hd with ⟨tt, nn, W, e1, e2, e3, e4, e5, e6, e7, e8⟩ | ⟨e1, e2⟩
   ·rw [List.length_drop] at e3
    have st : ∀ k, grammar_Groups.l0 (k + 1) p acc (a : Int) (n : Int) = grammar_Groups.l0 k p (acc ++ [(⟨rd (p.drop a) 0, (a : Int), ((a + tt : Nat) : Int), (n : Int), (nn : Int)⟩ : S33)]) ((a + tt : Nat) : Int) ((n + nn : Nat) : Int) := by
     intro k
     simp only [grammar_Groups.l0]
     rw [if_pos (by omega), if_pos (by omega), if_pos (by omega), Int.toNat_natCast, hg, e1]
     simp only [Option.bind_some, if_true]
     rw [if_pos (by omega), w64 (x := (a : Int) + (tt : Int)) (by omega) (by omega), w64 (x := (n : Int) + (nn : Int)) (by omega) (by omega)]
     rfl
    have hdd : (p.drop a).drop tt = p.drop (a + tt) := by rw [List.drop_drop]
    rcases ih (a + tt) (by omega) (by omega) (n + nn) (acc ++ [⟨rd (p.drop a) 0, (a : Int), ((a + tt : Nat) : Int), (n : Int), (nn : Int)⟩]) (by omega) (by rw [List.length_append, List.length_singleton]; omega) with ⟨f1, f2⟩ | ⟨f1, L, f2, f3⟩
    ·refine .inl ⟨by rw [e8, hdd]; exact f1, Ev.step st f2⟩
    ·refine .inr ⟨by rw [e8, hdd]; exact f1, _ :: L, ⟨tt, nn, W, hd, e2, by rw [List.length_drop]; exact e3, e4, e5, e6, e7, e8, ⟨rfl, e1⟩, by rw [hdd]; exact f2⟩, ?_⟩
     rw [List.append_assoc] at f3
     exact Ev.step st f3
   ·refine .inl ⟨e2, Ev.step (f := fun _ => some ([], 10)) (fun k => ?_) (Ev.now _)⟩
    simp only [grammar_Groups.l0]
    rw [if_pos (by omega), if_pos (by omega), if_pos (by omega), Int.toNat_natCast, hg]
    simp only [Option.bind_some]
    rw [if_neg (by rw [e1]; simp)]
  ·have e : p.drop a = [] := List.drop_of_length_le (by omega)
   refine .inr ⟨by rw [e]; rfl, [], by rw [e]; rfl, ?_⟩
   rw [List.append_nil]
   exact Ev.step (f := fun _ => some (acc, 0)) (fun k => by simp only [grammar_Groups.l0]; rw [if_neg (by omega)]) (Ev.now _)
theorem gramGroups {p : List Int} (hB : IsB p) (hp : p.length ≤ 1000000) :
  ((decS p).2 = true ∧ Ev (fun k => grammar_Groups.f k p) ([], 10)) ∨ ((decS p).2 = false ∧ ∃ L, Gs L p 0 0 ∧ Ev (fun k => grammar_Groups.f k p) (L, 0)) :=
 groups_l0 p hB hp p.length 0 (by omega) (by omega) 0 [] (by omega) (by simp)
theorem Gs_words : ∀ (L : List S33) (p : List Int) (a n : Nat), Gs L p a n → (L.map (fun g => g.f4.toNat)).sum = (decS p).1.length
 | [], p, _, _, h => by obtain rfl : p = [] := h; rfl
 | g :: L, p, a, n, ⟨tt, nn, W, _, _, _, _, _, h1, _, h2, ⟨h3, _⟩, h4⟩ => by
  rw [List.map_cons, List.sum_cons, Gs_words L _ _ _ h4, h2, h3, List.length_append, h1]; rfl
theorem unPrefix {l : List Int} (hB : IsB l) (hl : l.length ≤ 1000000000) (a : Int) (ha : a ≤ 9223372036854775807) : unpack_Prefix.f l a = some (bytesS ((decS l).1.take (max a 0 / 8).toNat), if (max a 0 / 8).toNat < (decS l).1.length then 11 else if (decS l).2 = true then 10 else 0) := Un.prefF_eq hB hl a ha
theorem unBytes {l : List Int} (hB : IsB l) (hl : l.length ≤ 1000000000) (a : Int) (ha : a ≤ 9223372036854775807) : unpack_Bytes.f l a = some (if (max a 0 / 8).toNat < (decS l).1.length then ([], 11) else if (decS l).2 = true then ([], 10) else (bytesS (decS l).1, 0)) := by
 unfold unpack_Bytes.f
 rw [unPrefix hB hl a ha]
 simp only [Option.bind_some]
 by_cases h1 : (max a 0 / 8).toNat < (decS l).1.length
 ·rw [if_pos h1, if_pos h1]; rfl
 ·rw [if_neg h1, if_neg h1]
  by_cases h2 : (decS l).2 = true
  ·rw [if_pos h2, if_pos h2]; rfl
  ·rw [if_neg h2, if_neg h2, List.take_of_length_le (by omega)]; rfl
theorem strOf_inj : ∀ {a b : List Int}, IsB a → IsB b → ((strOfNums a).toList == (strOfNums b).toList) = decide (a = b) := by
 intro a b ha hb
 have key : ∀ (a b : List Int), IsB a → IsB b → (a.map fun n => UInt8.ofNat n.toNat) = (b.map fun n => UInt8.ofNat n.toNat) → a = b := by
  intro a
  induction a with
  | nil => intro b _ _ h; cases b with
   | nil => rfl
   | cons y b => simp at h
  | cons x a ih => intro b ha hb h; cases b with
   | nil => simp at h
   | cons y b =>
    simp only [List.map_cons, List.cons.injEq] at h
    have hx := ha x List.mem_cons_self
    have hy := hb y List.mem_cons_self
    have e := congrArg UInt8.toNat h.1
    rw [UInt8.toNat_ofNat', UInt8.toNat_ofNat', Nat.mod_eq_of_lt (by omega), Nat.mod_eq_of_lt (by omega)] at e
    rw [ih b (fun z hz => ha z (List.mem_cons_of_mem _ hz)) (fun z hz => hb z (List.mem_cons_of_mem _ hz)) h.2, show x = y by omega]
 by_cases h : a = b
 ·subst h; simp
 ·rw [decide_eq_false h]
  refine beq_eq_false_iff_ne.mpr fun e => h (key a b ha hb ?_)
  have e1 : ∀ x : List Int, (strOfNums x).toList = x.map fun n => UInt8.ofNat n.toNat := fun x => by
   rw [show (strOfNums x).toList = (strOfNums x).data.toList by rw [ByteArray.toList_eq]]; rfl
  rw [← e1, ← e1]; exact e
theorem gramAccepts {p ws : List Int} (hB : IsB p) (hp : p.length ≤ 1000000) (hW : IsW ws) (hw : ws.length ≤ 1000000) : Ev (fun k => grammar_Accepts.f k p ws) (decide ((decS p).2 = false ∧ (decS p).1 = ws)) := by
 have e8 : wrap64 (8 * (ws.length : Int)) = 8 * (ws.length : Int) := w64 (by omega) (by omega)
 have hU := unBytes hB (by omega : p.length ≤ 1000000000) (8 * (ws.length : Int)) (by omega)
 have em : (max (8 * (ws.length : Int)) 0 / 8).toNat = ws.length := by omega
 rw [em] at hU
 by_cases h1 : ws.length < (decS p).1.length
 ·rw [if_pos h1] at hU
  rw [decide_eq_false (fun h => by have := congrArg List.length h.2; omega)]
  refine Ev.congr (f := fun _ => some false) (fun k => ?_) (Ev.now _)
  unfold grammar_Accepts.f
  rw [e8, hU, Option.bind_some, if_neg (by decide)]
 ·rw [if_neg h1] at hU
  by_cases h2 : (decS p).2 = true
  ·rw [if_pos h2] at hU
   rw [decide_eq_false (fun h => by rw [h2] at h; exact absurd h.1 (by decide))]
   refine Ev.congr (f := fun _ => some false) (fun k => ?_) (Ev.now _)
   unfold grammar_Accepts.f
   rw [e8, hU, Option.bind_some, if_neg (by decide)]
  ·rw [if_neg h2] at hU
   have h3 : (decS p).2 = false := by simpa using h2
   refine Ev.congr (f := fun k => (word_Bytes.f k ws).bind fun t => some ((strOfNums (bytesS (decS p).1)).toList == (strOfNums t).toList)) (fun k => ?_) (Ev.bind (wordBytes ws (by omega)) ?_)
   ·unfold grammar_Accepts.f
    rw [e8, hU, Option.bind_some, if_pos rfl]
   ·rw [strOf_inj (bytesS_B _) (bytesS_B _)]
    have e : decide (bytesS (decS p).1 = bytesS ws) = decide ((decS p).2 = false ∧ (decS p).1 = ws) := by
     refine decide_eq_decide.mpr ⟨fun h => ⟨h3, ?_⟩, fun h => by rw [h.2]⟩
     have := congrArg wordsS h
     rwa [wordsS_bytesS _ (Un.decS_W' hB), wordsS_bytesS _ hW] at this
    rw [e]
    exact Ev.now _
theorem or_val {n i : Nat} {x : Int} (hn : n < 2 ^ i) (h0 : 0 ≤ x) (h1 : x < 256) (hi : i ≤ 56) : Go.bits .or .u64 (n : Int) (shl .u64 (IntKind.u64.wrap x) (i : Int)) = (n : Int) + x * 2 ^ i := by
 obtain ⟨m, rfl⟩ := Int.eq_ofNat_of_zero_le h0
 have hp : (2 : Nat) ^ i ≤ 2 ^ 56 := Nat.pow_le_pow_right (by decide) hi
 have hm : m * 2 ^ i < 2 ^ 64 := by
  have : m * 2 ^ i ≤ 255 * 2 ^ 56 := Nat.mul_le_mul (by omega) hp
  omega
 rw [wu (by omega) (by omega), shl_nat _ _ (by omega) (by omega), Nat.shiftLeft_eq, Int.toNat_natCast, Nat.mod_eq_of_lt (by omega), bits_or _ _ (by omega) (by omega), Nat.or_comm, Nat.mul_comm, ← Nat.two_pow_add_eq_or_of_lt hn, Nat.mul_comm]
 simp; omega
theorem wordGet_step (b : List Int) (i : Nat) (hb : b.length ≤ 140737488351232) (hi : i < b.length / 8) (j : Nat) (hj : j < 8) (acc : Int) (k : Nat) : word_Get.l0 (k + 1) b (i : Int) acc (j : Int) = word_Get.l0 k b (i : Int) (Go.bits .or .u64 acc (shl .u64 (IntKind.u64.wrap (rd b ((8 * i + j : Nat) : Int))) ((8 * j : Nat) : Int))) ((j + 1 : Nat) : Int) := by
 have e0 : wrap64 (8 * (i : Int)) = 8 * (i : Int) := w64 (by omega) (by omega)
 have e1 : wrap64 (wrap64 (8 * (i : Int)) + (j : Int)) = ((8 * i + j : Nat) : Int) := by rw [e0, w64 (by omega) (by omega)]; omega
 have e2 : IntKind.u64.wrap (wrap64 (8 * (j : Int))) = ((8 * j : Nat) : Int) := by rw [w64 (by omega) (by omega), wu (by omega) (by omega)]; omega
 simp only [word_Get.l0]
 rw [if_pos (by omega), e1, if_pos (by omega), if_pos (by omega), e2, if_pos (by omega), w64 (by omega) (by omega), show (j : Int) + 1 = ((j + 1 : Nat) : Int) by omega]
theorem chunk_rd {b : List Int} {i : Nat} (hi : i < b.length / 8) {j : Nat} (hj : j < 8) : rd (chunk b i) (j : Int) = rd b ((8 * i + j : Nat) : Int) := by
 have hl := chunk_length hi
 rw [rd_lt (by omega), rd_lt (by omega)]
 simp [chunk]
theorem wordGet_l0 (b : List Int) (hB : IsB b) (i : Nat) (hb : b.length ≤ 140737488351232) (hi : i < b.length / 8) : ∀ d j : Nat, j + d = 8 → ∀ acc : Int, acc = val ((chunk b i).take j) → Ev (fun k => word_Get.l0 k b (i : Int) acc (j : Int)) (getS b i, true) := by
 intro d
 induction d with
 | zero =>
  intro j hj acc h
  refine Ev.step (f := fun _ => some (acc, true)) (fun k => ?_) ?_
  ·simp only [word_Get.l0]; rw [if_neg (by omega)]
  ·rw [h, List.take_of_length_le (by rw [chunk_length hi]; omega)]; exact Ev.now _
 | succ d ih =>
  intro j hj acc h
  have hC := chunk_B hB i
  have hl := chunk_length hi
  have hj8 : j < 8 := by omega
  have hjl : j < (chunk b i).length := by omega
  have ht : ((chunk b i).take j).length = j := by rw [List.length_take]; omega
  refine Ev.step (wordGet_step b i hb hi j hj8 acc) (ih (j + 1) (by omega) _ ?_)
  have h56 : 8 * j ≤ 56 := by omega
  rw [take_rd hjl, val_append, ← h, ht, ← chunk_rd hi hj8]
  have hacc0 := val_nonneg _ (hC.take j)
  have hacc1 := val_lt _ (hC.take j)
  have e256 : (256 : Int) ^ j = 2 ^ (8 * j) := by rw [Int.pow_mul]; rfl
  rw [ht, e256, ← h] at hacc1
  rw [← h] at hacc0
  obtain ⟨n, rfl⟩ := Int.eq_ofNat_of_zero_le hacc0
  have hn : n < 2 ^ (8 * j) := by exact_mod_cast hacc1
  have hx := rd_B hC (j : Int)
  rw [or_val hn hx.1 hx.2 h56, e256, Int.mul_comm]
  simp [val]
theorem wordGet_yes (b : List Int) (hB : IsB b) (i : Nat) (hb : b.length ≤ 140737488351232) (hi : i < b.length / 8) : Ev (fun k => word_Get.f k b (i : Int)) (getS b i, true) := by
 refine Ev.congr (f := fun k => word_Get.j0 k b (i : Int) false) (fun k => ?_) (Ev.step (f := fun k => word_Get.l0 k b (i : Int) 0 ((0 : Nat) : Int)) (fun k => ?_) (wordGet_l0 b hB i hb hi 8 0 rfl 0 rfl))
 ·unfold word_Get.f
  rw [if_neg (by omega), w64 (by omega) (by omega), decide_eq_false (by omega)]
 ·simp only [word_Get.j0]; rfl
theorem wordWords_l0 (b : List Int) (hB : IsB b) (hb : b.length ≤ 140737488351232) : ∀ d i : Nat, i + d = b.length / 8 → ∀ acc : List Int, acc = (List.range i).map (getS b) → Ev (fun k => word_Words.l0 k b acc ((b.length / 8 : Nat) : Int) (i : Int)) (wordsS b, true) := by
 intro d
 induction d with
 | zero =>
  intro i hi acc h
  refine Ev.step (f := fun _ => some (acc, true)) (fun k => ?_) ?_
  ·simp only [word_Words.l0]; rw [if_neg (by omega)]
  ·rw [h, show i = b.length / 8 by omega]; exact Ev.now _
 | succ d ih =>
  intro i hi acc h
  have hl : acc.length = i := by rw [h]; simp
  refine Ev.step (f := fun k => (word_Get.f k b (i : Int)).bind fun t => word_Words.l0 k b (acc ++ [t.1]) ((b.length / 8 : Nat) : Int) ((i + 1 : Nat) : Int)) (fun k => ?_) (Ev.bind (wordGet_yes b hB i hb (by omega)) (ih (i + 1) (by omega) _ ?_))
  ·simp only [word_Words.l0]
   rw [if_pos (by omega), w64 (by omega) (by omega), show (i : Int) + 1 = ((i + 1 : Nat) : Int) by omega]
   simp only [if_pos (show acc.length < 17592186044416 by omega)]
  ·rw [h, List.range_succ, List.map_append]; rfl
theorem wordWords_yes (b : List Int) (hB : IsB b) (hb : b.length ≤ 140737488351232) (h8 : b.length % 8 = 0) : Ev (fun k => word_Words.f k b) (wordsS b, true) := by
 refine Ev.congr (fun k => ?_) (wordWords_l0 b hB hb (b.length / 8) 0 (by omega) [] rfl)
 unfold word_Words.f
 rw [if_pos (by omega), w64 (by omega) (by omega), if_pos (by omega), if_pos (by omega)]; rfl
theorem tagBytes_l0 (l : List Int) (hl : l.length = 8) : ∀ d i : Nat, i + d = 8 → ∀ x3 : List Int, x3 = nz (l.take i) → Ev (fun k => tagbyte_Bytes.l0 k x3 l 8 (i : Int)) (nz l) := by
 intro d
 induction d with
 | zero =>
  intro i hi x3 h
  refine Ev.step (f := fun _ => some x3) (fun k => ?_) ?_
  ·simp only [tagbyte_Bytes.l0]; rw [if_neg (by omega)]
  ·rw [h, List.take_of_length_le (by omega)]; exact Ev.now _
 | succ d ih =>
  intro i hi x3 h
  have hx : x3.length ≤ 8 := by rw [h]; have := nz_length_le (l.take i); rw [List.length_take] at this; omega
  have ht : l.take (i + 1) = l.take i ++ [rd l (i : Int)] := take_rd (by omega)
  refine Ev.step (f := fun k => if rd l (i : Int) = 0 then tagbyte_Bytes.l0 k x3 l 8 ((i + 1 : Nat) : Int) else tagbyte_Bytes.l0 k (x3 ++ [rd l (i : Int)]) l 8 ((i + 1 : Nat) : Int)) (fun k => ?_) ?_
  ·simp only [tagbyte_Bytes.l0]
   rw [if_pos (show (i : Int) < 8 by omega), if_pos (show 0 ≤ (i : Int) by omega), if_pos (show (i : Int) < (l.length : Int) by omega), wrap_succ i (by omega)]
   simp only [if_pos (show x3.length < 140737488355328 by omega)]
  ·by_cases h0 : rd l (i : Int) = 0
   ·refine Ev.congr (fun k => if_pos h0) (ih (i + 1) (by omega) _ ?_)
    rw [ht, nz_append, nz_cons, if_pos h0, nz_nil, List.append_nil, h]
   ·refine Ev.congr (fun k => if_neg h0) (ih (i + 1) (by omega) _ ?_)
    rw [ht, nz_append, nz_cons, if_neg h0, nz_nil, h]
theorem tagBytes (w : Int) : Ev (fun k => tagbyte_Bytes.f k w) (nzS w) := by
 unfold tagbyte_Bytes.f
 refine Ev.bind (wordBytes [w] (by simp)) ?_
 have e : bytesS [w] = bs 8 w := by simp [bytesS]
 rw [e, bs_length]
 exact tagBytes_l0 _ (bs_length 8 w) 8 0 rfl [] rfl
theorem tagDense (w : Int) : Ev (fun k => tagbyte_Dense.f k w) (decide (7 ≤ (nzS w).length)) := by
 unfold tagbyte_Dense.f
 refine Ev.bind (tagOf w) ?_
 have h := ofS_range w
 rw [tagOnes h.1 h.2, ones_ofS, Option.bind_some]
 have e : decide (((nzS w).length : Int) ≥ 7) = decide (7 ≤ (nzS w).length) := by simp only [decide_eq_decide]; omega
 rw [e]; exact Ev.now _
theorem packRunZ_l0 (l : List Int) (hl : l.length ≤ 140737488351232) : ∀ d i : Nat, i + d = 255 → i ≤ l.length → Ev (fun k => pack_run_with_pack_Words_1.l0 k l (i : Int)) (((i + runP isZ d (l.drop i) : Nat)) : Int) := by
 intro d
 induction d with
 | zero =>
  intro i hi hil
  refine Ev.step (f := fun _ => some (i : Int)) (fun k => ?_) ?_
  ·simp only [pack_run_with_pack_Words_1.l0]
   by_cases h : (i : Int) < (l.length : Int)
   ·rw [if_pos h, if_neg (by omega)]
   ·rw [if_neg h]
  ·simpa [runP] using Ev.now (i : Int)
 | succ d ih =>
  intro i hi hil
  by_cases h : i < l.length
  ·rw [drop_rd h]
   have hcall : Ev (fun _ => pack_Words_1.f (rd l (i : Int))) (isZ (rd l (i : Int))) := Ev.now _
   refine Ev.step (f := fun k => (pack_Words_1.f (rd l (i : Int))).bind fun t => if t = true then pack_run_with_pack_Words_1.l0 k l ((i + 1 : Nat) : Int) else some (i : Int)) (fun k => ?_) (Ev.bind hcall ?_)
   ·simp only [pack_run_with_pack_Words_1.l0]
    rw [if_pos (show (i : Int) < (l.length : Int) by omega), if_pos (show (i : Int) < 255 by omega), if_pos (show 0 ≤ (i : Int) by omega), wrap_succ i (by omega)]
   ·simp only [runP]
    by_cases hz : isZ (rd l (i : Int)) = true
    ·rw [if_pos hz]
     have := ih (i + 1) (by omega) (by omega)
     rw [show i + 1 + runP isZ d (l.drop (i + 1)) = i + (runP isZ d (l.drop (i + 1)) + 1) by omega] at this
     exact Ev.congr (fun k => if_pos hz) this
    ·rw [if_neg hz]
     exact Ev.congr (fun k => if_neg hz) (Ev.now _)
  ·have e : l.drop i = [] := List.drop_of_length_le (by omega)
   refine Ev.step (f := fun _ => some (i : Int)) (fun k => ?_) ?_
   ·simp only [pack_run_with_pack_Words_1.l0]; rw [if_neg (by omega)]
   ·rw [e]; simpa [runP] using Ev.now (i : Int)
theorem packRunZ (l : List Int) (hl : l.length ≤ 140737488351232) : Ev (fun k => pack_run_with_pack_Words_1.f k l) ((runP isZ 255 l : Nat) : Int) := by
 have := packRunZ_l0 l hl 255 0 (by omega) (by omega)
 rw [List.drop_zero, Nat.zero_add] at this
 exact this
theorem packRunD_l0 (l : List Int) (hl : l.length ≤ 140737488351232) : ∀ d i : Nat, i + d = 255 → i ≤ l.length → Ev (fun k => pack_run_with_tagbyte_Dense.l0 k l (i : Int)) (((i + runP denseS d (l.drop i) : Nat)) : Int) := by
 intro d
 induction d with
 | zero =>
  intro i hi hil
  refine Ev.step (f := fun _ => some (i : Int)) (fun k => ?_) ?_
  ·simp only [pack_run_with_tagbyte_Dense.l0]
   by_cases h : (i : Int) < (l.length : Int)
   ·rw [if_pos h, if_neg (by omega)]
   ·rw [if_neg h]
  ·simpa [runP] using Ev.now (i : Int)
 | succ d ih =>
  intro i hi hil
  by_cases h : i < l.length
  ·rw [drop_rd h]
   have hcall : Ev (fun k => tagbyte_Dense.f k (rd l (i : Int))) (denseS (rd l (i : Int))) := tagDense _
   refine Ev.step (f := fun k => (tagbyte_Dense.f k (rd l (i : Int))).bind fun t => if t = true then pack_run_with_tagbyte_Dense.l0 k l ((i + 1 : Nat) : Int) else some (i : Int)) (fun k => ?_) (Ev.bind hcall ?_)
   ·simp only [pack_run_with_tagbyte_Dense.l0]
    rw [if_pos (show (i : Int) < (l.length : Int) by omega), if_pos (show (i : Int) < 255 by omega), if_pos (show 0 ≤ (i : Int) by omega), wrap_succ i (by omega)]
   ·simp only [runP]
    by_cases hz : denseS (rd l (i : Int)) = true
    ·rw [if_pos hz]
     have := ih (i + 1) (by omega) (by omega)
     rw [show i + 1 + runP denseS d (l.drop (i + 1)) = i + (runP denseS d (l.drop (i + 1)) + 1) by omega] at this
     exact Ev.congr (fun k => if_pos hz) this
    ·rw [if_neg hz]
     exact Ev.congr (fun k => if_neg hz) (Ev.now _)
  ·have e : l.drop i = [] := List.drop_of_length_le (by omega)
   refine Ev.step (f := fun _ => some (i : Int)) (fun k => ?_) ?_
   ·simp only [pack_run_with_tagbyte_Dense.l0]; rw [if_neg (by omega)]
   ·rw [e]; simpa [runP] using Ev.now (i : Int)
theorem packRunD (l : List Int) (hl : l.length ≤ 140737488351232) : Ev (fun k => pack_run_with_tagbyte_Dense.f k l) ((runP denseS 255 l : Nat) : Int) := by
 have := packRunD_l0 l hl 255 0 (by omega) (by omega)
 rw [List.drop_zero, Nat.zero_add] at this
 exact this
theorem packWords_l0 : ∀ (n : Nat) (l out : List Int), l.length ≤ n → IsW l → l.length ≤ 1000000000000 → out.length + 10 * l.length ≤ 100000000000000 → Ev (fun k => pack_Words.l0 k l out) (out ++ packS l) := by
 intro n
 induction n with
 | zero =>
  intro l out h _ _ _
  have : l = [] := List.length_eq_zero_iff.mp (by omega)
  subst this
  refine Ev.step (f := fun _ => some out) (fun k => ?_) ?_
  ·simp only [pack_Words.l0]; rw [if_neg (by simp)]
  ·rw [packS_nil, List.append_nil]; exact Ev.now _
 | succ n ih =>
  intro l out h hW hl ho
  cases l with
  | nil =>
   refine Ev.step (f := fun _ => some out) (fun k => ?_) ?_
   ·simp only [pack_Words.l0]; rw [if_neg (by simp)]
   ·rw [packS_nil, List.append_nil]; exact Ev.now _
  | cons w l =>
   simp only [List.length_cons] at h hl ho
   have hw := hW w List.mem_cons_self
   have hL : IsW l := fun x hx => hW x (List.mem_cons_of_mem _ hx)
   have hz := nzS_length_le w
   have hrd : rd (w :: l) 0 = w := by simp [rd]
   refine Ev.step (fun k => by simp only [pack_Words.l0, hrd, List.drop_succ_cons, List.drop_zero]; rfl) ?_
   refine Ev.congr (fun k => if_pos (by first | (simp; done) | (simp; omega))) (Ev.congr (fun k => if_pos (by first | (simp; done) | (simp; omega))) (Ev.bind (tagOf w) ?_))
   refine Ev.congr (fun k => if_pos (by omega)) ?_
   simp only [Option.bind_some]
   refine Ev.bind (tagBytes w) (Ev.congr (fun k => if_pos (by first | (simp; done) | (simp; omega))) ?_)
   refine Ev.congr (fun k => if_pos (by first | (simp; done) | (simp; omega))) ?_
   rw [packS_cons]
   by_cases h0 : ofS w = 0
   ·rw [if_pos h0]
    have hr := runP_length isZ 255 l
    have hr2 := runP_le isZ 255 l
    refine Ev.congr (fun k => if_pos h0) (Ev.bind (packRunZ l (by omega)) ?_)
    refine Ev.congr (fun k => if_pos (by first | (simp; done) | (simp; omega))) (Ev.congr (fun k => if_pos (by omega)) (Ev.congr (fun k => if_pos (by omega)) ?_))
    rw [Int.toNat_natCast, show ((runP isZ 255 l : Nat) : Int) % 256 = ((runP isZ 255 l : Nat) : Int) by omega]
    have := ih (l.drop (runP isZ 255 l)) (out ++ [ofS w] ++ nzS w ++ [((runP isZ 255 l : Nat) : Int)]) (by rw [List.length_drop]; omega) (hL.drop _) (by rw [List.length_drop]; omega) (by simp only [List.length_append, List.length_cons, List.length_nil, List.length_drop]; omega)
    simpa [List.append_assoc] using this
   ·rw [if_neg h0]
    refine Ev.congr (fun k => if_neg h0) ?_
    by_cases h1 : ofS w = 255
    ·rw [if_pos h1]
     have hr := runP_length denseS 255 l
     have hr2 := runP_le denseS 255 l
     refine Ev.congr (fun k => if_pos h1) (Ev.bind (packRunD l (by omega)) ?_)
     refine Ev.congr (fun k => if_pos (by first | (simp; done) | (simp; omega))) (Ev.congr (fun k => if_pos (by omega)) (Ev.congr (fun k => if_pos (by omega)) ?_))
     rw [Int.toNat_natCast, show ((runP denseS 255 l : Nat) : Int) % 256 = ((runP denseS 255 l : Nat) : Int) by omega]
     have hb := bytesS_length (l.take (runP denseS 255 l))
     rw [List.length_take, Nat.min_eq_left hr] at hb
     refine Ev.bind (wordBytes _ (by rw [List.length_take]; omega)) (Ev.congr (fun k => if_pos (by first | (simp; done) | (simp; omega))) ?_)
     have := ih (l.drop (runP denseS 255 l)) (out ++ [ofS w] ++ nzS w ++ [((runP denseS 255 l : Nat) : Int)] ++ bytesS (l.take (runP denseS 255 l))) (by rw [List.length_drop]; omega) (hL.drop _) (by rw [List.length_drop]; omega) (by simp only [List.length_append, List.length_cons, List.length_nil, List.length_drop, hb]; omega)
     simpa [List.append_assoc] using this
    ·rw [if_neg h1]
     have h7 := ofS_lt8 h1
     refine Ev.congr (fun k => if_neg h1) ?_
     have := ih l (out ++ [ofS w] ++ nzS w) (by omega) hL (by omega) (by simp only [List.length_append, List.length_cons, List.length_nil]; omega)
     simpa [List.append_assoc] using this
theorem packWords (l : List Int) (hW : IsW l) (hl : l.length ≤ 1000000000) : Ev (fun k => pack_Words.f k l) (packS l) := by
 have := packWords_l0 l.length l [] (Nat.le_refl _) hW (by omega) (by first | (simp; done) | (simp; omega))
 rwa [List.nil_append] at this
theorem packBytes_yes (b : List Int) (hB : IsB b) (hb : b.length ≤ 1000000000) (h8 : b.length % 8 = 0) : Ev (fun k => pack_Bytes.f k b) (packS (wordsS b), 0) := by
 unfold pack_Bytes.f
 refine Ev.bind (wordWords_yes b hB (by omega) h8) (Ev.congr (fun k => if_pos (by simp)) (Ev.bind (packWords _ (wordsS_W hB) (by rw [wordsS_length]; omega)) (Ev.now _)))
theorem canon_l0 (p : List Int) (hB : IsB p) (hp : p.length ≤ 400000) (L : List S33) (hL : ∀ g ∈ L, 0 ≤ g.f4) (hn : L.length ≤ 1000000) (hs : (L.map (fun g => g.f4.toNat)).sum = (decS p).1.length) (h2 : (decS p).2 = false) (r : Bool) (hr : r = decide (p = packS (decS p).1)) :
  ∀ d i : Nat, i + d = L.length → ∀ s : Nat, s + ((L.drop i).map (fun g => g.f4.toNat)).sum = (decS p).1.length → Ev (fun k => grammar_Canonical.l0 k p (s : Int) L (L.length : Int) (i : Int)) r := by
 have hlen := Un.decS_len' hB
 intro d
 induction d with
 | zero =>
  intro i hi s hsum
  rw [List.drop_of_length_le (by omega)] at hsum
  simp only [List.map_nil, List.sum_nil, Nat.add_zero] at hsum
  have hU := unBytes hB (by omega : p.length ≤ 1000000000) (8 * (s : Int)) (by omega)
  rw [show (max (8 * (s : Int)) 0 / 8).toNat = s by omega, if_neg (by omega), if_neg (by rw [h2]; decide)] at hU
  have hP := packBytes_yes (bytesS (decS p).1) (bytesS_B _) (by rw [bytesS_length]; omega) (by rw [bytesS_length]; omega)
  rw [wordsS_bytesS _ (Un.decS_W' hB)] at hP
  refine Ev.step (f := fun k => (pack_Bytes.f k (bytesS (decS p).1)).bind fun b => some ((strOfNums p).toList == (strOfNums b.1).toList)) (fun k => ?_) (Ev.bind hP ?_)
  ·simp only [grammar_Canonical.l0]
   rw [if_neg (by omega), w64 (x := 8 * (s : Int)) (by omega) (by omega), hU]; rfl
  ·dsimp only
   rw [strOf_inj hB (packS_isB _), hr]
   exact Ev.now _
 | succ d ih =>
  intro i hi s hsum
  have hlt : i < L.length := by omega
  have hdr : L.drop i = L[i] :: L.drop (i + 1) := List.drop_eq_getElem_cons hlt
  rw [hdr, List.map_cons, List.sum_cons] at hsum
  have hg := hL L[i] (List.getElem_mem hlt)
  have hrd : rd_T33 L (i : Int) = L[i] := by simp [rd_T33, List.getD_eq_getElem?_getD, List.getElem?_eq_getElem hlt]
  refine Ev.step (fun k => ?_) (ih (i + 1) (by omega) (s + L[i].f4.toNat) (by omega))
  simp only [grammar_Canonical.l0]
  rw [if_pos (by omega), if_pos (by omega), if_pos (by omega), hrd, w64 (x := (s : Int) + L[i].f4) (by omega) (by omega), wrap_succ i (by omega), show ((s : Int) + L[i].f4) = ((s + L[i].f4.toNat : Nat) : Int) by omega]
theorem Gs_pos : ∀ (L : List S33) (p : List Int) (a n : Nat), Gs L p a n → (∀ g ∈ L, 0 ≤ g.f4) ∧ L.length ≤ p.length
 | [], p, _, _, h => ⟨fun g hg => by simp at hg, by simp⟩
 | g :: L, p, a, n, ⟨tt, nn, W, h0, h5, h6, _, _, _, _, _, ⟨h3, _⟩, h4⟩ => by
  have ih := Gs_pos L _ _ _ h4
  refine ⟨fun x hx => ?_, ?_⟩
  ·rcases List.mem_cons.mp hx with rfl | hx
   ·rw [h3]; simp only []; omega
   ·exact ih.1 x hx
  ·have := ih.2; rw [List.length_drop] at this; rw [List.length_cons]; omega
theorem gramCanonical {p : List Int} (hB : IsB p) (hp : p.length ≤ 400000) : Ev (fun k => grammar_Canonical.f k p) (decide ((decS p).2 = false ∧ p = packS (decS p).1)) := by
 unfold grammar_Canonical.f
 rcases gramGroups hB (by omega) with ⟨h1, h2⟩ | ⟨h1, L, h2, h3⟩
 ·rw [decide_eq_false (fun h => by rw [h1] at h; exact absurd h.1 (by decide))]
  exact Ev.bind h2 (Ev.congr (fun k => if_neg (by decide)) (Ev.now _))
 ·have hpos := Gs_pos L p 0 0 h2
  have hw := Gs_words L p 0 0 h2
  refine Ev.bind h3 (Ev.congr (fun k => if_pos rfl) (canon_l0 p hB hp L hpos.1 (by omega) hw h1 _ ?_ L.length 0 (by omega) 0 (by rw [List.drop_zero]; omega)))
  simp [h1]
def waysV (ws : List Int) : Int := rd (UnWays.sufF ws ws.length (UnWays.startS ws.length)) 0
theorem gramWays {ws : List Int} (hW : IsW ws) (hw : ws.length ≤ 1000000) : Ev (fun _ => grammar_Ways.f ws) (waysV ws) := by
 refine Ev.congr (fun k => ?_) (Ev.now _)
 unfold grammar_Ways.f UnWays.waysF
 rw [if_pos ⟨by omega, fun x hx => by have := hW x hx; omega⟩]; rfl
def shortV (ws : List Int) : Int := rd (UnShortest.sufF ws ws.length (UnShortest.startS ws.length)) 0
theorem gramShortest {ws : List Int} (hW : IsW ws) (hw : ws.length ≤ 1000000) : Ev (fun _ => grammar_Shortest.f ws) (shortV ws) := by
 refine Ev.congr (fun k => ?_) (Ev.now _)
 unfold grammar_Shortest.f UnShortest.shortestF
 rw [if_pos ⟨by omega, fun x hx => by have := hW x hx; omega⟩]; rfl
theorem awake23 : Ev (fun k => capnplaw23_awake.f k) true := Ev.of (fun k => capnplaw23_awake.mono k) (k := 60) (by kernel_rfl)
theorem onesF_zero (n : Nat) : onesF n 0 = 0 := by
 induction n with
 | zero => rfl
 | succ n ih => simp [onesF, ih]
theorem refOnes_l0 : ∀ d : Nat, ∀ (n t : Int), 0 ≤ t → t < 2 ^ d → 0 ≤ n → n ≤ 1000 - d → t < 256 → Ev (fun k => capnpref20_Ones.l0 k n t) (n + ((onesF d t : Nat) : Int)) := by
 intro d
 induction d with
 | zero =>
  intro n t h0 h1 hn hn1 hd
  have ht : t = 0 := by have : t < 1 := h1; omega
  subst ht
  refine Ev.step (f := fun _ => some n) (fun k => ?_) ?_
  ·simp only [capnpref20_Ones.l0]; rw [if_neg (by omega)]
  ·simpa [onesF] using Ev.now n
 | succ d ih =>
  intro n t h0 h1 hn hn1 hd
  by_cases ht : t = 0
  ·subst ht
   refine Ev.step (f := fun _ => some n) (fun k => ?_) ?_
   ·simp only [capnpref20_Ones.l0]; rw [if_neg (by omega)]
   ·rw [onesF_zero]; simpa using Ev.now n
  ·rw [Int.pow_succ] at h1
   have h2 : t / 2 < 2 ^ d := by omega
   clear h1
   refine Ev.step (f := fun k => capnpref20_Ones.l0 k (n + t % 2) (t / 2)) (fun k => ?_) ?_
   ·clear h2
    simp only [capnpref20_Ones.l0]
    rw [if_pos (by omega), Int.tmod_eq_emod_of_nonneg h0, Int.tdiv_eq_ediv_of_nonneg h0, w64 (by omega) (by omega), w64 (by omega) (by omega)]
   ·have := ih (n + t % 2) (t / 2) (by omega) h2 (by omega) (by omega) (by omega)
    have e : n + t % 2 + ((onesF d (t / 2) : Nat) : Int) = n + ((onesF (d + 1) t : Nat) : Int) := by simp only [onesF]; omega
    rwa [e] at this
theorem refOnes {t : Int} (h0 : 0 ≤ t) (h1 : t < 256) : Ev (fun k => capnpref20_Ones.f k t) ((onesS t : Nat) : Int) := by
 unfold capnpref20_Ones.f
 rw [w64 (by omega) (by omega)]
 have := refOnes_l0 8 0 t h0 h1 (by omega) (by omega) (by omega)
 rwa [Int.zero_add] at this
theorem rd_dropN (p : List Int) (a j : Nat) : rd (p.drop a) (j : Int) = rd p ((a + j : Nat) : Int) := rd_drop p a j
theorem refG_step (p : List Int) (hB : IsB p) (hp : p.length ≤ 1000000) (a n : Nat) (ha : a < p.length) (hn : n ≤ 256 * a) (acc : List S34) (hacc : acc.length ≤ a) (r : List S34 × Bool)
  (h : if (Un.grpS (p.drop a)).2.2.2.2.2 = true then Ev (fun k => capnpref23_Groups.l0 k p (acc ++ [(⟨rd (p.drop a) 0, (a : Int), (a : Int) + (Un.grpS (p.drop a)).2.2.1, (n : Int), (Un.grpS (p.drop a)).2.2.2.2.1⟩ : S34)]) ((a : Int) + (Un.grpS (p.drop a)).2.2.1) ((n : Int) + (Un.grpS (p.drop a)).2.2.2.2.1)) r else r = ([], false)) :
  Ev (fun k => capnpref23_Groups.l0 k p acc (a : Int) (n : Int)) r := by
 have hl : (p.drop a).length = p.length - a := List.length_drop
 have R0 := Aside0.mk (show rd (p.drop a) 0 = rd p (a : Int) from rd_dropN p a 0)
 have R1 := Aside0.mk (show rd (p.drop a) 1 = rd p ((a + 1 : Nat) : Int) from rd_dropN p a 1)
 have R9 := Aside0.mk (show rd (p.drop a) 9 = rd p ((a + 9 : Nat) : Int) from rd_dropN p a 9)
 have HTB := Aside0.mk (hB _ (Un.rd_mem_at ha))
 have c0 : (a : Int) < (p.length : Int) := by omega
 have c1 : 0 ≤ (a : Int) := by omega
 have wa : wrap64 ((a : Int) + 1) = ((a + 1 : Nat) : Int) := wrap_succ a (by omega)
 have hO := refOnes HTB.out.1 HTB.out.2
 have cacc : acc.length < 3518437208883 := by omega
 refine Ev.step (f := fun k => (capnpref20_Ones.f k (rd p (a : Int))).bind fun t => (if (rd p (a : Int)) = 0 then (capnpref23_Groups.j1 k p acc (wrap64 (((a + 1 : Nat) : Int) + t)) (n : Int) true (rd p (a : Int)) (a : Int) 0 (n : Int) 1) else (capnpref23_Groups.j1 k p acc (wrap64 (((a + 1 : Nat) : Int) + t)) (n : Int) ((rd p (a : Int)) == 255) (rd p (a : Int)) (a : Int) 0 (n : Int) 1))) (fun k => by simp only [capnpref23_Groups.l0]; rw [if_pos c0, if_pos c1, wa]) (Ev.bind hO ?_)
 have z0 : wrap64 (((a + 1 : Nat) : Int) + ((0 : Nat) : Int)) = ((a + 1 : Nat) : Int) := by rw [w64 (by omega) (by omega)]; omega
 have z8 : wrap64 (((a + 1 : Nat) : Int) + ((8 : Nat) : Int)) = ((a + 9 : Nat) : Int) := by rw [w64 (by omega) (by omega)]; omega
 have Z0 := Aside0.mk z0
 have Z8 := Aside0.mk z8
 have WA := Aside0.mk wa
 have zo : ∀ on : Nat, on ≤ 8 → wrap64 (((a + 1 : Nat) : Int) + (on : Int)) = (a : Int) + (1 + (on : Int)) := fun on ho => by rw [w64 (by omega) (by omega)]; omega
 clear z0 z8 wa
 unfold Un.grpS at h
 rw [R0.out, hl] at h
 clear hl
 by_cases t0 : rd p (a : Int) = 0
 ·refine Ev.congr (fun k => if_pos t0) ?_
  rw [if_pos t0] at h
  have o0 : onesS (rd p (a : Int)) = 0 := by rw [t0]; decide
  have T0 := Aside0.mk t0
  clear t0
  rw [o0, Z0.out]
  clear o0
  by_cases hs : p.length - a < 2
  ·rw [if_pos hs, if_neg (by decide)] at h
   subst h
   refine Ev.step (f := fun _ => some ([], false)) (fun k => ?_) (Ev.now _)
   simp only [capnpref23_Groups.j1]
   rw [if_pos trivial, if_pos (by omega)]
  ·rw [if_neg hs, if_pos (by rfl)] at h
   have cm := hB _ (Un.rd_mem_at (l := p) (i := a + 1) (by omega))
   have d1 : ¬ ((a + 1 : Nat) : Int) ≥ (p.length : Int) := by omega
   have d2 : 0 ≤ ((a + 1 : Nat) : Int) := by omega
   have d3 : ((a + 1 : Nat) : Int) < (p.length : Int) := by omega
   have d4 : ¬ ((a + 2 : Nat) : Int) > (p.length : Int) := by omega
   have e0 : ¬ (rd p (a : Int)) = 255 := by rw [T0.out]; decide
   have E0 := Aside0.mk e0
   clear e0
   obtain ⟨c, hc⟩ : ∃ c, c = rd p ((a + 1 : Nat) : Int) := ⟨_, rfl⟩
   have hcn : n ≤ 256 * 1000000 := by omega
   simp only [R1.out] at h
   rw [← hc] at cm h
   have HC := Aside0.mk hc
   clear hc
   have w1 : wrap64 c = c := w64 (by omega) (by omega)
   have w2 : wrap64 (1 + c) = 1 + c := w64 (by omega) (by omega)
   have w3 : wrap64 ((n : Int) + (1 + c)) = (n : Int) + (1 + c) := w64 (by omega) (by omega)
   have w4 : wrap64 (((a + 1 : Nat) : Int) + 1) = ((a + 2 : Nat) : Int) := wrap_succ (a + 1) (by omega)
   refine Ev.step (fun k => ?_) h
   simp only [capnpref23_Groups.j1]
   rw [if_pos trivial, if_neg d1, if_pos d2, if_pos d3, if_neg E0.out, ← HC.out, w1, w2, w3, w4, if_neg d4, if_pos cacc]
   rfl
 ·refine Ev.congr (fun k => if_neg t0) ?_
  rw [if_neg t0] at h
  by_cases t1 : rd p (a : Int) = 255
  ·rw [if_pos t1] at h
   have o8 : onesS (rd p (a : Int)) = 8 := by rw [t1]; decide
   have T1 := Aside0.mk t1
   rw [o8, Z8.out, show (rd p (a : Int) == 255) = true from beq_iff_eq.mpr t1]
   clear o8 t1 t0
   by_cases hs : p.length - a < 10
   ·rw [if_pos hs, if_neg (by decide)] at h
    subst h
    refine Ev.step (f := fun _ => some ([], false)) (fun k => ?_) (Ev.now _)
    simp only [capnpref23_Groups.j1]
    rw [if_pos trivial, if_pos (by omega)]
   ·rw [if_neg hs] at h
    have cm := hB _ (Un.rd_mem_at (l := p) (i := a + 9) (by omega))
    have d1 : ¬ ((a + 9 : Nat) : Int) ≥ (p.length : Int) := by omega
    have d2 : 0 ≤ ((a + 9 : Nat) : Int) := by omega
    have d3 : ((a + 9 : Nat) : Int) < (p.length : Int) := by omega
    obtain ⟨c, hc⟩ : ∃ c, c = rd p ((a + 9 : Nat) : Int) := ⟨_, rfl⟩
    have hcn : n ≤ 256 * 1000000 := by omega
    simp only [R9.out] at h
    rw [← hc] at cm h
    have HC := Aside0.mk hc
    clear hc
    have w1 : wrap64 c = c := w64 (by omega) (by omega)
    have w2 : wrap64 (1 + c) = 1 + c := w64 (by omega) (by omega)
    have w3 : wrap64 ((n : Int) + (1 + c)) = (n : Int) + (1 + c) := w64 (by omega) (by omega)
    have w4 : wrap64 (((a + 9 : Nat) : Int) + 1) = ((a + 10 : Nat) : Int) := wrap_succ (a + 9) (by omega)
    have w5 : wrap64 (1 + c - 1) = 1 + c - 1 := w64 (by omega) (by omega)
    have w6 : wrap64 (8 * (1 + c - 1)) = 8 * (1 + c - 1) := w64 (by omega) (by omega)
    have w7 : wrap64 (((a + 10 : Nat) : Int) + 8 * (1 + c - 1)) = (a : Int) + (10 + 8 * (1 + c - 1)) := by rw [w64 (by omega) (by omega)]; omega
    by_cases hq : 10 + 8 * (1 + c - 1) ≤ ((p.length - a : Nat) : Int)
    ·have d4 : ¬ (a : Int) + (10 + 8 * (1 + c - 1)) > (p.length : Int) := by omega
     rw [decide_eq_true hq, if_pos (by rfl)] at h
     refine Ev.step (fun k => ?_) h
     simp only [capnpref23_Groups.j1]
     rw [if_pos trivial, if_neg d1, if_pos d2, if_pos d3, if_pos T1.out, ← HC.out, w1, w2, w3, w4, w5, w6, w7, if_neg d4, if_pos cacc]
    ·have d4 : (a : Int) + (10 + 8 * (1 + c - 1)) > (p.length : Int) := by omega
     rw [decide_eq_false hq, if_neg (by simp)] at h
     subst h
     refine Ev.step (f := fun _ => some ([], false)) (fun k => ?_) (Ev.now _)
     simp only [capnpref23_Groups.j1]
     rw [if_pos trivial, if_neg d1, if_pos d2, if_pos d3, if_pos T1.out, ← HC.out, w1, w2, w4, w5, w6, w7, if_pos d4]
  ·rw [if_neg t1] at h
   have o8 := onesS_le (rd p (a : Int))
   obtain ⟨on, hon⟩ : ∃ on, on = onesS (rd p (a : Int)) := ⟨_, rfl⟩
   rw [← hon] at h o8
   rw [← hon, zo on o8, show (rd p (a : Int) == 255) = false from beq_eq_false_iff_ne.mpr t1]
   clear hon t0 t1
   by_cases hs : 1 + on ≤ p.length - a
   ·rw [if_pos hs, if_pos (by rfl)] at h
    have d4 : ¬ (a : Int) + (1 + (on : Int)) > (p.length : Int) := by omega
    have w3 : wrap64 ((n : Int) + 1) = (n : Int) + 1 := w64 (by omega) (by omega)
    refine Ev.step (fun k => ?_) h
    simp only [capnpref23_Groups.j1]
    rw [if_neg (by decide), if_neg d4, if_pos cacc, w3]
   ·rw [if_neg hs, if_neg (by decide)] at h
    have d4 : (a : Int) + (1 + (on : Int)) > (p.length : Int) := by omega
    subst h
    refine Ev.step (f := fun _ => some ([], false)) (fun k => ?_) (Ev.now _)
    simp only [capnpref23_Groups.j1]
    rw [if_neg (by decide), if_pos d4]
def cv34 (g : S33) : S34 := ⟨g.f0, g.f1, g.f2, g.f3, g.f4⟩
theorem refG_l0 (p : List Int) (hB : IsB p) (hp : p.length ≤ 1000000) : ∀ (L : List S33) (a n : Nat), a ≤ p.length → Gs L (p.drop a) a n → n ≤ 256 * a → ∀ acc : List S34, acc.length ≤ a → Ev (fun k => capnpref23_Groups.l0 k p acc (a : Int) (n : Int)) (acc ++ L.map cv34, true)
 | [], a, n, ha, hG, hn, acc, hacc => by
  have e : p.drop a = [] := hG
  have e1 := congrArg List.length e
  rw [List.length_drop, List.length_nil] at e1
  rw [List.map_nil, List.append_nil]
  exact Ev.step (f := fun _ => some (acc, true)) (fun k => by simp only [capnpref23_Groups.l0]; rw [if_neg (by omega)]) (Ev.now _)
 | g :: L, a, n, ha, ⟨tt, nn, W, h0, h1, h2, h3, h4, h5, h6, h7, h8, h9⟩, hn, acc, hacc => by
  have hd := h0
  rw [List.length_drop] at h0 h2
  refine refG_step p hB hp a n (by omega) hn acc hacc _ ?_
  obtain ⟨h8, e1⟩ := h8
  rw [e1, if_pos rfl]
  simp only []
  have w1 : (a : Int) + (tt : Int) = ((a + tt : Nat) : Int) := by omega
  have w2 : (n : Int) + (nn : Int) = ((n + nn : Nat) : Int) := by omega
  have ih := refG_l0 p hB hp L (a + tt) (n + nn) (by omega) (by rw [← List.drop_drop]; exact h9) (by omega) (acc ++ [cv34 g]) (by rw [List.length_append, List.length_singleton]; omega)
  rw [List.append_assoc, h8] at ih
  rw [w1, w2, h8]
  exact ih
theorem refG_cut (p : List Int) (hB : IsB p) (hp : p.length ≤ 1000000) : ∀ m a : Nat, p.length - a ≤ m → a ≤ p.length → (decS (p.drop a)).2 = true → ∀ (n : Nat) (acc : List S34), n ≤ 256 * a → acc.length ≤ a → Ev (fun k => capnpref23_Groups.l0 k p acc (a : Int) (n : Int)) ([], false) := by
 intro m
 induction m with
 | zero =>
  intro a hm ha hd
  rw [List.drop_of_length_le (by omega), decS_nil] at hd
  exact absurd hd (by decide)
 | succ m ih =>
  intro a hm ha hd n acc hn hacc
  by_cases hq : a < p.length
  ·have hd0 : 0 < (p.drop a).length := by rw [List.length_drop]; omega
   refine refG_step p hB hp a n hq hn acc hacc _ ?_
   rcases Un.grp_case (hB.drop a) hd0 with ⟨tt, nn, W, e1, e2, e3, e4, e5, e6, e7, e8⟩ | ⟨e1, e2⟩
   ·rw [List.length_drop] at e3
    rw [e1, if_pos rfl]
    simp only []
    have w1 : (a : Int) + (tt : Int) = ((a + tt : Nat) : Int) := by omega
    have w2 : (n : Int) + (nn : Int) = ((n + nn : Nat) : Int) := by omega
    rw [e8, List.drop_drop] at hd
    rw [w1, w2]
    exact ih (a + tt) (by omega) (by omega) hd (n + nn) _ (by omega) (by rw [List.length_append, List.length_singleton]; omega)
   ·rw [e1, if_neg (by decide)]
  ·rw [List.drop_of_length_le (by omega), decS_nil] at hd
   exact absurd hd (by decide)
theorem bothGroups {p : List Int} (hB : IsB p) (hp : p.length ≤ 1000000) :
  ((decS p).2 = true ∧ Ev (fun k => grammar_Groups.f k p) ([], 10) ∧ Ev (fun k => capnpref23_Groups.f k p) ([], false)) ∨
  ((decS p).2 = false ∧ ∃ L, Gs L p 0 0 ∧ Ev (fun k => grammar_Groups.f k p) (L, 0) ∧ Ev (fun k => capnpref23_Groups.f k p) (L.map cv34, true)) := by
 rcases gramGroups hB hp with ⟨h1, h2⟩ | ⟨h1, L, h2, h3⟩
 ·exact .inl ⟨h1, h2, refG_cut p hB hp p.length 0 (by omega) (by omega) h1 0 [] (by omega) (by simp)⟩
 ·exact .inr ⟨h1, L, h2, h3, refG_l0 p hB hp L 0 0 (by omega) h2 (by omega) [] (by simp)⟩
theorem refEqual_l0 (a b : List Int) (hl : a.length = b.length) (ha : a.length ≤ 140737488355328) : ∀ d i : Nat, i + d = a.length → Ev (fun k => capnpref23_Equal.l0 k a b (i : Int)) (decide (a.drop i = b.drop i)) := by
 intro d
 induction d with
 | zero =>
  intro i hi
  rw [List.drop_of_length_le (by omega), List.drop_of_length_le (by omega), decide_eq_true rfl]
  exact Ev.step (f := fun _ => some true) (fun k => by simp only [capnpref23_Equal.l0]; rw [if_neg (by omega)]) (Ev.now _)
 | succ d ih =>
  intro i hi
  have h1 : i < a.length := by omega
  have h2 : i < b.length := by omega
  have ra : rd a (i : Int) = a[i] := by simp [rd, List.getD_eq_getElem?_getD, List.getElem?_eq_getElem h1]
  have rb : rd b (i : Int) = b[i] := by simp [rd, List.getD_eq_getElem?_getD, List.getElem?_eq_getElem h2]
  by_cases h : a[i] = b[i]
  ·have e : decide (a.drop i = b.drop i) = decide (a.drop (i + 1) = b.drop (i + 1)) := by
    rw [List.drop_eq_getElem_cons h1, List.drop_eq_getElem_cons h2, h]; exact decide_eq_decide.mpr ⟨fun q => (List.cons.inj q).2, fun q => by rw [q]⟩
   rw [e]
   refine Ev.step (fun k => ?_) (ih (i + 1) (by omega))
   simp only [capnpref23_Equal.l0]
   rw [if_pos (by omega), if_pos (by omega), if_pos (by omega), ra, rb, if_pos h, wrap_succ i (by omega)]
  ·have e : decide (a.drop i = b.drop i) = false := by
    rw [List.drop_eq_getElem_cons h1, List.drop_eq_getElem_cons h2]
    exact decide_eq_false (fun q => h (List.cons.inj q).1)
   rw [e]
   refine Ev.step (f := fun _ => some false) (fun k => ?_) (Ev.now _)
   simp only [capnpref23_Equal.l0]
   rw [if_pos (by omega), if_pos (by omega), if_pos (by omega), ra, rb, if_neg h]
theorem refEqual (a b : List Int) (ha : a.length ≤ 140737488355328) : Ev (fun k => capnpref23_Equal.f k a b) (decide (a = b)) := by
 unfold capnpref23_Equal.f
 by_cases hl : a.length = b.length
 ·exact Ev.congr (fun k => if_pos (by omega)) (refEqual_l0 a b hl ha a.length 0 (by omega))
 ·rw [decide_eq_false (fun h => hl (by rw [h]))]
  exact Ev.congr (fun k => if_neg (by omega)) (Ev.now _)
theorem refGet_step (b : List Int) (i : Nat) (hb : b.length ≤ 140737488351232) (hi : i < b.length / 8) (j : Nat) (hj : j < 8) (acc : Int) (ha0 : 0 ≤ acc) (ha1 : acc < 72057594037927936) (hx : 0 ≤ rd b ((8 * i + j : Nat) : Int) ∧ rd b ((8 * i + j : Nat) : Int) < 256) (k : Nat) : capnpref01_Get.l0 (k + 1) b (i : Int) acc (((j + 1 : Nat) : Int) - 1) = capnpref01_Get.l0 k b (i : Int) (rd b ((8 * i + j : Nat) : Int) + 256 * acc) ((j : Int) - 1) := by
 have e0 : wrap64 (8 * (i : Int)) = 8 * (i : Int) := w64 (by omega) (by omega)
 have e1 : wrap64 (wrap64 (8 * (i : Int)) + (((j + 1 : Nat) : Int) - 1)) = ((8 * i + j : Nat) : Int) := by rw [e0, w64 (by omega) (by omega)]; omega
 simp only [capnpref01_Get.l0]
 rw [if_pos (by omega), e1, if_pos (by omega), if_pos (by omega), wu (x := acc * 256) (by omega) (by omega), wu (x := rd b _) (by omega) (by omega), wu (by omega) (by omega), w64 (by omega) (by omega), Int.mul_comm acc, Int.add_comm (256 * acc), show ((j + 1 : Nat) : Int) - 1 - 1 = (j : Int) - 1 by omega]
theorem chunk_rd' {b : List Int} {i : Nat} (hi : i < b.length / 8) {j : Nat} (hj : j < 8) : rd (chunk b i) (j : Int) = rd b ((8 * i + j : Nat) : Int) := by
 have hl := chunk_length hi
 rw [rd_lt (by omega), rd_lt (by omega)]
 simp [chunk]
theorem pow256_le {n : Nat} (h : n ≤ 7) : (256 : Int) ^ n ≤ 72057594037927936 := by
 have h1 : (256 : Nat) ^ n ≤ 256 ^ 7 := Nat.pow_le_pow_right (by decide) h
 have h2 : ((256 ^ n : Nat) : Int) ≤ ((256 ^ 7 : Nat) : Int) := Int.ofNat_le.mpr h1
 rw [Int.natCast_pow] at h2
 exact h2
theorem refGet_l0 (b : List Int) (hB : IsB b) (i : Nat) (hb : b.length ≤ 140737488351232) (hi : i < b.length / 8) : ∀ j : Nat, j ≤ 8 → ∀ acc : Int, acc = val ((chunk b i).drop j) → Ev (fun k => capnpref01_Get.l0 k b (i : Int) acc ((j : Int) - 1)) (getS b i, true) := by
 intro j
 induction j with
 | zero =>
  intro hj acc h
  refine Ev.step (f := fun _ => some (acc, true)) (fun k => ?_) ?_
  ·simp only [capnpref01_Get.l0]; rw [if_neg (by omega)]
  ·rw [h]; exact Ev.now _
 | succ j ih =>
  intro hj acc h
  have hC := chunk_B hB i
  have hl := chunk_length hi
  have hj8 : j < 8 := by omega
  have hjl : j < (chunk b i).length := by omega
  have hd : ((chunk b i).drop (j + 1)).length ≤ 7 := by rw [List.length_drop]; omega
  have hacc0 := val_nonneg _ (hC.drop (j + 1))
  have hacc1 := val_lt _ (hC.drop (j + 1))
  rw [← h] at hacc0 hacc1
  have hacc2 := Int.lt_of_lt_of_le hacc1 (pow256_le hd)
  clear hacc1
  refine Ev.step (refGet_step b i hb hi j hj8 acc hacc0 hacc2 (rd_B hB _)) (ih (by omega) _ ?_)
  rw [drop_rd hjl, chunk_rd' hi hj8, h]; rfl
theorem refGet_yes (b : List Int) (hB : IsB b) (i : Nat) (hb : b.length ≤ 140737488351232) (hi : i < b.length / 8) : Ev (fun k => capnpref01_Get.f k b (i : Int)) (getS b i, true) := by
 refine Ev.congr (f := fun k => capnpref01_Get.j0 k b (i : Int) false) (fun k => ?_) (Ev.step (f := fun k => capnpref01_Get.l0 k b (i : Int) 0 (((8 : Nat) : Int) - 1)) (fun k => ?_) (refGet_l0 b hB i hb hi 8 (by omega) 0 ?_))
 ·unfold capnpref01_Get.f
  rw [if_neg (by omega), w64 (x := (b.length : Int) / 8) (by omega) (by omega), w64 (by omega) (by omega), decide_eq_false (by omega)]
 ·simp only [capnpref01_Get.j0]; rfl
 ·rw [List.drop_of_length_le (by rw [chunk_length hi]; omega)]; rfl
theorem refGet_no (b : List Int) (i : Int) (hb : b.length ≤ 140737488351232) (hi : i < 0 ∨ (b.length : Int) / 8 ≤ i) : Ev (fun k => capnpref01_Get.f k b i) (0, false) := by
 refine Ev.congr (f := fun k => capnpref01_Get.j0 k b i true) (fun k => ?_) (Ev.step (f := fun _ => some (0, false)) (fun k => ?_) (Ev.now _))
 ·unfold capnpref01_Get.f
  by_cases h : i < 0
  ·rw [if_pos h]
  ·rw [if_neg h, w64 (x := (b.length : Int) / 8) (by omega) (by omega), w64 (by omega) (by omega), decide_eq_true (by omega)]
 ·simp only [capnpref01_Get.j0]; rfl
theorem refExpand_yes (b : List Int) (hB : IsB b) (hb : b.length ≤ 140737488355328) (x7 : Int) (T : Int) (hT0 : 0 ≤ T) (hT1 : T < 256) (hn : onesS T ≤ b.length) : ∀ d i : Nat, i + d = 8 → ∀ (x8 : List Int) (t kk : Int), x8 = expF i T b → t = T / 2 ^ i → kk = ((onesF i T : Nat) : Int) → Ev (fun k => capnpref20_Expand.l0 k b x7 x8 t kk (i : Int)) (expS T b, x7, true) := by
 intro d
 induction d with
 | zero =>
  intro i hi x8 t kk h8 ht hk
  obtain rfl : i = 8 := by omega
  have hE := expF_B 8 T b hB
  have hl := expF_length 8 T b
  refine Ev.step (f := fun k => (capnpref01_Get.f k x8 ((0 : Nat) : Int)).bind fun q => some (q.1, x7, true)) (fun k => ?_) (Ev.bind (refGet_yes x8 (by rw [h8]; exact hE) 0 (by rw [h8, hl]; omega) (by rw [h8, hl]; omega)) ?_)
  ·simp only [capnpref20_Expand.l0]; rw [if_neg (by omega)]; rfl
  ·have e : getS x8 0 = expS T b := by rw [getS, chunk_zero, h8, List.take_of_length_le (by omega)]; rfl
   rw [e]; exact Ev.now _
 | succ d ih =>
  intro i hi x8 t kk h8 ht hk
  have hi8 : i < 8 := by omega
  have hs := expF_snoc i T b
  have ho := onesF_snoc i T
  have hl : x8.length = i := by rw [h8, expF_length]
  have hp : (0 : Int) < 2 ^ i := Int.pow_pos (by decide)
  have ht0 : 0 ≤ t := by rw [ht]; exact Int.ediv_nonneg hT0 (Int.le_of_lt hp)
  have ht1 : t ≤ T := by rw [ht]; exact Int.ediv_le_self _ hT0
  have ht2 : t / 2 = T / 2 ^ (i + 1) := by rw [ht, Int.ediv_ediv_of_nonneg (Int.le_of_lt hp), Int.pow_succ]
  rw [← ht] at hs ho
  have hmono : onesF (i + 1) T ≤ onesS T := by
   have m : ∀ j : Nat, onesF (i + 1) T ≤ onesF (i + 1 + j) T := by
    intro j
    induction j with
    | zero => exact Nat.le_refl _
    | succ j ihj => have := onesF_snoc (i + 1 + j) T; rw [← Nat.add_assoc]; omega
   have := m (7 - i)
   rwa [show i + 1 + (7 - i) = 8 by omega] at this
  have hs0 : ∀ k, capnpref20_Expand.l0 (k + 1) b x7 x8 t kk (i : Int) = if t % 2 = 1 then (if 0 ≤ kk then (if kk < (b.length : Int) then capnpref20_Expand.l0 k b x7 (x8 ++ [rd b kk]) (t / 2) (wrap64 (kk + 1)) ((i + 1 : Nat) : Int) else none) else none) else capnpref20_Expand.l0 k b x7 (x8 ++ [0]) (t / 2) kk ((i + 1 : Nat) : Int) := by
   clear ih hs ho hmono ht ht2 hp
   intro k
   simp only [capnpref20_Expand.l0]
   rw [if_pos (show (i : Int) < 8 by omega), Int.tmod_eq_emod_of_nonneg ht0, Int.tdiv_eq_ediv_of_nonneg ht0, w64 (x := t / 2) (by omega) (by omega), wrap_succ i (by omega)]
   simp only [if_pos (show x8.length < 140737488355328 by omega)]
  by_cases h1 : t % 2 = 1
  ·rw [if_pos h1] at hs
   rw [h1] at ho
   have hkk : onesF i T < b.length := by simp at ho; omega
   refine Ev.step (f := fun k => capnpref20_Expand.l0 k b x7 (x8 ++ [rd b kk]) (t / 2) (wrap64 (kk + 1)) ((i + 1 : Nat) : Int)) (fun k => ?_) (ih (i + 1) (by omega) _ _ _ ?_ ht2 ?_)
   ·rw [hs0, if_pos h1, if_pos (by omega), if_pos (by omega)]
   ·rw [hs, h8, hk]
   ·rw [hk, ho, w64 (by omega) (by omega)]; simp
  ·rw [if_neg h1] at hs
   rw [show t % 2 = 0 by omega] at ho
   refine Ev.step (f := fun k => capnpref20_Expand.l0 k b x7 (x8 ++ [0]) (t / 2) kk ((i + 1 : Nat) : Int)) (fun k => ?_) (ih (i + 1) (by omega) _ _ _ ?_ ht2 ?_)
   ·rw [hs0, if_neg h1]
   ·rw [hs, h8]
   ·rw [hk, ho]; simp
theorem refExpand (t : Int) (b : List Int) (h0 : 0 ≤ t) (h1 : t < 256) (hB : IsB b) (hb : b.length ≤ 140737488355328) : Ev (fun k => capnpref20_Expand.f k t b) (if onesS t ≤ b.length then (expS t b, ((onesS t : Nat) : Int), true) else (0, 0, false)) := by
 unfold capnpref20_Expand.f
 refine Ev.bind (refOnes h0 h1) ?_
 rw [w64 (by omega) (by omega)]
 by_cases h : onesS t ≤ b.length
 ·rw [if_pos h]
  exact Ev.congr (fun k => if_neg (by omega)) (refExpand_yes b hB hb _ t h0 h1 h 8 0 rfl [] t 0 rfl (by simp) rfl)
 ·rw [if_neg h]
  exact Ev.congr (fun k => if_pos (by omega)) (Ev.now _)
theorem dec_l1 (p acc0 : List Int) (i c : Nat) (hi : i < p.length) (hp : p.length ≤ 1000000) (hc : rd p (i : Int) = (c : Int)) (hc2 : c < 256) (r : List Int × Bool) : ∀ d j : Nat, j + d = c + 1 → ∀ acc : List Int, acc.length + d < 17592186044416 → Ev (fun k => capnpref22_Decodable.l0 k p (acc ++ List.replicate d 0) ((i + 1 : Nat) : Int)) r → Ev (fun k => capnpref22_Decodable.l1 k p acc (i : Int) (j : Int)) r := by
 intro d
 induction d with
 | zero =>
  intro j hj acc ha h
  rw [List.replicate_zero, List.append_nil] at h
  refine Ev.step (fun k => ?_) h
  simp only [capnpref22_Decodable.l1]
  rw [if_pos (by omega), if_pos (by omega), hc, w64 (x := (c : Int)) (by omega) (by omega), if_neg (by omega), wrap_succ i (by omega)]
 | succ d ih =>
  intro j hj acc ha h
  refine Ev.step (fun k => ?_) (ih (j + 1) (by omega) (acc ++ [0]) (by rw [List.length_append, List.length_singleton]; omega) ?_)
  ·simp only [capnpref22_Decodable.l1]
   rw [if_pos (by omega), if_pos (by omega), hc, w64 (x := (c : Int)) (by omega) (by omega), if_pos (by omega), if_pos (by omega), wrap_succ j (by omega)]
  ·rw [List.append_assoc]; exact h
theorem dec_l2 (p : List Int) (hB : IsB p) (hp : p.length ≤ 1000000) (n : Nat) (hn : n ≤ 255) (r : List Int × Bool) : ∀ d j : Nat, j + d = n → ∀ (i : Nat) (acc : List Int), i ≤ p.length → acc.length + d < 17592186044416 →
  (if (p.drop i).length < 8 * d then r = (acc ++ wordsS (p.drop i), true) else Ev (fun k => capnpref22_Decodable.l0 k p (acc ++ wordsS ((p.drop i).take (8 * d))) ((i + 8 * d : Nat) : Int)) r) → Ev (fun k => capnpref22_Decodable.l2 k p acc (i : Int) (n : Int) (j : Int)) r := by
 intro d
 induction d with
 | zero =>
  intro j hj i acc hi ha h
  rw [if_neg (by omega), wordsS_short (by simp), List.append_nil] at h
  refine Ev.step (fun k => ?_) h
  simp only [capnpref22_Decodable.l2]
  rw [if_neg (by omega)]
  rfl
 | succ d ih =>
  intro j hj i acc hi ha h
  by_cases h8 : 8 ≤ (p.drop i).length
  ·have hg := refGet_yes (p.drop i) (hB.drop i) 0 (by rw [List.length_drop]; omega) (by omega)
   have hv : getS (p.drop i) 0 = val ((p.drop i).take 8) := rfl
   refine Ev.step (f := fun k => (capnpref01_Get.f k (p.drop i) 0).bind fun b => if b.2 = true then (if acc.length < 17592186044416 then capnpref22_Decodable.l2 k p (acc ++ [b.1]) (wrap64 ((i : Int) + 8)) (n : Int) (wrap64 ((j : Int) + 1)) else none) else some (acc, true)) (fun k => ?_) (Ev.bind hg (Ev.congr (fun k => ?_) (ih (j + 1) (by omega) (i + 8) (acc ++ [getS (p.drop i) 0]) (by rw [List.length_drop] at h8; omega) (by rw [List.length_append, List.length_singleton]; omega) ?_)))
   ·simp only [capnpref22_Decodable.l2]
    rw [if_pos (by omega), if_pos (by omega), if_pos (by omega), Int.toNat_natCast]
   ·rw [if_pos rfl, if_pos (by omega), wrap_succ j (by omega), w64 (x := (i : Int) + 8) (by omega) (by omega)]
    rfl
   ·rw [hv, ← List.drop_drop]
    by_cases hc : (p.drop i).length < 8 * (d + 1)
    ·rw [if_pos hc] at h
     rw [if_pos (by rw [List.length_drop]; omega), h, wordsS_long h8, List.append_assoc]; rfl
    ·rw [if_neg hc] at h
     rw [if_neg (by rw [List.length_drop]; omega), List.append_assoc, show i + 8 + 8 * d = i + 8 * (d + 1) by omega]
     have e : wordsS ((p.drop i).take (8 * (d + 1))) = [val ((p.drop i).take 8)] ++ wordsS (((p.drop i).drop 8).take (8 * d)) := by
      rw [wordsS_long (by rw [List.length_take]; omega), List.take_take, show min 8 (8 * (d + 1)) = 8 by omega, List.drop_take, show 8 * (d + 1) - 8 = 8 * d by omega]; rfl
     rw [e] at h
     exact h
  ·rw [if_pos (by omega), wordsS_short (by omega), List.append_nil] at h
   have hg := refGet_no (p.drop i) 0 (by rw [List.length_drop]; omega) (.inr (by omega))
   refine Ev.step (f := fun k => (capnpref01_Get.f k (p.drop i) 0).bind fun b => if b.2 = true then (if acc.length < 17592186044416 then capnpref22_Decodable.l2 k p (acc ++ [b.1]) (wrap64 ((i : Int) + 8)) (n : Int) (wrap64 ((j : Int) + 1)) else none) else some (acc, true)) (fun k => ?_) (Ev.bind hg (Ev.congr (fun k => ?_) (Ev.now _)))
   ·simp only [capnpref22_Decodable.l2]
    rw [if_pos (by omega), if_pos (by omega), if_pos (by omega), Int.toNat_natCast]
   ·rw [if_neg (by simp), h]
theorem drop_rd {p : List Int} {i : Nat} (hi : i < p.length) : p.drop i = rd p (i : Int) :: p.drop (i + 1) := by
 rw [List.drop_eq_getElem_cons hi]
 congr 1
 simp [rd, List.getD_eq_getElem?_getD, List.getElem?_eq_getElem hi]
theorem rd_IsB {p : List Int} (hB : IsB p) {i : Nat} (hi : i < p.length) : 0 ≤ rd p (i : Int) ∧ rd p (i : Int) < 256 := by
 have := hB (rd p (i : Int)) (by have := List.mem_of_mem_drop (l := p) (i := i) (a := rd p (i : Int)) (by rw [drop_rd hi]; exact List.mem_cons_self); exact this)
 exact this
theorem dec_l0 (p : List Int) (hB : IsB p) (hp : p.length ≤ 1000000) : ∀ (n i : Nat), p.length - i ≤ n → i ≤ p.length → ∀ acc : List Int, acc.length + 256 * (p.length - i) ≤ 1000000000 → Ev (fun k => capnpref22_Decodable.l0 k p acc (i : Int)) (acc ++ (decS (p.drop i)).1, (decS (p.drop i)).2) := by
 have fin : ∀ (i : Nat), p.length ≤ i → ∀ acc : List Int, Ev (fun k => capnpref22_Decodable.l0 k p acc (i : Int)) (acc ++ (decS (p.drop i)).1, (decS (p.drop i)).2) := by
  intro i hi acc
  rw [List.drop_of_length_le hi, decS_nil, List.append_nil]
  refine Ev.step (f := fun _ => some (acc, false)) (fun k => ?_) (Ev.now _)
  simp only [capnpref22_Decodable.l0]
  rw [if_neg (by omega)]
 intro n
 induction n with
 | zero => intro i hn hi acc ha; exact fin i (by omega) acc
 | succ n ih =>
  intro i hn hi acc ha
  rcases Nat.lt_or_ge i p.length with hlt | hge
  ·obtain ⟨t0, t1⟩ := rd_IsB hB hlt
   by_cases ht : rd p (i : Int) = 0
   ·by_cases he : i + 1 = p.length
    ·rw [drop_rd hlt, ht, List.drop_of_length_le (by omega), decS_zero_end, List.append_nil]
     refine Ev.step (f := fun _ => some (acc, true)) (fun k => ?_) (Ev.now _)
     simp only [capnpref22_Decodable.l0]
     rw [if_pos (by omega), if_pos (by omega), if_pos ht, wrap_succ i (by omega), if_pos (by omega)]
    ·obtain ⟨c0, c1⟩ := rd_IsB hB (i := i + 1) (by omega)
     obtain ⟨c, hc⟩ := Int.eq_ofNat_of_zero_le c0
     rw [drop_rd hlt, ht, drop_rd (i := i + 1) (by omega), decS_zero, hc, Int.toNat_natCast, ← List.append_assoc]
     refine Ev.step (fun k => ?_) (dec_l1 p acc (i + 1) c (by omega) hp hc (by omega) _ (c + 1) 0 (by omega) acc (by omega) (ih (i + 1 + 1) (by omega) (by omega) _ (by rw [List.length_append, List.length_replicate]; omega)))
     simp only [capnpref22_Decodable.l0]
     rw [if_pos (by omega), if_pos (by omega), if_pos ht, wrap_succ i (by omega), if_neg (by omega)]
     rfl
   ·-- a word with a tag
    have hE := refExpand (rd p (i : Int)) (p.drop (i + 1)) t0 t1 (hB.drop _) (by rw [List.length_drop]; omega)
    have go : ∀ r : List Int × Bool, Ev (fun k => (capnpref20_Expand.f k (rd p (i : Int)) (p.drop (i + 1))).bind fun b => (if b.2.2 = true then (if acc.length < 17592186044416 then ((some (acc ++ [b.1] : List Int)).bind fun y => (if (rd p (i : Int)) = 255 then (if (wrap64 (((i + 1 : Nat) : Int) + b.2.1)) = (p.length : Int) then (some (y, true)) else (if 0 ≤ (wrap64 (((i + 1 : Nat) : Int) + b.2.1)) then (if (wrap64 (((i + 1 : Nat) : Int) + b.2.1)) < (p.length : Int) then (capnpref22_Decodable.l2 k p y (wrap64 ((wrap64 (((i + 1 : Nat) : Int) + b.2.1)) + 1)) (wrap64 (rd p (wrap64 (((i + 1 : Nat) : Int) + b.2.1)))) 0) else (none)) else (none))) else (capnpref22_Decodable.l0 k p y (wrap64 (((i + 1 : Nat) : Int) + b.2.1))))) else (none)) else (some (acc, true)))) r → Ev (fun k => capnpref22_Decodable.l0 k p acc (i : Int)) r := by
     intro r h
     refine Ev.step (fun k => ?_) h
     simp only [capnpref22_Decodable.l0]
     rw [if_pos (by omega), if_pos (by omega), if_neg ht, wrap_succ i (by omega), if_pos (by omega), if_pos (by omega), Int.toNat_natCast]
    refine go _ ?_
    rw [drop_rd hlt]
    by_cases hs : onesS (rd p (i : Int)) ≤ (p.drop (i + 1)).length
    ·rw [if_pos hs] at hE
     have ho8 := onesS_le (rd p (i : Int))
     rw [List.length_drop] at hs
     by_cases h255 : rd p (i : Int) = 255
     ·rw [h255, onesS_255] at hE
      rw [h255, onesS_255] at hs
      rw [h255]
      refine Ev.bind hE (Ev.congr (fun k => if_pos rfl) (Ev.congr (fun k => if_pos (by omega)) (Ev.congr (fun k => Option.bind_some _ _) (Ev.congr (fun k => if_pos rfl) ?_))))
      dsimp only
      rw [w64 (x := ((i + 1 : Nat) : Int) + ((8 : Nat) : Int)) (by omega) (by omega), show ((i + 1 : Nat) : Int) + ((8 : Nat) : Int) = ((i + 9 : Nat) : Int) by omega]
      by_cases h9 : i + 9 = p.length
      ·refine Ev.congr (fun k => if_pos (by omega)) ?_
       rw [decS_full_end (by rw [List.length_drop]; omega)]
       exact Ev.now _
      ·refine Ev.congr (fun k => if_neg (by omega)) (Ev.congr (fun k => if_pos (by omega)) (Ev.congr (fun k => if_pos (by omega)) ?_))
       obtain ⟨c0, c1⟩ := rd_IsB hB (i := i + 9) (by omega)
       obtain ⟨c, hc⟩ := Int.eq_ofNat_of_zero_le c0
       have hd : p.drop (i + 1) = (p.drop (i + 1)).take 8 ++ (c : Int) :: p.drop (i + 10) := by
        have e2 : (p.drop (i + 1)).drop 8 = (c : Int) :: p.drop (i + 10) := by rw [List.drop_drop, show i + 1 + 8 = i + 9 by omega, drop_rd (i := i + 9) (by omega), hc]
        rw [← e2, List.take_append_drop]
       have hf := decS_full (p := (p.drop (i + 1)).take 8) (c := (c : Int)) (q := p.drop (i + 10)) (by rw [List.length_take, List.length_drop]; omega)
       rw [← hd, show expS 255 ((p.drop (i + 1)).take 8) = expS 255 (p.drop (i + 1)) by rw [Un.expS_255 (by rw [List.length_take, List.length_drop]; omega), Un.expS_255 (by rw [List.length_drop]; omega), List.take_take, show min 8 8 = 8 from rfl]] at hf
       rw [hf, Int.toNat_natCast, hc, w64 (x := (c : Int)) (by omega) (by omega), w64 (x := ((i + 9 : Nat) : Int) + 1) (by omega) (by omega), show ((i + 9 : Nat) : Int) + 1 = ((i + 10 : Nat) : Int) by omega]
       refine dec_l2 p hB hp c (by omega) _ c 0 (by omega) (i + 10) _ (by omega) (by rw [List.length_append, List.length_singleton]; omega) ?_
       by_cases hcut : (p.drop (i + 10)).length < 8 * c
       ·rw [if_pos hcut, if_pos hcut, List.append_assoc]; rfl
       ·rw [if_neg hcut, if_neg hcut]
        have hl : (p.drop (i + 10)).length = p.length - (i + 10) := List.length_drop
        have := ih (i + 10 + 8 * c) (by omega) (by omega) (acc ++ [expS 255 (p.drop (i + 1))] ++ wordsS ((p.drop (i + 10)).take (8 * c))) (by rw [List.length_append, List.length_append, List.length_singleton, wordsS_length, List.length_take]; omega)
        rw [List.drop_drop]
        simp only [List.append_assoc, List.singleton_append] at this ⊢
        exact this
     ·refine Ev.bind hE (Ev.congr (fun k => if_pos rfl) (Ev.congr (fun k => if_pos (by omega)) (Ev.congr (fun k => Option.bind_some _ _) (Ev.congr (fun k => if_neg h255) ?_))))
      dsimp only
      rw [w64 (by omega) (by omega), show ((i + 1 : Nat) : Int) + ((onesS (rd p (i : Int)) : Nat) : Int) = ((i + 1 + onesS (rd p (i : Int)) : Nat) : Int) by omega]
      rw [decS_tag ht h255 (by rw [List.length_drop]; omega), List.drop_drop]
      have := ih (i + 1 + onesS (rd p (i : Int))) (by omega) (by omega) (acc ++ [expS (rd p (i : Int)) (p.drop (i + 1))]) (by rw [List.length_append, List.length_singleton]; omega)
      rw [List.append_assoc] at this
      exact this
    ·rw [if_neg hs] at hE
     rw [decS_short ht (by omega)]
     refine Ev.bind hE (Ev.congr (fun k => if_neg (by simp)) ?_)
     rw [List.append_nil]
     exact Ev.now _
  ·exact fin i hge acc
theorem refDecodable {p : List Int} (hB : IsB p) (hp : p.length ≤ 1000000) : Ev (fun k => capnpref22_Decodable.f k p) (decS p) := by
 have := dec_l0 p hB hp p.length 0 (by omega) (by omega) [] (by simp; omega)
 rw [List.drop_zero, List.nil_append] at this
 exact this
theorem decF_len : ∀ (k : Nat) (p : List Int), IsB p → (decF k p).1.length ≤ 256 * p.length
 | 0, p, _ => by simp [decF]
 | k + 1, [], _ => by simp [decF]
 | k + 1, t :: p, hB => by
  have hp : IsB p := fun x hx => hB x (List.mem_cons_of_mem _ hx)
  by_cases h0 : t = 0
  ·cases p with
   | nil => simp [decF, h0]
   | cons c q =>
    have hc := hp c List.mem_cons_self
    have := decF_len k q (fun x hx => hp x (List.mem_cons_of_mem _ hx))
    simp only [decF, if_pos h0, List.length_append, List.length_replicate, List.length_cons]
    omega
  ·by_cases h1 : p.length < onesS t
   ·simp only [decF, if_neg h0, if_pos h1]; simp
   ·by_cases h2 : t = 255
    ·have hd : (p.drop 8).length = p.length - 8 := List.length_drop
     have hB8 : IsB (p.drop 8) := hp.drop 8
     have ho : onesS t = 8 := by rw [h2]; exact onesS_255
     simp only [decF, if_neg h0, if_neg h1, if_pos h2]
     cases hq : p.drop 8 with
     | nil => simp; omega
     | cons c q =>
      rw [hq, List.length_cons] at hd
      by_cases h3 : q.length < 8 * c.toNat
      ·simp only [if_pos h3, List.length_cons, wordsS_length]; omega
      ·have := decF_len k (q.drop (8 * c.toNat)) (by rw [hq] at hB8; exact IsB.drop (fun x hx => hB8 x (List.mem_cons_of_mem _ hx)) _)
       rw [List.length_drop] at this
       simp only [if_neg h3, List.length_cons, List.length_append, wordsS_length, List.length_take]
       omega
    ·have := decF_len k (p.drop (onesS t)) (hp.drop _)
     rw [List.length_drop] at this
     simp only [decF, if_neg h0, if_neg h1, if_neg h2, List.length_cons]
     omega
theorem decS_len {p : List Int} (hB : IsB p) : (decS p).1.length ≤ 256 * p.length := decF_len _ p hB
theorem IsW_append {a b : List Int} (ha : IsW a) (hb : IsW b) : IsW (a ++ b) := fun x hx => by
 rcases List.mem_append.mp hx with h | h
 ·exact ha x h
 ·exact hb x h
theorem IsW_cons {x : Int} {b : List Int} (h0 : 0 ≤ x ∧ x < 18446744073709551616) (hb : IsW b) : IsW (x :: b) := fun y hy => by
 rcases List.mem_cons.mp hy with h | h
 ·rw [h]; exact h0
 ·exact hb y h
theorem decF_W : ∀ (k : Nat) (p : List Int), IsB p → IsW (decF k p).1
 | 0, p, _ => by intro x hx; simp [decF] at hx
 | k + 1, [], _ => by intro x hx; simp [decF] at hx
 | k + 1, t :: p, hB => by
  have hp : IsB p := fun x hx => hB x (List.mem_cons_of_mem _ hx)
  by_cases h0 : t = 0
  ·cases p with
   | nil => intro x hx; simp [decF, h0] at hx
   | cons c q =>
    simp only [decF, if_pos h0]
    exact IsW_append (fun x hx => by rw [(List.mem_replicate.mp hx).2]; decide) (decF_W k q (fun x hx => hp x (List.mem_cons_of_mem _ hx)))
  ·by_cases h1 : p.length < onesS t
   ·intro x hx; simp only [decF, if_neg h0, if_pos h1] at hx; simp at hx
   ·by_cases h2 : t = 255
    ·have hB8 : IsB (p.drop 8) := hp.drop 8
     simp only [decF, if_neg h0, if_neg h1, if_pos h2]
     cases hq : p.drop 8 with
     | nil => exact IsW_cons (expS_range hp) (fun x hx => by simp at hx)
     | cons c q =>
      have hBq : IsB q := by rw [hq] at hB8; exact fun x hx => hB8 x (List.mem_cons_of_mem _ hx)
      by_cases h3 : q.length < 8 * c.toNat
      ·simp only [if_pos h3]; exact IsW_cons (expS_range hp) (wordsS_W hBq)
      ·simp only [if_neg h3]
       exact IsW_cons (expS_range hp) (IsW_append (wordsS_W (hBq.take _)) (decF_W k _ (hBq.drop _)))
    ·simp only [decF, if_neg h0, if_neg h1, if_neg h2]
     exact IsW_cons (expS_range hp) (decF_W k _ (hp.drop _))
theorem decS_W {p : List Int} (hB : IsB p) : IsW (decS p).1 := decF_W _ p hB
theorem refAccepts {p ws : List Int} (hB : IsB p) (hp : p.length ≤ 400000) : Ev (fun k => capnpref23_Accepts.f k p ws) (decide ((decS p).2 = false ∧ (decS p).1 = ws)) := by
 unfold capnpref23_Accepts.f
 refine Ev.bind (refDecodable hB (by omega)) ?_
 have hl := decS_len hB
 by_cases h : (decS p).2 = true
 ·rw [decide_eq_false (fun q => by rw [h] at q; exact absurd q.1 (by decide))]
  exact Ev.congr (fun k => if_pos h) (Ev.now _)
 ·have h' : (decS p).2 = false := by simpa using h
  refine Ev.congr (fun k => if_neg h) (Ev.bind (refEqual _ ws (by omega)) ?_)
  have e : decide ((decS p).1 = ws) = decide ((decS p).2 = false ∧ (decS p).1 = ws) := by simp [h']
  rw [e]
  exact Ev.now _
theorem refBytes_l1 (x0 : List Int) (x4 r) : ∀ d j : Nat, j + d = 8 → ∀ (x3 : List Int) (w : Int), 0 ≤ w → w < 18446744073709551616 → x3.length + d < 140737488355328 → Ev (fun k => capnpref01_Bytes.l0 k x0 (x3 ++ bs d w) (wrap64 (x4 + 1))) r → Ev (fun k => capnpref01_Bytes.l1 k x0 x3 x4 w (j : Int)) r := by
 intro d
 induction d with
 | zero =>
  intro j hj x3 w h0 h1 hl h
  obtain rfl : j = 8 := by omega
  refine Ev.step (fun k => ?_) h
  simp only [capnpref01_Bytes.l1]
  rw [if_neg (by omega)]
  simp [bs]
 | succ d ih =>
  intro j hj x3 w h0 h1 hl h
  refine Ev.step (f := fun k => capnpref01_Bytes.l1 k x0 (x3 ++ [w % 256]) x4 (w / 256) ((j + 1 : Nat) : Int)) (fun k => ?_) (ih (j + 1) (by omega) _ _ (by omega) (by omega) (by simp; omega) ?_)
  ·simp only [capnpref01_Bytes.l1]
   rw [if_pos (by omega), if_pos (by omega), w64 (by omega) (by omega), Int.tmod_eq_emod_of_nonneg h0, Int.tdiv_eq_ediv_of_nonneg h0, wu (by omega) (by omega), show w % 256 % 256 = w % 256 by omega, show (j : Int) + 1 = ((j + 1 : Nat) : Int) by omega]
  ·simpa [bs] using h
theorem refBytes_l0 (x0 : List Int) (hW : IsW x0) (hx : x0.length * 8 < 140737488355328) : ∀ d i : Nat, i + d = x0.length → ∀ x3 : List Int, x3 = bytesS (x0.take i) → Ev (fun k => capnpref01_Bytes.l0 k x0 x3 (i : Int)) (bytesS x0) := by
 intro d
 induction d with
 | zero =>
  intro i hi x3 h
  refine Ev.step (f := fun _ => some x3) (fun k => ?_) ?_
  ·simp only [capnpref01_Bytes.l0]; rw [if_neg (by omega)]
  ·rw [h, List.take_of_length_le (by omega)]; exact Ev.now _
 | succ d ih =>
  intro i hi x3 h
  have hr := rd_W hW (i : Int)
  refine Ev.step (f := fun k => capnpref01_Bytes.l1 k x0 x3 (i : Int) (rd x0 (i : Int)) ((0 : Nat) : Int)) (fun k => ?_) (refBytes_l1 x0 _ _ 8 0 rfl _ _ hr.1 hr.2 ?_ ?_)
  ·simp only [capnpref01_Bytes.l0]; rw [if_pos (by omega), if_pos (by omega)]; rfl
  ·rw [h, bytesS_length, List.length_take]; omega
  ·rw [w64 (by omega) (by omega), show (i : Int) + 1 = ((i + 1 : Nat) : Int) by omega]
   refine ih (i + 1) (by omega) _ ?_
   rw [take_rd (by omega), bytesS_append, h]; simp [bytesS]
theorem refBytes (l : List Int) (hW : IsW l) (hx : l.length * 8 < 140737488355328) : Ev (fun k => capnpref01_Bytes.f k l) (bytesS l) :=
 refBytes_l0 l hW hx l.length 0 (by omega) [] rfl
theorem refOf_l0 (l : List Int) (hl : l.length = 8) : ∀ d i : Nat, i + d = 8 → ∀ x4 x5 : Int, x4 = tagL (l.take i) → x5 = ((2 ^ i : Nat) : Int) → Ev (fun k => capnpref20_Of.l0 k l x4 x5 (i : Int)) (tagL l) := by
 intro d
 induction d with
 | zero =>
  intro i hi x4 x5 h h5
  have h1 := tagL_nonneg l
  have h2 := tagL_lt l
  rw [hl] at h2
  have e : x4 % 256 = tagL l := by rw [h, List.take_of_length_le (by omega)]; exact Int.emod_eq_of_lt h1 h2
  refine Ev.step (f := fun _ => some (x4 % 256)) (fun k => ?_) ?_
  ·simp only [capnpref20_Of.l0]; rw [if_neg (by omega)]
  ·rw [e]; exact Ev.now _
 | succ d ih =>
  intro i hi x4 x5 h h5
  have ht : l.take (i + 1) = l.take i ++ [rd l (i : Int)] := take_rd (by omega)
  have hlen : (l.take i).length = i := by rw [List.length_take]; omega
  have h1 := tagL_nonneg (l.take i)
  have h2 := tagL_lt (l.take i)
  rw [hlen] at h2
  have h4 : (2 : Nat) ^ (i + 1) ≤ 2 ^ 8 := Nat.pow_le_pow_right (by decide) (by omega)
  rw [Nat.pow_succ] at h4
  rw [← h] at h1 h2
  have h2' : x4 < x5 := by rw [h5, Int.natCast_pow]; exact h2
  have hx5 : 0 ≤ x5 ∧ x5 ≤ 128 := by rw [h5]; exact ⟨Int.natCast_nonneg _, by omega⟩
  have e5 : x5 * 2 = ((2 ^ (i + 1) : Nat) : Int) := by rw [h5, Nat.pow_succ]; omega
  clear h2 h4
  refine Ev.step (f := fun k => if rd l (i : Int) = 0 then capnpref20_Of.l0 k l x4 (x5 * 2) ((i + 1 : Nat) : Int) else capnpref20_Of.l0 k l (x4 + x5) (x5 * 2) ((i + 1 : Nat) : Int)) (fun k => ?_) ?_
  ·clear e5 h5 h
   simp only [capnpref20_Of.l0]
   rw [if_pos (show (i : Int) < 8 by omega), if_pos (show 0 ≤ (i : Int) by omega), if_pos (show (i : Int) < (l.length : Int) by omega), wrap_succ i (by omega), w64 (x := x5 * 2) (by omega) (by omega), w64 (x := x4 + x5) (by omega) (by omega)]
  ·by_cases h0 : rd l (i : Int) = 0
   ·refine Ev.congr (fun k => if_pos h0) (ih (i + 1) (by omega) _ _ ?_ e5)
    rw [ht, tagL_append, h0, h]; simp [tagL]
   ·refine Ev.congr (fun k => if_neg h0) (ih (i + 1) (by omega) _ _ ?_ e5)
    rw [ht, tagL_append, hlen, h, h5, Int.natCast_pow]; simp [tagL, h0]
theorem refOf (w : Int) (h0 : 0 ≤ w) (h1 : w < 18446744073709551616) : Ev (fun k => capnpref20_Of.f k w) (ofS w) := by
 unfold capnpref20_Of.f
 refine Ev.bind (refBytes [w] (IsW.cons h0 h1 IsW.nil) (by simp)) ?_
 have e : bytesS [w] = bs 8 w := by simp [bytesS]
 rw [e]
 exact refOf_l0 _ (bs_length 8 w) 8 0 rfl 0 1 rfl rfl
theorem refTagBytes_l0 (l : List Int) (hl : l.length = 8) : ∀ d i : Nat, i + d = 8 → ∀ x4 : List Int, x4 = nz (l.take i) → Ev (fun k => capnpref20_Bytes.l0 k l x4 (i : Int)) (nz l) := by
 intro d
 induction d with
 | zero =>
  intro i hi x4 h
  refine Ev.step (f := fun _ => some x4) (fun k => ?_) ?_
  ·simp only [capnpref20_Bytes.l0]; rw [if_neg (by omega)]
  ·rw [h, List.take_of_length_le (by omega)]; exact Ev.now _
 | succ d ih =>
  intro i hi x4 h
  have hx : x4.length ≤ 8 := by rw [h]; have := nz_length_le (l.take i); rw [List.length_take] at this; omega
  have ht : l.take (i + 1) = l.take i ++ [rd l (i : Int)] := take_rd (by omega)
  refine Ev.step (f := fun k => if rd l (i : Int) = 0 then capnpref20_Bytes.l0 k l x4 ((i + 1 : Nat) : Int) else capnpref20_Bytes.l0 k l (x4 ++ [rd l (i : Int)]) ((i + 1 : Nat) : Int)) (fun k => ?_) ?_
  ·simp only [capnpref20_Bytes.l0]
   rw [if_pos (show (i : Int) < 8 by omega), if_pos (show 0 ≤ (i : Int) by omega), if_pos (show (i : Int) < (l.length : Int) by omega), wrap_succ i (by omega)]
   simp only [if_pos (show x4.length < 140737488355328 by omega)]
  ·by_cases h0 : rd l (i : Int) = 0
   ·refine Ev.congr (fun k => if_pos h0) (ih (i + 1) (by omega) _ ?_)
    rw [ht, nz_append, nz_cons, if_pos h0, nz_nil, List.append_nil, h]
   ·refine Ev.congr (fun k => if_neg h0) (ih (i + 1) (by omega) _ ?_)
    rw [ht, nz_append, nz_cons, if_neg h0, nz_nil, h]
theorem refTagBytes (w : Int) (h0 : 0 ≤ w) (h1 : w < 18446744073709551616) : Ev (fun k => capnpref20_Bytes.f k w) (nzS w) := by
 unfold capnpref20_Bytes.f
 refine Ev.bind (refBytes [w] (IsW.cons h0 h1 IsW.nil) (by simp)) ?_
 have e : bytesS [w] = bs 8 w := by simp [bytesS]
 rw [e]
 exact refTagBytes_l0 _ (bs_length 8 w) 8 0 rfl [] rfl
theorem refDense (w : Int) (h0 : 0 ≤ w) (h1 : w < 18446744073709551616) : Ev (fun k => capnpref20_Dense.f k w) (decide (7 ≤ (nzS w).length)) := by
 unfold capnpref20_Dense.f
 refine Ev.bind (refTagBytes w h0 h1) ?_
 have e : decide (((nzS w).length : Int) ≥ 7) = decide (7 ≤ (nzS w).length) := by simp only [decide_eq_decide]; omega
 rw [e]; exact Ev.now _
theorem ref21_fin (x0 : List Int) (hW : IsW x0) (hx : x0.length ≤ 1000000000) (i n : Nat) (x3 r : List Int) (t : Int) (hin : i + n ≤ x0.length) (hn : n ≤ 255) (h3 : x3.length ≤ 100000000000000) (hr : t = 255 → Ev (fun k => capnpref21_Words.l0 k x0 (x3 ++ [(n : Int)] ++ bytesS ((x0.drop i).take n)) ((i + n : Nat) : Int)) r) (hr2 : t ≠ 255 → Ev (fun k => capnpref21_Words.l0 k x0 (x3 ++ [(n : Int)]) ((i + n : Nat) : Int)) r) (hstop : n < 255 → i + n < x0.length → (t = 0 → isZ (rd x0 ((i + n : Nat) : Int)) = false) ∧ (t = 255 → denseS (rd x0 ((i + n : Nat) : Int)) = false)) : Ev (fun k => capnpref21_Words.l1 k x0 x3 (i : Int) t (n : Int)) r := by
 have e1 : wrap64 ((i : Int) + (n : Int)) = ((i + n : Nat) : Int) := by rw [w64 (by omega) (by omega)]; omega
 have e2 : ((n : Int)) % 256 = (n : Int) := by omega
 have e3 : (x0.take ((i + n : Nat) : Int).toNat).drop ((i : Int)).toNat = (x0.drop i).take n := by
  rw [Int.toNat_natCast, Int.toNat_natCast, List.drop_take]; congr 1; omega
 have hb := bytesS_length ((x0.drop i).take n)
 rw [List.length_take, List.length_drop, Nat.min_eq_left (by omega)] at hb
 have hT : IsW ((x0.drop i).take n) := (hW.drop i).take n
 have fin255 : t = 255 → Ev (fun k => if x3.length < 140737488355328 then ((some (x3 ++ [(n : Int)] : List Int)).bind fun y => (if 0 ≤ (i : Int) then (if (i : Int) ≤ ((i + n : Nat) : Int) then (if ((i + n : Nat) : Int) ≤ (x0.length : Int) then ((capnpref01_Bytes.f k ((x0.drop i).take n)).bind fun q => (if y.length + q.length < 140737488355328 then (capnpref21_Words.l0 k x0 (y ++ q) ((i + n : Nat) : Int)) else (none))) else (none)) else (none)) else (none))) else (none)) r := by
  intro ht
  refine Ev.congr (fun k => if_pos (by omega)) ?_
  simp only [Option.bind_some]
  refine Ev.congr (fun k => if_pos (by omega)) (Ev.congr (fun k => if_pos (by omega)) (Ev.congr (fun k => if_pos (by omega)) (Ev.bind (refBytes _ hT (by rw [List.length_take, List.length_drop]; omega)) (Ev.congr (fun k => if_pos (by first | (simp; done) | (simp; omega))) (hr ht)))))
 have finN : t ≠ 255 → Ev (fun k => if x3.length < 140737488355328 then capnpref21_Words.l0 k x0 (x3 ++ [(n : Int)]) ((i + n : Nat) : Int) else none) r := fun ht => Ev.congr (fun k => if_pos (by omega)) (hr2 ht)
 have both : Ev (fun k => if x3.length < 140737488355328 then ((some (x3 ++ [(n : Int)] : List Int)).bind fun y => (if t = 255 then (if 0 ≤ (i : Int) then (if (i : Int) ≤ ((i + n : Nat) : Int) then (if ((i + n : Nat) : Int) ≤ (x0.length : Int) then ((capnpref01_Bytes.f k ((x0.drop i).take n)).bind fun q => (if y.length + q.length < 140737488355328 then (capnpref21_Words.l0 k x0 (y ++ q) ((i + n : Nat) : Int)) else (none))) else (none)) else (none)) else (none)) else (capnpref21_Words.l0 k x0 y ((i + n : Nat) : Int)))) else (none)) r := by
  by_cases ht : t = 255
  ·have := fin255 ht
   simp only [if_pos ht]; exact this
  ·have := finN ht
   simp only [if_neg ht, Option.bind_some]; exact this
 refine Ev.step (fun k => by simp only [capnpref21_Words.l1, e1, e2, e3]; rfl) ?_
 by_cases hlt : i + n < x0.length
 ·refine Ev.congr (fun k => if_pos (by omega)) ?_
  by_cases h255 : n < 255
  ·obtain ⟨s0, s1⟩ := hstop h255 hlt
   have hx0 := rd_W hW ((i + n : Nat) : Int)
   refine Ev.congr (fun k => if_pos (by omega)) ?_
   by_cases t0 : t = 0
   ·have hz := s0 t0
    have hne : ¬ rd x0 ((i + n : Nat) : Int) = 0 := by simpa [isZ] using hz
    have t255 : ¬ t = 255 := by omega
    refine Ev.congr (fun k => if_pos t0) (Ev.congr (fun k => if_pos (by omega)) (Ev.congr (fun k => if_neg hne) (Ev.congr (fun k => if_neg t255) (finN t255))))
   ·refine Ev.congr (fun k => if_neg t0) ?_
    by_cases t255 : t = 255
    ·have hd := s1 t255
     refine Ev.congr (fun k => if_pos t255) (Ev.congr (fun k => if_pos (by omega)) (Ev.bind (refDense _ hx0.1 hx0.2) ?_))
     have hd' : decide (7 ≤ (nzS (rd x0 ((i + n : Nat) : Int))).length) = false := hd
     rw [hd']
     exact Ev.congr (fun k => if_neg (by simp)) (fin255 t255)
    ·exact Ev.congr (fun k => if_neg t255) (finN t255)
  ·exact Ev.congr (fun k => if_neg (by omega)) both
 ·exact Ev.congr (fun k => if_neg (by omega)) both
theorem ref21_go (x0 : List Int) (hW : IsW x0) (hx : x0.length ≤ 1000000000) (i : Nat) (x3 : List Int) (t : Int) (p : Int → Bool) (r : List Int) (hp : (t = 0 ∧ p = isZ) ∨ (t = 255 ∧ p = denseS)) (hfin : Ev (fun k => capnpref21_Words.l1 k x0 x3 (i : Int) t ((runP p 255 (x0.drop i) : Nat) : Int)) r) : ∀ d n : Nat, n + d = runP p 255 (x0.drop i) → Ev (fun k => capnpref21_Words.l1 k x0 x3 (i : Int) t (n : Int)) r := by
 intro d
 have hle := runP_le p 255 (x0.drop i)
 have hlen := runP_length p 255 (x0.drop i)
 rw [List.length_drop] at hlen
 induction d with
 | zero => intro n hn; rw [show n = runP p 255 (x0.drop i) by omega]; exact hfin
 | succ d ih =>
  intro n hn
  have e1 : wrap64 ((i : Int) + (n : Int)) = ((i + n : Nat) : Int) := by rw [w64 (by omega) (by omega)]; omega
  have hall := runP_all p 255 (x0.drop i)
  have hx0 := rd_W hW ((i + n : Nat) : Int)
  have hpn : p (rd x0 ((i + n : Nat) : Int)) = true := by
   apply hall
   rw [rd_lt (by omega)]
   have hlt : n < ((x0.drop i).take (runP p 255 (x0.drop i))).length := by rw [List.length_take, List.length_drop]; omega
   have : ((x0.drop i).take (runP p 255 (x0.drop i)))[n] = x0[i + n] := by simp
   rw [← this]; exact List.getElem_mem hlt
  refine Ev.step (fun k => by simp only [capnpref21_Words.l1, e1, wrap_succ n (show n ≤ 140737488355328 by omega)]; rfl) ?_
  refine Ev.congr (fun k => if_pos (by omega)) (Ev.congr (fun k => if_pos (by omega)) ?_)
  rcases hp with ⟨ht, hp⟩ | ⟨ht, hp⟩
  ·have hz : rd x0 ((i + n : Nat) : Int) = 0 := by rw [hp] at hpn; simpa [isZ] using hpn
   exact Ev.congr (fun k => if_pos ht) (Ev.congr (fun k => if_pos (by omega)) (Ev.congr (fun k => if_pos hz) (ih (n + 1) (by omega))))
  ·have hd : decide (7 ≤ (nzS (rd x0 ((i + n : Nat) : Int))).length) = true := by rw [hp] at hpn; exact hpn
   refine Ev.congr (fun k => if_neg (by omega)) (Ev.congr (fun k => if_pos ht) (Ev.congr (fun k => if_pos (by omega)) (Ev.bind (refDense _ hx0.1 hx0.2) ?_)))
   rw [hd]
   exact Ev.congr (fun k => if_pos (by simp)) (ih (n + 1) (by omega))
theorem ref21_l0 (x0 : List Int) (hW : IsW x0) (hx : x0.length ≤ 1000000000) : ∀ (d i : Nat), i + d = x0.length → ∀ x3 : List Int, x3.length + 10 * d ≤ 100000000000 → Ev (fun k => capnpref21_Words.l0 k x0 x3 (i : Int)) (x3 ++ packS (x0.drop i)) := by
 intro d
 induction d using Nat.strongRecOn with
 | _ d ih =>
 intro i hi x3 h3
 by_cases hlt : i < x0.length
 ·have hdr := drop_rd hlt
  have hw := rd_W hW (i : Int)
  have hz := nzS_length_le (rd x0 (i : Int))
  rw [hdr, packS_cons]
  have hL : IsW (x0.drop (i + 1)) := hW.drop _
  have hlen : (x0.drop (i + 1)).length = x0.length - (i + 1) := List.length_drop
  generalize hwe : rd x0 (i : Int) = w at *
  refine Ev.step (fun k => by simp only [capnpref21_Words.l0, hwe]; rfl) ?_
  refine Ev.congr (fun k => if_pos (by omega)) (Ev.congr (fun k => if_pos (by omega)) (Ev.bind (refOf w hw.1 hw.2) (Ev.congr (fun k => if_pos (by omega)) ?_)))
  simp only [Option.bind_some]
  refine Ev.bind (refTagBytes w hw.1 hw.2) (Ev.congr (fun k => if_pos (by first | (simp; done) | (simp; omega))) ?_)
  rw [wrap_succ i (by omega)]
  by_cases h0 : ofS w = 0
  ·rw [if_pos h0]
   have hr := runP_length isZ 255 (x0.drop (i + 1))
   have hr2 := runP_le isZ 255 (x0.drop (i + 1))
   have hst := runP_stop isZ 255 (x0.drop (i + 1))
   refine Ev.congr (fun k => if_pos h0) (Ev.step (fun k => by simp only [capnpref21_Words.j1]; rfl) (Ev.congr (fun k => if_neg (by simp)) ?_))
   refine ref21_go x0 hW hx (i + 1) _ (ofS w) isZ _ (Or.inl ⟨h0, rfl⟩) ?_ (runP isZ 255 (x0.drop (i + 1))) 0 (by omega)
   refine ref21_fin x0 hW hx (i + 1) (runP isZ 255 (x0.drop (i + 1))) _ _ (ofS w) (by omega) hr2 (by simp only [List.length_append, List.length_cons, List.length_nil]; omega) (fun h => absurd h (by omega)) (fun _ => ?_) (fun h1 h2 => ⟨fun _ => ?_, fun h => absurd h (by omega)⟩)
   ·have := ih (x0.length - (i + 1 + runP isZ 255 (x0.drop (i + 1)))) (by omega) (i + 1 + runP isZ 255 (x0.drop (i + 1))) (by omega) (x3 ++ [ofS w] ++ nzS w ++ [((runP isZ 255 (x0.drop (i + 1)) : Nat) : Int)]) (by simp only [List.length_append, List.length_cons, List.length_nil]; omega)
    rw [← List.drop_drop] at this
    simpa [List.append_assoc] using this
   ·have := hst h1 (by omega)
    rwa [rd_drop] at this
  ·rw [if_neg h0]
   refine Ev.congr (fun k => if_neg h0) ?_
   by_cases h1 : ofS w = 255
   ·rw [if_pos h1]
    have hr := runP_length denseS 255 (x0.drop (i + 1))
    have hr2 := runP_le denseS 255 (x0.drop (i + 1))
    have hst := runP_stop denseS 255 (x0.drop (i + 1))
    have hb := bytesS_length ((x0.drop (i + 1)).take (runP denseS 255 (x0.drop (i + 1))))
    rw [List.length_take, Nat.min_eq_left hr] at hb
    rw [show (ofS w != 255) = false by simp [h1]]
    refine Ev.step (fun k => by simp only [capnpref21_Words.j1]; rfl) (Ev.congr (fun k => if_neg (by simp)) ?_)
    refine ref21_go x0 hW hx (i + 1) _ (ofS w) denseS _ (Or.inr ⟨h1, rfl⟩) ?_ (runP denseS 255 (x0.drop (i + 1))) 0 (by omega)
    refine ref21_fin x0 hW hx (i + 1) (runP denseS 255 (x0.drop (i + 1))) _ _ (ofS w) (by omega) hr2 (by simp only [List.length_append, List.length_cons, List.length_nil]; omega) (fun _ => ?_) (fun h => absurd h1 h) (fun h2 h3 => ⟨fun h => absurd h h0, fun _ => ?_⟩)
    ·have := ih (x0.length - (i + 1 + runP denseS 255 (x0.drop (i + 1)))) (by omega) (i + 1 + runP denseS 255 (x0.drop (i + 1))) (by omega) (x3 ++ [ofS w] ++ nzS w ++ [((runP denseS 255 (x0.drop (i + 1)) : Nat) : Int)] ++ bytesS ((x0.drop (i + 1)).take (runP denseS 255 (x0.drop (i + 1))))) (by simp only [List.length_append, List.length_cons, List.length_nil, hb]; omega)
     rw [← List.drop_drop] at this
     simpa [List.append_assoc] using this
    ·have := hst h2 (by omega)
     rwa [rd_drop] at this
   ·rw [if_neg h1]
    have h7 := ofS_lt8 h1
    rw [show (ofS w != 255) = true by simp [h1]]
    refine Ev.step (fun k => by simp only [capnpref21_Words.j1]; rfl) (Ev.congr (fun k => if_pos (by simp)) ?_)
    have := ih (x0.length - (i + 1)) (by omega) (i + 1) (by omega) (x3 ++ [ofS w] ++ nzS w) (by simp only [List.length_append, List.length_cons, List.length_nil]; omega)
    simpa [List.append_assoc] using this
 ·refine Ev.step (f := fun _ => some x3) (fun k => ?_) ?_
  ·simp only [capnpref21_Words.l0]; rw [if_neg (by omega)]
  ·rw [List.drop_of_length_le (by omega), packS_nil, List.append_nil]; exact Ev.now _
theorem ref21Words (l : List Int) (hW : IsW l) (hl : l.length ≤ 1000000000) : Ev (fun k => capnpref21_Words.f k l) (packS l) := by
 have := ref21_l0 l hW hl l.length 0 (by omega) [] (by first | (simp; done) | (simp; omega))
 rwa [List.nil_append, List.drop_zero] at this
theorem refSame_l0 (a b : List Int) (hl : a.length = b.length) (ha : a.length ≤ 140737488355328) : ∀ d i : Nat, i + d = a.length → Ev (fun k => capnpref01_Same.l0 k a b (i : Int)) (decide (a.drop i = b.drop i)) := by
 intro d
 induction d with
 | zero =>
  intro i hi
  refine Ev.step (f := fun _ => some true) (fun k => ?_) ?_
  ·simp only [capnpref01_Same.l0]; rw [if_neg (by omega)]
  ·rw [List.drop_of_length_le (by omega), List.drop_of_length_le (by omega), decide_eq_true rfl]; exact Ev.now _
 | succ d ih =>
  intro i hi
  rw [drop_rd (show i < a.length by omega), drop_rd (show i < b.length by omega)]
  by_cases e : rd a (i : Int) = rd b (i : Int)
  ·refine Ev.step (f := fun k => capnpref01_Same.l0 k a b ((i + 1 : Nat) : Int)) (fun k => ?_) ?_
   ·simp only [capnpref01_Same.l0]
    rw [if_pos (by omega), if_pos (by omega), if_pos (by omega), if_pos e, w64 (by omega) (by omega), show (i : Int) + 1 = ((i + 1 : Nat) : Int) by omega]
   ·have := ih (i + 1) (by omega)
    simpa [e] using this
  ·refine Ev.step (f := fun _ => some false) (fun k => ?_) ?_
   ·simp only [capnpref01_Same.l0]
    rw [if_pos (by omega), if_pos (by omega), if_pos (by omega), if_neg e]
   ·have : decide (rd a (i : Int) :: a.drop (i + 1) = rd b (i : Int) :: b.drop (i + 1)) = false := by simp [e]
    rw [this]; exact Ev.now _
theorem refSame (a b : List Int) (ha : a.length ≤ 140737488355328) : Ev (fun k => capnpref01_Same.f k a b) (decide (a = b)) := by
 by_cases hl : a.length = b.length
 ·refine Ev.congr (fun k => ?_) (refSame_l0 a b hl ha a.length 0 (by omega))
  unfold capnpref01_Same.f
  rw [if_pos (by omega)]; rfl
 ·refine Ev.congr (f := fun _ => some (decide (a = b))) (fun k => ?_) (Ev.now _)
  unfold capnpref01_Same.f
  rw [if_neg (by omega), decide_eq_false (fun h => hl (by rw [h]))]
theorem refCanonical {p : List Int} (hB : IsB p) (hp : p.length ≤ 400000) : Ev (fun k => capnpref23_Canonical.f k p) (decide ((decS p).2 = false ∧ p = packS (decS p).1)) := by
 unfold capnpref23_Canonical.f
 refine Ev.bind (refDecodable hB (by omega)) ?_
 have hl := decS_len hB
 by_cases h : (decS p).2 = true
 ·rw [decide_eq_false (fun q => by rw [h] at q; exact absurd q.1 (by decide))]
  exact Ev.congr (fun k => if_pos h) (Ev.now _)
 ·have h' : (decS p).2 = false := by simpa using h
  refine Ev.congr (fun k => if_neg h) (Ev.bind (ref21Words _ (decS_W hB) (by omega)) (Ev.bind (refSame p _ (by omega)) ?_))
  have e : decide (p = packS (decS p).1) = decide ((decS p).2 = false ∧ p = packS (decS p).1) := by simp [h']
  rw [e]
  exact Ev.now _
theorem refCovers_l0 : ∀ (d i : Nat), i + d = 8 → ∀ a t : Int, 0 ≤ a → a < 256 → 0 ≤ t → t < 256 → Ev (fun k => capnpref23_Covers.l0 k a t (i : Int)) (Un.covF d a t) := by
 intro d
 induction d with
 | zero =>
  intro i hi a t _ _ _ _
  refine Ev.step (f := fun _ => some true) (fun k => ?_) (Ev.now _)
  simp only [capnpref23_Covers.l0]
  rw [if_neg (by omega)]
 | succ d ih =>
  intro i hi a t a0 a1 t0 t1
  have c1 : (i : Int) < 8 := by omega
  have wi := wrap_succ i (by omega)
  have ma : Int.tmod a 2 = a % 2 := Int.tmod_eq_emod_of_nonneg a0
  have mt : Int.tmod t 2 = t % 2 := Int.tmod_eq_emod_of_nonneg t0
  have da : Int.tdiv a 2 = a / 2 := Int.tdiv_eq_ediv_of_nonneg a0
  have dt : Int.tdiv t 2 = t / 2 := Int.tdiv_eq_ediv_of_nonneg t0
  have wa : wrap64 (a / 2) = a / 2 := w64 (by omega) (by omega)
  have wt : wrap64 (t / 2) = t / 2 := w64 (by omega) (by omega)
  have hih := ih (i + 1) (by omega) (a / 2) (t / 2) (by omega) (by omega) (by omega) (by omega)
  unfold Un.covF
  by_cases q : t % 2 = 1
  ·rw [if_pos q]
   by_cases q2 : a % 2 = 0
   ·rw [if_pos q2]
    refine Ev.step (f := fun _ => some false) (fun k => ?_) (Ev.now _)
    simp only [capnpref23_Covers.l0]
    rw [if_pos c1, mt, if_pos q, ma, if_pos q2]
   ·rw [if_neg q2]
    refine Ev.step (fun k => ?_) hih
    simp only [capnpref23_Covers.l0]
    rw [if_pos c1, mt, if_pos q, ma, if_neg q2, da, dt, wa, wt, wi]
  ·rw [if_neg q]
   refine Ev.step (fun k => ?_) hih
   simp only [capnpref23_Covers.l0]
   rw [if_pos c1, mt, if_neg q, da, dt, wa, wt, wi]
theorem refCovers {a t : Int} (a0 : 0 ≤ a) (a1 : a < 256) (t0 : 0 ≤ t) (t1 : t < 256) : Ev (fun k => capnpref23_Covers.f k a t) (Un.covF 8 a t) :=
 refCovers_l0 8 0 rfl a t a0 a1 t0 t1
theorem refZeros (l : List Int) (hl : l.length ≤ 1000000) : ∃ z : Nat, z ≤ min l.length 256 ∧ (∀ j : Nat, j < z → rd l (j : Int) = 0) ∧ (z < min l.length 256 → rd l (z : Int) ≠ 0) ∧ Ev (fun k => capnpref23_zeros.f k l) (z : Int) := by
 have key : ∀ d i : Nat, i + d = min l.length 256 → (∀ j : Nat, j < i → rd l (j : Int) = 0) → ∃ z : Nat, z ≤ min l.length 256 ∧ (∀ j : Nat, j < z → rd l (j : Int) = 0) ∧ (z < min l.length 256 → rd l (z : Int) ≠ 0) ∧ Ev (fun k => capnpref23_zeros.l0 k l (i : Int)) (z : Int) := by
  intro d
  induction d with
  | zero =>
   intro i hi hz
   refine ⟨i, by omega, hz, fun h => by omega, Ev.step (f := fun _ => some (i : Int)) (fun k => ?_) (Ev.now _)⟩
   simp only [capnpref23_zeros.l0]
   by_cases h : (i : Int) < (l.length : Int)
   ·rw [if_pos h, if_neg (by omega)]
   ·rw [if_neg h]
  | succ d ih =>
   intro i hi hz
   have c1 : (i : Int) < (l.length : Int) := by omega
   have c2 : (i : Int) < 256 := by omega
   have c3 : 0 ≤ (i : Int) := by omega
   by_cases h : rd l (i : Int) = 0
   ·obtain ⟨z, h1, h2, h3, h4⟩ := ih (i + 1) (by omega) (fun j hj => by
     by_cases e : j = i
     ·rw [e]; exact h
     ·exact hz j (by omega))
    refine ⟨z, h1, h2, h3, Ev.step (fun k => ?_) h4⟩
    simp only [capnpref23_zeros.l0]
    rw [if_pos c1, if_pos c2, if_pos c3, if_pos h, wrap_succ i (by omega)]
   ·refine ⟨i, by omega, hz, fun _ => h, Ev.step (f := fun _ => some (i : Int)) (fun k => ?_) (Ev.now _)⟩
    simp only [capnpref23_zeros.l0]
    rw [if_pos c1, if_pos c2, if_pos c3, if_neg h]
 exact key (min l.length 256) 0 (by omega) (fun j hj => by omega)
theorem refWays_l2 (l S0 : List Int) (j z : Nat) (hj : j < l.length) (hl : l.length ≤ 1000000) (hS : S0.length = l.length + 1) (r : Int) : ∀ (d n : Nat), n + d = min (l.length - j) 256 + 1 → 1 ≤ n → ∀ c : Int, 0 ≤ c → c < 18446744073709551616 →
  Ev (fun k => capnpref23_Ways.l0 k l (S0.set j ((c + UnWays.restF (l.drop j) (fun n => rd S0 ((j + n : Nat) : Int)) z d n) % 18446744073709551616)) ((j : Int) - 1)) r →
  Ev (fun k => capnpref23_Ways.l2 k l (S0.set j c) (j : Int) (z : Int) (n : Int)) r := by
 intro d
 induction d with
 | zero =>
  intro n hn h1 c c0 c1 h
  rw [UnWays.restF, Int.add_zero, Int.emod_eq_of_lt c0 c1] at h
  have wj : wrap64 ((j : Int) - 1) = (j : Int) - 1 := w64 (by omega) (by omega)
  have hlast : Ev (fun k => capnpref23_Ways.j3 k l (S0.set j c) (j : Int) (z : Int) (n : Int) false) r := Ev.step (fun k => by simp only [capnpref23_Ways.j3]; rw [if_neg (by decide), wj]) h
  refine Ev.step (f := fun k => capnpref23_Ways.j3 k l (S0.set j c) (j : Int) (z : Int) (n : Int) false) (fun k => ?_) hlast
  simp only [capnpref23_Ways.l2]
  by_cases q : (n : Int) ≤ 256
  ·rw [if_pos q, decide_eq_false (by rw [w64 (x := (j : Int) + (n : Int)) (by omega) (by omega)]; omega)]
  ·rw [if_neg q]
 | succ d ih =>
  intro n hn h1 c c0 c1 h
  have q : (n : Int) ≤ 256 := by omega
  have wjn : wrap64 ((j : Int) + (n : Int)) = ((j + n : Nat) : Int) := by rw [w64 (by omega) (by omega)]; omega
  have d1 : ((j + n : Nat) : Int) ≤ (l.length : Int) := by omega
  have d2 : 0 ≤ (j : Int) := by omega
  have hlen : ∀ x : Int, (S0.set j x).length = l.length + 1 := fun x => by rw [List.length_set]; exact hS
  have d3 : ∀ x : Int, (j : Int) < ((S0.set j x).length : Int) := fun x => by rw [hlen]; omega
  have d4 : 0 ≤ ((j + n : Nat) : Int) := by omega
  have d5 : ∀ x : Int, ((j + n : Nat) : Int) < ((S0.set j x).length : Int) := fun x => by rw [hlen]; omega
  have wn := wrap_succ n (by omega)
  have rj : ∀ x : Int, rd (S0.set j x) (j : Int) = x := fun x => Un.rd_set_eq S0 j x (by omega)
  have rn : ∀ x : Int, rd (S0.set j x) ((j + n : Nat) : Int) = rd S0 ((j + n : Nat) : Int) := fun x => Un.rd_set_ne S0 j (j + n) x (by omega)
  have hz : ((n : Int) ≤ (z : Int)) = (n ≤ z) := by rw [eq_iff_iff]; omega
  have m0 : ∀ x : Int, 0 ≤ x % 18446744073709551616 := fun x => Int.emod_nonneg _ (by decide)
  have m1 : ∀ x : Int, x % 18446744073709551616 < 18446744073709551616 := fun x => Int.emod_lt_of_pos _ (by decide)
  rw [UnWays.restF] at h
  obtain ⟨y, hy⟩ : ∃ y, y = rd S0 ((j + n : Nat) : Int) := ⟨_, rfl⟩
  rw [← hy] at rn
  simp only [← hy] at h
  refine Ev.step (f := fun k => capnpref23_Ways.j3 k l (S0.set j c) (j : Int) (z : Int) (n : Int) true) (fun k => ?_) ?_
  ·simp only [capnpref23_Ways.l2]
   rw [if_pos q, wjn, decide_eq_true d1]
  ·by_cases hnz : n ≤ z
   ·rw [if_pos hnz] at h
    refine Ev.step (fun k => ?_) (ih (n + 1) (by omega) (by omega) ((((c + y) % 18446744073709551616) + y) % 18446744073709551616) (m0 _) (m1 _) ?_)
    ·simp only [capnpref23_Ways.j3]
     rw [if_pos trivial, if_pos d2, if_pos (d3 c), wjn, if_pos d4, if_pos (d5 c), rj, rn, Int.toNat_natCast, List.set_set, Option.bind_some, if_pos (by rw [hz]; exact hnz), rj, rn, List.set_set, wn, wu_mod, wu_mod]
    ·rw [show ((((c + y) % 18446744073709551616) + y) % 18446744073709551616 + UnWays.restF (l.drop j) (fun n => rd S0 ((j + n : Nat) : Int)) z d (n + 1)) % 18446744073709551616 = (c + (y + y + UnWays.restF (l.drop j) (fun n => rd S0 ((j + n : Nat) : Int)) z d (n + 1))) % 18446744073709551616 by omega]
     exact h
   ·rw [if_neg hnz] at h
    refine Ev.step (fun k => ?_) (ih (n + 1) (by omega) (by omega) ((c + y) % 18446744073709551616) (m0 _) (m1 _) ?_)
    ·simp only [capnpref23_Ways.j3]
     rw [if_pos trivial, if_pos d2, if_pos (d3 c), wjn, if_pos d4, if_pos (d5 c), rj, rn, Int.toNat_natCast, List.set_set, Option.bind_some, if_neg (by rw [hz]; exact hnz), wn, wu_mod]
    ·rw [show ((c + y) % 18446744073709551616 + UnWays.restF (l.drop j) (fun n => rd S0 ((j + n : Nat) : Int)) z d (n + 1)) % 18446744073709551616 = (c + (y + 0 + UnWays.restF (l.drop j) (fun n => rd S0 ((j + n : Nat) : Int)) z d (n + 1))) % 18446744073709551616 by omega]
     exact h
theorem refWays_l1 (l S0 : List Int) (j : Nat) (t : Int) (t0 : 0 ≤ t) (t1 : t < 256) (hj : j < l.length) (hl : l.length ≤ 1000000) (hS : S0.length = l.length + 1) (r : Int) : ∀ (d a : Nat), a + d = 255 → 1 ≤ a → ∀ c : Int, 0 ≤ c → c < 18446744073709551616 →
  Ev (fun k => (capnpref23_zeros.f k (l.drop j)).bind fun z => capnpref23_Ways.l2 k l (S0.set j ((c + Un.cntF t d (a : Int) * rd S0 ((j + 1 : Nat) : Int)) % 18446744073709551616)) (j : Int) z 1) r →
  Ev (fun k => capnpref23_Ways.l1 k l (S0.set j c) (j : Int) t (a : Int)) r := by
 intro d
 induction d with
 | zero =>
  intro a ha h1 c c0 c1 h
  rw [Un.cntF, Int.zero_mul, Int.add_zero, Int.emod_eq_of_lt c0 c1] at h
  refine Ev.step (fun k => ?_) h
  simp only [capnpref23_Ways.l1]
  rw [if_neg (by omega), if_pos (by omega), if_pos (by omega), Int.toNat_natCast]
 | succ d ih =>
  intro a ha h1 c c0 c1 h
  have q : (a : Int) < 255 := by omega
  have wa := wrap_succ a (by omega)
  have wj := wrap_succ j (by omega)
  have d2 : 0 ≤ (j : Int) := by omega
  have hlen : (S0.set j c).length = l.length + 1 := by rw [List.length_set]; exact hS
  have d3 : (j : Int) < ((S0.set j c).length : Int) := by rw [hlen]; omega
  have d4 : 0 ≤ ((j + 1 : Nat) : Int) := by omega
  have d5 : ((j + 1 : Nat) : Int) < ((S0.set j c).length : Int) := by rw [hlen]; omega
  have rj : rd (S0.set j c) (j : Int) = c := Un.rd_set_eq S0 j c (by omega)
  have rn : rd (S0.set j c) ((j + 1 : Nat) : Int) = rd S0 ((j + 1 : Nat) : Int) := Un.rd_set_ne S0 j (j + 1) c (by omega)
  have hC := refCovers (a := (a : Int)) (t := t) (by omega) (by omega) t0 t1
  rw [Un.cntF] at h
  obtain ⟨y, hy⟩ : ∃ y, y = rd S0 ((j + 1 : Nat) : Int) := ⟨_, rfl⟩
  rw [← hy] at rn
  simp only [← hy] at h
  by_cases hcov : Un.covF 8 (a : Int) t = true
  ·rw [if_pos hcov] at h
   rw [hcov] at hC
   refine Ev.step (f := fun k => (capnpref23_Covers.f k (a : Int) t).bind fun b => if b = true then capnpref23_Ways.l1 k l (S0.set j ((c + y) % 18446744073709551616)) (j : Int) t ((a + 1 : Nat) : Int) else capnpref23_Ways.l1 k l (S0.set j c) (j : Int) t ((a + 1 : Nat) : Int)) (fun k => ?_) (Ev.bind hC (Ev.congr (fun k => if_pos rfl) (ih (a + 1) (by omega) (by omega) ((c + y) % 18446744073709551616) (Int.emod_nonneg _ (by decide)) (Int.emod_lt_of_pos _ (by decide)) ?_)))
   ·simp only [capnpref23_Ways.l1]
    rw [if_pos q, if_pos d2, if_pos d3, wj, if_pos d4, if_pos d5, rj, rn, Int.toNat_natCast, List.set_set, wa, wu_mod]
   ·simp only [← hy]
    have e : ((c + y) % 18446744073709551616 + Un.cntF t d ((a + 1 : Nat) : Int) * y) % 18446744073709551616 = (c + (1 + Un.cntF t d ((a : Int) + 1)) * y) % 18446744073709551616 := by
     rw [Int.emod_add_emod, Int.add_mul, Int.one_mul, Int.add_assoc]; rfl
    rw [e]
    exact h
  ·rw [if_neg hcov] at h
   have hcf : Un.covF 8 (a : Int) t = false := by simpa using hcov
   rw [hcf] at hC
   refine Ev.step (f := fun k => (capnpref23_Covers.f k (a : Int) t).bind fun b => if b = true then capnpref23_Ways.l1 k l (S0.set j ((c + y) % 18446744073709551616)) (j : Int) t ((a + 1 : Nat) : Int) else capnpref23_Ways.l1 k l (S0.set j c) (j : Int) t ((a + 1 : Nat) : Int)) (fun k => ?_) (Ev.bind hC (Ev.congr (fun k => if_neg (by decide)) (ih (a + 1) (by omega) (by omega) c c0 c1 ?_)))
   ·simp only [capnpref23_Ways.l1]
    rw [if_pos q, if_pos d2, if_pos d3, wj, if_pos d4, if_pos d5, rj, rn, Int.toNat_natCast, List.set_set, wa, wu_mod]
   ·simp only [← hy]
    rw [show (0 : Int) + Un.cntF t d ((a : Int) + 1) = Un.cntF t d ((a + 1 : Nat) : Int) by rw [Int.zero_add]; rfl] at h
    exact h
theorem refWays_l0 (l : List Int) (hW : IsW l) (hl : l.length ≤ 1000000) : ∀ (i : Nat) (S : List Int), i ≤ l.length → S.length = l.length + 1 → (∀ j, i ≤ j → j ≤ l.length → rd S (j : Int) = UnWays.Dv (l.drop j)) → (∀ j, j < i → rd S (j : Int) = 0) → Ev (fun k => capnpref23_Ways.l0 k l S ((i : Int) - 1)) (UnWays.Dv l) := by
 intro i
 induction i with
 | zero =>
  intro S _ hS h1 _
  have := h1 0 (Nat.le_refl _) (Nat.zero_le _)
  rw [List.drop_zero] at this
  refine Ev.step (f := fun _ => some (UnWays.Dv l)) (fun k => ?_) (Ev.now _)
  simp only [capnpref23_Ways.l0]
  rw [if_neg (by omega), if_pos (by omega), show rd S 0 = UnWays.Dv l from this]
 | succ j ih =>
  intro S hi hS h1 h2
  have hj : j < l.length := by omega
  have hd : 0 < (l.drop j).length := by rw [List.length_drop]; omega
  have r0 : rd (l.drop j) 0 = rd l (j : Int) := rd_drop l j 0
  have hw := hW _ (Un.rd_mem_at hj)
  have ht := ofS_range (rd l (j : Int))
  obtain ⟨z, z1, z2, z3, z4⟩ := refZeros (l.drop j) (by rw [List.length_drop]; omega)
  have hdv := UnWays.Dv_sum hd (by rw [r0]; exact hw) z z2 z1 z3
  rw [r0, List.length_drop] at hdv
  have hnx : ∀ n, 1 ≤ n → n ≤ l.length - j → rd S ((j + n : Nat) : Int) = UnWays.Dv ((l.drop j).drop n) := fun n n1 n2 => by rw [h1 (j + n) (by omega) (by omega), List.drop_drop]
  have hrest : ∀ d n, 1 ≤ n → n + d ≤ l.length - j + 1 → UnWays.restF (l.drop j) (fun n => rd S ((j + n : Nat) : Int)) z d n = UnWays.restF (l.drop j) (fun n => UnWays.Dv ((l.drop j).drop n)) z d n := by
   intro d
   induction d with
   | zero => intro n _ _; rfl
   | succ d ih2 => intro n n1 n2; rw [UnWays.restF, UnWays.restF, ih2 (n + 1) (by omega) (by omega), hnx n n1 (by omega)]
  have hset : S.set j 0 = S := by have := Un.set_rd S j (by omega); rwa [h2 j (Nat.lt_succ_self _)] at this
  have c1 : ((j + 1 : Nat) : Int) - 1 = (j : Int) := by omega
  have hOf := refOf _ hw.1 hw.2
  rw [c1]
  refine Ev.step (f := fun k => (capnpref20_Of.f k (rd l (j : Int))).bind fun t => capnpref23_Ways.l1 k l S (j : Int) (wrap64 t) 1) (fun k => ?_) (Ev.bind hOf ?_)
  ·simp only [capnpref23_Ways.l0]
   rw [if_pos (by omega), if_pos (by omega), if_pos (by omega)]
  ·rw [w64 (x := ofS (rd l (j : Int))) (by omega) (by omega), ← hset]
   refine refWays_l1 l S j _ ht.1 ht.2 hj hl hS _ 254 1 rfl (Nat.le_refl _) 0 (by decide) (by decide) ?_
   refine Ev.bind z4 ?_
   refine refWays_l2 l S j z hj hl hS _ (min (l.length - j) 256) 1 (by omega) (Nat.le_refl _) _ (Int.emod_nonneg _ (by decide)) (Int.emod_lt_of_pos _ (by decide)) ?_
   rw [hrest _ 1 (Nat.le_refl _) (by omega), hnx 1 (Nat.le_refl _) (by omega), Int.zero_add, Int.emod_add_emod]
   have e : (Un.cntF (ofS (rd l (j : Int))) 254 ((1 : Nat) : Int) * UnWays.Dv ((l.drop j).drop 1) + UnWays.restF (l.drop j) (fun n => UnWays.Dv ((l.drop j).drop n)) z (min (l.length - j) 256) 1) % 18446744073709551616 = UnWays.Dv (l.drop j) := hdv.symm
   rw [e]
   refine ih (S.set j (UnWays.Dv (l.drop j))) (by omega) (by rw [List.length_set]; exact hS) (fun q q1 q2 => ?_) (fun q q1 => ?_)
   ·by_cases e : j = q
    ·subst e; rw [Un.rd_set_eq _ _ _ (by omega)]
    ·rw [Un.rd_set_ne _ _ _ _ e]; exact h1 q (by omega) q2
   ·rw [Un.rd_set_ne _ _ _ _ (by omega)]; exact h2 q (by omega)
theorem refWays {l : List Int} (hW : IsW l) (hl : l.length ≤ 1000000) : Ev (fun k => capnpref23_Ways.f k l) (UnWays.Dv l) := by
 have w1 := wrap_succ l.length (by omega)
 have w2 : wrap64 ((l.length : Int) - 1) = (l.length : Int) - 1 := w64 (by omega) (by omega)
 refine Ev.congr (f := fun k => capnpref23_Ways.l0 k l ((List.replicate (l.length + 1) 0).set l.length 1) ((l.length : Int) - 1)) (fun k => ?_) (refWays_l0 l hW hl l.length _ (Nat.le_refl _) (by simp) (fun j h1 h2 => ?_) (fun j hj => ?_))
 ·unfold capnpref23_Ways.f
  rw [w1, w2, if_pos (by omega), Int.toNat_natCast, if_pos (by omega), Option.bind_some, if_pos (by omega), if_pos (by simp; omega), Int.toNat_natCast]
 ·obtain rfl : j = l.length := by omega
  rw [List.drop_length, UnWays.Dv_nil, Un.rd_set_eq _ _ _ (by simp)]
 ·rw [Un.rd_set_ne _ _ _ _ (by omega)]; exact UnWays.rd_rep0 _ _
def PC (ws : List Int) (c : Int) : Prop := ∃ (size : Int) (n : Nat), UnShortest.Ch ws size n ∧ c = size + UnShortest.Dv (ws.drop n)
theorem PC_bounds {ws : List Int} {c : Int} (hl : ws.length ≤ 1000000) (h : PC ws c) : 0 ≤ c ∧ c ≤ 100000000 ∧ UnShortest.Dv ws ≤ c := by
 obtain ⟨size, n, hc, e⟩ := h
 have hs := UnShortest.Ch_size hc
 have hd := UnShortest.Dv_spec _ (ws.drop n) (Nat.le_refl _) (by rw [List.length_drop]; omega)
 rw [List.length_drop] at hd
 have ha := UnShortest.Dv_A hl hc
 omega
theorem PC_mn {ws : List Int} {x y : Int} (hx : PC ws x) (hy : PC ws y) : PC ws (mn x y) := by unfold mn; split <;> assumption
theorem mn_le (x y : Int) : mn x y ≤ x ∧ mn x y ≤ y := by unfold mn; split <;> omega
theorem PC_tag {ws : List Int} (h0 : 0 < ws.length) (a : Nat) (a1 : 1 ≤ a) (a2 : a < 255) (hc : Un.covF 8 (a : Int) (ofS (rd ws 0)) = true) : PC ws (1 + ((onesS (a : Int) : Nat) : Int) + UnShortest.Dv (ws.drop 1)) := by
 have ht := ofS_range (rd ws 0)
 have e1 := Un.cov_ones ⟨(ofS (rd ws 0)).toNat, by omega⟩ ⟨a, by omega⟩ (by simp only [Int.toNat_of_nonneg ht.1]; exact hc)
 have e2 := Un.ones_le7 ⟨a, by omega⟩ (by simp only []; omega)
 have e3 := UnShortest.ones_pos ⟨a, by omega⟩ (by simp only []; omega)
 simp only [Int.toNat_of_nonneg ht.1] at e1
 simp only [] at e2 e3
 refine ⟨1 + ((onesS (a : Int) : Nat) : Int), 1, ⟨Nat.le_refl _, by omega, by omega, .inl ⟨rfl, onesS (a : Int) - onesS (ofS (rd ws 0)), by omega, by omega, by omega⟩⟩, rfl⟩
theorem refShort_l1 (l S0 : List Int) (j : Nat) (hj : j < l.length) (hl : l.length ≤ 1000000) (hS : S0.length = l.length + 1) (hnx : rd S0 ((j + 1 : Nat) : Int) = UnShortest.Dv ((l.drop j).drop 1)) (r : Int) : ∀ (d a : Nat), a + d = 255 → 1 ≤ a → ∀ c : Int, PC (l.drop j) c →
  (∀ c' : Int, PC (l.drop j) c' → c' ≤ c → (∀ q : Nat, a ≤ q → q < 255 → Un.covF 8 (q : Int) (ofS (rd (l.drop j) 0)) = true → c' ≤ 1 + ((onesS (q : Int) : Nat) : Int) + UnShortest.Dv ((l.drop j).drop 1)) →
   Ev (fun k => (capnpref23_zeros.f k (l.drop j)).bind fun z => capnpref23_Shortest.l2 k l (S0.set j c') (j : Int) z 1) r) →
  Ev (fun k => capnpref23_Shortest.l1 k l (S0.set j c) (j : Int) (ofS (rd (l.drop j) 0)) (a : Int)) r := by
 have HNX := Aside0.mk hnx
 clear hnx
 intro d
 induction d with
 | zero =>
  intro a ha h1 c hc h
  refine Ev.step (fun k => ?_) (h c hc (Int.le_refl _) (fun q q1 q2 => by omega))
  simp only [capnpref23_Shortest.l1]
  rw [if_neg (by omega), if_pos (by omega), if_pos (by omega), Int.toNat_natCast]
 | succ d ih =>
  intro a ha h1 c hc h
  have q : (a : Int) < 255 := by omega
  have wa0 := wrap_succ a (by omega)
  have WA := Aside0.mk wa0
  clear wa0
  have wj0 := wrap_succ j (by omega)
  have WJ := Aside0.mk wj0
  clear wj0
  have d2 : 0 ≤ (j : Int) := by omega
  have hlen : (S0.set j c).length = l.length + 1 := by rw [List.length_set]; exact hS
  have d3 : (j : Int) < ((S0.set j c).length : Int) := by rw [hlen]; omega
  have d4 : 0 ≤ ((j + 1 : Nat) : Int) := by omega
  have d5 : ((j + 1 : Nat) : Int) < ((S0.set j c).length : Int) := by rw [hlen]; omega
  have rj0 : rd (S0.set j c) (j : Int) = c := Un.rd_set_eq S0 j c (by omega)
  have RJ := Aside0.mk rj0
  clear rj0
  have rn : rd (S0.set j c) ((j + 1 : Nat) : Int) = UnShortest.Dv ((l.drop j).drop 1) := by rw [Un.rd_set_ne S0 j (j + 1) c (by omega), HNX.out]
  have hd0 : 0 < (l.drop j).length := by rw [List.length_drop]; omega
  have ht0 := ofS_range (rd (l.drop j) 0)
  have HT := Aside0.mk ht0
  clear ht0
  have hC := refCovers (a := (a : Int)) (t := ofS (rd (l.drop j) 0)) (by omega) (by omega) HT.out.1 HT.out.2
  by_cases hcov : Un.covF 8 (a : Int) (ofS (rd (l.drop j) 0)) = true
  ·rw [hcov] at hC
   have hp := PC_tag hd0 a h1 (by omega) hcov
   have hb := PC_bounds (by rw [List.length_drop]; omega) hp
   have hO := refOnes (t := (a : Int)) (by omega) (by omega)
   have hm : (a : Int) % 256 = (a : Int) := by omega
   have hol := onesS_le (a : Int)
   have hdv := UnShortest.Dv_0 (ws := (l.drop j).drop 1) (by rw [List.length_drop, List.length_drop]; omega)
   obtain ⟨on, hon⟩ : ∃ on, on = onesS (a : Int) := ⟨_, rfl⟩
   rw [← hon] at hO hol hp hb
   obtain ⟨y, hy⟩ : ∃ y, y = UnShortest.Dv ((l.drop j).drop 1) := ⟨_, rfl⟩
   rw [← hy] at rn hp hb hdv
   have RN := Aside0.mk rn
   clear rn
   have HY := Aside0.mk hy
   clear hy
   have HON := Aside0.mk hon
   clear hon
   have w10 : wrap64 (1 + (on : Int)) = 1 + (on : Int) := w64 (by omega) (by omega)
   have W1 := Aside0.mk w10
   clear w10
   have w20 : wrap64 (1 + (on : Int) + y) = 1 + (on : Int) + y := w64 (by omega) (by omega)
   have W2 := Aside0.mk w20
   clear w20
   have hmn := mn_le c (1 + (on : Int) + y)
   refine Ev.step (f := fun k => (capnpref23_Covers.f k (a : Int) (ofS (rd (l.drop j) 0))).bind fun b => if b = true then (capnpref20_Ones.f k (a : Int)).bind fun t => capnpref23_Shortest.l1 k l (S0.set j (mn c (wrap64 (wrap64 (1 + t) + y)))) (j : Int) (ofS (rd (l.drop j) 0)) ((a + 1 : Nat) : Int) else capnpref23_Shortest.l1 k l (S0.set j c) (j : Int) (ofS (rd (l.drop j) 0)) ((a + 1 : Nat) : Int)) (fun k => ?_) (Ev.bind hC (Ev.congr (fun k => if_pos rfl) (Ev.bind hO ?_)))
   ·simp only [capnpref23_Shortest.l1]
    rw [if_pos q, if_pos d2, if_pos d3, WJ.out]
    simp only [if_pos d4, if_pos d5, RJ.out, RN.out, Int.toNat_natCast, WA.out, hm, List.set_set]
   ·rw [W1.out, W2.out]
    refine ih (a + 1) (by omega) (by omega) (mn c (1 + (on : Int) + y)) (PC_mn hc hp) (fun c' p1 p2 p3 => h c' p1 (by omega) (fun q q1 q2 q3 => ?_))
    by_cases e : q = a
    ·subst e; rw [← HON.out, ← HY.out]; omega
    ·exact p3 q (by omega) q2 q3
  ·have RN := Aside0.mk rn
   clear rn
   have hcf : Un.covF 8 (a : Int) (ofS (rd (l.drop j) 0)) = false := by simpa using hcov
   rw [hcf] at hC
   refine Ev.step (f := fun k => (capnpref23_Covers.f k (a : Int) (ofS (rd (l.drop j) 0))).bind fun b => if b = true then (capnpref20_Ones.f k (a : Int)).bind fun t => capnpref23_Shortest.l1 k l (S0.set j (mn c (wrap64 (wrap64 (1 + t) + UnShortest.Dv ((l.drop j).drop 1))))) (j : Int) (ofS (rd (l.drop j) 0)) ((a + 1 : Nat) : Int) else capnpref23_Shortest.l1 k l (S0.set j c) (j : Int) (ofS (rd (l.drop j) 0)) ((a + 1 : Nat) : Int)) (fun k => ?_) (Ev.bind hC (Ev.congr (fun k => if_neg (by decide)) (ih (a + 1) (by omega) (by omega) c hc (fun c' p1 p2 p3 => h c' p1 p2 (fun q q1 q2 q3 => ?_)))))
   ·simp only [capnpref23_Shortest.l1]
    rw [if_pos q, if_pos d2, if_pos d3, WJ.out]
    simp only [if_pos d4, if_pos d5, RJ.out, RN.out, Int.toNat_natCast, WA.out, show (a : Int) % 256 = (a : Int) by omega, List.set_set]
   ·by_cases e : q = a
    ·subst e; rw [hcf] at q3; exact absurd q3 (by decide)
    ·exact p3 q (by omega) q2 q3
theorem refShort_l2 (l S0 : List Int) (j z : Nat) (hj : j < l.length) (hl : l.length ≤ 1000000) (hS : S0.length = l.length + 1) (hnx : ∀ n, 1 ≤ n → n ≤ l.length - j → rd S0 ((j + n : Nat) : Int) = UnShortest.Dv ((l.drop j).drop n)) (hz : ∀ q : Nat, q < z → rd (l.drop j) (q : Int) = 0) (r : Int) : ∀ (d n : Nat), n + d = min (l.length - j) 256 + 1 → 1 ≤ n → ∀ c : Int, PC (l.drop j) c →
  (∀ c' : Int, PC (l.drop j) c' → c' ≤ c → (∀ q : Nat, n ≤ q → q ≤ min (l.length - j) 256 → c' ≤ 2 + 8 * (q : Int) + UnShortest.Dv ((l.drop j).drop q) ∧ (q ≤ z → c' ≤ 2 + UnShortest.Dv ((l.drop j).drop q))) → Ev (fun k => capnpref23_Shortest.l0 k l (S0.set j c') ((j : Int) - 1)) r) →
  Ev (fun k => capnpref23_Shortest.l2 k l (S0.set j c) (j : Int) (z : Int) (n : Int)) r := by
 intro d
 induction d with
 | zero =>
  intro n hn h1 c hc h
  have wj : wrap64 ((j : Int) - 1) = (j : Int) - 1 := w64 (by omega) (by omega)
  have hlast : Ev (fun k => capnpref23_Shortest.j3 k l (S0.set j c) (j : Int) (z : Int) (n : Int) false) r := Ev.step (fun k => by simp only [capnpref23_Shortest.j3]; rw [if_neg (by decide), wj]) (h c hc (Int.le_refl _) (fun q q1 q2 => by omega))
  refine Ev.step (f := fun k => capnpref23_Shortest.j3 k l (S0.set j c) (j : Int) (z : Int) (n : Int) false) (fun k => ?_) hlast
  simp only [capnpref23_Shortest.l2]
  by_cases q : (n : Int) ≤ 256
  ·rw [if_pos q, decide_eq_false (by rw [w64 (x := (j : Int) + (n : Int)) (by omega) (by omega)]; omega)]
  ·rw [if_neg q]
 | succ d ih =>
  intro n hn h1 c hc h
  have q : (n : Int) ≤ 256 := by omega
  have wjn0 : wrap64 ((j : Int) + (n : Int)) = ((j + n : Nat) : Int) := by rw [w64 (by omega) (by omega)]; omega
  have WJN := Aside0.mk wjn0
  clear wjn0
  have d1 : ((j + n : Nat) : Int) ≤ (l.length : Int) := by omega
  have d2 : 0 ≤ (j : Int) := by omega
  have hlen : ∀ x : Int, (S0.set j x).length = l.length + 1 := fun x => by rw [List.length_set]; exact hS
  have d3 : ∀ x : Int, (j : Int) < ((S0.set j x).length : Int) := fun x => by rw [hlen]; omega
  have d4 : 0 ≤ ((j + n : Nat) : Int) := by omega
  have d5 : ∀ x : Int, ((j + n : Nat) : Int) < ((S0.set j x).length : Int) := fun x => by rw [hlen]; omega
  have wn0 := wrap_succ n (by omega)
  have WN := Aside0.mk wn0
  clear wn0
  have rj : ∀ x : Int, rd (S0.set j x) (j : Int) = x := fun x => Un.rd_set_eq S0 j x (by omega)
  have rn : ∀ x : Int, rd (S0.set j x) ((j + n : Nat) : Int) = UnShortest.Dv ((l.drop j).drop n) := fun x => by rw [Un.rd_set_ne S0 j (j + n) x (by omega), hnx n h1 (by omega)]
  have hzq : ((n : Int) ≤ (z : Int)) = (n ≤ z) := by rw [eq_iff_iff]; omega
  have hdv := UnShortest.Dv_0 (ws := (l.drop j).drop n) (by rw [List.length_drop, List.length_drop]; omega)
  have hc3 : PC (l.drop j) (2 + 8 * (n : Int) + UnShortest.Dv ((l.drop j).drop n)) := ⟨2 + 8 * (n : Int), n, ⟨h1, by rw [List.length_drop]; omega, by omega, .inr (.inr rfl)⟩, rfl⟩
  have hb := PC_bounds (by rw [List.length_drop]; omega) hc3
  have HZ := Aside0.mk hz
  have hc2 : n ≤ z → PC (l.drop j) (2 + UnShortest.Dv ((l.drop j).drop n)) := fun e => ⟨2, n, ⟨h1, by rw [List.length_drop]; omega, by omega, .inr (.inl ⟨rfl, fun i hi => hz i (by omega)⟩)⟩, rfl⟩
  obtain ⟨y, hy⟩ : ∃ y, y = UnShortest.Dv ((l.drop j).drop n) := ⟨_, rfl⟩
  rw [← hy] at rn hdv hc3 hb hc2
  have RN := Aside0.mk rn
  clear rn
  have RJ := Aside0.mk rj
  clear rj
  have HY := Aside0.mk hy
  clear hy
  have w10 : wrap64 (8 * (n : Int)) = 8 * (n : Int) := w64 (by omega) (by omega)
  have W1 := Aside0.mk w10
  clear w10
  have w20 : wrap64 (2 + 8 * (n : Int)) = 2 + 8 * (n : Int) := w64 (by omega) (by omega)
  have W2 := Aside0.mk w20
  clear w20
  have w30 : wrap64 (2 + 8 * (n : Int) + y) = 2 + 8 * (n : Int) + y := w64 (by omega) (by omega)
  have W3 := Aside0.mk w30
  clear w30
  have w40 : wrap64 (2 + y) = 2 + y := w64 (by omega) (by omega)
  have W4 := Aside0.mk w40
  clear w40
  have m1 := mn_le c (2 + 8 * (n : Int) + y)
  have m2 := mn_le (mn c (2 + 8 * (n : Int) + y)) (2 + y)
  refine Ev.step (f := fun k => capnpref23_Shortest.j3 k l (S0.set j c) (j : Int) (z : Int) (n : Int) true) (fun k => ?_) ?_
  ·simp only [capnpref23_Shortest.l2]
   rw [if_pos q, WJN.out, decide_eq_true d1]
  ·by_cases hnz : n ≤ z
   ·refine Ev.step (fun k => ?_) (ih (n + 1) (by omega) (by omega) (mn (mn c (2 + 8 * (n : Int) + y)) (2 + y)) (PC_mn (PC_mn hc hc3) (hc2 hnz)) (fun c' p1 p2 p3 => h c' p1 (by omega) (fun i i1 i2 => ?_)))
    ·simp only [capnpref23_Shortest.j3]
     rw [if_pos trivial, if_pos d2, if_pos (d3 c), WJN.out, if_pos d4, if_pos (d5 c), RJ.out, RN.out, W1.out, W2.out, W3.out, Int.toNat_natCast, List.set_set, Option.bind_some, if_pos (by rw [hzq]; exact hnz), RJ.out, RN.out, W4.out, List.set_set, WN.out]
    ·by_cases e : i = n
     ·subst e; rw [← HY.out]; exact ⟨by omega, fun _ => by omega⟩
     ·exact p3 i (by omega) i2
   ·refine Ev.step (fun k => ?_) (ih (n + 1) (by omega) (by omega) (mn c (2 + 8 * (n : Int) + y)) (PC_mn hc hc3) (fun c' p1 p2 p3 => h c' p1 (by omega) (fun i i1 i2 => ?_)))
    ·simp only [capnpref23_Shortest.j3]
     rw [if_pos trivial, if_pos d2, if_pos (d3 c), WJN.out, if_pos d4, if_pos (d5 c), RJ.out, RN.out, W1.out, W2.out, W3.out, Int.toNat_natCast, List.set_set, Option.bind_some, if_neg (by rw [hzq]; exact hnz), WN.out]
    ·by_cases e : i = n
     ·subst e; rw [← HY.out]; exact ⟨by omega, fun e2 => by omega⟩
     ·exact p3 i (by omega) i2
theorem short_final {ws : List Int} (h0 : 0 < ws.length) (hl : ws.length ≤ 1000000) (z : Nat) (hz3 : z < min ws.length 256 → rd ws (z : Int) ≠ 0) {c : Int} (hc : PC ws c) (h1 : ∀ q : Nat, 1 ≤ q → q < 255 → Un.covF 8 (q : Int) (ofS (rd ws 0)) = true → c ≤ 1 + ((onesS (q : Int) : Nat) : Int) + UnShortest.Dv (ws.drop 1))
  (h2 : ∀ q : Nat, 1 ≤ q → q ≤ min ws.length 256 → c ≤ 2 + 8 * (q : Int) + UnShortest.Dv (ws.drop q) ∧ (q ≤ z → c ≤ 2 + UnShortest.Dv (ws.drop q))) : c = UnShortest.Dv ws := by
 have hb := PC_bounds hl hc
 obtain ⟨size, m, hch, e⟩ := UnShortest.Dv_B hl h0
 obtain ⟨c1, c2, c3, c4⟩ := hch
 have hq := h2 m c1 (by omega)
 rcases c4 with ⟨rfl, i, i1, i2, i3⟩ | ⟨i1, i2⟩ | i1
 ·have ht := ofS_range (rd ws 0)
  obtain ⟨t, htt⟩ : ∃ t, t = ofS (rd ws 0) := ⟨_, rfl⟩
  rw [← htt] at ht i1 i2 i3 h1
  by_cases t0 : t = 0
  ·have := h1 1 (by omega) (by omega) (by rw [t0]; decide)
   have o1 : onesS ((1 : Nat) : Int) = 1 := by decide
   have o0 : onesS t = 0 := by rw [t0]; decide
   rw [o1] at this
   rw [o0] at i1 i2 i3
   omega
  ·have t255 : t ≠ 255 := fun q => by rw [q, show onesS 255 = 8 by decide] at i1; omega
   have hcs := Un.cov_self ⟨t.toNat, by omega⟩
   simp only [Int.toNat_of_nonneg ht.1] at hcs
   have := h1 t.toNat (by omega) (by omega) (by rw [Int.toNat_of_nonneg ht.1]; exact hcs)
   rw [Int.toNat_of_nonneg ht.1] at this
   omega
 ·have : m ≤ z := by
   rcases Nat.lt_or_ge z m with h | h
   ·exact absurd (i2 z h) (hz3 (by omega))
   ·exact h
  have := hq.2 this
  omega
 ·omega
theorem refShort_l0 (l : List Int) (hW : IsW l) (hl : l.length ≤ 1000000) : ∀ (i : Nat) (S : List Int), i ≤ l.length → S.length = l.length + 1 → (∀ j, i ≤ j → j ≤ l.length → rd S (j : Int) = UnShortest.Dv (l.drop j)) → Ev (fun k => capnpref23_Shortest.l0 k l S ((i : Int) - 1)) (UnShortest.Dv l) := by
 intro i
 induction i with
 | zero =>
  intro S _ hS h1
  have := h1 0 (Nat.le_refl _) (Nat.zero_le _)
  rw [List.drop_zero] at this
  refine Ev.step (f := fun _ => some (UnShortest.Dv l)) (fun k => ?_) (Ev.now _)
  simp only [capnpref23_Shortest.l0]
  rw [if_neg (by omega), if_pos (by omega), show rd S 0 = UnShortest.Dv l from this]
 | succ j ih =>
  intro S hi hS h1
  have hj : j < l.length := by omega
  have hd : 0 < (l.drop j).length := by rw [List.length_drop]; omega
  have hdl : (l.drop j).length ≤ 1000000 := by rw [List.length_drop]; omega
  have e1 : (j : Int) ≥ 0 := by omega
  have e2 : 0 ≤ ((j + 1 : Nat) : Int) := by omega
  have e3 : ((j + 1 : Nat) : Int) < (S.length : Int) := by omega
  have e4 : 0 ≤ (j : Int) := by omega
  have e5 : (j : Int) < (S.length : Int) := by omega
  have e6 : (j : Int) < (l.length : Int) := by omega
  have c1 : ((j + 1 : Nat) : Int) - 1 = (j : Int) := by omega
  have hmin : 1 + min (l.length - j) 256 = min (l.length - j) 256 + 1 := Nat.add_comm _ _
  have wj := Aside0.mk (wrap_succ j (by omega))
  have r0 := Aside0.mk (show rd (l.drop j) 0 = rd l (j : Int) from rd_drop l j 0)
  have hw := Aside0.mk (hW _ (Un.rd_mem_at hj))
  have hx1 := Aside0.mk (show rd S ((j + 1 : Nat) : Int) = UnShortest.Dv ((l.drop j).drop 1) by rw [h1 (j + 1) (by omega) (by omega), List.drop_drop])
  have hp : PC (l.drop j) (10 + UnShortest.Dv ((l.drop j).drop 1)) := ⟨10, 1, UnShortest.Ch_one hd, rfl⟩
  have hb := Aside0.mk (PC_bounds hdl hp)
  have hd0 := Aside0.mk (UnShortest.Dv_0 (ws := (l.drop j).drop 1) (by rw [List.length_drop, List.length_drop]; omega))
  obtain ⟨y, hy⟩ : ∃ y, y = UnShortest.Dv ((l.drop j).drop 1) := ⟨_, rfl⟩
  rw [← hy] at hb hd0 hp hx1
  have wt := Aside0.mk (show wrap64 (10 + y) = 10 + y from w64 (by have := hd0.out; omega) (by have := hb.out.2.1; omega))
  clear hy
  obtain ⟨f, hf⟩ : ∃ f, f = ofS (rd l (j : Int)) := ⟨_, rfl⟩
  have hfr := ofS_range (rd l (j : Int))
  rw [← hf] at hfr
  have wof := Aside0.mk (show wrap64 f = f from w64 (by omega) (by omega))
  clear hfr
  obtain ⟨z, z1, z2, z3, z4⟩ := refZeros (l.drop j) hdl
  have hOf := refOf _ hw.out.1 hw.out.2
  rw [← hf] at hOf
  have Z2 := Aside0.mk z2
  have Z3 := Aside0.mk z3
  clear z2 z3
  rw [c1]
  refine Ev.step (f := fun k => (capnpref20_Of.f k (rd l (j : Int))).bind fun t => capnpref23_Shortest.l1 k l (S.set j (10 + y)) (j : Int) (wrap64 t) 1) (fun k => ?_) (Ev.bind hOf ?_)
  ·simp only [capnpref23_Shortest.l0]
   rw [if_pos e1, wj.out, if_pos e2, if_pos e3, if_pos e4, if_pos e5]
   simp only [if_pos e6, hx1.out, wt.out, Int.toNat_natCast]
  ·rw [wof.out, show f = ofS (rd (l.drop j) 0) by rw [hf, r0.out]]
   have hnx : ∀ n, 1 ≤ n → n ≤ l.length - j → rd S ((j + n : Nat) : Int) = UnShortest.Dv ((l.drop j).drop n) := fun n n1 n2 => by rw [h1 (j + n) (by omega) (by omega), List.drop_drop]
   refine refShort_l1 l S j hj hl hS (hnx 1 (Nat.le_refl _) (by omega)) _ 254 1 rfl (Nat.le_refl _) (10 + y) hp (fun c' p1 p2 p3 => Ev.bind z4 ?_)
   refine refShort_l2 l S j z hj hl hS hnx Z2.out _ (min (l.length - j) 256) 1 hmin (Nat.le_refl _) c' p1 (fun c2 q1 q2 q3 => ?_)
   have hfin := short_final hd hdl z Z3.out q1 (fun i i1 i2 i3 => Int.le_trans q2 (p3 i i1 i2 i3)) (fun i i1 i2 => q3 i i1 (by rw [List.length_drop] at i2; exact i2))
   rw [hfin]
   clear hfin q1 q2 q3 p1 p2 p3
   refine ih (S.set j (UnShortest.Dv (l.drop j))) (Nat.le_of_lt hj) (by rw [List.length_set]; exact hS) (fun q q1 q2 => ?_)
   by_cases e : j = q
   ·subst e; rw [Un.rd_set_eq _ _ _ (by omega)]
   ·rw [Un.rd_set_ne _ _ _ _ e]; exact h1 q (by omega) q2
theorem refShortest {l : List Int} (hW : IsW l) (hl : l.length ≤ 1000000) : Ev (fun k => capnpref23_Shortest.f k l) (UnShortest.Dv l) := by
 have w1 := wrap_succ l.length (by omega)
 have w2 : wrap64 ((l.length : Int) - 1) = (l.length : Int) - 1 := w64 (by omega) (by omega)
 refine Ev.congr (f := fun k => capnpref23_Shortest.l0 k l (List.replicate (l.length + 1) 0) ((l.length : Int) - 1)) (fun k => ?_) (refShort_l0 l hW hl l.length _ (Nat.le_refl _) (by simp) (fun j h1 h2 => ?_))
 ·unfold capnpref23_Shortest.f
  rw [w1, w2, if_pos (by omega), Int.toNat_natCast, if_pos (by omega)]
 ·obtain rfl : j = l.length := by omega
  rw [List.drop_length, UnShortest.Dv_nil]; exact UnWays.rd_rep0 _ _
end Go.Proofs.YtnchacmhjbkmhaaDoor.QGrammarMatchesReference
