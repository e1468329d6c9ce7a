/- PlanPrices: for every input that reads as data, the call returns true and leaves its arguments as they were. No condition. -/
import Derived.Test.YtheklenmejhdoaaT3
import Derived.Test.YtheklenmejhdoaaT2
import Derived.Test.YtheklenmejhdoaaRows
set_option linter.unnecessarySimpa false
set_option linter.unusedVariables false
set_option linter.unusedSimpArgs false
section
open Go Go.Tv Go.Proofs
namespace Go.Tv.C35
set_option maxRecDepth 20000
set_option maxHeartbeats 2000000
set_option linter.unusedSimpArgs false
set_option linter.unusedVariables false
def blk (B : List Bid) (o : List Nat) (s : Int) (j : Nat) : Bid := if (B.getD j zb).station = s ∧ (o.any fun k => busyF B k j) = true then away (B.getD j zb) else B.getD j zb
def blockTo (B : List Bid) (out : List Nat) (s : Int) (i q : Nat) : List Bid := (List.range B.length).map fun j => if j < i then blk B out s j else if j = i then blk B (out.take q) s j else B.getD j zb
theorem blockTo_len (B : List Bid) (out : List Nat) (s : Int) (i q : Nat) : (blockTo B out s i q).length = B.length := by simp [blockTo]
theorem blk_nil (B : List Bid) (s : Int) (j : Nat) : blk B [] s j = B.getD j zb := by unfold blk; rw [if_neg (by simp)]
theorem blockTo_zero (B : List Bid) (out : List Nat) (s : Int) : blockTo B out s 0 0 = B := by
  apply List.ext_getElem?
  intro j
  unfold blockTo
  rw [List.getElem?_map]
  by_cases hj : j < B.length
  · simp only [List.getElem?_range hj, Option.map_some, Nat.not_lt_zero, if_false, List.take_zero, blk_nil, ite_self]
    rw [List.getElem?_eq_getElem hj, getD_zb hj]
  · simp [hj]
theorem blockTo_next (B : List Bid) (out : List Nat) (s : Int) (i : Nat) : blockTo B out s i out.length = blockTo B out s (i + 1) 0 := by
  unfold blockTo
  apply List.map_congr_left
  intro j _
  rw [List.take_length, List.take_zero, blk_nil]
  by_cases h1 : j < i
  · rw [if_pos h1, if_pos (by omega)]
  · by_cases h2 : j = i
    · rw [if_neg h1, if_pos h2, if_pos (by omega)]
    · rw [if_neg h1, if_neg h2, if_neg (by omega)]; split <;> rfl
theorem blockTo_all (B : List Bid) (out : List Nat) (s : Int) : blockTo B out s B.length 0 = blockF B out s := by
  unfold blockTo blockF
  apply List.map_congr_left
  intro j hj
  rw [if_pos (List.mem_range.1 hj)]; rfl
theorem blockTo_get {B : List Bid} {out : List Nat} {s : Int} {i q : Nat} (hi : i < B.length) : (blockTo B out s i q)[i]? = some (blk B (out.take q) s i) := by
  unfold blockTo
  rw [List.getElem?_map]
  simp [hi]
theorem blockTo_set {B : List Bid} {out : List Nat} {s : Int} {i q r : Nat} (hi : i < B.length) : blockTo B out s i r = (blockTo B out s i q).set i (blk B (out.take r) s i) := by
  apply List.ext_getElem?
  intro j
  rw [List.getElem?_set]
  by_cases hj : i = j
  · subst hj
    rw [if_pos rfl, if_pos (by rw [blockTo_len]; exact hi), blockTo_get hi]
  · rw [if_neg hj]
    unfold blockTo
    rw [List.getElem?_map, List.getElem?_map]
    by_cases hlt : j < B.length
    · simp only [List.getElem?_range hlt, Option.map_some, if_neg (fun e => hj (Eq.symm e) : ¬ j = i)]
    · simp [hlt]
theorem blk_step {B : List Bid} {out : List Nat} {s : Int} {i q : Nat} (hq : q < out.length) : blk B (out.take (q + 1)) s i = if (B.getD i zb).station = s ∧ busyF B out[q] i = true then away (blk B (out.take q) s i) else blk B (out.take q) s i := by
  have haa : ∀ b, away (away b) = away b := fun _ => rfl
  unfold blk
  rw [take_succ_get hq, List.any_append]
  simp only [List.any_cons, List.any_nil, Bool.or_false, Bool.or_eq_true]
  generalize B.getD i zb = b
  by_cases h1 : b.station = s <;> by_cases h2 : ((out.take q).any fun k => busyF B k i) = true <;> by_cases h3 : busyF B out[q] i = true <;> simp [h1, h2, h3, haa]
theorem blockTo_yes {B : List Bid} {out : List Nat} {s : Int} {i q : Nat} (hi : i < B.length) (hq : q < out.length) (h : (B.getD i zb).station = s ∧ busyF B out[q] i = true) : blockTo B out s i (q + 1) = (blockTo B out s i q).set i (away (blk B (out.take q) s i)) := by
  rw [blockTo_set (q := q) hi, blk_step hq, if_pos h]
theorem blockTo_no {B : List Bid} {out : List Nat} {s : Int} {i q : Nat} (hi : i < B.length) (hq : q < out.length) (h : ¬ ((B.getD i zb).station = s ∧ busyF B out[q] i = true)) : blockTo B out s i (q + 1) = blockTo B out s i q := by
  rw [blockTo_set (q := q) hi, blk_step hq, if_neg h, ← blockTo_set hi]
theorem block_okl {B : List Bid} {out : List Nat} {s : Int} (hB : OkL B) : OkL (blockF B out s) := by
  refine ⟨block_ok hB.ok, by rw [block_len]; exact hB.len, fun b hb => ?_⟩
  obtain ⟨i, hi, rfl⟩ := List.mem_map.1 hb
  have hi' : i < B.length := by simpa using hi
  have hm : B.getD i zb ∈ B := by rw [getD_zb hi']; exact List.getElem_mem _
  have h := hB.lim _ hm
  split <;> exact h
theorem rbest_retN (B : List Bid) (sn : Int) (hB : OkL B) (h10 : B.length ≤ 10) : Ret Try.prog 21 [.sl (B.map encB) false, encI sn] (.sl ((bestF B sn).map encN) false) := by
  have h := rbest_ret B sn hB h10
  rw [← encN_map] at h
  exact h
theorem busy_is {B : List Bid} {k i : Nat} (hk : k < B.length) (hi : i < B.length) : busyF B k i = (decide (B[k].craft = B[i].craft) && confl B[k] B[i]) := by unfold busyF; rw [getD_zb hk, getD_zb hi]

theorem rassign_ret (B : List Bid) (hB : OkL B) (h10 : B.length ≤ 10) : Ret Try.prog 27 [.sl (B.map encB) false] (.sl ((sortI (toI (outF B 9))).map encI) false) := by
  refine ret_of_awp Try.func27 rfl (Nat.le_of_ble_eq_true rfl) ?_
  refine awp_seq ?_
  refine awp_rw rfl ?_
  refine RW.op rfl rfl (eff_assign (v := .t _) rfl rfl rfl) ?_
  refine RW.nil ?_
  refine awp_seq ?_
  refine awp_rw rfl ?_
  refine RW.op rfl rfl (eff_assign (v := .t _) rfl rfl rfl) ?_
  refine RW.nil ?_
  show AWP _ _ _ _
  refine awp_weak (weak_adopt (d := 3) (id := 3) (k := 1) (ty := 3) rfl rfl) ?_
  refine awp_seq ?_
  refine awp_seq ?_
  refine awp_rw rfl ?_
  refine RW.op rfl rfl (eff_assign (v := .t _) rfl rfl rfl) ?_
  refine RW.nil ?_
  refine awp_block ?_
  refine awp_loopW (fun m s => ∃ (k : Nat) (n : Nat) (els : List AV), (k ≤ 9) ∧ (n = (outF B k).length) ∧ (els = ((outF B k).map encN).map .t) ∧ m = 9 - k ∧ s = ⟨75, [(0, .t (.sl (B.map encB) false)), (3, .own 3 k 0 n), (4, .t (encI (k : Nat)))], [(3, some ⟨1, 3, k, els⟩)]⟩) (_) (⟨_, weak_keep (n := 75) (fr' := [(0, .t (.sl (B.map encB) false)), (3, .own 3 0 0 0), (4, .t (encI (0 : Nat)))]) (st' := [(3, some ⟨1, 3, 0, ([])⟩)]) ⟨rfl, rfl, rfl, rfl, rfl, rfl, trivial⟩ ⟨rfl, (by first | exact okE_nil | exact okE_one rfl | (rw [he]; exact okE_t) | (rw [he]; intro x hx; rcases List.mem_append.1 hx with h | h <;> (obtain ⟨y, _, rfl⟩ := List.mem_map.1 h; rfl))), trivial⟩, 0, 0, [], (by omega), (by rfl), (by rfl), rfl, rfl⟩) ?_
  rintro m s ⟨k, n, els, hk, hnn, he, rfl, rfl⟩
  have hBl := hB.len
  have hoL := out_len hB k
  have hoi := (out_inv hB.ok k).1
  refine awp_seq ?_
  refine awp_seq ?_
  refine awp_rw rfl ?_
  refine RW.op rfl rfl (eff_move (v := .t _) rfl rfl rfl) ?_
  refine RW.op rfl rfl (eff_iop rfl rfl rfl rfl rfl) ?_
  refine RW.nil ?_
  refine awp_cond rfl (fun h1 => ?_) (fun h1 => ?_)
  · try simp only [decide_eq_true_eq, decide_eq_false_iff_not, beq_iff_eq, bne_iff_ne, bne_eq_false_iff_eq, beq_eq_false_iff_ne, Bool.not_eq_true, Bool.not_eq_false, Bool.not_eq_true', Bool.not_eq_false', ne_eq] at h1
    refine awp_skip ?_
    refine awp_seq ?_
    refine awp_block ?_
    refine awp_seq ?_
    refine awp_rw rfl ?_
    refine RW.new rfl rfl (eff_buildSliceL (id := 12) (els := []) rfl rfl te23 tz42 rfl (by decide) (by decide) rfl rfl rfl rfl) ?_
    refine RW.op rfl rfl (eff_move (v := .t _) rfl rfl rfl) ?_
    refine RW.new rfl rfl (eff_appendAny (id := 12) rfl rfl ta23 rfl rfl rfl rfl rfl rfl (srcM (l := B) (g := encB) rfl (fun _ => rfl)) (by simp only [List.length_map, List.length_nil]; omega) (by simp only [List.length_map, List.length_nil]; omega)) ?_
    refine RW.op rfl rfl (eff_assign (v := .own _ _ _ _) rfl rfl rfl) ?_
    refine RW.nil ?_
    show AWP _ _ _ _
    refine awp_weak (weak_keep (n := 75) (fr' := [(0, .t (.sl (B.map encB) false)), (3, .own 3 k 0 n), (4, .t (encI (k : Nat))), (5, .own 12 1 0 B.length)]) (st' := [(3, some ⟨1, 3, k, els⟩), (12, some ⟨5, 42, 1, (B.map encB).map .t⟩)]) ⟨rfl, rfl, rfl, rfl, rfl, rfl, (by show AV.own 12 1 0 _ = AV.own 12 1 0 B.length; congr 1; simp), rfl, trivial⟩ ⟨rfl, (by first | exact okE_nil | exact okE_one rfl | (rw [he]; exact okE_t) | (rw [he]; intro x hx; rcases List.mem_append.1 hx with h | h <;> (obtain ⟨y, _, rfl⟩ := List.mem_map.1 h; rfl))), rfl, okE_t, trivial⟩) ?_
    refine awp_seq ?_
    refine awp_seq ?_
    refine awp_rw rfl ?_
    refine RW.op rfl rfl (eff_assign (v := .t _) rfl rfl rfl) ?_
    refine RW.nil ?_
    refine awp_block ?_
    refine awp_loopW (fun m s => ∃ (i : Nat), (i ≤ B.length) ∧ m = B.length - i ∧ s = ⟨75, [(0, .t (.sl (B.map encB) false)), (3, .own 3 k 0 n), (4, .t (encI (k : Nat))), (5, .own 12 1 0 B.length), (6, .t (encI (i : Nat)))], [(3, some ⟨1, 3, k, els⟩), (12, some ⟨5, 42, 1, ((blockTo B (outF B k) k i 0).map encB).map .t⟩)]⟩) (_) (⟨_, weak_keep (n := 75) (fr' := [(0, .t (.sl (B.map encB) false)), (3, .own 3 k 0 n), (4, .t (encI (k : Nat))), (5, .own 12 1 0 B.length), (6, .t (encI (0 : Nat)))]) (st' := [(3, some ⟨1, 3, k, els⟩), (12, some ⟨5, 42, 1, ((blockTo B (outF B k) k 0 0).map encB).map .t⟩)]) ⟨rfl, rfl, rfl, rfl, rfl, rfl, rfl, rfl, rfl, rfl, trivial⟩ ⟨rfl, (by rw [he]; exact okE_t), by first | (rw [blockTo_zero]; rfl) | (rw [← blockTo_next]; rfl), okE_t, trivial⟩, 0, (by omega), rfl, rfl⟩) ?_
    rintro m s ⟨i, hi, rfl, rfl⟩
    refine awp_seq ?_
    refine awp_seq ?_
    refine awp_rw rfl ?_
    refine RW.op rfl rfl (eff_move (v := .t _) rfl rfl rfl) ?_
    refine RW.op rfl rfl (eff_move (v := .t _) rfl rfl rfl) ?_
    refine RW.op rfl rfl (eff_lenM rfl rfl te23 rfl) ?_
    refine RW.op rfl rfl (eff_iop rfl rfl rfl rfl rfl) ?_
    refine RW.nil ?_
    refine awp_cond rfl (fun h2 => ?_) (fun h2 => ?_)
    · try simp only [decide_eq_true_eq, decide_eq_false_iff_not, beq_iff_eq, bne_iff_ne, bne_eq_false_iff_eq, beq_eq_false_iff_ne, Bool.not_eq_true, Bool.not_eq_false, Bool.not_eq_true', Bool.not_eq_false', ne_eq] at h2
      refine awp_skip ?_
      refine awp_seq ?_
      refine awp_block ?_
      refine awp_seq ?_
      refine awp_rw rfl ?_
      have hil : i < B.length := by omega
      refine RW.op rfl rfl (eff_assign (v := .t _) rfl rfl rfl) ?_
      refine RW.nil ?_
      refine awp_block ?_
      refine awp_loopW (fun m s => ∃ (q : Nat), (q ≤ (outF B k).length) ∧ m = (outF B k).length - q ∧ s = ⟨75, [(0, .t (.sl (B.map encB) false)), (3, .own 3 k 0 n), (4, .t (encI (k : Nat))), (5, .own 12 1 0 B.length), (6, .t (encI (i : Nat))), (7, .t (encI (q : Nat)))], [(3, some ⟨1, 3, k, els⟩), (12, some ⟨5, 42, 1, ((blockTo B (outF B k) k i q).map encB).map .t⟩)]⟩) (_) (⟨_, weak_keep (n := 75) (fr' := [(0, .t (.sl (B.map encB) false)), (3, .own 3 k 0 n), (4, .t (encI (k : Nat))), (5, .own 12 1 0 B.length), (6, .t (encI (i : Nat))), (7, .t (encI (0 : Nat)))]) (st' := [(3, some ⟨1, 3, k, els⟩), (12, some ⟨5, 42, 1, ((blockTo B (outF B k) k i 0).map encB).map .t⟩)]) ⟨rfl, rfl, rfl, rfl, rfl, rfl, rfl, rfl, rfl, rfl, rfl, rfl, trivial⟩ ⟨rfl, (by rw [he]; exact okE_t), by first | rfl | (rw [blockTo_no hil hql (fun hh => by first | exact absurd hh.1 (by rw [getD_zb hil]; assumption) | (have h8 := hh.2; rw [busy_is (by omega) hil] at h8; simp_all))]; rfl), okE_t, trivial⟩, 0, (by omega), rfl, rfl⟩) ?_
      rintro m s ⟨q, hq, rfl, rfl⟩
      refine awp_seq ?_
      refine awp_seq ?_
      refine awp_rw rfl ?_
      refine RW.op rfl rfl (eff_move (v := .t _) rfl rfl rfl) ?_
      refine RW.op rfl rfl (eff_move (v := .own _ _ _ _) rfl rfl rfl) ?_
      refine RW.op rfl rfl (eff_len rfl rfl te22 rfl rfl rfl) ?_
      refine RW.op rfl rfl (eff_iop rfl rfl rfl rfl rfl) ?_
      refine RW.nil ?_
      refine awp_cond rfl (fun h3 => ?_) (fun h3 => ?_)
      · try simp only [decide_eq_true_eq, decide_eq_false_iff_not, beq_iff_eq, bne_iff_ne, bne_eq_false_iff_eq, beq_eq_false_iff_ne, Bool.not_eq_true, Bool.not_eq_false, Bool.not_eq_true', Bool.not_eq_false', ne_eq] at h3
        refine awp_skip ?_
        refine awp_seq ?_
        refine awp_block ?_
        refine awp_seq ?_
        have hql : q < (outF B k).length := by omega
        have hoq : ((outF B k)[q]'hql) < B.length := (hoi _ (List.getElem_mem hql)).1
        have heq : els.length = (outF B k).length := by rw [he]; simp
        by_cases hc4 : (B[i]'hil).station = (k : Int)
        · by_cases hc5 : (B[((outF B k)[q]'hql)]'hoq).craft = (B[i]'hil).craft
          · refine awp_rh [(some 27, []), (some 28, []), (some 29, []), (some 30, []), (some 31, []), (some 32, []), (some 33, []), (some 34, []), (some 35, []), (some 36, []), (some 37, []), (some 38, []), (some 39, []), (some 40, []), (some 41, []), (some 42, []), (some 43, []), (some 44, []), (some 45, []), (some 46, []), (some 47, []), (some 48, []), (some 49, []), (some 50, []), (some 51, []), (some 52, []), (some 53, []), (some 54, []), (some 55, []), (some 56, []), (some 57, []), (some 58, []), (some 59, []), (some 60, []), (some 61, []), (some 62, []), (some 63, [])] [[], [], [0, 1], [0, 1, 2], [0, 1, 2, 3], [], [0, 1, 2, 3, 4, 5], [0, 1, 2, 3, 4, 5, 6], [0, 1, 2, 3, 4, 5, 6, 7], [0, 1, 2, 3, 4, 5, 6, 7], [0, 1, 2, 3, 4, 5, 6, 7], [0, 1, 2, 3, 4, 5, 6, 7, 9, 10], [0, 1, 2, 3, 4, 5, 6, 7, 9, 10, 11], [0, 1, 2, 3, 4, 5, 6, 7, 8, 9, 10, 11, 12], [0, 1, 2, 3, 4, 5, 6, 7, 8, 9, 10, 11, 12, 13], [0, 1, 2, 3, 4, 5, 6, 7, 8, 9, 10, 11, 12, 13, 14], [0, 1, 2, 3, 4, 5, 6, 7], [0, 1, 2, 3, 4, 5, 6, 7], [0, 1, 2, 3, 4, 5, 6, 7, 16, 17], [0, 1, 2, 3, 4, 5, 6, 7, 16, 17, 18], [0, 1, 2, 3, 4, 5, 6, 7, 16, 17, 18, 19], [0, 1, 2, 3, 4, 5, 6, 7, 8, 9, 10, 11, 12, 13, 14, 15, 16, 17, 18, 19, 20], [0, 1, 2, 3, 4, 5, 6, 7, 8, 9, 10, 11, 12, 13, 14, 15, 16, 17, 18, 19, 20, 21], [0, 1, 2, 3, 4, 5, 6, 7, 8, 9, 10, 11, 12, 13, 14, 15, 16, 17, 18, 19, 20, 21, 22], [0, 1, 2, 3, 4, 5, 6, 7, 8, 9, 10, 11, 12, 13, 14, 15, 16, 17, 18, 19, 20, 21, 22, 23], [0, 1, 2, 3, 4, 5, 6, 7, 8, 9, 10, 11, 12, 13, 14, 15, 16, 17, 18, 19, 20, 21, 22, 23], [0, 1, 2, 3, 4, 5, 6, 7, 8, 9, 10, 11, 12, 13, 14, 15, 16, 17, 18, 19, 20, 21, 22, 23], [0, 1, 2, 3, 4, 5, 6, 7, 8, 9, 10, 11, 12, 13, 14, 15, 16, 17, 18, 19, 20, 21, 22, 23, 25, 26], [0, 1, 2, 3, 4, 5, 6, 7, 8, 9, 10, 11, 12, 13, 14, 15, 16, 17, 18, 19, 20, 21, 22, 23, 25, 26, 27], [0, 1, 2, 3, 4, 5, 6, 7, 8, 9, 10, 11, 12, 13, 14, 15, 16, 17, 18, 19, 20, 21, 22, 23, 24, 25, 26, 27, 28], [0, 1, 2, 3, 4, 5, 6, 7, 8, 9, 10, 11, 12, 13, 14, 15, 16, 17, 18, 19, 20, 21, 22, 23, 24, 25, 26, 27, 28, 29], [0, 1, 2, 3, 4, 5, 6, 7, 8, 9, 10, 11, 12, 13, 14, 15, 16, 17, 18, 19, 20, 21, 22, 23], [0, 1, 2, 3, 4, 5, 6, 7, 8, 9, 10, 11, 12, 13, 14, 15, 16, 17, 18, 19, 20, 21, 22, 23], [0, 1, 2, 3, 4, 5, 6, 7, 8, 9, 10, 11, 12, 13, 14, 15, 16, 17, 18, 19, 20, 21, 22, 23, 31, 32], [0, 1, 2, 3, 4, 5, 6, 7, 8, 9, 10, 11, 12, 13, 14, 15, 16, 17, 18, 19, 20, 21, 22, 23, 31, 32, 33], [0, 1, 2, 3, 4, 5, 6, 7, 8, 9, 10, 11, 12, 13, 14, 15, 16, 17, 18, 19, 20, 21, 22, 23, 24, 25, 26, 27, 28, 29, 30, 31, 32, 33, 34], [0, 1, 2, 3, 4, 5, 6, 7, 8, 9, 10, 11, 12, 13, 14, 15, 16, 17, 18, 19, 20, 21, 22, 23, 24, 25, 26, 27, 28, 29, 30, 31, 32, 33, 34, 35]] [([(some 28, []), (some 32, [])], (some 27, [])), ([(some 27, []), (some 32, [])], (some 28, [])), ([(some 32, [])], (some 29, [])), ([(some 32, [])], (some 30, [])), ([(some 32, [])], (some 31, [])), ([(some 27, []), (some 28, []), (some 29, []), (some 30, []), (some 31, [])], (some 32, [])), ([], (some 33, [])), ([], (some 34, [])), ([(some 36, []), (some 37, []), (some 38, []), (some 39, []), (some 43, []), (some 44, []), (some 45, []), (some 46, []), (some 47, [])], (some 35, [])), ([(some 35, []), (some 37, []), (some 43, []), (some 44, []), (some 45, []), (some 46, []), (some 47, [])], (some 36, [])), ([(some 35, []), (some 36, []), (some 43, []), (some 44, []), (some 45, []), (some 46, []), (some 47, [])], (some 37, [])), ([(some 35, []), (some 43, []), (some 44, []), (some 45, []), (some 46, []), (some 47, [])], (some 38, [])), ([(some 35, []), (some 43, []), (some 44, []), (some 45, []), (some 46, []), (some 47, [])], (some 39, [])), ([(some 43, []), (some 44, []), (some 45, []), (some 46, []), (some 47, [])], (some 40, [])), ([(some 43, []), (some 44, []), (some 45, []), (some 46, []), (some 47, [])], (some 41, [])), ([(some 43, []), (some 44, []), (some 45, []), (some 46, []), (some 47, [])], (some 42, [])), ([(some 35, []), (some 36, []), (some 37, []), (some 38, []), (some 39, []), (some 40, []), (some 41, []), (some 42, []), (some 44, [])], (some 43, [])), ([(some 35, []), (some 36, []), (some 37, []), (some 38, []), (some 39, []), (some 40, []), (some 41, []), (some 42, []), (some 43, [])], (some 44, [])), ([(some 35, []), (some 36, []), (some 37, []), (some 38, []), (some 39, []), (some 40, []), (some 41, []), (some 42, [])], (some 45, [])), ([(some 35, []), (some 36, []), (some 37, []), (some 38, []), (some 39, []), (some 40, []), (some 41, []), (some 42, [])], (some 46, [])), ([(some 35, []), (some 36, []), (some 37, []), (some 38, []), (some 39, []), (some 40, []), (some 41, []), (some 42, [])], (some 47, [])), ([], (some 48, [])), ([], (some 49, [])), ([], (some 50, [])), ([(some 52, []), (some 53, []), (some 54, []), (some 55, []), (some 58, []), (some 59, []), (some 60, []), (some 61, [])], (some 51, [])), ([(some 51, []), (some 53, []), (some 58, []), (some 59, []), (some 60, []), (some 61, [])], (some 52, [])), ([(some 51, []), (some 52, []), (some 58, []), (some 59, []), (some 60, []), (some 61, [])], (some 53, [])), ([(some 51, []), (some 58, []), (some 59, []), (some 60, []), (some 61, [])], (some 54, [])), ([(some 51, []), (some 58, []), (some 59, []), (some 60, []), (some 61, [])], (some 55, [])), ([(some 58, []), (some 59, []), (some 60, []), (some 61, [])], (some 56, [])), ([(some 58, []), (some 59, []), (some 60, []), (some 61, [])], (some 57, [])), ([(some 51, []), (some 52, []), (some 53, []), (some 54, []), (some 55, []), (some 56, []), (some 57, []), (some 59, [])], (some 58, [])), ([(some 51, []), (some 52, []), (some 53, []), (some 54, []), (some 55, []), (some 56, []), (some 57, []), (some 58, [])], (some 59, [])), ([(some 51, []), (some 52, []), (some 53, []), (some 54, []), (some 55, []), (some 56, []), (some 57, [])], (some 60, [])), ([(some 51, []), (some 52, []), (some 53, []), (some 54, []), (some 55, []), (some 56, []), (some 57, [])], (some 61, [])), ([], (some 62, [])), ([], (some 63, []))] tm rfl (by decide +kernel) (by decide +kernel) rfl (by decide +kernel) ?_
            refine RH.op rfl rfl rfl (eff_move (v := .t _) rfl rfl rfl) ?_
            refine RH.op rfl rfl rfl (eff_move (v := .t _) rfl rfl rfl) ?_
            refine RH.op rfl rfl rfl (eff_indexAddrT (i := i) rfl rfl te23 rfl rfl (by first | rfl | omega) (by rw [List.getElem?_map, List.getElem?_eq_getElem (by omega)]; rfl) rfl (by decide)) ?_
            refine RH.op rfl rfl rfl (eff_fieldAddrT rfl rfl tf42_1 (by decide) rfl) ?_
            refine RH.op rfl rfl rfl (eff_loadT1 rfl rfl ti3 rfl rfl) ?_
            refine RH.op rfl rfl rfl (eff_move (v := .t _) rfl rfl rfl) ?_
            refine RH.op rfl rfl rfl (eff_iop (r := .bool true) rfl rfl rfl rfl (by rw [hc4]; exact congrArg (fun x => some (Tr.bool x)) (beq_self_eq_true _))) ?_
            refine RH.op rfl rfl rfl (eff_move (v := .t _) rfl rfl rfl) ?_
            refine RH.gop rfl rfl rfl rfl rfl rfl rfl (eff_move (v := .t _) rfl rfl rfl) ?_
            refine RH.gop rfl rfl rfl rfl rfl rfl rfl (eff_move (v := .own _ _ _ _) rfl rfl rfl) ?_
            refine RH.gop rfl rfl rfl rfl rfl rfl rfl (eff_move (v := .t _) rfl rfl rfl) ?_
            refine RH.gop rfl rfl rfl rfl rfl rfl rfl (eff_indexAddr (i := q) rfl rfl te22 rfl rfl rfl rfl rfl rfl (by omega)) ?_
            refine RH.gop rfl rfl rfl rfl rfl rfl rfl (eff_load (y := .t (encN ((outF B k)[q]'hql))) rfl rfl ti3 rfl (.one rfl rfl (by rw [he, List.getElem?_map, List.getElem?_map, Nat.zero_add, List.getElem?_eq_getElem hql]; rfl) rfl)) ?_
            refine RH.gop rfl rfl rfl rfl rfl rfl rfl (eff_indexAddrT (i := ((outF B k)[q]'hql)) rfl rfl te23 rfl rfl (by first | rfl | omega) (by rw [List.getElem?_map, List.getElem?_eq_getElem hoq]; rfl) rfl (by decide)) ?_
            refine RH.gop rfl rfl rfl rfl rfl rfl rfl (eff_fieldAddrT rfl rfl tf42_0 (by decide) rfl) ?_
            refine RH.gop rfl rfl rfl rfl rfl rfl rfl (eff_loadT1 rfl rfl ti3 rfl rfl) ?_
            refine RH.gop rfl rfl rfl rfl rfl rfl rfl (eff_move (v := .t _) rfl rfl rfl) ?_
            refine RH.gop rfl rfl rfl rfl rfl rfl rfl (eff_move (v := .t _) rfl rfl rfl) ?_
            refine RH.gop rfl rfl rfl rfl rfl rfl rfl (eff_indexAddrT (i := i) rfl rfl te23 rfl rfl (by first | rfl | omega) (by rw [List.getElem?_map, List.getElem?_eq_getElem (by omega)]; rfl) rfl (by decide)) ?_
            refine RH.gop rfl rfl rfl rfl rfl rfl rfl (eff_fieldAddrT rfl rfl tf42_0 (by decide) rfl) ?_
            refine RH.gop rfl rfl rfl rfl rfl rfl rfl (eff_loadT1 rfl rfl ti3 rfl rfl) ?_
            refine RH.gop rfl rfl rfl rfl rfl rfl rfl (eff_iop (r := .bool true) rfl rfl rfl rfl (by rw [hc5]; exact congrArg (fun x => some (Tr.bool x)) (beq_self_eq_true _))) ?_
            refine RH.op rfl rfl rfl (eff_pick (v := .t _) rfl rfl rfl rfl) ?_
            refine RH.op rfl rfl rfl (eff_move (v := .t _) rfl rfl rfl) ?_
            refine RH.gop rfl rfl rfl rfl rfl rfl rfl (eff_move (v := .t _) rfl rfl rfl) ?_
            refine RH.gop rfl rfl rfl rfl rfl rfl rfl (eff_move (v := .own _ _ _ _) rfl rfl rfl) ?_
            refine RH.gop rfl rfl rfl rfl rfl rfl rfl (eff_move (v := .t _) rfl rfl rfl) ?_
            refine RH.gop rfl rfl rfl rfl rfl rfl rfl (eff_indexAddr (i := q) rfl rfl te22 rfl rfl rfl rfl rfl rfl (by omega)) ?_
            refine RH.gop rfl rfl rfl rfl rfl rfl rfl (eff_load (y := .t (encN ((outF B k)[q]'hql))) rfl rfl ti3 rfl (.one rfl rfl (by rw [he, List.getElem?_map, List.getElem?_map, Nat.zero_add, List.getElem?_eq_getElem hql]; rfl) rfl)) ?_
            refine RH.gop rfl rfl rfl rfl rfl rfl rfl (eff_indexAddrT (i := ((outF B k)[q]'hql)) rfl rfl te23 rfl rfl (by first | rfl | omega) (by rw [List.getElem?_map, List.getElem?_eq_getElem hoq]; rfl) rfl (by decide)) ?_
            refine RH.gop rfl rfl rfl rfl rfl rfl rfl (eff_loadW rfl rfl ti42 rfl rfl rfl) ?_
            refine RH.gop rfl rfl rfl rfl rfl rfl rfl (eff_move (v := .t _) rfl rfl rfl) ?_
            refine RH.gop rfl rfl rfl rfl rfl rfl rfl (eff_move (v := .t _) rfl rfl rfl) ?_
            refine RH.gop rfl rfl rfl rfl rfl rfl rfl (eff_indexAddrT (i := i) rfl rfl te23 rfl rfl (by first | rfl | omega) (by rw [List.getElem?_map, List.getElem?_eq_getElem (by omega)]; rfl) rfl (by decide)) ?_
            refine RH.gop rfl rfl rfl rfl rfl rfl rfl (eff_loadW rfl rfl ti42 rfl rfl rfl) ?_
            refine RH.gop rfl rfl rfl rfl rfl rfl rfl (eff_callT (rconflict_ret (B[((outF B k)[q]'hql)]'hoq) (B[i]'hil)) co32 rfl rfl rfl rfl) ?_
            refine RH.op rfl rfl rfl (eff_pick (v := .t _) rfl rfl rfl rfl) ?_
            refine RH.nil ?_
            refine awp_cond rfl (fun h6 => ?_) (fun h6 => ?_)
            · try simp only [decide_eq_true_eq, decide_eq_false_iff_not, beq_iff_eq, bne_iff_ne, bne_eq_false_iff_eq, beq_eq_false_iff_ne, Bool.not_eq_true, Bool.not_eq_false, Bool.not_eq_true', Bool.not_eq_false', ne_eq] at h6
              refine awp_rw rfl ?_
              refine RW.op rfl rfl (eff_move (v := .own _ _ _ _) rfl rfl rfl) ?_
              refine RW.op rfl rfl (eff_move (v := .t _) rfl rfl rfl) ?_
              refine RW.op rfl rfl (eff_indexAddr (i := i) rfl rfl te23 rfl rfl rfl rfl rfl rfl (by first | omega | (simp only [List.length_map, blockTo_len]; omega))) ?_
              refine RW.op rfl rfl (eff_fieldAddr rfl rfl tf42_1 (by decide) rfl rfl rfl (Nat.le_of_ble_eq_true rfl)) ?_
              refine RW.store rfl rfl (eff_storeS (v := .t _) (el := .t (encB (blk B ((outF B k).take q) k i))) (ys := [encI (blk B ((outF B k).take q) k i).craft, encI (-1), encI (blk B ((outF B k).take q) k i).frm, encI (blk B ((outF B k).take q) k i).til, encI (blk B ((outF B k).take q) k i).val]) (els' := ((blockTo B (outF B k) k i (q + 1)).map encB).map .t) rfl rfl ti3 rfl rfl rfl rfl rfl rfl (by rw [List.getElem?_map, List.getElem?_map, Nat.zero_add, blockTo_get hil]; rfl) (Nat.le_of_ble_eq_true rfl) rfl (by rw [Nat.zero_add, blockTo_yes hil hql ⟨by rw [getD_zb hil]; assumption, by rw [busy_is hoq hil]; simp_all⟩, List.map_set, List.map_set]; rfl)) ?_
              refine RW.nil ?_
              refine awp_rw rfl ?_
              refine RW.op rfl rfl (eff_move (v := .t _) rfl rfl rfl) ?_
              refine RW.op rfl rfl (eff_iop rfl rfl rfl rfl (iadd (by omega))) ?_
              refine RW.op rfl rfl (eff_assign (v := .t _) rfl rfl rfl) ?_
              refine RW.nil ?_
              refine ⟨_, ?_, _, weak_keep (n := 75) (fr' := [(0, .t (.sl (B.map encB) false)), (3, .own 3 k 0 n), (4, .t (encI (k : Nat))), (5, .own 12 1 0 B.length), (6, .t (encI (i : Nat))), (7, .t (encI ((q + 1) : Nat)))]) (st' := [(3, some ⟨1, 3, k, els⟩), (12, some ⟨5, 42, 1, ((blockTo B (outF B k) k i (q + 1)).map encB).map .t⟩)]) ⟨rfl, rfl, rfl, rfl, rfl, rfl, rfl, rfl, rfl, rfl, rfl, rfl, trivial⟩ ⟨rfl, (by rw [he]; exact okE_t), by first | rfl | (rw [blockTo_no hil hql (fun hh => by first | exact absurd hh.1 (by rw [getD_zb hil]; assumption) | (have h8 := hh.2; rw [busy_is (by omega) hil] at h8; simp_all))]; rfl), okE_t, trivial⟩, q + 1, (by omega), rfl, rfl⟩
              omega
            · try simp only [decide_eq_true_eq, decide_eq_false_iff_not, beq_iff_eq, bne_iff_ne, bne_eq_false_iff_eq, beq_eq_false_iff_ne, Bool.not_eq_true, Bool.not_eq_false, Bool.not_eq_true', Bool.not_eq_false', ne_eq] at h6
              refine awp_skip ?_
              refine awp_rw rfl ?_
              refine RW.op rfl rfl (eff_move (v := .t _) rfl rfl rfl) ?_
              refine RW.op rfl rfl (eff_iop rfl rfl rfl rfl (iadd (by omega))) ?_
              refine RW.op rfl rfl (eff_assign (v := .t _) rfl rfl rfl) ?_
              refine RW.nil ?_
              refine ⟨_, ?_, _, weak_keep (n := 75) (fr' := [(0, .t (.sl (B.map encB) false)), (3, .own 3 k 0 n), (4, .t (encI (k : Nat))), (5, .own 12 1 0 B.length), (6, .t (encI (i : Nat))), (7, .t (encI ((q + 1) : Nat)))]) (st' := [(3, some ⟨1, 3, k, els⟩), (12, some ⟨5, 42, 1, ((blockTo B (outF B k) k i (q + 1)).map encB).map .t⟩)]) ⟨rfl, rfl, rfl, rfl, rfl, rfl, rfl, rfl, rfl, rfl, rfl, rfl, trivial⟩ ⟨rfl, (by rw [he]; exact okE_t), by first | rfl | (rw [blockTo_no hil hql (fun hh => by first | exact absurd hh.1 (by rw [getD_zb hil]; assumption) | (have h8 := hh.2; rw [busy_is (by omega) hil] at h8; simp_all))]; rfl), okE_t, trivial⟩, q + 1, (by omega), rfl, rfl⟩
              omega
          · refine awp_rh [(some 27, []), (some 28, []), (some 29, []), (some 30, []), (some 31, []), (some 32, []), (some 33, []), (some 34, []), (some 35, []), (some 36, []), (some 37, []), (some 38, []), (some 39, []), (some 40, []), (some 41, []), (some 42, []), (some 43, []), (some 44, []), (some 45, []), (some 46, []), (some 47, []), (some 48, []), (some 49, []), (some 50, []), (some 51, []), (some 52, []), (some 53, []), (some 54, []), (some 55, []), (some 56, []), (some 57, []), (some 58, []), (some 59, []), (some 60, []), (some 61, []), (some 62, []), (some 63, [])] [[], [], [0, 1], [0, 1, 2], [0, 1, 2, 3], [], [0, 1, 2, 3, 4, 5], [0, 1, 2, 3, 4, 5, 6], [0, 1, 2, 3, 4, 5, 6, 7], [0, 1, 2, 3, 4, 5, 6, 7], [0, 1, 2, 3, 4, 5, 6, 7], [0, 1, 2, 3, 4, 5, 6, 7, 9, 10], [0, 1, 2, 3, 4, 5, 6, 7, 9, 10, 11], [0, 1, 2, 3, 4, 5, 6, 7, 8, 9, 10, 11, 12], [0, 1, 2, 3, 4, 5, 6, 7, 8, 9, 10, 11, 12, 13], [0, 1, 2, 3, 4, 5, 6, 7, 8, 9, 10, 11, 12, 13, 14], [0, 1, 2, 3, 4, 5, 6, 7], [0, 1, 2, 3, 4, 5, 6, 7], [0, 1, 2, 3, 4, 5, 6, 7, 16, 17], [0, 1, 2, 3, 4, 5, 6, 7, 16, 17, 18], [0, 1, 2, 3, 4, 5, 6, 7, 16, 17, 18, 19], [0, 1, 2, 3, 4, 5, 6, 7, 8, 9, 10, 11, 12, 13, 14, 15, 16, 17, 18, 19, 20], [0, 1, 2, 3, 4, 5, 6, 7, 8, 9, 10, 11, 12, 13, 14, 15, 16, 17, 18, 19, 20, 21], [0, 1, 2, 3, 4, 5, 6, 7, 8, 9, 10, 11, 12, 13, 14, 15, 16, 17, 18, 19, 20, 21, 22], [0, 1, 2, 3, 4, 5, 6, 7, 8, 9, 10, 11, 12, 13, 14, 15, 16, 17, 18, 19, 20, 21, 22, 23], [0, 1, 2, 3, 4, 5, 6, 7, 8, 9, 10, 11, 12, 13, 14, 15, 16, 17, 18, 19, 20, 21, 22, 23], [0, 1, 2, 3, 4, 5, 6, 7, 8, 9, 10, 11, 12, 13, 14, 15, 16, 17, 18, 19, 20, 21, 22, 23], [0, 1, 2, 3, 4, 5, 6, 7, 8, 9, 10, 11, 12, 13, 14, 15, 16, 17, 18, 19, 20, 21, 22, 23, 25, 26], [0, 1, 2, 3, 4, 5, 6, 7, 8, 9, 10, 11, 12, 13, 14, 15, 16, 17, 18, 19, 20, 21, 22, 23, 25, 26, 27], [0, 1, 2, 3, 4, 5, 6, 7, 8, 9, 10, 11, 12, 13, 14, 15, 16, 17, 18, 19, 20, 21, 22, 23, 24, 25, 26, 27, 28], [0, 1, 2, 3, 4, 5, 6, 7, 8, 9, 10, 11, 12, 13, 14, 15, 16, 17, 18, 19, 20, 21, 22, 23, 24, 25, 26, 27, 28, 29], [0, 1, 2, 3, 4, 5, 6, 7, 8, 9, 10, 11, 12, 13, 14, 15, 16, 17, 18, 19, 20, 21, 22, 23], [0, 1, 2, 3, 4, 5, 6, 7, 8, 9, 10, 11, 12, 13, 14, 15, 16, 17, 18, 19, 20, 21, 22, 23], [0, 1, 2, 3, 4, 5, 6, 7, 8, 9, 10, 11, 12, 13, 14, 15, 16, 17, 18, 19, 20, 21, 22, 23, 31, 32], [0, 1, 2, 3, 4, 5, 6, 7, 8, 9, 10, 11, 12, 13, 14, 15, 16, 17, 18, 19, 20, 21, 22, 23, 31, 32, 33], [0, 1, 2, 3, 4, 5, 6, 7, 8, 9, 10, 11, 12, 13, 14, 15, 16, 17, 18, 19, 20, 21, 22, 23, 24, 25, 26, 27, 28, 29, 30, 31, 32, 33, 34], [0, 1, 2, 3, 4, 5, 6, 7, 8, 9, 10, 11, 12, 13, 14, 15, 16, 17, 18, 19, 20, 21, 22, 23, 24, 25, 26, 27, 28, 29, 30, 31, 32, 33, 34, 35]] [([(some 28, []), (some 32, [])], (some 27, [])), ([(some 27, []), (some 32, [])], (some 28, [])), ([(some 32, [])], (some 29, [])), ([(some 32, [])], (some 30, [])), ([(some 32, [])], (some 31, [])), ([(some 27, []), (some 28, []), (some 29, []), (some 30, []), (some 31, [])], (some 32, [])), ([], (some 33, [])), ([], (some 34, [])), ([(some 36, []), (some 37, []), (some 38, []), (some 39, []), (some 43, []), (some 44, []), (some 45, []), (some 46, []), (some 47, [])], (some 35, [])), ([(some 35, []), (some 37, []), (some 43, []), (some 44, []), (some 45, []), (some 46, []), (some 47, [])], (some 36, [])), ([(some 35, []), (some 36, []), (some 43, []), (some 44, []), (some 45, []), (some 46, []), (some 47, [])], (some 37, [])), ([(some 35, []), (some 43, []), (some 44, []), (some 45, []), (some 46, []), (some 47, [])], (some 38, [])), ([(some 35, []), (some 43, []), (some 44, []), (some 45, []), (some 46, []), (some 47, [])], (some 39, [])), ([(some 43, []), (some 44, []), (some 45, []), (some 46, []), (some 47, [])], (some 40, [])), ([(some 43, []), (some 44, []), (some 45, []), (some 46, []), (some 47, [])], (some 41, [])), ([(some 43, []), (some 44, []), (some 45, []), (some 46, []), (some 47, [])], (some 42, [])), ([(some 35, []), (some 36, []), (some 37, []), (some 38, []), (some 39, []), (some 40, []), (some 41, []), (some 42, []), (some 44, [])], (some 43, [])), ([(some 35, []), (some 36, []), (some 37, []), (some 38, []), (some 39, []), (some 40, []), (some 41, []), (some 42, []), (some 43, [])], (some 44, [])), ([(some 35, []), (some 36, []), (some 37, []), (some 38, []), (some 39, []), (some 40, []), (some 41, []), (some 42, [])], (some 45, [])), ([(some 35, []), (some 36, []), (some 37, []), (some 38, []), (some 39, []), (some 40, []), (some 41, []), (some 42, [])], (some 46, [])), ([(some 35, []), (some 36, []), (some 37, []), (some 38, []), (some 39, []), (some 40, []), (some 41, []), (some 42, [])], (some 47, [])), ([], (some 48, [])), ([], (some 49, [])), ([], (some 50, [])), ([(some 52, []), (some 53, []), (some 54, []), (some 55, []), (some 58, []), (some 59, []), (some 60, []), (some 61, [])], (some 51, [])), ([(some 51, []), (some 53, []), (some 58, []), (some 59, []), (some 60, []), (some 61, [])], (some 52, [])), ([(some 51, []), (some 52, []), (some 58, []), (some 59, []), (some 60, []), (some 61, [])], (some 53, [])), ([(some 51, []), (some 58, []), (some 59, []), (some 60, []), (some 61, [])], (some 54, [])), ([(some 51, []), (some 58, []), (some 59, []), (some 60, []), (some 61, [])], (some 55, [])), ([(some 58, []), (some 59, []), (some 60, []), (some 61, [])], (some 56, [])), ([(some 58, []), (some 59, []), (some 60, []), (some 61, [])], (some 57, [])), ([(some 51, []), (some 52, []), (some 53, []), (some 54, []), (some 55, []), (some 56, []), (some 57, []), (some 59, [])], (some 58, [])), ([(some 51, []), (some 52, []), (some 53, []), (some 54, []), (some 55, []), (some 56, []), (some 57, []), (some 58, [])], (some 59, [])), ([(some 51, []), (some 52, []), (some 53, []), (some 54, []), (some 55, []), (some 56, []), (some 57, [])], (some 60, [])), ([(some 51, []), (some 52, []), (some 53, []), (some 54, []), (some 55, []), (some 56, []), (some 57, [])], (some 61, [])), ([], (some 62, [])), ([], (some 63, []))] tm rfl (by decide +kernel) (by decide +kernel) rfl (by decide +kernel) ?_
            refine RH.op rfl rfl rfl (eff_move (v := .t _) rfl rfl rfl) ?_
            refine RH.op rfl rfl rfl (eff_move (v := .t _) rfl rfl rfl) ?_
            refine RH.op rfl rfl rfl (eff_indexAddrT (i := i) rfl rfl te23 rfl rfl (by first | rfl | omega) (by rw [List.getElem?_map, List.getElem?_eq_getElem (by omega)]; rfl) rfl (by decide)) ?_
            refine RH.op rfl rfl rfl (eff_fieldAddrT rfl rfl tf42_1 (by decide) rfl) ?_
            refine RH.op rfl rfl rfl (eff_loadT1 rfl rfl ti3 rfl rfl) ?_
            refine RH.op rfl rfl rfl (eff_move (v := .t _) rfl rfl rfl) ?_
            refine RH.op rfl rfl rfl (eff_iop (r := .bool true) rfl rfl rfl rfl (by rw [hc4]; exact congrArg (fun x => some (Tr.bool x)) (beq_self_eq_true _))) ?_
            refine RH.op rfl rfl rfl (eff_move (v := .t _) rfl rfl rfl) ?_
            refine RH.gop rfl rfl rfl rfl rfl rfl rfl (eff_move (v := .t _) rfl rfl rfl) ?_
            refine RH.gop rfl rfl rfl rfl rfl rfl rfl (eff_move (v := .own _ _ _ _) rfl rfl rfl) ?_
            refine RH.gop rfl rfl rfl rfl rfl rfl rfl (eff_move (v := .t _) rfl rfl rfl) ?_
            refine RH.gop rfl rfl rfl rfl rfl rfl rfl (eff_indexAddr (i := q) rfl rfl te22 rfl rfl rfl rfl rfl rfl (by omega)) ?_
            refine RH.gop rfl rfl rfl rfl rfl rfl rfl (eff_load (y := .t (encN ((outF B k)[q]'hql))) rfl rfl ti3 rfl (.one rfl rfl (by rw [he, List.getElem?_map, List.getElem?_map, Nat.zero_add, List.getElem?_eq_getElem hql]; rfl) rfl)) ?_
            refine RH.gop rfl rfl rfl rfl rfl rfl rfl (eff_indexAddrT (i := ((outF B k)[q]'hql)) rfl rfl te23 rfl rfl (by first | rfl | omega) (by rw [List.getElem?_map, List.getElem?_eq_getElem hoq]; rfl) rfl (by decide)) ?_
            refine RH.gop rfl rfl rfl rfl rfl rfl rfl (eff_fieldAddrT rfl rfl tf42_0 (by decide) rfl) ?_
            refine RH.gop rfl rfl rfl rfl rfl rfl rfl (eff_loadT1 rfl rfl ti3 rfl rfl) ?_
            refine RH.gop rfl rfl rfl rfl rfl rfl rfl (eff_move (v := .t _) rfl rfl rfl) ?_
            refine RH.gop rfl rfl rfl rfl rfl rfl rfl (eff_move (v := .t _) rfl rfl rfl) ?_
            refine RH.gop rfl rfl rfl rfl rfl rfl rfl (eff_indexAddrT (i := i) rfl rfl te23 rfl rfl (by first | rfl | omega) (by rw [List.getElem?_map, List.getElem?_eq_getElem (by omega)]; rfl) rfl (by decide)) ?_
            refine RH.gop rfl rfl rfl rfl rfl rfl rfl (eff_fieldAddrT rfl rfl tf42_0 (by decide) rfl) ?_
            refine RH.gop rfl rfl rfl rfl rfl rfl rfl (eff_loadT1 rfl rfl ti3 rfl rfl) ?_
            refine RH.gop rfl rfl rfl rfl rfl rfl rfl (eff_iop (r := .bool false) rfl rfl rfl rfl (by exact congrArg (fun x => some (Tr.bool x)) (beq_eq_false_iff_ne.2 hc5))) ?_
            refine RH.op rfl rfl rfl (eff_pick (v := .t _) rfl rfl rfl rfl) ?_
            refine RH.op rfl rfl rfl (eff_move (v := .t _) rfl rfl rfl) ?_
            refine RH.gskip rfl rfl rfl rfl rfl rfl (by decide) ?_
            refine RH.gskip rfl rfl rfl rfl rfl rfl (by decide) ?_
            refine RH.gskip rfl rfl rfl rfl rfl rfl (by decide) ?_
            refine RH.gskip rfl rfl rfl rfl rfl rfl (by decide) ?_
            refine RH.gskip rfl rfl rfl rfl rfl rfl (by decide) ?_
            refine RH.gskip rfl rfl rfl rfl rfl rfl (by decide) ?_
            refine RH.gskip rfl rfl rfl rfl rfl rfl (by decide) ?_
            refine RH.gskip rfl rfl rfl rfl rfl rfl (by decide) ?_
            refine RH.gskip rfl rfl rfl rfl rfl rfl (by decide) ?_
            refine RH.gskip rfl rfl rfl rfl rfl rfl (by decide) ?_
            refine RH.gskip rfl rfl rfl rfl rfl rfl (by decide) ?_
            refine RH.gskip rfl rfl rfl rfl rfl rfl (by decide) ?_
            refine RH.op rfl rfl rfl (eff_pick (v := .t _) rfl rfl rfl rfl) ?_
            refine RH.nil ?_
            refine awp_cond rfl (fun h => nomatch h) (fun _ => ?_)
            refine awp_skip ?_
            refine awp_rw rfl ?_
            refine RW.op rfl rfl (eff_move (v := .t _) rfl rfl rfl) ?_
            refine RW.op rfl rfl (eff_iop rfl rfl rfl rfl (iadd (by omega))) ?_
            refine RW.op rfl rfl (eff_assign (v := .t _) rfl rfl rfl) ?_
            refine RW.nil ?_
            refine ⟨_, ?_, _, weak_keep (n := 75) (fr' := [(0, .t (.sl (B.map encB) false)), (3, .own 3 k 0 n), (4, .t (encI (k : Nat))), (5, .own 12 1 0 B.length), (6, .t (encI (i : Nat))), (7, .t (encI ((q + 1) : Nat)))]) (st' := [(3, some ⟨1, 3, k, els⟩), (12, some ⟨5, 42, 1, ((blockTo B (outF B k) k i (q + 1)).map encB).map .t⟩)]) ⟨rfl, rfl, rfl, rfl, rfl, rfl, rfl, rfl, rfl, rfl, rfl, rfl, trivial⟩ ⟨rfl, (by rw [he]; exact okE_t), by first | rfl | (rw [blockTo_no hil hql (fun hh => by first | exact absurd hh.1 (by rw [getD_zb hil]; assumption) | (have h8 := hh.2; rw [busy_is (by omega) hil] at h8; simp_all))]; rfl), okE_t, trivial⟩, q + 1, (by omega), rfl, rfl⟩
            omega
        · refine awp_rh [(some 27, []), (some 28, []), (some 29, []), (some 30, []), (some 31, []), (some 32, []), (some 33, []), (some 34, []), (some 35, []), (some 36, []), (some 37, []), (some 38, []), (some 39, []), (some 40, []), (some 41, []), (some 42, []), (some 43, []), (some 44, []), (some 45, []), (some 46, []), (some 47, []), (some 48, []), (some 49, []), (some 50, []), (some 51, []), (some 52, []), (some 53, []), (some 54, []), (some 55, []), (some 56, []), (some 57, []), (some 58, []), (some 59, []), (some 60, []), (some 61, []), (some 62, []), (some 63, [])] [[], [], [0, 1], [0, 1, 2], [0, 1, 2, 3], [], [0, 1, 2, 3, 4, 5], [0, 1, 2, 3, 4, 5, 6], [0, 1, 2, 3, 4, 5, 6, 7], [0, 1, 2, 3, 4, 5, 6, 7], [0, 1, 2, 3, 4, 5, 6, 7], [0, 1, 2, 3, 4, 5, 6, 7, 9, 10], [0, 1, 2, 3, 4, 5, 6, 7, 9, 10, 11], [0, 1, 2, 3, 4, 5, 6, 7, 8, 9, 10, 11, 12], [0, 1, 2, 3, 4, 5, 6, 7, 8, 9, 10, 11, 12, 13], [0, 1, 2, 3, 4, 5, 6, 7, 8, 9, 10, 11, 12, 13, 14], [0, 1, 2, 3, 4, 5, 6, 7], [0, 1, 2, 3, 4, 5, 6, 7], [0, 1, 2, 3, 4, 5, 6, 7, 16, 17], [0, 1, 2, 3, 4, 5, 6, 7, 16, 17, 18], [0, 1, 2, 3, 4, 5, 6, 7, 16, 17, 18, 19], [0, 1, 2, 3, 4, 5, 6, 7, 8, 9, 10, 11, 12, 13, 14, 15, 16, 17, 18, 19, 20], [0, 1, 2, 3, 4, 5, 6, 7, 8, 9, 10, 11, 12, 13, 14, 15, 16, 17, 18, 19, 20, 21], [0, 1, 2, 3, 4, 5, 6, 7, 8, 9, 10, 11, 12, 13, 14, 15, 16, 17, 18, 19, 20, 21, 22], [0, 1, 2, 3, 4, 5, 6, 7, 8, 9, 10, 11, 12, 13, 14, 15, 16, 17, 18, 19, 20, 21, 22, 23], [0, 1, 2, 3, 4, 5, 6, 7, 8, 9, 10, 11, 12, 13, 14, 15, 16, 17, 18, 19, 20, 21, 22, 23], [0, 1, 2, 3, 4, 5, 6, 7, 8, 9, 10, 11, 12, 13, 14, 15, 16, 17, 18, 19, 20, 21, 22, 23], [0, 1, 2, 3, 4, 5, 6, 7, 8, 9, 10, 11, 12, 13, 14, 15, 16, 17, 18, 19, 20, 21, 22, 23, 25, 26], [0, 1, 2, 3, 4, 5, 6, 7, 8, 9, 10, 11, 12, 13, 14, 15, 16, 17, 18, 19, 20, 21, 22, 23, 25, 26, 27], [0, 1, 2, 3, 4, 5, 6, 7, 8, 9, 10, 11, 12, 13, 14, 15, 16, 17, 18, 19, 20, 21, 22, 23, 24, 25, 26, 27, 28], [0, 1, 2, 3, 4, 5, 6, 7, 8, 9, 10, 11, 12, 13, 14, 15, 16, 17, 18, 19, 20, 21, 22, 23, 24, 25, 26, 27, 28, 29], [0, 1, 2, 3, 4, 5, 6, 7, 8, 9, 10, 11, 12, 13, 14, 15, 16, 17, 18, 19, 20, 21, 22, 23], [0, 1, 2, 3, 4, 5, 6, 7, 8, 9, 10, 11, 12, 13, 14, 15, 16, 17, 18, 19, 20, 21, 22, 23], [0, 1, 2, 3, 4, 5, 6, 7, 8, 9, 10, 11, 12, 13, 14, 15, 16, 17, 18, 19, 20, 21, 22, 23, 31, 32], [0, 1, 2, 3, 4, 5, 6, 7, 8, 9, 10, 11, 12, 13, 14, 15, 16, 17, 18, 19, 20, 21, 22, 23, 31, 32, 33], [0, 1, 2, 3, 4, 5, 6, 7, 8, 9, 10, 11, 12, 13, 14, 15, 16, 17, 18, 19, 20, 21, 22, 23, 24, 25, 26, 27, 28, 29, 30, 31, 32, 33, 34], [0, 1, 2, 3, 4, 5, 6, 7, 8, 9, 10, 11, 12, 13, 14, 15, 16, 17, 18, 19, 20, 21, 22, 23, 24, 25, 26, 27, 28, 29, 30, 31, 32, 33, 34, 35]] [([(some 28, []), (some 32, [])], (some 27, [])), ([(some 27, []), (some 32, [])], (some 28, [])), ([(some 32, [])], (some 29, [])), ([(some 32, [])], (some 30, [])), ([(some 32, [])], (some 31, [])), ([(some 27, []), (some 28, []), (some 29, []), (some 30, []), (some 31, [])], (some 32, [])), ([], (some 33, [])), ([], (some 34, [])), ([(some 36, []), (some 37, []), (some 38, []), (some 39, []), (some 43, []), (some 44, []), (some 45, []), (some 46, []), (some 47, [])], (some 35, [])), ([(some 35, []), (some 37, []), (some 43, []), (some 44, []), (some 45, []), (some 46, []), (some 47, [])], (some 36, [])), ([(some 35, []), (some 36, []), (some 43, []), (some 44, []), (some 45, []), (some 46, []), (some 47, [])], (some 37, [])), ([(some 35, []), (some 43, []), (some 44, []), (some 45, []), (some 46, []), (some 47, [])], (some 38, [])), ([(some 35, []), (some 43, []), (some 44, []), (some 45, []), (some 46, []), (some 47, [])], (some 39, [])), ([(some 43, []), (some 44, []), (some 45, []), (some 46, []), (some 47, [])], (some 40, [])), ([(some 43, []), (some 44, []), (some 45, []), (some 46, []), (some 47, [])], (some 41, [])), ([(some 43, []), (some 44, []), (some 45, []), (some 46, []), (some 47, [])], (some 42, [])), ([(some 35, []), (some 36, []), (some 37, []), (some 38, []), (some 39, []), (some 40, []), (some 41, []), (some 42, []), (some 44, [])], (some 43, [])), ([(some 35, []), (some 36, []), (some 37, []), (some 38, []), (some 39, []), (some 40, []), (some 41, []), (some 42, []), (some 43, [])], (some 44, [])), ([(some 35, []), (some 36, []), (some 37, []), (some 38, []), (some 39, []), (some 40, []), (some 41, []), (some 42, [])], (some 45, [])), ([(some 35, []), (some 36, []), (some 37, []), (some 38, []), (some 39, []), (some 40, []), (some 41, []), (some 42, [])], (some 46, [])), ([(some 35, []), (some 36, []), (some 37, []), (some 38, []), (some 39, []), (some 40, []), (some 41, []), (some 42, [])], (some 47, [])), ([], (some 48, [])), ([], (some 49, [])), ([], (some 50, [])), ([(some 52, []), (some 53, []), (some 54, []), (some 55, []), (some 58, []), (some 59, []), (some 60, []), (some 61, [])], (some 51, [])), ([(some 51, []), (some 53, []), (some 58, []), (some 59, []), (some 60, []), (some 61, [])], (some 52, [])), ([(some 51, []), (some 52, []), (some 58, []), (some 59, []), (some 60, []), (some 61, [])], (some 53, [])), ([(some 51, []), (some 58, []), (some 59, []), (some 60, []), (some 61, [])], (some 54, [])), ([(some 51, []), (some 58, []), (some 59, []), (some 60, []), (some 61, [])], (some 55, [])), ([(some 58, []), (some 59, []), (some 60, []), (some 61, [])], (some 56, [])), ([(some 58, []), (some 59, []), (some 60, []), (some 61, [])], (some 57, [])), ([(some 51, []), (some 52, []), (some 53, []), (some 54, []), (some 55, []), (some 56, []), (some 57, []), (some 59, [])], (some 58, [])), ([(some 51, []), (some 52, []), (some 53, []), (some 54, []), (some 55, []), (some 56, []), (some 57, []), (some 58, [])], (some 59, [])), ([(some 51, []), (some 52, []), (some 53, []), (some 54, []), (some 55, []), (some 56, []), (some 57, [])], (some 60, [])), ([(some 51, []), (some 52, []), (some 53, []), (some 54, []), (some 55, []), (some 56, []), (some 57, [])], (some 61, [])), ([], (some 62, [])), ([], (some 63, []))] tm rfl (by decide +kernel) (by decide +kernel) rfl (by decide +kernel) ?_
          refine RH.op rfl rfl rfl (eff_move (v := .t _) rfl rfl rfl) ?_
          refine RH.op rfl rfl rfl (eff_move (v := .t _) rfl rfl rfl) ?_
          refine RH.op rfl rfl rfl (eff_indexAddrT (i := i) rfl rfl te23 rfl rfl (by first | rfl | omega) (by rw [List.getElem?_map, List.getElem?_eq_getElem (by omega)]; rfl) rfl (by decide)) ?_
          refine RH.op rfl rfl rfl (eff_fieldAddrT rfl rfl tf42_1 (by decide) rfl) ?_
          refine RH.op rfl rfl rfl (eff_loadT1 rfl rfl ti3 rfl rfl) ?_
          refine RH.op rfl rfl rfl (eff_move (v := .t _) rfl rfl rfl) ?_
          refine RH.op rfl rfl rfl (eff_iop (r := .bool false) rfl rfl rfl rfl (by exact congrArg (fun x => some (Tr.bool x)) (beq_eq_false_iff_ne.2 hc4))) ?_
          refine RH.op rfl rfl rfl (eff_move (v := .t _) rfl rfl rfl) ?_
          refine RH.gskip rfl rfl rfl rfl rfl rfl (by decide) ?_
          refine RH.gskip rfl rfl rfl rfl rfl rfl (by decide) ?_
          refine RH.gskip rfl rfl rfl rfl rfl rfl (by decide) ?_
          refine RH.gskip rfl rfl rfl rfl rfl rfl (by decide) ?_
          refine RH.gskip rfl rfl rfl rfl rfl rfl (by decide) ?_
          refine RH.gskip rfl rfl rfl rfl rfl rfl (by decide) ?_
          refine RH.gskip rfl rfl rfl rfl rfl rfl (by decide) ?_
          refine RH.gskip rfl rfl rfl rfl rfl rfl (by decide) ?_
          refine RH.gskip rfl rfl rfl rfl rfl rfl (by decide) ?_
          refine RH.gskip rfl rfl rfl rfl rfl rfl (by decide) ?_
          refine RH.gskip rfl rfl rfl rfl rfl rfl (by decide) ?_
          refine RH.gskip rfl rfl rfl rfl rfl rfl (by decide) ?_
          refine RH.gskip rfl rfl rfl rfl rfl rfl (by decide) ?_
          refine RH.gskip rfl rfl rfl rfl rfl rfl (by decide) ?_
          refine RH.op rfl rfl rfl (eff_pick (v := .t _) rfl rfl rfl rfl) ?_
          refine RH.op rfl rfl rfl (eff_move (v := .t _) rfl rfl rfl) ?_
          refine RH.gskip rfl rfl rfl rfl rfl rfl (by decide) ?_
          refine RH.gskip rfl rfl rfl rfl rfl rfl (by decide) ?_
          refine RH.gskip rfl rfl rfl rfl rfl rfl (by decide) ?_
          refine RH.gskip rfl rfl rfl rfl rfl rfl (by decide) ?_
          refine RH.gskip rfl rfl rfl rfl rfl rfl (by decide) ?_
          refine RH.gskip rfl rfl rfl rfl rfl rfl (by decide) ?_
          refine RH.gskip rfl rfl rfl rfl rfl rfl (by decide) ?_
          refine RH.gskip rfl rfl rfl rfl rfl rfl (by decide) ?_
          refine RH.gskip rfl rfl rfl rfl rfl rfl (by decide) ?_
          refine RH.gskip rfl rfl rfl rfl rfl rfl (by decide) ?_
          refine RH.gskip rfl rfl rfl rfl rfl rfl (by decide) ?_
          refine RH.gskip rfl rfl rfl rfl rfl rfl (by decide) ?_
          refine RH.op rfl rfl rfl (eff_pick (v := .t _) rfl rfl rfl rfl) ?_
          refine RH.nil ?_
          refine awp_cond rfl (fun h => nomatch h) (fun _ => ?_)
          refine awp_skip ?_
          refine awp_rw rfl ?_
          refine RW.op rfl rfl (eff_move (v := .t _) rfl rfl rfl) ?_
          refine RW.op rfl rfl (eff_iop rfl rfl rfl rfl (iadd (by omega))) ?_
          refine RW.op rfl rfl (eff_assign (v := .t _) rfl rfl rfl) ?_
          refine RW.nil ?_
          refine ⟨_, ?_, _, weak_keep (n := 75) (fr' := [(0, .t (.sl (B.map encB) false)), (3, .own 3 k 0 n), (4, .t (encI (k : Nat))), (5, .own 12 1 0 B.length), (6, .t (encI (i : Nat))), (7, .t (encI ((q + 1) : Nat)))]) (st' := [(3, some ⟨1, 3, k, els⟩), (12, some ⟨5, 42, 1, ((blockTo B (outF B k) k i (q + 1)).map encB).map .t⟩)]) ⟨rfl, rfl, rfl, rfl, rfl, rfl, rfl, rfl, rfl, rfl, rfl, rfl, trivial⟩ ⟨rfl, (by rw [he]; exact okE_t), by first | rfl | (rw [blockTo_no hil hql (fun hh => by first | exact absurd hh.1 (by rw [getD_zb hil]; assumption) | (have h8 := hh.2; rw [busy_is (by omega) hil] at h8; simp_all))]; rfl), okE_t, trivial⟩, q + 1, (by omega), rfl, rfl⟩
          omega
      · try simp only [decide_eq_true_eq, decide_eq_false_iff_not, beq_iff_eq, bne_iff_ne, bne_eq_false_iff_eq, beq_eq_false_iff_ne, Bool.not_eq_true, Bool.not_eq_false, Bool.not_eq_true', Bool.not_eq_false', ne_eq] at h3
        refine awp_exit ?_
        refine awp_rw rfl ?_
        refine RW.op rfl rfl (eff_move (v := .t _) rfl rfl rfl) ?_
        refine RW.op rfl rfl (eff_iop rfl rfl rfl rfl (iadd (by omega))) ?_
        refine RW.op rfl rfl (eff_assign (v := .t _) rfl rfl rfl) ?_
        refine RW.nil ?_
        obtain rfl : q = (outF B k).length := by omega
        refine ⟨_, ?_, _, weak_keep (n := 75) (fr' := [(0, .t (.sl (B.map encB) false)), (3, .own 3 k 0 n), (4, .t (encI (k : Nat))), (5, .own 12 1 0 B.length), (6, .t (encI ((i + 1) : Nat)))]) (st' := [(3, some ⟨1, 3, k, els⟩), (12, some ⟨5, 42, 1, ((blockTo B (outF B k) k (i + 1) 0).map encB).map .t⟩)]) ⟨rfl, rfl, rfl, rfl, rfl, rfl, rfl, rfl, rfl, rfl, trivial⟩ ⟨rfl, (by rw [he]; exact okE_t), by first | (rw [blockTo_zero]; rfl) | (rw [← blockTo_next]; rfl), okE_t, trivial⟩, i + 1, (by omega), rfl, rfl⟩
        omega
    · try simp only [decide_eq_true_eq, decide_eq_false_iff_not, beq_iff_eq, bne_iff_ne, bne_eq_false_iff_eq, beq_eq_false_iff_ne, Bool.not_eq_true, Bool.not_eq_false, Bool.not_eq_true', Bool.not_eq_false', ne_eq] at h2
      refine awp_exit ?_
      obtain rfl : i = B.length := by omega
      refine awp_weak (weak_frz (n := 75) (fr' := [(0, .t (.sl (B.map encB) false)), (3, .own 3 k 0 n), (4, .t (encI (k : Nat))), (5, (.t (.sl ((blockF B (outF B k) k).map encB) false)))]) (st' := [(3, some ⟨1, 3, k, els⟩)]) [(12, some ⟨5, 42, 1, ((blockTo B (outF B k) k B.length 0).map encB).map .t⟩)] ⟨rfl, trivial⟩ ⟨rfl, trivial⟩ ⟨wa_eq rfl rfl, wa_eq rfl rfl, wa_eq rfl rfl, .res (Res.ownT (xs := (blockF B (outF B k) k).map encB) rfl rfl (by rw [blockTo_all]) (by rw [List.length_map, block_len])) (.refl _), trivial⟩ ⟨rfl, (by rw [he]; exact okE_t), trivial⟩) ?_
      have hbo := block_okl (out := (outF B k)) (s := (k : Int)) hB
      have hbl := best_len (s := (k : Int)) hbo
      rw [block_len] at hbl
      refine awp_rw rfl ?_
      refine RW.op rfl rfl (eff_move (v := .own _ _ _ _) rfl rfl rfl) ?_
      refine RW.op rfl rfl (eff_move (v := .t _) rfl rfl rfl) ?_
      refine RW.op rfl rfl (eff_move (v := .t _) rfl rfl rfl) ?_
      refine RW.op rfl rfl (eff_callT (rbest_retN (blockF B (outF B k) k) k hbo (by rw [block_len]; exact h10)) co21 rfl rfl rfl rfl) ?_
      refine RW.new rfl rfl (eff_appendAny (id := 3) rfl rfl ta22 rfl rfl rfl (by rw [he, hnn]; simp) rfl rfl (srcM (l := bestF (blockF B (outF B k) k) k) (g := encN) rfl (fun _ => rfl)) (by simp only [List.length_map]; omega) (by simp only [List.length_map]; omega)) ?_
      refine RW.op rfl rfl (eff_assign (v := .own _ _ _ _) rfl rfl rfl) ?_
      refine RW.nil ?_
      refine awp_rw rfl ?_
      refine RW.op rfl rfl (eff_move (v := .t _) rfl rfl rfl) ?_
      refine RW.op rfl rfl (eff_iop rfl rfl rfl rfl (iadd (by omega))) ?_
      refine RW.op rfl rfl (eff_assign (v := .t _) rfl rfl rfl) ?_
      refine RW.nil ?_
      refine ⟨_, ?_, _, weak_keep (n := 75) (fr' := [(0, .t (.sl (B.map encB) false)), (3, .own 3 (k + 1) 0 _), (4, .t (encI ((k + 1) : Nat)))]) (st' := [(3, some ⟨1, 3, (k + 1), _⟩)]) ⟨rfl, rfl, rfl, rfl, rfl, rfl, trivial⟩ ⟨rfl, (by first | exact okE_nil | exact okE_one rfl | (rw [he]; exact okE_t) | (rw [he]; intro x hx; rcases List.mem_append.1 hx with h | h <;> (obtain ⟨y, _, rfl⟩ := List.mem_map.1 h; rfl))), trivial⟩, k + 1, _, _, (by omega), (by rw [hnn]; simp [outF]), (by rw [he]; simp [outF] <;> rfl), rfl, rfl⟩
      omega
  · try simp only [decide_eq_true_eq, decide_eq_false_iff_not, beq_iff_eq, bne_iff_ne, bne_eq_false_iff_eq, beq_eq_false_iff_ne, Bool.not_eq_true, Bool.not_eq_false, Bool.not_eq_true', Bool.not_eq_false', ne_eq] at h1
    refine awp_exit ?_
    refine awp_seq ?_
    obtain rfl : k = 9 := by omega
    refine awp_weak (weak_frz (n := 75) (fr' := [(3, (.t (.sl ((toI (outF B 9)).map encI) false)))]) (st' := []) [(3, some ⟨1, 3, 9, els⟩)] ⟨rfl, trivial⟩ trivial ⟨.res (Res.ownT (xs := (toI (outF B 9)).map encI) rfl rfl (by rw [he, encN_map]) (by rw [hnn, List.length_map, toI_len])) (.refl _), trivial⟩ trivial) ?_
    refine awp_rw rfl ?_
    refine RW.op rfl rfl (eff_move (v := .t _) rfl rfl rfl) ?_
    refine RW.op rfl rfl (eff_callT (sorted_ret30 (toI (outF B 9)) (by rw [toI_len]; omega)) co30 rfl rfl rfl rfl) ?_
    refine RW.op rfl rfl (eff_assign (v := .t _) rfl rfl rfl) ?_
    refine RW.nil ?_
    refine awp_ret ?_
    exact ⟨Or.inr rfl, [_], ⟨.tmp (.t _), trivial⟩, .refl _⟩

end Go.Tv.C35

end
section
open Go Go.Tv Go.Proofs
namespace Go.Tv.C35
set_option linter.unusedVariables false

structure Win where
  kind : Int
  a : Int
  b : Int
  frm : Int
  til : Int
  rate : Int
  deriving DecidableEq, Inhabited
def encW (w : Win) : Tr := .agg [encI w.kind, encI w.a, encI w.b, encI w.frm, encI w.til, encI w.rate]
def cellsW (w : Win) : List Sc := [.int .i64 w.kind, .int .i64 w.a, .int .i64 w.b, .int .i64 w.frm, .int .i64 w.til, .int .i64 w.rate]
theorem cellsW_kind (w : Win) : (cellsW w).map Sc.kind = [.int .i64, .int .i64, .int .i64, .int .i64, .int .i64, .int .i64] := rfl
theorem cellsW_inj (x y : Win) (h : cellsW x = cellsW y) : x = y := by
  obtain ⟨a1, a2, a3, a4, a5, a6⟩ := x
  obtain ⟨b1, b2, b3, b4, b5, b6⟩ := y
  simp only [cellsW, List.cons.injEq, Sc.int.injEq, true_and, and_true] at h
  obtain ⟨h1, h2, h3, h4, h5, h6⟩ := h
  subst h1 h2 h3 h4 h5 h6
  rfl
def zw : Win := ⟨0, 0, 0, 0, 0, 0⟩
def keyB (k a b : Int) (w : Win) : Bool := decide (w.kind = k ∧ w.a = a ∧ w.b = b)
def passB (craft tick : Int) (w : Win) : Bool := decide (w.kind = 1 ∧ w.a = craft ∧ w.til > tick)
def passesF (t : List Win) (craft tick : Int) : List Win := t.filter (passB craft tick)
def nextF (t : List Win) (k a b tick : Int) : Win × Bool := match (t.filter (keyB k a b)).find? (fun w => decide (w.til > tick)) with
  | some w => (w, true)
  | none => (zw, false)
def atF (t : List Win) (k a b tick : Int) : Win × Bool := if (nextF t k a b tick).2 = true ∧ (nextF t k a b tick).1.frm ≤ tick then ((nextF t k a b tick).1, true) else (zw, false)
def validB (b : Bid) : Bool := decide (0 ≤ b.craft ∧ b.craft < 12 ∧ 0 ≤ b.station ∧ b.station < 9 ∧ 0 ≤ b.frm ∧ b.frm < b.til ∧ b.til ≤ 1000000 ∧ 1 ≤ b.val ∧ b.val ≤ 1000000)
def atB (t : List Win) (b : Bid) : Bool := decide ((atF t 1 b.craft b.station b.frm).2 = true ∧ ¬ (atF t 1 b.craft b.station b.frm).1.til < b.til)
def errG (f : Bid → Bool) : List Bid → Int
  | [] => 0
  | b :: l => if validB b = true then (if f b = true then errG f l else 32) else 5
def errF (f : Bid → Bool) (l : List Bid) : Int := if l.length > 64 then 2 else errG f l
theorem errG_drop {f : Bid → Bool} : ∀ {l : List Bid} {i : Nat}, i ≤ l.length → (∀ b, b ∈ l.take i → validB b = true ∧ f b = true) → errG f l = errG f (l.drop i)
  | _, 0, _, _ => by simp
  | [], i + 1, h, _ => by simp at h
  | b :: l, i + 1, h, hh => by
    obtain ⟨h1, h2⟩ := hh b (by simp)
    have := errG_drop (f := f) (l := l) (i := i) (by simpa using h) (fun c hc => hh c (by simp [hc]))
    show (if validB b = true then (if f b = true then errG f l else 32) else 5) = errG f (l.drop i)
    rw [if_pos h1, if_pos h2, this]
theorem errG_at {f : Bid → Bool} {l : List Bid} {i : Nat} (hi : i < l.length) (hh : ∀ b, b ∈ l.take i → validB b = true ∧ f b = true) : errG f l = if validB l[i] = true then (if f l[i] = true then errG f (l.drop (i + 1)) else 32) else 5 := by
  rw [errG_drop (Nat.le_of_lt hi) hh, List.drop_eq_getElem_cons hi]; rfl
theorem filter_get {α : Type} {p : α → Bool} {l : List α} {i : Nat} (hi : i < l.length) (hp : p l[i] = true) : (l.filter p)[((l.take i).filter p).length]? = some l[i] := by
  have h := List.take_append_drop i l
  have h2 : l.filter p = (l.take i).filter p ++ (l.drop i).filter p := by rw [← List.filter_append, h]
  rw [h2, List.getElem?_append_right (Nat.le_refl _), Nat.sub_self, List.drop_eq_getElem_cons hi, List.filter_cons, if_pos hp]; rfl
theorem filter_take_yes {α : Type} {p : α → Bool} {l : List α} {i : Nat} (hi : i < l.length) (hp : p l[i] = true) : ((l.take (i + 1)).filter p) = ((l.take i).filter p) ++ [l[i]] := by
  rw [take_succ_get hi, List.filter_append, List.filter_cons, if_pos hp]; rfl
theorem filter_take_no {α : Type} {p : α → Bool} {l : List α} {i : Nat} (hi : i < l.length) (hp : p l[i] = false) : ((l.take (i + 1)).filter p) = ((l.take i).filter p) := by
  rw [take_succ_get hi, List.filter_append, List.filter_cons, if_neg (by rw [hp]; decide)]; simp
theorem next_first {t : List Win} {k a b tick : Int} {i : Nat} {w : Win} (h : (t.filter (keyB k a b))[i]? = some w) (hp : ∀ y, y ∈ (t.filter (keyB k a b)).take i → ¬ y.til > tick) (hw : w.til > tick) : nextF t k a b tick = (w, true) := by
  obtain ⟨hi, he⟩ := List.getElem?_eq_some_iff.1 h
  have hf : (t.filter (keyB k a b)).find? (fun w => decide (w.til > tick)) = some w := by
    rw [List.find?_eq_some_iff_getElem]
    refine ⟨decide_eq_true hw, i, hi, he, fun j hj => ?_⟩
    have := hp ((t.filter (keyB k a b))[j]'(by omega)) (List.mem_take_iff_getElem.2 ⟨j, by omega, rfl⟩)
    simpa using this
  unfold nextF; rw [hf]
theorem next_never {t : List Win} {k a b tick : Int} (hp : ∀ y, y ∈ t.filter (keyB k a b) → ¬ y.til > tick) : nextF t k a b tick = (zw, false) := by
  have hf : (t.filter (keyB k a b)).find? (fun w => decide (w.til > tick)) = none := by
    rw [List.find?_eq_none]
    intro y hy; have := hp y hy; simpa using this
  unfold nextF; rw [hf]
end Go.Tv.C35

end
section
open Go Go.Tv Go.Proofs
namespace Go.Tv.C35
set_option maxRecDepth 20000
set_option maxHeartbeats 2000000
set_option linter.unusedSimpArgs false
set_option linter.unusedVariables false
theorem of_iter (t : List Win) (kd a b : Int) (ht : t.length ≤ 100000) : Iter Try.prog 105 [.ptr [.sl (t.map encW) false], .ptr [encI kd], .ptr [encI a], .ptr [encI b]] ((t.filter (keyB kd a b)).map encW) := by
  refine iter_of_awj Try.func105 rfl (Nat.le_of_ble_eq_true rfl) rfl ?_
  intro γ X hds At Stop yl hy g0 hAt
  refine awj_seq ?_
  refine awj_rj rfl ?_
  refine RJ.op rfl rfl (eff_loadT1 rfl rfl ti25 rfl rfl) ?_
  refine RJ.op rfl rfl (eff_lenM rfl rfl te25 rfl) ?_
  refine RJ.op rfl rfl (eff_move (v := .t _) rfl rfl rfl) ?_
  refine RJ.nil ?_
  refine awj_block ?_
  refine awj_loopW (fun m s g => ∃ (i : Nat), (i ≤ t.length) ∧ (At ((t.take i).filter (keyB kd a b)).length g) ∧ m = t.length - i ∧ s = ⟨37, [(0, .t (.yld yl)), (1, .t (.ptr [.sl (t.map encW) false])), (2, .t (.ptr [encI kd])), (3, .t (.ptr [encI a])), (4, .t (.ptr [encI b])), (8, .t (.sl (t.map encW) false)), (9, .t (encI t.length)), (10, .t (encI (i : Nat)))], []⟩) (_) (⟨_, weak_keep (n := 37) (fr' := [(0, .t (.yld yl)), (1, .t (.ptr [.sl (t.map encW) false])), (2, .t (.ptr [encI kd])), (3, .t (.ptr [encI a])), (4, .t (.ptr [encI b])), (8, .t (.sl (t.map encW) false)), (9, .t (encI t.length)), (10, .t (encI (0 : Nat)))]) (st' := []) ⟨rfl, rfl, rfl, rfl, rfl, rfl, rfl, rfl, rfl, rfl, rfl, rfl, rfl, rfl, rfl, rfl, trivial⟩ trivial, 0, (by omega), (by exact hAt), rfl, rfl⟩) ?_
  rintro m s g ⟨i, hi, hA, rfl, rfl⟩
  refine awj_seq ?_
  refine awj_rj rfl ?_
  refine RJ.op rfl rfl (eff_iop rfl rfl rfl rfl rfl) ?_
  refine RJ.nil ?_
  refine awj_seq ?_
  refine awj_cond rfl (fun h1 => ?_) (fun h1 => ?_)
  · try simp only [decide_eq_true_eq, decide_eq_false_iff_not, beq_iff_eq, bne_iff_ne, bne_eq_false_iff_eq, beq_eq_false_iff_ne, Bool.not_eq_true, Bool.not_eq_false, Bool.not_eq_true', Bool.not_eq_false', ne_eq] at h1
    refine awj_skip ?_
    refine awj_seq ?_
    refine awj_block ?_
    refine awj_seq ?_
    refine awj_rj rfl ?_
    have hil : i < t.length := by omega
    refine RJ.op rfl rfl (eff_indexAddrT (i := i) rfl rfl te25 rfl rfl (by first | rfl | omega) (by rw [List.getElem?_map, List.getElem?_eq_getElem hil]; rfl) rfl (by decide)) ?_
    refine RJ.op rfl rfl (eff_loadW rfl rfl ti29 rfl rfl rfl) ?_
    refine RJ.new rfl rfl (eff_allocK (k := 6) (id := 7) rfl rfl tz29 rfl rfl) ?_
    refine RJ.store rfl rfl (eff_storeW (v := .t _) (els := [_]) (els' := [_]) rfl rfl ti29 rfl rfl rfl rfl rfl rfl rfl rfl rfl) ?_
    refine RJ.nil ?_
    refine awj_seq ?_
    refine awj_rj rfl ?_
    refine RJ.op rfl rfl (eff_fieldAddr rfl rfl tf29_0 (by decide) rfl rfl rfl (Nat.le_of_ble_eq_true rfl)) ?_
    refine RJ.op rfl rfl (eff_load (y := .t _) rfl rfl ti3 rfl (.one rfl rfl rfl rfl)) ?_
    refine RJ.op rfl rfl (eff_loadT1 rfl rfl ti3 rfl rfl) ?_
    refine RJ.op rfl rfl (eff_iop rfl rfl rfl rfl rfl) ?_
    refine RJ.op rfl rfl (eff_move (v := .t _) rfl rfl rfl) ?_
    refine RJ.split 18 rfl (fun h2 => ?_) (fun h2 => ?_)
    · try simp only [decide_eq_true_eq, decide_eq_false_iff_not, beq_iff_eq, bne_iff_ne, bne_eq_false_iff_eq, beq_eq_false_iff_ne, Bool.not_eq_true, Bool.not_eq_false, Bool.not_eq_true', Bool.not_eq_false', ne_eq] at h2
      refine RJ.gop rfl rfl rfl rfl rfl rfl (eff_fieldAddr rfl rfl tf29_1 (by decide) rfl rfl rfl (Nat.le_of_ble_eq_true rfl)) ?_
      refine RJ.gop rfl rfl rfl rfl rfl rfl (eff_load (y := .t _) rfl rfl ti3 rfl (.one rfl rfl rfl rfl)) ?_
      refine RJ.gop rfl rfl rfl rfl rfl rfl (eff_loadT1 rfl rfl ti3 rfl rfl) ?_
      refine RJ.gop rfl rfl rfl rfl rfl rfl (eff_iop rfl rfl rfl rfl rfl) ?_
      refine RJ.op rfl rfl (eff_pick (v := .t _) rfl rfl rfl rfl) ?_
      refine RJ.op rfl rfl (eff_move (v := .t _) rfl rfl rfl) ?_
      refine RJ.split 24 rfl (fun h3 => ?_) (fun h3 => ?_)
      · try simp only [decide_eq_true_eq, decide_eq_false_iff_not, beq_iff_eq, bne_iff_ne, bne_eq_false_iff_eq, beq_eq_false_iff_ne, Bool.not_eq_true, Bool.not_eq_false, Bool.not_eq_true', Bool.not_eq_false', ne_eq] at h3
        refine RJ.gop rfl rfl rfl rfl rfl rfl (eff_fieldAddr rfl rfl tf29_2 (by decide) rfl rfl rfl (Nat.le_of_ble_eq_true rfl)) ?_
        refine RJ.gop rfl rfl rfl rfl rfl rfl (eff_load (y := .t _) rfl rfl ti3 rfl (.one rfl rfl rfl rfl)) ?_
        refine RJ.gop rfl rfl rfl rfl rfl rfl (eff_loadT1 rfl rfl ti3 rfl rfl) ?_
        refine RJ.gop rfl rfl rfl rfl rfl rfl (eff_iop rfl rfl rfl rfl rfl) ?_
        refine RJ.op rfl rfl (eff_pick (v := .t _) rfl rfl rfl rfl) ?_
        refine RJ.op rfl rfl (eff_move (v := .t _) rfl rfl rfl) ?_
        refine RJ.split 30 rfl (fun h4 => ?_) (fun h4 => ?_)
        · try simp only [decide_eq_true_eq, decide_eq_false_iff_not, beq_iff_eq, bne_iff_ne, bne_eq_false_iff_eq, beq_eq_false_iff_ne, Bool.not_eq_true, Bool.not_eq_false, Bool.not_eq_true', Bool.not_eq_false', ne_eq] at h4
          refine RJ.gop rfl rfl rfl rfl rfl rfl (eff_move (v := .t _) rfl rfl rfl) ?_
          refine RJ.gop rfl rfl rfl rfl rfl rfl (eff_load rfl rfl ti29 rfl (.whole rfl rfl rfl rfl rfl rfl)) ?_
          have hpos : ((t.filter (keyB kd a b)).map encW)[((t.take i).filter (keyB kd a b)).length]? = some (encW (t[i]'hil)) := by
            rw [List.getElem?_map, filter_get hil (by unfold keyB; exact decide_eq_true ⟨by omega, by omega, by omega⟩)]; rfl
          refine RJ.many (.inr ⟨_, _, _, _, _, rfl, rfl, rfl, rfl, rfl⟩) (eff_yield rfl rfl rfl rfl hds (hy _ _ _ hpos hA)) ?_
          rintro e g2 ⟨yb, rfl, hyb⟩
          show RJ _ _ _ _ _ ⟨_, (33, .t (.bool yb)) :: _, _⟩ _ _
          refine RJ.gop rfl rfl rfl rfl rfl rfl (eff_unop rfl rfl rfl rfl) ?_
          refine RJ.op rfl rfl (eff_pick (v := .t _) rfl rfl rfl rfl) ?_
          refine RJ.nil ?_
          refine awj_cond rfl (fun h5 => ?_) (fun h5 => ?_)
          · try simp only [decide_eq_true_eq, decide_eq_false_iff_not, beq_iff_eq, bne_iff_ne, bne_eq_false_iff_eq, beq_eq_false_iff_ne, Bool.not_eq_true, Bool.not_eq_false, Bool.not_eq_true', Bool.not_eq_false', ne_eq] at h5
            refine awj_ret ?_
            rcases hyb with ⟨h, _⟩ | ⟨_, h⟩
            · exact absurd (h.symm.trans (by assumption : yb = false)) (by decide)
            · exact ⟨Or.inr rfl, Or.inr h⟩
          · try simp only [decide_eq_true_eq, decide_eq_false_iff_not, beq_iff_eq, bne_iff_ne, bne_eq_false_iff_eq, beq_eq_false_iff_ne, Bool.not_eq_true, Bool.not_eq_false, Bool.not_eq_true', Bool.not_eq_false', ne_eq] at h5
            refine awj_skip ?_
            refine awj_rj rfl ?_
            refine RJ.op rfl rfl (eff_iop rfl rfl rfl rfl (iadd (by omega))) ?_
            refine RJ.op rfl rfl (eff_move (v := .t _) rfl rfl rfl) ?_
            refine RJ.nil ?_
            refine ⟨_, ?_, _, weak_keep (n := 37) (fr' := [(0, .t (.yld yl)), (1, .t (.ptr [.sl (t.map encW) false])), (2, .t (.ptr [encI kd])), (3, .t (.ptr [encI a])), (4, .t (.ptr [encI b])), (8, .t (.sl (t.map encW) false)), (9, .t (encI t.length)), (10, .t (encI ((i + 1) : Nat)))]) (st' := []) ⟨rfl, rfl, rfl, rfl, rfl, rfl, rfl, rfl, rfl, rfl, rfl, rfl, rfl, rfl, rfl, rfl, trivial⟩ trivial, i + 1, (by omega), (by first | (rw [filter_take_no hil (by unfold keyB; exact decide_eq_false (by omega))]; exact hA) | (rw [filter_take_yes hil (by unfold keyB; exact decide_eq_true ⟨by omega, by omega, by omega⟩), List.length_append]; rcases hyb with ⟨_, h⟩ | ⟨h, _⟩ <;> first | exact h | exact absurd (h.symm.trans (by assumption : yb = true)) (by decide))), rfl, rfl⟩
            omega
        · try simp only [decide_eq_true_eq, decide_eq_false_iff_not, beq_iff_eq, bne_iff_ne, bne_eq_false_iff_eq, beq_eq_false_iff_ne, Bool.not_eq_true, Bool.not_eq_false, Bool.not_eq_true', Bool.not_eq_false', ne_eq] at h4
          refine RJ.gskip rfl rfl rfl rfl rfl (by decide) ?_
          refine RJ.gskip rfl rfl rfl rfl rfl (by decide) ?_
          refine RJ.gskip rfl rfl rfl rfl rfl (by decide) ?_
          refine RJ.gskip rfl rfl rfl rfl rfl (by decide) ?_
          refine RJ.op rfl rfl (eff_pick (v := .t _) rfl rfl rfl rfl) ?_
          refine RJ.nil ?_
          refine awj_cond rfl (fun h => nomatch h) (fun _ => ?_)
          refine awj_skip ?_
          refine awj_rj rfl ?_
          refine RJ.op rfl rfl (eff_iop rfl rfl rfl rfl (iadd (by omega))) ?_
          refine RJ.op rfl rfl (eff_move (v := .t _) rfl rfl rfl) ?_
          refine RJ.nil ?_
          refine ⟨_, ?_, _, weak_keep (n := 37) (fr' := [(0, .t (.yld yl)), (1, .t (.ptr [.sl (t.map encW) false])), (2, .t (.ptr [encI kd])), (3, .t (.ptr [encI a])), (4, .t (.ptr [encI b])), (8, .t (.sl (t.map encW) false)), (9, .t (encI t.length)), (10, .t (encI ((i + 1) : Nat)))]) (st' := []) ⟨rfl, rfl, rfl, rfl, rfl, rfl, rfl, rfl, rfl, rfl, rfl, rfl, rfl, rfl, rfl, rfl, trivial⟩ trivial, i + 1, (by omega), (by first | (rw [filter_take_no hil (by unfold keyB; exact decide_eq_false (by omega))]; exact hA) | (rw [filter_take_yes hil (by unfold keyB; exact decide_eq_true ⟨by omega, by omega, by omega⟩), List.length_append]; rcases hyb with ⟨_, h⟩ | ⟨h, _⟩ <;> first | exact h | exact absurd (h.symm.trans (by assumption : yb = true)) (by decide))), rfl, rfl⟩
          omega
      · try simp only [decide_eq_true_eq, decide_eq_false_iff_not, beq_iff_eq, bne_iff_ne, bne_eq_false_iff_eq, beq_eq_false_iff_ne, Bool.not_eq_true, Bool.not_eq_false, Bool.not_eq_true', Bool.not_eq_false', ne_eq] at h3
        refine RJ.gskip rfl rfl rfl rfl rfl (by decide) ?_
        refine RJ.gskip rfl rfl rfl rfl rfl (by decide) ?_
        refine RJ.gskip rfl rfl rfl rfl rfl (by decide) ?_
        refine RJ.gskip rfl rfl rfl rfl rfl (by decide) ?_
        refine RJ.op rfl rfl (eff_pick (v := .t _) rfl rfl rfl rfl) ?_
        refine RJ.op rfl rfl (eff_move (v := .t _) rfl rfl rfl) ?_
        refine RJ.gskip rfl rfl rfl rfl rfl (by decide) ?_
        refine RJ.gskip rfl rfl rfl rfl rfl (by decide) ?_
        refine RJ.gskip rfl rfl rfl rfl rfl (by decide) ?_
        refine RJ.gskip rfl rfl rfl rfl rfl (by decide) ?_
        refine RJ.op rfl rfl (eff_pick (v := .t _) rfl rfl rfl rfl) ?_
        refine RJ.nil ?_
        refine awj_cond rfl (fun h => nomatch h) (fun _ => ?_)
        refine awj_skip ?_
        refine awj_rj rfl ?_
        refine RJ.op rfl rfl (eff_iop rfl rfl rfl rfl (iadd (by omega))) ?_
        refine RJ.op rfl rfl (eff_move (v := .t _) rfl rfl rfl) ?_
        refine RJ.nil ?_
        refine ⟨_, ?_, _, weak_keep (n := 37) (fr' := [(0, .t (.yld yl)), (1, .t (.ptr [.sl (t.map encW) false])), (2, .t (.ptr [encI kd])), (3, .t (.ptr [encI a])), (4, .t (.ptr [encI b])), (8, .t (.sl (t.map encW) false)), (9, .t (encI t.length)), (10, .t (encI ((i + 1) : Nat)))]) (st' := []) ⟨rfl, rfl, rfl, rfl, rfl, rfl, rfl, rfl, rfl, rfl, rfl, rfl, rfl, rfl, rfl, rfl, trivial⟩ trivial, i + 1, (by omega), (by first | (rw [filter_take_no hil (by unfold keyB; exact decide_eq_false (by omega))]; exact hA) | (rw [filter_take_yes hil (by unfold keyB; exact decide_eq_true ⟨by omega, by omega, by omega⟩), List.length_append]; rcases hyb with ⟨_, h⟩ | ⟨h, _⟩ <;> first | exact h | exact absurd (h.symm.trans (by assumption : yb = true)) (by decide))), rfl, rfl⟩
        omega
    · try simp only [decide_eq_true_eq, decide_eq_false_iff_not, beq_iff_eq, bne_iff_ne, bne_eq_false_iff_eq, beq_eq_false_iff_ne, Bool.not_eq_true, Bool.not_eq_false, Bool.not_eq_true', Bool.not_eq_false', ne_eq] at h2
      refine RJ.gskip rfl rfl rfl rfl rfl (by decide) ?_
      refine RJ.gskip rfl rfl rfl rfl rfl (by decide) ?_
      refine RJ.gskip rfl rfl rfl rfl rfl (by decide) ?_
      refine RJ.gskip rfl rfl rfl rfl rfl (by decide) ?_
      refine RJ.op rfl rfl (eff_pick (v := .t _) rfl rfl rfl rfl) ?_
      refine RJ.op rfl rfl (eff_move (v := .t _) rfl rfl rfl) ?_
      refine RJ.gskip rfl rfl rfl rfl rfl (by decide) ?_
      refine RJ.gskip rfl rfl rfl rfl rfl (by decide) ?_
      refine RJ.gskip rfl rfl rfl rfl rfl (by decide) ?_
      refine RJ.gskip rfl rfl rfl rfl rfl (by decide) ?_
      refine RJ.op rfl rfl (eff_pick (v := .t _) rfl rfl rfl rfl) ?_
      refine RJ.op rfl rfl (eff_move (v := .t _) rfl rfl rfl) ?_
      refine RJ.gskip rfl rfl rfl rfl rfl (by decide) ?_
      refine RJ.gskip rfl rfl rfl rfl rfl (by decide) ?_
      refine RJ.gskip rfl rfl rfl rfl rfl (by decide) ?_
      refine RJ.gskip rfl rfl rfl rfl rfl (by decide) ?_
      refine RJ.op rfl rfl (eff_pick (v := .t _) rfl rfl rfl rfl) ?_
      refine RJ.nil ?_
      refine awj_cond rfl (fun h => nomatch h) (fun _ => ?_)
      refine awj_skip ?_
      refine awj_rj rfl ?_
      refine RJ.op rfl rfl (eff_iop rfl rfl rfl rfl (iadd (by omega))) ?_
      refine RJ.op rfl rfl (eff_move (v := .t _) rfl rfl rfl) ?_
      refine RJ.nil ?_
      refine ⟨_, ?_, _, weak_keep (n := 37) (fr' := [(0, .t (.yld yl)), (1, .t (.ptr [.sl (t.map encW) false])), (2, .t (.ptr [encI kd])), (3, .t (.ptr [encI a])), (4, .t (.ptr [encI b])), (8, .t (.sl (t.map encW) false)), (9, .t (encI t.length)), (10, .t (encI ((i + 1) : Nat)))]) (st' := []) ⟨rfl, rfl, rfl, rfl, rfl, rfl, rfl, rfl, rfl, rfl, rfl, rfl, rfl, rfl, rfl, rfl, trivial⟩ trivial, i + 1, (by omega), (by first | (rw [filter_take_no hil (by unfold keyB; exact decide_eq_false (by omega))]; exact hA) | (rw [filter_take_yes hil (by unfold keyB; exact decide_eq_true ⟨by omega, by omega, by omega⟩), List.length_append]; rcases hyb with ⟨_, h⟩ | ⟨h, _⟩ <;> first | exact h | exact absurd (h.symm.trans (by assumption : yb = true)) (by decide))), rfl, rfl⟩
      omega
  · try simp only [decide_eq_true_eq, decide_eq_false_iff_not, beq_iff_eq, bne_iff_ne, bne_eq_false_iff_eq, beq_eq_false_iff_ne, Bool.not_eq_true, Bool.not_eq_false, Bool.not_eq_true', Bool.not_eq_false', ne_eq] at h1
    refine awj_exit ?_
    have hi2 : i = t.length := by omega
    subst hi2
    rw [List.take_length] at hA
    exact ⟨Or.inl rfl, Or.inl (by rw [List.length_map]; exact hA)⟩

theorem contacts_iter (t : List Win) (craft tick : Int) (ht : t.length ≤ 100000) : Iter Try.prog 73 [.ptr [.sl (t.map encW) false], .ptr [encI craft], .ptr [encI tick]] ((t.filter (passB craft tick)).map encW) := by
  refine iter_of_awj Try.func73 rfl (Nat.le_of_ble_eq_true rfl) rfl ?_
  intro γ X hds At Stop yl hy g0 hAt
  refine awj_seq ?_
  refine awj_rj rfl ?_
  refine RJ.op rfl rfl (eff_loadT1 rfl rfl ti25 rfl rfl) ?_
  refine RJ.op rfl rfl (eff_lenM rfl rfl te25 rfl) ?_
  refine RJ.op rfl rfl (eff_move (v := .t _) rfl rfl rfl) ?_
  refine RJ.nil ?_
  refine awj_block ?_
  refine awj_loopW (fun m s g => ∃ (i : Nat), (i ≤ t.length) ∧ (At ((t.take i).filter (passB craft tick)).length g) ∧ m = t.length - i ∧ s = ⟨35, [(0, .t (.yld yl)), (1, .t (.ptr [.sl (t.map encW) false])), (2, .t (.ptr [encI craft])), (3, .t (.ptr [encI tick])), (7, .t (.sl (t.map encW) false)), (8, .t (encI t.length)), (9, .t (encI (i : Nat)))], []⟩) (_) (⟨_, weak_keep (n := 35) (fr' := [(0, .t (.yld yl)), (1, .t (.ptr [.sl (t.map encW) false])), (2, .t (.ptr [encI craft])), (3, .t (.ptr [encI tick])), (7, .t (.sl (t.map encW) false)), (8, .t (encI t.length)), (9, .t (encI (0 : Nat)))]) (st' := []) ⟨rfl, rfl, rfl, rfl, rfl, rfl, rfl, rfl, rfl, rfl, rfl, rfl, rfl, rfl, trivial⟩ trivial, 0, (by omega), (by exact hAt), rfl, rfl⟩) ?_
  rintro m s g ⟨i, hi, hA, rfl, rfl⟩
  refine awj_seq ?_
  refine awj_rj rfl ?_
  refine RJ.op rfl rfl (eff_iop rfl rfl rfl rfl rfl) ?_
  refine RJ.nil ?_
  refine awj_seq ?_
  refine awj_cond rfl (fun h1 => ?_) (fun h1 => ?_)
  · try simp only [decide_eq_true_eq, decide_eq_false_iff_not, beq_iff_eq, bne_iff_ne, bne_eq_false_iff_eq, beq_eq_false_iff_ne, Bool.not_eq_true, Bool.not_eq_false, Bool.not_eq_true', Bool.not_eq_false', ne_eq] at h1
    refine awj_skip ?_
    refine awj_seq ?_
    refine awj_block ?_
    refine awj_seq ?_
    refine awj_rj rfl ?_
    have hil : i < t.length := by omega
    refine RJ.op rfl rfl (eff_indexAddrT (i := i) rfl rfl te25 rfl rfl (by first | rfl | omega) (by rw [List.getElem?_map, List.getElem?_eq_getElem hil]; rfl) rfl (by decide)) ?_
    refine RJ.op rfl rfl (eff_loadW rfl rfl ti29 rfl rfl rfl) ?_
    refine RJ.new rfl rfl (eff_allocK (k := 6) (id := 6) rfl rfl tz29 rfl rfl) ?_
    refine RJ.store rfl rfl (eff_storeW (v := .t _) (els := [_]) (els' := [_]) rfl rfl ti29 rfl rfl rfl rfl rfl rfl rfl rfl rfl) ?_
    refine RJ.nil ?_
    refine awj_seq ?_
    refine awj_rj rfl ?_
    refine RJ.op rfl rfl (eff_fieldAddr rfl rfl tf29_0 (by decide) rfl rfl rfl (Nat.le_of_ble_eq_true rfl)) ?_
    refine RJ.op rfl rfl (eff_load (y := .t _) rfl rfl ti3 rfl (.one rfl rfl rfl rfl)) ?_
    refine RJ.op rfl rfl (eff_iop rfl rfl rfl rfl rfl) ?_
    refine RJ.op rfl rfl (eff_move (v := .t _) rfl rfl rfl) ?_
    refine RJ.split 16 rfl (fun h2 => ?_) (fun h2 => ?_)
    · try simp only [decide_eq_true_eq, decide_eq_false_iff_not, beq_iff_eq, bne_iff_ne, bne_eq_false_iff_eq, beq_eq_false_iff_ne, Bool.not_eq_true, Bool.not_eq_false, Bool.not_eq_true', Bool.not_eq_false', ne_eq] at h2
      refine RJ.gop rfl rfl rfl rfl rfl rfl (eff_fieldAddr rfl rfl tf29_1 (by decide) rfl rfl rfl (Nat.le_of_ble_eq_true rfl)) ?_
      refine RJ.gop rfl rfl rfl rfl rfl rfl (eff_load (y := .t _) rfl rfl ti3 rfl (.one rfl rfl rfl rfl)) ?_
      refine RJ.gop rfl rfl rfl rfl rfl rfl (eff_loadT1 rfl rfl ti3 rfl rfl) ?_
      refine RJ.gop rfl rfl rfl rfl rfl rfl (eff_iop rfl rfl rfl rfl rfl) ?_
      refine RJ.op rfl rfl (eff_pick (v := .t _) rfl rfl rfl rfl) ?_
      refine RJ.op rfl rfl (eff_move (v := .t _) rfl rfl rfl) ?_
      refine RJ.split 22 rfl (fun h3 => ?_) (fun h3 => ?_)
      · try simp only [decide_eq_true_eq, decide_eq_false_iff_not, beq_iff_eq, bne_iff_ne, bne_eq_false_iff_eq, beq_eq_false_iff_ne, Bool.not_eq_true, Bool.not_eq_false, Bool.not_eq_true', Bool.not_eq_false', ne_eq] at h3
        refine RJ.gop rfl rfl rfl rfl rfl rfl (eff_fieldAddr rfl rfl tf29_4 (by decide) rfl rfl rfl (Nat.le_of_ble_eq_true rfl)) ?_
        refine RJ.gop rfl rfl rfl rfl rfl rfl (eff_load (y := .t _) rfl rfl ti3 rfl (.one rfl rfl rfl rfl)) ?_
        refine RJ.gop rfl rfl rfl rfl rfl rfl (eff_loadT1 rfl rfl ti3 rfl rfl) ?_
        refine RJ.gop rfl rfl rfl rfl rfl rfl (eff_iop rfl rfl rfl rfl rfl) ?_
        refine RJ.op rfl rfl (eff_pick (v := .t _) rfl rfl rfl rfl) ?_
        refine RJ.op rfl rfl (eff_move (v := .t _) rfl rfl rfl) ?_
        refine RJ.split 28 rfl (fun h4 => ?_) (fun h4 => ?_)
        · try simp only [decide_eq_true_eq, decide_eq_false_iff_not, beq_iff_eq, bne_iff_ne, bne_eq_false_iff_eq, beq_eq_false_iff_ne, Bool.not_eq_true, Bool.not_eq_false, Bool.not_eq_true', Bool.not_eq_false', ne_eq] at h4
          refine RJ.gop rfl rfl rfl rfl rfl rfl (eff_move (v := .t _) rfl rfl rfl) ?_
          refine RJ.gop rfl rfl rfl rfl rfl rfl (eff_load rfl rfl ti29 rfl (.whole rfl rfl rfl rfl rfl rfl)) ?_
          have hpos : ((t.filter (passB craft tick)).map encW)[((t.take i).filter (passB craft tick)).length]? = some (encW (t[i]'hil)) := by
            rw [List.getElem?_map, filter_get hil (by unfold passB; exact decide_eq_true ⟨by omega, by omega, by omega⟩)]; rfl
          refine RJ.many (.inr ⟨_, _, _, _, _, rfl, rfl, rfl, rfl, rfl⟩) (eff_yield rfl rfl rfl rfl hds (hy _ _ _ hpos hA)) ?_
          rintro e g2 ⟨yb, rfl, hyb⟩
          show RJ _ _ _ _ _ ⟨_, (31, .t (.bool yb)) :: _, _⟩ _ _
          refine RJ.gop rfl rfl rfl rfl rfl rfl (eff_unop rfl rfl rfl rfl) ?_
          refine RJ.op rfl rfl (eff_pick (v := .t _) rfl rfl rfl rfl) ?_
          refine RJ.nil ?_
          refine awj_cond rfl (fun h5 => ?_) (fun h5 => ?_)
          · try simp only [decide_eq_true_eq, decide_eq_false_iff_not, beq_iff_eq, bne_iff_ne, bne_eq_false_iff_eq, beq_eq_false_iff_ne, Bool.not_eq_true, Bool.not_eq_false, Bool.not_eq_true', Bool.not_eq_false', ne_eq] at h5
            refine awj_ret ?_
            rcases hyb with ⟨h, _⟩ | ⟨_, h⟩
            · exact absurd (h.symm.trans (by assumption : yb = false)) (by decide)
            · exact ⟨Or.inr rfl, Or.inr h⟩
          · try simp only [decide_eq_true_eq, decide_eq_false_iff_not, beq_iff_eq, bne_iff_ne, bne_eq_false_iff_eq, beq_eq_false_iff_ne, Bool.not_eq_true, Bool.not_eq_false, Bool.not_eq_true', Bool.not_eq_false', ne_eq] at h5
            refine awj_skip ?_
            refine awj_rj rfl ?_
            refine RJ.op rfl rfl (eff_iop rfl rfl rfl rfl (iadd (by omega))) ?_
            refine RJ.op rfl rfl (eff_move (v := .t _) rfl rfl rfl) ?_
            refine RJ.nil ?_
            refine ⟨_, ?_, _, weak_keep (n := 35) (fr' := [(0, .t (.yld yl)), (1, .t (.ptr [.sl (t.map encW) false])), (2, .t (.ptr [encI craft])), (3, .t (.ptr [encI tick])), (7, .t (.sl (t.map encW) false)), (8, .t (encI t.length)), (9, .t (encI ((i + 1) : Nat)))]) (st' := []) ⟨rfl, rfl, rfl, rfl, rfl, rfl, rfl, rfl, rfl, rfl, rfl, rfl, rfl, rfl, trivial⟩ trivial, i + 1, (by omega), (by first | (rw [filter_take_no hil (by unfold passB; exact decide_eq_false (by omega))]; exact hA) | (rw [filter_take_yes hil (by unfold passB; exact decide_eq_true ⟨by omega, by omega, by omega⟩), List.length_append]; rcases hyb with ⟨_, h⟩ | ⟨h, _⟩ <;> first | exact h | exact absurd (h.symm.trans (by assumption : yb = true)) (by decide))), rfl, rfl⟩
            omega
        · try simp only [decide_eq_true_eq, decide_eq_false_iff_not, beq_iff_eq, bne_iff_ne, bne_eq_false_iff_eq, beq_eq_false_iff_ne, Bool.not_eq_true, Bool.not_eq_false, Bool.not_eq_true', Bool.not_eq_false', ne_eq] at h4
          refine RJ.gskip rfl rfl rfl rfl rfl (by decide) ?_
          refine RJ.gskip rfl rfl rfl rfl rfl (by decide) ?_
          refine RJ.gskip rfl rfl rfl rfl rfl (by decide) ?_
          refine RJ.gskip rfl rfl rfl rfl rfl (by decide) ?_
          refine RJ.op rfl rfl (eff_pick (v := .t _) rfl rfl rfl rfl) ?_
          refine RJ.nil ?_
          refine awj_cond rfl (fun h => nomatch h) (fun _ => ?_)
          refine awj_skip ?_
          refine awj_rj rfl ?_
          refine RJ.op rfl rfl (eff_iop rfl rfl rfl rfl (iadd (by omega))) ?_
          refine RJ.op rfl rfl (eff_move (v := .t _) rfl rfl rfl) ?_
          refine RJ.nil ?_
          refine ⟨_, ?_, _, weak_keep (n := 35) (fr' := [(0, .t (.yld yl)), (1, .t (.ptr [.sl (t.map encW) false])), (2, .t (.ptr [encI craft])), (3, .t (.ptr [encI tick])), (7, .t (.sl (t.map encW) false)), (8, .t (encI t.length)), (9, .t (encI ((i + 1) : Nat)))]) (st' := []) ⟨rfl, rfl, rfl, rfl, rfl, rfl, rfl, rfl, rfl, rfl, rfl, rfl, rfl, rfl, trivial⟩ trivial, i + 1, (by omega), (by first | (rw [filter_take_no hil (by unfold passB; exact decide_eq_false (by omega))]; exact hA) | (rw [filter_take_yes hil (by unfold passB; exact decide_eq_true ⟨by omega, by omega, by omega⟩), List.length_append]; rcases hyb with ⟨_, h⟩ | ⟨h, _⟩ <;> first | exact h | exact absurd (h.symm.trans (by assumption : yb = true)) (by decide))), rfl, rfl⟩
          omega
      · try simp only [decide_eq_true_eq, decide_eq_false_iff_not, beq_iff_eq, bne_iff_ne, bne_eq_false_iff_eq, beq_eq_false_iff_ne, Bool.not_eq_true, Bool.not_eq_false, Bool.not_eq_true', Bool.not_eq_false', ne_eq] at h3
        refine RJ.gskip rfl rfl rfl rfl rfl (by decide) ?_
        refine RJ.gskip rfl rfl rfl rfl rfl (by decide) ?_
        refine RJ.gskip rfl rfl rfl rfl rfl (by decide) ?_
        refine RJ.gskip rfl rfl rfl rfl rfl (by decide) ?_
        refine RJ.op rfl rfl (eff_pick (v := .t _) rfl rfl rfl rfl) ?_
        refine RJ.op rfl rfl (eff_move (v := .t _) rfl rfl rfl) ?_
        refine RJ.gskip rfl rfl rfl rfl rfl (by decide) ?_
        refine RJ.gskip rfl rfl rfl rfl rfl (by decide) ?_
        refine RJ.gskip rfl rfl rfl rfl rfl (by decide) ?_
        refine RJ.gskip rfl rfl rfl rfl rfl (by decide) ?_
        refine RJ.op rfl rfl (eff_pick (v := .t _) rfl rfl rfl rfl) ?_
        refine RJ.nil ?_
        refine awj_cond rfl (fun h => nomatch h) (fun _ => ?_)
        refine awj_skip ?_
        refine awj_rj rfl ?_
        refine RJ.op rfl rfl (eff_iop rfl rfl rfl rfl (iadd (by omega))) ?_
        refine RJ.op rfl rfl (eff_move (v := .t _) rfl rfl rfl) ?_
        refine RJ.nil ?_
        refine ⟨_, ?_, _, weak_keep (n := 35) (fr' := [(0, .t (.yld yl)), (1, .t (.ptr [.sl (t.map encW) false])), (2, .t (.ptr [encI craft])), (3, .t (.ptr [encI tick])), (7, .t (.sl (t.map encW) false)), (8, .t (encI t.length)), (9, .t (encI ((i + 1) : Nat)))]) (st' := []) ⟨rfl, rfl, rfl, rfl, rfl, rfl, rfl, rfl, rfl, rfl, rfl, rfl, rfl, rfl, trivial⟩ trivial, i + 1, (by omega), (by first | (rw [filter_take_no hil (by unfold passB; exact decide_eq_false (by omega))]; exact hA) | (rw [filter_take_yes hil (by unfold passB; exact decide_eq_true ⟨by omega, by omega, by omega⟩), List.length_append]; rcases hyb with ⟨_, h⟩ | ⟨h, _⟩ <;> first | exact h | exact absurd (h.symm.trans (by assumption : yb = true)) (by decide))), rfl, rfl⟩
        omega
    · try simp only [decide_eq_true_eq, decide_eq_false_iff_not, beq_iff_eq, bne_iff_ne, bne_eq_false_iff_eq, beq_eq_false_iff_ne, Bool.not_eq_true, Bool.not_eq_false, Bool.not_eq_true', Bool.not_eq_false', ne_eq] at h2
      refine RJ.gskip rfl rfl rfl rfl rfl (by decide) ?_
      refine RJ.gskip rfl rfl rfl rfl rfl (by decide) ?_
      refine RJ.gskip rfl rfl rfl rfl rfl (by decide) ?_
      refine RJ.gskip rfl rfl rfl rfl rfl (by decide) ?_
      refine RJ.op rfl rfl (eff_pick (v := .t _) rfl rfl rfl rfl) ?_
      refine RJ.op rfl rfl (eff_move (v := .t _) rfl rfl rfl) ?_
      refine RJ.gskip rfl rfl rfl rfl rfl (by decide) ?_
      refine RJ.gskip rfl rfl rfl rfl rfl (by decide) ?_
      refine RJ.gskip rfl rfl rfl rfl rfl (by decide) ?_
      refine RJ.gskip rfl rfl rfl rfl rfl (by decide) ?_
      refine RJ.op rfl rfl (eff_pick (v := .t _) rfl rfl rfl rfl) ?_
      refine RJ.op rfl rfl (eff_move (v := .t _) rfl rfl rfl) ?_
      refine RJ.gskip rfl rfl rfl rfl rfl (by decide) ?_
      refine RJ.gskip rfl rfl rfl rfl rfl (by decide) ?_
      refine RJ.gskip rfl rfl rfl rfl rfl (by decide) ?_
      refine RJ.gskip rfl rfl rfl rfl rfl (by decide) ?_
      refine RJ.op rfl rfl (eff_pick (v := .t _) rfl rfl rfl rfl) ?_
      refine RJ.nil ?_
      refine awj_cond rfl (fun h => nomatch h) (fun _ => ?_)
      refine awj_skip ?_
      refine awj_rj rfl ?_
      refine RJ.op rfl rfl (eff_iop rfl rfl rfl rfl (iadd (by omega))) ?_
      refine RJ.op rfl rfl (eff_move (v := .t _) rfl rfl rfl) ?_
      refine RJ.nil ?_
      refine ⟨_, ?_, _, weak_keep (n := 35) (fr' := [(0, .t (.yld yl)), (1, .t (.ptr [.sl (t.map encW) false])), (2, .t (.ptr [encI craft])), (3, .t (.ptr [encI tick])), (7, .t (.sl (t.map encW) false)), (8, .t (encI t.length)), (9, .t (encI ((i + 1) : Nat)))]) (st' := []) ⟨rfl, rfl, rfl, rfl, rfl, rfl, rfl, rfl, rfl, rfl, rfl, rfl, rfl, rfl, trivial⟩ trivial, i + 1, (by omega), (by first | (rw [filter_take_no hil (by unfold passB; exact decide_eq_false (by omega))]; exact hA) | (rw [filter_take_yes hil (by unfold passB; exact decide_eq_true ⟨by omega, by omega, by omega⟩), List.length_append]; rcases hyb with ⟨_, h⟩ | ⟨h, _⟩ <;> first | exact h | exact absurd (h.symm.trans (by assumption : yb = true)) (by decide))), rfl, rfl⟩
      omega
  · try simp only [decide_eq_true_eq, decide_eq_false_iff_not, beq_iff_eq, bne_iff_ne, bne_eq_false_iff_eq, beq_eq_false_iff_ne, Bool.not_eq_true, Bool.not_eq_false, Bool.not_eq_true', Bool.not_eq_false', ne_eq] at h1
    refine awj_exit ?_
    have hi2 : i = t.length := by omega
    subst hi2
    rw [List.take_length] at hA
    exact ⟨Or.inl rfl, Or.inl (by rw [List.length_map]; exact hA)⟩

theorem of_ret (t : List Win) (kd a b : Int) : Ret Try.prog 89 [.sl (t.map encW) false, encI kd, encI a, encI b] (.fn 105 [.ptr [.sl (t.map encW) false], .ptr [encI kd], .ptr [encI a], .ptr [encI b]]) := by
  refine ret_of_awp Try.func89 rfl (Nat.le_of_ble_eq_true rfl) ?_
  refine awp_seq ?_
  refine awp_rw rfl ?_
  refine RW.new rfl rfl (eff_boxK (v := .t _) (k := 1) (id := 4) rfl rfl rfl rfl rfl rfl) ?_
  refine RW.new rfl rfl (eff_boxK (v := .t _) (k := 1) (id := 5) rfl rfl rfl rfl rfl rfl) ?_
  refine RW.new rfl rfl (eff_boxK (v := .t _) (k := 1) (id := 6) rfl rfl rfl rfl rfl rfl) ?_
  refine RW.new rfl rfl (eff_boxK (v := .t _) (k := 1) (id := 7) rfl rfl rfl rfl rfl rfl) ?_
  refine RW.op rfl rfl (eff_assign (v := .t _) rfl rfl rfl) ?_
  refine RW.nil ?_
  refine awp_seq ?_
  refine awp_rw rfl ?_
  refine RW.op rfl rfl (eff_makeFunc rfl rfl rfl rfl) ?_
  refine RW.op rfl rfl (eff_assign (v := .fn _ _) rfl rfl rfl) ?_
  refine RW.nil ?_
  refine awp_ret ?_
  exact ⟨Or.inr rfl, [_], ⟨.tmp (Res.fnP (xs := [.ptr [.sl (t.map encW) false], .ptr [encI kd], .ptr [encI a], .ptr [encI b]]) ⟨Res.ptrT (x := .sl (t.map encW) false) rfl rfl rfl, Res.ptrT (x := encI kd) rfl rfl rfl, Res.ptrT (x := encI a) rfl rfl rfl, Res.ptrT (x := encI b) rfl rfl rfl, trivial⟩), trivial⟩, .refl _⟩

theorem contacts_ret (t : List Win) (craft tick : Int) : Ret Try.prog 44 [.sl (t.map encW) false, encI craft, encI tick] (.fn 73 [.ptr [.sl (t.map encW) false], .ptr [encI craft], .ptr [encI tick]]) := by
  refine ret_of_awp Try.func44 rfl (Nat.le_of_ble_eq_true rfl) ?_
  refine awp_seq ?_
  refine awp_rw rfl ?_
  refine RW.new rfl rfl (eff_boxK (v := .t _) (k := 1) (id := 3) rfl rfl rfl rfl rfl rfl) ?_
  refine RW.new rfl rfl (eff_boxK (v := .t _) (k := 1) (id := 4) rfl rfl rfl rfl rfl rfl) ?_
  refine RW.new rfl rfl (eff_boxK (v := .t _) (k := 1) (id := 5) rfl rfl rfl rfl rfl rfl) ?_
  refine RW.op rfl rfl (eff_assign (v := .t _) rfl rfl rfl) ?_
  refine RW.nil ?_
  refine awp_seq ?_
  refine awp_rw rfl ?_
  refine RW.op rfl rfl (eff_makeFunc rfl rfl rfl rfl) ?_
  refine RW.op rfl rfl (eff_assign (v := .fn _ _) rfl rfl rfl) ?_
  refine RW.nil ?_
  refine awp_ret ?_
  exact ⟨Or.inr rfl, [_], ⟨.tmp (Res.fnP (xs := [.ptr [.sl (t.map encW) false], .ptr [encI craft], .ptr [encI tick]]) ⟨Res.ptrT (x := .sl (t.map encW) false) rfl rfl rfl, Res.ptrT (x := encI craft) rfl rfl rfl, Res.ptrT (x := encI tick) rfl rfl rfl, trivial⟩), trivial⟩, .refl _⟩

theorem next_ret (t : List Win) (kd a b tick : Int) (ht : t.length ≤ 100000) : Ret Try.prog 69 [.sl (t.map encW) false, encI kd, encI a, encI b, encI tick] (.tup [encW (nextF t kd a b tick).1, .bool (nextF t kd a b tick).2]) := by
  refine ret_of_awj Try.func69 rfl (Nat.le_of_ble_eq_true rfl) ?_
  intro F0 w0
  refine awj_seq ?_
  refine awj_rj rfl ?_
  refine RJ.new rfl rfl (eff_boxK (v := .t _) (k := 1) (id := 9) rfl rfl rfl rfl rfl rfl) ?_
  refine RJ.new rfl rfl (eff_allocK (k := 6) (id := 10) rfl rfl tz29 rfl rfl) ?_
  refine RJ.new rfl rfl (eff_allocK (k := 1) (id := 11) rfl rfl tz4 rfl rfl) ?_
  refine RJ.nil ?_
  refine awj_seq ?_
  refine awj_seq ?_
  refine awj_rj rfl ?_
  refine RJ.op rfl rfl (eff_move (v := .t _) rfl rfl rfl) ?_
  refine RJ.op rfl rfl (eff_move (v := .t _) rfl rfl rfl) ?_
  refine RJ.op rfl rfl (eff_move (v := .t _) rfl rfl rfl) ?_
  refine RJ.op rfl rfl (eff_move (v := .t _) rfl rfl rfl) ?_
  refine RJ.op rfl rfl (eff_callT (of_ret t kd a b) co89 rfl rfl rfl rfl) ?_
  refine RJ.nil ?_
  refine awj_block ?_
  refine awj_rangeFunc (kp' := fun j => [9, 10, 11].elem j) (f := 105) rfl co105 (of_iter t kd a b ht) rfl rfl rfl (fun i s => (∀ y, y ∈ (t.filter (keyB kd a b)).take i → ¬ y.til > tick) ∧ s = ⟨25, [(9, .ptr 9 0 0 0), (10, .ptr 10 0 0 0), (11, .ptr 11 0 0 0)], [(9, some ⟨1, 3, 0, [.t (encI tick)]⟩), (10, some ⟨6, 29, 0, [.t z29]⟩), (11, some ⟨1, 4, 0, [.t (.bool false)]⟩)]⟩) (fun c s => c = .ret ∧ ∃ w, nextF t kd a b tick = (w, true) ∧ s = ⟨25, [(10, .ptr 10 0 0 0), (11, .ptr 11 0 0 0)], [(10, some ⟨6, 29, 0, [.t (encW w)]⟩), (11, some ⟨1, 4, 0, [.t (.bool true)]⟩)]⟩) (⟨_, weak_keep (n := 25) (fr' := [(9, .ptr 9 0 0 0), (10, .ptr 10 0 0 0), (11, .ptr 11 0 0 0)]) (st' := [(9, some ⟨1, 3, 0, [.t (encI tick)]⟩), (10, some ⟨6, 29, 0, [.t z29]⟩), (11, some ⟨1, 4, 0, [.t (.bool false)]⟩)]) ⟨rfl, rfl, rfl, rfl, rfl, rfl, trivial⟩ ⟨rfl, okE_one rfl, rfl, okE_one rfl, rfl, okE_one rfl, trivial⟩, by simp, rfl⟩) (fun i s1 hI => by obtain ⟨_, rfl⟩ := hI; exact ⟨rfl, kept_of rfl⟩) (fun c s1 hI => by obtain ⟨_, w, _, rfl⟩ := hI; exact ⟨rfl, kept_of rfl⟩) ?_ ?_ ?_
  · intro rl i x s1 hI hx F1 w1
    obtain ⟨hlt, rfl⟩ := hI
    rw [List.getElem?_map] at hx
    obtain ⟨w, hb, rfl⟩ := Option.map_eq_some_iff.1 hx
    show AWJ _ _ _ _ _ ⟨25, _, _⟩ _ _
    refine awj_rj rfl ?_
    refine RJ.new rfl rfl (eff_allocK (k := 6) (id := 12) rfl rfl tz29 rfl rfl) ?_
    refine RJ.store rfl rfl (eff_storeW (v := .t _) (els := [_]) (els' := [_]) rfl rfl ti29 rfl rfl rfl rfl rfl rfl rfl rfl rfl) ?_
    refine RJ.nil ?_
    refine ⟨rfl, rfl, fun F2 w2 => ?_⟩
    refine awj_block ?_
    refine awj_seq ?_
    refine awj_rj rfl ?_
    refine RJ.op rfl rfl (eff_fieldAddr rfl rfl tf29_4 (by decide) rfl rfl rfl (Nat.le_of_ble_eq_true rfl)) ?_
    refine RJ.op rfl rfl (eff_load (y := .t _) rfl rfl ti3 rfl (.one rfl rfl rfl rfl)) ?_
    refine RJ.op rfl rfl (eff_load (y := .t _) rfl rfl ti3 rfl (.one rfl rfl rfl rfl)) ?_
    refine RJ.op rfl rfl (eff_iop rfl rfl rfl rfl rfl) ?_
    refine RJ.nil ?_
    refine awj_cond rfl (fun h1 => ?_) (fun h1 => ?_)
    · try simp only [decide_eq_true_eq, decide_eq_false_iff_not, beq_iff_eq, bne_iff_ne, bne_eq_false_iff_eq, beq_eq_false_iff_ne, Bool.not_eq_true, Bool.not_eq_false, Bool.not_eq_true', Bool.not_eq_false', ne_eq] at h1
      refine awj_seq ?_
      refine awj_rj rfl ?_
      refine RJ.op rfl rfl (eff_load rfl rfl ti29 rfl (.whole rfl rfl rfl rfl rfl rfl)) ?_
      refine RJ.store rfl rfl (eff_storeW (v := .t _) (els := [_]) (els' := [_]) rfl rfl ti29 rfl rfl rfl rfl rfl rfl rfl rfl rfl) ?_
      refine RJ.store rfl rfl (eff_storeW (v := .t _) (els := [_]) (els' := [_]) rfl rfl ti4 rfl rfl rfl rfl rfl rfl rfl rfl rfl) ?_
      refine RJ.nil ?_
      refine awj_ret ?_
      exact ⟨rfl, _, weak_keep (n := 25) (fr' := [(10, .ptr 10 0 0 0), (11, .ptr 11 0 0 0)]) (st' := [(10, some ⟨6, 29, 0, [.t (encW w)]⟩), (11, some ⟨1, 4, 0, [.t (.bool true)]⟩)]) ⟨rfl, rfl, rfl, rfl, trivial⟩ ⟨rfl, okE_one rfl, rfl, okE_one rfl, trivial⟩, rfl, w, next_first hb hlt (by omega), rfl⟩
    · try simp only [decide_eq_true_eq, decide_eq_false_iff_not, beq_iff_eq, bne_iff_ne, bne_eq_false_iff_eq, beq_eq_false_iff_ne, Bool.not_eq_true, Bool.not_eq_false, Bool.not_eq_true', Bool.not_eq_false', ne_eq] at h1
      refine awj_skip ?_
      refine ⟨rfl, _, weak_keep (n := 25) (fr' := [(9, .ptr 9 0 0 0), (10, .ptr 10 0 0 0), (11, .ptr 11 0 0 0)]) (st' := [(9, some ⟨1, 3, 0, [.t (encI tick)]⟩), (10, some ⟨6, 29, 0, [.t z29]⟩), (11, some ⟨1, 4, 0, [.t (.bool false)]⟩)]) ⟨rfl, rfl, rfl, rfl, rfl, rfl, trivial⟩ ⟨rfl, okE_one rfl, rfl, okE_one rfl, rfl, okE_one rfl, trivial⟩, fun c hc => ?_, rfl⟩
      obtain ⟨hi, he⟩ := List.getElem?_eq_some_iff.1 hb
      rcases (mem_take_succ hi).1 hc with h | h
      · exact hlt c h
      · rw [h, he]; omega
  · intro D s1 hI
    obtain ⟨hlt, rfl⟩ := hI
    rw [List.length_map, List.take_length] at hlt
    refine awj_seq ?_
    refine awj_rj rfl ?_
    refine RJ.op rfl rfl (eff_buildT (ys := [_, _, _, _, _, _]) rfl rfl tz29 tg29 rfl) ?_
    refine RJ.store rfl rfl (eff_storeW (v := .t _) (els := [_]) (els' := [_]) rfl rfl ti29 rfl rfl rfl rfl rfl rfl rfl rfl rfl) ?_
    refine RJ.store rfl rfl (eff_storeW (v := .t _) (els := [_]) (els' := [_]) rfl rfl ti4 rfl rfl rfl rfl rfl rfl rfl rfl rfl) ?_
    refine RJ.nil ?_
    refine awj_ret ?_
    rw [next_never hlt]
    exact ⟨Or.inr rfl, [_, _], ⟨.cell rfl ti29 (.whole rfl rfl rfl rfl rfl rfl) (.t _), .cell (y := .t _) rfl ti4 (.one rfl rfl rfl rfl) (.t _), trivial⟩, (by repeat' first | exact trivial | exact Wk.refl _ | exact Wk.sl _ | refine And.intro ?_ ?_ | refine Wk.tupP ?_ | refine Wk.aggP ?_)⟩
  · intro D c s1 hI
    obtain ⟨rfl, w, hb, rfl⟩ := hI
    refine awj_ret ?_
    rw [hb]
    exact ⟨Or.inr rfl, [_, _], ⟨.cell rfl ti29 (.whole rfl rfl rfl rfl rfl rfl) (.t _), .cell (y := .t _) rfl ti4 (.one rfl rfl rfl rfl) (.t _), trivial⟩, .refl _⟩

theorem at_ret39 (t : List Win) (kd a b tick : Int) (ht : t.length ≤ 100000) : Ret Try.prog 39 [.sl (t.map encW) false, encI kd, encI a, encI b, encI tick] (.tup [encW (atF t kd a b tick).1, .bool (atF t kd a b tick).2]) := by
  refine ret_of_awp Try.func39 rfl (Nat.le_of_ble_eq_true rfl) ?_
  refine awp_seq ?_
  refine awp_rw rfl ?_
  refine RW.new rfl rfl (eff_allocK (k := 6) (id := 10) rfl rfl tz29 rfl rfl) ?_
  refine RW.op rfl rfl (eff_assign (v := .t _) rfl rfl rfl) ?_
  refine RW.nil ?_
  refine awp_seq ?_
  refine awp_seq ?_
  refine awp_rw rfl ?_
  refine RW.op rfl rfl (eff_move (v := .t _) rfl rfl rfl) ?_
  refine RW.op rfl rfl (eff_move (v := .t _) rfl rfl rfl) ?_
  refine RW.op rfl rfl (eff_move (v := .t _) rfl rfl rfl) ?_
  refine RW.op rfl rfl (eff_move (v := .t _) rfl rfl rfl) ?_
  refine RW.op rfl rfl (eff_move (v := .t _) rfl rfl rfl) ?_
  refine RW.op rfl rfl (eff_callT (next_ret t kd a b tick ht) co69 rfl rfl rfl rfl) ?_
  refine RW.op rfl rfl (eff_move (v := .t _) rfl rfl rfl) ?_
  refine RW.op rfl rfl (eff_extract rfl rfl rfl rfl) ?_
  refine RW.op rfl rfl (eff_extract rfl rfl rfl rfl) ?_
  refine RW.new rfl rfl (eff_allocK (k := 6) (id := 12) rfl rfl tz29 rfl rfl) ?_
  refine RW.store rfl rfl (eff_storeW (v := .t _) (els := [_]) (els' := [_]) rfl rfl ti29 rfl rfl rfl rfl rfl rfl rfl rfl rfl) ?_
  refine RW.op rfl rfl (eff_assign (v := .t _) rfl rfl rfl) ?_
  refine RW.nil ?_
  refine awp_seq ?_
  refine awp_rw rfl ?_
  refine RW.op rfl rfl (eff_move (v := .t _) rfl rfl rfl) ?_
  refine RW.op rfl rfl (eff_move (v := .t _) rfl rfl rfl) ?_
  refine RW.split 24 rfl (fun h1 => ?_) (fun h1 => ?_)
  · try simp only [decide_eq_true_eq, decide_eq_false_iff_not, beq_iff_eq, bne_iff_ne, bne_eq_false_iff_eq, beq_eq_false_iff_ne, Bool.not_eq_true, Bool.not_eq_false, Bool.not_eq_true', Bool.not_eq_false', ne_eq] at h1
    refine RW.gop rfl rfl rfl rfl rfl rfl (eff_fieldAddr rfl rfl tf29_3 (by decide) rfl rfl rfl (Nat.le_of_ble_eq_true rfl)) ?_
    refine RW.gop rfl rfl rfl rfl rfl rfl (eff_load (y := .t _) rfl rfl ti3 rfl (.one rfl rfl rfl rfl)) ?_
    refine RW.gop rfl rfl rfl rfl rfl rfl (eff_move (v := .t _) rfl rfl rfl) ?_
    refine RW.gop rfl rfl rfl rfl rfl rfl (eff_iop rfl rfl rfl rfl rfl) ?_
    refine RW.op rfl rfl (eff_pick (v := .t _) rfl rfl rfl rfl) ?_
    refine RW.nil ?_
    refine awp_cond rfl (fun h2 => ?_) (fun h2 => ?_)
    · try simp only [decide_eq_true_eq, decide_eq_false_iff_not, beq_iff_eq, bne_iff_ne, bne_eq_false_iff_eq, beq_eq_false_iff_ne, Bool.not_eq_true, Bool.not_eq_false, Bool.not_eq_true', Bool.not_eq_false', ne_eq] at h2
      refine awp_seq ?_
      refine awp_rw rfl ?_
      refine RW.op rfl rfl (eff_load rfl rfl ti29 rfl (.whole rfl rfl rfl rfl rfl rfl)) ?_
      refine RW.store rfl rfl (eff_storeW (v := .t _) (els := [_]) (els' := [_]) rfl rfl ti29 rfl rfl rfl rfl rfl rfl rfl rfl rfl) ?_
      refine RW.op rfl rfl (eff_assign (v := .t _) rfl rfl rfl) ?_
      refine RW.nil ?_
      refine awp_ret ?_
      (rw [show atF t kd a b tick = ((nextF t kd a b tick).1, true) from if_pos ⟨by assumption, by assumption⟩]; exact ⟨Or.inr rfl, [_, _], ⟨.cell rfl ti29 (.whole rfl rfl rfl rfl rfl rfl) (.t _), .tmp (.t _), trivial⟩, .refl _⟩)
    · try simp only [decide_eq_true_eq, decide_eq_false_iff_not, beq_iff_eq, bne_iff_ne, bne_eq_false_iff_eq, beq_eq_false_iff_ne, Bool.not_eq_true, Bool.not_eq_false, Bool.not_eq_true', Bool.not_eq_false', ne_eq] at h2
      refine awp_skip ?_
      refine awp_seq ?_
      refine awp_rw rfl ?_
      refine RW.op rfl rfl (eff_buildT (ys := [_, _, _, _, _, _]) rfl rfl tz29 tg29 rfl) ?_
      refine RW.store rfl rfl (eff_storeW (v := .t _) (els := [_]) (els' := [_]) rfl rfl ti29 rfl rfl rfl rfl rfl rfl rfl rfl rfl) ?_
      refine RW.op rfl rfl (eff_assign (v := .t _) rfl rfl rfl) ?_
      refine RW.nil ?_
      refine awp_ret ?_
      (rw [show atF t kd a b tick = (zw, false) from if_neg (fun hh => by simp_all)]; exact ⟨Or.inr rfl, [_, _], ⟨.cell rfl ti29 (.whole rfl rfl rfl rfl rfl rfl) (.t _), .tmp (.t _), trivial⟩, (by repeat' first | exact trivial | exact Wk.refl _ | exact Wk.sl _ | refine And.intro ?_ ?_ | refine Wk.tupP ?_ | refine Wk.aggP ?_)⟩)
  · try simp only [decide_eq_true_eq, decide_eq_false_iff_not, beq_iff_eq, bne_iff_ne, bne_eq_false_iff_eq, beq_eq_false_iff_ne, Bool.not_eq_true, Bool.not_eq_false, Bool.not_eq_true', Bool.not_eq_false', ne_eq] at h1
    refine RW.gskip rfl rfl rfl rfl rfl (by decide) ?_
    refine RW.gskip rfl rfl rfl rfl rfl (by decide) ?_
    refine RW.gskip rfl rfl rfl rfl rfl (by decide) ?_
    refine RW.gskip rfl rfl rfl rfl rfl (by decide) ?_
    refine RW.op rfl rfl (eff_pick (v := .t _) rfl rfl rfl rfl) ?_
    refine RW.nil ?_
    refine awp_cond rfl (fun h => nomatch h) (fun _ => ?_)
    refine awp_skip ?_
    refine awp_seq ?_
    refine awp_rw rfl ?_
    refine RW.op rfl rfl (eff_buildT (ys := [_, _, _, _, _, _]) rfl rfl tz29 tg29 rfl) ?_
    refine RW.store rfl rfl (eff_storeW (v := .t _) (els := [_]) (els' := [_]) rfl rfl ti29 rfl rfl rfl rfl rfl rfl rfl rfl rfl) ?_
    refine RW.op rfl rfl (eff_assign (v := .t _) rfl rfl rfl) ?_
    refine RW.nil ?_
    refine awp_ret ?_
    (rw [show atF t kd a b tick = (zw, false) from if_neg (fun hh => by simp_all)]; exact ⟨Or.inr rfl, [_, _], ⟨.cell rfl ti29 (.whole rfl rfl rfl rfl rfl rfl) (.t _), .tmp (.t _), trivial⟩, (by repeat' first | exact trivial | exact Wk.refl _ | exact Wk.sl _ | refine And.intro ?_ ?_ | refine Wk.tupP ?_ | refine Wk.aggP ?_)⟩)

end Go.Tv.C35

end
section
open Go Go.Tv Go.Proofs
namespace Go.Tv.C35
set_option maxRecDepth 20000
set_option maxHeartbeats 2000000
set_option linter.unusedSimpArgs false
set_option linter.unusedVariables false
theorem wmap_succ {B : List Win} {i : Nat} (h : i < B.length) : ((B.take (i + 1)).map encW).map AV.t = ((B.take i).map encW).map AV.t ++ [.t (encW B[i])] := by
  rw [take_succ_get h, List.map_append, List.map_append]; rfl
theorem passes_len (t : List Win) (c k : Int) : (passesF t c k).length ≤ t.length := List.length_filter_le _ _

theorem appendSeqW_ret (t u : List Win) (craft tick : Int) (ht : t.length ≤ 100000) (hu : u = passesF t craft tick) : Ret Try.prog 72 [.sl [] true, .fn 73 [.ptr [.sl (t.map encW) false], .ptr [encI craft], .ptr [encI tick]]] (.sl (u.map encW) false) := by
  have hul : u.length ≤ 100000 := by rw [hu]; exact Nat.le_trans (passes_len t craft tick) ht
  have hit := contacts_iter t craft tick ht
  rw [show t.filter (passB craft tick) = u from hu.symm] at hit
  refine ret_of_awj Try.func72 rfl (Nat.le_of_ble_eq_true rfl) ?_
  intro F0 w0
  refine awj_seq ?_
  refine awj_rj rfl ?_
  refine RJ.new rfl rfl (eff_boxK (v := .t _) (k := 1) (id := 2) rfl rfl rfl rfl rfl rfl) ?_
  refine RJ.op rfl rfl (eff_assign (v := .t _) rfl rfl rfl) ?_
  refine RJ.nil ?_
  refine awj_seq ?_
  refine awj_seq ?_
  refine awj_rj rfl ?_
  refine RJ.op rfl rfl (eff_move (v := .t _) rfl rfl rfl) ?_
  refine RJ.nil ?_
  show AWJ _ _ _ _ _ _ _ _
  refine awj_weak (weak_adopt1 (id0 := 2) 1010 6 29 rfl rfl) ?_
  refine awj_block ?_
  refine awj_rangeFunc (kp' := fun j => [2].elem j) (f := 73) rfl co73 (hit) rfl rfl rfl (fun i s1 => i ≤ u.length ∧ s1 = ⟨13, [(2, .ptr 2 0 0 0)], [(2, some ⟨1, 25, 0, [.own 1010 (i) 0 (i)]⟩), (1010, some ⟨6, 29, (i), ((u.take (i)).map encW).map .t⟩)]⟩) (fun c s => False) (⟨_, weak_keep (n := 13) (fr' := [(2, .ptr 2 0 0 0)]) (st' := [(2, some ⟨1, 25, 0, [.own 1010 (0) 0 (0)]⟩), (1010, some ⟨6, 29, (0), ((u.take (0)).map encW).map .t⟩)]) ⟨rfl, rfl, trivial⟩ ⟨rfl, okE_one rfl, rfl, okE_t, trivial⟩, Nat.zero_le _, rfl⟩) (fun i s1 hI => by obtain ⟨_, rfl⟩ := hI; exact ⟨rfl, kept_of rfl⟩) (fun c s1 hI => hI.elim) ?_ ?_ ?_
  · intro rl i x s1 hI hx F1 w1
    obtain ⟨hiB, rfl⟩ := hI
    rw [List.getElem?_map] at hx
    obtain ⟨b, hb, rfl⟩ := Option.map_eq_some_iff.1 hx
    obtain ⟨hil, hbe⟩ := List.getElem?_eq_some_iff.1 hb
    have hsc := wmap_succ hil
    show AWJ _ _ _ _ _ ⟨13, _, _⟩ _ _
    refine awj_rj rfl ?_
    refine RJ.new rfl rfl (eff_allocK (k := 6) (id := 5) rfl rfl tz29 rfl rfl) ?_
    refine RJ.store rfl rfl (eff_storeW (v := .t _) (els := [_]) (els' := [_]) rfl rfl ti29 rfl rfl rfl rfl rfl rfl rfl rfl rfl) ?_
    refine RJ.nil ?_
    refine ⟨rfl, rfl, fun F2 w2 => ?_⟩
    refine awj_block ?_
    refine awj_rj rfl ?_
    refine RJ.op rfl rfl (eff_load (y := .own _ _ _ _) rfl rfl ti25 rfl (.one rfl rfl rfl rfl)) ?_
    refine RJ.op rfl rfl (eff_load rfl rfl ti29 rfl (.whole rfl rfl rfl rfl rfl rfl)) ?_
    refine RJ.new rfl rfl (eff_buildSliceL (id := 10) (els := [.t (.agg [_, _, _, _, _, _])]) rfl rfl te25 tz29 rfl (by decide) (by decide) rfl rfl rfl rfl) ?_
    refine RJ.new rfl rfl (eff_append (id := 1010) (ys := [_]) rfl rfl ta25 rfl rfl rfl (by simp; omega) rfl rfl (srcOwn rfl rfl rfl rfl rfl rfl) (by simp) (by simp; omega) (by simp; omega)) ?_
    refine RJ.store rfl rfl (eff_storeW (v := .own _ _ _ _) (els := [_]) (els' := [_]) rfl rfl ti25 rfl rfl rfl rfl rfl rfl rfl rfl rfl) ?_
    refine RJ.nil ?_
    refine ⟨rfl, _, weak_keep (n := 13) (fr' := [(2, .ptr 2 0 0 0)]) (st' := [(2, some ⟨1, 25, 0, [.own 1010 (i + 1) 0 (i + 1)]⟩), (1010, some ⟨6, 29, (i + 1), ((u.take (i + 1)).map encW).map .t⟩)]) ⟨rfl, rfl, trivial⟩ ⟨rfl, okE_one rfl, by rw [hsc, hbe]; rfl, okE_t, trivial⟩, by omega, rfl⟩
  · intro D s1 hI
    obtain ⟨_, rfl⟩ := hI
    simp only [List.length_map, List.take_length]
    refine awj_seq ?_
    refine awj_rj rfl ?_
    refine RJ.op rfl rfl (eff_load (y := .own _ _ _ _) rfl rfl ti25 rfl (.one rfl rfl rfl rfl)) ?_
    refine RJ.op rfl rfl (eff_assign (v := .own _ _ _ _) rfl rfl rfl) ?_
    refine RJ.nil ?_
    refine awj_ret ?_
    exact ⟨Or.inr rfl, [_], ⟨.tmp (Res.ownT (xs := u.map encW) rfl rfl (by simp) (by simp)), trivial⟩, .refl _⟩
  · intro D c s1 hI
    exact hI.elim

theorem collectW_ret (t : List Win) (craft tick : Int) (ht : t.length ≤ 100000) : Ret Try.prog 43 [.fn 73 [.ptr [.sl (t.map encW) false], .ptr [encI craft], .ptr [encI tick]]] (.sl ((passesF t craft tick).map encW) false) := by
  refine ret_of_awp Try.func43 rfl (Nat.le_of_ble_eq_true rfl) ?_
  refine awp_seq ?_
  refine awp_rw rfl ?_
  refine RW.op rfl rfl (eff_assign (v := .t _) rfl rfl rfl) ?_
  refine RW.nil ?_
  refine awp_seq ?_
  refine awp_rw rfl ?_
  refine RW.op rfl rfl (eff_move (v := .t _) rfl rfl rfl) ?_
  refine RW.op rfl rfl (eff_callT (appendSeqW_ret t _ craft tick ht rfl) co72 rfl rfl rfl rfl) ?_
  refine RW.op rfl rfl (eff_assign (v := .t _) rfl rfl rfl) ?_
  refine RW.nil ?_
  refine awp_ret ?_
  exact ⟨Or.inr rfl, [_], ⟨.tmp (.t _), trivial⟩, .refl _⟩

theorem passes_ret (t : List Win) (craft tick : Int) (ht : t.length ≤ 100000) : Ret Try.prog 14 [.sl (t.map encW) false, encI craft, encI tick] (.sl ((passesF t craft tick).map encW) false) := by
  refine ret_of_awp Try.func14 rfl (Nat.le_of_ble_eq_true rfl) ?_
  refine awp_seq ?_
  refine awp_rw rfl ?_
  refine RW.op rfl rfl (eff_assign (v := .t _) rfl rfl rfl) ?_
  refine RW.nil ?_
  refine awp_seq ?_
  refine awp_rw rfl ?_
  refine RW.op rfl rfl (eff_move (v := .t _) rfl rfl rfl) ?_
  refine RW.op rfl rfl (eff_move (v := .t _) rfl rfl rfl) ?_
  refine RW.op rfl rfl (eff_move (v := .t _) rfl rfl rfl) ?_
  refine RW.op rfl rfl (eff_callT (contacts_ret t craft tick) co44 rfl rfl rfl rfl) ?_
  refine RW.op rfl rfl (eff_callT (collectW_ret t craft tick ht) co43 rfl rfl rfl rfl) ?_
  refine RW.op rfl rfl (eff_assign (v := .t _) rfl rfl rfl) ?_
  refine RW.nil ?_
  refine awp_ret ?_
  exact ⟨Or.inr rfl, [_], ⟨.tmp (.t _), trivial⟩, .refl _⟩

theorem valid_ret (b : Bid) : Ret Try.prog 45 [encB b] (.bool (validB b)) := by
  refine ret_of_awp Try.func45 rfl (Nat.le_of_ble_eq_true rfl) ?_
  refine awp_seq ?_
  refine awp_rw rfl ?_
  refine RW.new rfl rfl (eff_boxK (v := .t _) (k := 5) (id := 1) rfl rfl rfl rfl rfl rfl) ?_
  refine RW.op rfl rfl (eff_assign (v := .t _) rfl rfl rfl) ?_
  refine RW.nil ?_
  refine awp_seq ?_
  refine awp_rw rfl ?_
  refine RW.op rfl rfl (eff_fieldAddr rfl rfl tf42_0 (by decide) rfl rfl rfl (Nat.le_of_ble_eq_true rfl)) ?_
  refine RW.op rfl rfl (eff_load (y := .t _) rfl rfl ti3 rfl (.one rfl rfl rfl rfl)) ?_
  refine RW.op rfl rfl (eff_iop rfl rfl rfl rfl rfl) ?_
  refine RW.op rfl rfl (eff_move (v := .t _) rfl rfl rfl) ?_
  refine RW.split 6 rfl (fun h1 => ?_) (fun h1 => ?_)
  · try simp only [decide_eq_true_eq, decide_eq_false_iff_not, beq_iff_eq, bne_iff_ne, bne_eq_false_iff_eq, beq_eq_false_iff_ne, Bool.not_eq_true, Bool.not_eq_false, Bool.not_eq_true', Bool.not_eq_false', ne_eq] at h1
    refine RW.gop rfl rfl rfl rfl rfl rfl (eff_fieldAddr rfl rfl tf42_0 (by decide) rfl rfl rfl (Nat.le_of_ble_eq_true rfl)) ?_
    refine RW.gop rfl rfl rfl rfl rfl rfl (eff_load (y := .t _) rfl rfl ti3 rfl (.one rfl rfl rfl rfl)) ?_
    refine RW.gop rfl rfl rfl rfl rfl rfl (eff_iop rfl rfl rfl rfl rfl) ?_
    refine RW.op rfl rfl (eff_pick (v := .t _) rfl rfl rfl rfl) ?_
    refine RW.op rfl rfl (eff_move (v := .t _) rfl rfl rfl) ?_
    refine RW.split 11 rfl (fun h2 => ?_) (fun h2 => ?_)
    · try simp only [decide_eq_true_eq, decide_eq_false_iff_not, beq_iff_eq, bne_iff_ne, bne_eq_false_iff_eq, beq_eq_false_iff_ne, Bool.not_eq_true, Bool.not_eq_false, Bool.not_eq_true', Bool.not_eq_false', ne_eq] at h2
      refine RW.gop rfl rfl rfl rfl rfl rfl (eff_fieldAddr rfl rfl tf42_1 (by decide) rfl rfl rfl (Nat.le_of_ble_eq_true rfl)) ?_
      refine RW.gop rfl rfl rfl rfl rfl rfl (eff_load (y := .t _) rfl rfl ti3 rfl (.one rfl rfl rfl rfl)) ?_
      refine RW.gop rfl rfl rfl rfl rfl rfl (eff_iop rfl rfl rfl rfl rfl) ?_
      refine RW.op rfl rfl (eff_pick (v := .t _) rfl rfl rfl rfl) ?_
      refine RW.op rfl rfl (eff_move (v := .t _) rfl rfl rfl) ?_
      refine RW.split 16 rfl (fun h3 => ?_) (fun h3 => ?_)
      · try simp only [decide_eq_true_eq, decide_eq_false_iff_not, beq_iff_eq, bne_iff_ne, bne_eq_false_iff_eq, beq_eq_false_iff_ne, Bool.not_eq_true, Bool.not_eq_false, Bool.not_eq_true', Bool.not_eq_false', ne_eq] at h3
        refine RW.gop rfl rfl rfl rfl rfl rfl (eff_fieldAddr rfl rfl tf42_1 (by decide) rfl rfl rfl (Nat.le_of_ble_eq_true rfl)) ?_
        refine RW.gop rfl rfl rfl rfl rfl rfl (eff_load (y := .t _) rfl rfl ti3 rfl (.one rfl rfl rfl rfl)) ?_
        refine RW.gop rfl rfl rfl rfl rfl rfl (eff_iop rfl rfl rfl rfl rfl) ?_
        refine RW.op rfl rfl (eff_pick (v := .t _) rfl rfl rfl rfl) ?_
        refine RW.op rfl rfl (eff_move (v := .t _) rfl rfl rfl) ?_
        refine RW.split 21 rfl (fun h4 => ?_) (fun h4 => ?_)
        · try simp only [decide_eq_true_eq, decide_eq_false_iff_not, beq_iff_eq, bne_iff_ne, bne_eq_false_iff_eq, beq_eq_false_iff_ne, Bool.not_eq_true, Bool.not_eq_false, Bool.not_eq_true', Bool.not_eq_false', ne_eq] at h4
          refine RW.gop rfl rfl rfl rfl rfl rfl (eff_fieldAddr rfl rfl tf42_2 (by decide) rfl rfl rfl (Nat.le_of_ble_eq_true rfl)) ?_
          refine RW.gop rfl rfl rfl rfl rfl rfl (eff_load (y := .t _) rfl rfl ti3 rfl (.one rfl rfl rfl rfl)) ?_
          refine RW.gop rfl rfl rfl rfl rfl rfl (eff_iop rfl rfl rfl rfl rfl) ?_
          refine RW.op rfl rfl (eff_pick (v := .t _) rfl rfl rfl rfl) ?_
          refine RW.op rfl rfl (eff_move (v := .t _) rfl rfl rfl) ?_
          refine RW.split 26 rfl (fun h5 => ?_) (fun h5 => ?_)
          · try simp only [decide_eq_true_eq, decide_eq_false_iff_not, beq_iff_eq, bne_iff_ne, bne_eq_false_iff_eq, beq_eq_false_iff_ne, Bool.not_eq_true, Bool.not_eq_false, Bool.not_eq_true', Bool.not_eq_false', ne_eq] at h5
            refine RW.gop rfl rfl rfl rfl rfl rfl (eff_fieldAddr rfl rfl tf42_2 (by decide) rfl rfl rfl (Nat.le_of_ble_eq_true rfl)) ?_
            refine RW.gop rfl rfl rfl rfl rfl rfl (eff_load (y := .t _) rfl rfl ti3 rfl (.one rfl rfl rfl rfl)) ?_
            refine RW.gop rfl rfl rfl rfl rfl rfl (eff_fieldAddr rfl rfl tf42_3 (by decide) rfl rfl rfl (Nat.le_of_ble_eq_true rfl)) ?_
            refine RW.gop rfl rfl rfl rfl rfl rfl (eff_load (y := .t _) rfl rfl ti3 rfl (.one rfl rfl rfl rfl)) ?_
            refine RW.gop rfl rfl rfl rfl rfl rfl (eff_iop rfl rfl rfl rfl rfl) ?_
            refine RW.op rfl rfl (eff_pick (v := .t _) rfl rfl rfl rfl) ?_
            refine RW.op rfl rfl (eff_move (v := .t _) rfl rfl rfl) ?_
            refine RW.split 33 rfl (fun h6 => ?_) (fun h6 => ?_)
            · try simp only [decide_eq_true_eq, decide_eq_false_iff_not, beq_iff_eq, bne_iff_ne, bne_eq_false_iff_eq, beq_eq_false_iff_ne, Bool.not_eq_true, Bool.not_eq_false, Bool.not_eq_true', Bool.not_eq_false', ne_eq] at h6
              refine RW.gop rfl rfl rfl rfl rfl rfl (eff_fieldAddr rfl rfl tf42_3 (by decide) rfl rfl rfl (Nat.le_of_ble_eq_true rfl)) ?_
              refine RW.gop rfl rfl rfl rfl rfl rfl (eff_load (y := .t _) rfl rfl ti3 rfl (.one rfl rfl rfl rfl)) ?_
              refine RW.gop rfl rfl rfl rfl rfl rfl (eff_iop rfl rfl rfl rfl rfl) ?_
              refine RW.op rfl rfl (eff_pick (v := .t _) rfl rfl rfl rfl) ?_
              refine RW.op rfl rfl (eff_move (v := .t _) rfl rfl rfl) ?_
              refine RW.split 38 rfl (fun h7 => ?_) (fun h7 => ?_)
              · try simp only [decide_eq_true_eq, decide_eq_false_iff_not, beq_iff_eq, bne_iff_ne, bne_eq_false_iff_eq, beq_eq_false_iff_ne, Bool.not_eq_true, Bool.not_eq_false, Bool.not_eq_true', Bool.not_eq_false', ne_eq] at h7
                refine RW.gop rfl rfl rfl rfl rfl rfl (eff_fieldAddr rfl rfl tf42_4 (by decide) rfl rfl rfl (Nat.le_of_ble_eq_true rfl)) ?_
                refine RW.gop rfl rfl rfl rfl rfl rfl (eff_load (y := .t _) rfl rfl ti3 rfl (.one rfl rfl rfl rfl)) ?_
                refine RW.gop rfl rfl rfl rfl rfl rfl (eff_iop rfl rfl rfl rfl rfl) ?_
                refine RW.op rfl rfl (eff_pick (v := .t _) rfl rfl rfl rfl) ?_
                refine RW.op rfl rfl (eff_move (v := .t _) rfl rfl rfl) ?_
                refine RW.split 43 rfl (fun h8 => ?_) (fun h8 => ?_)
                · try simp only [decide_eq_true_eq, decide_eq_false_iff_not, beq_iff_eq, bne_iff_ne, bne_eq_false_iff_eq, beq_eq_false_iff_ne, Bool.not_eq_true, Bool.not_eq_false, Bool.not_eq_true', Bool.not_eq_false', ne_eq] at h8
                  refine RW.gop rfl rfl rfl rfl rfl rfl (eff_fieldAddr rfl rfl tf42_4 (by decide) rfl rfl rfl (Nat.le_of_ble_eq_true rfl)) ?_
                  refine RW.gop rfl rfl rfl rfl rfl rfl (eff_load (y := .t _) rfl rfl ti3 rfl (.one rfl rfl rfl rfl)) ?_
                  refine RW.gop rfl rfl rfl rfl rfl rfl (eff_iop rfl rfl rfl rfl rfl) ?_
                  refine RW.op rfl rfl (eff_pick (v := .t _) rfl rfl rfl rfl) ?_
                  refine RW.op rfl rfl (eff_assign (v := .t _) rfl rfl rfl) ?_
                  refine RW.nil ?_
                  refine awp_ret ?_
                  (rw [show validB b = decide (b.val ≤ 1000000) from decide_eq_decide.2 ⟨fun h => by omega, fun h => by omega⟩]; exact ⟨Or.inr rfl, [_], ⟨.tmp (.t _), trivial⟩, .refl _⟩)
                · try simp only [decide_eq_true_eq, decide_eq_false_iff_not, beq_iff_eq, bne_iff_ne, bne_eq_false_iff_eq, beq_eq_false_iff_ne, Bool.not_eq_true, Bool.not_eq_false, Bool.not_eq_true', Bool.not_eq_false', ne_eq] at h8
                  refine RW.gskip rfl rfl rfl rfl rfl (by decide) ?_
                  refine RW.gskip rfl rfl rfl rfl rfl (by decide) ?_
                  refine RW.gskip rfl rfl rfl rfl rfl (by decide) ?_
                  refine RW.op rfl rfl (eff_pick (v := .t _) rfl rfl rfl rfl) ?_
                  refine RW.op rfl rfl (eff_assign (v := .t _) rfl rfl rfl) ?_
                  refine RW.nil ?_
                  refine awp_ret ?_
                  (rw [show validB b = false from decide_eq_false (by omega)]; exact ⟨Or.inr rfl, [_], ⟨.tmp (.t _), trivial⟩, .refl _⟩)
              · try simp only [decide_eq_true_eq, decide_eq_false_iff_not, beq_iff_eq, bne_iff_ne, bne_eq_false_iff_eq, beq_eq_false_iff_ne, Bool.not_eq_true, Bool.not_eq_false, Bool.not_eq_true', Bool.not_eq_false', ne_eq] at h7
                refine RW.gskip rfl rfl rfl rfl rfl (by decide) ?_
                refine RW.gskip rfl rfl rfl rfl rfl (by decide) ?_
                refine RW.gskip rfl rfl rfl rfl rfl (by decide) ?_
                refine RW.op rfl rfl (eff_pick (v := .t _) rfl rfl rfl rfl) ?_
                refine RW.op rfl rfl (eff_move (v := .t _) rfl rfl rfl) ?_
                refine RW.gskip rfl rfl rfl rfl rfl (by decide) ?_
                refine RW.gskip rfl rfl rfl rfl rfl (by decide) ?_
                refine RW.gskip rfl rfl rfl rfl rfl (by decide) ?_
                refine RW.op rfl rfl (eff_pick (v := .t _) rfl rfl rfl rfl) ?_
                refine RW.op rfl rfl (eff_assign (v := .t _) rfl rfl rfl) ?_
                refine RW.nil ?_
                refine awp_ret ?_
                (rw [show validB b = false from decide_eq_false (by omega)]; exact ⟨Or.inr rfl, [_], ⟨.tmp (.t _), trivial⟩, .refl _⟩)
            · try simp only [decide_eq_true_eq, decide_eq_false_iff_not, beq_iff_eq, bne_iff_ne, bne_eq_false_iff_eq, beq_eq_false_iff_ne, Bool.not_eq_true, Bool.not_eq_false, Bool.not_eq_true', Bool.not_eq_false', ne_eq] at h6
              refine RW.gskip rfl rfl rfl rfl rfl (by decide) ?_
              refine RW.gskip rfl rfl rfl rfl rfl (by decide) ?_
              refine RW.gskip rfl rfl rfl rfl rfl (by decide) ?_
              refine RW.op rfl rfl (eff_pick (v := .t _) rfl rfl rfl rfl) ?_
              refine RW.op rfl rfl (eff_move (v := .t _) rfl rfl rfl) ?_
              refine RW.gskip rfl rfl rfl rfl rfl (by decide) ?_
              refine RW.gskip rfl rfl rfl rfl rfl (by decide) ?_
              refine RW.gskip rfl rfl rfl rfl rfl (by decide) ?_
              refine RW.op rfl rfl (eff_pick (v := .t _) rfl rfl rfl rfl) ?_
              refine RW.op rfl rfl (eff_move (v := .t _) rfl rfl rfl) ?_
              refine RW.gskip rfl rfl rfl rfl rfl (by decide) ?_
              refine RW.gskip rfl rfl rfl rfl rfl (by decide) ?_
              refine RW.gskip rfl rfl rfl rfl rfl (by decide) ?_
              refine RW.op rfl rfl (eff_pick (v := .t _) rfl rfl rfl rfl) ?_
              refine RW.op rfl rfl (eff_assign (v := .t _) rfl rfl rfl) ?_
              refine RW.nil ?_
              refine awp_ret ?_
              (rw [show validB b = false from decide_eq_false (by omega)]; exact ⟨Or.inr rfl, [_], ⟨.tmp (.t _), trivial⟩, .refl _⟩)
          · try simp only [decide_eq_true_eq, decide_eq_false_iff_not, beq_iff_eq, bne_iff_ne, bne_eq_false_iff_eq, beq_eq_false_iff_ne, Bool.not_eq_true, Bool.not_eq_false, Bool.not_eq_true', Bool.not_eq_false', ne_eq] at h5
            refine RW.gskip rfl rfl rfl rfl rfl (by decide) ?_
            refine RW.gskip rfl rfl rfl rfl rfl (by decide) ?_
            refine RW.gskip rfl rfl rfl rfl rfl (by decide) ?_
            refine RW.gskip rfl rfl rfl rfl rfl (by decide) ?_
            refine RW.gskip rfl rfl rfl rfl rfl (by decide) ?_
            refine RW.op rfl rfl (eff_pick (v := .t _) rfl rfl rfl rfl) ?_
            refine RW.op rfl rfl (eff_move (v := .t _) rfl rfl rfl) ?_
            refine RW.gskip rfl rfl rfl rfl rfl (by decide) ?_
            refine RW.gskip rfl rfl rfl rfl rfl (by decide) ?_
            refine RW.gskip rfl rfl rfl rfl rfl (by decide) ?_
            refine RW.op rfl rfl (eff_pick (v := .t _) rfl rfl rfl rfl) ?_
            refine RW.op rfl rfl (eff_move (v := .t _) rfl rfl rfl) ?_
            refine RW.gskip rfl rfl rfl rfl rfl (by decide) ?_
            refine RW.gskip rfl rfl rfl rfl rfl (by decide) ?_
            refine RW.gskip rfl rfl rfl rfl rfl (by decide) ?_
            refine RW.op rfl rfl (eff_pick (v := .t _) rfl rfl rfl rfl) ?_
            refine RW.op rfl rfl (eff_move (v := .t _) rfl rfl rfl) ?_
            refine RW.gskip rfl rfl rfl rfl rfl (by decide) ?_
            refine RW.gskip rfl rfl rfl rfl rfl (by decide) ?_
            refine RW.gskip rfl rfl rfl rfl rfl (by decide) ?_
            refine RW.op rfl rfl (eff_pick (v := .t _) rfl rfl rfl rfl) ?_
            refine RW.op rfl rfl (eff_assign (v := .t _) rfl rfl rfl) ?_
            refine RW.nil ?_
            refine awp_ret ?_
            (rw [show validB b = false from decide_eq_false (by omega)]; exact ⟨Or.inr rfl, [_], ⟨.tmp (.t _), trivial⟩, .refl _⟩)
        · try simp only [decide_eq_true_eq, decide_eq_false_iff_not, beq_iff_eq, bne_iff_ne, bne_eq_false_iff_eq, beq_eq_false_iff_ne, Bool.not_eq_true, Bool.not_eq_false, Bool.not_eq_true', Bool.not_eq_false', ne_eq] at h4
          refine RW.gskip rfl rfl rfl rfl rfl (by decide) ?_
          refine RW.gskip rfl rfl rfl rfl rfl (by decide) ?_
          refine RW.gskip rfl rfl rfl rfl rfl (by decide) ?_
          refine RW.op rfl rfl (eff_pick (v := .t _) rfl rfl rfl rfl) ?_
          refine RW.op rfl rfl (eff_move (v := .t _) rfl rfl rfl) ?_
          refine RW.gskip rfl rfl rfl rfl rfl (by decide) ?_
          refine RW.gskip rfl rfl rfl rfl rfl (by decide) ?_
          refine RW.gskip rfl rfl rfl rfl rfl (by decide) ?_
          refine RW.gskip rfl rfl rfl rfl rfl (by decide) ?_
          refine RW.gskip rfl rfl rfl rfl rfl (by decide) ?_
          refine RW.op rfl rfl (eff_pick (v := .t _) rfl rfl rfl rfl) ?_
          refine RW.op rfl rfl (eff_move (v := .t _) rfl rfl rfl) ?_
          refine RW.gskip rfl rfl rfl rfl rfl (by decide) ?_
          refine RW.gskip rfl rfl rfl rfl rfl (by decide) ?_
          refine RW.gskip rfl rfl rfl rfl rfl (by decide) ?_
          refine RW.op rfl rfl (eff_pick (v := .t _) rfl rfl rfl rfl) ?_
          refine RW.op rfl rfl (eff_move (v := .t _) rfl rfl rfl) ?_
          refine RW.gskip rfl rfl rfl rfl rfl (by decide) ?_
          refine RW.gskip rfl rfl rfl rfl rfl (by decide) ?_
          refine RW.gskip rfl rfl rfl rfl rfl (by decide) ?_
          refine RW.op rfl rfl (eff_pick (v := .t _) rfl rfl rfl rfl) ?_
          refine RW.op rfl rfl (eff_move (v := .t _) rfl rfl rfl) ?_
          refine RW.gskip rfl rfl rfl rfl rfl (by decide) ?_
          refine RW.gskip rfl rfl rfl rfl rfl (by decide) ?_
          refine RW.gskip rfl rfl rfl rfl rfl (by decide) ?_
          refine RW.op rfl rfl (eff_pick (v := .t _) rfl rfl rfl rfl) ?_
          refine RW.op rfl rfl (eff_assign (v := .t _) rfl rfl rfl) ?_
          refine RW.nil ?_
          refine awp_ret ?_
          (rw [show validB b = false from decide_eq_false (by omega)]; exact ⟨Or.inr rfl, [_], ⟨.tmp (.t _), trivial⟩, .refl _⟩)
      · try simp only [decide_eq_true_eq, decide_eq_false_iff_not, beq_iff_eq, bne_iff_ne, bne_eq_false_iff_eq, beq_eq_false_iff_ne, Bool.not_eq_true, Bool.not_eq_false, Bool.not_eq_true', Bool.not_eq_false', ne_eq] at h3
        refine RW.gskip rfl rfl rfl rfl rfl (by decide) ?_
        refine RW.gskip rfl rfl rfl rfl rfl (by decide) ?_
        refine RW.gskip rfl rfl rfl rfl rfl (by decide) ?_
        refine RW.op rfl rfl (eff_pick (v := .t _) rfl rfl rfl rfl) ?_
        refine RW.op rfl rfl (eff_move (v := .t _) rfl rfl rfl) ?_
        refine RW.gskip rfl rfl rfl rfl rfl (by decide) ?_
        refine RW.gskip rfl rfl rfl rfl rfl (by decide) ?_
        refine RW.gskip rfl rfl rfl rfl rfl (by decide) ?_
        refine RW.op rfl rfl (eff_pick (v := .t _) rfl rfl rfl rfl) ?_
        refine RW.op rfl rfl (eff_move (v := .t _) rfl rfl rfl) ?_
        refine RW.gskip rfl rfl rfl rfl rfl (by decide) ?_
        refine RW.gskip rfl rfl rfl rfl rfl (by decide) ?_
        refine RW.gskip rfl rfl rfl rfl rfl (by decide) ?_
        refine RW.gskip rfl rfl rfl rfl rfl (by decide) ?_
        refine RW.gskip rfl rfl rfl rfl rfl (by decide) ?_
        refine RW.op rfl rfl (eff_pick (v := .t _) rfl rfl rfl rfl) ?_
        refine RW.op rfl rfl (eff_move (v := .t _) rfl rfl rfl) ?_
        refine RW.gskip rfl rfl rfl rfl rfl (by decide) ?_
        refine RW.gskip rfl rfl rfl rfl rfl (by decide) ?_
        refine RW.gskip rfl rfl rfl rfl rfl (by decide) ?_
        refine RW.op rfl rfl (eff_pick (v := .t _) rfl rfl rfl rfl) ?_
        refine RW.op rfl rfl (eff_move (v := .t _) rfl rfl rfl) ?_
        refine RW.gskip rfl rfl rfl rfl rfl (by decide) ?_
        refine RW.gskip rfl rfl rfl rfl rfl (by decide) ?_
        refine RW.gskip rfl rfl rfl rfl rfl (by decide) ?_
        refine RW.op rfl rfl (eff_pick (v := .t _) rfl rfl rfl rfl) ?_
        refine RW.op rfl rfl (eff_move (v := .t _) rfl rfl rfl) ?_
        refine RW.gskip rfl rfl rfl rfl rfl (by decide) ?_
        refine RW.gskip rfl rfl rfl rfl rfl (by decide) ?_
        refine RW.gskip rfl rfl rfl rfl rfl (by decide) ?_
        refine RW.op rfl rfl (eff_pick (v := .t _) rfl rfl rfl rfl) ?_
        refine RW.op rfl rfl (eff_assign (v := .t _) rfl rfl rfl) ?_
        refine RW.nil ?_
        refine awp_ret ?_
        (rw [show validB b = false from decide_eq_false (by omega)]; exact ⟨Or.inr rfl, [_], ⟨.tmp (.t _), trivial⟩, .refl _⟩)
    · try simp only [decide_eq_true_eq, decide_eq_false_iff_not, beq_iff_eq, bne_iff_ne, bne_eq_false_iff_eq, beq_eq_false_iff_ne, Bool.not_eq_true, Bool.not_eq_false, Bool.not_eq_true', Bool.not_eq_false', ne_eq] at h2
      refine RW.gskip rfl rfl rfl rfl rfl (by decide) ?_
      refine RW.gskip rfl rfl rfl rfl rfl (by decide) ?_
      refine RW.gskip rfl rfl rfl rfl rfl (by decide) ?_
      refine RW.op rfl rfl (eff_pick (v := .t _) rfl rfl rfl rfl) ?_
      refine RW.op rfl rfl (eff_move (v := .t _) rfl rfl rfl) ?_
      refine RW.gskip rfl rfl rfl rfl rfl (by decide) ?_
      refine RW.gskip rfl rfl rfl rfl rfl (by decide) ?_
      refine RW.gskip rfl rfl rfl rfl rfl (by decide) ?_
      refine RW.op rfl rfl (eff_pick (v := .t _) rfl rfl rfl rfl) ?_
      refine RW.op rfl rfl (eff_move (v := .t _) rfl rfl rfl) ?_
      refine RW.gskip rfl rfl rfl rfl rfl (by decide) ?_
      refine RW.gskip rfl rfl rfl rfl rfl (by decide) ?_
      refine RW.gskip rfl rfl rfl rfl rfl (by decide) ?_
      refine RW.op rfl rfl (eff_pick (v := .t _) rfl rfl rfl rfl) ?_
      refine RW.op rfl rfl (eff_move (v := .t _) rfl rfl rfl) ?_
      refine RW.gskip rfl rfl rfl rfl rfl (by decide) ?_
      refine RW.gskip rfl rfl rfl rfl rfl (by decide) ?_
      refine RW.gskip rfl rfl rfl rfl rfl (by decide) ?_
      refine RW.gskip rfl rfl rfl rfl rfl (by decide) ?_
      refine RW.gskip rfl rfl rfl rfl rfl (by decide) ?_
      refine RW.op rfl rfl (eff_pick (v := .t _) rfl rfl rfl rfl) ?_
      refine RW.op rfl rfl (eff_move (v := .t _) rfl rfl rfl) ?_
      refine RW.gskip rfl rfl rfl rfl rfl (by decide) ?_
      refine RW.gskip rfl rfl rfl rfl rfl (by decide) ?_
      refine RW.gskip rfl rfl rfl rfl rfl (by decide) ?_
      refine RW.op rfl rfl (eff_pick (v := .t _) rfl rfl rfl rfl) ?_
      refine RW.op rfl rfl (eff_move (v := .t _) rfl rfl rfl) ?_
      refine RW.gskip rfl rfl rfl rfl rfl (by decide) ?_
      refine RW.gskip rfl rfl rfl rfl rfl (by decide) ?_
      refine RW.gskip rfl rfl rfl rfl rfl (by decide) ?_
      refine RW.op rfl rfl (eff_pick (v := .t _) rfl rfl rfl rfl) ?_
      refine RW.op rfl rfl (eff_move (v := .t _) rfl rfl rfl) ?_
      refine RW.gskip rfl rfl rfl rfl rfl (by decide) ?_
      refine RW.gskip rfl rfl rfl rfl rfl (by decide) ?_
      refine RW.gskip rfl rfl rfl rfl rfl (by decide) ?_
      refine RW.op rfl rfl (eff_pick (v := .t _) rfl rfl rfl rfl) ?_
      refine RW.op rfl rfl (eff_assign (v := .t _) rfl rfl rfl) ?_
      refine RW.nil ?_
      refine awp_ret ?_
      (rw [show validB b = false from decide_eq_false (by omega)]; exact ⟨Or.inr rfl, [_], ⟨.tmp (.t _), trivial⟩, .refl _⟩)
  · try simp only [decide_eq_true_eq, decide_eq_false_iff_not, beq_iff_eq, bne_iff_ne, bne_eq_false_iff_eq, beq_eq_false_iff_ne, Bool.not_eq_true, Bool.not_eq_false, Bool.not_eq_true', Bool.not_eq_false', ne_eq] at h1
    refine RW.gskip rfl rfl rfl rfl rfl (by decide) ?_
    refine RW.gskip rfl rfl rfl rfl rfl (by decide) ?_
    refine RW.gskip rfl rfl rfl rfl rfl (by decide) ?_
    refine RW.op rfl rfl (eff_pick (v := .t _) rfl rfl rfl rfl) ?_
    refine RW.op rfl rfl (eff_move (v := .t _) rfl rfl rfl) ?_
    refine RW.gskip rfl rfl rfl rfl rfl (by decide) ?_
    refine RW.gskip rfl rfl rfl rfl rfl (by decide) ?_
    refine RW.gskip rfl rfl rfl rfl rfl (by decide) ?_
    refine RW.op rfl rfl (eff_pick (v := .t _) rfl rfl rfl rfl) ?_
    refine RW.op rfl rfl (eff_move (v := .t _) rfl rfl rfl) ?_
    refine RW.gskip rfl rfl rfl rfl rfl (by decide) ?_
    refine RW.gskip rfl rfl rfl rfl rfl (by decide) ?_
    refine RW.gskip rfl rfl rfl rfl rfl (by decide) ?_
    refine RW.op rfl rfl (eff_pick (v := .t _) rfl rfl rfl rfl) ?_
    refine RW.op rfl rfl (eff_move (v := .t _) rfl rfl rfl) ?_
    refine RW.gskip rfl rfl rfl rfl rfl (by decide) ?_
    refine RW.gskip rfl rfl rfl rfl rfl (by decide) ?_
    refine RW.gskip rfl rfl rfl rfl rfl (by decide) ?_
    refine RW.op rfl rfl (eff_pick (v := .t _) rfl rfl rfl rfl) ?_
    refine RW.op rfl rfl (eff_move (v := .t _) rfl rfl rfl) ?_
    refine RW.gskip rfl rfl rfl rfl rfl (by decide) ?_
    refine RW.gskip rfl rfl rfl rfl rfl (by decide) ?_
    refine RW.gskip rfl rfl rfl rfl rfl (by decide) ?_
    refine RW.gskip rfl rfl rfl rfl rfl (by decide) ?_
    refine RW.gskip rfl rfl rfl rfl rfl (by decide) ?_
    refine RW.op rfl rfl (eff_pick (v := .t _) rfl rfl rfl rfl) ?_
    refine RW.op rfl rfl (eff_move (v := .t _) rfl rfl rfl) ?_
    refine RW.gskip rfl rfl rfl rfl rfl (by decide) ?_
    refine RW.gskip rfl rfl rfl rfl rfl (by decide) ?_
    refine RW.gskip rfl rfl rfl rfl rfl (by decide) ?_
    refine RW.op rfl rfl (eff_pick (v := .t _) rfl rfl rfl rfl) ?_
    refine RW.op rfl rfl (eff_move (v := .t _) rfl rfl rfl) ?_
    refine RW.gskip rfl rfl rfl rfl rfl (by decide) ?_
    refine RW.gskip rfl rfl rfl rfl rfl (by decide) ?_
    refine RW.gskip rfl rfl rfl rfl rfl (by decide) ?_
    refine RW.op rfl rfl (eff_pick (v := .t _) rfl rfl rfl rfl) ?_
    refine RW.op rfl rfl (eff_move (v := .t _) rfl rfl rfl) ?_
    refine RW.gskip rfl rfl rfl rfl rfl (by decide) ?_
    refine RW.gskip rfl rfl rfl rfl rfl (by decide) ?_
    refine RW.gskip rfl rfl rfl rfl rfl (by decide) ?_
    refine RW.op rfl rfl (eff_pick (v := .t _) rfl rfl rfl rfl) ?_
    refine RW.op rfl rfl (eff_assign (v := .t _) rfl rfl rfl) ?_
    refine RW.nil ?_
    refine awp_ret ?_
    (rw [show validB b = false from decide_eq_false (by omega)]; exact ⟨Or.inr rfl, [_], ⟨.tmp (.t _), trivial⟩, .refl _⟩)

theorem check_ret (t : List Win) (l : List Bid) (ht : t.length ≤ 100000) (hl : l.length ≤ 100000) : Ret Try.prog 16 [.sl (t.map encW) false, .sl (l.map encB) false] (encI (errF (atB t) l)) := by
  refine ret_of_awp Try.func16 rfl (Nat.le_of_ble_eq_true rfl) ?_
  refine awp_seq ?_
  refine awp_rw rfl ?_
  refine RW.op rfl rfl (eff_assign (v := .t _) rfl rfl rfl) ?_
  refine RW.nil ?_
  refine awp_seq ?_
  refine awp_seq ?_
  refine awp_rw rfl ?_
  refine RW.op rfl rfl (eff_move (v := .t _) rfl rfl rfl) ?_
  refine RW.op rfl rfl (eff_lenM rfl rfl te23 rfl) ?_
  refine RW.op rfl rfl (eff_iop rfl rfl rfl rfl rfl) ?_
  refine RW.nil ?_
  refine awp_cond rfl (fun h1 => ?_) (fun h1 => ?_)
  · try simp only [decide_eq_true_eq, decide_eq_false_iff_not, beq_iff_eq, bne_iff_ne, bne_eq_false_iff_eq, beq_eq_false_iff_ne, Bool.not_eq_true, Bool.not_eq_false, Bool.not_eq_true', Bool.not_eq_false', ne_eq] at h1
    refine awp_seq ?_
    refine awp_rw rfl ?_
    refine RW.op rfl rfl (eff_assign (v := .t _) rfl rfl rfl) ?_
    refine RW.nil ?_
    refine awp_ret ?_
    first
      | (rw [show errF (atB t) l = 2 from if_pos (by omega)]; exact ⟨Or.inr rfl, [_], ⟨.tmp (.t _), trivial⟩, .refl _⟩)
      | (rw [show errF (atB t) l = 5 from by unfold errF; rw [if_neg (by omega), errG_at hil ha, if_neg (by rw [(by assumption : validB (l[i]'hil) = false)]; decide)]]; exact ⟨Or.inr rfl, [_], ⟨.tmp (.t _), trivial⟩, .refl _⟩)
      | (rw [show errF (atB t) l = 32 from by unfold errF; rw [if_neg (by omega), errG_at hil ha, if_pos (by assumption), if_neg (by first | (rw [(by assumption : atB t (l[i]'hil) = false)]; decide) | exact hnf (by assumption) | (unfold atB; simp_all))]]; exact ⟨Or.inr rfl, [_], ⟨.tmp (.t _), trivial⟩, .refl _⟩)
      | (obtain rfl : i = l.length := by omega
         rw [show errF (atB t) l = 0 from by unfold errF; rw [if_neg (by omega), errG_drop hi ha, List.drop_length]; rfl]; exact ⟨Or.inr rfl, [_], ⟨.tmp (.t _), trivial⟩, .refl _⟩)
  · try simp only [decide_eq_true_eq, decide_eq_false_iff_not, beq_iff_eq, bne_iff_ne, bne_eq_false_iff_eq, beq_eq_false_iff_ne, Bool.not_eq_true, Bool.not_eq_false, Bool.not_eq_true', Bool.not_eq_false', ne_eq] at h1
    refine awp_skip ?_
    refine awp_seq ?_
    refine awp_seq ?_
    refine awp_rw rfl ?_
    refine RW.op rfl rfl (eff_move (v := .t _) rfl rfl rfl) ?_
    refine RW.op rfl rfl (eff_lenM rfl rfl te23 rfl) ?_
    refine RW.op rfl rfl (eff_move (v := .t _) rfl rfl rfl) ?_
    refine RW.nil ?_
    refine awp_block ?_
    refine awp_loopW (fun m s => ∃ (i : Nat), (i ≤ l.length) ∧ (∀ b, b ∈ l.take i → validB b = true ∧ atB t b = true) ∧ m = l.length - i ∧ s = ⟨42, [(0, .t (.sl (t.map encW) false)), (12, .t (.sl (l.map encB) false)), (13, .t (encI l.length)), (14, .t (encI (i : Nat)))], []⟩) (_) (⟨_, weak_keep (n := 42) (fr' := [(0, .t (.sl (t.map encW) false)), (12, .t (.sl (l.map encB) false)), (13, .t (encI l.length)), (14, .t (encI (0 : Nat)))]) (st' := []) ⟨rfl, rfl, rfl, rfl, rfl, rfl, rfl, rfl, trivial⟩ trivial, 0, (by omega), (by simp), rfl, rfl⟩) ?_
    rintro m s ⟨i, hi, ha, rfl, rfl⟩
    refine awp_seq ?_
    refine awp_rw rfl ?_
    refine RW.op rfl rfl (eff_iop rfl rfl rfl rfl rfl) ?_
    refine RW.nil ?_
    refine awp_seq ?_
    refine awp_cond rfl (fun h2 => ?_) (fun h2 => ?_)
    · try simp only [decide_eq_true_eq, decide_eq_false_iff_not, beq_iff_eq, bne_iff_ne, bne_eq_false_iff_eq, beq_eq_false_iff_ne, Bool.not_eq_true, Bool.not_eq_false, Bool.not_eq_true', Bool.not_eq_false', ne_eq] at h2
      refine awp_skip ?_
      refine awp_seq ?_
      refine awp_block ?_
      refine awp_seq ?_
      refine awp_rw rfl ?_
      have hil : i < l.length := by omega
      refine RW.op rfl rfl (eff_indexAddrT (i := i) rfl rfl te23 rfl rfl (by first | rfl | omega) (by rw [List.getElem?_map, List.getElem?_eq_getElem hil]; rfl) rfl (by decide)) ?_
      refine RW.op rfl rfl (eff_loadW rfl rfl ti42 rfl rfl rfl) ?_
      refine RW.new rfl rfl (eff_allocK (k := 5) (id := 6) rfl rfl tz42 rfl rfl) ?_
      refine RW.store rfl rfl (eff_storeW (v := .t _) (els := [_]) (els' := [_]) rfl rfl ti42 rfl rfl rfl rfl rfl rfl rfl rfl rfl) ?_
      refine RW.nil ?_
      refine awp_seq ?_
      refine awp_seq ?_
      refine awp_rw rfl ?_
      refine RW.op rfl rfl (eff_load rfl rfl ti42 rfl (.whole rfl rfl rfl rfl rfl rfl)) ?_
      refine RW.op rfl rfl (eff_callT (valid_ret _) co45 rfl rfl rfl rfl) ?_
      refine RW.op rfl rfl (eff_unop rfl rfl rfl rfl) ?_
      refine RW.nil ?_
      refine awp_cond rfl (fun h3 => ?_) (fun h3 => ?_)
      · try simp only [decide_eq_true_eq, decide_eq_false_iff_not, beq_iff_eq, bne_iff_ne, bne_eq_false_iff_eq, beq_eq_false_iff_ne, Bool.not_eq_true, Bool.not_eq_false, Bool.not_eq_true', Bool.not_eq_false', ne_eq] at h3
        refine awp_seq ?_
        refine awp_rw rfl ?_
        refine RW.op rfl rfl (eff_assign (v := .t _) rfl rfl rfl) ?_
        refine RW.nil ?_
        refine awp_ret ?_
        first
          | (rw [show errF (atB t) l = 2 from if_pos (by omega)]; exact ⟨Or.inr rfl, [_], ⟨.tmp (.t _), trivial⟩, .refl _⟩)
          | (rw [show errF (atB t) l = 5 from by unfold errF; rw [if_neg (by omega), errG_at hil ha, if_neg (by rw [(by assumption : validB (l[i]'hil) = false)]; decide)]]; exact ⟨Or.inr rfl, [_], ⟨.tmp (.t _), trivial⟩, .refl _⟩)
          | (rw [show errF (atB t) l = 32 from by unfold errF; rw [if_neg (by omega), errG_at hil ha, if_pos (by assumption), if_neg (by first | (rw [(by assumption : atB t (l[i]'hil) = false)]; decide) | exact hnf (by assumption) | (unfold atB; simp_all))]]; exact ⟨Or.inr rfl, [_], ⟨.tmp (.t _), trivial⟩, .refl _⟩)
          | (obtain rfl : i = l.length := by omega
             rw [show errF (atB t) l = 0 from by unfold errF; rw [if_neg (by omega), errG_drop hi ha, List.drop_length]; rfl]; exact ⟨Or.inr rfl, [_], ⟨.tmp (.t _), trivial⟩, .refl _⟩)
      · try simp only [decide_eq_true_eq, decide_eq_false_iff_not, beq_iff_eq, bne_iff_ne, bne_eq_false_iff_eq, beq_eq_false_iff_ne, Bool.not_eq_true, Bool.not_eq_false, Bool.not_eq_true', Bool.not_eq_false', ne_eq] at h3
        refine awp_skip ?_
        refine awp_seq ?_
        refine awp_rw rfl ?_
        refine RW.op rfl rfl (eff_move (v := .t _) rfl rfl rfl) ?_
        refine RW.op rfl rfl (eff_fieldAddr rfl rfl tf42_0 (by decide) rfl rfl rfl (Nat.le_of_ble_eq_true rfl)) ?_
        refine RW.op rfl rfl (eff_load (y := .t _) rfl rfl ti3 rfl (.one rfl rfl rfl rfl)) ?_
        refine RW.op rfl rfl (eff_fieldAddr rfl rfl tf42_1 (by decide) rfl rfl rfl (Nat.le_of_ble_eq_true rfl)) ?_
        refine RW.op rfl rfl (eff_load (y := .t _) rfl rfl ti3 rfl (.one rfl rfl rfl rfl)) ?_
        refine RW.op rfl rfl (eff_fieldAddr rfl rfl tf42_2 (by decide) rfl rfl rfl (Nat.le_of_ble_eq_true rfl)) ?_
        refine RW.op rfl rfl (eff_load (y := .t _) rfl rfl ti3 rfl (.one rfl rfl rfl rfl)) ?_
        refine RW.op rfl rfl (eff_callT (at_ret39 t 1 (l[i]'hil).craft (l[i]'hil).station (l[i]'hil).frm ht) co39 rfl rfl rfl rfl) ?_
        refine RW.op rfl rfl (eff_move (v := .t _) rfl rfl rfl) ?_
        refine RW.op rfl rfl (eff_extract rfl rfl rfl rfl) ?_
        refine RW.op rfl rfl (eff_extract rfl rfl rfl rfl) ?_
        refine RW.new rfl rfl (eff_allocK (k := 6) (id := 7) rfl rfl tz29 rfl rfl) ?_
        refine RW.store rfl rfl (eff_storeW (v := .t _) (els := [_]) (els' := [_]) rfl rfl ti29 rfl rfl rfl rfl rfl rfl rfl rfl rfl) ?_
        refine RW.op rfl rfl (eff_assign (v := .t _) rfl rfl rfl) ?_
        refine RW.nil ?_
        refine awp_seq ?_
        refine awp_rw rfl ?_
        refine RW.op rfl rfl (eff_move (v := .t _) rfl rfl rfl) ?_
        refine RW.op rfl rfl (eff_unop rfl rfl rfl rfl) ?_
        refine RW.op rfl rfl (eff_move (v := .t _) rfl rfl rfl) ?_
        refine RW.split 34 rfl (fun h4 => ?_) (fun h4 => ?_)
        · try simp only [decide_eq_true_eq, decide_eq_false_iff_not, beq_iff_eq, bne_iff_ne, bne_eq_false_iff_eq, beq_eq_false_iff_ne, Bool.not_eq_true, Bool.not_eq_false, Bool.not_eq_true', Bool.not_eq_false', ne_eq] at h4
          refine RW.gskip rfl rfl rfl rfl rfl (by decide) ?_
          refine RW.gskip rfl rfl rfl rfl rfl (by decide) ?_
          refine RW.gskip rfl rfl rfl rfl rfl (by decide) ?_
          refine RW.gskip rfl rfl rfl rfl rfl (by decide) ?_
          refine RW.gskip rfl rfl rfl rfl rfl (by decide) ?_
          refine RW.op rfl rfl (eff_pick (v := .t _) rfl rfl rfl rfl) ?_
          refine RW.nil ?_
          refine awp_cond rfl (fun _ => ?_) (fun h => nomatch h)
          refine awp_seq ?_
          refine awp_rw rfl ?_
          refine RW.op rfl rfl (eff_assign (v := .t _) rfl rfl rfl) ?_
          refine RW.nil ?_
          refine awp_ret ?_
          first
            | (rw [show errF (atB t) l = 2 from if_pos (by omega)]; exact ⟨Or.inr rfl, [_], ⟨.tmp (.t _), trivial⟩, .refl _⟩)
            | (rw [show errF (atB t) l = 5 from by unfold errF; rw [if_neg (by omega), errG_at hil ha, if_neg (by rw [(by assumption : validB (l[i]'hil) = false)]; decide)]]; exact ⟨Or.inr rfl, [_], ⟨.tmp (.t _), trivial⟩, .refl _⟩)
            | (rw [show errF (atB t) l = 32 from by unfold errF; rw [if_neg (by omega), errG_at hil ha, if_pos (by assumption), if_neg (by first | (rw [(by assumption : atB t (l[i]'hil) = false)]; decide) | exact hnf (by assumption) | (unfold atB; simp_all))]]; exact ⟨Or.inr rfl, [_], ⟨.tmp (.t _), trivial⟩, .refl _⟩)
            | (obtain rfl : i = l.length := by omega
               rw [show errF (atB t) l = 0 from by unfold errF; rw [if_neg (by omega), errG_drop hi ha, List.drop_length]; rfl]; exact ⟨Or.inr rfl, [_], ⟨.tmp (.t _), trivial⟩, .refl _⟩)
        · try simp only [decide_eq_true_eq, decide_eq_false_iff_not, beq_iff_eq, bne_iff_ne, bne_eq_false_iff_eq, beq_eq_false_iff_ne, Bool.not_eq_true, Bool.not_eq_false, Bool.not_eq_true', Bool.not_eq_false', ne_eq] at h4
          refine RW.gop rfl rfl rfl rfl rfl rfl (eff_fieldAddr rfl rfl tf29_4 (by decide) rfl rfl rfl (Nat.le_of_ble_eq_true rfl)) ?_
          refine RW.gop rfl rfl rfl rfl rfl rfl (eff_load (y := .t _) rfl rfl ti3 rfl (.one rfl rfl rfl rfl)) ?_
          refine RW.gop rfl rfl rfl rfl rfl rfl (eff_fieldAddr rfl rfl tf42_3 (by decide) rfl rfl rfl (Nat.le_of_ble_eq_true rfl)) ?_
          refine RW.gop rfl rfl rfl rfl rfl rfl (eff_load (y := .t _) rfl rfl ti3 rfl (.one rfl rfl rfl rfl)) ?_
          refine RW.gop rfl rfl rfl rfl rfl rfl (eff_iop rfl rfl rfl rfl rfl) ?_
          refine RW.op rfl rfl (eff_pick (v := .t _) rfl rfl rfl rfl) ?_
          refine RW.nil ?_
          refine awp_cond rfl (fun h5 => ?_) (fun h5 => ?_)
          · try simp only [decide_eq_true_eq, decide_eq_false_iff_not, beq_iff_eq, bne_iff_ne, bne_eq_false_iff_eq, beq_eq_false_iff_ne, Bool.not_eq_true, Bool.not_eq_false, Bool.not_eq_true', Bool.not_eq_false', ne_eq] at h5
            refine awp_seq ?_
            refine awp_rw rfl ?_
            refine RW.op rfl rfl (eff_assign (v := .t _) rfl rfl rfl) ?_
            refine RW.nil ?_
            refine awp_ret ?_
            first
              | (rw [show errF (atB t) l = 2 from if_pos (by omega)]; exact ⟨Or.inr rfl, [_], ⟨.tmp (.t _), trivial⟩, .refl _⟩)
              | (rw [show errF (atB t) l = 5 from by unfold errF; rw [if_neg (by omega), errG_at hil ha, if_neg (by rw [(by assumption : validB (l[i]'hil) = false)]; decide)]]; exact ⟨Or.inr rfl, [_], ⟨.tmp (.t _), trivial⟩, .refl _⟩)
              | (rw [show errF (atB t) l = 32 from by unfold errF; rw [if_neg (by omega), errG_at hil ha, if_pos (by assumption), if_neg (by first | (rw [(by assumption : atB t (l[i]'hil) = false)]; decide) | exact hnf (by assumption) | (unfold atB; simp_all))]]; exact ⟨Or.inr rfl, [_], ⟨.tmp (.t _), trivial⟩, .refl _⟩)
              | (obtain rfl : i = l.length := by omega
                 rw [show errF (atB t) l = 0 from by unfold errF; rw [if_neg (by omega), errG_drop hi ha, List.drop_length]; rfl]; exact ⟨Or.inr rfl, [_], ⟨.tmp (.t _), trivial⟩, .refl _⟩)
          · try simp only [decide_eq_true_eq, decide_eq_false_iff_not, beq_iff_eq, bne_iff_ne, bne_eq_false_iff_eq, beq_eq_false_iff_ne, Bool.not_eq_true, Bool.not_eq_false, Bool.not_eq_true', Bool.not_eq_false', ne_eq] at h5
            refine awp_skip ?_
            refine awp_rw rfl ?_
            refine RW.op rfl rfl (eff_iop rfl rfl rfl rfl (iadd (by omega))) ?_
            refine RW.op rfl rfl (eff_move (v := .t _) rfl rfl rfl) ?_
            refine RW.nil ?_
            refine ⟨_, ?_, _, weak_keep (n := 42) (fr' := [(0, .t (.sl (t.map encW) false)), (12, .t (.sl (l.map encB) false)), (13, .t (encI l.length)), (14, .t (encI ((i + 1) : Nat)))]) (st' := []) ⟨rfl, rfl, rfl, rfl, rfl, rfl, rfl, rfl, trivial⟩ trivial, i + 1, (by omega), (by intro b hb; rcases (mem_take_succ hil).1 hb with h | h; exact ha b h; rw [h]; exact ⟨by assumption, decide_eq_true ⟨by first | assumption | simp_all, by first | assumption | omega⟩⟩), rfl, rfl⟩
            omega
    · try simp only [decide_eq_true_eq, decide_eq_false_iff_not, beq_iff_eq, bne_iff_ne, bne_eq_false_iff_eq, beq_eq_false_iff_ne, Bool.not_eq_true, Bool.not_eq_false, Bool.not_eq_true', Bool.not_eq_false', ne_eq] at h2
      refine awp_exit ?_
      refine awp_seq ?_
      refine awp_rw rfl ?_
      refine RW.op rfl rfl (eff_assign (v := .t _) rfl rfl rfl) ?_
      refine RW.nil ?_
      refine awp_ret ?_
      first
        | (rw [show errF (atB t) l = 2 from if_pos (by omega)]; exact ⟨Or.inr rfl, [_], ⟨.tmp (.t _), trivial⟩, .refl _⟩)
        | (rw [show errF (atB t) l = 5 from by unfold errF; rw [if_neg (by omega), errG_at hil ha, if_neg (by rw [(by assumption : validB (l[i]'hil) = false)]; decide)]]; exact ⟨Or.inr rfl, [_], ⟨.tmp (.t _), trivial⟩, .refl _⟩)
        | (rw [show errF (atB t) l = 32 from by unfold errF; rw [if_neg (by omega), errG_at hil ha, if_pos (by assumption), if_neg (by first | (rw [(by assumption : atB t (l[i]'hil) = false)]; decide) | exact hnf (by assumption) | (unfold atB; simp_all))]]; exact ⟨Or.inr rfl, [_], ⟨.tmp (.t _), trivial⟩, .refl _⟩)
        | (obtain rfl : i = l.length := by omega
           rw [show errF (atB t) l = 0 from by unfold errF; rw [if_neg (by omega), errG_drop hi ha, List.drop_length]; rfl]; exact ⟨Or.inr rfl, [_], ⟨.tmp (.t _), trivial⟩, .refl _⟩)

end Go.Tv.C35

end
section
open Go Go.Tv Go.Proofs
namespace Go.Tv.C35
set_option linter.unusedVariables false

structure Rep where
  next : Int
  have_ : Int
  key : Int
  locked : Bool
  deriving DecidableEq, Inhabited
def encR (r : Rep) : Tr := .agg [encI r.next, encI r.have_, encI r.key, .bool r.locked]
def RepOK (r : Rep) : Prop := (0 ≤ r.next ∧ r.next ≤ 1000000) ∧ (0 ≤ r.have_ ∧ r.have_ < 4294967296)
def bitN (h k : Nat) : Nat := h / 2 ^ (min k 64) % 2
def hasB (r : Rep) (n : Int) : Bool := if n ≤ r.next then decide (n < r.next) else decide (bitN r.have_.toNat (n - r.next - 1).toNat = 1)
theorem has_low {r : Rep} {n : Int} (h : n ≤ r.next) : hasB r n = decide (n < r.next) := if_pos h
theorem has_bit {r : Rep} {n : Int} (h : ¬ n ≤ r.next) : hasB r n = decide (bitN r.have_.toNat (n - r.next - 1).toNat = 1) := if_neg h
theorem has_lowN {nx ky n : Int} {h : Nat} {lk : Bool} (hn : n ≤ nx) : hasB ⟨nx, ((h : Nat) : Int), ky, lk⟩ n = decide (n < nx) := has_low (r := ⟨nx, ((h : Nat) : Int), ky, lk⟩) (n := n) hn
theorem has_bitN {nx ky n : Int} {h : Nat} {lk : Bool} (hn : ¬ n ≤ nx) : hasB ⟨nx, ((h : Nat) : Int), ky, lk⟩ n = decide (bitN h (n - nx - 1).toNat = 1) := by
  have := has_bit (r := ⟨nx, ((h : Nat) : Int), ky, lk⟩) (n := n) hn
  rw [this, Int.toNat_natCast]
theorem shr_nat {ik : IntKind} (hb : ik.bits = 64) (h : Nat) {n : Int} (h0 : 0 ≤ n) : ((h : Nat) : Int).fdiv (2 ^ (min n.toNat ik.bits)) = ((h / 2 ^ (min n.toNat 64) : Nat) : Int) := by
  have hc : ∀ m : Nat, (2 : Int) ^ m = ((2 ^ m : Nat) : Int) := fun m => by simp
  rw [hb, hc, Int.fdiv_eq_ediv_of_nonneg _ (Int.natCast_nonneg _), ← Int.natCast_ediv]
theorem ofInt_nat (x : Nat) : BitVec.ofInt 64 (x : Int) = BitVec.ofNat 64 x := by
  apply BitVec.eq_of_toNat_eq
  simp
theorem and_one {x : Nat} (hx : x < 18446744073709551616) : iop .and .u64 (x : Int) 1 = some (.int .u64 ((x % 2 : Nat) : Int)) := by
  have h2 : (BitVec.ofInt 64 (x : Int) &&& BitVec.ofInt 64 ((1 : Nat) : Int)).toNat = x &&& 1 := by
    rw [ofInt_nat, ofInt_nat, BitVec.toNat_and, BitVec.toNat_ofNat, BitVec.toNat_ofNat, Nat.mod_eq_of_lt hx, Nat.mod_eq_of_lt (by decide)]
  show some (Tr.int .u64 (IntKind.u64.wrap ((BitVec.ofInt 64 (x : Int) &&& BitVec.ofInt 64 ((1 : Nat) : Int)).toNat : Int))) = _
  rw [h2, wu64, Nat.and_one_is_mod, show ((x % 2 : Nat) : Int) % 18446744073709551616 = ((x % 2 : Nat) : Int) from by omega]
def lackN (l : List Rep) (n : Nat) : Bool := l.any fun r => !hasB r (n : Int)
def neededN (l : List Rep) (q : Nat) : List Nat := (List.range q).filter (lackN l)
theorem needed_yes {l : List Rep} {i : Nat} (h : lackN l i = true) : neededN l (i + 1) = neededN l i ++ [i] := by
  unfold neededN; rw [List.range_succ, List.filter_append, List.filter_cons, if_pos h]; rfl
theorem needed_no {l : List Rep} {i : Nat} (h : lackN l i = false) : neededN l (i + 1) = neededN l i := by
  unfold neededN; rw [List.range_succ, List.filter_append, List.filter_cons, if_neg (by rw [h]; decide)]; simp
theorem needed_len (l : List Rep) (q : Nat) : (neededN l q).length ≤ q := by
  have := List.length_filter_le (lackN l) (List.range q)
  rw [List.length_range] at this
  exact this
def minR (m x : Rep) : Rep := if x.next < m.next then x else m
def settledF : List Rep → Int
  | [] => 0
  | r :: l => (l.foldl minR r).next
theorem foldl_snoc {α β : Type} (f : α → β → α) (a : α) (l : List β) (x : β) : (l ++ [x]).foldl f a = f (l.foldl f a) x := by rw [List.foldl_append]; rfl
/-- The least of some states. -/
def leastR (l : List Rep) (d : Rep) : Rep := l.foldl minR d
theorem least_step {l : List Rep} {d : Rep} {i : Nat} (h : i < l.length) : leastR (l.take (i + 1)) d = minR (leastR (l.take i) d) l[i] := by
  unfold leastR; rw [take_succ_get h, foldl_snoc]
theorem minR_self (d : Rep) : minR d d = d := by unfold minR; rw [if_neg (by omega)]
theorem settled_is {l : List Rep} (h : 0 < l.length) : settledF l = (leastR l l[0]).next := by
  cases l with
  | nil => simp at h
  | cons r l =>
    show (l.foldl minR r).next = (l.foldl minR (minR r r)).next
    rw [minR_self]
end Go.Tv.C35

end
section
open Go Go.Tv Go.Proofs
namespace Go.Tv.C35
set_option maxRecDepth 20000
set_option maxHeartbeats 2000000
set_option linter.unusedSimpArgs false
set_option linter.unusedVariables false
theorem eff_maxE {P : Program} {D : St} {o : Oper} {t t2 : TypeId} {x y : Operand} {k : IntKind} {n m r : Int} (hd : dstOK D.n o.dst = true)
    (ho : o.op = .call { callee := .builtin .max, args := #[x, y], argTypes := #[t, t2] }) (hx : D.ev x = .t (.int k n)) (hy : D.ev y = .t (.int k m)) (hr : imax n m = r) : Eff P o D ⟨.t (.int k r), []⟩ :=
  hr ▸ eff_max hd ho hx hy
theorem wk_boolR {a b : Bool} (h : a = b) : Wk (packT [.bool a]) (.bool b) := by rw [h]; exact .refl _
theorem beq_one (x : Nat) : (((x : Nat) : Int) == 1) = decide (x = 1) := by
  by_cases h : x = 1
  · subst h; rfl
  · rw [decide_eq_false h, beq_eq_false_iff_ne]; omega

theorem has65_ret (r : Rep) (n : Int) (hr : RepOK r) (hn : 0 ≤ n ∧ n ≤ 1000000) : Ret Try.prog 65 [encR r, encI n] (.bool (hasB r n)) := by
  obtain ⟨nx, hv0, ky, lk⟩ := r
  obtain ⟨h, rfl⟩ : ∃ h : Nat, hv0 = (h : Int) := ⟨hv0.toNat, by have := hr.2.1; simp only [] at this; omega⟩
  have hn1 := hr.1
  have hh := hr.2.2
  simp only [] at hn1 hh
  refine ret_of_awp Try.func65 rfl (Nat.le_of_ble_eq_true rfl) ?_
  refine awp_seq ?_
  refine awp_rw rfl ?_
  refine RW.new rfl rfl (eff_boxK (v := .t _) (k := 4) (id := 2) rfl rfl rfl rfl rfl rfl) ?_
  refine RW.op rfl rfl (eff_assign (v := .t _) rfl rfl rfl) ?_
  refine RW.nil ?_
  refine awp_seq ?_
  refine awp_seq ?_
  refine awp_rw rfl ?_
  refine RW.op rfl rfl (eff_move (v := .t _) rfl rfl rfl) ?_
  refine RW.op rfl rfl (eff_fieldAddr rfl rfl tf58_0 (by decide) rfl rfl rfl (Nat.le_of_ble_eq_true rfl)) ?_
  refine RW.op rfl rfl (eff_load (y := .t _) rfl rfl ti3 rfl (.one rfl rfl rfl rfl)) ?_
  refine RW.op rfl rfl (eff_iop rfl rfl rfl rfl rfl) ?_
  refine RW.nil ?_
  refine awp_cond rfl (fun h1 => ?_) (fun h1 => ?_)
  · try simp only [decide_eq_true_eq, decide_eq_false_iff_not, beq_iff_eq, bne_iff_ne, bne_eq_false_iff_eq, beq_eq_false_iff_ne, Bool.not_eq_true, Bool.not_eq_false, Bool.not_eq_true', Bool.not_eq_false', ne_eq] at h1
    refine awp_seq ?_
    refine awp_rw rfl ?_
    refine RW.op rfl rfl (eff_move (v := .t _) rfl rfl rfl) ?_
    refine RW.op rfl rfl (eff_fieldAddr rfl rfl tf58_0 (by decide) rfl rfl rfl (Nat.le_of_ble_eq_true rfl)) ?_
    refine RW.op rfl rfl (eff_load (y := .t _) rfl rfl ti3 rfl (.one rfl rfl rfl rfl)) ?_
    refine RW.op rfl rfl (eff_iop rfl rfl rfl rfl rfl) ?_
    refine RW.op rfl rfl (eff_assign (v := .t _) rfl rfl rfl) ?_
    refine RW.nil ?_
    refine awp_ret ?_
    (rw [show hasB ⟨nx, ((h : Nat) : Int), ky, lk⟩ n = decide (n < nx) from has_lowN (by omega)]; exact ⟨Or.inr rfl, [_], ⟨.tmp (.t _), trivial⟩, .refl _⟩)
  · try simp only [decide_eq_true_eq, decide_eq_false_iff_not, beq_iff_eq, bne_iff_ne, bne_eq_false_iff_eq, beq_eq_false_iff_ne, Bool.not_eq_true, Bool.not_eq_false, Bool.not_eq_true', Bool.not_eq_false', ne_eq] at h1
    refine awp_skip ?_
    refine awp_seq ?_
    refine awp_rw rfl ?_
    refine RW.op rfl rfl (eff_fieldAddr rfl rfl tf58_1 (by decide) rfl rfl rfl (Nat.le_of_ble_eq_true rfl)) ?_
    refine RW.op rfl rfl (eff_load (y := .t _) rfl rfl ti3 rfl (.one rfl rfl rfl rfl)) ?_
    refine RW.op rfl rfl (eff_convIntE (m := ((h : Nat) : Int)) rfl rfl (by rw [tu3]; rfl) tu86 rfl (wrapU64 (n := ((h : Nat) : Int)) (by omega) (by omega))) ?_
    refine RW.op rfl rfl (eff_move (v := .t _) rfl rfl rfl) ?_
    refine RW.op rfl rfl (eff_fieldAddr rfl rfl tf58_0 (by decide) rfl rfl rfl (Nat.le_of_ble_eq_true rfl)) ?_
    refine RW.op rfl rfl (eff_load (y := .t _) rfl rfl ti3 rfl (.one rfl rfl rfl rfl)) ?_
    refine RW.op rfl rfl (eff_iop (r := encI (n - nx)) rfl rfl rfl rfl (isub (a := n) (b := nx) (by omega))) ?_
    refine RW.op rfl rfl (eff_iop (r := encI (n - nx - 1)) rfl rfl rfl rfl (isub (by omega))) ?_
    refine RW.op rfl rfl (eff_convIntE (m := (n - nx - 1)) rfl rfl (by rw [tu3]; rfl) tu86 rfl (wrapU64 (by omega) (by omega))) ?_
    refine RW.op rfl rfl (eff_shrE (r := ((h / 2 ^ (min (n - nx - 1).toNat 64) : Nat) : Int)) rfl rfl rfl rfl (by omega) (shr_nat rfl h (by omega))) ?_
    refine RW.op rfl rfl (eff_iop (r := .int .u64 ((bitN h (n - nx - 1).toNat : Nat) : Int)) rfl rfl rfl rfl (and_one (by have := Nat.div_le_self h (2 ^ (min (n - nx - 1).toNat 64)); omega))) ?_
    refine RW.op rfl rfl (eff_iop rfl rfl rfl rfl rfl) ?_
    refine RW.op rfl rfl (eff_assign (v := .t _) rfl rfl rfl) ?_
    refine RW.nil ?_
    refine awp_ret ?_
    (rw [show hasB ⟨nx, ((h : Nat) : Int), ky, lk⟩ n = decide (bitN h (n - nx - 1).toNat = 1) from has_bitN (by omega)]; exact ⟨Or.inr rfl, [_], ⟨.tmp (.t _), trivial⟩, wk_boolR (beq_one _)⟩)

theorem lack64_ret (r : Rep) (n : Int) (hr : RepOK r) (hn : 0 ≤ n ∧ n ≤ 1000000) : Ret Try.prog 64 [encR r, .ptr [encI n]] (.bool (!hasB r n)) := by
  refine ret_of_awp Try.func64 rfl (Nat.le_of_ble_eq_true rfl) ?_
  refine awp_seq ?_
  refine awp_rw rfl ?_
  refine RW.new rfl rfl (eff_boxK (v := .t _) (k := 4) (id := 2) rfl rfl rfl rfl rfl rfl) ?_
  refine RW.op rfl rfl (eff_assign (v := .t _) rfl rfl rfl) ?_
  refine RW.nil ?_
  refine awp_seq ?_
  refine awp_rw rfl ?_
  refine RW.op rfl rfl (eff_load rfl rfl ti58 rfl (.whole rfl rfl rfl rfl rfl rfl)) ?_
  refine RW.op rfl rfl (eff_loadT1 rfl rfl ti3 rfl rfl) ?_
  refine RW.op rfl rfl (eff_callT (has65_ret r n hr hn) co65 rfl rfl rfl rfl) ?_
  refine RW.op rfl rfl (eff_unop rfl rfl rfl rfl) ?_
  refine RW.op rfl rfl (eff_assign (v := .t _) rfl rfl rfl) ?_
  refine RW.nil ?_
  refine awp_ret ?_
  exact ⟨Or.inr rfl, [_], ⟨.tmp (.t _), trivial⟩, .refl _⟩

theorem ixfR_ret (l : List Rep) (fn : Nat) (caps : List Tr) (p : Rep → Bool) (hl : l.length ≤ 100000) (hco : callOK Try.prog fn = true) (hp : ∀ x, x ∈ l → Ret Try.prog fn (encR x :: caps) (.bool (p x))) : Ret Try.prog 87 [.sl (l.map encR) false, .fn fn caps] (encI (fIx p l)) := by
  refine ret_of_awp Try.func87 rfl (Nat.le_of_ble_eq_true rfl) ?_
  refine awp_seq ?_
  refine awp_rw rfl ?_
  refine RW.op rfl rfl (eff_assign (v := .t _) rfl rfl rfl) ?_
  refine RW.nil ?_
  refine awp_seq ?_
  refine awp_seq ?_
  refine awp_rw rfl ?_
  refine RW.op rfl rfl (eff_move (v := .t _) rfl rfl rfl) ?_
  refine RW.op rfl rfl (eff_lenM rfl rfl te49 rfl) ?_
  refine RW.op rfl rfl (eff_move (v := .t _) rfl rfl rfl) ?_
  refine RW.nil ?_
  refine awp_block ?_
  refine awp_loopW (fun m s => ∃ (i : Nat), (i ≤ l.length) ∧ (∀ b, b ∈ l.take i → p b = false) ∧ m = l.length - i ∧ s = ⟨19, [(0, .t (.sl (l.map encR) false)), (1, .t (.fn fn caps)), (7, .t (encI l.length)), (8, .t (encI (i : Nat)))], []⟩) (_) (⟨_, weak_keep (n := 19) (fr' := [(0, .t (.sl (l.map encR) false)), (1, .t (.fn fn caps)), (7, .t (encI l.length)), (8, .t (encI (0 : Nat)))]) (st' := []) ⟨rfl, rfl, rfl, rfl, rfl, rfl, rfl, rfl, trivial⟩ trivial, 0, (by omega), (by simp), rfl, rfl⟩) ?_
  rintro m s ⟨i, hi, ha, rfl, rfl⟩
  refine awp_seq ?_
  refine awp_rw rfl ?_
  refine RW.op rfl rfl (eff_iop rfl rfl rfl rfl rfl) ?_
  refine RW.nil ?_
  refine awp_seq ?_
  refine awp_cond rfl (fun h1 => ?_) (fun h1 => ?_)
  · try simp only [decide_eq_true_eq, decide_eq_false_iff_not, beq_iff_eq, bne_iff_ne, bne_eq_false_iff_eq, beq_eq_false_iff_ne, Bool.not_eq_true, Bool.not_eq_false, Bool.not_eq_true', Bool.not_eq_false', ne_eq] at h1
    refine awp_skip ?_
    refine awp_seq ?_
    refine awp_block ?_
    refine awp_seq ?_
    refine awp_rw rfl ?_
    refine RW.op rfl rfl (eff_move (v := .t _) rfl rfl rfl) ?_
    refine RW.op rfl rfl (eff_assign (v := .t _) rfl rfl rfl) ?_
    refine RW.nil ?_
    refine awp_seq ?_
    refine awp_rw rfl ?_
    refine RW.op rfl rfl (eff_move (v := .t _) rfl rfl rfl) ?_
    refine RW.op rfl rfl (eff_move (v := .t _) rfl rfl rfl) ?_
    refine RW.op rfl rfl (eff_move (v := .t _) rfl rfl rfl) ?_
    refine RW.op rfl rfl (eff_indexM rfl rfl te49 rfl rfl rfl (by first | assumption | exact List.getElem?_eq_getElem (by omega)) rfl (by decide)) ?_
    refine RW.op rfl rfl (eff_loadW rfl rfl ti58 rfl rfl rfl) ?_
    refine RW.op rfl rfl (eff_call (f := fn) (xs := [_]) (ys := [_]) (caps := caps) rfl rfl rfl hco rfl (WkL.cons (.refl _) .nil) (hp _ (List.getElem_mem (show i < l.length by omega)))) ?_
    refine RW.nil ?_
    refine awp_cond rfl (fun h2 => ?_) (fun h2 => ?_)
    · try simp only [decide_eq_true_eq, decide_eq_false_iff_not, beq_iff_eq, bne_iff_ne, bne_eq_false_iff_eq, beq_eq_false_iff_ne, Bool.not_eq_true, Bool.not_eq_false, Bool.not_eq_true', Bool.not_eq_false', ne_eq] at h2
      refine awp_seq ?_
      refine awp_rw rfl ?_
      refine RW.op rfl rfl (eff_move (v := .t _) rfl rfl rfl) ?_
      refine RW.op rfl rfl (eff_assign (v := .t _) rfl rfl rfl) ?_
      refine RW.nil ?_
      refine awp_ret ?_
      rw [fIx_hit (by omega) ha h2]
      exact ⟨Or.inr rfl, [_], ⟨.tmp (.t _), trivial⟩, .refl _⟩
    · try simp only [decide_eq_true_eq, decide_eq_false_iff_not, beq_iff_eq, bne_iff_ne, bne_eq_false_iff_eq, beq_eq_false_iff_ne, Bool.not_eq_true, Bool.not_eq_false, Bool.not_eq_true', Bool.not_eq_false', ne_eq] at h2
      refine awp_skip ?_
      refine awp_rw rfl ?_
      refine RW.op rfl rfl (eff_iop rfl rfl rfl rfl (iadd (by omega))) ?_
      refine RW.op rfl rfl (eff_move (v := .t _) rfl rfl rfl) ?_
      refine RW.nil ?_
      refine ⟨_, ?_, _, weak_keep (n := 19) (fr' := [(0, .t (.sl (l.map encR) false)), (1, .t (.fn fn caps)), (7, .t (encI l.length)), (8, .t (encI ((i + 1) : Nat)))]) (st' := []) ⟨rfl, rfl, rfl, rfl, rfl, rfl, rfl, rfl, trivial⟩ trivial, i + 1, (by omega), (by intro b hb; rcases (mem_take_succ (by omega)).1 hb with h | h; exact ha b h; rw [h]; exact h2), rfl, rfl⟩
      omega
  · try simp only [decide_eq_true_eq, decide_eq_false_iff_not, beq_iff_eq, bne_iff_ne, bne_eq_false_iff_eq, beq_eq_false_iff_ne, Bool.not_eq_true, Bool.not_eq_false, Bool.not_eq_true', Bool.not_eq_false', ne_eq] at h1
    refine awp_exit ?_
    refine awp_seq ?_
    refine awp_rw rfl ?_
    refine RW.op rfl rfl (eff_assign (v := .t _) rfl rfl rfl) ?_
    refine RW.nil ?_
    refine awp_ret ?_
    have hi2 : i = l.length := by omega
    subst hi2
    rw [List.take_length] at ha
    rw [fIx_none ha]
    exact ⟨Or.inr rfl, [_], ⟨.tmp (.t _), trivial⟩, .refl _⟩

theorem anyR_ret (l : List Rep) (fn : Nat) (caps : List Tr) (p : Rep → Bool) (hl : l.length ≤ 100000) (hco : callOK Try.prog fn = true) (hp : ∀ x, x ∈ l → Ret Try.prog fn (encR x :: caps) (.bool (p x))) : Ret Try.prog 63 [.sl (l.map encR) false, .fn fn caps] (.bool (l.any p)) := by
  refine ret_of_awp Try.func63 rfl (Nat.le_of_ble_eq_true rfl) ?_
  refine awp_seq ?_
  refine awp_rw rfl ?_
  refine RW.op rfl rfl (eff_assign (v := .t _) rfl rfl rfl) ?_
  refine RW.nil ?_
  refine awp_seq ?_
  refine awp_rw rfl ?_
  refine RW.op rfl rfl (eff_move (v := .t _) rfl rfl rfl) ?_
  refine RW.op rfl rfl (eff_move (v := .t _) rfl rfl rfl) ?_
  refine RW.op rfl rfl (eff_callT (ixfR_ret l fn caps p hl hco hp) co87 rfl rfl rfl rfl) ?_
  refine RW.op rfl rfl (eff_iop rfl rfl rfl rfl rfl) ?_
  refine RW.op rfl rfl (eff_assign (v := .t _) rfl rfl rfl) ?_
  refine RW.nil ?_
  refine awp_ret ?_
  rw [← any_fIx]
  exact ⟨Or.inr rfl, [_], ⟨.tmp (.t _), trivial⟩, .refl _⟩

theorem needed_ret (l : List Rep) (ss : List Tr) (fl : Bool) (q : Nat) (hl : l.length ≤ 100000) (hR : ∀ r, r ∈ l → RepOK r) (hq : q ≤ 1000) : Ret Try.prog 34 [.agg [.sl ss fl, .sl (l.map encR) false], encI (q : Nat)] (.sl ((neededN l q).map encN) false) := by
  refine ret_of_awp Try.func34 rfl (Nat.le_of_ble_eq_true rfl) ?_
  refine awp_seq ?_
  refine awp_rw rfl ?_
  refine RW.new rfl rfl (eff_boxK (v := .t _) (k := 2) (id := 2) rfl rfl rfl rfl rfl rfl) ?_
  refine RW.op rfl rfl (eff_assign (v := .t _) rfl rfl rfl) ?_
  refine RW.nil ?_
  refine awp_seq ?_
  refine awp_rw rfl ?_
  refine RW.op rfl rfl (eff_assign (v := .t _) rfl rfl rfl) ?_
  refine RW.nil ?_
  show AWP _ _ _ _
  refine awp_weak (weak_adopt (d := 5) (id := 5) (k := 1) (ty := 3) rfl rfl) ?_
  refine awp_seq ?_
  refine awp_seq ?_
  refine awp_rw rfl ?_
  refine RW.op rfl rfl (eff_move (v := .t _) rfl rfl rfl) ?_
  refine RW.op rfl rfl (eff_maxE (r := (q : Int)) rfl rfl rfl rfl (by unfold imax; split <;> omega)) ?_
  refine RW.op rfl rfl (eff_move (v := .t _) rfl rfl rfl) ?_
  refine RW.nil ?_
  refine awp_block ?_
  refine awp_loopW (fun m s => ∃ (i : Nat) (gn : Nat) (n : Nat) (els : List AV), (i ≤ q) ∧ (n = (neededN l i).length) ∧ (els = ((neededN l i).map encN).map .t) ∧ m = q - i ∧ s = ⟨22, [(2, .ptr 2 0 0 0), (5, .own 5 gn 0 n), (8, .t (encI (q : Nat))), (9, .t (encI (i : Nat)))], [(2, some ⟨2, 54, 0, [.t (.agg [.sl ss fl, .sl (l.map encR) false])]⟩), (5, some ⟨1, 3, gn, els⟩)]⟩) (_) (⟨_, weak_keep (n := 22) (fr' := [(2, .ptr 2 0 0 0), (5, .own 5 0 0 0), (8, .t (encI (q : Nat))), (9, .t (encI (0 : Nat)))]) (st' := [(2, some ⟨2, 54, 0, [.t (.agg [.sl ss fl, .sl (l.map encR) false])]⟩), (5, some ⟨1, 3, 0, ([])⟩)]) ⟨rfl, rfl, rfl, rfl, rfl, rfl, rfl, rfl, trivial⟩ ⟨rfl, okE_one rfl, rfl, (by first | exact okE_nil | (rw [he]; exact okE_t) | (rw [he]; intro x hx; simp only [List.mem_append, List.mem_map, List.mem_singleton] at hx; rcases hx with ⟨y, _, rfl⟩ | rfl <;> rfl)), trivial⟩, 0, 0, 0, [], (by omega), (by rfl), (by rfl), rfl, rfl⟩) ?_
  rintro m s ⟨i, gn, n, els, hi, hnn, he, rfl, rfl⟩
  have hnl := needed_len l i
  refine awp_seq ?_
  refine awp_rw rfl ?_
  refine RW.op rfl rfl (eff_iop rfl rfl rfl rfl rfl) ?_
  refine RW.nil ?_
  refine awp_seq ?_
  refine awp_cond rfl (fun h1 => ?_) (fun h1 => ?_)
  · try simp only [decide_eq_true_eq, decide_eq_false_iff_not, beq_iff_eq, bne_iff_ne, bne_eq_false_iff_eq, beq_eq_false_iff_ne, Bool.not_eq_true, Bool.not_eq_false, Bool.not_eq_true', Bool.not_eq_false', ne_eq] at h1
    refine awp_skip ?_
    refine awp_seq ?_
    refine awp_block ?_
    refine awp_seq ?_
    refine awp_rw rfl ?_
    refine RW.op rfl rfl (eff_move (v := .t _) rfl rfl rfl) ?_
    refine RW.new rfl rfl (eff_allocK (k := 1) (id := 6) rfl rfl tz3 rfl rfl) ?_
    refine RW.store rfl rfl (eff_storeW (v := .t _) (els := [_]) (els' := [_]) rfl rfl ti3 rfl rfl rfl rfl rfl rfl rfl rfl rfl) ?_
    refine RW.nil ?_
    show AWP _ _ _ _
    refine awp_weak (weak_frz (n := 22) (fr' := [(2, .ptr 2 0 0 0), (5, .own 5 gn 0 n), (8, .t (encI (q : Nat))), (9, .t (encI (i : Nat))), (6, .t (.ptr [encI (i : Nat)]))]) (st' := [(2, some ⟨2, 54, 0, [.t (.agg [.sl ss fl, .sl (l.map encR) false])]⟩), (5, some ⟨1, 3, gn, els⟩)]) [(6, some ⟨1, 3, 0, [.t (encI (i : Nat))]⟩)] ⟨rfl, trivial⟩ ⟨rfl, rfl, trivial⟩ ⟨wa_eq rfl rfl, wa_eq rfl rfl, wa_eq rfl rfl, wa_eq rfl rfl, .res (Res.ptrT (x := encI (i : Nat)) rfl rfl rfl) (.refl _), trivial⟩ ⟨rfl, okE_one rfl, rfl, (by first | exact okE_nil | (rw [he]; exact okE_t) | (rw [he]; intro x hx; simp only [List.mem_append, List.mem_map, List.mem_singleton] at hx; rcases hx with ⟨y, _, rfl⟩ | rfl <;> rfl)), trivial⟩) ?_
    refine awp_seq ?_
    refine awp_rw rfl ?_
    refine RW.op rfl rfl (eff_fieldAddr rfl rfl tf54_1 (by decide) rfl rfl rfl (Nat.le_of_ble_eq_true rfl)) ?_
    refine RW.op rfl rfl (eff_load (y := .t _) rfl rfl ti49 rfl (.one rfl rfl rfl rfl)) ?_
    refine RW.op rfl rfl (eff_makeFunc rfl rfl rfl rfl) ?_
    refine RW.op rfl rfl (eff_callT (anyR_ret l 64 [.ptr [encI (i : Nat)]] (fun r => !hasB r (i : Nat)) hl co64 (fun r hr => lack64_ret r (i : Nat) (hR r hr) (by omega))) co63 rfl rfl rfl rfl) ?_
    refine RW.nil ?_
    have hla : lackN l i = (l.any fun r => !hasB r (i : Nat)) := rfl
    refine awp_cond rfl (fun h2 => ?_) (fun h2 => ?_)
    · try simp only [decide_eq_true_eq, decide_eq_false_iff_not, beq_iff_eq, bne_iff_ne, bne_eq_false_iff_eq, beq_eq_false_iff_ne, Bool.not_eq_true, Bool.not_eq_false, Bool.not_eq_true', Bool.not_eq_false', ne_eq] at h2
      refine awp_rw rfl ?_
      refine RW.op rfl rfl (eff_move (v := .own _ _ _ _) rfl rfl rfl) ?_
      refine RW.op rfl rfl (eff_loadT1 rfl rfl ti3 rfl rfl) ?_
      refine RW.new rfl rfl (eff_buildSlice1 (id := 18) (els := [_]) rfl rfl te22 tz3 rfl (by decide) rfl rfl rfl rfl) ?_
      refine RW.new rfl rfl (eff_append (id := 5) (ys := [_]) rfl rfl ta22 rfl rfl rfl (by rw [he, hnn]; simp) rfl rfl (srcOwn rfl rfl rfl rfl rfl rfl) (by simp) (by simp; omega) (by simp; omega)) ?_
      refine RW.op rfl rfl (eff_assign (v := .own _ _ _ _) rfl rfl rfl) ?_
      refine RW.nil ?_
      refine awp_rw rfl ?_
      refine RW.op rfl rfl (eff_iop rfl rfl rfl rfl (iadd (by omega))) ?_
      refine RW.op rfl rfl (eff_move (v := .t _) rfl rfl rfl) ?_
      refine RW.nil ?_
      refine ⟨_, ?_, _, weak_keep (n := 22) (fr' := [(2, .ptr 2 0 0 0), (5, .own 5 _ 0 _), (8, .t (encI (q : Nat))), (9, .t (encI ((i + 1) : Nat)))]) (st' := [(2, some ⟨2, 54, 0, [.t (.agg [.sl ss fl, .sl (l.map encR) false])]⟩), (5, some ⟨1, 3, _, _⟩)]) ⟨rfl, rfl, rfl, rfl, rfl, rfl, rfl, rfl, trivial⟩ ⟨rfl, okE_one rfl, rfl, (by first | exact okE_nil | (rw [he]; exact okE_t) | (rw [he]; intro x hx; simp only [List.mem_append, List.mem_map, List.mem_singleton] at hx; rcases hx with ⟨y, _, rfl⟩ | rfl <;> rfl)), trivial⟩, i + 1, _, _, _, (by omega), (by first | (rw [needed_yes (by first | assumption | exact hla.trans (by assumption)), hnn]; simp <;> rfl) | (rw [needed_no (by first | assumption | exact hla.trans (by assumption))]; exact hnn)), (by first | (rw [needed_yes (by first | assumption | exact hla.trans (by assumption)), he]; simp <;> rfl) | (rw [needed_no (by first | assumption | exact hla.trans (by assumption))]; exact he)), rfl, rfl⟩
      omega
    · try simp only [decide_eq_true_eq, decide_eq_false_iff_not, beq_iff_eq, bne_iff_ne, bne_eq_false_iff_eq, beq_eq_false_iff_ne, Bool.not_eq_true, Bool.not_eq_false, Bool.not_eq_true', Bool.not_eq_false', ne_eq] at h2
      refine awp_skip ?_
      refine awp_rw rfl ?_
      refine RW.op rfl rfl (eff_iop rfl rfl rfl rfl (iadd (by omega))) ?_
      refine RW.op rfl rfl (eff_move (v := .t _) rfl rfl rfl) ?_
      refine RW.nil ?_
      refine ⟨_, ?_, _, weak_keep (n := 22) (fr' := [(2, .ptr 2 0 0 0), (5, .own 5 _ 0 _), (8, .t (encI (q : Nat))), (9, .t (encI ((i + 1) : Nat)))]) (st' := [(2, some ⟨2, 54, 0, [.t (.agg [.sl ss fl, .sl (l.map encR) false])]⟩), (5, some ⟨1, 3, _, _⟩)]) ⟨rfl, rfl, rfl, rfl, rfl, rfl, rfl, rfl, trivial⟩ ⟨rfl, okE_one rfl, rfl, (by first | exact okE_nil | (rw [he]; exact okE_t) | (rw [he]; intro x hx; simp only [List.mem_append, List.mem_map, List.mem_singleton] at hx; rcases hx with ⟨y, _, rfl⟩ | rfl <;> rfl)), trivial⟩, i + 1, _, _, _, (by omega), (by first | (rw [needed_yes (by first | assumption | exact hla.trans (by assumption)), hnn]; simp <;> rfl) | (rw [needed_no (by first | assumption | exact hla.trans (by assumption))]; exact hnn)), (by first | (rw [needed_yes (by first | assumption | exact hla.trans (by assumption)), he]; simp <;> rfl) | (rw [needed_no (by first | assumption | exact hla.trans (by assumption))]; exact he)), rfl, rfl⟩
      omega
  · try simp only [decide_eq_true_eq, decide_eq_false_iff_not, beq_iff_eq, bne_iff_ne, bne_eq_false_iff_eq, beq_eq_false_iff_ne, Bool.not_eq_true, Bool.not_eq_false, Bool.not_eq_true', Bool.not_eq_false', ne_eq] at h1
    refine awp_exit ?_
    refine awp_seq ?_
    refine awp_rw rfl ?_
    refine RW.op rfl rfl (eff_move (v := .own _ _ _ _) rfl rfl rfl) ?_
    refine RW.op rfl rfl (eff_assign (v := .own _ _ _ _) rfl rfl rfl) ?_
    refine RW.nil ?_
    refine awp_ret ?_
    obtain rfl : i = q := by omega
    exact ⟨Or.inr rfl, [_], ⟨.tmp (Res.ownT (xs := (neededN l i).map encN) rfl rfl he (by rw [hnn]; simp)), trivial⟩, .refl _⟩

theorem cmp67_ret (x y : Rep) : Ret Try.prog 67 [encR x, encR y] (encI (cmpI x.next y.next)) := by
  refine ret_of_awp Try.func67 rfl (Nat.le_of_ble_eq_true rfl) ?_
  refine awp_seq ?_
  refine awp_rw rfl ?_
  refine RW.new rfl rfl (eff_boxK (v := .t _) (k := 4) (id := 2) rfl rfl rfl rfl rfl rfl) ?_
  refine RW.new rfl rfl (eff_boxK (v := .t _) (k := 4) (id := 3) rfl rfl rfl rfl rfl rfl) ?_
  refine RW.op rfl rfl (eff_assign (v := .t _) rfl rfl rfl) ?_
  refine RW.nil ?_
  refine awp_seq ?_
  refine awp_rw rfl ?_
  refine RW.op rfl rfl (eff_fieldAddr rfl rfl tf58_0 (by decide) rfl rfl rfl (Nat.le_of_ble_eq_true rfl)) ?_
  refine RW.op rfl rfl (eff_load (y := .t _) rfl rfl ti3 rfl (.one rfl rfl rfl rfl)) ?_
  refine RW.op rfl rfl (eff_fieldAddr rfl rfl tf58_0 (by decide) rfl rfl rfl (Nat.le_of_ble_eq_true rfl)) ?_
  refine RW.op rfl rfl (eff_load (y := .t _) rfl rfl ti3 rfl (.one rfl rfl rfl rfl)) ?_
  refine RW.op rfl rfl (eff_callT (cmp_ret x.next y.next) co68 rfl rfl rfl rfl) ?_
  refine RW.op rfl rfl (eff_assign (v := .t _) rfl rfl rfl) ?_
  refine RW.nil ?_
  refine awp_ret ?_
  exact ⟨Or.inr rfl, [_], ⟨.tmp (.t _), trivial⟩, .refl _⟩

theorem min_ret (l : List Rep) (h0 : 0 < l.length) (hl : l.length ≤ 100000) : Ret Try.prog 66 [.sl (l.map encR) false, .fn 67 []] (encR (leastR l (l[0]'h0))) := by
  refine ret_of_awp Try.func66 rfl (Nat.le_of_ble_eq_true rfl) ?_
  refine awp_seq ?_
  refine awp_rw rfl ?_
  refine RW.new rfl rfl (eff_allocK (k := 4) (id := 4) rfl rfl tz58 rfl rfl) ?_
  refine RW.nil ?_
  refine awp_seq ?_
  refine awp_seq ?_
  refine awp_rw rfl ?_
  refine RW.op rfl rfl (eff_move (v := .t _) rfl rfl rfl) ?_
  refine RW.op rfl rfl (eff_lenM rfl rfl te49 rfl) ?_
  refine RW.op rfl rfl (eff_iop (r := .bool false) rfl rfl rfl rfl (by exact iop_lss_f (by omega))) ?_
  refine RW.nil ?_
  refine awp_cond rfl (fun h => nomatch h) (fun _ => ?_)
  refine awp_skip ?_
  refine awp_seq ?_
  refine awp_rw rfl ?_
  refine RW.op rfl rfl (eff_move (v := .t _) rfl rfl rfl) ?_
  refine RW.op rfl rfl (eff_indexAddrT (i := 0) rfl rfl te49 rfl rfl (by first | rfl | omega) (by rw [List.getElem?_map, List.getElem?_eq_getElem h0]; rfl) rfl (by decide)) ?_
  refine RW.op rfl rfl (eff_loadW rfl rfl ti58 rfl rfl rfl) ?_
  refine RW.new rfl rfl (eff_allocK (k := 4) (id := 5) rfl rfl tz58 rfl rfl) ?_
  refine RW.store rfl rfl (eff_storeW (v := .t _) (els := [_]) (els' := [_]) rfl rfl ti58 rfl rfl rfl rfl rfl rfl rfl rfl rfl) ?_
  refine RW.nil ?_
  refine awp_seq ?_
  refine awp_seq ?_
  refine awp_rw rfl ?_
  refine RW.op rfl rfl (eff_assign (v := .t _) rfl rfl rfl) ?_
  refine RW.nil ?_
  refine awp_block ?_
  refine awp_loopW (fun m s => ∃ (i : Nat), (i ≤ l.length) ∧ (1 ≤ i) ∧ m = l.length - i ∧ s = ⟨33, [(0, .t (.sl (l.map encR) false)), (1, .t (.fn 67 [])), (4, .ptr 4 0 0 0), (5, .ptr 5 0 0 0), (6, .t (encI (i : Nat)))], [(4, some ⟨4, 58, 0, [.t z58]⟩), (5, some ⟨4, 58, 0, [.t (encR (leastR (l.take i) (l[0]'h0)))]⟩)]⟩) (_) (⟨_, weak_keep (n := 33) (fr' := [(0, .t (.sl (l.map encR) false)), (1, .t (.fn 67 [])), (4, .ptr 4 0 0 0), (5, .ptr 5 0 0 0), (6, .t (encI (1 : Nat)))]) (st' := [(4, some ⟨4, 58, 0, [.t z58]⟩), (5, some ⟨4, 58, 0, [.t (encR (leastR (l.take 1) (l[0]'h0)))]⟩)]) ⟨rfl, rfl, rfl, rfl, rfl, rfl, rfl, rfl, rfl, rfl, trivial⟩ ⟨rfl, okE_one rfl, by first | rfl | (rw [show leastR (l.take 1) (l[0]'h0) = l[0]'h0 from by rw [show (1 : Nat) = 0 + 1 from rfl, least_step h0]; exact minR_self _]; rfl) | (rw [show leastR (l.take (i + 1)) (l[0]'h0) = (l[i]'hil) from by rw [least_step hil]; exact if_pos (cmpI_neg.1 (by assumption))]; rfl) | (rw [show leastR (l.take (i + 1)) (l[0]'h0) = (leastR (l.take i) (l[0]'h0)) from by rw [least_step hil]; exact if_neg (fun hh => (by assumption : ¬ _) (cmpI_neg.2 hh))]; rfl), okE_one rfl, trivial⟩, 1, (by omega), (by omega), rfl, rfl⟩) ?_
  rintro m s ⟨i, hi, hi1, rfl, rfl⟩
  refine awp_seq ?_
  refine awp_seq ?_
  refine awp_rw rfl ?_
  refine RW.op rfl rfl (eff_move (v := .t _) rfl rfl rfl) ?_
  refine RW.op rfl rfl (eff_move (v := .t _) rfl rfl rfl) ?_
  refine RW.op rfl rfl (eff_lenM rfl rfl te49 rfl) ?_
  refine RW.op rfl rfl (eff_iop rfl rfl rfl rfl rfl) ?_
  refine RW.nil ?_
  refine awp_cond rfl (fun h1 => ?_) (fun h1 => ?_)
  · try simp only [decide_eq_true_eq, decide_eq_false_iff_not, beq_iff_eq, bne_iff_ne, bne_eq_false_iff_eq, beq_eq_false_iff_ne, Bool.not_eq_true, Bool.not_eq_false, Bool.not_eq_true', Bool.not_eq_false', ne_eq] at h1
    refine awp_skip ?_
    refine awp_seq ?_
    refine awp_block ?_
    refine awp_seq ?_
    have hil : i < l.length := by omega
    refine awp_rd [(some 20, []), (some 21, []), (some 22, []), (some 23, []), (some 24, []), (some 25, []), (some 26, []), (some 27, [])] [[], [], [], [1, 2], [1, 2, 3], [], [0, 1, 2, 3, 4, 5], [0, 1, 2, 3, 4, 5, 6]] tm rfl rfl rfl rfl ?_
    refine RD.op rfl rfl rfl (eff_move (v := .t _) rfl rfl rfl) ?_
    refine RD.op rfl rfl rfl (eff_move (v := .t _) rfl rfl rfl) ?_
    refine RD.op rfl rfl rfl (eff_move (v := .t _) rfl rfl rfl) ?_
    refine RD.op rfl rfl rfl (eff_indexAddrT (i := i) rfl rfl te49 rfl rfl (by first | rfl | omega) (by rw [List.getElem?_map, List.getElem?_eq_getElem hil]; rfl) rfl (by decide)) ?_
    refine RD.op rfl rfl rfl (eff_loadW rfl rfl ti58 rfl rfl rfl) ?_
    refine RD.op rfl rfl rfl (eff_load rfl rfl ti58 rfl (.whole rfl rfl rfl rfl rfl rfl)) ?_
    refine RD.op rfl rfl rfl (eff_callT (cmp67_ret (l[i]'hil) (leastR (l.take i) (l[0]'h0))) co67 rfl rfl rfl rfl) ?_
    refine RD.op rfl rfl rfl (eff_iop rfl rfl rfl rfl rfl) ?_
    refine RD.nil ?_
    refine awp_cond rfl (fun h2 => ?_) (fun h2 => ?_)
    · try simp only [decide_eq_true_eq, decide_eq_false_iff_not, beq_iff_eq, bne_iff_ne, bne_eq_false_iff_eq, beq_eq_false_iff_ne, Bool.not_eq_true, Bool.not_eq_false, Bool.not_eq_true', Bool.not_eq_false', ne_eq] at h2
      refine awp_rw rfl ?_
      refine RW.op rfl rfl (eff_move (v := .t _) rfl rfl rfl) ?_
      refine RW.op rfl rfl (eff_move (v := .t _) rfl rfl rfl) ?_
      refine RW.op rfl rfl (eff_indexAddrT (i := i) rfl rfl te49 rfl rfl (by first | rfl | omega) (by rw [List.getElem?_map, List.getElem?_eq_getElem hil]; rfl) rfl (by decide)) ?_
      refine RW.op rfl rfl (eff_loadW rfl rfl ti58 rfl rfl rfl) ?_
      refine RW.store rfl rfl (eff_storeW (v := .t _) (els := [_]) (els' := [_]) rfl rfl ti58 rfl rfl rfl rfl rfl rfl rfl rfl rfl) ?_
      refine RW.nil ?_
      refine awp_rw rfl ?_
      refine RW.op rfl rfl (eff_move (v := .t _) rfl rfl rfl) ?_
      refine RW.op rfl rfl (eff_iop rfl rfl rfl rfl (iadd (by omega))) ?_
      refine RW.op rfl rfl (eff_assign (v := .t _) rfl rfl rfl) ?_
      refine RW.nil ?_
      refine ⟨_, ?_, _, weak_keep (n := 33) (fr' := [(0, .t (.sl (l.map encR) false)), (1, .t (.fn 67 [])), (4, .ptr 4 0 0 0), (5, .ptr 5 0 0 0), (6, .t (encI ((i + 1) : Nat)))]) (st' := [(4, some ⟨4, 58, 0, [.t z58]⟩), (5, some ⟨4, 58, 0, [.t (encR (leastR (l.take (i + 1)) (l[0]'h0)))]⟩)]) ⟨rfl, rfl, rfl, rfl, rfl, rfl, rfl, rfl, rfl, rfl, trivial⟩ ⟨rfl, okE_one rfl, by first | rfl | (rw [show leastR (l.take 1) (l[0]'h0) = l[0]'h0 from by rw [show (1 : Nat) = 0 + 1 from rfl, least_step h0]; exact minR_self _]; rfl) | (rw [show leastR (l.take (i + 1)) (l[0]'h0) = (l[i]'hil) from by rw [least_step hil]; exact if_pos (cmpI_neg.1 (by assumption))]; rfl) | (rw [show leastR (l.take (i + 1)) (l[0]'h0) = (leastR (l.take i) (l[0]'h0)) from by rw [least_step hil]; exact if_neg (fun hh => (by assumption : ¬ _) (cmpI_neg.2 hh))]; rfl), okE_one rfl, trivial⟩, i + 1, (by omega), (by omega), rfl, rfl⟩
      omega
    · try simp only [decide_eq_true_eq, decide_eq_false_iff_not, beq_iff_eq, bne_iff_ne, bne_eq_false_iff_eq, beq_eq_false_iff_ne, Bool.not_eq_true, Bool.not_eq_false, Bool.not_eq_true', Bool.not_eq_false', ne_eq] at h2
      refine awp_skip ?_
      refine awp_rw rfl ?_
      refine RW.op rfl rfl (eff_move (v := .t _) rfl rfl rfl) ?_
      refine RW.op rfl rfl (eff_iop rfl rfl rfl rfl (iadd (by omega))) ?_
      refine RW.op rfl rfl (eff_assign (v := .t _) rfl rfl rfl) ?_
      refine RW.nil ?_
      refine ⟨_, ?_, _, weak_keep (n := 33) (fr' := [(0, .t (.sl (l.map encR) false)), (1, .t (.fn 67 [])), (4, .ptr 4 0 0 0), (5, .ptr 5 0 0 0), (6, .t (encI ((i + 1) : Nat)))]) (st' := [(4, some ⟨4, 58, 0, [.t z58]⟩), (5, some ⟨4, 58, 0, [.t (encR (leastR (l.take (i + 1)) (l[0]'h0)))]⟩)]) ⟨rfl, rfl, rfl, rfl, rfl, rfl, rfl, rfl, rfl, rfl, trivial⟩ ⟨rfl, okE_one rfl, by first | rfl | (rw [show leastR (l.take 1) (l[0]'h0) = l[0]'h0 from by rw [show (1 : Nat) = 0 + 1 from rfl, least_step h0]; exact minR_self _]; rfl) | (rw [show leastR (l.take (i + 1)) (l[0]'h0) = (l[i]'hil) from by rw [least_step hil]; exact if_pos (cmpI_neg.1 (by assumption))]; rfl) | (rw [show leastR (l.take (i + 1)) (l[0]'h0) = (leastR (l.take i) (l[0]'h0)) from by rw [least_step hil]; exact if_neg (fun hh => (by assumption : ¬ _) (cmpI_neg.2 hh))]; rfl), okE_one rfl, trivial⟩, i + 1, (by omega), (by omega), rfl, rfl⟩
      omega
  · try simp only [decide_eq_true_eq, decide_eq_false_iff_not, beq_iff_eq, bne_iff_ne, bne_eq_false_iff_eq, beq_eq_false_iff_ne, Bool.not_eq_true, Bool.not_eq_false, Bool.not_eq_true', Bool.not_eq_false', ne_eq] at h1
    refine awp_exit ?_
    refine awp_seq ?_
    obtain rfl : i = l.length := by omega
    rw [List.take_length]
    refine awp_rw rfl ?_
    refine RW.op rfl rfl (eff_load rfl rfl ti58 rfl (.whole rfl rfl rfl rfl rfl rfl)) ?_
    refine RW.store rfl rfl (eff_storeW (v := .t _) (els := [_]) (els' := [_]) rfl rfl ti58 rfl rfl rfl rfl rfl rfl rfl rfl rfl) ?_
    refine RW.nil ?_
    refine awp_ret ?_
    exact ⟨Or.inr rfl, [_], ⟨.cell rfl ti58 (.whole rfl rfl rfl rfl rfl rfl) (.t _), trivial⟩, .refl _⟩

theorem settled_ret (l : List Rep) (ss : List Tr) (fl : Bool) (hl : l.length ≤ 100000) : Ret Try.prog 37 [.agg [.sl ss fl, .sl (l.map encR) false]] (encI (settledF l)) := by
  refine ret_of_awp Try.func37 rfl (Nat.le_of_ble_eq_true rfl) ?_
  refine awp_seq ?_
  refine awp_rw rfl ?_
  refine RW.new rfl rfl (eff_boxK (v := .t _) (k := 2) (id := 1) rfl rfl rfl rfl rfl rfl) ?_
  refine RW.op rfl rfl (eff_assign (v := .t _) rfl rfl rfl) ?_
  refine RW.nil ?_
  refine awp_seq ?_
  refine awp_seq ?_
  by_cases hc1 : l.length = 0
  · refine awp_rw rfl ?_
    refine RW.op rfl rfl (eff_fieldAddr rfl rfl tf54_1 (by decide) rfl rfl rfl (Nat.le_of_ble_eq_true rfl)) ?_
    refine RW.op rfl rfl (eff_load (y := .t _) rfl rfl ti49 rfl (.one rfl rfl rfl rfl)) ?_
    refine RW.op rfl rfl (eff_lenM rfl rfl te49 rfl) ?_
    refine RW.op rfl rfl (eff_iop (r := .bool true) rfl rfl rfl rfl (by exact congrArg (fun x => some (Tr.bool x)) (beq_iff_eq.2 (by rw [hc1]; rfl)))) ?_
    refine RW.nil ?_
    refine awp_cond rfl (fun _ => ?_) (fun h => nomatch h)
    refine awp_seq ?_
    refine awp_rw rfl ?_
    refine RW.op rfl rfl (eff_assign (v := .t _) rfl rfl rfl) ?_
    refine RW.nil ?_
    refine awp_ret ?_
    rw [List.length_eq_zero_iff.1 hc1]
    exact ⟨Or.inr rfl, [_], ⟨.tmp (.t _), trivial⟩, .refl _⟩
  · refine awp_rw rfl ?_
    refine RW.op rfl rfl (eff_fieldAddr rfl rfl tf54_1 (by decide) rfl rfl rfl (Nat.le_of_ble_eq_true rfl)) ?_
    refine RW.op rfl rfl (eff_load (y := .t _) rfl rfl ti49 rfl (.one rfl rfl rfl rfl)) ?_
    refine RW.op rfl rfl (eff_lenM rfl rfl te49 rfl) ?_
    refine RW.op rfl rfl (eff_iop (r := .bool false) rfl rfl rfl rfl (by exact congrArg (fun x => some (Tr.bool x)) (beq_eq_false_iff_ne.2 (by omega)))) ?_
    refine RW.nil ?_
    refine awp_cond rfl (fun h => nomatch h) (fun _ => ?_)
    refine awp_skip ?_
    refine awp_seq ?_
    refine awp_rw rfl ?_
    refine RW.op rfl rfl (eff_fieldAddr rfl rfl tf54_1 (by decide) rfl rfl rfl (Nat.le_of_ble_eq_true rfl)) ?_
    refine RW.op rfl rfl (eff_load (y := .t _) rfl rfl ti49 rfl (.one rfl rfl rfl rfl)) ?_
    refine RW.op rfl rfl (eff_callT (min_ret l (by omega) hl) co66 rfl rfl rfl rfl) ?_
    refine RW.op rfl rfl (eff_field rfl rfl tf58_0 rfl rfl) ?_
    refine RW.op rfl rfl (eff_assign (v := .t _) rfl rfl rfl) ?_
    refine RW.nil ?_
    refine awp_ret ?_
    rw [settled_is (by omega)]
    exact ⟨Or.inr rfl, [_], ⟨.tmp (.t _), trivial⟩, .refl _⟩

end Go.Tv.C35

end
section
open Go Go.Tv Go.Proofs
namespace Go.Tv.C35
set_option linter.unusedVariables false

def tailsC (B : List Bid) (s : Int) : Nat → List Nat → Nat → List (List Nat)
  | 0, _, _ => []
  | n + 1, head, i => if i < B.length then (if compI B s (head ++ [i]) then (head ++ [i]) :: tailsC B s n (head ++ [i]) (i + 1) else []) ++ tailsC B s n head (i + 1) else []
theorem tailsC_eq {B : List Bid} {s : Int} : ∀ (n : Nat) (head : List Nat) (i : Nat), B.length - i ≤ n → tailsC B s n head i = tailsF B s head i
  | 0, head, i, h => by rw [tailsF, dif_neg (by omega)]; rfl
  | n + 1, head, i, h => by
    unfold tailsC
    by_cases hi : i < B.length
    · rw [if_pos hi, tailsF, dif_pos hi, tailsC_eq n _ _ (by omega), tailsC_eq n _ _ (by omega)]
    · rw [if_neg hi, tailsF, dif_neg hi]
def bestC (B : List Bid) (s : Int) : List Nat := pick B [] ([] :: tailsC B s B.length [] 0)
theorem best_C {B : List Bid} {s : Int} (ho : ∀ b, b ∈ B → Ok b) : bestF B s = bestC B s := by
  rw [← pick_best ho]
  unfold bestC
  rw [tailsC_eq _ _ _ (by omega)]; rfl
theorem opt_C {B : List Bid} {s : Int} (ho : ∀ b, b ∈ B → Ok b) : optOf (atS B s) = vI B (bestC B s) := by
  rw [← best_val ho, best_C ho]
def outC (B : List Bid) : Nat → List Nat
  | 0 => []
  | s + 1 => outC B s ++ bestC (blockF B (outC B s) s) s
theorem out_C {B : List Bid} (ho : ∀ b, b ∈ B → Ok b) : ∀ s : Nat, outF B s = outC B s
  | 0 => rfl
  | s + 1 => by
    show outF B s ++ bestF (blockF B (outF B s) s) s = outC B s ++ bestC (blockF B (outC B s) s) s
    rw [out_C ho s, best_C (block_ok ho)]
def threeF (v : Int) : List Bid := [⟨0, 0, 0, 10, 5⟩, ⟨1, 0, 5, 15, v⟩, ⟨2, 0, 10, 20, 4⟩]
theorem three_ok {v : Int} (h : 1 ≤ v) : ∀ b, b ∈ threeF v → Ok b := by
  intro b hb
  simp only [threeF, List.mem_cons, List.not_mem_nil, or_false] at hb
  rcases hb with rfl | rfl | rfl
  · exact ⟨by decide, by decide⟩
  · exact ⟨(by show (5 : Int) < 15; decide), h⟩
  · exact ⟨by decide, by decide⟩
theorem three_okl {v : Int} (h : 1 ≤ v ∧ v ≤ 1000000) : OkL (threeF v) := ⟨three_ok h.1, by simp [threeF], fun b hb => by
  simp only [threeF, List.mem_cons, List.not_mem_nil, or_false] at hb
  rcases hb with rfl | rfl | rfl
  · exact ⟨by decide, by decide, by decide⟩
  · exact ⟨h.2, (by show (0 : Int) ≤ 5; decide), (by show (5 : Int) ≤ 1000000; decide)⟩
  · exact ⟨by decide, by decide, by decide⟩⟩
theorem lb8 : bestF (threeF 8) 0 = [0, 2] := by rw [best_C (three_ok (by decide))]; decide +kernel
theorem lb9 : bestF (threeF 9) 0 = [0, 2] := by rw [best_C (three_ok (by decide))]; decide +kernel
theorem lb10 : bestF (threeF 10) 0 = [1] := by rw [best_C (three_ok (by decide))]; decide +kernel
theorem lb81 : bestF (threeF 8) 1 = [] := by rw [best_C (three_ok (by decide))]; decide +kernel
theorem lo8 (i : Nat) : ∀ b, b ∈ othersF (threeF 8) i → Ok b := fun b hb => three_ok (by decide) b (others_mem hb)
theorem lp0 : priceZ (threeF 8) 0 0 = 4 := by
  unfold priceZ priceF oF
  rw [lb8, opt_C (lo8 _), opt_C (three_ok (by decide))]
  decide +kernel
theorem lp2 : priceZ (threeF 8) 0 2 = 3 := by
  unfold priceZ priceF oF
  rw [lb8, opt_C (lo8 _), opt_C (three_ok (by decide))]
  decide +kernel
theorem lp1 : priceZ (threeF 8) 0 1 = 0 := by
  unfold priceZ
  rw [lb8]
  decide
theorem lv14 : valZ (threeF 8) [0, 2, 7, 0] = 14 := by decide +kernel
theorem la8 : sortI (toI (outF (threeF 8) 9)) = [0, 2] := by
  have h : outF (threeF 8) 9 = [0, 2] := by rw [out_C (three_ok (by decide))]; decide +kernel
  rw [h]
  exact (sortI_eq (l := toI [0, 2]) (X := [0, 2]) (by decide) (List.Perm.refl _)).symm
def winF : List Win := [⟨1, 0, 0, 0, 12, 1⟩, ⟨1, 1, 0, 5, 15, 1⟩, ⟨1, 2, 0, 10, 19, 1⟩]
def repF : List Rep := [⟨2, 2, 0, false⟩, ⟨3, 0, 0, false⟩]
theorem repF_ok : ∀ r, r ∈ repF → RepOK r := by
  intro r hr
  simp only [repF, List.mem_cons, List.not_mem_nil, or_false] at hr
  rcases hr with rfl | rfl <;> exact ⟨⟨by decide, by decide⟩, by decide, by decide⟩
theorem ln6 : neededN repF 6 = [2, 3, 4, 5] := by decide +kernel
theorem lset : settledF repF = 2 := by decide +kernel
theorem lpa : passesF winF 1 14 = [⟨1, 1, 0, 5, 15, 1⟩] := by decide +kernel
theorem lpb : passesF winF 1 15 = [] := by decide +kernel
theorem lc2 : errF (atB winF) ((threeF 8).take 2) = 0 := by decide +kernel
theorem lc3 : errF (atB winF) (threeF 8) = 32 := by decide +kernel
theorem lc0 : errF (atB winF) (threeF 0) = 5 := by decide +kernel
theorem lc65 : errF (atB winF) (List.replicate 65 zb) = 2 := by decide +kernel
theorem same_true {l q : List Int} (hl : l.length ≤ 1000000) (hq : q.length ≤ 1000000) (h : l = q) : Ret Try.prog 19 [.sl (l.map encI) false, .sl (q.map encI) false] (.bool true) := by
  have := sameInts_ret l q hl hq
  rwa [decide_eq_true h] at this
end Go.Tv.C35

end
section
open Go Go.Tv Go.Proofs
namespace Go.Tv.C35
set_option maxRecDepth 20000
set_option maxHeartbeats 2000000
set_option linter.unusedSimpArgs false
set_option linter.unusedVariables false
theorem around_ret (n m : Int) (hn : I64 n) (hm : 0 < m ∧ m ≤ 4294967296) : Ret Try.prog 48 [encI n, encI m] (encI (around n m)) := by
  unfold I64 at hn
  refine ret_of_awp Try.func48 rfl (Nat.le_of_ble_eq_true rfl) ?_
  refine awp_seq ?_
  refine awp_rw rfl ?_
  refine RW.op rfl rfl (eff_assign (v := .t _) rfl rfl rfl) ?_
  refine RW.nil ?_
  refine awp_seq ?_
  refine awp_seq ?_
  refine awp_rw rfl ?_
  refine RW.op rfl rfl (eff_move (v := .t _) rfl rfl rfl) ?_
  refine RW.op rfl rfl (eff_iop rfl rfl rfl rfl rfl) ?_
  refine RW.nil ?_
  refine awp_cond rfl (fun h1 => ?_) (fun h1 => ?_)
  · try simp only [decide_eq_true_eq, decide_eq_false_iff_not, beq_iff_eq, bne_iff_ne, bne_eq_false_iff_eq, beq_eq_false_iff_ne, Bool.not_eq_true, Bool.not_eq_false, Bool.not_eq_true', Bool.not_eq_false', ne_eq] at h1
    refine awp_rw rfl ?_
    refine RW.op rfl rfl (eff_move (v := .t _) rfl rfl rfl) ?_
    refine RW.op rfl rfl (eff_iop (r := encI (n + 1)) rfl rfl rfl rfl (iadd (by omega))) ?_
    refine RW.op rfl rfl (eff_unop (r := encI (-(n + 1))) rfl rfl rfl (uneg (by omega))) ?_
    refine RW.op rfl rfl (eff_assign (v := .t _) rfl rfl rfl) ?_
    refine RW.nil ?_
    refine awp_seq ?_
    refine awp_rw rfl ?_
    refine RW.op rfl rfl (eff_move (v := .t _) rfl rfl rfl) ?_
    refine RW.op rfl rfl (eff_move (v := .t _) rfl rfl rfl) ?_
    refine RW.op rfl rfl (eff_rem rfl rfl rfl rfl (by first | decide | omega)) ?_
    refine RW.op rfl rfl (eff_assign (v := .t _) rfl rfl rfl) ?_
    refine RW.nil ?_
    refine awp_ret ?_
    (rw [show around n m = Int.tmod (-(n + 1)) m from by unfold around; rw [if_pos (by omega), tmod_pos (by omega)]]; exact ⟨Or.inr rfl, [_], ⟨.tmp (.t _), trivial⟩, .refl _⟩)
  · try simp only [decide_eq_true_eq, decide_eq_false_iff_not, beq_iff_eq, bne_iff_ne, bne_eq_false_iff_eq, beq_eq_false_iff_ne, Bool.not_eq_true, Bool.not_eq_false, Bool.not_eq_true', Bool.not_eq_false', ne_eq] at h1
    refine awp_skip ?_
    refine awp_seq ?_
    refine awp_rw rfl ?_
    refine RW.op rfl rfl (eff_move (v := .t _) rfl rfl rfl) ?_
    refine RW.op rfl rfl (eff_move (v := .t _) rfl rfl rfl) ?_
    refine RW.op rfl rfl (eff_rem rfl rfl rfl rfl (by first | decide | omega)) ?_
    refine RW.op rfl rfl (eff_assign (v := .t _) rfl rfl rfl) ?_
    refine RW.nil ?_
    refine awp_ret ?_
    (rw [show around n m = Int.tmod n m from by unfold around; rw [if_neg (by omega), tmod_pos (by omega)]]; exact ⟨Or.inr rfl, [_], ⟨.tmp (.t _), trivial⟩, .refl _⟩)

theorem three_ret (v : Int) : Ret Try.prog 40 [encI v] (.sl ((threeF v).map encB) false) := by
  refine ret_of_awp Try.func40 rfl (Nat.le_of_ble_eq_true rfl) ?_
  refine awp_seq ?_
  refine awp_rw rfl ?_
  refine RW.op rfl rfl (eff_assign (v := .t _) rfl rfl rfl) ?_
  refine RW.nil ?_
  refine awp_seq ?_
  refine awp_rw rfl ?_
  refine RW.op rfl rfl (eff_buildT (ys := [_, _, _, _, _]) rfl rfl tz42 tg42 rfl) ?_
  refine RW.op rfl rfl (eff_move (v := .t _) rfl rfl rfl) ?_
  refine RW.op rfl rfl (eff_buildT (ys := [_, _, _, _, _]) rfl rfl tz42 tg42 rfl) ?_
  refine RW.op rfl rfl (eff_buildT (ys := [_, _, _, _, _]) rfl rfl tz42 tg42 rfl) ?_
  refine RW.new rfl rfl (eff_buildSliceL (id := 7) (els := [.t (.agg [_, _, _, _, _]), .t (.agg [_, _, _, _, _]), .t (.agg [_, _, _, _, _])]) rfl rfl te23 tz42 rfl (by decide) (by decide) rfl rfl rfl rfl) ?_
  refine RW.op rfl rfl (eff_assign (v := .own _ _ _ _) rfl rfl rfl) ?_
  refine RW.nil ?_
  refine awp_ret ?_
  exact ⟨Or.inr rfl, [_], ⟨.tmp (Res.ownT (xs := (threeF v).map encB) rfl rfl rfl rfl), trivial⟩, .refl _⟩

def IOKB (b : Bid) : Prop := I64 b.craft ∧ I64 b.station ∧ I64 b.frm ∧ I64 b.til ∧ I64 b.val
def madeB (b : Bid) : Bid := ⟨around b.craft 3, around b.station 3, around b.frm 60, around b.frm 60 + 1 + around b.til 20, 1 + around b.val 30⟩
def madeF (l : List Bid) (most : Nat) : List Bid := (l.take most).map madeB
theorem madeB_ok (b : Bid) : Ok (madeB b) ∧ (0 ≤ (madeB b).station ∧ (madeB b).station ≤ 2) ∧ (0 ≤ (madeB b).craft ∧ (madeB b).craft ≤ 2) ∧ ((madeB b).val ≤ 30 ∧ 0 ≤ (madeB b).frm ∧ (madeB b).frm ≤ 60) := by
  have h1 := around_range (n := b.craft) (m := 3) (by decide)
  have h2 := around_range (n := b.station) (m := 3) (by decide)
  have h3 := around_range (n := b.frm) (m := 60) (by decide)
  have h4 := around_range (n := b.til) (m := 20) (by decide)
  have h5 := around_range (n := b.val) (m := 30) (by decide)
  unfold Ok madeB
  refine ⟨⟨?_, ?_⟩, ⟨?_, ?_⟩, ⟨?_, ?_⟩, ?_, ?_, ?_⟩ <;> simp only [] <;> omega
theorem made_len (l : List Bid) (most : Nat) : (madeF l most).length ≤ most := by unfold madeF; rw [List.length_map, List.length_take]; omega
theorem made_mem {l : List Bid} {most : Nat} {b : Bid} (h : b ∈ madeF l most) : ∃ c, b = madeB c := by
  obtain ⟨c, _, rfl⟩ := List.mem_map.1 h; exact ⟨c, rfl⟩
theorem made_okl (l : List Bid) {most : Nat} (hm : most ≤ 1000) : OkL (madeF l most) := by
  refine ⟨fun b hb => ?_, Nat.le_trans (made_len l most) hm, fun b hb => ?_⟩
  · obtain ⟨c, rfl⟩ := made_mem hb; exact (madeB_ok c).1
  · obtain ⟨c, rfl⟩ := made_mem hb
    have := (madeB_ok c).2.2.2
    exact ⟨by omega, by omega, by omega⟩
theorem made_st (l : List Bid) (most : Nat) : ∀ b, b ∈ madeF l most → 0 ≤ b.station ∧ b.station ≤ 2 := fun b hb => by
  obtain ⟨c, rfl⟩ := made_mem hb; exact (madeB_ok c).2.1
theorem made_step {l : List Bid} {i : Nat} (h : i < l.length) : madeF l (i + 1) = madeF l i ++ [madeB l[i]] := by
  unfold madeF; rw [take_succ_get h, List.map_append]; rfl
theorem made_all {l : List Bid} {i most : Nat} (h1 : i ≤ most) (h2 : i ≤ l.length) (h : ¬ (i < l.length ∧ i < most)) : madeF l i = madeF l most := by
  unfold madeF
  by_cases h3 : i = most
  · rw [h3]
  · rw [List.take_of_length_le (by omega), List.take_of_length_le (by omega)]

theorem made_ret (l : List Bid) (most : Nat) (hI : ∀ b, b ∈ l → IOKB b) (hl : l.length ≤ 9223372036854775807) (hm : most ≤ 1000) : Ret Try.prog 18 [.sl (l.map encB) false, encI (most : Nat)] (.sl ((madeF l most).map encB) false) := by
  refine ret_of_awp Try.func18 rfl (Nat.le_of_ble_eq_true rfl) ?_
  refine awp_seq ?_
  refine awp_rw rfl ?_
  refine RW.op rfl rfl (eff_assign (v := .t _) rfl rfl rfl) ?_
  refine RW.nil ?_
  refine awp_seq ?_
  refine awp_rw rfl ?_
  refine RW.op rfl rfl (eff_assign (v := .t _) rfl rfl rfl) ?_
  refine RW.nil ?_
  show AWP _ _ _ _
  refine awp_weak (weak_adopt (d := 5) (id := 5) (k := 5) (ty := 42) rfl rfl) ?_
  refine awp_seq ?_
  refine awp_seq ?_
  refine awp_rw rfl ?_
  refine RW.op rfl rfl (eff_assign (v := .t _) rfl rfl rfl) ?_
  refine RW.nil ?_
  refine awp_block ?_
  refine awp_loopW (fun m s => ∃ (i : Nat) (gn : Nat) (n : Nat) (els : List AV), (i ≤ l.length) ∧ (i ≤ most) ∧ (n = (madeF l i).length) ∧ (els = ((madeF l i).map encB).map .t) ∧ m = l.length - i ∧ s = ⟨59, [(0, .t (.sl (l.map encB) false)), (1, .t (encI (most : Nat))), (5, .own 5 gn 0 n), (6, .t (encI (i : Nat)))], [(5, some ⟨5, 42, gn, els⟩)]⟩) (_) (⟨_, weak_keep (n := 59) (fr' := [(0, .t (.sl (l.map encB) false)), (1, .t (encI (most : Nat))), (5, .own 5 0 0 0), (6, .t (encI (0 : Nat)))]) (st' := [(5, some ⟨5, 42, 0, ([])⟩)]) ⟨rfl, rfl, rfl, rfl, rfl, rfl, rfl, rfl, trivial⟩ ⟨rfl, (by first | exact okE_nil | (rw [he]; exact okE_t) | (rw [he]; intro x hx; simp only [List.mem_append, List.mem_map, List.mem_singleton] at hx; rcases hx with ⟨y, _, rfl⟩ | rfl <;> rfl)), trivial⟩, 0, 0, 0, [], (by omega), (by omega), (by simp [madeF]), (by simp [madeF]), rfl, rfl⟩) ?_
  rintro m s ⟨i, gn, n, els, hi, him, hnn, he, rfl, rfl⟩
  have hml := made_len l i
  refine awp_seq ?_
  refine awp_seq ?_
  refine awp_rw rfl ?_
  refine RW.op rfl rfl (eff_move (v := .t _) rfl rfl rfl) ?_
  refine RW.op rfl rfl (eff_move (v := .t _) rfl rfl rfl) ?_
  refine RW.op rfl rfl (eff_lenM rfl rfl te23 rfl) ?_
  refine RW.op rfl rfl (eff_iop rfl rfl rfl rfl rfl) ?_
  refine RW.op rfl rfl (eff_move (v := .t _) rfl rfl rfl) ?_
  refine RW.split 12 rfl (fun h1 => ?_) (fun h1 => ?_)
  · try simp only [decide_eq_true_eq, decide_eq_false_iff_not, beq_iff_eq, bne_iff_ne, bne_eq_false_iff_eq, beq_eq_false_iff_ne, Bool.not_eq_true, Bool.not_eq_false, Bool.not_eq_true', Bool.not_eq_false', ne_eq] at h1
    refine RW.gop rfl rfl rfl rfl rfl rfl (eff_move (v := .t _) rfl rfl rfl) ?_
    refine RW.gop rfl rfl rfl rfl rfl rfl (eff_move (v := .t _) rfl rfl rfl) ?_
    refine RW.gop rfl rfl rfl rfl rfl rfl (eff_iop rfl rfl rfl rfl rfl) ?_
    refine RW.op rfl rfl (eff_pick (v := .t _) rfl rfl rfl rfl) ?_
    refine RW.nil ?_
    refine awp_cond rfl (fun h2 => ?_) (fun h2 => ?_)
    · try simp only [decide_eq_true_eq, decide_eq_false_iff_not, beq_iff_eq, bne_iff_ne, bne_eq_false_iff_eq, beq_eq_false_iff_ne, Bool.not_eq_true, Bool.not_eq_false, Bool.not_eq_true', Bool.not_eq_false', ne_eq] at h2
      refine awp_skip ?_
      refine awp_seq ?_
      refine awp_block ?_
      refine awp_seq ?_
      refine awp_rw rfl ?_
      have hil : i < l.length := by omega
      have hib := hI _ (List.getElem_mem hil)
      have a1 := around_range (n := (l[i]'hil).frm) (m := 60) (by decide)
      have a2 := around_range (n := (l[i]'hil).til) (m := 20) (by decide)
      have a3 := around_range (n := (l[i]'hil).val) (m := 30) (by decide)
      refine RW.op rfl rfl (eff_move (v := .t _) rfl rfl rfl) ?_
      refine RW.op rfl rfl (eff_move (v := .t _) rfl rfl rfl) ?_
      refine RW.op rfl rfl (eff_indexAddrT (i := i) rfl rfl te23 rfl rfl (by first | rfl | omega) (by rw [List.getElem?_map, List.getElem?_eq_getElem hil]; rfl) rfl (by decide)) ?_
      refine RW.op rfl rfl (eff_fieldAddrT rfl rfl tf42_2 (by decide) rfl) ?_
      refine RW.op rfl rfl (eff_loadT1 rfl rfl ti3 rfl rfl) ?_
      refine RW.op rfl rfl (eff_callT (around_ret (l[i]'hil).frm 60 hib.2.2.1 (by decide)) co48 rfl rfl rfl rfl) ?_
      refine RW.op rfl rfl (eff_assign (v := .t _) rfl rfl rfl) ?_
      refine RW.nil ?_
      refine awp_rh [(some 25, []), (some 26, []), (some 27, []), (some 28, []), (some 29, []), (some 30, []), (some 31, []), (some 32, []), (some 33, []), (some 34, []), (some 35, []), (some 36, []), (some 37, []), (some 38, []), (some 39, []), (some 40, []), (some 41, []), (some 42, []), (some 43, []), (some 44, []), (some 45, []), (some 46, []), (some 47, []), (some 48, []), (some 49, []), (some 50, []), (some 51, []), (some 52, []), (some 53, []), (some 54, []), (some 55, []), (some 56, [56]), (some 57, [5]), (some 5, [])] [[], [], [], [1, 2], [1, 2, 3], [1, 2, 3, 4], [1, 2, 3, 4, 5], [], [], [7, 8], [7, 8, 9], [7, 8, 9, 10], [1, 2, 3, 4, 5, 6, 7, 8, 9, 10, 11], [], [], [14], [], [], [16, 17], [16, 17, 18], [16, 17, 18, 19], [1, 2, 3, 4, 5, 6, 7, 8, 9, 10, 11, 12, 16, 17, 18, 19, 20], [1, 2, 3, 4, 5, 6, 7, 8, 9, 10, 11, 12, 14, 15, 16, 17, 18, 19, 20, 21], [], [], [23, 24], [23, 24, 25], [23, 24, 25, 26], [1, 2, 3, 4, 5, 6, 7, 8, 9, 10, 11, 12, 16, 17, 18, 19, 20, 21, 23, 24, 25, 26, 27], [1, 2, 3, 4, 5, 6, 7, 8, 9, 10, 11, 12, 16, 17, 18, 19, 20, 21, 23, 24, 25, 26, 27, 28], [1, 2, 3, 4, 5, 6, 7, 8, 9, 10, 11, 12, 13, 14, 15, 16, 17, 18, 19, 20, 21, 22, 23, 24, 25, 26, 27, 28, 29], [1, 2, 3, 4, 5, 6, 7, 8, 9, 10, 11, 12, 13, 14, 15, 16, 17, 18, 19, 20, 21, 22, 23, 24, 25, 26, 27, 28, 29, 30], [0, 1, 2, 3, 4, 5, 6, 7, 8, 9, 10, 11, 12, 13, 14, 15, 16, 17, 18, 19, 20, 21, 22, 23, 24, 25, 26, 27, 28, 29, 30, 31], [0, 1, 2, 3, 4, 5, 6, 7, 8, 9, 10, 11, 12, 13, 14, 15, 16, 17, 18, 19, 20, 21, 22, 23, 24, 25, 26, 27, 28, 29, 30, 31, 32]] [([(some 26, []), (some 27, []), (some 28, []), (some 29, []), (some 30, []), (some 31, []), (some 32, []), (some 33, []), (some 34, []), (some 35, []), (some 36, []), (some 37, []), (some 38, []), (some 39, []), (some 40, []), (some 41, []), (some 42, []), (some 43, []), (some 44, []), (some 45, []), (some 46, []), (some 47, []), (some 48, []), (some 49, []), (some 50, []), (some 51, []), (some 52, []), (some 53, []), (some 54, []), (some 55, []), (some 56, [56])], (some 25, [])), ([(some 25, []), (some 27, []), (some 32, []), (some 33, []), (some 34, []), (some 35, []), (some 36, []), (some 38, []), (some 39, []), (some 40, []), (some 41, []), (some 42, []), (some 43, []), (some 44, []), (some 45, []), (some 48, []), (some 49, []), (some 50, []), (some 51, []), (some 52, [])], (some 26, [])), ([(some 25, []), (some 26, []), (some 32, []), (some 33, []), (some 34, []), (some 35, []), (some 36, []), (some 38, []), (some 39, []), (some 40, []), (some 41, []), (some 42, []), (some 43, []), (some 44, []), (some 45, []), (some 48, []), (some 49, []), (some 50, []), (some 51, []), (some 52, [])], (some 27, [])), ([(some 25, []), (some 32, []), (some 33, []), (some 34, []), (some 35, []), (some 36, []), (some 38, []), (some 39, []), (some 40, []), (some 41, []), (some 42, []), (some 43, []), (some 44, []), (some 45, []), (some 48, []), (some 49, []), (some 50, []), (some 51, []), (some 52, [])], (some 28, [])), ([(some 25, []), (some 32, []), (some 33, []), (some 34, []), (some 35, []), (some 36, []), (some 38, []), (some 39, []), (some 40, []), (some 41, []), (some 42, []), (some 43, []), (some 44, []), (some 45, []), (some 48, []), (some 49, []), (some 50, []), (some 51, []), (some 52, [])], (some 29, [])), ([(some 25, []), (some 32, []), (some 33, []), (some 34, []), (some 35, []), (some 36, []), (some 38, []), (some 39, []), (some 40, []), (some 41, []), (some 42, []), (some 43, []), (some 44, []), (some 45, []), (some 48, []), (some 49, []), (some 50, []), (some 51, []), (some 52, [])], (some 30, [])), ([(some 25, []), (some 32, []), (some 33, []), (some 34, []), (some 35, []), (some 36, []), (some 38, []), (some 39, []), (some 40, []), (some 41, []), (some 42, []), (some 43, []), (some 44, []), (some 45, []), (some 48, []), (some 49, []), (some 50, []), (some 51, []), (some 52, [])], (some 31, [])), ([(some 25, []), (some 26, []), (some 27, []), (some 28, []), (some 29, []), (some 30, []), (some 31, []), (some 33, []), (some 38, []), (some 39, []), (some 40, []), (some 41, []), (some 42, []), (some 43, []), (some 44, []), (some 45, []), (some 48, []), (some 49, []), (some 50, []), (some 51, []), (some 52, [])], (some 32, [])), ([(some 25, []), (some 26, []), (some 27, []), (some 28, []), (some 29, []), (some 30, []), (some 31, []), (some 32, []), (some 38, []), (some 39, []), (some 40, []), (some 41, []), (some 42, []), (some 43, []), (some 44, []), (some 45, []), (some 48, []), (some 49, []), (some 50, []), (some 51, []), (some 52, [])], (some 33, [])), ([(some 25, []), (some 26, []), (some 27, []), (some 28, []), (some 29, []), (some 30, []), (some 31, []), (some 38, []), (some 39, []), (some 40, []), (some 41, []), (some 42, []), (some 43, []), (some 44, []), (some 45, []), (some 48, []), (some 49, []), (some 50, []), (some 51, []), (some 52, [])], (some 34, [])), ([(some 25, []), (some 26, []), (some 27, []), (some 28, []), (some 29, []), (some 30, []), (some 31, []), (some 38, []), (some 39, []), (some 40, []), (some 41, []), (some 42, []), (some 43, []), (some 44, []), (some 45, []), (some 48, []), (some 49, []), (some 50, []), (some 51, []), (some 52, [])], (some 35, [])), ([(some 25, []), (some 26, []), (some 27, []), (some 28, []), (some 29, []), (some 30, []), (some 31, []), (some 38, []), (some 39, []), (some 40, []), (some 41, []), (some 42, []), (some 43, []), (some 44, []), (some 45, []), (some 48, []), (some 49, []), (some 50, []), (some 51, []), (some 52, [])], (some 36, [])), ([(some 25, []), (some 38, []), (some 39, []), (some 40, []), (some 41, []), (some 42, []), (some 43, []), (some 44, []), (some 45, []), (some 48, []), (some 49, []), (some 50, []), (some 51, []), (some 52, [])], (some 37, [])), ([(some 25, []), (some 26, []), (some 27, []), (some 28, []), (some 29, []), (some 30, []), (some 31, []), (some 32, []), (some 33, []), (some 34, []), (some 35, []), (some 36, []), (some 37, []), (some 39, []), (some 40, []), (some 41, []), (some 42, []), (some 43, []), (some 44, []), (some 45, []), (some 46, []), (some 47, []), (some 48, []), (some 49, []), (some 50, []), (some 51, []), (some 52, []), (some 53, []), (some 54, [])], (some 38, [])), ([(some 25, []), (some 26, []), (some 27, []), (some 28, []), (some 29, []), (some 30, []), (some 31, []), (some 32, []), (some 33, []), (some 34, []), (some 35, []), (some 36, []), (some 37, []), (some 38, []), (some 41, []), (some 42, []), (some 43, []), (some 44, []), (some 45, []), (some 46, []), (some 48, []), (some 49, []), (some 50, []), (some 51, []), (some 52, []), (some 53, []), (some 54, [])], (some 39, [])), ([(some 25, []), (some 26, []), (some 27, []), (some 28, []), (some 29, []), (some 30, []), (some 31, []), (some 32, []), (some 33, []), (some 34, []), (some 35, []), (some 36, []), (some 37, []), (some 38, []), (some 41, []), (some 42, []), (some 43, []), (some 44, []), (some 45, []), (some 46, []), (some 48, []), (some 49, []), (some 50, []), (some 51, []), (some 52, []), (some 53, []), (some 54, [])], (some 40, [])), ([(some 25, []), (some 26, []), (some 27, []), (some 28, []), (some 29, []), (some 30, []), (some 31, []), (some 32, []), (some 33, []), (some 34, []), (some 35, []), (some 36, []), (some 37, []), (some 38, []), (some 39, []), (some 40, []), (some 42, []), (some 48, []), (some 49, []), (some 50, []), (some 51, []), (some 52, [])], (some 41, [])), ([(some 25, []), (some 26, []), (some 27, []), (some 28, []), (some 29, []), (some 30, []), (some 31, []), (some 32, []), (some 33, []), (some 34, []), (some 35, []), (some 36, []), (some 37, []), (some 38, []), (some 39, []), (some 40, []), (some 41, []), (some 48, []), (some 49, []), (some 50, []), (some 51, []), (some 52, [])], (some 42, [])), ([(some 25, []), (some 26, []), (some 27, []), (some 28, []), (some 29, []), (some 30, []), (some 31, []), (some 32, []), (some 33, []), (some 34, []), (some 35, []), (some 36, []), (some 37, []), (some 38, []), (some 39, []), (some 40, []), (some 48, []), (some 49, []), (some 50, []), (some 51, []), (some 52, [])], (some 43, [])), ([(some 25, []), (some 26, []), (some 27, []), (some 28, []), (some 29, []), (some 30, []), (some 31, []), (some 32, []), (some 33, []), (some 34, []), (some 35, []), (some 36, []), (some 37, []), (some 38, []), (some 39, []), (some 40, []), (some 48, []), (some 49, []), (some 50, []), (some 51, []), (some 52, [])], (some 44, [])), ([(some 25, []), (some 26, []), (some 27, []), (some 28, []), (some 29, []), (some 30, []), (some 31, []), (some 32, []), (some 33, []), (some 34, []), (some 35, []), (some 36, []), (some 37, []), (some 38, []), (some 39, []), (some 40, []), (some 48, []), (some 49, []), (some 50, []), (some 51, []), (some 52, [])], (some 45, [])), ([(some 25, []), (some 38, []), (some 39, []), (some 40, []), (some 48, []), (some 49, []), (some 50, []), (some 51, []), (some 52, [])], (some 46, [])), ([(some 25, []), (some 38, []), (some 48, []), (some 49, []), (some 50, []), (some 51, []), (some 52, []), (some 53, []), (some 54, [])], (some 47, [])), ([(some 25, []), (some 26, []), (some 27, []), (some 28, []), (some 29, []), (some 30, []), (some 31, []), (some 32, []), (some 33, []), (some 34, []), (some 35, []), (some 36, []), (some 37, []), (some 38, []), (some 39, []), (some 40, []), (some 41, []), (some 42, []), (some 43, []), (some 44, []), (some 45, []), (some 46, []), (some 47, []), (some 49, [])], (some 48, [])), ([(some 25, []), (some 26, []), (some 27, []), (some 28, []), (some 29, []), (some 30, []), (some 31, []), (some 32, []), (some 33, []), (some 34, []), (some 35, []), (some 36, []), (some 37, []), (some 38, []), (some 39, []), (some 40, []), (some 41, []), (some 42, []), (some 43, []), (some 44, []), (some 45, []), (some 46, []), (some 47, []), (some 48, [])], (some 49, [])), ([(some 25, []), (some 26, []), (some 27, []), (some 28, []), (some 29, []), (some 30, []), (some 31, []), (some 32, []), (some 33, []), (some 34, []), (some 35, []), (some 36, []), (some 37, []), (some 38, []), (some 39, []), (some 40, []), (some 41, []), (some 42, []), (some 43, []), (some 44, []), (some 45, []), (some 46, []), (some 47, [])], (some 50, [])), ([(some 25, []), (some 26, []), (some 27, []), (some 28, []), (some 29, []), (some 30, []), (some 31, []), (some 32, []), (some 33, []), (some 34, []), (some 35, []), (some 36, []), (some 37, []), (some 38, []), (some 39, []), (some 40, []), (some 41, []), (some 42, []), (some 43, []), (some 44, []), (some 45, []), (some 46, []), (some 47, [])], (some 51, [])), ([(some 25, []), (some 26, []), (some 27, []), (some 28, []), (some 29, []), (some 30, []), (some 31, []), (some 32, []), (some 33, []), (some 34, []), (some 35, []), (some 36, []), (some 37, []), (some 38, []), (some 39, []), (some 40, []), (some 41, []), (some 42, []), (some 43, []), (some 44, []), (some 45, []), (some 46, []), (some 47, [])], (some 52, [])), ([(some 25, []), (some 38, []), (some 39, []), (some 40, []), (some 47, [])], (some 53, [])), ([(some 25, []), (some 38, []), (some 39, []), (some 40, []), (some 47, [])], (some 54, [])), ([(some 25, [])], (some 55, [])), ([(some 25, [])], (some 56, [56])), ([], (some 57, [5])), ([], (some 5, []))] tm rfl (by decide +kernel) (by decide +kernel) rfl (by decide +kernel) ?_
      refine RH.op rfl rfl rfl (eff_move (v := .own _ _ _ _) rfl rfl rfl) ?_
      refine RH.op rfl rfl rfl (eff_move (v := .t _) rfl rfl rfl) ?_
      refine RH.op rfl rfl rfl (eff_move (v := .t _) rfl rfl rfl) ?_
      refine RH.op rfl rfl rfl (eff_indexAddrT (i := i) rfl rfl te23 rfl rfl (by first | rfl | omega) (by rw [List.getElem?_map, List.getElem?_eq_getElem hil]; rfl) rfl (by decide)) ?_
      refine RH.op rfl rfl rfl (eff_fieldAddrT rfl rfl tf42_0 (by decide) rfl) ?_
      refine RH.op rfl rfl rfl (eff_loadT1 rfl rfl ti3 rfl rfl) ?_
      refine RH.op rfl rfl rfl (eff_callT (around_ret (l[i]'hil).craft 3 hib.1 (by decide)) co48 rfl rfl rfl rfl) ?_
      refine RH.op rfl rfl rfl (eff_move (v := .t _) rfl rfl rfl) ?_
      refine RH.op rfl rfl rfl (eff_move (v := .t _) rfl rfl rfl) ?_
      refine RH.op rfl rfl rfl (eff_indexAddrT (i := i) rfl rfl te23 rfl rfl (by first | rfl | omega) (by rw [List.getElem?_map, List.getElem?_eq_getElem hil]; rfl) rfl (by decide)) ?_
      refine RH.op rfl rfl rfl (eff_fieldAddrT rfl rfl tf42_1 (by decide) rfl) ?_
      refine RH.op rfl rfl rfl (eff_loadT1 rfl rfl ti3 rfl rfl) ?_
      refine RH.op rfl rfl rfl (eff_callT (around_ret (l[i]'hil).station 3 hib.2.1 (by decide)) co48 rfl rfl rfl rfl) ?_
      refine RH.op rfl rfl rfl (eff_move (v := .t _) rfl rfl rfl) ?_
      refine RH.op rfl rfl rfl (eff_move (v := .t _) rfl rfl rfl) ?_
      refine RH.op rfl rfl rfl (eff_iop rfl rfl rfl rfl (iadd (by omega))) ?_
      refine RH.op rfl rfl rfl (eff_move (v := .t _) rfl rfl rfl) ?_
      refine RH.op rfl rfl rfl (eff_move (v := .t _) rfl rfl rfl) ?_
      refine RH.op rfl rfl rfl (eff_indexAddrT (i := i) rfl rfl te23 rfl rfl (by first | rfl | omega) (by rw [List.getElem?_map, List.getElem?_eq_getElem hil]; rfl) rfl (by decide)) ?_
      refine RH.op rfl rfl rfl (eff_fieldAddrT rfl rfl tf42_3 (by decide) rfl) ?_
      refine RH.op rfl rfl rfl (eff_loadT1 rfl rfl ti3 rfl rfl) ?_
      refine RH.op rfl rfl rfl (eff_callT (around_ret (l[i]'hil).til 20 hib.2.2.2.1 (by decide)) co48 rfl rfl rfl rfl) ?_
      refine RH.op rfl rfl rfl (eff_iop rfl rfl rfl rfl (iadd (by omega))) ?_
      refine RH.op rfl rfl rfl (eff_move (v := .t _) rfl rfl rfl) ?_
      refine RH.op rfl rfl rfl (eff_move (v := .t _) rfl rfl rfl) ?_
      refine RH.op rfl rfl rfl (eff_indexAddrT (i := i) rfl rfl te23 rfl rfl (by first | rfl | omega) (by rw [List.getElem?_map, List.getElem?_eq_getElem hil]; rfl) rfl (by decide)) ?_
      refine RH.op rfl rfl rfl (eff_fieldAddrT rfl rfl tf42_4 (by decide) rfl) ?_
      refine RH.op rfl rfl rfl (eff_loadT1 rfl rfl ti3 rfl rfl) ?_
      refine RH.op rfl rfl rfl (eff_callT (around_ret (l[i]'hil).val 30 hib.2.2.2.2 (by decide)) co48 rfl rfl rfl rfl) ?_
      refine RH.op rfl rfl rfl (eff_iop rfl rfl rfl rfl (iadd (by omega))) ?_
      refine RH.op rfl rfl rfl (eff_buildT (ys := [_, _, _, _, _]) rfl rfl tz42 tg42 rfl) ?_
      refine RH.new rfl rfl rfl (eff_buildSliceL (id := 56) (els := [.t (.agg [_, _, _, _, _])]) rfl rfl te23 tz42 rfl (by decide) (by decide) rfl rfl rfl rfl) ?_
      refine RH.new rfl rfl rfl (eff_append (id := 5) (ys := [_]) rfl rfl ta23 rfl rfl rfl (by rw [he, hnn]; simp) rfl rfl (srcOwn rfl rfl rfl rfl rfl rfl) (by simp) (by simp; omega) (by simp; omega)) ?_
      refine RH.op rfl rfl rfl (eff_assign (v := .own _ _ _ _) rfl rfl rfl) ?_
      refine RH.nil ?_
      refine awp_rw rfl ?_
      refine RW.op rfl rfl (eff_move (v := .t _) rfl rfl rfl) ?_
      refine RW.op rfl rfl (eff_iop rfl rfl rfl rfl (iadd (by omega))) ?_
      refine RW.op rfl rfl (eff_assign (v := .t _) rfl rfl rfl) ?_
      refine RW.nil ?_
      refine ⟨_, ?_, _, weak_keep (n := 59) (fr' := [(0, .t (.sl (l.map encB) false)), (1, .t (encI (most : Nat))), (5, .own 5 _ 0 _), (6, .t (encI ((i + 1) : Nat)))]) (st' := [(5, some ⟨5, 42, _, _⟩)]) ⟨rfl, rfl, rfl, rfl, rfl, rfl, rfl, rfl, trivial⟩ ⟨rfl, (by first | exact okE_nil | (rw [he]; exact okE_t) | (rw [he]; intro x hx; simp only [List.mem_append, List.mem_map, List.mem_singleton] at hx; rcases hx with ⟨y, _, rfl⟩ | rfl <;> rfl)), trivial⟩, i + 1, _, _, _, (by omega), (by omega), (by rw [made_step hil, hnn]; simp), (by rw [made_step hil, he]; simp <;> rfl), rfl, rfl⟩
      omega
    · try simp only [decide_eq_true_eq, decide_eq_false_iff_not, beq_iff_eq, bne_iff_ne, bne_eq_false_iff_eq, beq_eq_false_iff_ne, Bool.not_eq_true, Bool.not_eq_false, Bool.not_eq_true', Bool.not_eq_false', ne_eq] at h2
      refine awp_exit ?_
      refine awp_seq ?_
      refine awp_rw rfl ?_
      refine RW.op rfl rfl (eff_move (v := .own _ _ _ _) rfl rfl rfl) ?_
      refine RW.op rfl rfl (eff_assign (v := .own _ _ _ _) rfl rfl rfl) ?_
      refine RW.nil ?_
      refine awp_ret ?_
      rw [made_all him hi (fun hh => by omega)] at he hnn
      exact ⟨Or.inr rfl, [_], ⟨.tmp (Res.ownT (xs := (madeF l most).map encB) rfl rfl he (by rw [hnn]; simp)), trivial⟩, .refl _⟩
  · try simp only [decide_eq_true_eq, decide_eq_false_iff_not, beq_iff_eq, bne_iff_ne, bne_eq_false_iff_eq, beq_eq_false_iff_ne, Bool.not_eq_true, Bool.not_eq_false, Bool.not_eq_true', Bool.not_eq_false', ne_eq] at h1
    refine RW.gskip rfl rfl rfl rfl rfl (by decide) ?_
    refine RW.gskip rfl rfl rfl rfl rfl (by decide) ?_
    refine RW.gskip rfl rfl rfl rfl rfl (by decide) ?_
    refine RW.op rfl rfl (eff_pick (v := .t _) rfl rfl rfl rfl) ?_
    refine RW.nil ?_
    refine awp_cond rfl (fun h => nomatch h) (fun _ => ?_)
    refine awp_exit ?_
    refine awp_seq ?_
    refine awp_rw rfl ?_
    refine RW.op rfl rfl (eff_move (v := .own _ _ _ _) rfl rfl rfl) ?_
    refine RW.op rfl rfl (eff_assign (v := .own _ _ _ _) rfl rfl rfl) ?_
    refine RW.nil ?_
    refine awp_ret ?_
    rw [made_all him hi (fun hh => by omega)] at he hnn
    exact ⟨Or.inr rfl, [_], ⟨.tmp (Res.ownT (xs := (madeF l most).map encB) rfl rfl he (by rw [hnn]; simp)), trivial⟩, .refl _⟩

theorem needed_reti (l : List Rep) (ss : List Tr) (fl : Bool) (q : Nat) (hl : l.length ≤ 100000) (hR : ∀ r, r ∈ l → RepOK r) (hq : q ≤ 1000) : Ret Try.prog 34 [.agg [.sl ss fl, .sl (l.map encR) false], encI (q : Nat)] (.sl ((toI (neededN l q)).map encI) false) := by
  have h := needed_ret l ss fl q hl hR hq
  rw [encN_map] at h
  exact h

theorem lives_ret  : Ret Try.prog 12 [] (.bool true) := by
  refine ret_of_awp Try.func12 rfl (Nat.le_of_ble_eq_true rfl) ?_
  refine awp_seq ?_
  refine awp_rw rfl ?_
  refine RW.op rfl rfl (eff_assign (v := .t _) rfl rfl rfl) ?_
  refine RW.nil ?_
  refine awp_seq ?_
  refine awp_rw rfl ?_
  refine RW.op rfl rfl (eff_callT (three_ret 8) co40 rfl rfl rfl rfl) ?_
  refine RW.op rfl rfl (eff_assign (v := .t _) rfl rfl rfl) ?_
  refine RW.nil ?_
  refine awp_seq ?_
  refine awp_rw rfl ?_
  refine RW.op rfl rfl (eff_buildT (ys := [_, _, _, _]) rfl rfl tz58 tg58 rfl) ?_
  refine RW.op rfl rfl (eff_buildT (ys := [_, _, _, _]) rfl rfl tz58 tg58 rfl) ?_
  refine RW.new rfl rfl (eff_buildSliceL (id := 8) (els := [.t (.agg [_, _, _, _]), .t (.agg [_, _, _, _])]) rfl rfl te49 tz58 rfl (by decide) (by decide) rfl rfl rfl rfl) ?_
  refine RW.op rfl rfl (eff_buildA (ys := [_, _]) rfl rfl tz54 tg54 rfl rfl) ?_
  refine RW.new rfl rfl (eff_allocK (k := 2) (id := 2) rfl rfl tz54 rfl rfl) ?_
  refine RW.store rfl rfl (eff_storeW (v := .agg _) (els := [_]) (els' := [_]) rfl rfl ti54 rfl rfl rfl rfl rfl rfl rfl rfl rfl) ?_
  refine RW.nil ?_
  show AWP _ _ _ _
  refine awp_weak (weak_frz (n := 124) (fr' := [(0, .t (.bool false)), (1, .t (.sl ((threeF 8).map encB) false)), (2, .t (.ptr [.sl [] true, .sl (repF.map encR) false]))]) (st' := []) [(2, some ⟨2, 54, 0, [.agg [.t (.sl [] true), .own 8 0 0 2]]⟩), (8, some ⟨4, 58, 0, (repF.map encR).map .t⟩)] ⟨rfl, rfl, trivial⟩ trivial ⟨wa_eq rfl rfl, wa_eq rfl rfl, .res (.ptr 2 0 0 0 _ _ [.sl [] true, .sl (repF.map encR) false] rfl rfl rfl (Nat.le_refl 2) (fun n e x he hx => ResP.get [.t (.sl [] true), .own 8 0 0 2] [.sl [] true, .sl (repF.map encR) false] ⟨.t _, Res.ownT (xs := repF.map encR) rfl rfl rfl rfl, trivial⟩ n e x (by simpa [AV.cells] using he) hx)) (.refl _), trivial⟩ trivial) ?_
  refine awp_seq ?_
  refine awp_rw rfl ?_
  refine RW.op rfl rfl (eff_buildT (ys := [_, _, _, _, _, _]) rfl rfl tz29 tg29 rfl) ?_
  refine RW.op rfl rfl (eff_buildT (ys := [_, _, _, _, _, _]) rfl rfl tz29 tg29 rfl) ?_
  refine RW.op rfl rfl (eff_buildT (ys := [_, _, _, _, _, _]) rfl rfl tz29 tg29 rfl) ?_
  refine RW.new rfl rfl (eff_buildSliceL (id := 13) (els := [.t (.agg [_, _, _, _, _, _]), .t (.agg [_, _, _, _, _, _]), .t (.agg [_, _, _, _, _, _])]) rfl rfl te25 tz29 rfl (by decide) (by decide) rfl rfl rfl rfl) ?_
  refine RW.op rfl rfl (eff_assign (v := .own _ _ _ _) rfl rfl rfl) ?_
  refine RW.nil ?_
  show AWP _ _ _ _
  refine awp_weak (weak_frz (n := 124) (fr' := [(0, .t (.bool false)), (1, .t (.sl ((threeF 8).map encB) false)), (2, .t (.ptr [.sl [] true, .sl (repF.map encR) false])), (3, .t (.sl (winF.map encW) false))]) (st' := []) [(13, some ⟨6, 29, 0, (winF.map encW).map .t⟩)] ⟨rfl, trivial⟩ trivial ⟨wa_eq rfl rfl, wa_eq rfl rfl, wa_eq rfl rfl, .res (Res.ownT (xs := winF.map encW) rfl rfl rfl rfl) (.refl _), trivial⟩ trivial) ?_
  refine awp_seq ?_
  refine awp_rw rfl ?_
  refine RW.op rfl rfl (eff_move (v := .t _) rfl rfl rfl) ?_
  refine RW.op rfl rfl (eff_callT (passes_ret winF 1 14 (by decide)) co14 rfl rfl rfl rfl) ?_
  refine RW.op rfl rfl (eff_assign (v := .t _) rfl rfl rfl) ?_
  refine RW.nil ?_
  refine awp_seq ?_
  refine awp_seq ?_
  rw [lpa]
  refine awp_rd [(some 16, []), (some 17, []), (some 18, []), (some 19, []), (some 20, []), (some 21, []), (some 22, []), (some 23, []), (some 24, []), (some 25, []), (some 26, []), (some 27, []), (some 28, []), (some 29, []), (some 30, []), (some 31, []), (some 32, []), (some 33, [])] [[], [0], [0, 1], [0, 1, 2], [0, 1, 2, 3], [0, 1, 2, 3, 4], [0, 1, 2, 3, 4, 5], [0, 1, 2, 3], [0, 1, 2, 3, 7], [0, 1, 2, 3, 7, 8], [0, 1, 2, 3, 4, 5, 6, 7, 8, 9], [0, 1, 2, 3, 4, 5, 6, 7, 8, 9, 10], [0, 1, 2, 3, 4, 5, 6, 7, 8, 9, 10, 11], [0, 1, 2, 3, 4, 5, 6, 7, 8, 9, 10, 11, 12], [0, 1, 2, 3, 4, 5, 6, 7, 8, 9, 10, 11, 12, 13], [0, 1, 2, 3, 4, 5, 6, 7, 8, 9, 10, 11, 12, 13, 14], [0, 1, 2, 3, 4, 5, 6, 7, 8, 9, 10, 11, 12, 13, 14, 15], [0, 1, 2, 3, 4, 5, 6, 7, 8, 9, 10, 11, 12, 13, 14, 15, 16]] tm rfl rfl rfl rfl ?_
  refine RD.op rfl rfl rfl (eff_move (v := .t _) rfl rfl rfl) ?_
  refine RD.op rfl rfl rfl (eff_lenM rfl rfl te25 rfl) ?_
  refine RD.op rfl rfl rfl (eff_iop (r := .bool false) rfl rfl rfl rfl (by rfl)) ?_
  refine RD.op rfl rfl rfl (eff_move (v := .t _) rfl rfl rfl) ?_
  refine RD.gop rfl rfl rfl rfl rfl rfl rfl (eff_move (v := .t _) rfl rfl rfl) ?_
  refine RD.gop rfl rfl rfl rfl rfl rfl rfl (eff_indexM (i := 0) rfl rfl te25 rfl rfl (by first | rfl | omega) (by rfl) rfl (by decide)) ?_
  refine RD.gop rfl rfl rfl rfl rfl rfl rfl (eff_loadW rfl rfl ti29 rfl rfl rfl) ?_
  refine RD.gop rfl rfl rfl rfl rfl rfl rfl (eff_move (v := .t _) rfl rfl rfl) ?_
  refine RD.gop rfl rfl rfl rfl rfl rfl rfl (eff_indexM (i := 1) rfl rfl te25 rfl rfl (by first | rfl | omega) (by rfl) rfl (by decide)) ?_
  refine RD.gop rfl rfl rfl rfl rfl rfl rfl (eff_loadW rfl rfl ti29 rfl rfl rfl) ?_
  refine RD.gop rfl rfl rfl rfl rfl rfl rfl (eff_structNeqA (cells := cellsW) (a := ⟨1, 1, 0, 5, 15, 1⟩) (b := ⟨1, 1, 0, 5, 15, 1⟩) rfl rfl ts29s ti29 th29 cellsW_inj cellsW_kind rfl rfl) ?_
  refine RD.op rfl rfl rfl (eff_pick (v := .t _) rfl rfl rfl rfl) ?_
  refine RD.op rfl rfl rfl (eff_move (v := .t _) rfl rfl rfl) ?_
  refine RD.gop rfl rfl rfl rfl rfl rfl rfl (eff_move (v := .t _) rfl rfl rfl) ?_
  refine RD.gop rfl rfl rfl rfl rfl rfl rfl (eff_callT (passes_ret winF 1 15 (by decide)) co14 rfl rfl rfl rfl) ?_
  refine RD.gop rfl rfl rfl rfl rfl rfl rfl (eff_lenM rfl rfl te25 rfl) ?_
  refine RD.gop rfl rfl rfl rfl rfl rfl rfl (eff_iop (r := .bool false) rfl rfl rfl rfl (by rw [lpb]; rfl)) ?_
  refine RD.op rfl rfl rfl (eff_pick (v := .t _) rfl rfl rfl rfl) ?_
  refine RD.nil ?_
  refine awp_cond rfl (fun h => nomatch h) (fun _ => ?_)
  refine awp_skip ?_
  refine awp_seq ?_
  refine awp_rw rfl ?_
  refine RW.op rfl rfl (eff_move (v := .t _) rfl rfl rfl) ?_
  refine RW.op rfl rfl (eff_callT (best_reti (threeF 8) 0 (three_okl (by decide))) co20 rfl rfl rfl rfl) ?_
  refine RW.op rfl rfl (eff_buildSliceT (xs := ([0, 2] : List Int).map encI) rfl rfl te22 tz3 rfl (by decide) rfl rfl rfl (by decide)) ?_
  refine RW.op rfl rfl (eff_callW (xs := [_, _]) (same_true (l := toI (bestF (threeF 8) 0)) (q := [0, 2]) (by rw [lb8]; decide) (by decide) (by rw [lb8]; rfl)) co19 rfl rfl rfl rfl (by repeat' first | exact trivial | exact Wk.refl _ | exact Wk.sl _ | refine And.intro ?_ ?_ | refine Wk.aggP ?_)) ?_
  refine RW.op rfl rfl (eff_move (v := .t _) rfl rfl rfl) ?_
  refine RW.gop rfl rfl rfl rfl rfl rfl (eff_callT (three_ret 9) co40 rfl rfl rfl rfl) ?_
  refine RW.gop rfl rfl rfl rfl rfl rfl (eff_callT (best_reti (threeF 9) 0 (three_okl (by decide))) co20 rfl rfl rfl rfl) ?_
  refine RW.gop rfl rfl rfl rfl rfl rfl (eff_buildSliceT (xs := ([0, 2] : List Int).map encI) rfl rfl te22 tz3 rfl (by decide) rfl rfl rfl (by decide)) ?_
  refine RW.gop rfl rfl rfl rfl rfl rfl (eff_callW (xs := [_, _]) (same_true (l := toI (bestF (threeF 9) 0)) (q := [0, 2]) (by rw [lb9]; decide) (by decide) (by rw [lb9]; rfl)) co19 rfl rfl rfl rfl (by repeat' first | exact trivial | exact Wk.refl _ | exact Wk.sl _ | refine And.intro ?_ ?_ | refine Wk.aggP ?_)) ?_
  refine RW.op rfl rfl (eff_pick (v := .t _) rfl rfl rfl rfl) ?_
  refine RW.op rfl rfl (eff_move (v := .t _) rfl rfl rfl) ?_
  refine RW.gop rfl rfl rfl rfl rfl rfl (eff_callT (three_ret 10) co40 rfl rfl rfl rfl) ?_
  refine RW.gop rfl rfl rfl rfl rfl rfl (eff_callT (best_reti (threeF 10) 0 (three_okl (by decide))) co20 rfl rfl rfl rfl) ?_
  refine RW.gop rfl rfl rfl rfl rfl rfl (eff_buildSliceT (xs := ([1] : List Int).map encI) rfl rfl te22 tz3 rfl (by decide) rfl rfl rfl (by decide)) ?_
  refine RW.gop rfl rfl rfl rfl rfl rfl (eff_callW (xs := [_, _]) (same_true (l := toI (bestF (threeF 10) 0)) (q := [1]) (by rw [lb10]; decide) (by decide) (by rw [lb10]; rfl)) co19 rfl rfl rfl rfl (by repeat' first | exact trivial | exact Wk.refl _ | exact Wk.sl _ | refine And.intro ?_ ?_ | refine Wk.aggP ?_)) ?_
  refine RW.op rfl rfl (eff_pick (v := .t _) rfl rfl rfl rfl) ?_
  refine RW.op rfl rfl (eff_move (v := .t _) rfl rfl rfl) ?_
  refine RW.gop rfl rfl rfl rfl rfl rfl (eff_move (v := .t _) rfl rfl rfl) ?_
  refine RW.gop rfl rfl rfl rfl rfl rfl (eff_callT (best_reti (threeF 8) 1 (three_okl (by decide))) co20 rfl rfl rfl rfl) ?_
  refine RW.gop rfl rfl rfl rfl rfl rfl (eff_lenM rfl rfl te22 rfl) ?_
  refine RW.gop rfl rfl rfl rfl rfl rfl (eff_iop (r := .bool true) rfl rfl rfl rfl (by rw [lb81]; rfl)) ?_
  refine RW.op rfl rfl (eff_pick (v := .t _) rfl rfl rfl rfl) ?_
  refine RW.op rfl rfl (eff_move (v := .t _) rfl rfl rfl) ?_
  refine RW.gop rfl rfl rfl rfl rfl rfl (eff_move (v := .t _) rfl rfl rfl) ?_
  refine RW.gop rfl rfl rfl rfl rfl rfl (eff_buildSliceT (xs := ([0, 2, 7, 0] : List Int).map encI) rfl rfl te22 tz3 rfl (by decide) rfl rfl rfl (by decide)) ?_
  refine RW.gop rfl rfl rfl rfl rfl rfl (eff_callW (xs := [_, _]) (value_ret (threeF 8) [0, 2, 7, 0] (three_okl (by decide)).vb (by decide) (by decide)) co22 rfl rfl rfl rfl (by repeat' first | exact trivial | exact Wk.refl _ | exact Wk.sl _ | refine And.intro ?_ ?_ | refine Wk.aggP ?_)) ?_
  refine RW.gop rfl rfl rfl rfl rfl rfl (eff_iop (r := .bool true) rfl rfl rfl rfl (by rw [lv14]; rfl)) ?_
  refine RW.op rfl rfl (eff_pick (v := .t _) rfl rfl rfl rfl) ?_
  refine RW.op rfl rfl (eff_move (v := .t _) rfl rfl rfl) ?_
  refine RW.gop rfl rfl rfl rfl rfl rfl (eff_move (v := .t _) rfl rfl rfl) ?_
  refine RW.gop rfl rfl rfl rfl rfl rfl (eff_callT (price_ret (threeF 8) 0 0 (three_okl (by decide))) co24 rfl rfl rfl rfl) ?_
  refine RW.gop rfl rfl rfl rfl rfl rfl (eff_iop (r := .bool true) rfl rfl rfl rfl (by rw [lp0]; rfl)) ?_
  refine RW.op rfl rfl (eff_pick (v := .t _) rfl rfl rfl rfl) ?_
  refine RW.op rfl rfl (eff_move (v := .t _) rfl rfl rfl) ?_
  refine RW.gop rfl rfl rfl rfl rfl rfl (eff_move (v := .t _) rfl rfl rfl) ?_
  refine RW.gop rfl rfl rfl rfl rfl rfl (eff_callT (price_ret (threeF 8) 0 2 (three_okl (by decide))) co24 rfl rfl rfl rfl) ?_
  refine RW.gop rfl rfl rfl rfl rfl rfl (eff_iop (r := .bool true) rfl rfl rfl rfl (by rw [lp2]; rfl)) ?_
  refine RW.op rfl rfl (eff_pick (v := .t _) rfl rfl rfl rfl) ?_
  refine RW.op rfl rfl (eff_move (v := .t _) rfl rfl rfl) ?_
  refine RW.gop rfl rfl rfl rfl rfl rfl (eff_move (v := .t _) rfl rfl rfl) ?_
  refine RW.gop rfl rfl rfl rfl rfl rfl (eff_callT (price_ret (threeF 8) 0 1 (three_okl (by decide))) co24 rfl rfl rfl rfl) ?_
  refine RW.gop rfl rfl rfl rfl rfl rfl (eff_iop (r := .bool true) rfl rfl rfl rfl (by rw [lp1]; rfl)) ?_
  refine RW.op rfl rfl (eff_pick (v := .t _) rfl rfl rfl rfl) ?_
  refine RW.op rfl rfl (eff_move (v := .t _) rfl rfl rfl) ?_
  refine RW.gop rfl rfl rfl rfl rfl rfl (eff_move (v := .t _) rfl rfl rfl) ?_
  refine RW.gop rfl rfl rfl rfl rfl rfl (eff_callT (assign_ret (threeF 8) (three_okl (by decide))) co26 rfl rfl rfl rfl) ?_
  refine RW.gop rfl rfl rfl rfl rfl rfl (eff_buildSliceT (xs := ([0, 2] : List Int).map encI) rfl rfl te22 tz3 rfl (by decide) rfl rfl rfl (by decide)) ?_
  refine RW.gop rfl rfl rfl rfl rfl rfl (eff_callW (xs := [_, _]) (same_true (l := sortI (toI (outF (threeF 8) 9))) (q := [0, 2]) (by rw [la8]; decide) (by decide) la8) co19 rfl rfl rfl rfl (by repeat' first | exact trivial | exact Wk.refl _ | exact Wk.sl _ | refine And.intro ?_ ?_ | refine Wk.aggP ?_)) ?_
  refine RW.op rfl rfl (eff_pick (v := .t _) rfl rfl rfl rfl) ?_
  refine RW.op rfl rfl (eff_move (v := .t _) rfl rfl rfl) ?_
  refine RW.gop rfl rfl rfl rfl rfl rfl (eff_loadT (ys := [_, _]) rfl rfl ti54 rfl rfl rfl) ?_
  refine RW.gop rfl rfl rfl rfl rfl rfl (eff_callT (needed_reti repF [] true 6 (by decide) repF_ok (by decide)) co34 rfl rfl rfl rfl) ?_
  refine RW.gop rfl rfl rfl rfl rfl rfl (eff_buildSliceT (xs := ([2, 3, 4, 5] : List Int).map encI) rfl rfl te22 tz3 rfl (by decide) rfl rfl rfl (by decide)) ?_
  refine RW.gop rfl rfl rfl rfl rfl rfl (eff_callW (xs := [_, _]) (same_true (l := toI (neededN repF 6)) (q := [2, 3, 4, 5]) (by rw [ln6]; decide) (by decide) (by rw [ln6]; rfl)) co19 rfl rfl rfl rfl (by repeat' first | exact trivial | exact Wk.refl _ | exact Wk.sl _ | refine And.intro ?_ ?_ | refine Wk.aggP ?_)) ?_
  refine RW.op rfl rfl (eff_pick (v := .t _) rfl rfl rfl rfl) ?_
  refine RW.op rfl rfl (eff_move (v := .t _) rfl rfl rfl) ?_
  refine RW.gop rfl rfl rfl rfl rfl rfl (eff_loadT (ys := [_, _]) rfl rfl ti54 rfl rfl rfl) ?_
  refine RW.gop rfl rfl rfl rfl rfl rfl (eff_callT (settled_ret repF [] true (by decide)) co37 rfl rfl rfl rfl) ?_
  refine RW.gop rfl rfl rfl rfl rfl rfl (eff_iop (r := .bool true) rfl rfl rfl rfl (by rw [lset]; rfl)) ?_
  refine RW.op rfl rfl (eff_pick (v := .t _) rfl rfl rfl rfl) ?_
  refine RW.op rfl rfl (eff_move (v := .t _) rfl rfl rfl) ?_
  refine RW.gop rfl rfl rfl rfl rfl rfl (eff_buildT (ys := [_, _]) rfl rfl tz54 tg54 rfl) ?_
  refine RW.gop rfl rfl rfl rfl rfl rfl (eff_callW (xs := [_]) (settled_ret [] [] true (by decide)) co37 rfl rfl rfl rfl (by repeat' first | exact trivial | exact Wk.refl _ | exact Wk.sl _ | refine And.intro ?_ ?_ | refine Wk.aggP ?_)) ?_
  refine RW.gop rfl rfl rfl rfl rfl rfl (eff_iop (r := .bool true) rfl rfl rfl rfl (by rfl)) ?_
  refine RW.op rfl rfl (eff_pick (v := .t _) rfl rfl rfl rfl) ?_
  refine RW.op rfl rfl (eff_move (v := .t _) rfl rfl rfl) ?_
  refine RW.gop rfl rfl rfl rfl rfl rfl (eff_move (v := .t _) rfl rfl rfl) ?_
  refine RW.gop rfl rfl rfl rfl rfl rfl (eff_move (v := .t _) rfl rfl rfl) ?_
  refine RW.gop rfl rfl rfl rfl rfl rfl (eff_sliceM (l := none) (h := some 2) (r := (threeF 8).take 2) rfl rfl te23 rfl (fun _ => rfl) .no (.yes rfl rfl) (Nat.zero_le _) (by decide) (by rfl)) ?_
  refine RW.gop rfl rfl rfl rfl rfl rfl (eff_callT (check_ret winF ((threeF 8).take 2) (by decide) (by decide)) co16 rfl rfl rfl rfl) ?_
  refine RW.gop rfl rfl rfl rfl rfl rfl (eff_iop (r := .bool true) rfl rfl rfl rfl (by rw [lc2]; rfl)) ?_
  refine RW.op rfl rfl (eff_pick (v := .t _) rfl rfl rfl rfl) ?_
  refine RW.op rfl rfl (eff_move (v := .t _) rfl rfl rfl) ?_
  refine RW.gop rfl rfl rfl rfl rfl rfl (eff_move (v := .t _) rfl rfl rfl) ?_
  refine RW.gop rfl rfl rfl rfl rfl rfl (eff_move (v := .t _) rfl rfl rfl) ?_
  refine RW.gop rfl rfl rfl rfl rfl rfl (eff_callT (check_ret winF (threeF 8) (by decide) (by decide)) co16 rfl rfl rfl rfl) ?_
  refine RW.gop rfl rfl rfl rfl rfl rfl (eff_iop (r := .bool true) rfl rfl rfl rfl (by rw [lc3]; rfl)) ?_
  refine RW.op rfl rfl (eff_pick (v := .t _) rfl rfl rfl rfl) ?_
  refine RW.op rfl rfl (eff_move (v := .t _) rfl rfl rfl) ?_
  refine RW.gop rfl rfl rfl rfl rfl rfl (eff_move (v := .t _) rfl rfl rfl) ?_
  refine RW.gop rfl rfl rfl rfl rfl rfl (eff_callT (three_ret 0) co40 rfl rfl rfl rfl) ?_
  refine RW.gop rfl rfl rfl rfl rfl rfl (eff_callT (check_ret winF (threeF 0) (by decide) (by decide)) co16 rfl rfl rfl rfl) ?_
  refine RW.gop rfl rfl rfl rfl rfl rfl (eff_iop (r := .bool true) rfl rfl rfl rfl (by rw [lc0]; rfl)) ?_
  refine RW.op rfl rfl (eff_pick (v := .t _) rfl rfl rfl rfl) ?_
  refine RW.op rfl rfl (eff_move (v := .t _) rfl rfl rfl) ?_
  refine RW.gop rfl rfl rfl rfl rfl rfl (eff_move (v := .t _) rfl rfl rfl) ?_
  refine RW.gnew rfl rfl rfl rfl rfl rfl (eff_makeSliceM (id := 120) (l := 65) rfl rfl te23 tz42 rfl (by decide) tb42 rfl rfl rfl rfl (by decide) (by decide) rfl rfl) ?_
  refine RW.gop rfl rfl rfl rfl rfl rfl (eff_callB (ys := [.sl (winF.map encW) false, .sl ((List.replicate 65 zb).map encB) false]) (caps := []) rfl rfl rfl (.t _) co16 (ResL.cons (.t _) (.refl _) (ResL.cons (Res.ownT (xs := (List.replicate 65 zb).map encB) rfl rfl rfl rfl) (.refl _) .nil)) (by rw [List.append_nil]; exact check_ret winF (List.replicate 65 zb) (by decide) (by decide)) rfl) ?_
  refine RW.gop rfl rfl rfl rfl rfl rfl (eff_iop (r := .bool true) rfl rfl rfl rfl (by rw [lc65]; rfl)) ?_
  refine RW.op rfl rfl (eff_pick (v := .t _) rfl rfl rfl rfl) ?_
  refine RW.op rfl rfl (eff_assign (v := .t _) rfl rfl rfl) ?_
  refine RW.nil ?_
  refine awp_ret ?_
  exact ⟨Or.inr rfl, [_], ⟨.tmp (.t _), trivial⟩, .refl _⟩

end Go.Tv.C35

end
section
open Go Go.Tv Go.Proofs
namespace Go.Tv.C35
set_option maxRecDepth 20000

theorem map_of {α : Type} {f : α → Tr} {p : α → Prop} : ∀ {els : List Tr}, (∀ x, x ∈ els → ∃ n, p n ∧ x = f n) → ∃ l : List α, els = l.map f ∧ ∀ n, n ∈ l → p n
  | [], _ => ⟨[], rfl, fun n h => by simp at h⟩
  | x :: els, h => by
    obtain ⟨n, hp, rfl⟩ := h x List.mem_cons_self
    obtain ⟨l, rfl, hl⟩ := map_of (els := els) (fun y hy => h y (List.mem_cons_of_mem _ hy))
    exact ⟨n :: l, rfl, fun m hm => (List.mem_cons.1 hm).elim (fun e => e ▸ hp) (hl m)⟩
theorem rd3 : Reads Try.prog 3 1 (fun ts => ∃ n, ts = [encI n] ∧ I64 n) := (reads_int Try.underlying3 (by kernel_rfl)).mono (fun ts ⟨n, h, hw⟩ => ⟨n, h, wf_i64 hw⟩)
theorem rd42 : Reads Try.prog 42 5 (fun ts => ∃ b : Bid, encB b = .agg ts ∧ IOKB b) :=
  (reads_struct Try.underlying42 (by kernel_rfl) (rdfs_cons rfl rd3 (rdfs_cons rfl rd3 (rdfs_cons rfl rd3 (rdfs_cons rfl rd3 (rdfs_cons rfl rd3 rdfs_nil)))))).mono (by
    rintro ts ⟨_, _, rfl, ⟨a, rfl, h1⟩, _, _, rfl, ⟨b, rfl, h2⟩, _, _, rfl, ⟨c, rfl, h3⟩, _, _, rfl, ⟨d, rfl, h4⟩, _, _, rfl, ⟨e, rfl, h5⟩, rfl⟩
    exact ⟨⟨a, b, c, d, e⟩, rfl, h1, h2, h3, h4, h5⟩)
theorem rd23 : Reads Try.prog 23 1 (fun ts => ∃ l : List Bid, ts = [.sl (l.map encB) false] ∧ l.length ≤ maxLen ∧ ∀ x, x ∈ l → IOKB x) := reads_slices Try.underlying23 (by kernel_rfl) (by decide) rd42
end Go.Tv.C35

end
section
open Go Go.Tv Go.Proofs
namespace Go.Tv.C35
set_option maxRecDepth 20000
set_option maxHeartbeats 2000000
set_option linter.unusedSimpArgs false
set_option linter.unusedVariables false
theorem law5 (raw : List Bid) (sn i : Int) (hI : ∀ b, b ∈ raw → IOKB b) (hl : raw.length ≤ 9223372036854775807) : Ret Try.prog 5 [.sl (raw.map encB) false, encI sn, encI i] (.bool true) := by
  have hB := made_okl raw (most := 8) (by decide)
  have hBn := made_len raw 8
  have hst := made_st raw 8
  refine ret_of_awp Try.func5 rfl (Nat.le_of_ble_eq_true rfl) ?_
  refine awp_seq ?_
  refine awp_rw rfl ?_
  refine RW.op rfl rfl (eff_assign (v := .t _) rfl rfl rfl) ?_
  refine RW.nil ?_
  refine awp_seq ?_
  refine awp_rw rfl ?_
  refine RW.op rfl rfl (eff_move (v := .t _) rfl rfl rfl) ?_
  refine RW.op rfl rfl (eff_callT (made_ret raw 8 hI hl (by decide)) co18 rfl rfl rfl rfl) ?_
  refine RW.op rfl rfl (eff_assign (v := .t _) rfl rfl rfl) ?_
  refine RW.nil ?_
  refine awp_seq ?_
  refine awp_rw rfl ?_
  refine RW.op rfl rfl (eff_move (v := .t _) rfl rfl rfl) ?_
  refine RW.op rfl rfl (eff_move (v := .t _) rfl rfl rfl) ?_
  refine RW.op rfl rfl (eff_move (v := .t _) rfl rfl rfl) ?_
  refine RW.op rfl rfl (eff_callT (price_ret (madeF raw 8) sn i hB) co24 rfl rfl rfl rfl) ?_
  refine RW.op rfl rfl (eff_move (v := .t _) rfl rfl rfl) ?_
  refine RW.op rfl rfl (eff_move (v := .t _) rfl rfl rfl) ?_
  refine RW.op rfl rfl (eff_move (v := .t _) rfl rfl rfl) ?_
  refine RW.op rfl rfl (eff_callT (rprice_ret (madeF raw 8) sn i hB (by omega) (fun b hb => (hst b hb).1)) co25 rfl rfl rfl rfl) ?_
  refine RW.op rfl rfl (eff_iop (r := .bool true) rfl rfl rfl rfl (by exact congrArg (fun x => some (Tr.bool x)) (beq_self_eq_true _))) ?_
  refine RW.op rfl rfl (eff_move (v := .t _) rfl rfl rfl) ?_
  refine RW.gop rfl rfl rfl rfl rfl rfl (eff_move (v := .t _) rfl rfl rfl) ?_
  refine RW.gop rfl rfl rfl rfl rfl rfl (eff_callT (assign_ret (madeF raw 8) hB) co26 rfl rfl rfl rfl) ?_
  refine RW.gop rfl rfl rfl rfl rfl rfl (eff_move (v := .t _) rfl rfl rfl) ?_
  refine RW.gop rfl rfl rfl rfl rfl rfl (eff_callT (rassign_ret (madeF raw 8) hB (by omega)) co27 rfl rfl rfl rfl) ?_
  refine RW.gop rfl rfl rfl rfl rfl rfl (eff_callT (same_true (l := sortI (toI (outF (madeF raw 8) 9))) (q := sortI (toI (outF (madeF raw 8) 9))) (by rw [sortI_length, toI_len]; have := out_len hB 9; omega) (by rw [sortI_length, toI_len]; have := out_len hB 9; omega) (rfl)) co19 rfl rfl rfl rfl) ?_
  refine RW.op rfl rfl (eff_pick (v := .t _) rfl rfl rfl rfl) ?_
  refine RW.op rfl rfl (eff_move (v := .t _) rfl rfl rfl) ?_
  refine RW.gop rfl rfl rfl rfl rfl rfl (eff_callT (lives_ret) co12 rfl rfl rfl rfl) ?_
  refine RW.op rfl rfl (eff_pick (v := .t _) rfl rfl rfl rfl) ?_
  refine RW.op rfl rfl (eff_assign (v := .t _) rfl rfl rfl) ?_
  refine RW.nil ?_
  refine awp_ret ?_
  exact ⟨Or.inr rfl, [_], ⟨.tmp (.t _), trivial⟩, .refl _⟩

end Go.Tv.C35

end
section
namespace Go.Proofs.Ytheklenmejhdoaa
open Go Go.Tv Go.Tv.C35 Go.ChangeShapes Go.WideShapes Go.ChangeAt Go.RowKit
set_option linter.unusedVariables false
set_option maxRecDepth 100000
theorem planPrices_contract (H : Type) (enc : TypeId × Value → H) (W : World) (base : Nat) (args : Array Value) (ds gs : List (DataW H)) (before : List MemPlace)
    (hval : ∀ (j : Nat) t v, Try.f5.params[j]? = some t → args[j]? = some v → Value.okWide Try.prog W .any base t v)
    (hW : DataW.Whole enc Try.prog Try.f5.params.toList Rows.planPricesSpec.vars false W args.toList ds gs before) :
    Calls Try.prog 5 args W fun e W' => ∃ v, e = .returned v ∧ Rows.planPricesSpec.post enc Try.prog Try.f5 false true false false W args v W' := by
  have hW' := hW
  obtain ⟨p, q, hA0, hV, rfl, hfz, hnd⟩ := hW
  have hA : DataW.TrodAll enc Try.prog W 0 (fun _ => true) true Try.f5.params.toList args.toList ds p := hA0
  rw [Try.params5] at hA hval
  obtain ⟨v0, vs0, d0, ds0, p0, q0, hargs, rfl, rfl, h0, r0⟩ := trodAll_cons hA
  obtain ⟨v1, vs1, d1, ds1, p1, q1, rfl, rfl, rfl, h1, r1⟩ := trodAll_cons r0
  obtain ⟨v2, vs2, d2, ds2, p2, q2, rfl, rfl, rfl, h2, r2⟩ := trodAll_cons r1
  obtain ⟨rfl, rfl, rfl⟩ := trodAll_nil r2
  obtain rfl : args = #[v0, v1, v2] := by cases args; simp_all
  obtain ⟨rfl, rfl⟩ := trodVars_none hV
  have k0 := hval 0 23 v0 rfl rfl
  obtain ⟨xb, hxb, b, hlb, hmb, hpb⟩ := arg_slice Try.underlying23 rd23 k0 h0
  obtain rfl : xb = .sl (b.map encB) false := by simpa using hlb
  unfold maxLen at hmb
  have hnb : b.length ≤ 9223372036854775807 := by simpa using hmb
  have k1 := hval 1 3 v1 rfl rfl
  obtain ⟨n, rfl, wn⟩ := arg_int Try.underlying3 k1 h1
  have hpn := wf_i64 wn
  have k2 := hval 2 3 v2 rfl rfl
  obtain ⟨i, rfl, wi⟩ := arg_int Try.underlying3 k2 h2
  have hpi := wf_i64 wi
  refine (law_calls (law5 b n i hpb hnb) (vl_cons hxb (vl_cons (.int .i64 n) (vl_cons (.int .i64 i) vl_nil)))).mono ?_
  rintro e W' ⟨rfl, hb⟩
  refine ⟨_, rfl, law_post (P := Try.prog) (by kernel_rfl) rfl (fun t ht => ?_) rfl Try.underlying4 hW' ⟨rfl, rfl, rfl⟩ hb⟩
  rw [Try.params5] at ht
  simp only [List.mem_cons, List.not_mem_nil, or_false] at ht
  rcases ht with rfl | rfl | rfl <;> exact ⟨by kernel_rfl, Nat.le_of_ble_eq_true (by kernel_rfl)⟩

theorem planPrices_lifted (os : Os) (started : os.Started) (H : Type) (enc : TypeId × Value → H) :
    ReturnsInHanded {} Try.checked os 5 .any (Rows.planPricesSpec.pre6 enc Try.prog Try.f5 Rows.planPricesRow.domain false) (Rows.planPricesSpec.post enc Try.prog Try.f5 false true false false) := by
  refine returnsInHanded_of_change (C := Try.checked) (by kernel_rfl) started (by kernel_rfl) Try.func5
    (ChangeSpec.witness6 (enc := enc) (C := Try.checked) false ⟨#[], #[.slice none 0 0, .int .i64 0, .int .i64 0], []⟩ 8 (by kernel_rfl) (by kernel_rfl) (by kernel_rfl) (by kernel_rfl)) ?_
  intro W base args ds gs before hval hW _ _
  exact planPrices_contract H enc W base args ds gs before hval hW

theorem planPrices_holds : Rows.PlanPricesSaid :=
  OpenClaim.holds_of_wide 5 Try.f5 rfl rfl rfl rfl rfl rfl rfl ⟨rfl, rfl, rfl, rfl, rfl⟩ rfl rfl rfl rfl rfl (by kernel_rfl) Try.func5 (by kernel_rfl)
    (of_decide_eq_true (by kernel_rfl)) (by unfold Func.isWrapper; first | (rw [if_pos (by decide +kernel)]; kernel_rfl) | (rw [if_neg (by decide +kernel)]; exact ⟨rfl, rfl⟩))
    (fun os started H enc _ => planPrices_lifted os started H enc)

end Go.Proofs.Ytheklenmejhdoaa

end
