/- Part of the proof that the laws of this seat return true for every input. No condition. -/
import Derived.Test.YtlapnahjboljiaaT2
import Derived.Test.YtlapnahjboljiaaT1
section
open Go Go.Tv Go.Proofs
namespace Go.Tv.C24
set_option maxRecDepth 20000
set_option maxHeartbeats 2000000
set_option linter.unusedSimpArgs false
set_option linter.unusedVariables false
theorem incrA_ret (l : List Acc) (hl : l.length ≤ 1000) : Ret Try.prog 35 [.sl (l.map encA) false, .fn 36 []] (.bool (decide (incrA l))) := by
  refine ret_of_awp Try.func35 rfl (Nat.le_of_ble_eq_true rfl) ?_
  refine awp_seq ?_
  refine awp_rw rfl ?_
  refine RW.op rfl rfl (eff_assign (v := .t _) rfl rfl rfl) ?_
  refine RW.nil ?_
  refine awp_seq ?_
  refine awp_seq ?_
  refine awp_rw rfl ?_
  refine RW.op rfl rfl (eff_assign (v := .t _) rfl rfl rfl) ?_
  refine RW.nil ?_
  refine awp_block ?_
  refine awp_loopW (fun m s => ∃ (i : Nat), (i ≤ l.length ∨ i = 1) ∧ (0 < i) ∧ (((l.take i).map (·.c)).Pairwise (· < ·)) ∧ m = l.length + 1 - i ∧ s = ⟨26, [(0, .t (.sl (l.map encA) false)), (1, .t (.fn 36 [])), (5, .t (encI (i : Nat)))], []⟩) (_) (⟨_, weak_keep (n := 26) (fr' := [(0, .t (.sl (l.map encA) false)), (1, .t (.fn 36 [])), (5, .t (encI (1 : Nat)))]) (st' := []) ⟨rfl, rfl, rfl, rfl, rfl, rfl, trivial⟩ trivial, 1, (by omega), (by omega), (by rcases l with _ | ⟨a, l⟩ <;> simp), rfl, rfl⟩) ?_
  rintro m s ⟨i, hi, h0, ha, rfl, rfl⟩
  refine awp_seq ?_
  refine awp_seq ?_
  refine awp_rw rfl ?_
  refine RW.op rfl rfl (eff_move (v := .t _) rfl rfl rfl) ?_
  refine RW.op rfl rfl (eff_move (v := .t _) rfl rfl rfl) ?_
  refine RW.op rfl rfl (eff_lenM rfl rfl te22 rfl) ?_
  refine RW.op rfl rfl (eff_iop rfl rfl rfl rfl rfl) ?_
  refine RW.nil ?_
  refine awp_cond rfl (fun h1 => ?_) (fun h1 => ?_)
  · try simp only [decide_eq_true_eq, decide_eq_false_iff_not, beq_iff_eq, bne_iff_ne, bne_eq_false_iff_eq, beq_eq_false_iff_ne, Bool.not_eq_true, Bool.not_eq_false, Bool.not_eq_true', Bool.not_eq_false', ne_eq] at h1
    refine awp_skip ?_
    refine awp_seq ?_
    refine awp_block ?_
    refine awp_seq ?_
    refine awp_rd [(some 12, []), (some 13, []), (some 14, []), (some 15, []), (some 16, []), (some 17, []), (some 18, []), (some 19, []), (some 20, []), (some 21, []), (some 22, []), (some 23, []), (some 24, []), (some 25, [])] [[], [], [], [2], [1, 2, 3], [1, 2, 3, 4], [0, 1, 2, 3, 4, 5], [], [], [], [8, 9], [8, 9, 10], [0, 1, 2, 3, 4, 5, 6, 7, 8, 9, 10, 11], [0, 1, 2, 3, 4, 5, 6, 7, 8, 9, 10, 11, 12]] tm rfl rfl rfl rfl ?_
    refine RD.op rfl rfl rfl (eff_move (v := .t _) rfl rfl rfl) ?_
    refine RD.op rfl rfl rfl (eff_move (v := .t _) rfl rfl rfl) ?_
    refine RD.op rfl rfl rfl (eff_move (v := .t _) rfl rfl rfl) ?_
    refine RD.op rfl rfl rfl (eff_iop rfl rfl rfl rfl (isub (by omega))) ?_
    refine RD.op rfl rfl rfl (eff_indexM (i := i - 1) rfl rfl te22 rfl rfl (by first | rfl | omega) (by exact List.getElem?_eq_getElem (by omega)) rfl (by decide)) ?_
    refine RD.op rfl rfl rfl (eff_loadW rfl rfl ti57 rfl rfl rfl) ?_
    refine RD.op rfl rfl rfl (eff_callT (customer_ret (l[i - 1]'(by omega))) co36 rfl rfl rfl rfl) ?_
    refine RD.op rfl rfl rfl (eff_move (v := .t _) rfl rfl rfl) ?_
    refine RD.op rfl rfl rfl (eff_move (v := .t _) rfl rfl rfl) ?_
    refine RD.op rfl rfl rfl (eff_move (v := .t _) rfl rfl rfl) ?_
    refine RD.op rfl rfl rfl (eff_indexM rfl rfl te22 rfl rfl rfl (by first | assumption | exact List.getElem?_eq_getElem (by omega)) rfl (by decide)) ?_
    refine RD.op rfl rfl rfl (eff_loadW rfl rfl ti57 rfl rfl rfl) ?_
    refine RD.op rfl rfl rfl (eff_callT (customer_ret (l[i]'(by omega))) co36 rfl rfl rfl rfl) ?_
    refine RD.op rfl rfl rfl (eff_iop rfl rfl rfl rfl rfl) ?_
    refine RD.nil ?_
    refine awp_cond rfl (fun h2 => ?_) (fun h2 => ?_)
    · try simp only [decide_eq_true_eq, decide_eq_false_iff_not, beq_iff_eq, bne_iff_ne, bne_eq_false_iff_eq, beq_eq_false_iff_ne, Bool.not_eq_true, Bool.not_eq_false, Bool.not_eq_true', Bool.not_eq_false', ne_eq] at h2
      refine awp_seq ?_
      refine awp_rw rfl ?_
      refine RW.op rfl rfl (eff_assign (v := .t _) rfl rfl rfl) ?_
      refine RW.nil ?_
      refine awp_ret ?_
      rw [show decide (incrA l) = false from decide_eq_false (fun hp => by have hp2 : (l.map (fun x : Acc => x.c)).Pairwise (· < ·) := hp; have := List.pairwise_iff_getElem.1 hp2 (i - 1) i (by simp; omega) (by simp; omega) (by omega); rw [List.getElem_map, List.getElem_map] at this; omega)]
      exact ⟨Or.inr rfl, [_], ⟨.tmp (.t _), trivial⟩, .refl _⟩
    · try simp only [decide_eq_true_eq, decide_eq_false_iff_not, beq_iff_eq, bne_iff_ne, bne_eq_false_iff_eq, beq_eq_false_iff_ne, Bool.not_eq_true, Bool.not_eq_false, Bool.not_eq_true', Bool.not_eq_false', ne_eq] at h2
      refine awp_skip ?_
      refine awp_rw rfl ?_
      refine RW.op rfl rfl (eff_move (v := .t _) rfl rfl rfl) ?_
      refine RW.op rfl rfl (eff_iop rfl rfl rfl rfl (iadd (by omega))) ?_
      refine RW.op rfl rfl (eff_assign (v := .t _) rfl rfl rfl) ?_
      refine RW.nil ?_
      refine ⟨_, ?_, _, weak_keep (n := 26) (fr' := [(0, .t (.sl (l.map encA) false)), (1, .t (.fn 36 [])), (5, .t (encI ((i + 1) : Nat)))]) (st' := []) ⟨rfl, rfl, rfl, rfl, rfl, rfl, trivial⟩ trivial, i + 1, (by omega), (by omega), (by exact incr_stepK (fun x : Acc => x.c) h0 (by omega) ha (by omega)), rfl, rfl⟩
      omega
  · try simp only [decide_eq_true_eq, decide_eq_false_iff_not, beq_iff_eq, bne_iff_ne, bne_eq_false_iff_eq, beq_eq_false_iff_ne, Bool.not_eq_true, Bool.not_eq_false, Bool.not_eq_true', Bool.not_eq_false', ne_eq] at h1
    refine awp_exit ?_
    refine awp_seq ?_
    refine awp_rw rfl ?_
    refine RW.op rfl rfl (eff_assign (v := .t _) rfl rfl rfl) ?_
    refine RW.nil ?_
    refine awp_ret ?_
    rw [List.take_of_length_le (by omega)] at ha
    rw [show decide (incrA l) = true from decide_eq_true ha]
    exact ⟨Or.inr rfl, [_], ⟨.tmp (.t _), trivial⟩, .refl _⟩

theorem incrL_ret (l : List Lea) (hl : l.length ≤ 1000) : Ret Try.prog 37 [.sl (l.map encL) false, .fn 38 []] (.bool (decide (incrL l))) := by
  refine ret_of_awp Try.func37 rfl (Nat.le_of_ble_eq_true rfl) ?_
  refine awp_seq ?_
  refine awp_rw rfl ?_
  refine RW.op rfl rfl (eff_assign (v := .t _) rfl rfl rfl) ?_
  refine RW.nil ?_
  refine awp_seq ?_
  refine awp_seq ?_
  refine awp_rw rfl ?_
  refine RW.op rfl rfl (eff_assign (v := .t _) rfl rfl rfl) ?_
  refine RW.nil ?_
  refine awp_block ?_
  refine awp_loopW (fun m s => ∃ (i : Nat), (i ≤ l.length ∨ i = 1) ∧ (0 < i) ∧ (((l.take i).map (·.id)).Pairwise (· < ·)) ∧ m = l.length + 1 - i ∧ s = ⟨26, [(0, .t (.sl (l.map encL) false)), (1, .t (.fn 38 [])), (5, .t (encI (i : Nat)))], []⟩) (_) (⟨_, weak_keep (n := 26) (fr' := [(0, .t (.sl (l.map encL) false)), (1, .t (.fn 38 [])), (5, .t (encI (1 : Nat)))]) (st' := []) ⟨rfl, rfl, rfl, rfl, rfl, rfl, trivial⟩ trivial, 1, (by omega), (by omega), (by rcases l with _ | ⟨a, l⟩ <;> simp), rfl, rfl⟩) ?_
  rintro m s ⟨i, hi, h0, ha, rfl, rfl⟩
  refine awp_seq ?_
  refine awp_seq ?_
  refine awp_rw rfl ?_
  refine RW.op rfl rfl (eff_move (v := .t _) rfl rfl rfl) ?_
  refine RW.op rfl rfl (eff_move (v := .t _) rfl rfl rfl) ?_
  refine RW.op rfl rfl (eff_lenM rfl rfl te23 rfl) ?_
  refine RW.op rfl rfl (eff_iop rfl rfl rfl rfl rfl) ?_
  refine RW.nil ?_
  refine awp_cond rfl (fun h1 => ?_) (fun h1 => ?_)
  · try simp only [decide_eq_true_eq, decide_eq_false_iff_not, beq_iff_eq, bne_iff_ne, bne_eq_false_iff_eq, beq_eq_false_iff_ne, Bool.not_eq_true, Bool.not_eq_false, Bool.not_eq_true', Bool.not_eq_false', ne_eq] at h1
    refine awp_skip ?_
    refine awp_seq ?_
    refine awp_block ?_
    refine awp_seq ?_
    refine awp_rd [(some 12, []), (some 13, []), (some 14, []), (some 15, []), (some 16, []), (some 17, []), (some 18, []), (some 19, []), (some 20, []), (some 21, []), (some 22, []), (some 23, []), (some 24, []), (some 25, [])] [[], [], [], [2], [1, 2, 3], [1, 2, 3, 4], [0, 1, 2, 3, 4, 5], [], [], [], [8, 9], [8, 9, 10], [0, 1, 2, 3, 4, 5, 6, 7, 8, 9, 10, 11], [0, 1, 2, 3, 4, 5, 6, 7, 8, 9, 10, 11, 12]] tm rfl rfl rfl rfl ?_
    refine RD.op rfl rfl rfl (eff_move (v := .t _) rfl rfl rfl) ?_
    refine RD.op rfl rfl rfl (eff_move (v := .t _) rfl rfl rfl) ?_
    refine RD.op rfl rfl rfl (eff_move (v := .t _) rfl rfl rfl) ?_
    refine RD.op rfl rfl rfl (eff_iop rfl rfl rfl rfl (isub (by omega))) ?_
    refine RD.op rfl rfl rfl (eff_indexM (i := i - 1) rfl rfl te23 rfl rfl (by first | rfl | omega) (by exact List.getElem?_eq_getElem (by omega)) rfl (by decide)) ?_
    refine RD.op rfl rfl rfl (eff_loadW rfl rfl ti44 rfl rfl rfl) ?_
    refine RD.op rfl rfl rfl (eff_callT (id_ret (l[i - 1]'(by omega))) co38 rfl rfl rfl rfl) ?_
    refine RD.op rfl rfl rfl (eff_move (v := .t _) rfl rfl rfl) ?_
    refine RD.op rfl rfl rfl (eff_move (v := .t _) rfl rfl rfl) ?_
    refine RD.op rfl rfl rfl (eff_move (v := .t _) rfl rfl rfl) ?_
    refine RD.op rfl rfl rfl (eff_indexM rfl rfl te23 rfl rfl rfl (by first | assumption | exact List.getElem?_eq_getElem (by omega)) rfl (by decide)) ?_
    refine RD.op rfl rfl rfl (eff_loadW rfl rfl ti44 rfl rfl rfl) ?_
    refine RD.op rfl rfl rfl (eff_callT (id_ret (l[i]'(by omega))) co38 rfl rfl rfl rfl) ?_
    refine RD.op rfl rfl rfl (eff_iop rfl rfl rfl rfl rfl) ?_
    refine RD.nil ?_
    refine awp_cond rfl (fun h2 => ?_) (fun h2 => ?_)
    · try simp only [decide_eq_true_eq, decide_eq_false_iff_not, beq_iff_eq, bne_iff_ne, bne_eq_false_iff_eq, beq_eq_false_iff_ne, Bool.not_eq_true, Bool.not_eq_false, Bool.not_eq_true', Bool.not_eq_false', ne_eq] at h2
      refine awp_seq ?_
      refine awp_rw rfl ?_
      refine RW.op rfl rfl (eff_assign (v := .t _) rfl rfl rfl) ?_
      refine RW.nil ?_
      refine awp_ret ?_
      rw [show decide (incrL l) = false from decide_eq_false (fun hp => by have hp2 : (l.map (fun x : Lea => x.id)).Pairwise (· < ·) := hp; have := List.pairwise_iff_getElem.1 hp2 (i - 1) i (by simp; omega) (by simp; omega) (by omega); rw [List.getElem_map, List.getElem_map] at this; omega)]
      exact ⟨Or.inr rfl, [_], ⟨.tmp (.t _), trivial⟩, .refl _⟩
    · try simp only [decide_eq_true_eq, decide_eq_false_iff_not, beq_iff_eq, bne_iff_ne, bne_eq_false_iff_eq, beq_eq_false_iff_ne, Bool.not_eq_true, Bool.not_eq_false, Bool.not_eq_true', Bool.not_eq_false', ne_eq] at h2
      refine awp_skip ?_
      refine awp_rw rfl ?_
      refine RW.op rfl rfl (eff_move (v := .t _) rfl rfl rfl) ?_
      refine RW.op rfl rfl (eff_iop rfl rfl rfl rfl (iadd (by omega))) ?_
      refine RW.op rfl rfl (eff_assign (v := .t _) rfl rfl rfl) ?_
      refine RW.nil ?_
      refine ⟨_, ?_, _, weak_keep (n := 26) (fr' := [(0, .t (.sl (l.map encL) false)), (1, .t (.fn 38 [])), (5, .t (encI ((i + 1) : Nat)))]) (st' := []) ⟨rfl, rfl, rfl, rfl, rfl, rfl, trivial⟩ trivial, i + 1, (by omega), (by omega), (by exact incr_stepK (fun x : Lea => x.id) h0 (by omega) ha (by omega)), rfl, rfl⟩
      omega
  · try simp only [decide_eq_true_eq, decide_eq_false_iff_not, beq_iff_eq, bne_iff_ne, bne_eq_false_iff_eq, beq_eq_false_iff_ne, Bool.not_eq_true, Bool.not_eq_false, Bool.not_eq_true', Bool.not_eq_false', ne_eq] at h1
    refine awp_exit ?_
    refine awp_seq ?_
    refine awp_rw rfl ?_
    refine RW.op rfl rfl (eff_assign (v := .t _) rfl rfl rfl) ?_
    refine RW.nil ?_
    refine awp_ret ?_
    rw [List.take_of_length_le (by omega)] at ha
    rw [show decide (incrL l) = true from decide_eq_true ha]
    exact ⟨Or.inr rfl, [_], ⟨.tmp (.t _), trivial⟩, .refl _⟩

theorem closure67_ret (x : Acc) (n : Int) : Ret Try.prog 67 [encA x, .ptr [.fn 36 []], .ptr [encI n]] (.bool (x.c == n)) := by
  refine ret_of_awp Try.func67 rfl (Nat.le_of_ble_eq_true rfl) ?_
  refine awp_seq ?_
  refine awp_rw rfl ?_
  refine RW.new rfl rfl (eff_boxK (v := .t _) (k := 4) (id := 3) rfl rfl rfl rfl rfl rfl) ?_
  refine RW.op rfl rfl (eff_assign (v := .t _) rfl rfl rfl) ?_
  refine RW.nil ?_
  refine awp_seq ?_
  refine awp_rd [(some 5, []), (some 6, []), (some 7, []), (some 8, []), (some 9, []), (some 4, [])] [[], [], [0, 1], [], [0, 1, 2, 3], [0, 1, 2, 3, 4]] tm rfl rfl rfl rfl ?_
  refine RD.op rfl rfl rfl (eff_loadT1 rfl rfl ti63 rfl rfl) ?_
  refine RD.op rfl rfl rfl (eff_load rfl rfl ti57 rfl (.whole rfl rfl rfl rfl rfl rfl)) ?_
  refine RD.op rfl rfl rfl (eff_callT (customer_ret x) co36 rfl rfl rfl rfl) ?_
  refine RD.op rfl rfl rfl (eff_loadT1 rfl rfl ti3 rfl rfl) ?_
  refine RD.op rfl rfl rfl (eff_iop rfl rfl rfl rfl rfl) ?_
  refine RD.op rfl rfl rfl (eff_assign (v := .t _) rfl rfl rfl) ?_
  refine RD.nil ?_
  refine awp_ret ?_
  first
    | exact ⟨Or.inr rfl, [_], ⟨.tmp (.t _), trivial⟩, .refl _⟩
    | exact ⟨Or.inr rfl, [_], ⟨.tmp (.t _), trivial⟩, (by repeat' first | exact trivial | exact Wk.refl _ | exact Wk.sl _ | refine And.intro ?_ ?_ | refine Wk.tupP ?_ | refine Wk.aggP ?_)⟩
    | exact ⟨Or.inr rfl, [_], ⟨.tmp (Res.ownT rfl rfl rfl rfl), trivial⟩, .refl _⟩
    | exact ⟨Or.inr rfl, [_], ⟨.tmp (Res.ownT rfl rfl rfl rfl), trivial⟩, (by repeat' first | exact trivial | exact Wk.refl _ | exact Wk.sl _ | refine And.intro ?_ ?_ | refine Wk.tupP ?_ | refine Wk.aggP ?_)⟩

theorem closure74_ret (x : Lea) (n : Int) : Ret Try.prog 74 [encL x, .ptr [.fn 38 []], .ptr [encI n]] (.bool (x.id == n)) := by
  refine ret_of_awp Try.func74 rfl (Nat.le_of_ble_eq_true rfl) ?_
  refine awp_seq ?_
  refine awp_rw rfl ?_
  refine RW.new rfl rfl (eff_boxK (v := .t _) (k := 8) (id := 3) rfl rfl rfl rfl rfl rfl) ?_
  refine RW.op rfl rfl (eff_assign (v := .t _) rfl rfl rfl) ?_
  refine RW.nil ?_
  refine awp_seq ?_
  refine awp_rd [(some 5, []), (some 6, []), (some 7, []), (some 8, []), (some 9, []), (some 4, [])] [[], [], [0, 1], [], [0, 1, 2, 3], [0, 1, 2, 3, 4]] tm rfl rfl rfl rfl ?_
  refine RD.op rfl rfl rfl (eff_loadT1 rfl rfl ti65 rfl rfl) ?_
  refine RD.op rfl rfl rfl (eff_load rfl rfl ti44 rfl (.whole rfl rfl rfl rfl rfl rfl)) ?_
  refine RD.op rfl rfl rfl (eff_callT (id_ret x) co38 rfl rfl rfl rfl) ?_
  refine RD.op rfl rfl rfl (eff_loadT1 rfl rfl ti3 rfl rfl) ?_
  refine RD.op rfl rfl rfl (eff_iop rfl rfl rfl rfl rfl) ?_
  refine RD.op rfl rfl rfl (eff_assign (v := .t _) rfl rfl rfl) ?_
  refine RD.nil ?_
  refine awp_ret ?_
  first
    | exact ⟨Or.inr rfl, [_], ⟨.tmp (.t _), trivial⟩, .refl _⟩
    | exact ⟨Or.inr rfl, [_], ⟨.tmp (.t _), trivial⟩, (by repeat' first | exact trivial | exact Wk.refl _ | exact Wk.sl _ | refine And.intro ?_ ?_ | refine Wk.tupP ?_ | refine Wk.aggP ?_)⟩
    | exact ⟨Or.inr rfl, [_], ⟨.tmp (Res.ownT rfl rfl rfl rfl), trivial⟩, .refl _⟩
    | exact ⟨Or.inr rfl, [_], ⟨.tmp (Res.ownT rfl rfl rfl rfl), trivial⟩, (by repeat' first | exact trivial | exact Wk.refl _ | exact Wk.sl _ | refine And.intro ?_ ?_ | refine Wk.tupP ?_ | refine Wk.aggP ?_)⟩

theorem indexA_ret (l : List Acc) (fn : Nat) (caps : List Tr) (p : Acc → Bool) (hl : l.length ≤ 1000) (hco : callOK Try.prog fn = true) (hp : ∀ x, x ∈ l → Ret Try.prog fn (encA x :: caps) (.bool (p x))) : Ret Try.prog 66 [.sl (l.map encA) false, .fn fn caps] (encI (fIx p l)) := by
  refine ret_of_awp Try.func66 rfl (Nat.le_of_ble_eq_true rfl) ?_
  refine awp_seq ?_
  refine awp_rw rfl ?_
  refine RW.op rfl rfl (eff_assign (v := .t _) rfl rfl rfl) ?_
  refine RW.nil ?_
  refine awp_seq ?_
  refine awp_seq ?_
  refine awp_rw rfl ?_
  refine RW.op rfl rfl (eff_move (v := .t _) rfl rfl rfl) ?_
  refine RW.op rfl rfl (eff_lenM rfl rfl te22 rfl) ?_
  refine RW.op rfl rfl (eff_move (v := .t _) rfl rfl rfl) ?_
  refine RW.nil ?_
  refine awp_block ?_
  refine awp_loopW (fun m s => ∃ (i : Nat), (i ≤ l.length) ∧ (∀ b, b ∈ l.take i → p b = false) ∧ m = l.length - i ∧ s = ⟨19, [(0, .t (.sl (l.map encA) false)), (1, .t (.fn fn caps)), (7, .t (encI l.length)), (8, .t (encI (i : Nat)))], []⟩) (_) (⟨_, weak_keep (n := 19) (fr' := [(0, .t (.sl (l.map encA) false)), (1, .t (.fn fn caps)), (7, .t (encI l.length)), (8, .t (encI (0 : Nat)))]) (st' := []) ⟨rfl, rfl, rfl, rfl, rfl, rfl, rfl, rfl, trivial⟩ trivial, 0, (by omega), (by simp), rfl, rfl⟩) ?_
  rintro m s ⟨i, hi, ha, rfl, rfl⟩
  refine awp_seq ?_
  refine awp_rw rfl ?_
  refine RW.op rfl rfl (eff_iop rfl rfl rfl rfl rfl) ?_
  refine RW.nil ?_
  refine awp_seq ?_
  refine awp_cond rfl (fun h1 => ?_) (fun h1 => ?_)
  · try simp only [decide_eq_true_eq, decide_eq_false_iff_not, beq_iff_eq, bne_iff_ne, bne_eq_false_iff_eq, beq_eq_false_iff_ne, Bool.not_eq_true, Bool.not_eq_false, Bool.not_eq_true', Bool.not_eq_false', ne_eq] at h1
    refine awp_skip ?_
    refine awp_seq ?_
    refine awp_block ?_
    refine awp_seq ?_
    refine awp_rw rfl ?_
    refine RW.op rfl rfl (eff_move (v := .t _) rfl rfl rfl) ?_
    refine RW.op rfl rfl (eff_assign (v := .t _) rfl rfl rfl) ?_
    refine RW.nil ?_
    refine awp_seq ?_
    refine awp_rw rfl ?_
    refine RW.op rfl rfl (eff_move (v := .t _) rfl rfl rfl) ?_
    refine RW.op rfl rfl (eff_move (v := .t _) rfl rfl rfl) ?_
    refine RW.op rfl rfl (eff_move (v := .t _) rfl rfl rfl) ?_
    refine RW.op rfl rfl (eff_indexM rfl rfl te22 rfl rfl rfl (by first | assumption | exact List.getElem?_eq_getElem (by omega)) rfl (by decide)) ?_
    refine RW.op rfl rfl (eff_loadW rfl rfl ti57 rfl rfl rfl) ?_
    refine RW.op rfl rfl (eff_call (f := fn) (xs := [_]) (ys := [_]) (caps := caps) rfl rfl rfl hco rfl (WkL.cons (.refl _) .nil) (hp _ (List.getElem_mem (show i < l.length by omega)))) ?_
    refine RW.nil ?_
    refine awp_cond rfl (fun h2 => ?_) (fun h2 => ?_)
    · try simp only [decide_eq_true_eq, decide_eq_false_iff_not, beq_iff_eq, bne_iff_ne, bne_eq_false_iff_eq, beq_eq_false_iff_ne, Bool.not_eq_true, Bool.not_eq_false, Bool.not_eq_true', Bool.not_eq_false', ne_eq] at h2
      refine awp_seq ?_
      refine awp_rw rfl ?_
      refine RW.op rfl rfl (eff_move (v := .t _) rfl rfl rfl) ?_
      refine RW.op rfl rfl (eff_assign (v := .t _) rfl rfl rfl) ?_
      refine RW.nil ?_
      refine awp_ret ?_
      rw [fIx_hit (by omega) ha h2]
      exact ⟨Or.inr rfl, [_], ⟨.tmp (.t _), trivial⟩, .refl _⟩
    · try simp only [decide_eq_true_eq, decide_eq_false_iff_not, beq_iff_eq, bne_iff_ne, bne_eq_false_iff_eq, beq_eq_false_iff_ne, Bool.not_eq_true, Bool.not_eq_false, Bool.not_eq_true', Bool.not_eq_false', ne_eq] at h2
      refine awp_skip ?_
      refine awp_rw rfl ?_
      refine RW.op rfl rfl (eff_iop rfl rfl rfl rfl (iadd (by omega))) ?_
      refine RW.op rfl rfl (eff_move (v := .t _) rfl rfl rfl) ?_
      refine RW.nil ?_
      refine ⟨_, ?_, _, weak_keep (n := 19) (fr' := [(0, .t (.sl (l.map encA) false)), (1, .t (.fn fn caps)), (7, .t (encI l.length)), (8, .t (encI ((i + 1) : Nat)))]) (st' := []) ⟨rfl, rfl, rfl, rfl, rfl, rfl, rfl, rfl, trivial⟩ trivial, i + 1, (by omega), (by intro b hb; rcases (mem_take_succ (by omega)).1 hb with h | h; exact ha b h; rw [h]; exact h2), rfl, rfl⟩
      omega
  · try simp only [decide_eq_true_eq, decide_eq_false_iff_not, beq_iff_eq, bne_iff_ne, bne_eq_false_iff_eq, beq_eq_false_iff_ne, Bool.not_eq_true, Bool.not_eq_false, Bool.not_eq_true', Bool.not_eq_false', ne_eq] at h1
    refine awp_exit ?_
    refine awp_seq ?_
    refine awp_rw rfl ?_
    refine RW.op rfl rfl (eff_assign (v := .t _) rfl rfl rfl) ?_
    refine RW.nil ?_
    refine awp_ret ?_
    have hi2 : i = l.length := by omega
    subst hi2
    rw [List.take_length] at ha
    rw [fIx_none ha]
    exact ⟨Or.inr rfl, [_], ⟨.tmp (.t _), trivial⟩, .refl _⟩

theorem indexL_ret (l : List Lea) (fn : Nat) (caps : List Tr) (p : Lea → Bool) (hl : l.length ≤ 1000) (hco : callOK Try.prog fn = true) (hp : ∀ x, x ∈ l → Ret Try.prog fn (encL x :: caps) (.bool (p x))) : Ret Try.prog 68 [.sl (l.map encL) false, .fn fn caps] (encI (fIx p l)) := by
  refine ret_of_awp Try.func68 rfl (Nat.le_of_ble_eq_true rfl) ?_
  refine awp_seq ?_
  refine awp_rw rfl ?_
  refine RW.op rfl rfl (eff_assign (v := .t _) rfl rfl rfl) ?_
  refine RW.nil ?_
  refine awp_seq ?_
  refine awp_seq ?_
  refine awp_rw rfl ?_
  refine RW.op rfl rfl (eff_move (v := .t _) rfl rfl rfl) ?_
  refine RW.op rfl rfl (eff_lenM rfl rfl te23 rfl) ?_
  refine RW.op rfl rfl (eff_move (v := .t _) rfl rfl rfl) ?_
  refine RW.nil ?_
  refine awp_block ?_
  refine awp_loopW (fun m s => ∃ (i : Nat), (i ≤ l.length) ∧ (∀ b, b ∈ l.take i → p b = false) ∧ m = l.length - i ∧ s = ⟨19, [(0, .t (.sl (l.map encL) false)), (1, .t (.fn fn caps)), (7, .t (encI l.length)), (8, .t (encI (i : Nat)))], []⟩) (_) (⟨_, weak_keep (n := 19) (fr' := [(0, .t (.sl (l.map encL) false)), (1, .t (.fn fn caps)), (7, .t (encI l.length)), (8, .t (encI (0 : Nat)))]) (st' := []) ⟨rfl, rfl, rfl, rfl, rfl, rfl, rfl, rfl, trivial⟩ trivial, 0, (by omega), (by simp), rfl, rfl⟩) ?_
  rintro m s ⟨i, hi, ha, rfl, rfl⟩
  refine awp_seq ?_
  refine awp_rw rfl ?_
  refine RW.op rfl rfl (eff_iop rfl rfl rfl rfl rfl) ?_
  refine RW.nil ?_
  refine awp_seq ?_
  refine awp_cond rfl (fun h1 => ?_) (fun h1 => ?_)
  · try simp only [decide_eq_true_eq, decide_eq_false_iff_not, beq_iff_eq, bne_iff_ne, bne_eq_false_iff_eq, beq_eq_false_iff_ne, Bool.not_eq_true, Bool.not_eq_false, Bool.not_eq_true', Bool.not_eq_false', ne_eq] at h1
    refine awp_skip ?_
    refine awp_seq ?_
    refine awp_block ?_
    refine awp_seq ?_
    refine awp_rw rfl ?_
    refine RW.op rfl rfl (eff_move (v := .t _) rfl rfl rfl) ?_
    refine RW.op rfl rfl (eff_assign (v := .t _) rfl rfl rfl) ?_
    refine RW.nil ?_
    refine awp_seq ?_
    refine awp_rw rfl ?_
    refine RW.op rfl rfl (eff_move (v := .t _) rfl rfl rfl) ?_
    refine RW.op rfl rfl (eff_move (v := .t _) rfl rfl rfl) ?_
    refine RW.op rfl rfl (eff_move (v := .t _) rfl rfl rfl) ?_
    refine RW.op rfl rfl (eff_indexM rfl rfl te23 rfl rfl rfl (by first | assumption | exact List.getElem?_eq_getElem (by omega)) rfl (by decide)) ?_
    refine RW.op rfl rfl (eff_loadW rfl rfl ti44 rfl rfl rfl) ?_
    refine RW.op rfl rfl (eff_call (f := fn) (xs := [_]) (ys := [_]) (caps := caps) rfl rfl rfl hco rfl (WkL.cons (.refl _) .nil) (hp _ (List.getElem_mem (show i < l.length by omega)))) ?_
    refine RW.nil ?_
    refine awp_cond rfl (fun h2 => ?_) (fun h2 => ?_)
    · try simp only [decide_eq_true_eq, decide_eq_false_iff_not, beq_iff_eq, bne_iff_ne, bne_eq_false_iff_eq, beq_eq_false_iff_ne, Bool.not_eq_true, Bool.not_eq_false, Bool.not_eq_true', Bool.not_eq_false', ne_eq] at h2
      refine awp_seq ?_
      refine awp_rw rfl ?_
      refine RW.op rfl rfl (eff_move (v := .t _) rfl rfl rfl) ?_
      refine RW.op rfl rfl (eff_assign (v := .t _) rfl rfl rfl) ?_
      refine RW.nil ?_
      refine awp_ret ?_
      rw [fIx_hit (by omega) ha h2]
      exact ⟨Or.inr rfl, [_], ⟨.tmp (.t _), trivial⟩, .refl _⟩
    · try simp only [decide_eq_true_eq, decide_eq_false_iff_not, beq_iff_eq, bne_iff_ne, bne_eq_false_iff_eq, beq_eq_false_iff_ne, Bool.not_eq_true, Bool.not_eq_false, Bool.not_eq_true', Bool.not_eq_false', ne_eq] at h2
      refine awp_skip ?_
      refine awp_rw rfl ?_
      refine RW.op rfl rfl (eff_iop rfl rfl rfl rfl (iadd (by omega))) ?_
      refine RW.op rfl rfl (eff_move (v := .t _) rfl rfl rfl) ?_
      refine RW.nil ?_
      refine ⟨_, ?_, _, weak_keep (n := 19) (fr' := [(0, .t (.sl (l.map encL) false)), (1, .t (.fn fn caps)), (7, .t (encI l.length)), (8, .t (encI ((i + 1) : Nat)))]) (st' := []) ⟨rfl, rfl, rfl, rfl, rfl, rfl, rfl, rfl, trivial⟩ trivial, i + 1, (by omega), (by intro b hb; rcases (mem_take_succ (by omega)).1 hb with h | h; exact ha b h; rw [h]; exact h2), rfl, rfl⟩
      omega
  · try simp only [decide_eq_true_eq, decide_eq_false_iff_not, beq_iff_eq, bne_iff_ne, bne_eq_false_iff_eq, beq_eq_false_iff_ne, Bool.not_eq_true, Bool.not_eq_false, Bool.not_eq_true', Bool.not_eq_false', ne_eq] at h1
    refine awp_exit ?_
    refine awp_seq ?_
    refine awp_rw rfl ?_
    refine RW.op rfl rfl (eff_assign (v := .t _) rfl rfl rfl) ?_
    refine RW.nil ?_
    refine awp_ret ?_
    have hi2 : i = l.length := by omega
    subst hi2
    rw [List.take_length] at ha
    rw [fIx_none ha]
    exact ⟨Or.inr rfl, [_], ⟨.tmp (.t _), trivial⟩, .refl _⟩

theorem containsL_ret (l : List Lea) (fn : Nat) (caps : List Tr) (p : Lea → Bool) (hl : l.length ≤ 1000) (hco : callOK Try.prog fn = true) (hp : ∀ x, x ∈ l → Ret Try.prog fn (encL x :: caps) (.bool (p x))) : Ret Try.prog 41 [.sl (l.map encL) false, .fn fn caps] (.bool (l.any p)) := by
  refine ret_of_awp Try.func41 rfl (Nat.le_of_ble_eq_true rfl) ?_
  refine awp_seq ?_
  refine awp_rw rfl ?_
  refine RW.op rfl rfl (eff_assign (v := .t _) rfl rfl rfl) ?_
  refine RW.nil ?_
  refine awp_seq ?_
  refine awp_rw rfl ?_
  refine RW.op rfl rfl (eff_move (v := .t _) rfl rfl rfl) ?_
  refine RW.op rfl rfl (eff_move (v := .t _) rfl rfl rfl) ?_
  refine RW.op rfl rfl (eff_callT (indexL_ret l fn caps p hl hco hp) co68 rfl rfl rfl rfl) ?_
  refine RW.op rfl rfl (eff_iop rfl rfl rfl rfl rfl) ?_
  refine RW.op rfl rfl (eff_assign (v := .t _) rfl rfl rfl) ?_
  refine RW.nil ?_
  refine awp_ret ?_
  rw [← any_fIx]
  exact ⟨Or.inr rfl, [_], ⟨.tmp (.t _), trivial⟩, .refl _⟩

theorem containsA_ret (l : List Acc) (fn : Nat) (caps : List Tr) (p : Acc → Bool) (hl : l.length ≤ 1000) (hco : callOK Try.prog fn = true) (hp : ∀ x, x ∈ l → Ret Try.prog fn (encA x :: caps) (.bool (p x))) : Ret Try.prog 63 [.sl (l.map encA) false, .fn fn caps] (.bool (l.any p)) := by
  refine ret_of_awp Try.func63 rfl (Nat.le_of_ble_eq_true rfl) ?_
  refine awp_seq ?_
  refine awp_rw rfl ?_
  refine RW.op rfl rfl (eff_assign (v := .t _) rfl rfl rfl) ?_
  refine RW.nil ?_
  refine awp_seq ?_
  refine awp_rw rfl ?_
  refine RW.op rfl rfl (eff_move (v := .t _) rfl rfl rfl) ?_
  refine RW.op rfl rfl (eff_move (v := .t _) rfl rfl rfl) ?_
  refine RW.op rfl rfl (eff_callT (indexA_ret l fn caps p hl hco hp) co66 rfl rfl rfl rfl) ?_
  refine RW.op rfl rfl (eff_iop rfl rfl rfl rfl rfl) ?_
  refine RW.op rfl rfl (eff_assign (v := .t _) rfl rfl rfl) ?_
  refine RW.nil ?_
  refine awp_ret ?_
  rw [← any_fIx]
  exact ⟨Or.inr rfl, [_], ⟨.tmp (.t _), trivial⟩, .refl _⟩

theorem findA_ret (l : List Acc) (n : Int) (hl : l.length ≤ 1000) : Ret Try.prog 40 [.sl (l.map encA) false, encI n, .fn 36 []] (encI (accIx l n)) := by
  refine ret_of_awp Try.func40 rfl (Nat.le_of_ble_eq_true rfl) ?_
  refine awp_seq ?_
  refine awp_rw rfl ?_
  refine RW.new rfl rfl (eff_boxK (v := .t _) (k := 1) (id := 4) rfl rfl rfl rfl rfl rfl) ?_
  refine RW.new rfl rfl (eff_boxK (v := .t _) (k := 1) (id := 5) rfl rfl rfl rfl rfl rfl) ?_
  refine RW.op rfl rfl (eff_assign (v := .t _) rfl rfl rfl) ?_
  refine RW.nil ?_
  refine awp_seq ?_
  refine awp_rw rfl ?_
  refine RW.op rfl rfl (eff_move (v := .t _) rfl rfl rfl) ?_
  refine RW.op rfl rfl (eff_makeFunc rfl rfl rfl rfl) ?_
  refine RW.op rfl rfl (eff_callB (ys := [_, _]) (caps := []) rfl rfl rfl (.t _) co66 (ResL.cons (.t _) (.refl _) (ResL.cons (Res.fnP (xs := [.ptr [.fn 36 []], .ptr [encI n]]) ⟨Res.ptrT (x := .fn 36 []) rfl rfl rfl, Res.ptrT (x := encI n) rfl rfl rfl, trivial⟩) (.refl _) .nil)) (by rw [List.append_nil]; exact indexA_ret l 67 [.ptr [.fn 36 []], .ptr [encI n]] (fun a => a.c == n) hl co67 (fun x _ => closure67_ret x n)) rfl) ?_
  refine RW.op rfl rfl (eff_assign (v := .t _) rfl rfl rfl) ?_
  refine RW.nil ?_
  refine awp_ret ?_
  first
    | exact ⟨Or.inr rfl, [_], ⟨.tmp (.t _), trivial⟩, .refl _⟩
    | exact ⟨Or.inr rfl, [_], ⟨.tmp (.t _), trivial⟩, (by repeat' first | exact trivial | exact Wk.refl _ | exact Wk.sl _ | refine And.intro ?_ ?_ | refine Wk.tupP ?_ | refine Wk.aggP ?_)⟩
    | exact ⟨Or.inr rfl, [_], ⟨.tmp (Res.ownT rfl rfl rfl rfl), trivial⟩, .refl _⟩
    | exact ⟨Or.inr rfl, [_], ⟨.tmp (Res.ownT rfl rfl rfl rfl), trivial⟩, (by repeat' first | exact trivial | exact Wk.refl _ | exact Wk.sl _ | refine And.intro ?_ ?_ | refine Wk.tupP ?_ | refine Wk.aggP ?_)⟩

theorem findL_ret (l : List Lea) (n : Int) (hl : l.length ≤ 1000) : Ret Try.prog 52 [.sl (l.map encL) false, encI n, .fn 38 []] (encI (leaIx l n)) := by
  refine ret_of_awp Try.func52 rfl (Nat.le_of_ble_eq_true rfl) ?_
  refine awp_seq ?_
  refine awp_rw rfl ?_
  refine RW.new rfl rfl (eff_boxK (v := .t _) (k := 1) (id := 4) rfl rfl rfl rfl rfl rfl) ?_
  refine RW.new rfl rfl (eff_boxK (v := .t _) (k := 1) (id := 5) rfl rfl rfl rfl rfl rfl) ?_
  refine RW.op rfl rfl (eff_assign (v := .t _) rfl rfl rfl) ?_
  refine RW.nil ?_
  refine awp_seq ?_
  refine awp_rw rfl ?_
  refine RW.op rfl rfl (eff_move (v := .t _) rfl rfl rfl) ?_
  refine RW.op rfl rfl (eff_makeFunc rfl rfl rfl rfl) ?_
  refine RW.op rfl rfl (eff_callB (ys := [_, _]) (caps := []) rfl rfl rfl (.t _) co68 (ResL.cons (.t _) (.refl _) (ResL.cons (Res.fnP (xs := [.ptr [.fn 38 []], .ptr [encI n]]) ⟨Res.ptrT (x := .fn 38 []) rfl rfl rfl, Res.ptrT (x := encI n) rfl rfl rfl, trivial⟩) (.refl _) .nil)) (by rw [List.append_nil]; exact indexL_ret l 74 [.ptr [.fn 38 []], .ptr [encI n]] (fun a => a.id == n) hl co74 (fun x _ => closure74_ret x n)) rfl) ?_
  refine RW.op rfl rfl (eff_assign (v := .t _) rfl rfl rfl) ?_
  refine RW.nil ?_
  refine awp_ret ?_
  first
    | exact ⟨Or.inr rfl, [_], ⟨.tmp (.t _), trivial⟩, .refl _⟩
    | exact ⟨Or.inr rfl, [_], ⟨.tmp (.t _), trivial⟩, (by repeat' first | exact trivial | exact Wk.refl _ | exact Wk.sl _ | refine And.intro ?_ ?_ | refine Wk.tupP ?_ | refine Wk.aggP ?_)⟩
    | exact ⟨Or.inr rfl, [_], ⟨.tmp (Res.ownT rfl rfl rfl rfl), trivial⟩, .refl _⟩
    | exact ⟨Or.inr rfl, [_], ⟨.tmp (Res.ownT rfl rfl rfl rfl), trivial⟩, (by repeat' first | exact trivial | exact Wk.refl _ | exact Wk.sl _ | refine And.intro ?_ ?_ | refine Wk.tupP ?_ | refine Wk.aggP ?_)⟩

theorem formed_ret (l : Lea) : Ret Try.prog 51 [encL l] (.bool (decide (formed l))) := by
  refine ret_of_awp Try.func51 rfl (Nat.le_of_ble_eq_true rfl) ?_
  refine awp_seq ?_
  refine awp_rw rfl ?_
  refine RW.new rfl rfl (eff_boxK (v := .t _) (k := 8) (id := 1) rfl rfl rfl rfl rfl rfl) ?_
  refine RW.op rfl rfl (eff_assign (v := .t _) rfl rfl rfl) ?_
  refine RW.nil ?_
  refine awp_seq ?_
  refine awp_rw rfl ?_
  refine RW.op rfl rfl (eff_fieldAddr rfl rfl tf44_0 (by decide) rfl rfl rfl (Nat.le_of_ble_eq_true rfl)) ?_
  refine RW.op rfl rfl (eff_load (y := .t _) rfl rfl ti3 rfl (.one rfl rfl rfl rfl)) ?_
  refine RW.op rfl rfl (eff_iop rfl rfl rfl rfl rfl) ?_
  refine RW.op rfl rfl (eff_move (v := .t _) rfl rfl rfl) ?_
  refine RW.split 6 rfl (fun h1 => ?_) (fun h1 => ?_)
  · try simp only [decide_eq_true_eq, decide_eq_false_iff_not, beq_iff_eq, bne_iff_ne, bne_eq_false_iff_eq, beq_eq_false_iff_ne, Bool.not_eq_true, Bool.not_eq_false, Bool.not_eq_true', Bool.not_eq_false', ne_eq] at h1
    refine RW.gop rfl rfl rfl rfl rfl rfl (eff_fieldAddr rfl rfl tf44_2 (by decide) rfl rfl rfl (Nat.le_of_ble_eq_true rfl)) ?_
    refine RW.gop rfl rfl rfl rfl rfl rfl (eff_load (y := .t _) rfl rfl ti3 rfl (.one rfl rfl rfl rfl)) ?_
    refine RW.gop rfl rfl rfl rfl rfl rfl (eff_iop rfl rfl rfl rfl rfl) ?_
    refine RW.op rfl rfl (eff_pick (v := .t _) rfl rfl rfl rfl) ?_
    refine RW.op rfl rfl (eff_move (v := .t _) rfl rfl rfl) ?_
    refine RW.split 11 rfl (fun h2 => ?_) (fun h2 => ?_)
    · try simp only [decide_eq_true_eq, decide_eq_false_iff_not, beq_iff_eq, bne_iff_ne, bne_eq_false_iff_eq, beq_eq_false_iff_ne, Bool.not_eq_true, Bool.not_eq_false, Bool.not_eq_true', Bool.not_eq_false', ne_eq] at h2
      refine RW.gop rfl rfl rfl rfl rfl rfl (eff_fieldAddr rfl rfl tf44_2 (by decide) rfl rfl rfl (Nat.le_of_ble_eq_true rfl)) ?_
      refine RW.gop rfl rfl rfl rfl rfl rfl (eff_load (y := .t _) rfl rfl ti3 rfl (.one rfl rfl rfl rfl)) ?_
      refine RW.gop rfl rfl rfl rfl rfl rfl (eff_iop rfl rfl rfl rfl rfl) ?_
      refine RW.op rfl rfl (eff_pick (v := .t _) rfl rfl rfl rfl) ?_
      refine RW.op rfl rfl (eff_move (v := .t _) rfl rfl rfl) ?_
      refine RW.split 16 rfl (fun h3 => ?_) (fun h3 => ?_)
      · try simp only [decide_eq_true_eq, decide_eq_false_iff_not, beq_iff_eq, bne_iff_ne, bne_eq_false_iff_eq, beq_eq_false_iff_ne, Bool.not_eq_true, Bool.not_eq_false, Bool.not_eq_true', Bool.not_eq_false', ne_eq] at h3
        refine RW.gop rfl rfl rfl rfl rfl rfl (eff_fieldAddr rfl rfl tf44_3 (by decide) rfl rfl rfl (Nat.le_of_ble_eq_true rfl)) ?_
        refine RW.gop rfl rfl rfl rfl rfl rfl (eff_load (y := .t _) rfl rfl ti3 rfl (.one rfl rfl rfl rfl)) ?_
        refine RW.gop rfl rfl rfl rfl rfl rfl (eff_iop rfl rfl rfl rfl rfl) ?_
        refine RW.op rfl rfl (eff_pick (v := .t _) rfl rfl rfl rfl) ?_
        refine RW.op rfl rfl (eff_move (v := .t _) rfl rfl rfl) ?_
        refine RW.split 21 rfl (fun h4 => ?_) (fun h4 => ?_)
        · try simp only [decide_eq_true_eq, decide_eq_false_iff_not, beq_iff_eq, bne_iff_ne, bne_eq_false_iff_eq, beq_eq_false_iff_ne, Bool.not_eq_true, Bool.not_eq_false, Bool.not_eq_true', Bool.not_eq_false', ne_eq] at h4
          refine RW.gop rfl rfl rfl rfl rfl rfl (eff_fieldAddr rfl rfl tf44_3 (by decide) rfl rfl rfl (Nat.le_of_ble_eq_true rfl)) ?_
          refine RW.gop rfl rfl rfl rfl rfl rfl (eff_load (y := .t _) rfl rfl ti3 rfl (.one rfl rfl rfl rfl)) ?_
          refine RW.gop rfl rfl rfl rfl rfl rfl (eff_fieldAddr rfl rfl tf44_4 (by decide) rfl rfl rfl (Nat.le_of_ble_eq_true rfl)) ?_
          refine RW.gop rfl rfl rfl rfl rfl rfl (eff_load (y := .t _) rfl rfl ti3 rfl (.one rfl rfl rfl rfl)) ?_
          refine RW.gop rfl rfl rfl rfl rfl rfl (eff_iop rfl rfl rfl rfl rfl) ?_
          refine RW.op rfl rfl (eff_pick (v := .t _) rfl rfl rfl rfl) ?_
          refine RW.op rfl rfl (eff_move (v := .t _) rfl rfl rfl) ?_
          refine RW.split 28 rfl (fun h5 => ?_) (fun h5 => ?_)
          · try simp only [decide_eq_true_eq, decide_eq_false_iff_not, beq_iff_eq, bne_iff_ne, bne_eq_false_iff_eq, beq_eq_false_iff_ne, Bool.not_eq_true, Bool.not_eq_false, Bool.not_eq_true', Bool.not_eq_false', ne_eq] at h5
            refine RW.gop rfl rfl rfl rfl rfl rfl (eff_fieldAddr rfl rfl tf44_4 (by decide) rfl rfl rfl (Nat.le_of_ble_eq_true rfl)) ?_
            refine RW.gop rfl rfl rfl rfl rfl rfl (eff_load (y := .t _) rfl rfl ti3 rfl (.one rfl rfl rfl rfl)) ?_
            refine RW.gop rfl rfl rfl rfl rfl rfl (eff_iop rfl rfl rfl rfl rfl) ?_
            refine RW.op rfl rfl (eff_pick (v := .t _) rfl rfl rfl rfl) ?_
            refine RW.op rfl rfl (eff_move (v := .t _) rfl rfl rfl) ?_
            refine RW.split 33 rfl (fun h6 => ?_) (fun h6 => ?_)
            · try simp only [decide_eq_true_eq, decide_eq_false_iff_not, beq_iff_eq, bne_iff_ne, bne_eq_false_iff_eq, beq_eq_false_iff_ne, Bool.not_eq_true, Bool.not_eq_false, Bool.not_eq_true', Bool.not_eq_false', ne_eq] at h6
              refine RW.gop rfl rfl rfl rfl rfl rfl (eff_fieldAddr rfl rfl tf44_5 (by decide) rfl rfl rfl (Nat.le_of_ble_eq_true rfl)) ?_
              refine RW.gop rfl rfl rfl rfl rfl rfl (eff_loadS (ys := [_, _, _]) rfl rfl ti25 rfl rfl rfl rfl rfl rfl) ?_
              refine RW.gop rfl rfl rfl rfl rfl rfl (eff_callT (inRange_ret l.h) co62 rfl rfl rfl rfl) ?_
              refine RW.op rfl rfl (eff_pick (v := .t _) rfl rfl rfl rfl) ?_
              refine RW.op rfl rfl (eff_assign (v := .t _) rfl rfl rfl) ?_
              refine RW.nil ?_
              refine awp_ret ?_
              first
                | (rw [show decide (formed l) = false from decide_eq_false (fun h => by unfold formed at h; omega)]; exact ⟨Or.inr rfl, [_], ⟨.tmp (.t _), trivial⟩, .refl _⟩)
                | (rw [show decide (formed l) = decide (right l.h) from decide_eq_decide.2 (⟨fun h => h.2.2.2.2.2.2, fun h => ⟨by omega, by omega, by omega, by omega, by omega, by omega, h⟩⟩)]; exact ⟨Or.inr rfl, [_], ⟨.tmp (.t _), trivial⟩, .refl _⟩)
            · try simp only [decide_eq_true_eq, decide_eq_false_iff_not, beq_iff_eq, bne_iff_ne, bne_eq_false_iff_eq, beq_eq_false_iff_ne, Bool.not_eq_true, Bool.not_eq_false, Bool.not_eq_true', Bool.not_eq_false', ne_eq] at h6
              refine RW.gskip rfl rfl rfl rfl rfl (by decide) ?_
              refine RW.gskip rfl rfl rfl rfl rfl (by decide) ?_
              refine RW.gskip rfl rfl rfl rfl rfl (by decide) ?_
              refine RW.op rfl rfl (eff_pick (v := .t _) rfl rfl rfl rfl) ?_
              refine RW.op rfl rfl (eff_assign (v := .t _) rfl rfl rfl) ?_
              refine RW.nil ?_
              refine awp_ret ?_
              first
                | (rw [show decide (formed l) = false from decide_eq_false (fun h => by unfold formed at h; omega)]; exact ⟨Or.inr rfl, [_], ⟨.tmp (.t _), trivial⟩, .refl _⟩)
                | (rw [show decide (formed l) = decide (right l.h) from decide_eq_decide.2 (⟨fun h => h.2.2.2.2.2.2, fun h => ⟨by omega, by omega, by omega, by omega, by omega, by omega, h⟩⟩)]; exact ⟨Or.inr rfl, [_], ⟨.tmp (.t _), trivial⟩, .refl _⟩)
          · try simp only [decide_eq_true_eq, decide_eq_false_iff_not, beq_iff_eq, bne_iff_ne, bne_eq_false_iff_eq, beq_eq_false_iff_ne, Bool.not_eq_true, Bool.not_eq_false, Bool.not_eq_true', Bool.not_eq_false', ne_eq] at h5
            refine RW.gskip rfl rfl rfl rfl rfl (by decide) ?_
            refine RW.gskip rfl rfl rfl rfl rfl (by decide) ?_
            refine RW.gskip rfl rfl rfl rfl rfl (by decide) ?_
            refine RW.op rfl rfl (eff_pick (v := .t _) rfl rfl rfl rfl) ?_
            refine RW.op rfl rfl (eff_move (v := .t _) rfl rfl rfl) ?_
            refine RW.gskip rfl rfl rfl rfl rfl (by decide) ?_
            refine RW.gskip rfl rfl rfl rfl rfl (by decide) ?_
            refine RW.gskip rfl rfl rfl rfl rfl (by decide) ?_
            refine RW.op rfl rfl (eff_pick (v := .t _) rfl rfl rfl rfl) ?_
            refine RW.op rfl rfl (eff_assign (v := .t _) rfl rfl rfl) ?_
            refine RW.nil ?_
            refine awp_ret ?_
            first
              | (rw [show decide (formed l) = false from decide_eq_false (fun h => by unfold formed at h; omega)]; exact ⟨Or.inr rfl, [_], ⟨.tmp (.t _), trivial⟩, .refl _⟩)
              | (rw [show decide (formed l) = decide (right l.h) from decide_eq_decide.2 (⟨fun h => h.2.2.2.2.2.2, fun h => ⟨by omega, by omega, by omega, by omega, by omega, by omega, h⟩⟩)]; exact ⟨Or.inr rfl, [_], ⟨.tmp (.t _), trivial⟩, .refl _⟩)
        · try simp only [decide_eq_true_eq, decide_eq_false_iff_not, beq_iff_eq, bne_iff_ne, bne_eq_false_iff_eq, beq_eq_false_iff_ne, Bool.not_eq_true, Bool.not_eq_false, Bool.not_eq_true', Bool.not_eq_false', ne_eq] at h4
          refine RW.gskip rfl rfl rfl rfl rfl (by decide) ?_
          refine RW.gskip rfl rfl rfl rfl rfl (by decide) ?_
          refine RW.gskip rfl rfl rfl rfl rfl (by decide) ?_
          refine RW.gskip rfl rfl rfl rfl rfl (by decide) ?_
          refine RW.gskip rfl rfl rfl rfl rfl (by decide) ?_
          refine RW.op rfl rfl (eff_pick (v := .t _) rfl rfl rfl rfl) ?_
          refine RW.op rfl rfl (eff_move (v := .t _) rfl rfl rfl) ?_
          refine RW.gskip rfl rfl rfl rfl rfl (by decide) ?_
          refine RW.gskip rfl rfl rfl rfl rfl (by decide) ?_
          refine RW.gskip rfl rfl rfl rfl rfl (by decide) ?_
          refine RW.op rfl rfl (eff_pick (v := .t _) rfl rfl rfl rfl) ?_
          refine RW.op rfl rfl (eff_move (v := .t _) rfl rfl rfl) ?_
          refine RW.gskip rfl rfl rfl rfl rfl (by decide) ?_
          refine RW.gskip rfl rfl rfl rfl rfl (by decide) ?_
          refine RW.gskip rfl rfl rfl rfl rfl (by decide) ?_
          refine RW.op rfl rfl (eff_pick (v := .t _) rfl rfl rfl rfl) ?_
          refine RW.op rfl rfl (eff_assign (v := .t _) rfl rfl rfl) ?_
          refine RW.nil ?_
          refine awp_ret ?_
          first
            | (rw [show decide (formed l) = false from decide_eq_false (fun h => by unfold formed at h; omega)]; exact ⟨Or.inr rfl, [_], ⟨.tmp (.t _), trivial⟩, .refl _⟩)
            | (rw [show decide (formed l) = decide (right l.h) from decide_eq_decide.2 (⟨fun h => h.2.2.2.2.2.2, fun h => ⟨by omega, by omega, by omega, by omega, by omega, by omega, h⟩⟩)]; exact ⟨Or.inr rfl, [_], ⟨.tmp (.t _), trivial⟩, .refl _⟩)
      · try simp only [decide_eq_true_eq, decide_eq_false_iff_not, beq_iff_eq, bne_iff_ne, bne_eq_false_iff_eq, beq_eq_false_iff_ne, Bool.not_eq_true, Bool.not_eq_false, Bool.not_eq_true', Bool.not_eq_false', ne_eq] at h3
        refine RW.gskip rfl rfl rfl rfl rfl (by decide) ?_
        refine RW.gskip rfl rfl rfl rfl rfl (by decide) ?_
        refine RW.gskip rfl rfl rfl rfl rfl (by decide) ?_
        refine RW.op rfl rfl (eff_pick (v := .t _) rfl rfl rfl rfl) ?_
        refine RW.op rfl rfl (eff_move (v := .t _) rfl rfl rfl) ?_
        refine RW.gskip rfl rfl rfl rfl rfl (by decide) ?_
        refine RW.gskip rfl rfl rfl rfl rfl (by decide) ?_
        refine RW.gskip rfl rfl rfl rfl rfl (by decide) ?_
        refine RW.gskip rfl rfl rfl rfl rfl (by decide) ?_
        refine RW.gskip rfl rfl rfl rfl rfl (by decide) ?_
        refine RW.op rfl rfl (eff_pick (v := .t _) rfl rfl rfl rfl) ?_
        refine RW.op rfl rfl (eff_move (v := .t _) rfl rfl rfl) ?_
        refine RW.gskip rfl rfl rfl rfl rfl (by decide) ?_
        refine RW.gskip rfl rfl rfl rfl rfl (by decide) ?_
        refine RW.gskip rfl rfl rfl rfl rfl (by decide) ?_
        refine RW.op rfl rfl (eff_pick (v := .t _) rfl rfl rfl rfl) ?_
        refine RW.op rfl rfl (eff_move (v := .t _) rfl rfl rfl) ?_
        refine RW.gskip rfl rfl rfl rfl rfl (by decide) ?_
        refine RW.gskip rfl rfl rfl rfl rfl (by decide) ?_
        refine RW.gskip rfl rfl rfl rfl rfl (by decide) ?_
        refine RW.op rfl rfl (eff_pick (v := .t _) rfl rfl rfl rfl) ?_
        refine RW.op rfl rfl (eff_assign (v := .t _) rfl rfl rfl) ?_
        refine RW.nil ?_
        refine awp_ret ?_
        first
          | (rw [show decide (formed l) = false from decide_eq_false (fun h => by unfold formed at h; omega)]; exact ⟨Or.inr rfl, [_], ⟨.tmp (.t _), trivial⟩, .refl _⟩)
          | (rw [show decide (formed l) = decide (right l.h) from decide_eq_decide.2 (⟨fun h => h.2.2.2.2.2.2, fun h => ⟨by omega, by omega, by omega, by omega, by omega, by omega, h⟩⟩)]; exact ⟨Or.inr rfl, [_], ⟨.tmp (.t _), trivial⟩, .refl _⟩)
    · try simp only [decide_eq_true_eq, decide_eq_false_iff_not, beq_iff_eq, bne_iff_ne, bne_eq_false_iff_eq, beq_eq_false_iff_ne, Bool.not_eq_true, Bool.not_eq_false, Bool.not_eq_true', Bool.not_eq_false', ne_eq] at h2
      refine RW.gskip rfl rfl rfl rfl rfl (by decide) ?_
      refine RW.gskip rfl rfl rfl rfl rfl (by decide) ?_
      refine RW.gskip rfl rfl rfl rfl rfl (by decide) ?_
      refine RW.op rfl rfl (eff_pick (v := .t _) rfl rfl rfl rfl) ?_
      refine RW.op rfl rfl (eff_move (v := .t _) rfl rfl rfl) ?_
      refine RW.gskip rfl rfl rfl rfl rfl (by decide) ?_
      refine RW.gskip rfl rfl rfl rfl rfl (by decide) ?_
      refine RW.gskip rfl rfl rfl rfl rfl (by decide) ?_
      refine RW.op rfl rfl (eff_pick (v := .t _) rfl rfl rfl rfl) ?_
      refine RW.op rfl rfl (eff_move (v := .t _) rfl rfl rfl) ?_
      refine RW.gskip rfl rfl rfl rfl rfl (by decide) ?_
      refine RW.gskip rfl rfl rfl rfl rfl (by decide) ?_
      refine RW.gskip rfl rfl rfl rfl rfl (by decide) ?_
      refine RW.gskip rfl rfl rfl rfl rfl (by decide) ?_
      refine RW.gskip rfl rfl rfl rfl rfl (by decide) ?_
      refine RW.op rfl rfl (eff_pick (v := .t _) rfl rfl rfl rfl) ?_
      refine RW.op rfl rfl (eff_move (v := .t _) rfl rfl rfl) ?_
      refine RW.gskip rfl rfl rfl rfl rfl (by decide) ?_
      refine RW.gskip rfl rfl rfl rfl rfl (by decide) ?_
      refine RW.gskip rfl rfl rfl rfl rfl (by decide) ?_
      refine RW.op rfl rfl (eff_pick (v := .t _) rfl rfl rfl rfl) ?_
      refine RW.op rfl rfl (eff_move (v := .t _) rfl rfl rfl) ?_
      refine RW.gskip rfl rfl rfl rfl rfl (by decide) ?_
      refine RW.gskip rfl rfl rfl rfl rfl (by decide) ?_
      refine RW.gskip rfl rfl rfl rfl rfl (by decide) ?_
      refine RW.op rfl rfl (eff_pick (v := .t _) rfl rfl rfl rfl) ?_
      refine RW.op rfl rfl (eff_assign (v := .t _) rfl rfl rfl) ?_
      refine RW.nil ?_
      refine awp_ret ?_
      first
        | (rw [show decide (formed l) = false from decide_eq_false (fun h => by unfold formed at h; omega)]; exact ⟨Or.inr rfl, [_], ⟨.tmp (.t _), trivial⟩, .refl _⟩)
        | (rw [show decide (formed l) = decide (right l.h) from decide_eq_decide.2 (⟨fun h => h.2.2.2.2.2.2, fun h => ⟨by omega, by omega, by omega, by omega, by omega, by omega, h⟩⟩)]; exact ⟨Or.inr rfl, [_], ⟨.tmp (.t _), trivial⟩, .refl _⟩)
  · try simp only [decide_eq_true_eq, decide_eq_false_iff_not, beq_iff_eq, bne_iff_ne, bne_eq_false_iff_eq, beq_eq_false_iff_ne, Bool.not_eq_true, Bool.not_eq_false, Bool.not_eq_true', Bool.not_eq_false', ne_eq] at h1
    refine RW.gskip rfl rfl rfl rfl rfl (by decide) ?_
    refine RW.gskip rfl rfl rfl rfl rfl (by decide) ?_
    refine RW.gskip rfl rfl rfl rfl rfl (by decide) ?_
    refine RW.op rfl rfl (eff_pick (v := .t _) rfl rfl rfl rfl) ?_
    refine RW.op rfl rfl (eff_move (v := .t _) rfl rfl rfl) ?_
    refine RW.gskip rfl rfl rfl rfl rfl (by decide) ?_
    refine RW.gskip rfl rfl rfl rfl rfl (by decide) ?_
    refine RW.gskip rfl rfl rfl rfl rfl (by decide) ?_
    refine RW.op rfl rfl (eff_pick (v := .t _) rfl rfl rfl rfl) ?_
    refine RW.op rfl rfl (eff_move (v := .t _) rfl rfl rfl) ?_
    refine RW.gskip rfl rfl rfl rfl rfl (by decide) ?_
    refine RW.gskip rfl rfl rfl rfl rfl (by decide) ?_
    refine RW.gskip rfl rfl rfl rfl rfl (by decide) ?_
    refine RW.op rfl rfl (eff_pick (v := .t _) rfl rfl rfl rfl) ?_
    refine RW.op rfl rfl (eff_move (v := .t _) rfl rfl rfl) ?_
    refine RW.gskip rfl rfl rfl rfl rfl (by decide) ?_
    refine RW.gskip rfl rfl rfl rfl rfl (by decide) ?_
    refine RW.gskip rfl rfl rfl rfl rfl (by decide) ?_
    refine RW.gskip rfl rfl rfl rfl rfl (by decide) ?_
    refine RW.gskip rfl rfl rfl rfl rfl (by decide) ?_
    refine RW.op rfl rfl (eff_pick (v := .t _) rfl rfl rfl rfl) ?_
    refine RW.op rfl rfl (eff_move (v := .t _) rfl rfl rfl) ?_
    refine RW.gskip rfl rfl rfl rfl rfl (by decide) ?_
    refine RW.gskip rfl rfl rfl rfl rfl (by decide) ?_
    refine RW.gskip rfl rfl rfl rfl rfl (by decide) ?_
    refine RW.op rfl rfl (eff_pick (v := .t _) rfl rfl rfl rfl) ?_
    refine RW.op rfl rfl (eff_move (v := .t _) rfl rfl rfl) ?_
    refine RW.gskip rfl rfl rfl rfl rfl (by decide) ?_
    refine RW.gskip rfl rfl rfl rfl rfl (by decide) ?_
    refine RW.gskip rfl rfl rfl rfl rfl (by decide) ?_
    refine RW.op rfl rfl (eff_pick (v := .t _) rfl rfl rfl rfl) ?_
    refine RW.op rfl rfl (eff_assign (v := .t _) rfl rfl rfl) ?_
    refine RW.nil ?_
    refine awp_ret ?_
    first
      | (rw [show decide (formed l) = false from decide_eq_false (fun h => by unfold formed at h; omega)]; exact ⟨Or.inr rfl, [_], ⟨.tmp (.t _), trivial⟩, .refl _⟩)
      | (rw [show decide (formed l) = decide (right l.h) from decide_eq_decide.2 (⟨fun h => h.2.2.2.2.2.2, fun h => ⟨by omega, by omega, by omega, by omega, by omega, by omega, h⟩⟩)]; exact ⟨Or.inr rfl, [_], ⟨.tmp (.t _), trivial⟩, .refl _⟩)

theorem closure42_ret (x l : Lea) : Ret Try.prog 42 [encL x, .ptr (encL l).cells] (.bool (decide (confl x l))) := by
  refine ret_of_awp Try.func42 rfl (Nat.le_of_ble_eq_true rfl) ?_
  refine awp_seq ?_
  refine awp_rw rfl ?_
  refine RW.new rfl rfl (eff_boxK (v := .t _) (k := 8) (id := 2) rfl rfl rfl rfl rfl rfl) ?_
  refine RW.op rfl rfl (eff_assign (v := .t _) rfl rfl rfl) ?_
  refine RW.nil ?_
  refine awp_seq ?_
  refine awp_rw rfl ?_
  refine RW.op rfl rfl (eff_load rfl rfl ti44 rfl (.whole rfl rfl rfl rfl rfl rfl)) ?_
  refine RW.op rfl rfl (eff_loadW rfl rfl ti44 rfl rfl rfl) ?_
  refine RW.op rfl rfl (eff_callT (confl43_ret x l) co43 rfl rfl rfl rfl) ?_
  refine RW.op rfl rfl (eff_assign (v := .t _) rfl rfl rfl) ?_
  refine RW.nil ?_
  refine awp_ret ?_
  first
    | exact ⟨Or.inr rfl, [_], ⟨.tmp (.t _), trivial⟩, .refl _⟩
    | exact ⟨Or.inr rfl, [_], ⟨.tmp (.t _), trivial⟩, (by repeat' first | exact trivial | exact Wk.refl _ | exact Wk.sl _ | refine And.intro ?_ ?_ | refine Wk.tupP ?_ | refine Wk.aggP ?_)⟩
    | exact ⟨Or.inr rfl, [_], ⟨.tmp (Res.ownT rfl rfl rfl rfl), trivial⟩, .refl _⟩
    | exact ⟨Or.inr rfl, [_], ⟨.tmp (Res.ownT rfl rfl rfl rfl), trivial⟩, (by repeat' first | exact trivial | exact Wk.refl _ | exact Wk.sl _ | refine And.intro ?_ ?_ | refine Wk.tupP ?_ | refine Wk.aggP ?_)⟩

theorem closure53_ret (x l : Lea) : Ret Try.prog 53 [encL x, .ptr (encL l).cells] (.bool (decide (confl x l))) := by
  refine ret_of_awp Try.func53 rfl (Nat.le_of_ble_eq_true rfl) ?_
  refine awp_seq ?_
  refine awp_rw rfl ?_
  refine RW.new rfl rfl (eff_boxK (v := .t _) (k := 8) (id := 2) rfl rfl rfl rfl rfl rfl) ?_
  refine RW.op rfl rfl (eff_assign (v := .t _) rfl rfl rfl) ?_
  refine RW.nil ?_
  refine awp_seq ?_
  refine awp_rw rfl ?_
  refine RW.op rfl rfl (eff_load rfl rfl ti44 rfl (.whole rfl rfl rfl rfl rfl rfl)) ?_
  refine RW.op rfl rfl (eff_loadW rfl rfl ti44 rfl rfl rfl) ?_
  refine RW.op rfl rfl (eff_callT (confl43_ret x l) co43 rfl rfl rfl rfl) ?_
  refine RW.op rfl rfl (eff_assign (v := .t _) rfl rfl rfl) ?_
  refine RW.nil ?_
  refine awp_ret ?_
  first
    | exact ⟨Or.inr rfl, [_], ⟨.tmp (.t _), trivial⟩, .refl _⟩
    | exact ⟨Or.inr rfl, [_], ⟨.tmp (.t _), trivial⟩, (by repeat' first | exact trivial | exact Wk.refl _ | exact Wk.sl _ | refine And.intro ?_ ?_ | refine Wk.tupP ?_ | refine Wk.aggP ?_)⟩
    | exact ⟨Or.inr rfl, [_], ⟨.tmp (Res.ownT rfl rfl rfl rfl), trivial⟩, .refl _⟩
    | exact ⟨Or.inr rfl, [_], ⟨.tmp (Res.ownT rfl rfl rfl rfl), trivial⟩, (by repeat' first | exact trivial | exact Wk.refl _ | exact Wk.sl _ | refine And.intro ?_ ?_ | refine Wk.tupP ?_ | refine Wk.aggP ?_)⟩

theorem closure64_ret (a : Acc) : Ret Try.prog 64 [encA a] (.bool (!decide (right a.p))) := by
  refine ret_of_awp Try.func64 rfl (Nat.le_of_ble_eq_true rfl) ?_
  refine awp_seq ?_
  refine awp_rw rfl ?_
  refine RW.new rfl rfl (eff_boxK (v := .t _) (k := 4) (id := 1) rfl rfl rfl rfl rfl rfl) ?_
  refine RW.op rfl rfl (eff_assign (v := .t _) rfl rfl rfl) ?_
  refine RW.nil ?_
  refine awp_seq ?_
  refine awp_rw rfl ?_
  refine RW.op rfl rfl (eff_fieldAddr rfl rfl tf57_1 (by decide) rfl rfl rfl (Nat.le_of_ble_eq_true rfl)) ?_
  refine RW.op rfl rfl (eff_loadS (ys := [_, _, _]) rfl rfl ti25 rfl rfl rfl rfl rfl rfl) ?_
  refine RW.op rfl rfl (eff_callT (inRange_ret a.p) co62 rfl rfl rfl rfl) ?_
  refine RW.op rfl rfl (eff_unop rfl rfl rfl rfl) ?_
  refine RW.op rfl rfl (eff_assign (v := .t _) rfl rfl rfl) ?_
  refine RW.nil ?_
  refine awp_ret ?_
  first
    | exact ⟨Or.inr rfl, [_], ⟨.tmp (.t _), trivial⟩, .refl _⟩
    | exact ⟨Or.inr rfl, [_], ⟨.tmp (.t _), trivial⟩, (by repeat' first | exact trivial | exact Wk.refl _ | exact Wk.sl _ | refine And.intro ?_ ?_ | refine Wk.tupP ?_ | refine Wk.aggP ?_)⟩
    | exact ⟨Or.inr rfl, [_], ⟨.tmp (Res.ownT rfl rfl rfl rfl), trivial⟩, .refl _⟩
    | exact ⟨Or.inr rfl, [_], ⟨.tmp (Res.ownT rfl rfl rfl rfl), trivial⟩, (by repeat' first | exact trivial | exact Wk.refl _ | exact Wk.sl _ | refine And.intro ?_ ?_ | refine Wk.tupP ?_ | refine Wk.aggP ?_)⟩

theorem closure65_ret (l : Lea) : Ret Try.prog 65 [encL l] (.bool (!decide (formed l))) := by
  refine ret_of_awp Try.func65 rfl (Nat.le_of_ble_eq_true rfl) ?_
  refine awp_seq ?_
  refine awp_rw rfl ?_
  refine RW.new rfl rfl (eff_boxK (v := .t _) (k := 8) (id := 1) rfl rfl rfl rfl rfl rfl) ?_
  refine RW.op rfl rfl (eff_assign (v := .t _) rfl rfl rfl) ?_
  refine RW.nil ?_
  refine awp_seq ?_
  refine awp_rw rfl ?_
  refine RW.op rfl rfl (eff_load rfl rfl ti44 rfl (.whole rfl rfl rfl rfl rfl rfl)) ?_
  refine RW.op rfl rfl (eff_callT (formed_ret l) co51 rfl rfl rfl rfl) ?_
  refine RW.op rfl rfl (eff_unop rfl rfl rfl rfl) ?_
  refine RW.op rfl rfl (eff_assign (v := .t _) rfl rfl rfl) ?_
  refine RW.nil ?_
  refine awp_ret ?_
  first
    | exact ⟨Or.inr rfl, [_], ⟨.tmp (.t _), trivial⟩, .refl _⟩
    | exact ⟨Or.inr rfl, [_], ⟨.tmp (.t _), trivial⟩, (by repeat' first | exact trivial | exact Wk.refl _ | exact Wk.sl _ | refine And.intro ?_ ?_ | refine Wk.tupP ?_ | refine Wk.aggP ?_)⟩
    | exact ⟨Or.inr rfl, [_], ⟨.tmp (Res.ownT rfl rfl rfl rfl), trivial⟩, .refl _⟩
    | exact ⟨Or.inr rfl, [_], ⟨.tmp (Res.ownT rfl rfl rfl rfl), trivial⟩, (by repeat' first | exact trivial | exact Wk.refl _ | exact Wk.sl _ | refine And.intro ?_ ?_ | refine Wk.tupP ?_ | refine Wk.aggP ?_)⟩

end Go.Tv.C24

end
section
open Go Go.Tv Go.Proofs
namespace Go.Tv.C24
set_option maxRecDepth 20000
set_option maxHeartbeats 2000000
set_option linter.unusedSimpArgs false
set_option linter.unusedVariables false
theorem confl_comm {x y : Lea} : confl x y ↔ confl y x := by unfold confl; constructor <;> (rintro ⟨h1, h2, h3⟩; exact ⟨h1.symm, h3, h2⟩)
theorem nb_right {b : Bank} (h1 : right b.sp) (h2 : ∀ a, a ∈ b.accs → right a.p) (h3 : ∀ l, l ∈ b.ls → formed l) : NB b :=
  ⟨right_near h1, fun a ha => right_near (h2 a ha), fun l hl => right_near (h3 l hl).2.2.2.2.2.2⟩
theorem any_rightA {l : List Acc} (h : (l.any fun a => !decide (right a.p)) = false) : ∀ a, a ∈ l → right a.p := by
  intro a ha
  have := List.any_eq_false.1 h a ha
  simpa using this
theorem any_formed {l : List Lea} (h : (l.any fun a => !decide (formed a)) = false) : ∀ a, a ∈ l → formed a := by
  intro a ha
  have := List.any_eq_false.1 h a ha
  simpa using this
theorem chk_2 {b : Bank} (h : 20 < b.accs.length ∨ 32 < b.ls.length) : chk b = 2 := if_pos h
theorem chk_23 {b : Bank} (h : ¬ (20 < b.accs.length ∨ 32 < b.ls.length)) (h2 : ¬ incrA b.accs ∨ ¬ incrL b.ls) : chk b = 23 := by unfold chk; rw [if_neg h, if_pos h2]
theorem chk_5 {b : Bank} (h : ¬ (20 < b.accs.length ∨ 32 < b.ls.length)) (h2 : ¬ (¬ incrA b.accs ∨ ¬ incrL b.ls)) (h3 : ¬ ranges b) : chk b = 5 := by unfold chk; rw [if_neg h, if_neg h2, if_pos h3]
theorem chk_3 {b : Bank} (h : ¬ (20 < b.accs.length ∨ 32 < b.ls.length)) (h2 : ¬ (¬ incrA b.accs ∨ ¬ incrL b.ls)) (h3 : ranges b) (h4 : ¬ owned b) : chk b = 3 := by
  unfold chk; rw [if_neg h, if_neg h2, if_neg (fun g => g h3), if_pos h4]
theorem chk_4 {b : Bank} (h : ¬ (20 < b.accs.length ∨ 32 < b.ls.length)) (h2 : ¬ (¬ incrA b.accs ∨ ¬ incrL b.ls)) (h3 : ranges b) (h4 : owned b) (h5 : ¬ apart b.ls) : chk b = 4 := by
  unfold chk; rw [if_neg h, if_neg h2, if_neg (fun g => g h3), if_neg (fun g => g h4), if_pos h5]
theorem chk_0 {b : Bank} (h : ¬ (20 < b.accs.length ∨ 32 < b.ls.length)) (h2 : ¬ (¬ incrA b.accs ∨ ¬ incrL b.ls)) (h3 : ranges b) (h4 : owned b) (h5 : apart b.ls) : chk b = 0 := by
  unfold chk; rw [if_neg h, if_neg h2, if_neg (fun g => g h3), if_neg (fun g => g h4), if_neg (fun g => g h5)]
theorem not_owned {b : Bank} {l : Lea} (hl : l ∈ b.ls) (h : accIx b.accs l.cu < 0) : ¬ owned b := fun ho => by
  obtain ⟨a, ha, hc⟩ := ho l hl
  have := fIx_neg.1 h a ha
  simp [hc] at this
theorem owned_at {b : Bank} {l : Lea} (h : ¬ accIx b.accs l.cu < 0) : ∃ a, a ∈ b.accs ∧ a.c = l.cu := by
  obtain ⟨i, hi, _, _, h4⟩ := fIx_nat h
  exact ⟨_, List.getElem_mem hi, by simpa using h4⟩
theorem apart_step {l : List Lea} {i : Nat} (h : i < l.length) (hp : (l.take i).Pairwise (fun x y => ¬ confl y x)) (hn : ∀ x, x ∈ l.take i → ¬ confl l[i] x) : (l.take (i + 1)).Pairwise (fun x y => ¬ confl y x) := by
  rw [take_succ_get h, List.pairwise_append]
  refine ⟨hp, by simp, fun a ha b hb => ?_⟩
  simp only [List.mem_singleton] at hb
  subst hb
  exact hn a ha
theorem not_apart {l : List Lea} {i : Nat} (h : i < l.length) {x : Lea} (hx : x ∈ l.take i) (hc : confl l[i] x) : ¬ apart l := fun hp => by
  obtain ⟨j, hj, rfl⟩ := List.mem_iff_getElem.1 hx
  simp only [List.length_take] at hj
  rw [List.getElem_take] at hc
  exact List.pairwise_iff_getElem.1 hp j i (by omega) h (by omega) hc
theorem any_confl {l : List Lea} {x : Lea} : (l.any fun y => decide (confl y x)) = false ↔ ∀ y, y ∈ l → ¬ confl x y := by
  rw [List.any_eq_false]
  constructor
  · intro h y hy hc; exact h y hy (by simpa using confl_comm.1 hc)
  · intro h y hy hc; exact h y hy (confl_comm.1 (by simpa using hc))

theorem ranges39_ret (b : Bank) (hB : BOK b) : Ret Try.prog 39 [encB b] (.bool (decide (ranges b))) := by
  refine ret_of_awp Try.func39 rfl (Nat.le_of_ble_eq_true rfl) ?_
  refine awp_seq ?_
  refine awp_rw rfl ?_
  refine RW.new rfl rfl (eff_boxK (v := .t _) (k := 5) (id := 1) rfl rfl rfl rfl rfl rfl) ?_
  refine RW.op rfl rfl (eff_assign (v := .t _) rfl rfl rfl) ?_
  refine RW.nil ?_
  refine awp_seq ?_
  refine awp_seq ?_
  refine awp_rw rfl ?_
  refine RW.op rfl rfl (eff_fieldAddr rfl rfl tf27_2 (by decide) rfl rfl rfl (Nat.le_of_ble_eq_true rfl)) ?_
  refine RW.op rfl rfl (eff_loadS (ys := [_, _, _]) rfl rfl ti25 rfl rfl rfl rfl rfl rfl) ?_
  refine RW.op rfl rfl (eff_callT (inRange_ret b.sp) co62 rfl rfl rfl rfl) ?_
  refine RW.op rfl rfl (eff_unop rfl rfl rfl rfl) ?_
  refine RW.op rfl rfl (eff_move (v := .t _) rfl rfl rfl) ?_
  refine RW.split 7 rfl (fun h1 => ?_) (fun h1 => ?_)
  · try simp only [decide_eq_true_eq, decide_eq_false_iff_not, beq_iff_eq, bne_iff_ne, bne_eq_false_iff_eq, beq_eq_false_iff_ne, Bool.not_eq_true, Bool.not_eq_false, Bool.not_eq_true', Bool.not_eq_false', ne_eq] at h1
    refine RW.gskip rfl rfl rfl rfl rfl (by decide) ?_
    refine RW.gskip rfl rfl rfl rfl rfl (by decide) ?_
    refine RW.gskip rfl rfl rfl rfl rfl (by decide) ?_
    refine RW.op rfl rfl (eff_pick (v := .t _) rfl rfl rfl rfl) ?_
    refine RW.nil ?_
    refine awp_cond rfl (fun _ => ?_) (fun h => nomatch h)
    refine awp_seq ?_
    refine awp_rw rfl ?_
    refine RW.op rfl rfl (eff_assign (v := .t _) rfl rfl rfl) ?_
    refine RW.nil ?_
    refine awp_ret ?_
    rw [show decide (ranges b) = false from decide_eq_false (fun h => by exact h1 h.1)]
    exact ⟨Or.inr rfl, [_], ⟨.tmp (.t _), trivial⟩, .refl _⟩
  · try simp only [decide_eq_true_eq, decide_eq_false_iff_not, beq_iff_eq, bne_iff_ne, bne_eq_false_iff_eq, beq_eq_false_iff_ne, Bool.not_eq_true, Bool.not_eq_false, Bool.not_eq_true', Bool.not_eq_false', ne_eq] at h1
    refine RW.gop rfl rfl rfl rfl rfl rfl (eff_fieldAddr rfl rfl tf27_0 (by decide) rfl rfl rfl (Nat.le_of_ble_eq_true rfl)) ?_
    refine RW.gop rfl rfl rfl rfl rfl rfl (eff_load (y := .t _) rfl rfl ti22 rfl (.one rfl rfl rfl rfl)) ?_
    refine RW.gop rfl rfl rfl rfl rfl rfl (eff_callT (containsA_ret b.accs 64 [] (fun a => !decide (right a.p)) hB.1 co64 (fun x _ => closure64_ret x)) co63 rfl rfl rfl rfl) ?_
    refine RW.op rfl rfl (eff_pick (v := .t _) rfl rfl rfl rfl) ?_
    refine RW.nil ?_
    refine awp_cond rfl (fun h2 => ?_) (fun h2 => ?_)
    · try simp only [decide_eq_true_eq, decide_eq_false_iff_not, beq_iff_eq, bne_iff_ne, bne_eq_false_iff_eq, beq_eq_false_iff_ne, Bool.not_eq_true, Bool.not_eq_false, Bool.not_eq_true', Bool.not_eq_false', ne_eq] at h2
      refine awp_seq ?_
      refine awp_rw rfl ?_
      refine RW.op rfl rfl (eff_assign (v := .t _) rfl rfl rfl) ?_
      refine RW.nil ?_
      refine awp_ret ?_
      rw [show decide (ranges b) = false from decide_eq_false (fun h => by obtain ⟨a, ha, hn⟩ := List.any_eq_true.1 h2; have := h.2.1 a ha; simp [this] at hn)]
      exact ⟨Or.inr rfl, [_], ⟨.tmp (.t _), trivial⟩, .refl _⟩
    · try simp only [decide_eq_true_eq, decide_eq_false_iff_not, beq_iff_eq, bne_iff_ne, bne_eq_false_iff_eq, beq_eq_false_iff_ne, Bool.not_eq_true, Bool.not_eq_false, Bool.not_eq_true', Bool.not_eq_false', ne_eq] at h2
      refine awp_skip ?_
      refine awp_seq ?_
      refine awp_rw rfl ?_
      refine RW.op rfl rfl (eff_fieldAddr rfl rfl tf27_1 (by decide) rfl rfl rfl (Nat.le_of_ble_eq_true rfl)) ?_
      refine RW.op rfl rfl (eff_load (y := .t _) rfl rfl ti23 rfl (.one rfl rfl rfl rfl)) ?_
      refine RW.op rfl rfl (eff_callT (containsL_ret b.ls 65 [] (fun a => !decide (formed a)) hB.2 co65 (fun x _ => closure65_ret x)) co41 rfl rfl rfl rfl) ?_
      refine RW.op rfl rfl (eff_unop rfl rfl rfl rfl) ?_
      refine RW.op rfl rfl (eff_move (v := .t _) rfl rfl rfl) ?_
      refine RW.split 16 rfl (fun h3 => ?_) (fun h3 => ?_)
      · try simp only [decide_eq_true_eq, decide_eq_false_iff_not, beq_iff_eq, bne_iff_ne, bne_eq_false_iff_eq, beq_eq_false_iff_ne, Bool.not_eq_true, Bool.not_eq_false, Bool.not_eq_true', Bool.not_eq_false', ne_eq] at h3
        refine RW.gop rfl rfl rfl rfl rfl rfl (eff_load rfl rfl ti27 rfl (.whole rfl rfl rfl rfl rfl rfl)) ?_
        refine RW.gop rfl rfl rfl rfl rfl rfl (eff_callT (total_ret b hB (nb_right h1 (any_rightA h2) (any_formed h3))) co14 rfl rfl rfl rfl) ?_
        refine RW.gop rfl rfl rfl rfl rfl rfl (eff_callT (inRange_ret (total b)) co62 rfl rfl rfl rfl) ?_
        refine RW.op rfl rfl (eff_pick (v := .t _) rfl rfl rfl rfl) ?_
        refine RW.op rfl rfl (eff_assign (v := .t _) rfl rfl rfl) ?_
        refine RW.nil ?_
        refine awp_ret ?_
        rw [show decide (ranges b) = decide (right (total b)) from decide_eq_decide.2 ⟨fun h => h.2.2.2, fun h => ⟨h1, any_rightA h2, any_formed h3, h⟩⟩]
        exact ⟨Or.inr rfl, [_], ⟨.tmp (.t _), trivial⟩, .refl _⟩
      · try simp only [decide_eq_true_eq, decide_eq_false_iff_not, beq_iff_eq, bne_iff_ne, bne_eq_false_iff_eq, beq_eq_false_iff_ne, Bool.not_eq_true, Bool.not_eq_false, Bool.not_eq_true', Bool.not_eq_false', ne_eq] at h3
        refine RW.gskip rfl rfl rfl rfl rfl (by decide) ?_
        refine RW.gskip rfl rfl rfl rfl rfl (by decide) ?_
        refine RW.gskip rfl rfl rfl rfl rfl (by decide) ?_
        refine RW.op rfl rfl (eff_pick (v := .t _) rfl rfl rfl rfl) ?_
        refine RW.op rfl rfl (eff_assign (v := .t _) rfl rfl rfl) ?_
        refine RW.nil ?_
        refine awp_ret ?_
        rw [show decide (ranges b) = false from decide_eq_false (fun h => by obtain ⟨a, ha, hn⟩ := List.any_eq_true.1 h3; have := h.2.2.1 a ha; simp [this] at hn)]
        exact ⟨Or.inr rfl, [_], ⟨.tmp (.t _), trivial⟩, .refl _⟩

theorem ranges32_ret (b : Bank) (hB : BOK b) : Ret Try.prog 32 [encB b] (.bool (decide (ranges b))) := by
  refine ret_of_awp Try.func32 rfl (Nat.le_of_ble_eq_true rfl) ?_
  refine awp_seq ?_
  refine awp_rw rfl ?_
  refine RW.new rfl rfl (eff_boxK (v := .t _) (k := 5) (id := 1) rfl rfl rfl rfl rfl rfl) ?_
  refine RW.op rfl rfl (eff_assign (v := .t _) rfl rfl rfl) ?_
  refine RW.nil ?_
  refine awp_seq ?_
  refine awp_seq ?_
  refine awp_rw rfl ?_
  refine RW.op rfl rfl (eff_fieldAddr rfl rfl tf27_2 (by decide) rfl rfl rfl (Nat.le_of_ble_eq_true rfl)) ?_
  refine RW.op rfl rfl (eff_loadS (ys := [_, _, _]) rfl rfl ti25 rfl rfl rfl rfl rfl rfl) ?_
  refine RW.op rfl rfl (eff_callT (right_ret b.sp) co60 rfl rfl rfl rfl) ?_
  refine RW.op rfl rfl (eff_unop rfl rfl rfl rfl) ?_
  refine RW.nil ?_
  refine awp_cond rfl (fun h1 => ?_) (fun h1 => ?_)
  · try simp only [decide_eq_true_eq, decide_eq_false_iff_not, beq_iff_eq, bne_iff_ne, bne_eq_false_iff_eq, beq_eq_false_iff_ne, Bool.not_eq_true, Bool.not_eq_false, Bool.not_eq_true', Bool.not_eq_false', ne_eq] at h1
    refine awp_seq ?_
    refine awp_rw rfl ?_
    refine RW.op rfl rfl (eff_assign (v := .t _) rfl rfl rfl) ?_
    refine RW.nil ?_
    refine awp_ret ?_
    rw [show decide (ranges b) = false from decide_eq_false (fun h => by exact h1 h.1)]
    exact ⟨Or.inr rfl, [_], ⟨.tmp (.t _), trivial⟩, .refl _⟩
  · try simp only [decide_eq_true_eq, decide_eq_false_iff_not, beq_iff_eq, bne_iff_ne, bne_eq_false_iff_eq, beq_eq_false_iff_ne, Bool.not_eq_true, Bool.not_eq_false, Bool.not_eq_true', Bool.not_eq_false', ne_eq] at h1
    refine awp_skip ?_
    refine awp_seq ?_
    refine awp_seq ?_
    refine awp_rw rfl ?_
    refine RW.op rfl rfl (eff_assign (v := .t _) rfl rfl rfl) ?_
    refine RW.nil ?_
    refine awp_block ?_
    refine awp_loopW (fun m s => ∃ (i : Nat), (i ≤ b.accs.length) ∧ (∀ a, a ∈ b.accs.take i → right a.p) ∧ m = b.accs.length - i ∧ s = ⟨41, [(1, .ptr 1 0 0 0), (3, .t (encI (i : Nat)))], [(1, some ⟨5, 27, 0, [.t (encB b)]⟩)]⟩) (_) (⟨_, weak_keep (n := 41) (fr' := [(1, .ptr 1 0 0 0), (3, .t (encI (0 : Nat)))]) (st' := [(1, some ⟨5, 27, 0, [.t (encB b)]⟩)]) ⟨rfl, rfl, rfl, rfl, trivial⟩ ⟨rfl, okE_one rfl, trivial⟩, 0, (by omega), (by simp), rfl, rfl⟩) ?_
    rintro m s ⟨i, hi, ha, rfl, rfl⟩
    have hL := hB.1
    have hL2 := hB.2
    refine awp_seq ?_
    refine awp_seq ?_
    refine awp_rw rfl ?_
    refine RW.op rfl rfl (eff_move (v := .t _) rfl rfl rfl) ?_
    refine RW.op rfl rfl (eff_fieldAddr rfl rfl tf27_0 (by decide) rfl rfl rfl (Nat.le_of_ble_eq_true rfl)) ?_
    refine RW.op rfl rfl (eff_load (y := .t _) rfl rfl ti22 rfl (.one rfl rfl rfl rfl)) ?_
    refine RW.op rfl rfl (eff_lenM rfl rfl te22 rfl) ?_
    refine RW.op rfl rfl (eff_iop rfl rfl rfl rfl rfl) ?_
    refine RW.nil ?_
    refine awp_cond rfl (fun h2 => ?_) (fun h2 => ?_)
    · try simp only [decide_eq_true_eq, decide_eq_false_iff_not, beq_iff_eq, bne_iff_ne, bne_eq_false_iff_eq, beq_eq_false_iff_ne, Bool.not_eq_true, Bool.not_eq_false, Bool.not_eq_true', Bool.not_eq_false', ne_eq] at h2
      refine awp_skip ?_
      refine awp_seq ?_
      refine awp_block ?_
      refine awp_seq ?_
      refine awp_rw rfl ?_
      refine RW.op rfl rfl (eff_fieldAddr rfl rfl tf27_0 (by decide) rfl rfl rfl (Nat.le_of_ble_eq_true rfl)) ?_
      refine RW.op rfl rfl (eff_load (y := .t _) rfl rfl ti22 rfl (.one rfl rfl rfl rfl)) ?_
      refine RW.op rfl rfl (eff_move (v := .t _) rfl rfl rfl) ?_
      refine RW.op rfl rfl (eff_indexM rfl rfl te22 rfl rfl rfl (by first | assumption | exact List.getElem?_eq_getElem (by omega)) rfl (by decide)) ?_
      refine RW.op rfl rfl (eff_fieldAddrT rfl rfl tf57_1 (by decide) rfl) ?_
      refine RW.op rfl rfl (eff_loadT (ys := [_, _, _]) rfl rfl ti25 rfl rfl rfl) ?_
      refine RW.op rfl rfl (eff_callT (right_ret (b.accs[i]'(by omega)).p) co60 rfl rfl rfl rfl) ?_
      refine RW.op rfl rfl (eff_unop rfl rfl rfl rfl) ?_
      refine RW.nil ?_
      refine awp_cond rfl (fun h3 => ?_) (fun h3 => ?_)
      · try simp only [decide_eq_true_eq, decide_eq_false_iff_not, beq_iff_eq, bne_iff_ne, bne_eq_false_iff_eq, beq_eq_false_iff_ne, Bool.not_eq_true, Bool.not_eq_false, Bool.not_eq_true', Bool.not_eq_false', ne_eq] at h3
        refine awp_seq ?_
        refine awp_rw rfl ?_
        refine RW.op rfl rfl (eff_assign (v := .t _) rfl rfl rfl) ?_
        refine RW.nil ?_
        refine awp_ret ?_
        rw [show decide (ranges b) = false from decide_eq_false (fun h => by exact h3 (h.2.1 _ (List.getElem_mem _)))]
        exact ⟨Or.inr rfl, [_], ⟨.tmp (.t _), trivial⟩, .refl _⟩
      · try simp only [decide_eq_true_eq, decide_eq_false_iff_not, beq_iff_eq, bne_iff_ne, bne_eq_false_iff_eq, beq_eq_false_iff_ne, Bool.not_eq_true, Bool.not_eq_false, Bool.not_eq_true', Bool.not_eq_false', ne_eq] at h3
        refine awp_skip ?_
        refine awp_rw rfl ?_
        refine RW.op rfl rfl (eff_move (v := .t _) rfl rfl rfl) ?_
        refine RW.op rfl rfl (eff_iop rfl rfl rfl rfl (iadd (by omega))) ?_
        refine RW.op rfl rfl (eff_assign (v := .t _) rfl rfl rfl) ?_
        refine RW.nil ?_
        refine ⟨_, ?_, _, weak_keep (n := 41) (fr' := [(1, .ptr 1 0 0 0), (3, .t (encI ((i + 1) : Nat)))]) (st' := [(1, some ⟨5, 27, 0, [.t (encB b)]⟩)]) ⟨rfl, rfl, rfl, rfl, trivial⟩ ⟨rfl, okE_one rfl, trivial⟩, i + 1, (by omega), (by intro x hx; rcases (mem_take_succ (by omega)).1 hx with h | h; exact ha x h; rw [h]; exact h3), rfl, rfl⟩
        omega
    · try simp only [decide_eq_true_eq, decide_eq_false_iff_not, beq_iff_eq, bne_iff_ne, bne_eq_false_iff_eq, beq_eq_false_iff_ne, Bool.not_eq_true, Bool.not_eq_false, Bool.not_eq_true', Bool.not_eq_false', ne_eq] at h2
      refine awp_exit ?_
      refine awp_seq ?_
      refine awp_seq ?_
      refine awp_rw rfl ?_
      refine RW.op rfl rfl (eff_assign (v := .t _) rfl rfl rfl) ?_
      refine RW.nil ?_
      refine awp_block ?_
      refine awp_loopW (fun m s => ∃ (k : Nat), (k ≤ b.ls.length) ∧ (∀ a, a ∈ b.ls.take k → formed a) ∧ m = b.ls.length - k ∧ s = ⟨41, [(1, .ptr 1 0 0 0), (4, .t (encI (k : Nat)))], [(1, some ⟨5, 27, 0, [.t (encB b)]⟩)]⟩) (_) (⟨_, weak_keep (n := 41) (fr' := [(1, .ptr 1 0 0 0), (4, .t (encI (0 : Nat)))]) (st' := [(1, some ⟨5, 27, 0, [.t (encB b)]⟩)]) ⟨rfl, rfl, rfl, rfl, trivial⟩ ⟨rfl, okE_one rfl, trivial⟩, 0, (by omega), (by simp), rfl, rfl⟩) ?_
      rintro m s ⟨k, hk, hb, rfl, rfl⟩
      have hL := hB.1
      have hL2 := hB.2
      refine awp_seq ?_
      refine awp_seq ?_
      refine awp_rw rfl ?_
      refine RW.op rfl rfl (eff_move (v := .t _) rfl rfl rfl) ?_
      refine RW.op rfl rfl (eff_fieldAddr rfl rfl tf27_1 (by decide) rfl rfl rfl (Nat.le_of_ble_eq_true rfl)) ?_
      refine RW.op rfl rfl (eff_load (y := .t _) rfl rfl ti23 rfl (.one rfl rfl rfl rfl)) ?_
      refine RW.op rfl rfl (eff_lenM rfl rfl te23 rfl) ?_
      refine RW.op rfl rfl (eff_iop rfl rfl rfl rfl rfl) ?_
      refine RW.nil ?_
      refine awp_cond rfl (fun h4 => ?_) (fun h4 => ?_)
      · try simp only [decide_eq_true_eq, decide_eq_false_iff_not, beq_iff_eq, bne_iff_ne, bne_eq_false_iff_eq, beq_eq_false_iff_ne, Bool.not_eq_true, Bool.not_eq_false, Bool.not_eq_true', Bool.not_eq_false', ne_eq] at h4
        refine awp_skip ?_
        refine awp_seq ?_
        refine awp_block ?_
        refine awp_seq ?_
        refine awp_rw rfl ?_
        refine RW.op rfl rfl (eff_fieldAddr rfl rfl tf27_1 (by decide) rfl rfl rfl (Nat.le_of_ble_eq_true rfl)) ?_
        refine RW.op rfl rfl (eff_load (y := .t _) rfl rfl ti23 rfl (.one rfl rfl rfl rfl)) ?_
        refine RW.op rfl rfl (eff_move (v := .t _) rfl rfl rfl) ?_
        refine RW.op rfl rfl (eff_indexM rfl rfl te23 rfl rfl rfl (by first | assumption | exact List.getElem?_eq_getElem (by omega)) rfl (by decide)) ?_
        refine RW.op rfl rfl (eff_loadW rfl rfl ti44 rfl rfl rfl) ?_
        refine RW.op rfl rfl (eff_callT (formed61_ret (b.ls[k]'(by omega))) co61 rfl rfl rfl rfl) ?_
        refine RW.op rfl rfl (eff_unop rfl rfl rfl rfl) ?_
        refine RW.nil ?_
        refine awp_cond rfl (fun h5 => ?_) (fun h5 => ?_)
        · try simp only [decide_eq_true_eq, decide_eq_false_iff_not, beq_iff_eq, bne_iff_ne, bne_eq_false_iff_eq, beq_eq_false_iff_ne, Bool.not_eq_true, Bool.not_eq_false, Bool.not_eq_true', Bool.not_eq_false', ne_eq] at h5
          refine awp_seq ?_
          refine awp_rw rfl ?_
          refine RW.op rfl rfl (eff_assign (v := .t _) rfl rfl rfl) ?_
          refine RW.nil ?_
          refine awp_ret ?_
          rw [show decide (ranges b) = false from decide_eq_false (fun h => by exact h5 (h.2.2.1 _ (List.getElem_mem _)))]
          exact ⟨Or.inr rfl, [_], ⟨.tmp (.t _), trivial⟩, .refl _⟩
        · try simp only [decide_eq_true_eq, decide_eq_false_iff_not, beq_iff_eq, bne_iff_ne, bne_eq_false_iff_eq, beq_eq_false_iff_ne, Bool.not_eq_true, Bool.not_eq_false, Bool.not_eq_true', Bool.not_eq_false', ne_eq] at h5
          refine awp_skip ?_
          refine awp_rw rfl ?_
          refine RW.op rfl rfl (eff_move (v := .t _) rfl rfl rfl) ?_
          refine RW.op rfl rfl (eff_iop rfl rfl rfl rfl (iadd (by omega))) ?_
          refine RW.op rfl rfl (eff_assign (v := .t _) rfl rfl rfl) ?_
          refine RW.nil ?_
          refine ⟨_, ?_, _, weak_keep (n := 41) (fr' := [(1, .ptr 1 0 0 0), (4, .t (encI ((k + 1) : Nat)))]) (st' := [(1, some ⟨5, 27, 0, [.t (encB b)]⟩)]) ⟨rfl, rfl, rfl, rfl, trivial⟩ ⟨rfl, okE_one rfl, trivial⟩, k + 1, (by omega), (by intro x hx; rcases (mem_take_succ (by omega)).1 hx with h | h; exact hb x h; rw [h]; exact h5), rfl, rfl⟩
          omega
      · try simp only [decide_eq_true_eq, decide_eq_false_iff_not, beq_iff_eq, bne_iff_ne, bne_eq_false_iff_eq, beq_eq_false_iff_ne, Bool.not_eq_true, Bool.not_eq_false, Bool.not_eq_true', Bool.not_eq_false', ne_eq] at h4
        refine awp_exit ?_
        refine awp_seq ?_
        refine awp_rw rfl ?_
        rw [List.take_of_length_le (by omega)] at ha hb
        refine RW.op rfl rfl (eff_load rfl rfl ti27 rfl (.whole rfl rfl rfl rfl rfl rfl)) ?_
        refine RW.op rfl rfl (eff_callT (total15_ret b hB (nb_right h1 ha hb)) co15 rfl rfl rfl rfl) ?_
        refine RW.op rfl rfl (eff_callT (right_ret (total b)) co60 rfl rfl rfl rfl) ?_
        refine RW.op rfl rfl (eff_assign (v := .t _) rfl rfl rfl) ?_
        refine RW.nil ?_
        refine awp_ret ?_
        rw [show decide (ranges b) = decide (right (total b)) from decide_eq_decide.2 ⟨fun h => h.2.2.2, fun h => ⟨h1, ha, hb, h⟩⟩]
        exact ⟨Or.inr rfl, [_], ⟨.tmp (.t _), trivial⟩, .refl _⟩

theorem chk13_ret (b : Bank) (hB : BOK b) : Ret Try.prog 13 [encB b] (encI (chk b)) := by
  refine ret_of_awp Try.func13 rfl (Nat.le_of_ble_eq_true rfl) ?_
  refine awp_seq ?_
  refine awp_rw rfl ?_
  refine RW.new rfl rfl (eff_boxK (v := .t _) (k := 5) (id := 1) rfl rfl rfl rfl rfl rfl) ?_
  refine RW.op rfl rfl (eff_assign (v := .t _) rfl rfl rfl) ?_
  refine RW.nil ?_
  refine awp_seq ?_
  refine awp_block ?_
  refine awp_seq ?_
  refine awp_rw rfl ?_
  refine RW.op rfl rfl (eff_fieldAddr rfl rfl tf27_0 (by decide) rfl rfl rfl (Nat.le_of_ble_eq_true rfl)) ?_
  refine RW.op rfl rfl (eff_load (y := .t _) rfl rfl ti22 rfl (.one rfl rfl rfl rfl)) ?_
  refine RW.op rfl rfl (eff_lenM rfl rfl te22 rfl) ?_
  refine RW.op rfl rfl (eff_iop rfl rfl rfl rfl rfl) ?_
  refine RW.op rfl rfl (eff_move (v := .t _) rfl rfl rfl) ?_
  refine RW.split 12 rfl (fun h1 => ?_) (fun h1 => ?_)
  · try simp only [decide_eq_true_eq, decide_eq_false_iff_not, beq_iff_eq, bne_iff_ne, bne_eq_false_iff_eq, beq_eq_false_iff_ne, Bool.not_eq_true, Bool.not_eq_false, Bool.not_eq_true', Bool.not_eq_false', ne_eq] at h1
    refine RW.gskip rfl rfl rfl rfl rfl (by decide) ?_
    refine RW.gskip rfl rfl rfl rfl rfl (by decide) ?_
    refine RW.gskip rfl rfl rfl rfl rfl (by decide) ?_
    refine RW.gskip rfl rfl rfl rfl rfl (by decide) ?_
    refine RW.op rfl rfl (eff_pick (v := .t _) rfl rfl rfl rfl) ?_
    refine RW.op rfl rfl (eff_assign (v := .t _) rfl rfl rfl) ?_
    refine RW.nil ?_
    refine awp_cond rfl (fun _ => ?_) (fun h => nomatch h)
    refine awp_seq ?_
    refine awp_rw rfl ?_
    refine RW.op rfl rfl (eff_assign (v := .t _) rfl rfl rfl) ?_
    refine RW.nil ?_
    refine awp_ret ?_
    rw [chk_2 (by omega)]
    exact ⟨Or.inr rfl, [_], ⟨.tmp (.t _), trivial⟩, .refl _⟩
  · try simp only [decide_eq_true_eq, decide_eq_false_iff_not, beq_iff_eq, bne_iff_ne, bne_eq_false_iff_eq, beq_eq_false_iff_ne, Bool.not_eq_true, Bool.not_eq_false, Bool.not_eq_true', Bool.not_eq_false', ne_eq] at h1
    refine RW.gop rfl rfl rfl rfl rfl rfl (eff_fieldAddr rfl rfl tf27_1 (by decide) rfl rfl rfl (Nat.le_of_ble_eq_true rfl)) ?_
    refine RW.gop rfl rfl rfl rfl rfl rfl (eff_load (y := .t _) rfl rfl ti23 rfl (.one rfl rfl rfl rfl)) ?_
    refine RW.gop rfl rfl rfl rfl rfl rfl (eff_lenM rfl rfl te23 rfl) ?_
    refine RW.gop rfl rfl rfl rfl rfl rfl (eff_iop rfl rfl rfl rfl rfl) ?_
    refine RW.op rfl rfl (eff_pick (v := .t _) rfl rfl rfl rfl) ?_
    refine RW.op rfl rfl (eff_assign (v := .t _) rfl rfl rfl) ?_
    refine RW.nil ?_
    refine awp_cond rfl (fun h2 => ?_) (fun h2 => ?_)
    · try simp only [decide_eq_true_eq, decide_eq_false_iff_not, beq_iff_eq, bne_iff_ne, bne_eq_false_iff_eq, beq_eq_false_iff_ne, Bool.not_eq_true, Bool.not_eq_false, Bool.not_eq_true', Bool.not_eq_false', ne_eq] at h2
      refine awp_seq ?_
      refine awp_rw rfl ?_
      refine RW.op rfl rfl (eff_assign (v := .t _) rfl rfl rfl) ?_
      refine RW.nil ?_
      refine awp_ret ?_
      rw [chk_2 (by omega)]
      exact ⟨Or.inr rfl, [_], ⟨.tmp (.t _), trivial⟩, .refl _⟩
    · try simp only [decide_eq_true_eq, decide_eq_false_iff_not, beq_iff_eq, bne_iff_ne, bne_eq_false_iff_eq, beq_eq_false_iff_ne, Bool.not_eq_true, Bool.not_eq_false, Bool.not_eq_true', Bool.not_eq_false', ne_eq] at h2
      refine awp_seq ?_
      refine awp_rw rfl ?_
      refine RW.op rfl rfl (eff_fieldAddr rfl rfl tf27_0 (by decide) rfl rfl rfl (Nat.le_of_ble_eq_true rfl)) ?_
      refine RW.op rfl rfl (eff_load (y := .t _) rfl rfl ti22 rfl (.one rfl rfl rfl rfl)) ?_
      refine RW.op rfl rfl (eff_callT (incrA_ret b.accs hB.1) co35 rfl rfl rfl rfl) ?_
      refine RW.op rfl rfl (eff_unop rfl rfl rfl rfl) ?_
      refine RW.op rfl rfl (eff_move (v := .t _) rfl rfl rfl) ?_
      refine RW.split 23 rfl (fun h3 => ?_) (fun h3 => ?_)
      · try simp only [decide_eq_true_eq, decide_eq_false_iff_not, beq_iff_eq, bne_iff_ne, bne_eq_false_iff_eq, beq_eq_false_iff_ne, Bool.not_eq_true, Bool.not_eq_false, Bool.not_eq_true', Bool.not_eq_false', ne_eq] at h3
        refine RW.gskip rfl rfl rfl rfl rfl (by decide) ?_
        refine RW.gskip rfl rfl rfl rfl rfl (by decide) ?_
        refine RW.gskip rfl rfl rfl rfl rfl (by decide) ?_
        refine RW.gskip rfl rfl rfl rfl rfl (by decide) ?_
        refine RW.op rfl rfl (eff_pick (v := .t _) rfl rfl rfl rfl) ?_
        refine RW.op rfl rfl (eff_assign (v := .t _) rfl rfl rfl) ?_
        refine RW.nil ?_
        refine awp_cond rfl (fun _ => ?_) (fun h => nomatch h)
        refine awp_seq ?_
        refine awp_rw rfl ?_
        refine RW.op rfl rfl (eff_assign (v := .t _) rfl rfl rfl) ?_
        refine RW.nil ?_
        refine awp_ret ?_
        rw [chk_23 (by omega) (.inl h3)]
        exact ⟨Or.inr rfl, [_], ⟨.tmp (.t _), trivial⟩, .refl _⟩
      · try simp only [decide_eq_true_eq, decide_eq_false_iff_not, beq_iff_eq, bne_iff_ne, bne_eq_false_iff_eq, beq_eq_false_iff_ne, Bool.not_eq_true, Bool.not_eq_false, Bool.not_eq_true', Bool.not_eq_false', ne_eq] at h3
        refine RW.gop rfl rfl rfl rfl rfl rfl (eff_fieldAddr rfl rfl tf27_1 (by decide) rfl rfl rfl (Nat.le_of_ble_eq_true rfl)) ?_
        refine RW.gop rfl rfl rfl rfl rfl rfl (eff_load (y := .t _) rfl rfl ti23 rfl (.one rfl rfl rfl rfl)) ?_
        refine RW.gop rfl rfl rfl rfl rfl rfl (eff_callT (incrL_ret b.ls hB.2) co37 rfl rfl rfl rfl) ?_
        refine RW.gop rfl rfl rfl rfl rfl rfl (eff_unop rfl rfl rfl rfl) ?_
        refine RW.op rfl rfl (eff_pick (v := .t _) rfl rfl rfl rfl) ?_
        refine RW.op rfl rfl (eff_assign (v := .t _) rfl rfl rfl) ?_
        refine RW.nil ?_
        refine awp_cond rfl (fun h4 => ?_) (fun h4 => ?_)
        · try simp only [decide_eq_true_eq, decide_eq_false_iff_not, beq_iff_eq, bne_iff_ne, bne_eq_false_iff_eq, beq_eq_false_iff_ne, Bool.not_eq_true, Bool.not_eq_false, Bool.not_eq_true', Bool.not_eq_false', ne_eq] at h4
          refine awp_seq ?_
          refine awp_rw rfl ?_
          refine RW.op rfl rfl (eff_assign (v := .t _) rfl rfl rfl) ?_
          refine RW.nil ?_
          refine awp_ret ?_
          rw [chk_23 (by omega) (.inr h4)]
          exact ⟨Or.inr rfl, [_], ⟨.tmp (.t _), trivial⟩, .refl _⟩
        · try simp only [decide_eq_true_eq, decide_eq_false_iff_not, beq_iff_eq, bne_iff_ne, bne_eq_false_iff_eq, beq_eq_false_iff_ne, Bool.not_eq_true, Bool.not_eq_false, Bool.not_eq_true', Bool.not_eq_false', ne_eq] at h4
          refine awp_seq ?_
          refine awp_rw rfl ?_
          refine RW.op rfl rfl (eff_load rfl rfl ti27 rfl (.whole rfl rfl rfl rfl rfl rfl)) ?_
          refine RW.op rfl rfl (eff_callT (ranges39_ret b hB) co39 rfl rfl rfl rfl) ?_
          refine RW.op rfl rfl (eff_unop rfl rfl rfl rfl) ?_
          refine RW.op rfl rfl (eff_assign (v := .t _) rfl rfl rfl) ?_
          refine RW.nil ?_
          refine awp_cond rfl (fun h5 => ?_) (fun h5 => ?_)
          · try simp only [decide_eq_true_eq, decide_eq_false_iff_not, beq_iff_eq, bne_iff_ne, bne_eq_false_iff_eq, beq_eq_false_iff_ne, Bool.not_eq_true, Bool.not_eq_false, Bool.not_eq_true', Bool.not_eq_false', ne_eq] at h5
            refine awp_seq ?_
            refine awp_rw rfl ?_
            refine RW.op rfl rfl (eff_assign (v := .t _) rfl rfl rfl) ?_
            refine RW.nil ?_
            refine awp_ret ?_
            rw [chk_5 (by omega) (by simp [h3, h4]) h5]
            exact ⟨Or.inr rfl, [_], ⟨.tmp (.t _), trivial⟩, .refl _⟩
          · try simp only [decide_eq_true_eq, decide_eq_false_iff_not, beq_iff_eq, bne_iff_ne, bne_eq_false_iff_eq, beq_eq_false_iff_ne, Bool.not_eq_true, Bool.not_eq_false, Bool.not_eq_true', Bool.not_eq_false', ne_eq] at h5
            refine awp_skip ?_
            refine awp_seq ?_
            refine awp_seq ?_
            refine awp_rw rfl ?_
            refine RW.op rfl rfl (eff_fieldAddr rfl rfl tf27_1 (by decide) rfl rfl rfl (Nat.le_of_ble_eq_true rfl)) ?_
            refine RW.op rfl rfl (eff_load (y := .t _) rfl rfl ti23 rfl (.one rfl rfl rfl rfl)) ?_
            refine RW.op rfl rfl (eff_lenM rfl rfl te23 rfl) ?_
            refine RW.op rfl rfl (eff_move (v := .t _) rfl rfl rfl) ?_
            refine RW.nil ?_
            refine awp_block ?_
            refine awp_loopW (fun m s => ∃ (i : Nat), (i ≤ b.ls.length) ∧ (∀ l, l ∈ b.ls.take i → ∃ a, a ∈ b.accs ∧ a.c = l.cu) ∧ m = b.ls.length - i ∧ s = ⟨62, [(1, .ptr 1 0 0 0), (34, .t (.sl (b.ls.map encL) false)), (35, .t (encI b.ls.length)), (36, .t (encI (i : Nat)))], [(1, some ⟨5, 27, 0, [.t (encB b)]⟩)]⟩) (_) (⟨_, weak_keep (n := 62) (fr' := [(1, .ptr 1 0 0 0), (34, .t (.sl (b.ls.map encL) false)), (35, .t (encI b.ls.length)), (36, .t (encI (0 : Nat)))]) (st' := [(1, some ⟨5, 27, 0, [.t (encB b)]⟩)]) ⟨rfl, rfl, rfl, rfl, rfl, rfl, rfl, rfl, trivial⟩ ⟨rfl, okE_one rfl, trivial⟩, 0, (by omega), (by simp), rfl, rfl⟩) ?_
            rintro m s ⟨i, hi, ha, rfl, rfl⟩
            have hL := hB.1
            have hL2 := hB.2
            refine awp_seq ?_
            refine awp_rw rfl ?_
            refine RW.op rfl rfl (eff_iop rfl rfl rfl rfl rfl) ?_
            refine RW.nil ?_
            refine awp_seq ?_
            refine awp_cond rfl (fun h6 => ?_) (fun h6 => ?_)
            · try simp only [decide_eq_true_eq, decide_eq_false_iff_not, beq_iff_eq, bne_iff_ne, bne_eq_false_iff_eq, beq_eq_false_iff_ne, Bool.not_eq_true, Bool.not_eq_false, Bool.not_eq_true', Bool.not_eq_false', ne_eq] at h6
              refine awp_skip ?_
              refine awp_seq ?_
              refine awp_block ?_
              refine awp_seq ?_
              refine awp_rw rfl ?_
              refine RW.op rfl rfl (eff_indexM rfl rfl te23 rfl rfl rfl (by first | assumption | exact List.getElem?_eq_getElem (by omega)) rfl (by decide)) ?_
              refine RW.op rfl rfl (eff_loadW rfl rfl ti44 rfl rfl rfl) ?_
              refine RW.new rfl rfl (eff_allocK (k := 8) (id := 4) rfl rfl tz44 rfl rfl) ?_
              refine RW.store rfl rfl (eff_storeW (v := .t _) (els := [_]) (els' := [_]) rfl rfl ti44 rfl rfl rfl rfl rfl rfl rfl rfl rfl) ?_
              refine RW.nil ?_
              refine awp_seq ?_
              refine awp_rw rfl ?_
              refine RW.op rfl rfl (eff_fieldAddr rfl rfl tf27_0 (by decide) rfl rfl rfl (Nat.le_of_ble_eq_true rfl)) ?_
              refine RW.op rfl rfl (eff_load (y := .t _) rfl rfl ti22 rfl (.one rfl rfl rfl rfl)) ?_
              refine RW.op rfl rfl (eff_fieldAddr rfl rfl tf44_1 (by decide) rfl rfl rfl (Nat.le_of_ble_eq_true rfl)) ?_
              refine RW.op rfl rfl (eff_load (y := .t _) rfl rfl ti3 rfl (.one rfl rfl rfl rfl)) ?_
              refine RW.op rfl rfl (eff_callT (findA_ret b.accs (b.ls[i]'(by omega)).cu hB.1) co40 rfl rfl rfl rfl) ?_
              refine RW.op rfl rfl (eff_iop rfl rfl rfl rfl rfl) ?_
              refine RW.nil ?_
              refine awp_cond rfl (fun h7 => ?_) (fun h7 => ?_)
              · try simp only [decide_eq_true_eq, decide_eq_false_iff_not, beq_iff_eq, bne_iff_ne, bne_eq_false_iff_eq, beq_eq_false_iff_ne, Bool.not_eq_true, Bool.not_eq_false, Bool.not_eq_true', Bool.not_eq_false', ne_eq] at h7
                refine awp_seq ?_
                refine awp_rw rfl ?_
                refine RW.op rfl rfl (eff_assign (v := .t _) rfl rfl rfl) ?_
                refine RW.nil ?_
                refine awp_ret ?_
                rw [chk_3 (by omega) (by simp [h3, h4]) h5 (not_owned (List.getElem_mem _) h7)]
                exact ⟨Or.inr rfl, [_], ⟨.tmp (.t _), trivial⟩, .refl _⟩
              · try simp only [decide_eq_true_eq, decide_eq_false_iff_not, beq_iff_eq, bne_iff_ne, bne_eq_false_iff_eq, beq_eq_false_iff_ne, Bool.not_eq_true, Bool.not_eq_false, Bool.not_eq_true', Bool.not_eq_false', ne_eq] at h7
                refine awp_skip ?_
                refine awp_rw rfl ?_
                refine RW.op rfl rfl (eff_iop rfl rfl rfl rfl (iadd (by omega))) ?_
                refine RW.op rfl rfl (eff_move (v := .t _) rfl rfl rfl) ?_
                refine RW.nil ?_
                refine ⟨_, ?_, _, weak_keep (n := 62) (fr' := [(1, .ptr 1 0 0 0), (34, .t (.sl (b.ls.map encL) false)), (35, .t (encI b.ls.length)), (36, .t (encI ((i + 1) : Nat)))]) (st' := [(1, some ⟨5, 27, 0, [.t (encB b)]⟩)]) ⟨rfl, rfl, rfl, rfl, rfl, rfl, rfl, rfl, trivial⟩ ⟨rfl, okE_one rfl, trivial⟩, i + 1, (by omega), (by intro x hx; rcases (mem_take_succ (by omega)).1 hx with h | h; exact ha x h; rw [h]; exact owned_at h7), rfl, rfl⟩
                omega
            · try simp only [decide_eq_true_eq, decide_eq_false_iff_not, beq_iff_eq, bne_iff_ne, bne_eq_false_iff_eq, beq_eq_false_iff_ne, Bool.not_eq_true, Bool.not_eq_false, Bool.not_eq_true', Bool.not_eq_false', ne_eq] at h6
              refine awp_exit ?_
              refine awp_seq ?_
              refine awp_seq ?_
              refine awp_rw rfl ?_
              refine RW.op rfl rfl (eff_fieldAddr rfl rfl tf27_1 (by decide) rfl rfl rfl (Nat.le_of_ble_eq_true rfl)) ?_
              refine RW.op rfl rfl (eff_load (y := .t _) rfl rfl ti23 rfl (.one rfl rfl rfl rfl)) ?_
              refine RW.op rfl rfl (eff_lenM rfl rfl te23 rfl) ?_
              refine RW.op rfl rfl (eff_move (v := .t _) rfl rfl rfl) ?_
              refine RW.nil ?_
              refine awp_block ?_
              refine awp_loopW (fun m s => ∃ (k : Nat), (k ≤ b.ls.length) ∧ ((b.ls.take k).Pairwise (fun x y => ¬ confl y x)) ∧ m = b.ls.length - k ∧ s = ⟨62, [(1, .ptr 1 0 0 0), (48, .t (.sl (b.ls.map encL) false)), (49, .t (encI b.ls.length)), (50, .t (encI (k : Nat)))], [(1, some ⟨5, 27, 0, [.t (encB b)]⟩)]⟩) (_) (⟨_, weak_keep (n := 62) (fr' := [(1, .ptr 1 0 0 0), (48, .t (.sl (b.ls.map encL) false)), (49, .t (encI b.ls.length)), (50, .t (encI (0 : Nat)))]) (st' := [(1, some ⟨5, 27, 0, [.t (encB b)]⟩)]) ⟨rfl, rfl, rfl, rfl, rfl, rfl, rfl, rfl, trivial⟩ ⟨rfl, okE_one rfl, trivial⟩, 0, (by omega), (by simp), rfl, rfl⟩) ?_
              rintro m s ⟨k, hk, hb, rfl, rfl⟩
              have hL := hB.1
              have hL2 := hB.2
              refine awp_seq ?_
              refine awp_rw rfl ?_
              refine RW.op rfl rfl (eff_iop rfl rfl rfl rfl rfl) ?_
              refine RW.nil ?_
              refine awp_seq ?_
              refine awp_cond rfl (fun h8 => ?_) (fun h8 => ?_)
              · try simp only [decide_eq_true_eq, decide_eq_false_iff_not, beq_iff_eq, bne_iff_ne, bne_eq_false_iff_eq, beq_eq_false_iff_ne, Bool.not_eq_true, Bool.not_eq_false, Bool.not_eq_true', Bool.not_eq_false', ne_eq] at h8
                refine awp_skip ?_
                refine awp_seq ?_
                refine awp_block ?_
                refine awp_seq ?_
                refine awp_rw rfl ?_
                refine RW.op rfl rfl (eff_move (v := .t _) rfl rfl rfl) ?_
                refine RW.op rfl rfl (eff_indexM rfl rfl te23 rfl rfl rfl (by first | assumption | exact List.getElem?_eq_getElem (by omega)) rfl (by decide)) ?_
                refine RW.op rfl rfl (eff_loadW rfl rfl ti44 rfl rfl rfl) ?_
                refine RW.new rfl rfl (eff_allocK (k := 8) (id := 6) rfl rfl tz44 rfl rfl) ?_
                refine RW.op rfl rfl (eff_assign (v := .t _) rfl rfl rfl) ?_
                refine RW.store rfl rfl (eff_storeW (v := .t _) (els := [_]) (els' := [_]) rfl rfl ti44 rfl rfl rfl rfl rfl rfl rfl rfl rfl) ?_
                refine RW.nil ?_
                refine awp_seq ?_
                refine awp_rw rfl ?_
                refine RW.op rfl rfl (eff_fieldAddr rfl rfl tf27_1 (by decide) rfl rfl rfl (Nat.le_of_ble_eq_true rfl)) ?_
                refine RW.op rfl rfl (eff_load (y := .t _) rfl rfl ti23 rfl (.one rfl rfl rfl rfl)) ?_
                refine RW.op rfl rfl (eff_move (v := .t _) rfl rfl rfl) ?_
                refine RW.op rfl rfl (eff_sliceM (l := none) (h := some k) rfl rfl te23 rfl (fun _ => rfl) .no (.yes rfl rfl) (Nat.zero_le _) (by show k ≤ b.ls.length; omega) rfl) ?_
                refine RW.op rfl rfl (eff_makeFunc rfl rfl rfl rfl) ?_
                refine RW.op rfl rfl (eff_callB (ys := [_, _]) (caps := []) rfl rfl rfl (.t _) co41 (ResL.cons (.t _) (.refl _) (ResL.cons (Res.fnP (xs := [.ptr (encL (b.ls[k]'(by omega))).cells]) ⟨Res.ptrT (x := encL (b.ls[k]'(by omega))) rfl rfl rfl, trivial⟩) (.refl _) .nil)) (by rw [List.append_nil]; exact containsL_ret (b.ls.take k) 42 [.ptr (encL (b.ls[k]'(by omega))).cells] (fun y => decide (confl y (b.ls[k]'(by omega)))) (by rw [List.length_take]; omega) co42 (fun x _ => closure42_ret x _)) rfl) ?_
                refine RW.nil ?_
                refine awp_cond rfl (fun h9 => ?_) (fun h9 => ?_)
                · try simp only [decide_eq_true_eq, decide_eq_false_iff_not, beq_iff_eq, bne_iff_ne, bne_eq_false_iff_eq, beq_eq_false_iff_ne, Bool.not_eq_true, Bool.not_eq_false, Bool.not_eq_true', Bool.not_eq_false', ne_eq] at h9
                  refine awp_seq ?_
                  refine awp_rw rfl ?_
                  refine RW.op rfl rfl (eff_assign (v := .t _) rfl rfl rfl) ?_
                  refine RW.nil ?_
                  refine awp_ret ?_
                  obtain ⟨y, hy, hc⟩ := List.any_eq_true.1 h9
                  rw [List.take_of_length_le (by omega)] at ha
                  rw [chk_4 (by omega) (by simp [h3, h4]) h5 ha (not_apart (by omega) hy (confl_comm.1 (by simpa using hc)))]
                  exact ⟨Or.inr rfl, [_], ⟨.tmp (.t _), trivial⟩, .refl _⟩
                · try simp only [decide_eq_true_eq, decide_eq_false_iff_not, beq_iff_eq, bne_iff_ne, bne_eq_false_iff_eq, beq_eq_false_iff_ne, Bool.not_eq_true, Bool.not_eq_false, Bool.not_eq_true', Bool.not_eq_false', ne_eq] at h9
                  refine awp_skip ?_
                  refine awp_rw rfl ?_
                  refine RW.op rfl rfl (eff_iop rfl rfl rfl rfl (iadd (by omega))) ?_
                  refine RW.op rfl rfl (eff_move (v := .t _) rfl rfl rfl) ?_
                  refine RW.nil ?_
                  refine ⟨_, ?_, _, weak_keep (n := 62) (fr' := [(1, .ptr 1 0 0 0), (48, .t (.sl (b.ls.map encL) false)), (49, .t (encI b.ls.length)), (50, .t (encI ((k + 1) : Nat)))]) (st' := [(1, some ⟨5, 27, 0, [.t (encB b)]⟩)]) ⟨rfl, rfl, rfl, rfl, rfl, rfl, rfl, rfl, trivial⟩ ⟨rfl, okE_one rfl, trivial⟩, k + 1, (by omega), (by exact apart_step (by omega) hb (any_confl.1 h9)), rfl, rfl⟩
                  omega
              · try simp only [decide_eq_true_eq, decide_eq_false_iff_not, beq_iff_eq, bne_iff_ne, bne_eq_false_iff_eq, beq_eq_false_iff_ne, Bool.not_eq_true, Bool.not_eq_false, Bool.not_eq_true', Bool.not_eq_false', ne_eq] at h8
                refine awp_exit ?_
                refine awp_seq ?_
                refine awp_rw rfl ?_
                refine RW.op rfl rfl (eff_assign (v := .t _) rfl rfl rfl) ?_
                refine RW.nil ?_
                refine awp_ret ?_
                rw [List.take_of_length_le (by omega)] at ha hb
                rw [chk_0 (by omega) (by simp [h3, h4]) h5 ha hb]
                exact ⟨Or.inr rfl, [_], ⟨.tmp (.t _), trivial⟩, .refl _⟩

theorem chk12_ret (b : Bank) (hB : BOK b) : Ret Try.prog 12 [encB b] (encI (chk b)) := by
  refine ret_of_awp Try.func12 rfl (Nat.le_of_ble_eq_true rfl) ?_
  refine awp_seq ?_
  refine awp_rw rfl ?_
  refine RW.new rfl rfl (eff_boxK (v := .t _) (k := 5) (id := 1) rfl rfl rfl rfl rfl rfl) ?_
  refine RW.op rfl rfl (eff_assign (v := .t _) rfl rfl rfl) ?_
  refine RW.nil ?_
  refine awp_seq ?_
  refine awp_seq ?_
  refine awp_rw rfl ?_
  refine RW.op rfl rfl (eff_fieldAddr rfl rfl tf27_0 (by decide) rfl rfl rfl (Nat.le_of_ble_eq_true rfl)) ?_
  refine RW.op rfl rfl (eff_load (y := .t _) rfl rfl ti22 rfl (.one rfl rfl rfl rfl)) ?_
  refine RW.op rfl rfl (eff_lenM rfl rfl te22 rfl) ?_
  refine RW.op rfl rfl (eff_iop rfl rfl rfl rfl rfl) ?_
  refine RW.op rfl rfl (eff_move (v := .t _) rfl rfl rfl) ?_
  refine RW.split 12 rfl (fun h1 => ?_) (fun h1 => ?_)
  · try simp only [decide_eq_true_eq, decide_eq_false_iff_not, beq_iff_eq, bne_iff_ne, bne_eq_false_iff_eq, beq_eq_false_iff_ne, Bool.not_eq_true, Bool.not_eq_false, Bool.not_eq_true', Bool.not_eq_false', ne_eq] at h1
    refine RW.gskip rfl rfl rfl rfl rfl (by decide) ?_
    refine RW.gskip rfl rfl rfl rfl rfl (by decide) ?_
    refine RW.gskip rfl rfl rfl rfl rfl (by decide) ?_
    refine RW.gskip rfl rfl rfl rfl rfl (by decide) ?_
    refine RW.op rfl rfl (eff_pick (v := .t _) rfl rfl rfl rfl) ?_
    refine RW.nil ?_
    refine awp_cond rfl (fun _ => ?_) (fun h => nomatch h)
    refine awp_seq ?_
    refine awp_rw rfl ?_
    refine RW.op rfl rfl (eff_assign (v := .t _) rfl rfl rfl) ?_
    refine RW.nil ?_
    refine awp_ret ?_
    rw [chk_2 (by omega)]
    exact ⟨Or.inr rfl, [_], ⟨.tmp (.t _), trivial⟩, .refl _⟩
  · try simp only [decide_eq_true_eq, decide_eq_false_iff_not, beq_iff_eq, bne_iff_ne, bne_eq_false_iff_eq, beq_eq_false_iff_ne, Bool.not_eq_true, Bool.not_eq_false, Bool.not_eq_true', Bool.not_eq_false', ne_eq] at h1
    refine RW.gop rfl rfl rfl rfl rfl rfl (eff_fieldAddr rfl rfl tf27_1 (by decide) rfl rfl rfl (Nat.le_of_ble_eq_true rfl)) ?_
    refine RW.gop rfl rfl rfl rfl rfl rfl (eff_load (y := .t _) rfl rfl ti23 rfl (.one rfl rfl rfl rfl)) ?_
    refine RW.gop rfl rfl rfl rfl rfl rfl (eff_lenM rfl rfl te23 rfl) ?_
    refine RW.gop rfl rfl rfl rfl rfl rfl (eff_iop rfl rfl rfl rfl rfl) ?_
    refine RW.op rfl rfl (eff_pick (v := .t _) rfl rfl rfl rfl) ?_
    refine RW.nil ?_
    refine awp_cond rfl (fun h2 => ?_) (fun h2 => ?_)
    · try simp only [decide_eq_true_eq, decide_eq_false_iff_not, beq_iff_eq, bne_iff_ne, bne_eq_false_iff_eq, beq_eq_false_iff_ne, Bool.not_eq_true, Bool.not_eq_false, Bool.not_eq_true', Bool.not_eq_false', ne_eq] at h2
      refine awp_seq ?_
      refine awp_rw rfl ?_
      refine RW.op rfl rfl (eff_assign (v := .t _) rfl rfl rfl) ?_
      refine RW.nil ?_
      refine awp_ret ?_
      rw [chk_2 (by omega)]
      exact ⟨Or.inr rfl, [_], ⟨.tmp (.t _), trivial⟩, .refl _⟩
    · try simp only [decide_eq_true_eq, decide_eq_false_iff_not, beq_iff_eq, bne_iff_ne, bne_eq_false_iff_eq, beq_eq_false_iff_ne, Bool.not_eq_true, Bool.not_eq_false, Bool.not_eq_true', Bool.not_eq_false', ne_eq] at h2
      refine awp_skip ?_
      refine awp_seq ?_
      refine awp_seq ?_
      refine awp_rw rfl ?_
      refine RW.op rfl rfl (eff_assign (v := .t _) rfl rfl rfl) ?_
      refine RW.nil ?_
      refine awp_block ?_
      refine awp_loopW (fun m s => ∃ (i : Nat), (i ≤ b.accs.length ∨ i = 1) ∧ (0 < i) ∧ (((b.accs.take i).map (fun x : Acc => x.c)).Pairwise (· < ·)) ∧ m = b.accs.length + 1 - i ∧ s = ⟨102, [(1, .ptr 1 0 0 0), (3, .t (encI (i : Nat)))], [(1, some ⟨5, 27, 0, [.t (encB b)]⟩)]⟩) (_) (⟨_, weak_keep (n := 102) (fr' := [(1, .ptr 1 0 0 0), (3, .t (encI (1 : Nat)))]) (st' := [(1, some ⟨5, 27, 0, [.t (encB b)]⟩)]) ⟨rfl, rfl, rfl, rfl, trivial⟩ ⟨rfl, okE_one rfl, trivial⟩, 1, (by omega), (by omega), (by rcases b.accs with _ | ⟨a, l⟩ <;> simp), rfl, rfl⟩) ?_
      rintro m s ⟨i, hi, h0i, ia, rfl, rfl⟩
      have hL := hB.1
      have hL2 := hB.2
      refine awp_seq ?_
      refine awp_seq ?_
      refine awp_rw rfl ?_
      refine RW.op rfl rfl (eff_move (v := .t _) rfl rfl rfl) ?_
      refine RW.op rfl rfl (eff_fieldAddr rfl rfl tf27_0 (by decide) rfl rfl rfl (Nat.le_of_ble_eq_true rfl)) ?_
      refine RW.op rfl rfl (eff_load (y := .t _) rfl rfl ti22 rfl (.one rfl rfl rfl rfl)) ?_
      refine RW.op rfl rfl (eff_lenM rfl rfl te22 rfl) ?_
      refine RW.op rfl rfl (eff_iop rfl rfl rfl rfl rfl) ?_
      refine RW.nil ?_
      refine awp_cond rfl (fun h3 => ?_) (fun h3 => ?_)
      · try simp only [decide_eq_true_eq, decide_eq_false_iff_not, beq_iff_eq, bne_iff_ne, bne_eq_false_iff_eq, beq_eq_false_iff_ne, Bool.not_eq_true, Bool.not_eq_false, Bool.not_eq_true', Bool.not_eq_false', ne_eq] at h3
        refine awp_skip ?_
        refine awp_seq ?_
        refine awp_block ?_
        refine awp_seq ?_
        refine awp_rd [(some 25, []), (some 26, []), (some 27, []), (some 28, []), (some 29, []), (some 30, []), (some 31, []), (some 32, []), (some 33, []), (some 34, []), (some 35, []), (some 36, []), (some 37, []), (some 38, [])] [[], [0], [], [2], [0, 1, 2, 3], [0, 1, 2, 3, 4], [0, 1, 2, 3, 4, 5], [], [7], [], [7, 8, 9], [7, 8, 9, 10], [7, 8, 9, 10, 11], [0, 1, 2, 3, 4, 5, 6, 7, 8, 9, 10, 11, 12]] tm rfl rfl rfl rfl ?_
        refine RD.op rfl rfl rfl (eff_fieldAddr rfl rfl tf27_0 (by decide) rfl rfl rfl (Nat.le_of_ble_eq_true rfl)) ?_
        refine RD.op rfl rfl rfl (eff_load (y := .t _) rfl rfl ti22 rfl (.one rfl rfl rfl rfl)) ?_
        refine RD.op rfl rfl rfl (eff_move (v := .t _) rfl rfl rfl) ?_
        refine RD.op rfl rfl rfl (eff_iop rfl rfl rfl rfl (isub (by omega))) ?_
        refine RD.op rfl rfl rfl (eff_indexM (i := i - 1) rfl rfl te22 rfl rfl (by first | rfl | omega) (by exact List.getElem?_eq_getElem (by omega)) rfl (by decide)) ?_
        refine RD.op rfl rfl rfl (eff_fieldAddrT rfl rfl tf57_0 (by decide) rfl) ?_
        refine RD.op rfl rfl rfl (eff_loadT1 rfl rfl ti3 rfl rfl) ?_
        refine RD.op rfl rfl rfl (eff_fieldAddr rfl rfl tf27_0 (by decide) rfl rfl rfl (Nat.le_of_ble_eq_true rfl)) ?_
        refine RD.op rfl rfl rfl (eff_load (y := .t _) rfl rfl ti22 rfl (.one rfl rfl rfl rfl)) ?_
        refine RD.op rfl rfl rfl (eff_move (v := .t _) rfl rfl rfl) ?_
        refine RD.op rfl rfl rfl (eff_indexM rfl rfl te22 rfl rfl rfl (by first | assumption | exact List.getElem?_eq_getElem (by omega)) rfl (by decide)) ?_
        refine RD.op rfl rfl rfl (eff_fieldAddrT rfl rfl tf57_0 (by decide) rfl) ?_
        refine RD.op rfl rfl rfl (eff_loadT1 rfl rfl ti3 rfl rfl) ?_
        refine RD.op rfl rfl rfl (eff_iop rfl rfl rfl rfl rfl) ?_
        refine RD.nil ?_
        refine awp_cond rfl (fun h4 => ?_) (fun h4 => ?_)
        · try simp only [decide_eq_true_eq, decide_eq_false_iff_not, beq_iff_eq, bne_iff_ne, bne_eq_false_iff_eq, beq_eq_false_iff_ne, Bool.not_eq_true, Bool.not_eq_false, Bool.not_eq_true', Bool.not_eq_false', ne_eq] at h4
          refine awp_seq ?_
          refine awp_rw rfl ?_
          refine RW.op rfl rfl (eff_assign (v := .t _) rfl rfl rfl) ?_
          refine RW.nil ?_
          refine awp_ret ?_
          rw [chk_23 (by omega) (.inl (fun hp => by have hp2 : (b.accs.map (fun x : Acc => x.c)).Pairwise (· < ·) := hp; have := List.pairwise_iff_getElem.1 hp2 (i - 1) i (by simp; omega) (by simp; omega) (by omega); rw [List.getElem_map, List.getElem_map] at this; omega))]
          exact ⟨Or.inr rfl, [_], ⟨.tmp (.t _), trivial⟩, .refl _⟩
        · try simp only [decide_eq_true_eq, decide_eq_false_iff_not, beq_iff_eq, bne_iff_ne, bne_eq_false_iff_eq, beq_eq_false_iff_ne, Bool.not_eq_true, Bool.not_eq_false, Bool.not_eq_true', Bool.not_eq_false', ne_eq] at h4
          refine awp_skip ?_
          refine awp_rw rfl ?_
          refine RW.op rfl rfl (eff_move (v := .t _) rfl rfl rfl) ?_
          refine RW.op rfl rfl (eff_iop rfl rfl rfl rfl (iadd (by omega))) ?_
          refine RW.op rfl rfl (eff_assign (v := .t _) rfl rfl rfl) ?_
          refine RW.nil ?_
          refine ⟨_, ?_, _, weak_keep (n := 102) (fr' := [(1, .ptr 1 0 0 0), (3, .t (encI ((i + 1) : Nat)))]) (st' := [(1, some ⟨5, 27, 0, [.t (encB b)]⟩)]) ⟨rfl, rfl, rfl, rfl, trivial⟩ ⟨rfl, okE_one rfl, trivial⟩, i + 1, (by omega), (by omega), (by exact incr_stepK (fun x : Acc => x.c) h0i (by omega) ia (by omega)), rfl, rfl⟩
          omega
      · try simp only [decide_eq_true_eq, decide_eq_false_iff_not, beq_iff_eq, bne_iff_ne, bne_eq_false_iff_eq, beq_eq_false_iff_ne, Bool.not_eq_true, Bool.not_eq_false, Bool.not_eq_true', Bool.not_eq_false', ne_eq] at h3
        refine awp_exit ?_
        refine awp_seq ?_
        refine awp_seq ?_
        refine awp_rw rfl ?_
        refine RW.op rfl rfl (eff_assign (v := .t _) rfl rfl rfl) ?_
        refine RW.nil ?_
        refine awp_block ?_
        refine awp_loopW (fun m s => ∃ (j : Nat), (j ≤ b.ls.length ∨ j = 1) ∧ (0 < j) ∧ (((b.ls.take j).map (fun x : Lea => x.id)).Pairwise (· < ·)) ∧ m = b.ls.length + 1 - j ∧ s = ⟨102, [(1, .ptr 1 0 0 0), (4, .t (encI (j : Nat)))], [(1, some ⟨5, 27, 0, [.t (encB b)]⟩)]⟩) (_) (⟨_, weak_keep (n := 102) (fr' := [(1, .ptr 1 0 0 0), (4, .t (encI (1 : Nat)))]) (st' := [(1, some ⟨5, 27, 0, [.t (encB b)]⟩)]) ⟨rfl, rfl, rfl, rfl, trivial⟩ ⟨rfl, okE_one rfl, trivial⟩, 1, (by omega), (by omega), (by rcases b.ls with _ | ⟨a, l⟩ <;> simp), rfl, rfl⟩) ?_
        rintro m s ⟨j, hj, h0j, il, rfl, rfl⟩
        have hL := hB.1
        have hL2 := hB.2
        refine awp_seq ?_
        refine awp_seq ?_
        refine awp_rw rfl ?_
        refine RW.op rfl rfl (eff_move (v := .t _) rfl rfl rfl) ?_
        refine RW.op rfl rfl (eff_fieldAddr rfl rfl tf27_1 (by decide) rfl rfl rfl (Nat.le_of_ble_eq_true rfl)) ?_
        refine RW.op rfl rfl (eff_load (y := .t _) rfl rfl ti23 rfl (.one rfl rfl rfl rfl)) ?_
        refine RW.op rfl rfl (eff_lenM rfl rfl te23 rfl) ?_
        refine RW.op rfl rfl (eff_iop rfl rfl rfl rfl rfl) ?_
        refine RW.nil ?_
        refine awp_cond rfl (fun h5 => ?_) (fun h5 => ?_)
        · try simp only [decide_eq_true_eq, decide_eq_false_iff_not, beq_iff_eq, bne_iff_ne, bne_eq_false_iff_eq, beq_eq_false_iff_ne, Bool.not_eq_true, Bool.not_eq_false, Bool.not_eq_true', Bool.not_eq_false', ne_eq] at h5
          refine awp_skip ?_
          refine awp_seq ?_
          refine awp_block ?_
          refine awp_seq ?_
          refine awp_rd [(some 46, []), (some 47, []), (some 48, []), (some 49, []), (some 50, []), (some 51, []), (some 52, []), (some 53, []), (some 54, []), (some 55, []), (some 56, []), (some 57, []), (some 58, []), (some 59, [])] [[], [0], [], [2], [0, 1, 2, 3], [0, 1, 2, 3, 4], [0, 1, 2, 3, 4, 5], [], [7], [], [7, 8, 9], [7, 8, 9, 10], [7, 8, 9, 10, 11], [0, 1, 2, 3, 4, 5, 6, 7, 8, 9, 10, 11, 12]] tm rfl rfl rfl rfl ?_
          refine RD.op rfl rfl rfl (eff_fieldAddr rfl rfl tf27_1 (by decide) rfl rfl rfl (Nat.le_of_ble_eq_true rfl)) ?_
          refine RD.op rfl rfl rfl (eff_load (y := .t _) rfl rfl ti23 rfl (.one rfl rfl rfl rfl)) ?_
          refine RD.op rfl rfl rfl (eff_move (v := .t _) rfl rfl rfl) ?_
          refine RD.op rfl rfl rfl (eff_iop rfl rfl rfl rfl (isub (by omega))) ?_
          refine RD.op rfl rfl rfl (eff_indexM (i := j - 1) rfl rfl te23 rfl rfl (by first | rfl | omega) (by exact List.getElem?_eq_getElem (by omega)) rfl (by decide)) ?_
          refine RD.op rfl rfl rfl (eff_fieldAddrT rfl rfl tf44_0 (by decide) rfl) ?_
          refine RD.op rfl rfl rfl (eff_loadT1 rfl rfl ti3 rfl rfl) ?_
          refine RD.op rfl rfl rfl (eff_fieldAddr rfl rfl tf27_1 (by decide) rfl rfl rfl (Nat.le_of_ble_eq_true rfl)) ?_
          refine RD.op rfl rfl rfl (eff_load (y := .t _) rfl rfl ti23 rfl (.one rfl rfl rfl rfl)) ?_
          refine RD.op rfl rfl rfl (eff_move (v := .t _) rfl rfl rfl) ?_
          refine RD.op rfl rfl rfl (eff_indexM rfl rfl te23 rfl rfl rfl (by first | assumption | exact List.getElem?_eq_getElem (by omega)) rfl (by decide)) ?_
          refine RD.op rfl rfl rfl (eff_fieldAddrT rfl rfl tf44_0 (by decide) rfl) ?_
          refine RD.op rfl rfl rfl (eff_loadT1 rfl rfl ti3 rfl rfl) ?_
          refine RD.op rfl rfl rfl (eff_iop rfl rfl rfl rfl rfl) ?_
          refine RD.nil ?_
          refine awp_cond rfl (fun h6 => ?_) (fun h6 => ?_)
          · try simp only [decide_eq_true_eq, decide_eq_false_iff_not, beq_iff_eq, bne_iff_ne, bne_eq_false_iff_eq, beq_eq_false_iff_ne, Bool.not_eq_true, Bool.not_eq_false, Bool.not_eq_true', Bool.not_eq_false', ne_eq] at h6
            refine awp_seq ?_
            refine awp_rw rfl ?_
            refine RW.op rfl rfl (eff_assign (v := .t _) rfl rfl rfl) ?_
            refine RW.nil ?_
            refine awp_ret ?_
            rw [chk_23 (by omega) (.inr (fun hp => by have hp2 : (b.ls.map (fun x : Lea => x.id)).Pairwise (· < ·) := hp; have := List.pairwise_iff_getElem.1 hp2 (j - 1) j (by simp; omega) (by simp; omega) (by omega); rw [List.getElem_map, List.getElem_map] at this; omega))]
            exact ⟨Or.inr rfl, [_], ⟨.tmp (.t _), trivial⟩, .refl _⟩
          · try simp only [decide_eq_true_eq, decide_eq_false_iff_not, beq_iff_eq, bne_iff_ne, bne_eq_false_iff_eq, beq_eq_false_iff_ne, Bool.not_eq_true, Bool.not_eq_false, Bool.not_eq_true', Bool.not_eq_false', ne_eq] at h6
            refine awp_skip ?_
            refine awp_rw rfl ?_
            refine RW.op rfl rfl (eff_move (v := .t _) rfl rfl rfl) ?_
            refine RW.op rfl rfl (eff_iop rfl rfl rfl rfl (iadd (by omega))) ?_
            refine RW.op rfl rfl (eff_assign (v := .t _) rfl rfl rfl) ?_
            refine RW.nil ?_
            refine ⟨_, ?_, _, weak_keep (n := 102) (fr' := [(1, .ptr 1 0 0 0), (4, .t (encI ((j + 1) : Nat)))]) (st' := [(1, some ⟨5, 27, 0, [.t (encB b)]⟩)]) ⟨rfl, rfl, rfl, rfl, trivial⟩ ⟨rfl, okE_one rfl, trivial⟩, j + 1, (by omega), (by omega), (by exact incr_stepK (fun x : Lea => x.id) h0j (by omega) il (by omega)), rfl, rfl⟩
            omega
        · try simp only [decide_eq_true_eq, decide_eq_false_iff_not, beq_iff_eq, bne_iff_ne, bne_eq_false_iff_eq, beq_eq_false_iff_ne, Bool.not_eq_true, Bool.not_eq_false, Bool.not_eq_true', Bool.not_eq_false', ne_eq] at h5
          refine awp_exit ?_
          refine awp_seq ?_
          refine awp_seq ?_
          refine awp_rw rfl ?_
          rw [List.take_of_length_le (by omega)] at ia il
          refine RW.op rfl rfl (eff_load rfl rfl ti27 rfl (.whole rfl rfl rfl rfl rfl rfl)) ?_
          refine RW.op rfl rfl (eff_callT (ranges32_ret b hB) co32 rfl rfl rfl rfl) ?_
          refine RW.op rfl rfl (eff_unop rfl rfl rfl rfl) ?_
          refine RW.nil ?_
          refine awp_cond rfl (fun h7 => ?_) (fun h7 => ?_)
          · try simp only [decide_eq_true_eq, decide_eq_false_iff_not, beq_iff_eq, bne_iff_ne, bne_eq_false_iff_eq, beq_eq_false_iff_ne, Bool.not_eq_true, Bool.not_eq_false, Bool.not_eq_true', Bool.not_eq_false', ne_eq] at h7
            refine awp_seq ?_
            refine awp_rw rfl ?_
            refine RW.op rfl rfl (eff_assign (v := .t _) rfl rfl rfl) ?_
            refine RW.nil ?_
            refine awp_ret ?_
            rw [chk_5 (by omega) (fun h => h.elim (fun h => h ia) (fun h => h il)) h7]
            exact ⟨Or.inr rfl, [_], ⟨.tmp (.t _), trivial⟩, .refl _⟩
          · try simp only [decide_eq_true_eq, decide_eq_false_iff_not, beq_iff_eq, bne_iff_ne, bne_eq_false_iff_eq, beq_eq_false_iff_ne, Bool.not_eq_true, Bool.not_eq_false, Bool.not_eq_true', Bool.not_eq_false', ne_eq] at h7
            refine awp_skip ?_
            refine awp_seq ?_
            refine awp_seq ?_
            refine awp_rw rfl ?_
            refine RW.op rfl rfl (eff_assign (v := .t _) rfl rfl rfl) ?_
            refine RW.nil ?_
            refine awp_block ?_
            refine awp_loopW (fun m s => ∃ (u : Nat), (u ≤ b.ls.length) ∧ (∀ l, l ∈ b.ls.take u → ∃ a, a ∈ b.accs ∧ a.c = l.cu) ∧ m = b.ls.length - u ∧ s = ⟨102, [(1, .ptr 1 0 0 0), (5, .t (encI (u : Nat)))], [(1, some ⟨5, 27, 0, [.t (encB b)]⟩)]⟩) (_) (⟨_, weak_keep (n := 102) (fr' := [(1, .ptr 1 0 0 0), (5, .t (encI (0 : Nat)))]) (st' := [(1, some ⟨5, 27, 0, [.t (encB b)]⟩)]) ⟨rfl, rfl, rfl, rfl, trivial⟩ ⟨rfl, okE_one rfl, trivial⟩, 0, (by omega), (by simp), rfl, rfl⟩) ?_
            rintro m s ⟨u, hu, ha, rfl, rfl⟩
            have hL := hB.1
            have hL2 := hB.2
            refine awp_seq ?_
            refine awp_seq ?_
            refine awp_rw rfl ?_
            refine RW.op rfl rfl (eff_move (v := .t _) rfl rfl rfl) ?_
            refine RW.op rfl rfl (eff_fieldAddr rfl rfl tf27_1 (by decide) rfl rfl rfl (Nat.le_of_ble_eq_true rfl)) ?_
            refine RW.op rfl rfl (eff_load (y := .t _) rfl rfl ti23 rfl (.one rfl rfl rfl rfl)) ?_
            refine RW.op rfl rfl (eff_lenM rfl rfl te23 rfl) ?_
            refine RW.op rfl rfl (eff_iop rfl rfl rfl rfl rfl) ?_
            refine RW.nil ?_
            refine awp_cond rfl (fun h8 => ?_) (fun h8 => ?_)
            · try simp only [decide_eq_true_eq, decide_eq_false_iff_not, beq_iff_eq, bne_iff_ne, bne_eq_false_iff_eq, beq_eq_false_iff_ne, Bool.not_eq_true, Bool.not_eq_false, Bool.not_eq_true', Bool.not_eq_false', ne_eq] at h8
              refine awp_skip ?_
              refine awp_seq ?_
              refine awp_block ?_
              refine awp_seq ?_
              refine awp_rd [(some 70, []), (some 71, []), (some 72, []), (some 73, []), (some 74, []), (some 75, []), (some 76, []), (some 77, []), (some 78, [])] [[], [], [1], [], [1, 2, 3], [1, 2, 3, 4], [1, 2, 3, 4, 5], [0, 1, 2, 3, 4, 5, 6], [0, 1, 2, 3, 4, 5, 6, 7]] tm rfl rfl rfl rfl ?_
              refine RD.op rfl rfl rfl (eff_load rfl rfl ti27 rfl (.whole rfl rfl rfl rfl rfl rfl)) ?_
              refine RD.op rfl rfl rfl (eff_fieldAddr rfl rfl tf27_1 (by decide) rfl rfl rfl (Nat.le_of_ble_eq_true rfl)) ?_
              refine RD.op rfl rfl rfl (eff_load (y := .t _) rfl rfl ti23 rfl (.one rfl rfl rfl rfl)) ?_
              refine RD.op rfl rfl rfl (eff_move (v := .t _) rfl rfl rfl) ?_
              refine RD.op rfl rfl rfl (eff_indexM rfl rfl te23 rfl rfl rfl (by first | assumption | exact List.getElem?_eq_getElem (by omega)) rfl (by decide)) ?_
              refine RD.op rfl rfl rfl (eff_fieldAddrT rfl rfl tf44_1 (by decide) rfl) ?_
              refine RD.op rfl rfl rfl (eff_loadT1 rfl rfl ti3 rfl rfl) ?_
              refine RD.op rfl rfl rfl (eff_callT (account_ret b (b.ls[u]'(by omega)).cu hB) co33 rfl rfl rfl rfl) ?_
              refine RD.op rfl rfl rfl (eff_iop rfl rfl rfl rfl rfl) ?_
              refine RD.nil ?_
              refine awp_cond rfl (fun h9 => ?_) (fun h9 => ?_)
              · try simp only [decide_eq_true_eq, decide_eq_false_iff_not, beq_iff_eq, bne_iff_ne, bne_eq_false_iff_eq, beq_eq_false_iff_ne, Bool.not_eq_true, Bool.not_eq_false, Bool.not_eq_true', Bool.not_eq_false', ne_eq] at h9
                refine awp_seq ?_
                refine awp_rw rfl ?_
                refine RW.op rfl rfl (eff_assign (v := .t _) rfl rfl rfl) ?_
                refine RW.nil ?_
                refine awp_ret ?_
                rw [chk_3 (by omega) (fun h => h.elim (fun h => h ia) (fun h => h il)) h7 (not_owned (List.getElem_mem _) h9)]
                exact ⟨Or.inr rfl, [_], ⟨.tmp (.t _), trivial⟩, .refl _⟩
              · try simp only [decide_eq_true_eq, decide_eq_false_iff_not, beq_iff_eq, bne_iff_ne, bne_eq_false_iff_eq, beq_eq_false_iff_ne, Bool.not_eq_true, Bool.not_eq_false, Bool.not_eq_true', Bool.not_eq_false', ne_eq] at h9
                refine awp_skip ?_
                refine awp_rw rfl ?_
                refine RW.op rfl rfl (eff_move (v := .t _) rfl rfl rfl) ?_
                refine RW.op rfl rfl (eff_iop rfl rfl rfl rfl (iadd (by omega))) ?_
                refine RW.op rfl rfl (eff_assign (v := .t _) rfl rfl rfl) ?_
                refine RW.nil ?_
                refine ⟨_, ?_, _, weak_keep (n := 102) (fr' := [(1, .ptr 1 0 0 0), (5, .t (encI ((u + 1) : Nat)))]) (st' := [(1, some ⟨5, 27, 0, [.t (encB b)]⟩)]) ⟨rfl, rfl, rfl, rfl, trivial⟩ ⟨rfl, okE_one rfl, trivial⟩, u + 1, (by omega), (by intro x hx; rcases (mem_take_succ (by omega)).1 hx with h | h; exact ha x h; rw [h]; exact owned_at h9), rfl, rfl⟩
                omega
            · try simp only [decide_eq_true_eq, decide_eq_false_iff_not, beq_iff_eq, bne_iff_ne, bne_eq_false_iff_eq, beq_eq_false_iff_ne, Bool.not_eq_true, Bool.not_eq_false, Bool.not_eq_true', Bool.not_eq_false', ne_eq] at h8
              refine awp_exit ?_
              refine awp_seq ?_
              refine awp_seq ?_
              refine awp_rw rfl ?_
              refine RW.op rfl rfl (eff_assign (v := .t _) rfl rfl rfl) ?_
              refine RW.nil ?_
              refine awp_block ?_
              refine awp_loopW (fun m s => ∃ (k : Nat), (k ≤ b.ls.length) ∧ ((b.ls.take k).Pairwise (fun x y => ¬ confl y x)) ∧ m = b.ls.length - k ∧ s = ⟨102, [(1, .ptr 1 0 0 0), (6, .t (encI (k : Nat)))], [(1, some ⟨5, 27, 0, [.t (encB b)]⟩)]⟩) (_) (⟨_, weak_keep (n := 102) (fr' := [(1, .ptr 1 0 0 0), (6, .t (encI (0 : Nat)))]) (st' := [(1, some ⟨5, 27, 0, [.t (encB b)]⟩)]) ⟨rfl, rfl, rfl, rfl, trivial⟩ ⟨rfl, okE_one rfl, trivial⟩, 0, (by omega), (by simp), rfl, rfl⟩) ?_
              rintro m s ⟨k, hk, hb, rfl, rfl⟩
              have hL := hB.1
              have hL2 := hB.2
              refine awp_seq ?_
              refine awp_seq ?_
              refine awp_rw rfl ?_
              refine RW.op rfl rfl (eff_move (v := .t _) rfl rfl rfl) ?_
              refine RW.op rfl rfl (eff_fieldAddr rfl rfl tf27_1 (by decide) rfl rfl rfl (Nat.le_of_ble_eq_true rfl)) ?_
              refine RW.op rfl rfl (eff_load (y := .t _) rfl rfl ti23 rfl (.one rfl rfl rfl rfl)) ?_
              refine RW.op rfl rfl (eff_lenM rfl rfl te23 rfl) ?_
              refine RW.op rfl rfl (eff_iop rfl rfl rfl rfl rfl) ?_
              refine RW.nil ?_
              refine awp_cond rfl (fun h10 => ?_) (fun h10 => ?_)
              · try simp only [decide_eq_true_eq, decide_eq_false_iff_not, beq_iff_eq, bne_iff_ne, bne_eq_false_iff_eq, beq_eq_false_iff_ne, Bool.not_eq_true, Bool.not_eq_false, Bool.not_eq_true', Bool.not_eq_false', ne_eq] at h10
                refine awp_skip ?_
                refine awp_seq ?_
                refine awp_block ?_
                refine awp_seq ?_
                refine awp_rw rfl ?_
                have hkl : k < b.ls.length := by omega
                refine RW.op rfl rfl (eff_assign (v := .t _) rfl rfl rfl) ?_
                refine RW.nil ?_
                refine awp_block ?_
                refine awp_loopW (fun m s => ∃ (q : Nat), (q ≤ k) ∧ (∀ x, x ∈ b.ls.take q → ¬ confl (b.ls[k]'hkl) x) ∧ m = k - q ∧ s = ⟨102, [(1, .ptr 1 0 0 0), (6, .t (encI (k : Nat))), (7, .t (encI (q : Nat)))], [(1, some ⟨5, 27, 0, [.t (encB b)]⟩)]⟩) (_) (⟨_, weak_keep (n := 102) (fr' := [(1, .ptr 1 0 0 0), (6, .t (encI (k : Nat))), (7, .t (encI (0 : Nat)))]) (st' := [(1, some ⟨5, 27, 0, [.t (encB b)]⟩)]) ⟨rfl, rfl, rfl, rfl, rfl, rfl, trivial⟩ ⟨rfl, okE_one rfl, trivial⟩, 0, (by omega), (by simp), rfl, rfl⟩) ?_
                rintro m s ⟨q, hq, hc, rfl, rfl⟩
                refine awp_seq ?_
                refine awp_seq ?_
                refine awp_rw rfl ?_
                refine RW.op rfl rfl (eff_move (v := .t _) rfl rfl rfl) ?_
                refine RW.op rfl rfl (eff_move (v := .t _) rfl rfl rfl) ?_
                refine RW.op rfl rfl (eff_iop rfl rfl rfl rfl rfl) ?_
                refine RW.nil ?_
                refine awp_cond rfl (fun h11 => ?_) (fun h11 => ?_)
                · try simp only [decide_eq_true_eq, decide_eq_false_iff_not, beq_iff_eq, bne_iff_ne, bne_eq_false_iff_eq, beq_eq_false_iff_ne, Bool.not_eq_true, Bool.not_eq_false, Bool.not_eq_true', Bool.not_eq_false', ne_eq] at h11
                  refine awp_skip ?_
                  refine awp_seq ?_
                  refine awp_block ?_
                  refine awp_seq ?_
                  refine awp_rd [(some 91, []), (some 92, []), (some 93, []), (some 94, []), (some 95, []), (some 96, []), (some 97, []), (some 98, []), (some 99, []), (some 100, []), (some 101, [])] [[], [0], [], [0, 1, 2], [0, 1, 2, 3], [], [5], [], [5, 6, 7], [5, 6, 7, 8], [0, 1, 2, 3, 4, 5, 6, 7, 8, 9]] tm rfl rfl rfl rfl ?_
                  refine RD.op rfl rfl rfl (eff_fieldAddr rfl rfl tf27_1 (by decide) rfl rfl rfl (Nat.le_of_ble_eq_true rfl)) ?_
                  refine RD.op rfl rfl rfl (eff_load (y := .t _) rfl rfl ti23 rfl (.one rfl rfl rfl rfl)) ?_
                  refine RD.op rfl rfl rfl (eff_move (v := .t _) rfl rfl rfl) ?_
                  refine RD.op rfl rfl rfl (eff_indexM rfl rfl te23 rfl rfl rfl (by first | assumption | exact List.getElem?_eq_getElem (by omega)) rfl (by decide)) ?_
                  refine RD.op rfl rfl rfl (eff_loadW rfl rfl ti44 rfl rfl rfl) ?_
                  refine RD.op rfl rfl rfl (eff_fieldAddr rfl rfl tf27_1 (by decide) rfl rfl rfl (Nat.le_of_ble_eq_true rfl)) ?_
                  refine RD.op rfl rfl rfl (eff_load (y := .t _) rfl rfl ti23 rfl (.one rfl rfl rfl rfl)) ?_
                  refine RD.op rfl rfl rfl (eff_move (v := .t _) rfl rfl rfl) ?_
                  refine RD.op rfl rfl rfl (eff_indexM rfl rfl te23 rfl rfl rfl (by first | assumption | exact List.getElem?_eq_getElem (by omega)) rfl (by decide)) ?_
                  refine RD.op rfl rfl rfl (eff_loadW rfl rfl ti44 rfl rfl rfl) ?_
                  refine RD.op rfl rfl rfl (eff_callT (confl34_ret (b.ls[k]'hkl) (b.ls[q]'(by omega))) co34 rfl rfl rfl rfl) ?_
                  refine RD.nil ?_
                  refine awp_cond rfl (fun h12 => ?_) (fun h12 => ?_)
                  · try simp only [decide_eq_true_eq, decide_eq_false_iff_not, beq_iff_eq, bne_iff_ne, bne_eq_false_iff_eq, beq_eq_false_iff_ne, Bool.not_eq_true, Bool.not_eq_false, Bool.not_eq_true', Bool.not_eq_false', ne_eq] at h12
                    refine awp_seq ?_
                    refine awp_rw rfl ?_
                    refine RW.op rfl rfl (eff_assign (v := .t _) rfl rfl rfl) ?_
                    refine RW.nil ?_
                    refine awp_ret ?_
                    rw [List.take_of_length_le (by omega)] at ha
                    rw [chk_4 (by omega) (fun h => h.elim (fun h => h ia) (fun h => h il)) h7 ha (not_apart (i := k) hkl (x := b.ls[q]'(by omega)) (List.mem_iff_getElem.2 ⟨q, by rw [List.length_take]; omega, by rw [List.getElem_take]⟩) h12)]
                    exact ⟨Or.inr rfl, [_], ⟨.tmp (.t _), trivial⟩, .refl _⟩
                  · try simp only [decide_eq_true_eq, decide_eq_false_iff_not, beq_iff_eq, bne_iff_ne, bne_eq_false_iff_eq, beq_eq_false_iff_ne, Bool.not_eq_true, Bool.not_eq_false, Bool.not_eq_true', Bool.not_eq_false', ne_eq] at h12
                    refine awp_skip ?_
                    refine awp_rw rfl ?_
                    refine RW.op rfl rfl (eff_move (v := .t _) rfl rfl rfl) ?_
                    refine RW.op rfl rfl (eff_iop rfl rfl rfl rfl (iadd (by omega))) ?_
                    refine RW.op rfl rfl (eff_assign (v := .t _) rfl rfl rfl) ?_
                    refine RW.nil ?_
                    refine ⟨_, ?_, _, weak_keep (n := 102) (fr' := [(1, .ptr 1 0 0 0), (6, .t (encI (k : Nat))), (7, .t (encI ((q + 1) : Nat)))]) (st' := [(1, some ⟨5, 27, 0, [.t (encB b)]⟩)]) ⟨rfl, rfl, rfl, rfl, rfl, rfl, trivial⟩ ⟨rfl, okE_one rfl, trivial⟩, q + 1, (by omega), (by intro x hx; rcases (mem_take_succ (by omega)).1 hx with h | h; exact hc x h; rw [h]; exact h12), rfl, rfl⟩
                    omega
                · try simp only [decide_eq_true_eq, decide_eq_false_iff_not, beq_iff_eq, bne_iff_ne, bne_eq_false_iff_eq, beq_eq_false_iff_ne, Bool.not_eq_true, Bool.not_eq_false, Bool.not_eq_true', Bool.not_eq_false', ne_eq] at h11
                  refine awp_exit ?_
                  refine awp_rw rfl ?_
                  refine RW.op rfl rfl (eff_move (v := .t _) rfl rfl rfl) ?_
                  refine RW.op rfl rfl (eff_iop rfl rfl rfl rfl (iadd (by omega))) ?_
                  refine RW.op rfl rfl (eff_assign (v := .t _) rfl rfl rfl) ?_
                  refine RW.nil ?_
                  refine ⟨_, ?_, _, weak_keep (n := 102) (fr' := [(1, .ptr 1 0 0 0), (6, .t (encI ((k + 1) : Nat)))]) (st' := [(1, some ⟨5, 27, 0, [.t (encB b)]⟩)]) ⟨rfl, rfl, rfl, rfl, trivial⟩ ⟨rfl, okE_one rfl, trivial⟩, k + 1, (by omega), (by exact apart_step (by omega) hb (by rw [show q = k by omega] at hc; exact hc)), rfl, rfl⟩
                  omega
              · try simp only [decide_eq_true_eq, decide_eq_false_iff_not, beq_iff_eq, bne_iff_ne, bne_eq_false_iff_eq, beq_eq_false_iff_ne, Bool.not_eq_true, Bool.not_eq_false, Bool.not_eq_true', Bool.not_eq_false', ne_eq] at h10
                refine awp_exit ?_
                refine awp_seq ?_
                refine awp_rw rfl ?_
                refine RW.op rfl rfl (eff_assign (v := .t _) rfl rfl rfl) ?_
                refine RW.nil ?_
                refine awp_ret ?_
                rw [List.take_of_length_le (by omega)] at ha hb
                rw [chk_0 (by omega) (fun h => h.elim (fun h => h ia) (fun h => h il)) h7 ha hb]
                exact ⟨Or.inr rfl, [_], ⟨.tmp (.t _), trivial⟩, .refl _⟩

end Go.Tv.C24

end
section
open Go Go.Tv Go.Proofs
namespace Go.Tv.C24
set_option maxRecDepth 20000
set_option maxHeartbeats 2000000
set_option linter.unusedSimpArgs false
set_option linter.unusedVariables false
theorem clone75_retG (l : List Acc) (hl : l.length ≤ 1000000) : RetG Try.prog 75 [] [.t (.sl (l.map encA) false)] [(5, some ⟨4, 57, 1, (l.map encA).map .t⟩)] (.own 5 1 0 l.length) := by
  refine retG_of_awp Try.func75 rfl (Nat.le_of_ble_eq_true rfl) ?_
  refine awp_seq ?_
  refine awp_rw rfl ?_
  refine RW.op rfl rfl (eff_assign (v := .t _) rfl rfl rfl) ?_
  refine RW.nil ?_
  refine awp_seq ?_
  refine awp_seq ?_
  refine awp_rw rfl ?_
  refine RW.op rfl rfl (eff_move (v := .t _) rfl rfl rfl) ?_
  refine RW.nilEq rfl rfl rfl rfl te22 rfl (fun b1 hb1 => ?_)
  refine RW.nil ?_
  refine awp_cond rfl (fun h2 => ?_) (fun h2 => ?_)
  · try simp only [decide_eq_true_eq, decide_eq_false_iff_not, beq_iff_eq, bne_iff_ne, bne_eq_false_iff_eq, beq_eq_false_iff_ne, Bool.not_eq_true, Bool.not_eq_false, Bool.not_eq_true', Bool.not_eq_false', ne_eq] at h2
    refine awp_seq ?_
    refine awp_rw rfl ?_
    refine RW.op rfl rfl (eff_assign (v := .t _) rfl rfl rfl) ?_
    refine RW.nil ?_
    show AWP _ _ _ _
    refine awp_weak (weak_adopt (d := 2) (id := 5) (k := 4) (ty := 57) rfl rfl) ?_
    refine awp_weak (weak_bumpS (d := 2) (id := 5) (off := 0) (len := 0) 1 rfl rfl (by decide)) ?_
    refine awp_ret ?_
    have hl0 : l = [] := by simpa using hb1 h2
    subst hl0
    exact ⟨Or.inr rfl, [_], [.own 5 1 0 0], ⟨.tmp rfl, trivial⟩, rfl, weak_keep ⟨rfl, rfl, trivial⟩ ⟨rfl, okE_nil, trivial⟩, rfl⟩
  · try simp only [decide_eq_true_eq, decide_eq_false_iff_not, beq_iff_eq, bne_iff_ne, bne_eq_false_iff_eq, beq_eq_false_iff_ne, Bool.not_eq_true, Bool.not_eq_false, Bool.not_eq_true', Bool.not_eq_false', ne_eq] at h2
    refine awp_skip ?_
    refine awp_seq ?_
    refine awp_rw rfl ?_
    refine RW.new rfl rfl (eff_buildSliceL (id := 5) (els := []) rfl rfl te22 tz57 rfl (by decide) (by decide) rfl rfl rfl rfl) ?_
    refine RW.op rfl rfl (eff_move (v := .t _) rfl rfl rfl) ?_
    refine RW.new rfl rfl (eff_appendAny (id := 5) rfl rfl ta22 rfl rfl rfl rfl rfl rfl (srcM rfl (fun _ => rfl)) (by simp; omega) (by simp; omega)) ?_
    refine RW.op rfl rfl (eff_assign (v := .own _ _ _ _) rfl rfl rfl) ?_
    refine RW.nil ?_
    refine awp_ret ?_
    exact ⟨Or.inr rfl, [_], [.own 5 1 0 l.length], ⟨.tmp rfl, trivial⟩, rfl, weak_keep ⟨(by show AV.own 5 _ 0 _ = AV.own 5 1 0 l.length; congr 1; simp), rfl, trivial⟩ ⟨rfl, okE_t, trivial⟩, rfl⟩

theorem clone76_retG (l : List Lea) (hl : l.length ≤ 1000000) : RetG Try.prog 76 [] [.t (.sl (l.map encL) false)] [(5, some ⟨8, 44, 1, (l.map encL).map .t⟩)] (.own 5 1 0 l.length) := by
  refine retG_of_awp Try.func76 rfl (Nat.le_of_ble_eq_true rfl) ?_
  refine awp_seq ?_
  refine awp_rw rfl ?_
  refine RW.op rfl rfl (eff_assign (v := .t _) rfl rfl rfl) ?_
  refine RW.nil ?_
  refine awp_seq ?_
  refine awp_seq ?_
  refine awp_rw rfl ?_
  refine RW.op rfl rfl (eff_move (v := .t _) rfl rfl rfl) ?_
  refine RW.nilEq rfl rfl rfl rfl te23 rfl (fun b1 hb1 => ?_)
  refine RW.nil ?_
  refine awp_cond rfl (fun h2 => ?_) (fun h2 => ?_)
  · try simp only [decide_eq_true_eq, decide_eq_false_iff_not, beq_iff_eq, bne_iff_ne, bne_eq_false_iff_eq, beq_eq_false_iff_ne, Bool.not_eq_true, Bool.not_eq_false, Bool.not_eq_true', Bool.not_eq_false', ne_eq] at h2
    refine awp_seq ?_
    refine awp_rw rfl ?_
    refine RW.op rfl rfl (eff_assign (v := .t _) rfl rfl rfl) ?_
    refine RW.nil ?_
    show AWP _ _ _ _
    refine awp_weak (weak_adopt (d := 2) (id := 5) (k := 8) (ty := 44) rfl rfl) ?_
    refine awp_weak (weak_bumpS (d := 2) (id := 5) (off := 0) (len := 0) 1 rfl rfl (by decide)) ?_
    refine awp_ret ?_
    have hl0 : l = [] := by simpa using hb1 h2
    subst hl0
    exact ⟨Or.inr rfl, [_], [.own 5 1 0 0], ⟨.tmp rfl, trivial⟩, rfl, weak_keep ⟨rfl, rfl, trivial⟩ ⟨rfl, okE_nil, trivial⟩, rfl⟩
  · try simp only [decide_eq_true_eq, decide_eq_false_iff_not, beq_iff_eq, bne_iff_ne, bne_eq_false_iff_eq, beq_eq_false_iff_ne, Bool.not_eq_true, Bool.not_eq_false, Bool.not_eq_true', Bool.not_eq_false', ne_eq] at h2
    refine awp_skip ?_
    refine awp_seq ?_
    refine awp_rw rfl ?_
    refine RW.new rfl rfl (eff_buildSliceL (id := 5) (els := []) rfl rfl te23 tz44 rfl (by decide) (by decide) rfl rfl rfl rfl) ?_
    refine RW.op rfl rfl (eff_move (v := .t _) rfl rfl rfl) ?_
    refine RW.new rfl rfl (eff_appendAny (id := 5) rfl rfl ta23 rfl rfl rfl rfl rfl rfl (srcM rfl (fun _ => rfl)) (by simp; omega) (by simp; omega)) ?_
    refine RW.op rfl rfl (eff_assign (v := .own _ _ _ _) rfl rfl rfl) ?_
    refine RW.nil ?_
    refine awp_ret ?_
    exact ⟨Or.inr rfl, [_], [.own 5 1 0 l.length], ⟨.tmp rfl, trivial⟩, rfl, weak_keep ⟨(by show AV.own 5 _ 0 _ = AV.own 5 1 0 l.length; congr 1; simp), rfl, trivial⟩ ⟨rfl, okE_t, trivial⟩, rfl⟩

theorem clone54_retG (b : Bank) (hB : BOK b) : RetG Try.prog 54 [] [.t (encB b)] [(1005, some ⟨4, 57, 1, (b.accs.map encA).map .t⟩), (2005, some ⟨8, 44, 1, (b.ls.map encL).map .t⟩)] (.agg [.own 1005 1 0 b.accs.length, .own 2005 1 0 b.ls.length, .t (encI b.sp.e), .t (encI b.sp.b), .t (encI b.sp.d)]) := by
  refine retG_of_awp Try.func54 rfl (Nat.le_of_ble_eq_true rfl) ?_
  refine awp_seq ?_
  refine awp_rw rfl ?_
  refine RW.new rfl rfl (eff_boxK (v := .t _) (k := 5) (id := 1) rfl rfl rfl rfl rfl rfl) ?_
  refine RW.new rfl rfl (eff_allocK (k := 5) (id := 2) rfl rfl tz27 rfl rfl) ?_
  refine RW.nil ?_
  refine awp_seq ?_
  refine awp_rd [(some 3, []), (some 4, []), (some 5, [1005]), (some 6, []), (some 7, []), (some 8, [2005]), (some 9, []), (some 10, []), (some 11, []), (none, [2])] [[], [0], [0, 1], [], [3], [0, 1, 2, 3, 4], [], [6], [0, 1, 2, 3, 4, 5, 6, 7], [0, 1, 2, 3, 4, 5, 6, 7, 8]] tm rfl rfl rfl rfl ?_
  refine RD.op rfl rfl rfl (eff_fieldAddr rfl rfl tf27_0 (by decide) rfl rfl rfl (Nat.le_of_ble_eq_true rfl)) ?_
  refine RD.op rfl rfl rfl (eff_load (y := .t _) rfl rfl ti22 rfl (.one rfl rfl rfl rfl)) ?_
  refine RD.new rfl rfl rfl (eff_callG (clone75_retG b.accs (by have h := hB.1; omega)) co75 (fun id => id + 1000) rfl rfl rfl ⟨.t _, trivial⟩ (.own _ _ _ _ rfl rfl) rfl trivial ⟨⟨treeEls_t, .inr rfl⟩, trivial⟩) ?_
  refine RD.op rfl rfl rfl (eff_fieldAddr rfl rfl tf27_1 (by decide) rfl rfl rfl (Nat.le_of_ble_eq_true rfl)) ?_
  refine RD.op rfl rfl rfl (eff_load (y := .t _) rfl rfl ti23 rfl (.one rfl rfl rfl rfl)) ?_
  refine RD.new rfl rfl rfl (eff_callG (clone76_retG b.ls (by have h := hB.2; omega)) co76 (fun id => id + 2000) rfl rfl rfl ⟨.t _, trivial⟩ (.own _ _ _ _ rfl rfl) rfl trivial ⟨⟨treeEls_t, .inr rfl⟩, trivial⟩) ?_
  refine RD.op rfl rfl rfl (eff_fieldAddr rfl rfl tf27_2 (by decide) rfl rfl rfl (Nat.le_of_ble_eq_true rfl)) ?_
  refine RD.op rfl rfl rfl (eff_loadS (ys := [_, _, _]) rfl rfl ti25 rfl rfl rfl rfl rfl rfl) ?_
  refine RD.op rfl rfl rfl (eff_buildA (ys := [.own 1005 _ 0 _, .own 2005 _ 0 _, .t _, .t _, .t _]) rfl rfl tz27 tg27 rfl rfl) ?_
  refine RD.store rfl rfl rfl (eff_storeW (v := .agg _) (els := [_]) (els' := [_]) rfl rfl ti27 rfl rfl rfl rfl rfl rfl rfl rfl rfl) ?_
  refine RD.nil ?_
  refine awp_ret ?_
  exact ⟨Or.inr rfl, [_], [.agg [.own 1005 1 0 b.accs.length, .own 2005 1 0 b.ls.length, .t (encI b.sp.e), .t (encI b.sp.b), .t (encI b.sp.d)]], ⟨.cell rfl ti27 (.whole rfl rfl rfl rfl rfl rfl), trivial⟩, rfl, weak_keep ⟨rfl, rfl, trivial⟩ ⟨rfl, okE_t, rfl, okE_t, trivial⟩, rfl⟩

theorem copy_retG (b : Bank) (hB : BOK b) : RetG Try.prog 73 [] [.t (encB b)] [(3, some ⟨4, 57, 1, (b.accs.map encA).map .t⟩), (7, some ⟨8, 44, 1, (b.ls.map encL).map .t⟩)] (.agg [.own 3 1 0 (0 + (List.map AV.t (List.map encA b.accs)).length), .own 7 1 0 (0 + (List.map AV.t (List.map encL b.ls)).length), .t (encI b.sp.e), .t (encI b.sp.b), .t (encI b.sp.d)]) := by
  refine retG_of_awp Try.func73 rfl (Nat.le_of_ble_eq_true rfl) ?_
  refine awp_seq ?_
  refine awp_rw rfl ?_
  refine RW.new rfl rfl (eff_boxK (v := .t _) (k := 5) (id := 1) rfl rfl rfl rfl rfl rfl) ?_
  refine RW.new rfl rfl (eff_allocK (k := 5) (id := 2) rfl rfl tz27 rfl rfl) ?_
  refine RW.nil ?_
  refine awp_seq ?_
  refine awp_rd [(some 3, [3]), (some 4, []), (some 5, []), (some 6, [3]), (some 7, [7]), (some 8, []), (some 9, []), (some 10, [7]), (some 11, []), (some 12, []), (some 13, []), (none, [2])] [[], [], [1], [0, 1, 2], [], [], [5], [0, 1, 2, 3, 4, 5, 6], [], [8], [0, 1, 2, 3, 4, 5, 6, 7, 8, 9], [0, 1, 2, 3, 4, 5, 6, 7, 8, 9, 10]] tm rfl rfl rfl rfl ?_
  refine RD.new rfl rfl rfl (eff_buildSliceL (id := 3) (els := []) rfl rfl te22 tz57 rfl (by decide) (by decide) rfl rfl rfl rfl) ?_
  refine RD.op rfl rfl rfl (eff_fieldAddr rfl rfl tf27_0 (by decide) rfl rfl rfl (Nat.le_of_ble_eq_true rfl)) ?_
  refine RD.op rfl rfl rfl (eff_load (y := .t _) rfl rfl ti22 rfl (.one rfl rfl rfl rfl)) ?_
  refine RD.new rfl rfl rfl (eff_appendAny (id := 3) rfl rfl ta22 rfl rfl rfl rfl rfl rfl (srcM rfl (fun _ => rfl)) (by have h2 := hB.1; simp; omega) (by have h2 := hB.1; simp; omega)) ?_
  refine RD.new rfl rfl rfl (eff_buildSliceL (id := 7) (els := []) rfl rfl te23 tz44 rfl (by decide) (by decide) rfl rfl rfl rfl) ?_
  refine RD.op rfl rfl rfl (eff_fieldAddr rfl rfl tf27_1 (by decide) rfl rfl rfl (Nat.le_of_ble_eq_true rfl)) ?_
  refine RD.op rfl rfl rfl (eff_load (y := .t _) rfl rfl ti23 rfl (.one rfl rfl rfl rfl)) ?_
  refine RD.new rfl rfl rfl (eff_appendAny (id := 7) rfl rfl ta23 rfl rfl rfl rfl rfl rfl (srcM rfl (fun _ => rfl)) (by have h2 := hB.2; simp; omega) (by have h2 := hB.2; simp; omega)) ?_
  refine RD.op rfl rfl rfl (eff_fieldAddr rfl rfl tf27_2 (by decide) rfl rfl rfl (Nat.le_of_ble_eq_true rfl)) ?_
  refine RD.op rfl rfl rfl (eff_loadS (ys := [_, _, _]) rfl rfl ti25 rfl rfl rfl rfl rfl rfl) ?_
  refine RD.op rfl rfl rfl (eff_buildA (ys := [.own 3 _ 0 _, .own 7 _ 0 _, .t _, .t _, .t _]) rfl rfl tz27 tg27 rfl rfl) ?_
  refine RD.store rfl rfl rfl (eff_storeW (v := .agg _) (els := [_]) (els' := [_]) rfl rfl ti27 rfl rfl rfl rfl rfl rfl rfl rfl rfl) ?_
  refine RD.nil ?_
  refine awp_ret ?_
  exact ⟨Or.inr rfl, [_], [.agg [.own 3 1 0 (0 + (List.map AV.t (List.map encA b.accs)).length), .own 7 1 0 (0 + (List.map AV.t (List.map encL b.ls)).length), .t (encI b.sp.e), .t (encI b.sp.b), .t (encI b.sp.d)]], ⟨.cell rfl ti27 (.whole rfl rfl rfl rfl rfl rfl), trivial⟩, rfl, weak_keep ⟨rfl, rfl, trivial⟩ ⟨rfl, okE_t, rfl, okE_t, trivial⟩, rfl⟩

theorem delete59_retG (L : List Tr) (g i : Nat) (hl : L.length ≤ 1000000) (hi : i < L.length) : RetG Try.prog 59 [(0, some ⟨8, 44, g, L.map .t⟩)] [.own 0 g 0 L.length, .t (.int .i64 (i : Nat)), .t (.int .i64 ((i + 1 : Nat) : Int))] [(0, some ⟨8, 44, g + 1, (L.take i ++ L.drop (i + 1) ++ [z44]).map AV.t⟩)] (.own 0 (g + 1) 0 (L.length - 1)) := by
  refine retG_of_awp Try.func59 rfl (Nat.le_of_ble_eq_true rfl) ?_
  refine awp_seq ?_
  refine awp_rw rfl ?_
  refine RW.op rfl rfl (eff_assign (v := .t _) rfl rfl rfl) ?_
  refine RW.nil ?_
  refine awp_seq ?_
  refine awp_rw rfl ?_
  refine RW.op rfl rfl (eff_move (v := .own _ _ _ _) rfl rfl rfl) ?_
  refine RW.op rfl rfl (eff_move (v := .t _) rfl rfl rfl) ?_
  refine RW.op rfl rfl (eff_move (v := .t _) rfl rfl rfl) ?_
  refine RW.op rfl rfl (eff_move (v := .own _ _ _ _) rfl rfl rfl) ?_
  refine RW.op rfl rfl (eff_len rfl rfl te23 rfl rfl rfl) ?_
  refine RW.op rfl rfl (eff_slice3 (l := some i) (h := i + 1) (m := L.length) rfl rfl te23 rfl rfl rfl rfl (.yes rfl rfl) (.yes rfl rfl) (.yes rfl rfl) (Nat.le_succ _) (by omega) (by simp)) ?_
  refine RW.nil ?_
  refine awp_seq ?_
  refine awp_seq ?_
  refine awp_rw rfl ?_
  refine RW.op rfl rfl (eff_move (v := .t _) rfl rfl rfl) ?_
  refine RW.op rfl rfl (eff_move (v := .t _) rfl rfl rfl) ?_
  refine RW.op rfl rfl (eff_iop (r := .bool false) rfl rfl rfl rfl (by simp [iop]; omega)) ?_
  refine RW.nil ?_
  refine awp_cond rfl (fun h => nomatch h) (fun _ => ?_)
  refine awp_skip ?_
  refine awp_seq ?_
  refine awp_rw rfl ?_
  refine RW.op rfl rfl (eff_move (v := .own _ _ _ _) rfl rfl rfl) ?_
  refine RW.op rfl rfl (eff_len rfl rfl te23 rfl rfl rfl) ?_
  refine RW.op rfl rfl (eff_assign (v := .t _) rfl rfl rfl) ?_
  refine RW.nil ?_
  refine awp_seq ?_
  refine awp_rd [(some 20, []), (some 21, []), (some 22, []), (some 23, []), (some 24, []), (some 25, []), (some 26, [0]), (some 0, [])] [[], [], [0, 1], [], [], [3, 4], [0, 1, 2, 3, 4, 5], [0, 1, 2, 3, 4, 5, 6]] tm rfl rfl rfl rfl ?_
  refine RD.op rfl rfl rfl (eff_move (v := .own _ _ _ _) rfl rfl rfl) ?_
  refine RD.op rfl rfl rfl (eff_move (v := .t _) rfl rfl rfl) ?_
  refine RD.op rfl rfl rfl (eff_slice (l := none) (h := some i) rfl rfl te23 rfl rfl rfl rfl .no (.yes rfl rfl) (Nat.zero_le _) (by simp; omega)) ?_
  refine RD.op rfl rfl rfl (eff_move (v := .own _ _ _ _) rfl rfl rfl) ?_
  refine RD.op rfl rfl rfl (eff_move (v := .t _) rfl rfl rfl) ?_
  refine RD.op rfl rfl rfl (eff_slice (l := some (i + 1)) (h := none) rfl rfl te23 rfl rfl rfl rfl (.yes rfl rfl) .no (by simp; omega) (by simp)) ?_
  refine RD.new rfl rfl rfl (eff_appendIn (id := 0) (g := g) (i := i) (ys := (L.drop (i + 1)).map AV.t) rfl rfl ta23 rfl rfl rfl rfl (srcOwn' rfl rfl rfl rfl (by simp; omega) (by rw [List.take_of_length_le (by simp)]; simp [List.map_drop])) (by simp; omega) (by simp; omega) (by simp; omega)) ?_
  refine RD.op rfl rfl rfl (eff_assign (v := .own _ _ _ _) rfl rfl rfl) ?_
  refine RD.nil ?_
  refine awp_seq ?_
  refine awp_rw rfl ?_
  refine RW.op rfl rfl (eff_move (v := .own _ _ _ _) rfl rfl rfl) ?_
  refine RW.op rfl rfl (eff_move (v := .own _ _ _ _) rfl rfl rfl) ?_
  refine RW.op rfl rfl (eff_len rfl rfl te23 rfl rfl rfl) ?_
  refine RW.op rfl rfl (eff_move (v := .t _) rfl rfl rfl) ?_
  refine RW.op rfl rfl (eff_slice (l := some (L.length - 1)) (h := some L.length) rfl rfl te23 rfl rfl rfl rfl (.yes rfl (by simp; omega)) (.yes rfl rfl) (by simp) (by simp; omega)) ?_
  refine RW.store rfl rfl (eff_clear (id := 0) rfl rfl te23 tz44 rfl (by decide) rfl rfl rfl rfl (by simp; omega)) ?_
  refine RW.nil ?_
  refine awp_seq ?_
  refine awp_rw rfl ?_
  refine RW.op rfl rfl (eff_move (v := .own _ _ _ _) rfl rfl rfl) ?_
  refine RW.op rfl rfl (eff_assign (v := .own _ _ _ _) rfl rfl rfl) ?_
  refine RW.nil ?_
  refine awp_ret ?_
  refine ⟨Or.inr rfl, [_], [.own 0 (g + 1) 0 (L.length - 1)], ⟨.tmp rfl, trivial⟩, rfl, Weak.trans (s1 := ⟨1, [(0, .own 0 g 0 (L.length - 1))], [(0, some ⟨8, 44, g, (L.take i ++ L.drop (i + 1) ++ [z44]).map AV.t⟩)]⟩) ?_ weak_bump, rfl⟩
  exact weak_keep ⟨(by show AV.own 0 g 0 _ = AV.own 0 g 0 (L.length - 1); congr 1; simp; omega), rfl, trivial⟩ ⟨congrArg (fun e => some (Ob.mk 8 44 g e)) (del_els L z44 i hi), okE_t, trivial⟩

theorem delete59M (l : List Lea) (g i : Nat) (hl : l.length ≤ 1000000) (hi : i < l.length) : RetG Try.prog 59 [(0, some ⟨8, 44, g, (l.map encL).map .t⟩)]
    [.own 0 g 0 l.length, .t (.int .i64 (i : Nat)), .t (.int .i64 ((i + 1 : Nat) : Int))] [(0, some ⟨8, 44, g + 1, ((l.map encL).take i ++ (l.map encL).drop (i + 1) ++ [z44]).map .t⟩)] (.own 0 (g + 1) 0 (l.length - 1)) := by
  have h := delete59_retG (l.map encL) g i (by simpa using hl) (by simpa using hi)
  rw [List.length_map] at h
  exact h

end Go.Tv.C24

end
section
open Go Go.Tv Go.Proofs
namespace Go.Tv.C24
set_option linter.unusedSimpArgs false
set_option linter.unusedVariables false

set_option maxHeartbeats 4000000 in
set_option maxRecDepth 100000 in
theorem ins_shift (b n c i vb vc : Nat) (ca cv : Array Value) (vs : List Value) (w : World) (hi : i < n) (hroom : n + 1 ≤ c) (hn63 : n + 1 ≤ 9223372036854775807) (hvb : vb ≠ b)
    (hB : w.heap[b]? = some (.cells ca 44 (0, 0))) (hV : w.heap[vb]? = some (.cells cv 44 (0, 0))) (hcs : c * 8 ≤ ca.size) (hvl : vs.length = 8)
    (hvs : ∀ (j : Nat) v, vs[j]? = some v → w.cell? ⟨vb, 0 + j, none⟩ = some v)
    (h1c : ∀ (j : Nat) v, j < n * 8 → ca[j]? = some v → v.oneCell' = true) (h1v : ∀ v, v ∈ vs → v.oneCell' = true) :
    Calls Try.prog 58 #[.slice (some ⟨b, 0, none⟩) n c, .int .i64 i, .slice (some ⟨vb, 0, none⟩) 1 vc] w fun e w' =>
      e = .returned (.slice (some ⟨b, 0, none⟩) (n + 1) c) ∧
      w' = setB w.drew b (.cells (writeAt (writeAt ca ((i + 1) * 8) ((ca.toList.drop (i * 8)).take ((n - i) * 8))) (i * 8) vs) 44 (0, 0)) := by
  have hk : elemOf Try.prog 23 = some (44, 8, true) := te23
  have hz1 : ¬ ((i : Int) = (n : Int)) := by omega
  have hzz : ¬ (n = i) := by omega
  have hov : ∀ lb cb, (callFunc 78 #[.slice (some ⟨vb, 0, none⟩) 1 vc, .slice (some ⟨b, (i + 1) * 8, none⟩) lb cb]).run Try.prog w = .ok (.value (.bool false)) w := fun lb cb => by
    rw [run_callFunc_extern (f := 78) (fn := Try.f78) (by kernel_rfl) (by kernel_rfl) (by kernel_rfl) (by kernel_rfl) (e := Extern.SlicesOverlaps.overlaps #[23, 23] #[4]) (by kernel_rfl),
      Lib.run_overlaps_apart w 23 4 44 Try.underlying23 8 Try.sizeOf44 ⟨vb, 0, none⟩ ⟨b, (i + 1) * 8, none⟩ 1 vc lb cb hvb 44 44 cv.size ca.size (by simp [World.shape?, hV]) (by simp [World.shape?, hB]) (by omega) (by simp [World.frozen?, hV]) (by simp [World.frozen?, hV])]
    rfl
  have mixed : Try.prog.follows .mixedOrders = true := tm
  have hw1 : IntKind.i64.wrap ((i : Int) + 1) = (i : Int) + 1 := by rw [IntKind.wrap_i64]; omega
  have hb1 : (0 : Int) ≤ (i : Int) + 1 := by omega
  have hin : i ≤ n := by omega
  have htn : ((i : Int) + 1).toNat = i + 1 := by omega
  have hb2 : ¬ (c = i + 1) := by omega
  have hb3 : (i : Int) ≤ (n : Int) + 1 := by omega
  have hb4 : ¬ (c = i) := by omega
  have hd1 : w.drew.heap[b]? = some (.cells ca 44 (0, 0)) := hB
  obtain ⟨vs1, hvs1⟩ : ∃ vs1, vs1 = (ca.toList.drop (i * 8)).take ((n - i) * 8) := ⟨_, rfl⟩
  have hl1 : vs1.length = (n - i) * 8 := by rw [hvs1, List.length_take, List.length_drop, Array.length_toList]; omega
  have hg1 : ∀ (j : Nat) v, vs1[j]? = some v → ca[i * 8 + j]? = some v ∧ j < (n - i) * 8 := by
    intro j v hj
    have hjl : j < (n - i) * 8 := by rw [← hl1]; exact (List.getElem?_eq_some_iff.1 hj).1
    rw [hvs1, List.getElem?_take, if_pos hjl, List.getElem?_drop, Array.getElem?_toList] at hj
    exact ⟨hj, hjl⟩
  have hcp1 : ∀ ty dc sc, (Builtin.copy_ #[23, 23] ty #[.slice (some ⟨b, (i + 1) * 8, none⟩) (n - i) dc, .slice (some ⟨b, i * 8, none⟩) (n + 1 - i) sc]).run Try.prog w.drew =
      .ok (goInt (n - i : Nat)) (setB w.drew b (.cells (writeAt ca ((i + 1) * 8) vs1) 44 (0, 0))) := fun ty dc sc =>
    run_copyK hk hd1 vs1 (by simp only [Nat.min_def]; split <;> omega) hl1
      (fun j v hj => by rw [cell_of_heap hd1]; exact (hg1 j v hj).1) (fun v hv => by
        obtain ⟨j, hj⟩ := List.mem_iff_getElem?.1 hv
        obtain ⟨h1, h2⟩ := hg1 j v hj
        exact h1c _ v (by omega) h1) (by rw [hl1]; omega)
  obtain ⟨W1, hW1⟩ : ∃ W1, W1 = setB w.drew b (.cells (writeAt ca ((i + 1) * 8) vs1) 44 (0, 0)) := ⟨_, rfl⟩
  have hH1 : W1.heap[b]? = some (.cells (writeAt ca ((i + 1) * 8) vs1) 44 (0, 0)) := by rw [hW1]; exact setB_same _ (lt_of_heap hd1)
  have hcp2 : ∀ ty dc, (Builtin.copy_ #[23, 23] ty #[.slice (some ⟨b, i * 8, none⟩) (n + 1 - i) dc, .slice (some ⟨vb, 0, none⟩) 1 vc]).run Try.prog W1 =
      .ok (goInt (1 : Nat)) (setB W1 b (.cells (writeAt (writeAt ca ((i + 1) * 8) vs1) (i * 8) vs) 44 (0, 0))) := fun ty dc =>
    run_copyK hk hH1 vs (by simp only [Nat.min_def]; split <;> omega) (by rw [hvl])
      (fun j v hj => by
        have h := hvs j v hj
        rw [cell_of_heap hV] at h
        rw [cell_of_heap (w := W1) (c := cv) (ty := 44) (fz := (0, 0)) (by rw [hW1, setB_ne _ hvb]; exact hV)]
        exact h)
      h1v (by rw [writeAt_size, hvl]; omega)
  rw [hW1] at hcp2
  have hfin : setB W1 b (.cells (writeAt (writeAt ca ((i + 1) * 8) vs1) (i * 8) vs) 44 (0, 0)) = setB w.drew b (.cells (writeAt (writeAt ca ((i + 1) * 8) ((ca.toList.drop (i * 8)).take ((n - i) * 8))) (i * 8) vs) 44 (0, 0)) := by
    rw [hW1, setB_setB, hvs1]
  rw [← hfin]
  rw [hW1]
  clear hW1 hfin hvs1 hl1 hg1 hd1 hH1 hk hB hV hvs h1c h1v
  go_enter Try.func58, Try.ntmps58
  go_wp2_with (simp only [hov])
  go_region_law_o (refine step_copy_runI rfl _ _ 23 23 rfl _ _ (by simp [Act.eval, Act.put]) (by simp [Act.eval, Act.put]) (hcp1 _ _ _) ?_)
  go_wp2_with (at_builtin; refine wpList_copy_runI _ rfl _ _ 23 23 rfl _ _ rfl rfl (hcp2 _ _) ?_)
  go_ret
  exact ⟨rfl, rfl⟩
set_option maxHeartbeats 4000000 in
set_option maxRecDepth 100000 in
theorem ins_grow (b n c i vb vc : Nat) (ca cv : Array Value) (vs : List Value) (w : World) (hi : i < n) (hnc : n ≤ c) (hroom : c < n + 1) (hvb : vb ≠ b) (hbig : (n + 1) * 64 ≤ 140737488355328)
    (hB : w.heap[b]? = some (.cells ca 44 (0, 0))) (hV : w.heap[vb]? = some (.cells cv 44 (0, 0))) (hcs : n * 8 ≤ ca.size) (hvl : vs.length = 8)
    (hvs : ∀ (j : Nat) v, vs[j]? = some v → w.cell? ⟨vb, 0 + j, none⟩ = some v)
    (h1c : ∀ (j : Nat) v, j < n * 8 → ca[j]? = some v → v.oneCell' = true) (h1v : ∀ v, v ∈ vs → v.oneCell' = true) :
    Calls Try.prog 58 #[.slice (some ⟨b, 0, none⟩) n c, .int .i64 i, .slice (some ⟨vb, 0, none⟩) 1 vc] w fun e w' => ∃ G rest, n + 1 ≤ G ∧ rest.size = (G - (n + 1)) * 8 ∧
      e = .returned (.slice (some ⟨w.heap.size, 0, none⟩) (n + 1) G) ∧
      w' = w.drew.drew.alloc (.cells ((ca.toList.take (i * 8)).toArray ++ vs.toArray ++ ((ca.toList.drop (i * 8)).take ((n - i) * 8)).toArray ++ rest) 44) := by
  have hk : elemOf Try.prog 23 = some (44, 8, true) := te23
  have hz1 : ¬ ((i : Int) = (n : Int)) := by omega
  have hzz : ¬ (n = i) := by omega
  have hz3 : (c : Int) < (n : Int) + 1 := by omega
  have hkk : (n : Int) + 1 - (i : Int) = ((n + 1 - i : Nat) : Int) := by omega
  have hik : i + (n + 1 - i) = n + 1 := by omega
  have mixed : Try.prog.follows .mixedOrders = true := tm
  have hbw : b < w.heap.size := lt_of_heap hB
  have hvw : vb < w.heap.size := lt_of_heap hV
  obtain ⟨i0, z, hi0, hz0, hzs, hzb, hzz0⟩ := ins_info tz44 ti44 tb44
  obtain ⟨vs0, hvs0⟩ : ∃ vs0, vs0 = ca.toList.take (i * 8) := ⟨_, rfl⟩
  have hl0 : vs0.length = i * 8 := by rw [hvs0, List.length_take, Array.length_toList]; omega
  obtain ⟨vs1, hvs1⟩ : ∃ vs1, vs1 = (ca.toList.drop (i * 8)).take ((n - i) * 8) := ⟨_, rfl⟩
  have hl1 : vs1.length = (n - i) * 8 := by rw [hvs1, List.length_take, List.length_drop, Array.length_toList]; omega
  have hg0 : ∀ (j : Nat) v, vs0[j]? = some v → ca[j]? = some v := by
    intro j v hj
    have hjl : j < i * 8 := by rw [← hl0]; exact (List.getElem?_eq_some_iff.1 hj).1
    rw [hvs0, List.getElem?_take, if_pos hjl, Array.getElem?_toList] at hj
    exact hj
  have hg1 : ∀ (j : Nat) v, vs1[j]? = some v → ca[i * 8 + j]? = some v ∧ j < (n - i) * 8 := by
    intro j v hj
    have hjl : j < (n - i) * 8 := by rw [← hl1]; exact (List.getElem?_eq_some_iff.1 hj).1
    rw [hvs1, List.getElem?_take, if_pos hjl, List.getElem?_drop, Array.getElem?_toList] at hj
    exact ⟨hj, hjl⟩
  have hd1 : w.drew.heap[b]? = some (.cells ca 44 (0, 0)) := hB
  have hold : (Builtin.firstCells i0.size i (.slice (some ⟨b, 0, none⟩) i c)).run Try.prog w.drew = .ok vs0.toArray w.drew := by
    rw [hzs]
    have := run_loadCells_list (P := Try.prog) (w := w.drew) (b := b) (o := 0) vs0 (fun j v hj => by rw [cell_of_heap hd1]; simpa using hg0 j v hj)
    rw [hl0] at this
    exact this
  obtain ⟨G, hG⟩ : ∃ G, G = grownCap w (n + 1) c 44 := ⟨_, rfl⟩
  obtain ⟨Z, hZ⟩ : ∃ Z, Z = Builtin.zeroCells z.cells (n + 1 - i) := ⟨_, rfl⟩
  obtain ⟨R, hR⟩ : ∃ R, R = Builtin.zeroCells z.cells (G - (n + 1)) := ⟨_, rfl⟩
  obtain ⟨row, hrow⟩ : ∃ row, row = vs0.toArray ++ Z ++ R := ⟨_, rfl⟩
  have hZs : Z.size = (n + 1 - i) * 8 := by rw [hZ]; simp [Builtin.zeroCells, hzb]
  have hRs : R.size = (G - (n + 1)) * 8 := by rw [hR]; simp [Builtin.zeroCells, hzb]
  have hrz : ∀ ty, (Builtin.append_ #[23, 3] ty #[.slice (some ⟨b, 0, none⟩) i c, .int .i64 ((n : Int) + 1 - (i : Int))]).run Try.prog w =
      .ok (.slice (some ⟨w.heap.size, 0, none⟩) (n + 1) G) (w.drew.alloc (.cells row 44)) := fun ty => by
    have h := Lib.run_append_grow_zeros w 23 3 ty 44 i0 z .i64 .i64 Try.underlying23 Try.underlying3 hi0 hz0 (some ⟨b, 0, none⟩) i c vs0 hold (n + 1 - i) (by omega) (by omega) (by omega) (by omega) (by rw [hzz0]; omega) (by rw [hzz0, hik]; exact growslice_fits hroom hbig)
    rw [hik] at h
    rw [hkk]
    rw [h, hrow, hZ, hR, hG]
  have hGn : n + 1 ≤ G := by rw [hG]; exact grownCap_ge w _ _ _
  have hG63 : G ≤ 9223372036854775807 := by
    have := grownCap_le_maxLen w (n + 1) c 44 (by unfold maxLen; omega)
    rw [← hG] at this
    unfold maxLen at this
    omega
  have hrs : row.size = i * 8 + (n + 1 - i) * 8 + (G - (n + 1)) * 8 := by rw [hrow, Array.size_append, Array.size_append, hZs, hRs, List.size_toArray, hl0]
  obtain ⟨N, hN⟩ : ∃ N, N = w.heap.size := ⟨_, rfl⟩
  have hA : (w.drew.alloc (.cells row 44)).heap[N]? = some (.cells row 44 (0, 0)) := by rw [hN]; show (w.heap.push _)[w.heap.size]? = _; exact Array.getElem?_push_size
  have hbN : b ≠ N := by omega
  have hvN : vb ≠ N := by omega
  have hold2 : ∀ (r : Array Value) (x : Nat), x < w.heap.size → (setB (w.drew.alloc (.cells row 44)) N (.cells r 44 (0, 0))).drew.heap[x]? = w.heap[x]? := fun r x hx => by
    show (setB (w.drew.alloc (.cells row 44)) N (.cells r 44 (0, 0))).heap[x]? = w.heap[x]?
    rw [setB_ne _ (by omega)]
    exact Array.getElem?_push_lt hx |>.trans (Array.getElem?_eq_getElem hx).symm
  have hcpA : ∀ ty dc, (Builtin.copy_ #[23, 23] ty #[.slice (some ⟨N, i * 8, none⟩) (n + 1 - i) dc, .slice (some ⟨vb, 0, none⟩) 1 vc]).run Try.prog (w.drew.alloc (.cells row 44)) =
      .ok (goInt (1 : Nat)) (setB (w.drew.alloc (.cells row 44)) N (.cells (writeAt row (i * 8) vs) 44 (0, 0))) := fun ty dc =>
    run_copyK hk hA vs (by simp only [Nat.min_def]; split <;> omega) (by rw [hvl])
      (fun j v hj => by
        have h := hvs j v hj
        rw [cell_of_heap hV] at h
        rw [cell_of_heap (c := cv) (ty := 44) (fz := (0, 0)) ((Array.getElem?_push_lt hvw).trans ((Array.getElem?_eq_getElem hvw).symm.trans hV))]
        exact h)
      h1v (by rw [hvl]; omega)
  have hH1 : (setB (w.drew.alloc (.cells row 44)) N (.cells (writeAt row (i * 8) vs) 44 (0, 0))).drew.heap[N]? = some (.cells (writeAt row (i * 8) vs) 44 (0, 0)) := setB_same _ (lt_of_heap hA)
  have hcpB : ∀ ty dc sc, (Builtin.copy_ #[23, 23] ty #[.slice (some ⟨N, (i + 1) * 8, none⟩) (n - i) dc, .slice (some ⟨b, i * 8, none⟩) (n - i) sc]).run Try.prog (setB (w.drew.alloc (.cells row 44)) N (.cells (writeAt row (i * 8) vs) 44 (0, 0))).drew =
      .ok (goInt (n - i : Nat)) (setB (setB (w.drew.alloc (.cells row 44)) N (.cells (writeAt row (i * 8) vs) 44 (0, 0))).drew N (.cells (writeAt (writeAt row (i * 8) vs) ((i + 1) * 8) vs1) 44 (0, 0))) := fun ty dc sc =>
    run_copyK hk hH1 vs1 (by simp only [Nat.min_def]; split <;> omega) hl1
      (fun j v hj => by
        rw [cell_of_heap (c := ca) (ty := 44) (fz := (0, 0)) ((hold2 _ b hbw).trans hB)]
        exact (hg1 j v hj).1)
      (fun v hv => by
        obtain ⟨j, hj⟩ := List.mem_iff_getElem?.1 hv
        obtain ⟨h1, h2⟩ := hg1 j v hj
        exact h1c _ v (by omega) h1) (by rw [writeAt_size, hl1, hrs]; omega)
  have hfin : setB (setB (w.drew.alloc (.cells row 44)) N (.cells (writeAt row (i * 8) vs) 44 (0, 0))).drew N (.cells (writeAt (writeAt row (i * 8) vs) ((i + 1) * 8) vs1) 44 (0, 0)) =
      w.drew.drew.alloc (.cells (vs0.toArray ++ vs.toArray ++ vs1.toArray ++ R) 44) := by
    rw [hrow, hN]
    exact ins_world w 44 vs0 vs vs1 Z R (by omega) (by omega) (by rw [hZs, hvl, hl1]; omega)
  have hpost : ∀ (e : Ending) (w' : World), (e = .returned (.slice (some ⟨N, 0, none⟩) (n + 1) G) ∧ w' = setB (setB (w.drew.alloc (.cells row 44)) N (.cells (writeAt row (i * 8) vs) 44 (0, 0))).drew N (.cells (writeAt (writeAt row (i * 8) vs) ((i + 1) * 8) vs1) 44 (0, 0))) →
      ∃ G rest, n + 1 ≤ G ∧ rest.size = (G - (n + 1)) * 8 ∧ e = .returned (.slice (some ⟨w.heap.size, 0, none⟩) (n + 1) G) ∧
      w' = w.drew.drew.alloc (.cells ((ca.toList.take (i * 8)).toArray ++ vs.toArray ++ ((ca.toList.drop (i * 8)).take ((n - i) * 8)).toArray ++ rest) 44) := by
    rintro e w' ⟨rfl, rfl⟩
    exact ⟨G, R, hGn, hRs, by rw [hN], by rw [hfin, hvs0, hvs1]⟩
  refine Calls.mono ?_ hpost
  rw [← hN] at hrz
  have hGi : ¬ (G = i) := by omega
  have hGim : ¬ (G = i + 1) := by omega
  have hci : ¬ (c = i) := by omega
  have hw1 : IntKind.i64.wrap ((i : Int) + 1) = (i : Int) + 1 := by rw [IntKind.wrap_i64]; omega
  have hb1 : (0 : Int) ≤ (i : Int) + 1 := by omega
  have hin : i ≤ n := by omega
  have htn : ((i : Int) + 1).toNat = i + 1 := by omega
  have hb3 : (i : Int) ≤ (n : Int) := by omega
  have hcpA2 : ∀ ty dc, (Builtin.copy_ #[23, 23] ty #[.slice (some ⟨N, i * 8, none⟩) (n + 1 - i) dc, .slice (some ⟨vb, 0, none⟩) 1 vc]).run Try.prog (w.alloc (.cells row 44)).drew =
      .ok (goInt (1 : Nat)) (setB (w.alloc (.cells row 44)).drew N (.cells (writeAt row (i * 8) vs) 44 (0, 0))) := hcpA
  have hcpB2 : ∀ ty dc sc, (Builtin.copy_ #[23, 23] ty #[.slice (some ⟨N, (i + 1) * 8, none⟩) (n - i) dc, .slice (some ⟨b, i * 8, none⟩) (n - i) sc]).run Try.prog (setB (w.alloc (.cells row 44)).drew N (.cells (writeAt row (i * 8) vs) 44 (0, 0))).drew =
      .ok (goInt (n - i : Nat)) (setB (setB (w.alloc (.cells row 44)).drew N (.cells (writeAt row (i * 8) vs) 44 (0, 0))).drew N (.cells (writeAt (writeAt row (i * 8) vs) ((i + 1) * 8) vs1) 44 (0, 0))) := hcpB
  clear hcpA hcpB hpost hfin hold2 hH1 hbN hvN hA hN hrs hRs hZs hrow hR hZ hG hold hd1 hg1 hg0 hl1 hvs1 hl0 hvs0 hzz0 hzb hzs hz0 hi0 hkk hik hk hB hV hvs h1c h1v hbw hvw hcs hvl hvb
  go_enter Try.func58, Try.ntmps58
  go_wp2_with (first
    | (at_builtin; refine Lib.wpList_append_run _ rfl _ _ _ _ rfl _ _ rfl rfl _ _ (hrz _) ?_)
    | (at_builtin; refine wpList_copy_runI _ rfl _ _ 23 23 rfl _ _ rfl rfl (hcpA2 _ _) ?_))
  go_region_law_o (refine step_copy_runI rfl _ _ 23 23 rfl _ _ (by simp [Act.eval, Act.put]) (by simp [Act.eval, Act.put]) (hcpB2 _ _ _) ?_)
  go_wp2
  go_ret
  exact ⟨rfl, rfl⟩
end Go.Tv.C24

end
section
open Go Go.Tv Go.Proofs
namespace Go.Tv.C24
set_option maxRecDepth 20000
set_option maxHeartbeats 2000000
set_option linter.unusedSimpArgs false
set_option linter.unusedVariables false
theorem isNaN77_ret (n : Int) : Ret Try.prog 77 [encI n] (.bool false) := by
  refine ret_of_awp Try.func77 rfl (Nat.le_of_ble_eq_true rfl) ?_
  refine awp_seq ?_
  refine awp_rw rfl ?_
  refine RW.op rfl rfl (eff_assign (v := .t _) rfl rfl rfl) ?_
  refine RW.nil ?_
  refine awp_seq ?_
  refine awp_rw rfl ?_
  refine RW.op rfl rfl (eff_move (v := .t _) rfl rfl rfl) ?_
  refine RW.op rfl rfl (eff_move (v := .t _) rfl rfl rfl) ?_
  refine RW.op rfl rfl (eff_iop (r := .bool false) rfl rfl rfl rfl (by simp [iop])) ?_
  refine RW.op rfl rfl (eff_assign (v := .t _) rfl rfl rfl) ?_
  refine RW.nil ?_
  refine awp_ret ?_
  first
    | exact ⟨Or.inr rfl, [_], ⟨.tmp (.t _), trivial⟩, .refl _⟩
    | exact ⟨Or.inr rfl, [_], ⟨.tmp (.t _), trivial⟩, (by repeat' first | exact trivial | exact Wk.refl _ | exact Wk.sl _ | refine And.intro ?_ ?_ | refine Wk.tupP ?_ | refine Wk.aggP ?_)⟩
    | exact ⟨Or.inr rfl, [_], ⟨.tmp (Res.ownT rfl rfl rfl rfl), trivial⟩, .refl _⟩
    | exact ⟨Or.inr rfl, [_], ⟨.tmp (Res.ownT rfl rfl rfl rfl), trivial⟩, (by repeat' first | exact trivial | exact Wk.refl _ | exact Wk.sl _ | refine And.intro ?_ ?_ | refine Wk.tupP ?_ | refine Wk.aggP ?_)⟩

theorem compare_ret (x y : Int) : Ret Try.prog 57 [encI x, encI y] (encI (cmpI x y)) := by
  refine ret_of_awp Try.func57 rfl (Nat.le_of_ble_eq_true rfl) ?_
  refine awp_seq ?_
  refine awp_rw rfl ?_
  refine RW.op rfl rfl (eff_assign (v := .t _) rfl rfl rfl) ?_
  refine RW.nil ?_
  refine awp_seq ?_
  refine awp_rw rfl ?_
  refine RW.op rfl rfl (eff_move (v := .t _) rfl rfl rfl) ?_
  refine RW.op rfl rfl (eff_callT (isNaN77_ret _) co77 rfl rfl rfl rfl) ?_
  refine RW.op rfl rfl (eff_assign (v := .t _) rfl rfl rfl) ?_
  refine RW.nil ?_
  refine awp_seq ?_
  refine awp_rw rfl ?_
  refine RW.op rfl rfl (eff_move (v := .t _) rfl rfl rfl) ?_
  refine RW.op rfl rfl (eff_callT (isNaN77_ret _) co77 rfl rfl rfl rfl) ?_
  refine RW.op rfl rfl (eff_assign (v := .t _) rfl rfl rfl) ?_
  refine RW.nil ?_
  refine awp_seq ?_
  refine awp_seq ?_
  refine awp_rw rfl ?_
  refine RW.op rfl rfl (eff_move (v := .t _) rfl rfl rfl) ?_
  refine RW.nil ?_
  refine awp_cond rfl (fun h => nomatch h) (fun _ => ?_)
  refine awp_skip ?_
  refine awp_seq ?_
  refine awp_seq ?_
  refine awp_rw rfl ?_
  refine RW.op rfl rfl (eff_move (v := .t _) rfl rfl rfl) ?_
  refine RW.nil ?_
  refine awp_cond rfl (fun h => nomatch h) (fun _ => ?_)
  refine awp_skip ?_
  refine awp_seq ?_
  refine awp_seq ?_
  refine awp_rw rfl ?_
  refine RW.op rfl rfl (eff_move (v := .t _) rfl rfl rfl) ?_
  refine RW.op rfl rfl (eff_move (v := .t _) rfl rfl rfl) ?_
  refine RW.op rfl rfl (eff_iop rfl rfl rfl rfl rfl) ?_
  refine RW.nil ?_
  refine awp_cond rfl (fun h1 => ?_) (fun h1 => ?_)
  · try simp only [decide_eq_true_eq, decide_eq_false_iff_not, beq_iff_eq, bne_iff_ne, bne_eq_false_iff_eq, beq_eq_false_iff_ne, Bool.not_eq_true, Bool.not_eq_false, Bool.not_eq_true', Bool.not_eq_false', ne_eq] at h1
    refine awp_seq ?_
    refine awp_rw rfl ?_
    refine RW.op rfl rfl (eff_assign (v := .t _) rfl rfl rfl) ?_
    refine RW.nil ?_
    refine awp_ret ?_
    first
      | (rw [show cmpI x y = -1 from if_pos (by omega)]; exact ⟨Or.inr rfl, [_], ⟨.tmp (.t _), trivial⟩, .refl _⟩)
      | (rw [show cmpI x y = 1 from by unfold cmpI; rw [if_neg (by omega), if_pos (by omega)]]; exact ⟨Or.inr rfl, [_], ⟨.tmp (.t _), trivial⟩, .refl _⟩)
      | (rw [show cmpI x y = 0 from by unfold cmpI; rw [if_neg (by omega), if_neg (by omega)]]; exact ⟨Or.inr rfl, [_], ⟨.tmp (.t _), trivial⟩, .refl _⟩)
  · try simp only [decide_eq_true_eq, decide_eq_false_iff_not, beq_iff_eq, bne_iff_ne, bne_eq_false_iff_eq, beq_eq_false_iff_ne, Bool.not_eq_true, Bool.not_eq_false, Bool.not_eq_true', Bool.not_eq_false', ne_eq] at h1
    refine awp_skip ?_
    refine awp_seq ?_
    refine awp_seq ?_
    refine awp_rw rfl ?_
    refine RW.op rfl rfl (eff_move (v := .t _) rfl rfl rfl) ?_
    refine RW.op rfl rfl (eff_move (v := .t _) rfl rfl rfl) ?_
    refine RW.op rfl rfl (eff_iop rfl rfl rfl rfl rfl) ?_
    refine RW.nil ?_
    refine awp_cond rfl (fun h2 => ?_) (fun h2 => ?_)
    · try simp only [decide_eq_true_eq, decide_eq_false_iff_not, beq_iff_eq, bne_iff_ne, bne_eq_false_iff_eq, beq_eq_false_iff_ne, Bool.not_eq_true, Bool.not_eq_false, Bool.not_eq_true', Bool.not_eq_false', ne_eq] at h2
      refine awp_seq ?_
      refine awp_rw rfl ?_
      refine RW.op rfl rfl (eff_assign (v := .t _) rfl rfl rfl) ?_
      refine RW.nil ?_
      refine awp_ret ?_
      first
        | (rw [show cmpI x y = -1 from if_pos (by omega)]; exact ⟨Or.inr rfl, [_], ⟨.tmp (.t _), trivial⟩, .refl _⟩)
        | (rw [show cmpI x y = 1 from by unfold cmpI; rw [if_neg (by omega), if_pos (by omega)]]; exact ⟨Or.inr rfl, [_], ⟨.tmp (.t _), trivial⟩, .refl _⟩)
        | (rw [show cmpI x y = 0 from by unfold cmpI; rw [if_neg (by omega), if_neg (by omega)]]; exact ⟨Or.inr rfl, [_], ⟨.tmp (.t _), trivial⟩, .refl _⟩)
    · try simp only [decide_eq_true_eq, decide_eq_false_iff_not, beq_iff_eq, bne_iff_ne, bne_eq_false_iff_eq, beq_eq_false_iff_ne, Bool.not_eq_true, Bool.not_eq_false, Bool.not_eq_true', Bool.not_eq_false', ne_eq] at h2
      refine awp_skip ?_
      refine awp_seq ?_
      refine awp_rw rfl ?_
      refine RW.op rfl rfl (eff_assign (v := .t _) rfl rfl rfl) ?_
      refine RW.nil ?_
      refine awp_ret ?_
      first
        | (rw [show cmpI x y = -1 from if_pos (by omega)]; exact ⟨Or.inr rfl, [_], ⟨.tmp (.t _), trivial⟩, .refl _⟩)
        | (rw [show cmpI x y = 1 from by unfold cmpI; rw [if_neg (by omega), if_pos (by omega)]]; exact ⟨Or.inr rfl, [_], ⟨.tmp (.t _), trivial⟩, .refl _⟩)
        | (rw [show cmpI x y = 0 from by unfold cmpI; rw [if_neg (by omega), if_neg (by omega)]]; exact ⟨Or.inr rfl, [_], ⟨.tmp (.t _), trivial⟩, .refl _⟩)

theorem closure56_ret (x y : Lea) : Ret Try.prog 56 [encL x, encL y] (encI (cmpI x.id y.id)) := by
  refine ret_of_awp Try.func56 rfl (Nat.le_of_ble_eq_true rfl) ?_
  refine awp_seq ?_
  refine awp_rw rfl ?_
  refine RW.new rfl rfl (eff_boxK (v := .t _) (k := 8) (id := 2) rfl rfl rfl rfl rfl rfl) ?_
  refine RW.new rfl rfl (eff_boxK (v := .t _) (k := 8) (id := 3) rfl rfl rfl rfl rfl rfl) ?_
  refine RW.op rfl rfl (eff_assign (v := .t _) rfl rfl rfl) ?_
  refine RW.nil ?_
  refine awp_seq ?_
  refine awp_rw rfl ?_
  refine RW.op rfl rfl (eff_fieldAddr rfl rfl tf44_0 (by decide) rfl rfl rfl (Nat.le_of_ble_eq_true rfl)) ?_
  refine RW.op rfl rfl (eff_load (y := .t _) rfl rfl ti3 rfl (.one rfl rfl rfl rfl)) ?_
  refine RW.op rfl rfl (eff_fieldAddr rfl rfl tf44_0 (by decide) rfl rfl rfl (Nat.le_of_ble_eq_true rfl)) ?_
  refine RW.op rfl rfl (eff_load (y := .t _) rfl rfl ti3 rfl (.one rfl rfl rfl rfl)) ?_
  refine RW.op rfl rfl (eff_callT (compare_ret x.id y.id) co57 rfl rfl rfl rfl) ?_
  refine RW.op rfl rfl (eff_assign (v := .t _) rfl rfl rfl) ?_
  refine RW.nil ?_
  refine awp_ret ?_
  first
    | exact ⟨Or.inr rfl, [_], ⟨.tmp (.t _), trivial⟩, .refl _⟩
    | exact ⟨Or.inr rfl, [_], ⟨.tmp (.t _), trivial⟩, (by repeat' first | exact trivial | exact Wk.refl _ | exact Wk.sl _ | refine And.intro ?_ ?_ | refine Wk.tupP ?_ | refine Wk.aggP ?_)⟩
    | exact ⟨Or.inr rfl, [_], ⟨.tmp (Res.ownT rfl rfl rfl rfl), trivial⟩, .refl _⟩
    | exact ⟨Or.inr rfl, [_], ⟨.tmp (Res.ownT rfl rfl rfl rfl), trivial⟩, (by repeat' first | exact trivial | exact Wk.refl _ | exact Wk.sl _ | refine And.intro ?_ ?_ | refine Wk.tupP ?_ | refine Wk.aggP ?_)⟩

theorem search_ret (l : List Lea) (x : Lea) (hl : l.length ≤ 1000000) (hp : (l.map (fun z : Lea => z.id)).Pairwise (· < ·)) : Ret Try.prog 55 [.sl (l.map encL) false, encL x, .fn 56 []] (.tup [.int .i64 (posK (fun z : Lea => z.id) ((fun z : Lea => z.id) x) l : Nat), .bool (decide ((fun z : Lea => z.id) x ∈ l.map (fun z : Lea => z.id)))]) := by
  refine ret_of_awp Try.func55 rfl (Nat.le_of_ble_eq_true rfl) ?_
  refine awp_seq ?_
  refine awp_rw rfl ?_
  refine RW.new rfl rfl (eff_boxK (v := .t _) (k := 8) (id := 4) rfl rfl rfl rfl rfl rfl) ?_
  refine RW.op rfl rfl (eff_assign (v := .t _) rfl rfl rfl) ?_
  refine RW.op rfl rfl (eff_assign (v := .t _) rfl rfl rfl) ?_
  refine RW.nil ?_
  refine awp_seq ?_
  refine awp_rw rfl ?_
  refine RW.op rfl rfl (eff_move (v := .t _) rfl rfl rfl) ?_
  refine RW.op rfl rfl (eff_lenM rfl rfl te23 rfl) ?_
  refine RW.op rfl rfl (eff_assign (v := .t _) rfl rfl rfl) ?_
  refine RW.nil ?_
  refine awp_seq ?_
  refine awp_rw rfl ?_
  refine RW.op rfl rfl (eff_move (v := .t _) rfl rfl rfl) ?_
  refine RW.op rfl rfl (eff_assign (v := .t _) rfl rfl rfl) ?_
  refine RW.op rfl rfl (eff_assign (v := .t _) rfl rfl rfl) ?_
  refine RW.nil ?_
  refine awp_seq ?_
  refine awp_block ?_
  refine awp_loopW (fun m s => ∃ (lo : Nat) (hi : Nat), (lo ≤ hi) ∧ (hi ≤ l.length) ∧ (∀ y, y ∈ l.take lo → (fun z : Lea => z.id) y < (fun z : Lea => z.id) x) ∧ (∀ h : hi < l.length, ¬ (fun z : Lea => z.id) l[hi] < (fun z : Lea => z.id) x) ∧ m = hi - lo ∧ s = ⟨49, [(0, .t (.sl (l.map encL) false)), (2, .t (.fn 56 [])), (4, .ptr 4 0 0 0), (8, .t (.int .i64 (l.length : Nat))), (9, .t (.int .i64 (lo : Nat))), (10, .t (.int .i64 (hi : Nat)))], [(4, some ⟨8, 44, 0, [.t (encL x)]⟩)]⟩) (_) (⟨_, weak_keep (n := 49) (fr' := [(0, .t (.sl (l.map encL) false)), (2, .t (.fn 56 [])), (4, .ptr 4 0 0 0), (8, .t (.int .i64 (l.length : Nat))), (9, .t (.int .i64 (0 : Nat))), (10, .t (.int .i64 ((l.length) : Nat)))]) (st' := [(4, some ⟨8, 44, 0, [.t (encL x)]⟩)]) ⟨rfl, rfl, rfl, rfl, rfl, rfl, rfl, rfl, rfl, rfl, rfl, rfl, trivial⟩ ⟨rfl, okE_one rfl, trivial⟩, 0, l.length, (by omega), (by omega), (by simp), (by intro h; omega), rfl, rfl⟩) ?_
  rintro m s ⟨lo, hi, hlh, hhi, hy, hz, rfl, rfl⟩
  refine awp_seq ?_
  refine awp_seq ?_
  refine awp_rw rfl ?_
  refine RW.op rfl rfl (eff_move (v := .t _) rfl rfl rfl) ?_
  refine RW.op rfl rfl (eff_move (v := .t _) rfl rfl rfl) ?_
  refine RW.op rfl rfl (eff_iop rfl rfl rfl rfl rfl) ?_
  refine RW.nil ?_
  refine awp_cond rfl (fun h1 => ?_) (fun h1 => ?_)
  · try simp only [decide_eq_true_eq, decide_eq_false_iff_not, beq_iff_eq, bne_iff_ne, bne_eq_false_iff_eq, beq_eq_false_iff_ne, Bool.not_eq_true, Bool.not_eq_false, Bool.not_eq_true', Bool.not_eq_false', ne_eq] at h1
    refine awp_skip ?_
    refine awp_block ?_
    refine awp_seq ?_
    refine awp_rw rfl ?_
    refine RW.op rfl rfl (eff_move (v := .t _) rfl rfl rfl) ?_
    refine RW.op rfl rfl (eff_move (v := .t _) rfl rfl rfl) ?_
    refine RW.op rfl rfl (eff_iop rfl rfl rfl rfl (iadd (by omega))) ?_
    refine RW.op rfl rfl (eff_convIntE (m := ((lo + hi : Nat) : Int)) rfl rfl (by rw [tu3]; rfl) tu91 rfl (wrapU64 (by omega) (by omega))) ?_
    refine RW.op rfl rfl (eff_shrE (r := ((((lo + hi) / 2) : Nat) : Int)) rfl rfl rfl rfl (by decide) (shr1 _)) ?_
    refine RW.op rfl rfl (eff_convIntE (m := ((((lo + hi) / 2) : Nat) : Int)) rfl rfl (by rw [tu91]; rfl) tu3 rfl (wrap64 (by omega) (by omega))) ?_
    refine RW.op rfl rfl (eff_assign (v := .t _) rfl rfl rfl) ?_
    refine RW.nil ?_
    refine awp_seq ?_
    refine awp_rd [(some 24, []), (some 25, []), (some 26, []), (some 27, []), (some 28, []), (some 29, []), (some 30, []), (some 31, [])] [[], [], [], [1, 2], [1, 2, 3], [], [0, 1, 2, 3, 4, 5], [0, 1, 2, 3, 4, 5, 6]] tm rfl rfl rfl rfl ?_
    refine RD.op rfl rfl rfl (eff_move (v := .t _) rfl rfl rfl) ?_
    refine RD.op rfl rfl rfl (eff_move (v := .t _) rfl rfl rfl) ?_
    refine RD.op rfl rfl rfl (eff_move (v := .t _) rfl rfl rfl) ?_
    refine RD.op rfl rfl rfl (eff_indexM (i := ((lo + hi) / 2)) rfl rfl te23 rfl rfl (by first | rfl | omega) (by exact List.getElem?_eq_getElem (by omega)) rfl (by decide)) ?_
    refine RD.op rfl rfl rfl (eff_loadW rfl rfl ti44 rfl rfl rfl) ?_
    refine RD.op rfl rfl rfl (eff_load rfl rfl ti44 rfl (.whole rfl rfl rfl rfl rfl rfl)) ?_
    refine RD.op rfl rfl rfl (eff_callT (closure56_ret (l[((lo + hi) / 2)]'(by omega)) x) co56 rfl rfl rfl rfl) ?_
    refine RD.op rfl rfl rfl (eff_iop rfl rfl rfl rfl rfl) ?_
    refine RD.nil ?_
    refine awp_cond rfl (fun h2 => ?_) (fun h2 => ?_)
    · try simp only [decide_eq_true_eq, decide_eq_false_iff_not, beq_iff_eq, bne_iff_ne, bne_eq_false_iff_eq, beq_eq_false_iff_ne, Bool.not_eq_true, Bool.not_eq_false, Bool.not_eq_true', Bool.not_eq_false', ne_eq] at h2
      refine awp_rw rfl ?_
      refine RW.op rfl rfl (eff_move (v := .t _) rfl rfl rfl) ?_
      refine RW.op rfl rfl (eff_iop rfl rfl rfl rfl (iadd (by omega))) ?_
      refine RW.op rfl rfl (eff_assign (v := .t _) rfl rfl rfl) ?_
      refine RW.nil ?_
      first
        | exact ⟨_, (by omega : hi - (((lo + hi) / 2) + 1) < hi - lo), _, weak_keep (n := 49) (fr' := [(0, .t (.sl (l.map encL) false)), (2, .t (.fn 56 [])), (4, .ptr 4 0 0 0), (8, .t (.int .i64 (l.length : Nat))), (9, .t (.int .i64 (((((lo + hi) / 2) + 1) : Nat) : Int))), (10, .t (.int .i64 ((hi : Nat) : Int)))]) (st' := [(4, some ⟨8, 44, 0, [.t (encL x)]⟩)]) ⟨rfl, rfl, rfl, rfl, rfl, rfl, rfl, rfl, rfl, rfl, rfl, rfl, trivial⟩ ⟨rfl, okE_one rfl, trivial⟩, (((lo + hi) / 2) + 1), hi, by omega, by omega, takeK_lt hp (by omega) (cmpI_lt.1 h2), hz, rfl, rfl⟩
        | exact ⟨_, (by omega : ((lo + hi) / 2) - lo < hi - lo), _, weak_keep (n := 49) (fr' := [(0, .t (.sl (l.map encL) false)), (2, .t (.fn 56 [])), (4, .ptr 4 0 0 0), (8, .t (.int .i64 (l.length : Nat))), (9, .t (.int .i64 ((lo : Nat) : Int))), (10, .t (.int .i64 ((((lo + hi) / 2) : Nat) : Int)))]) (st' := [(4, some ⟨8, 44, 0, [.t (encL x)]⟩)]) ⟨rfl, rfl, rfl, rfl, rfl, rfl, rfl, rfl, rfl, rfl, rfl, rfl, trivial⟩ ⟨rfl, okE_one rfl, trivial⟩, lo, ((lo + hi) / 2), by omega, by omega, hy, (fun _ h => h2 (cmpI_lt.2 h)), rfl, rfl⟩
    · try simp only [decide_eq_true_eq, decide_eq_false_iff_not, beq_iff_eq, bne_iff_ne, bne_eq_false_iff_eq, beq_eq_false_iff_ne, Bool.not_eq_true, Bool.not_eq_false, Bool.not_eq_true', Bool.not_eq_false', ne_eq] at h2
      refine awp_rw rfl ?_
      refine RW.op rfl rfl (eff_move (v := .t _) rfl rfl rfl) ?_
      refine RW.op rfl rfl (eff_assign (v := .t _) rfl rfl rfl) ?_
      refine RW.nil ?_
      first
        | exact ⟨_, (by omega : hi - (((lo + hi) / 2) + 1) < hi - lo), _, weak_keep (n := 49) (fr' := [(0, .t (.sl (l.map encL) false)), (2, .t (.fn 56 [])), (4, .ptr 4 0 0 0), (8, .t (.int .i64 (l.length : Nat))), (9, .t (.int .i64 (((((lo + hi) / 2) + 1) : Nat) : Int))), (10, .t (.int .i64 ((hi : Nat) : Int)))]) (st' := [(4, some ⟨8, 44, 0, [.t (encL x)]⟩)]) ⟨rfl, rfl, rfl, rfl, rfl, rfl, rfl, rfl, rfl, rfl, rfl, rfl, trivial⟩ ⟨rfl, okE_one rfl, trivial⟩, (((lo + hi) / 2) + 1), hi, by omega, by omega, takeK_lt hp (by omega) (cmpI_lt.1 h2), hz, rfl, rfl⟩
        | exact ⟨_, (by omega : ((lo + hi) / 2) - lo < hi - lo), _, weak_keep (n := 49) (fr' := [(0, .t (.sl (l.map encL) false)), (2, .t (.fn 56 [])), (4, .ptr 4 0 0 0), (8, .t (.int .i64 (l.length : Nat))), (9, .t (.int .i64 ((lo : Nat) : Int))), (10, .t (.int .i64 ((((lo + hi) / 2) : Nat) : Int)))]) (st' := [(4, some ⟨8, 44, 0, [.t (encL x)]⟩)]) ⟨rfl, rfl, rfl, rfl, rfl, rfl, rfl, rfl, rfl, rfl, rfl, rfl, trivial⟩ ⟨rfl, okE_one rfl, trivial⟩, lo, ((lo + hi) / 2), by omega, by omega, hy, (fun _ h => h2 (cmpI_lt.2 h)), rfl, rfl⟩
  · try simp only [decide_eq_true_eq, decide_eq_false_iff_not, beq_iff_eq, bne_iff_ne, bne_eq_false_iff_eq, beq_eq_false_iff_ne, Bool.not_eq_true, Bool.not_eq_false, Bool.not_eq_true', Bool.not_eq_false', ne_eq] at h1
    refine awp_exit ?_
    refine awp_seq ?_
    by_cases hc3 : lo < l.length
    · refine awp_rd [(some 35, []), (some 36, []), (some 37, []), (some 38, []), (some 39, []), (some 40, []), (some 41, []), (some 42, []), (some 43, []), (some 44, []), (some 45, []), (some 46, []), (some 47, []), (some 48, []), (some 6, []), (some 7, [])] [[], [], [], [1, 2], [1, 2, 3], [1, 2, 3, 4], [1, 2, 3, 4], [1, 2, 3, 4], [1, 2, 3, 4, 6, 7], [1, 2, 3, 4, 6, 7, 8], [1, 2, 3, 4], [1, 2, 3, 4, 5, 6, 7, 8, 9, 10], [1, 2, 3, 4, 5, 6, 7, 8, 9, 10, 11], [1, 2, 3, 4, 5, 6, 7, 8, 9, 10, 11, 12], [0, 1, 2, 3, 4, 5, 6, 7, 8, 9, 10, 11], [0, 1, 2, 3, 4, 5, 6, 7, 8, 9, 10, 11, 12, 13, 14]] tm rfl rfl rfl rfl ?_
      refine RD.op rfl rfl rfl (eff_move (v := .t _) rfl rfl rfl) ?_
      refine RD.op rfl rfl rfl (eff_move (v := .t _) rfl rfl rfl) ?_
      refine RD.op rfl rfl rfl (eff_move (v := .t _) rfl rfl rfl) ?_
      refine RD.op rfl rfl rfl (eff_iop (r := .bool true) rfl rfl rfl rfl (by exact iop_lss_t (by omega))) ?_
      refine RD.op rfl rfl rfl (eff_move (v := .t _) rfl rfl rfl) ?_
      refine RD.gop rfl rfl rfl rfl rfl rfl rfl (eff_move (v := .t _) rfl rfl rfl) ?_
      refine RD.gop rfl rfl rfl rfl rfl rfl rfl (eff_move (v := .t _) rfl rfl rfl) ?_
      refine RD.gop rfl rfl rfl rfl rfl rfl rfl (eff_move (v := .t _) rfl rfl rfl) ?_
      refine RD.gop rfl rfl rfl rfl rfl rfl rfl (eff_indexM (i := lo) rfl rfl te23 rfl rfl (by first | rfl | omega) (by exact List.getElem?_eq_getElem (by omega)) rfl (by decide)) ?_
      refine RD.gop rfl rfl rfl rfl rfl rfl rfl (eff_loadW rfl rfl ti44 rfl rfl rfl) ?_
      refine RD.gop rfl rfl rfl rfl rfl rfl rfl (eff_load rfl rfl ti44 rfl (.whole rfl rfl rfl rfl rfl rfl)) ?_
      refine RD.gop rfl rfl rfl rfl rfl rfl rfl (eff_callT (closure56_ret (l[lo]'(by omega)) x) co56 rfl rfl rfl rfl) ?_
      refine RD.gop rfl rfl rfl rfl rfl rfl rfl (eff_iop rfl rfl rfl rfl rfl) ?_
      refine RD.op rfl rfl rfl (eff_pick (v := .t _) rfl rfl rfl rfl) ?_
      refine RD.op rfl rfl rfl (eff_assign (v := .t _) rfl rfl rfl) ?_
      refine RD.op rfl rfl rfl (eff_assign (v := .t _) rfl rfl rfl) ?_
      refine RD.nil ?_
      refine awp_ret ?_
      have h4p : lo = hi → ∀ h : lo < l.length, ¬ (fun z : Lea => z.id) l[lo] < (fun z : Lea => z.id) x := fun e => by subst e; exact hz
      rw [posK_eq (fun z : Lea => z.id) ((fun z : Lea => z.id) x) l lo (by omega) hy (fun h => h4p (by omega) h)]
      first
        | (rw [show decide ((fun z : Lea => z.id) x ∈ l.map (fun z : Lea => z.id)) = false from decide_eq_false (not_memK hp hy (fun h => by omega))]; exact ⟨Or.inr rfl, [_, _], ⟨.tmp (.t _), .tmp (.t _), trivial⟩, .refl _⟩)
        | (have h5p := h4p (by omega) (by omega)
           rw [show decide ((fun z : Lea => z.id) x ∈ l.map (fun z : Lea => z.id)) = decide (cmpI ((fun z : Lea => z.id) l[lo]) ((fun z : Lea => z.id) x) = 0) from decide_eq_decide.2 ⟨fun hm => Classical.byContradiction fun hn => not_memK hp hy (fun _ => Int.lt_iff_le_and_ne.2 ⟨Int.not_lt.1 h5p, fun e => hn (cmpI_eq.2 e.symm)⟩) hm, fun h => List.mem_map.2 ⟨_, List.getElem_mem _, cmpI_eq.1 h⟩⟩]; exact ⟨Or.inr rfl, [_, _], ⟨.tmp (.t _), .tmp (.t _), trivial⟩, .refl _⟩)
    · refine awp_rd [(some 35, []), (some 36, []), (some 37, []), (some 38, []), (some 39, []), (some 40, []), (some 41, []), (some 42, []), (some 43, []), (some 44, []), (some 45, []), (some 46, []), (some 47, []), (some 48, []), (some 6, []), (some 7, [])] [[], [], [], [1, 2], [1, 2, 3], [1, 2, 3, 4], [1, 2, 3, 4], [1, 2, 3, 4], [1, 2, 3, 4, 6, 7], [1, 2, 3, 4, 6, 7, 8], [1, 2, 3, 4], [1, 2, 3, 4, 5, 6, 7, 8, 9, 10], [1, 2, 3, 4, 5, 6, 7, 8, 9, 10, 11], [1, 2, 3, 4, 5, 6, 7, 8, 9, 10, 11, 12], [0, 1, 2, 3, 4, 5, 6, 7, 8, 9, 10, 11], [0, 1, 2, 3, 4, 5, 6, 7, 8, 9, 10, 11, 12, 13, 14]] tm rfl rfl rfl rfl ?_
      refine RD.op rfl rfl rfl (eff_move (v := .t _) rfl rfl rfl) ?_
      refine RD.op rfl rfl rfl (eff_move (v := .t _) rfl rfl rfl) ?_
      refine RD.op rfl rfl rfl (eff_move (v := .t _) rfl rfl rfl) ?_
      refine RD.op rfl rfl rfl (eff_iop (r := .bool false) rfl rfl rfl rfl (by exact iop_lss_f (by omega))) ?_
      refine RD.op rfl rfl rfl (eff_move (v := .t _) rfl rfl rfl) ?_
      refine RD.gskip rfl rfl rfl rfl rfl rfl (by decide) ?_
      refine RD.gskip rfl rfl rfl rfl rfl rfl (by decide) ?_
      refine RD.gskip rfl rfl rfl rfl rfl rfl (by decide) ?_
      refine RD.gskip rfl rfl rfl rfl rfl rfl (by decide) ?_
      refine RD.gskip rfl rfl rfl rfl rfl rfl (by decide) ?_
      refine RD.gskip rfl rfl rfl rfl rfl rfl (by decide) ?_
      refine RD.gskip rfl rfl rfl rfl rfl rfl (by decide) ?_
      refine RD.gskip rfl rfl rfl rfl rfl rfl (by decide) ?_
      refine RD.op rfl rfl rfl (eff_pick (v := .t _) rfl rfl rfl rfl) ?_
      refine RD.op rfl rfl rfl (eff_assign (v := .t _) rfl rfl rfl) ?_
      refine RD.op rfl rfl rfl (eff_assign (v := .t _) rfl rfl rfl) ?_
      refine RD.nil ?_
      refine awp_ret ?_
      have h4p : lo = hi → ∀ h : lo < l.length, ¬ (fun z : Lea => z.id) l[lo] < (fun z : Lea => z.id) x := fun e => by subst e; exact hz
      rw [posK_eq (fun z : Lea => z.id) ((fun z : Lea => z.id) x) l lo (by omega) hy (fun h => h4p (by omega) h)]
      first
        | (rw [show decide ((fun z : Lea => z.id) x ∈ l.map (fun z : Lea => z.id)) = false from decide_eq_false (not_memK hp hy (fun h => by omega))]; exact ⟨Or.inr rfl, [_, _], ⟨.tmp (.t _), .tmp (.t _), trivial⟩, .refl _⟩)
        | (have h5p := h4p (by omega) (by omega)
           rw [show decide ((fun z : Lea => z.id) x ∈ l.map (fun z : Lea => z.id)) = decide (cmpI ((fun z : Lea => z.id) l[lo]) ((fun z : Lea => z.id) x) = 0) from decide_eq_decide.2 ⟨fun hm => Classical.byContradiction fun hn => not_memK hp hy (fun _ => Int.lt_iff_le_and_ne.2 ⟨Int.not_lt.1 h5p, fun e => hn (cmpI_eq.2 e.symm)⟩) hm, fun h => List.mem_map.2 ⟨_, List.getElem_mem _, cmpI_eq.1 h⟩⟩]; exact ⟨Or.inr rfl, [_, _], ⟨.tmp (.t _), .tmp (.t _), trivial⟩, .refl _⟩)

theorem insEnd_retG (l : List Lea) (g : Nat) (x : Lea) (hl : l.length ≤ 1000000) : RetG Try.prog 58 [(0, some ⟨8, 44, g, (l.map encL).map .t⟩), (1, some ⟨8, 44, 0, [.t (encL x)]⟩)] [.own 0 g 0 l.length, .t (.int .i64 (l.length : Nat)), .own 1 0 0 1] [(0, some ⟨8, 44, g + 1, ((l ++ [x]).map encL).map .t⟩), (1, some ⟨8, 44, 1, [.t (encL x)]⟩)] (.own 0 (g + 1) 0 (l.length + 1)) := by
  refine retG_of_awp Try.func58 rfl (Nat.le_of_ble_eq_true rfl) ?_
  refine awp_seq ?_
  refine awp_rw rfl ?_
  refine RW.op rfl rfl (eff_assign (v := .t _) rfl rfl rfl) ?_
  refine RW.nil ?_
  refine awp_seq ?_
  refine awp_rw rfl ?_
  refine RW.op rfl rfl (eff_move (v := .own _ _ _ _) rfl rfl rfl) ?_
  refine RW.op rfl rfl (eff_move (v := .t _) rfl rfl rfl) ?_
  refine RW.op rfl rfl (eff_slice (l := some l.length) (h := none) rfl rfl te23 rfl rfl rfl rfl (.yes rfl rfl) .no (by simp) (by simp)) ?_
  refine RW.nil ?_
  refine awp_seq ?_
  refine awp_rw rfl ?_
  refine RW.op rfl rfl (eff_move (v := .own _ _ _ _) rfl rfl rfl) ?_
  refine RW.op rfl rfl (eff_len rfl rfl te23 rfl rfl rfl) ?_
  refine RW.op rfl rfl (eff_assign (v := .t _) rfl rfl rfl) ?_
  refine RW.nil ?_
  refine awp_seq ?_
  refine awp_seq ?_
  refine awp_rw rfl ?_
  refine RW.op rfl rfl (eff_move (v := .t _) rfl rfl rfl) ?_
  refine RW.op rfl rfl (eff_iop (r := .bool false) rfl rfl rfl rfl (by rfl)) ?_
  refine RW.nil ?_
  refine awp_cond rfl (fun h => nomatch h) (fun _ => ?_)
  refine awp_skip ?_
  refine awp_seq ?_
  refine awp_rw rfl ?_
  refine RW.op rfl rfl (eff_move (v := .own _ _ _ _) rfl rfl rfl) ?_
  refine RW.op rfl rfl (eff_len rfl rfl te23 rfl rfl rfl) ?_
  refine RW.op rfl rfl (eff_assign (v := .t _) rfl rfl rfl) ?_
  refine RW.nil ?_
  refine awp_seq ?_
  refine awp_seq ?_
  refine awp_rw rfl ?_
  refine RW.op rfl rfl (eff_move (v := .t _) rfl rfl rfl) ?_
  refine RW.op rfl rfl (eff_move (v := .t _) rfl rfl rfl) ?_
  refine RW.op rfl rfl (eff_iop (r := .bool true) rfl rfl rfl rfl (by simp [iop])) ?_
  refine RW.nil ?_
  refine awp_cond rfl (fun _ => ?_) (fun h => nomatch h)
  refine awp_seq ?_
  refine awp_rw rfl ?_
  refine RW.op rfl rfl (eff_move (v := .own _ _ _ _) rfl rfl rfl) ?_
  refine RW.op rfl rfl (eff_move (v := .own _ _ _ _) rfl rfl rfl) ?_
  refine RW.new rfl rfl (eff_appendAny (id := 0) (ys := [.t (encL x)]) rfl rfl ta23 rfl rfl rfl (by simp) rfl rfl (srcOwn rfl rfl rfl rfl rfl rfl) (by simp; omega) (by simp; omega)) ?_
  refine RW.op rfl rfl (eff_assign (v := .own _ _ _ _) rfl rfl rfl) ?_
  refine RW.nil ?_
  show AWP _ _ _ _
  refine awp_weak (weak_bumpS (d := 2) (id := 1) (off := 0) (len := 1) 1 rfl rfl (by decide)) ?_
  refine awp_ret ?_
  exact ⟨Or.inr rfl, [_], [.own 0 (g + 1) 0 (l.length + 1)], ⟨.tmp rfl, trivial⟩, rfl, weak_keep ⟨rfl, rfl, trivial⟩ ⟨by simp [sget]; rfl, okE_t, rfl, okE_one rfl, trivial⟩, rfl⟩

theorem insC (l : List Lea) (g i : Nat) (x : Lea) (hl : l.length ≤ 1000000) (hi : i ≤ l.length) : RetG Try.prog 58 [(0, some ⟨8, 44, g, (l.map encL).map .t⟩), (1, some ⟨8, 44, 0, [.t (encL x)]⟩)]
    [.own 0 g 0 l.length, .t (.int .i64 (i : Nat)), .own 1 0 0 1] [(0, some ⟨8, 44, g + 1, ((l.take i ++ [x] ++ l.drop i).map encL).map .t⟩), (1, some ⟨8, 44, 1, [.t (encL x)]⟩)] (.own 0 (g + 1) 0 (l.length + 1)) := by
  rcases Nat.lt_or_ge i l.length with h | h
  · have := insert_retG (P := Try.prog) (F := 58) (tE := 44) (k := 8) (bytes := 64)
      (fun b n c i vb vc ca cv vs w h1 h2 h3 h4 h5 h6 h7 h8 h9 h10 h11 => ins_shift b n c i vb vc ca cv vs w h1 h2 h3 h4 h5 h6 h7 h8 h9 h10 h11)
      (fun b n c i vb vc ca cv vs w h1 h2 h3 h4 h5 h6 h7 h8 h9 h10 h11 h12 => ins_grow b n c i vb vc ca cv vs w h1 h2 h3 h4 h5 h6 h7 h8 h9 h10 h11 h12)
      (l.map encL) (encL x) g i (by simpa using h) (by simp; omega) (by simp; omega)
    simpa [List.map_take, List.map_drop] using this
  · obtain rfl : i = l.length := by omega
    have := insEnd_retG l g x hl
    rw [List.take_of_length_le (by omega), List.drop_of_length_le (by omega), List.append_nil]
    exact this

end Go.Tv.C24

end
section
open Go Go.Tv Go.Proofs
namespace Go.Tv.C24

theorem purse_ext {x y : Purse} (h1 : x.e = y.e) (h2 : x.b = y.b) (h3 : x.d = y.d) : x = y := by
  obtain ⟨a, b, c⟩ := x; obtain ⟨a', b', c'⟩ := y
  simp only at h1 h2 h3
  subst h1 h2 h3; rfl
theorem plus_right_comm (x y z : Purse) : plus (plus x y) z = plus (plus x z) y := by apply purse_ext <;> simp only [plus] <;> omega
theorem plus_comm (x y : Purse) : plus x y = plus y x := by apply purse_ext <;> simp only [plus] <;> omega
theorem plus_sub (x y : Purse) : plus (sub x y) y = x := by apply purse_ext <;> simp only [plus, sub] <;> omega
theorem sub_plus (x y : Purse) : sub (plus x y) y = x := by apply purse_ext <;> simp only [plus, sub] <;> omega
theorem plus_cancel {x y z : Purse} (h : plus x z = plus y z) : x = y := by
  have := congrArg (fun p => sub p z) h
  simpa [sub_plus] using this

theorem sumA_plus (l : List Acc) : ∀ (s x : Purse), sumA l (plus s x) = plus (sumA l s) x := by
  induction l with
  | nil => intro s x; rfl
  | cons a l ih =>
    intro s x
    show sumA l (plus (plus s x) a.p) = plus (sumA l (plus s a.p)) x
    rw [plus_right_comm, ih]
theorem sumL_plus (l : List Lea) : ∀ (s x : Purse), sumL l (plus s x) = plus (sumL l s) x := by
  induction l with
  | nil => intro s x; rfl
  | cons a l ih =>
    intro s x
    show sumL l (plus (plus s x) a.h) = plus (sumL l (plus s a.h)) x
    rw [plus_right_comm, ih]
theorem sumA_set : ∀ (l : List Acc) (i : Nat) (h : i < l.length) (a : Acc) (s : Purse), plus (sumA (l.set i a) s) l[i].p = plus (sumA l s) a.p
  | x :: l, 0, _, a, s => by
    show plus (sumA l (plus s a.p)) x.p = plus (sumA l (plus s x.p)) a.p
    rw [sumA_plus, sumA_plus, plus_right_comm]
  | x :: l, i + 1, h, a, s => by
    have := sumA_set l i (by simpa using h) a (plus s x.p)
    simpa [sumA] using this
theorem sumL_set : ∀ (l : List Lea) (i : Nat) (h : i < l.length) (a : Lea) (s : Purse), plus (sumL (l.set i a) s) l[i].h = plus (sumL l s) a.h
  | x :: l, 0, _, a, s => by
    show plus (sumL l (plus s a.h)) x.h = plus (sumL l (plus s x.h)) a.h
    rw [sumL_plus, sumL_plus, plus_right_comm]
  | x :: l, i + 1, h, a, s => by
    have := sumL_set l i (by simpa using h) a (plus s x.h)
    simpa [sumL] using this
theorem sumL_del : ∀ (l : List Lea) (i : Nat) (h : i < l.length) (s : Purse), plus (sumL (l.take i ++ l.drop (i + 1)) s) l[i].h = sumL l s
  | x :: l, 0, _, s => by
    show plus (sumL l s) x.h = sumL l (plus s x.h)
    rw [sumL_plus]
  | x :: l, i + 1, h, s => by
    have := sumL_del l i (by simpa using h) (plus s x.h)
    simpa [sumL] using this
theorem sumL_ins (x : Lea) : ∀ (l : List Lea) (s : Purse), sumL (insL x l) s = plus (sumL l s) x.h
  | [], s => rfl
  | y :: l, s => by
    unfold insL
    split
    · show sumL (insL x l) (plus s y.h) = plus (sumL l (plus s y.h)) x.h
      rw [sumL_ins]
    · show sumL l (plus (plus s x.h) y.h) = plus (sumL l (plus s y.h)) x.h
      rw [plus_right_comm, sumL_plus]

theorem getDA {l : List Acc} {i : Nat} (h : i < l.length) : l.getD i za = l[i] := by
  rw [List.getD_eq_getElem?_getD, List.getElem?_eq_getElem h]; rfl
theorem getDL {l : List Lea} {i : Nat} (h : i < l.length) : l.getD i zl = l[i] := by
  rw [List.getD_eq_getElem?_getD, List.getElem?_eq_getElem h]; rfl
theorem setP_length (l : List Acc) (i : Nat) (p : Purse) : (setP l i p).length = l.length := by simp [setP]
theorem setH_length (l : List Lea) (i : Nat) (p : Purse) : (setH l i p).length = l.length := by simp [setH]
theorem setP_get {l : List Acc} {i : Nat} (p : Purse) (h : i < l.length) (j : Nat) (hj : j < (setP l i p).length) : (setP l i p)[j] = if i = j then ⟨(l[j]'(by simpa [setP] using hj)).c, p⟩ else l[j]'(by simpa [setP] using hj) := by
  simp only [setP, List.getElem_set, getDA h]
  split
  · rename_i e; subst e; rfl
  · rfl
theorem setP_map (l : List Acc) {i : Nat} (h : i < l.length) (p : Purse) : (setP l i p).map (·.c) = l.map (·.c) := by
  apply List.ext_getElem
  · simp [setP]
  · intro j h1 h2
    rw [List.getElem_map, List.getElem_map, setP_get p h]
    split <;> rfl
theorem setP_mem {l : List Acc} {i : Nat} (h : i < l.length) {p : Purse} {a : Acc} (ha : a ∈ setP l i p) : a ∈ l ∨ a = ⟨l[i].c, p⟩ := by
  unfold setP at ha
  rw [getDA h] at ha
  exact List.mem_or_eq_of_mem_set ha
theorem setH_mem {l : List Lea} {i : Nat} (h : i < l.length) {p : Purse} {a : Lea} (ha : a ∈ setH l i p) : a ∈ l ∨ a = { l[i] with h := p } := by
  unfold setH at ha
  rw [getDL h] at ha
  exact List.mem_or_eq_of_mem_set ha
theorem setH_map {β : Type} (f : Lea → β) (hf : ∀ x p, f { x with h := p } = f x) (l : List Lea) {i : Nat} (h : i < l.length) (p : Purse) : (setH l i p).map f = l.map f := by
  apply List.ext_getElem
  · simp [setH]
  · intro j h1 h2
    rw [List.getElem_map, List.getElem_map]
    unfold setH
    rw [List.getElem_set]
    split
    · rename_i e; subst e; rw [getDL h, hf]
    · rfl

theorem sumA_setP {l : List Acc} {i : Nat} (h : i < l.length) (p s : Purse) : plus (sumA (setP l i p) s) l[i].p = plus (sumA l s) p := by
  have := sumA_set l i h ⟨l[i].c, p⟩ s
  unfold setP
  rw [getDA h]; exact this
theorem sumL_setH {l : List Lea} {i : Nat} (h : i < l.length) (p s : Purse) : plus (sumL (setH l i p) s) l[i].h = plus (sumL l s) p := by
  have := sumL_set l i h { l[i] with h := p } s
  unfold setH
  rw [getDL h]; exact this

theorem accF_some {l : List Acc} {c : Int} {i : Nat} (h : accF l c = some i) : ∃ hi : i < l.length, l[i].c = c := by
  unfold accF at h
  rw [List.findIdx?_eq_some_iff_getElem] at h
  obtain ⟨hi, h1, _⟩ := h
  exact ⟨hi, by simpa using h1⟩
theorem leaF_some {l : List Lea} {c : Int} {i : Nat} (h : leaF l c = some i) : ∃ hi : i < l.length, l[i].id = c := by
  unfold leaF at h
  rw [List.findIdx?_eq_some_iff_getElem] at h
  obtain ⟨hi, h1, _⟩ := h
  exact ⟨hi, by simpa using h1⟩
theorem accF_none {l : List Acc} {c : Int} : accF l c = none ↔ ∀ a, a ∈ l → a.c ≠ c := by
  unfold accF
  rw [List.findIdx?_eq_none_iff]
  simp
theorem leaF_none {l : List Lea} {c : Int} : leaF l c = none ↔ ∀ a, a ∈ l → a.id ≠ c := by
  unfold leaF
  rw [List.findIdx?_eq_none_iff]
  simp
theorem accF_map {l l' : List Acc} (h : l.map (·.c) = l'.map (·.c)) (c : Int) : accF l c = accF l' c := by
  have key : ∀ l : List Acc, accF l c = (l.map (·.c)).findIdx? (· == c) := fun l => by
    unfold accF
    rw [List.findIdx?_map]; rfl
  rw [key, key, h]
theorem incr_inj {α : Type} {f : α → Int} {l : List α} (hp : (l.map f).Pairwise (· < ·)) {i j : Nat} (hi : i < l.length) (hj : j < l.length) (h : f l[i] = f l[j]) : i = j := by
  rcases Nat.lt_trichotomy i j with h1 | h1 | h1
  · have := List.pairwise_iff_getElem.1 hp i j (by simpa using hi) (by simpa using hj) h1
    rw [List.getElem_map, List.getElem_map] at this; omega
  · exact h1
  · have := List.pairwise_iff_getElem.1 hp j i (by simpa using hj) (by simpa using hi) h1
    rw [List.getElem_map, List.getElem_map] at this; omega
theorem accF_at {l : List Acc} (hp : incrA l) {i : Nat} (hi : i < l.length) : accF l l[i].c = some i := by
  cases h : accF l l[i].c with
  | none => exact absurd rfl (accF_none.1 h _ (List.getElem_mem hi))
  | some j =>
    obtain ⟨hj, e⟩ := accF_some h
    rw [incr_inj (f := fun x : Acc => x.c) hp hj hi e]
theorem leaF_at {l : List Lea} (hp : incrL l) {i : Nat} (hi : i < l.length) : leaF l l[i].id = some i := by
  cases h : leaF l l[i].id with
  | none => exact absurd rfl (leaF_none.1 h _ (List.getElem_mem hi))
  | some j =>
    obtain ⟨hj, e⟩ := leaF_some h
    rw [incr_inj (f := fun x : Lea => x.id) hp hj hi e]

theorem VB.bok {b : Bank} (h : VB b) : BOK b := ⟨by have := h.la; omega, by have := h.ll; omega⟩
theorem VB.nb {b : Bank} (h : VB b) : NB b := nb_right h.rg.1 h.rg.2.1 h.rg.2.2.1
theorem vb_zb : VB zb := by
  refine ⟨by simp, by simp, List.Pairwise.nil, List.Pairwise.nil, ⟨by decide, by simp, by simp, by decide⟩, by intro l h; simp at h, List.Pairwise.nil⟩

theorem right_sub {x y : Purse} (h : right x) (k : right y) (c : cov x y) : right (sub x y) := by
  unfold right num cov sub at *; simp only; omega

/-! ### Insertion -/
theorem insL_perm (x : Lea) : ∀ (l : List Lea), (insL x l).Perm (x :: l)
  | [] => List.Perm.refl _
  | y :: l => by
    unfold insL
    split
    · exact ((insL_perm x l).cons y).trans (List.Perm.swap x y l)
    · exact List.Perm.refl _
theorem insL_mem {x y : Lea} {l : List Lea} : y ∈ insL x l ↔ y = x ∨ y ∈ l := by rw [(insL_perm x l).mem_iff, List.mem_cons]
theorem insL_length (x : Lea) (l : List Lea) : (insL x l).length = l.length + 1 := by rw [(insL_perm x l).length_eq]; rfl
theorem insL_incr (x : Lea) : ∀ (l : List Lea), incrL l → (∀ y, y ∈ l → y.id ≠ x.id) → incrL (insL x l)
  | [], _, _ => by simp [insL, incrL]
  | y :: l, hp, hn => by
    have hp2 := List.pairwise_cons.1 (show (y.id :: l.map (·.id)).Pairwise (· < ·) from hp)
    unfold insL
    split
    · rename_i hlt
      show (y.id :: (insL x l).map (·.id)).Pairwise (· < ·)
      refine List.pairwise_cons.2 ⟨fun z hz => ?_, insL_incr x l hp2.2 (fun z hz => hn z (List.mem_cons_of_mem _ hz))⟩
      obtain ⟨w, hw, rfl⟩ := List.mem_map.1 hz
      rcases insL_mem.1 hw with rfl | hw
      · exact hlt
      · exact hp2.1 _ (List.mem_map.2 ⟨w, hw, rfl⟩)
    · rename_i hge
      show (x.id :: y.id :: l.map (·.id)).Pairwise (· < ·)
      have hne := hn y List.mem_cons_self
      refine List.pairwise_cons.2 ⟨fun z hz => ?_, hp⟩
      rcases List.mem_cons.1 hz with rfl | hz
      · omega
      · have := hp2.1 z hz; omega
theorem insL_pos (x : Lea) : ∀ (l : List Lea), insL x l = l.take (posK (fun z : Lea => z.id) x.id l) ++ [x] ++ l.drop (posK (fun z : Lea => z.id) x.id l)
  | [] => rfl
  | y :: l => by
    unfold insL posK
    split
    · rename_i h
      have ih := insL_pos x l
      unfold posK at ih
      simp [h, ih]
    · rename_i h
      simp [h]

theorem sumL_mono : ∀ (l : List Lea) (s : Purse), (∀ x, x ∈ l → right x.h) → cov (sumL l s) s
  | [], s, _ => by unfold sumL cov; simp
  | x :: l, s, hr => by
    have h1 := sumL_mono l (plus s x.h) (fun y hy => hr y (List.mem_cons_of_mem _ hy))
    have h2 := hr x List.mem_cons_self
    show cov (sumL l (plus s x.h)) s
    unfold cov right num plus at *; simp only at *; omega
theorem sumA_mono : ∀ (l : List Acc) (s : Purse), (∀ x, x ∈ l → right x.p) → cov (sumA l s) s
  | [], s, _ => by unfold sumA cov; simp
  | x :: l, s, hr => by
    have h1 := sumA_mono l (plus s x.p) (fun y hy => hr y (List.mem_cons_of_mem _ hy))
    have h2 := hr x List.mem_cons_self
    show cov (sumA l (plus s x.p)) s
    unfold cov right num plus at *; simp only at *; omega
theorem sumL_one : ∀ (l : List Lea) (s : Purse), (∀ x, x ∈ l → right x.h) → ∀ x, x ∈ l → cov (sumL l s) (plus s x.h)
  | [], s, _, x, hx => by simp at hx
  | y :: l, s, hr, x, hx => by
    have hy := hr y List.mem_cons_self
    show cov (sumL l (plus s y.h)) (plus s x.h)
    rcases List.mem_cons.1 hx with rfl | hx
    · exact sumL_mono l _ (fun z hz => hr z (List.mem_cons_of_mem _ hz))
    · rw [sumL_plus]
      have h1 : cov (sumL l s) (plus s x.h) := sumL_one l s (fun z hz => hr z (List.mem_cons_of_mem _ hz)) x hx
      unfold cov right num plus at *; simp only at *; omega
theorem sumA_one : ∀ (l : List Acc) (s : Purse), (∀ x, x ∈ l → right x.p) → right s → ∀ x, x ∈ l → cov (sumA l s) x.p
  | [], s, _, _, x, hx => by simp at hx
  | y :: l, s, hr, hs, x, hx => by
    have hy := hr y List.mem_cons_self
    show cov (sumA l (plus s y.p)) x.p
    rcases List.mem_cons.1 hx with rfl | hx
    · have := sumA_mono l (plus s x.p) (fun z hz => hr z (List.mem_cons_of_mem _ hz))
      unfold cov right num plus at *; simp only at *; omega
    · rw [sumA_plus]
      have h1 : cov (sumA l s) x.p := sumA_one l s (fun z hz => hr z (List.mem_cons_of_mem _ hz)) hs x hx
      unfold cov right num plus at *; simp only at *; omega

/-! ### What the operations keep -/
theorem total_eq (b : Bank) : total b = sumL b.ls (sumA b.accs b.sp) := rfl

theorem setP_vb {b : Bank} (h : VB b) {i : Nat} (hi : i < b.accs.length) {p : Purse} (hp : right p) {ls : List Lea} {sp : Purse} (hl : ls.length ≤ 32) (hil : incrL ls) (hf : ∀ l, l ∈ ls → formed l)
    (hsp : right sp) (how : ∀ l, l ∈ ls → ∃ a, a ∈ b.accs ∧ a.c = l.cu) (hap : apart ls) (ht : right (total ⟨setP b.accs i p, ls, sp⟩)) : VB ⟨setP b.accs i p, ls, sp⟩ := by
  refine ⟨by rw [setP_length]; exact h.la, hl, ?_, hil, ⟨hsp, fun a ha => ?_, hf, ht⟩, fun l hl => ?_, hap⟩
  · unfold incrA; rw [setP_map _ hi]; exact h.ia
  · rcases setP_mem hi ha with ha | rfl
    · exact h.rg.2.1 a ha
    · exact hp
  · obtain ⟨a, ha, hc⟩ := how l hl
    have : a.c ∈ (setP b.accs i p).map (·.c) := by rw [setP_map _ hi]; exact List.mem_map.2 ⟨a, ha, rfl⟩
    obtain ⟨a', ha', he⟩ := List.mem_map.1 this
    exact ⟨a', ha', by rw [he]; exact hc⟩

theorem grant_keeps {b : Bank} (h : VB b) (l : Lea) : VB (grant b l).1 ∧ ((grant b l).2 = 0 → total (grant b l).1 = total b ∧ (grant b l).1.sp = b.sp) := by
  unfold grant
  split
  · exact ⟨vb_zb, by simp⟩
  · rename_i hf
    have hf := Classical.not_not.1 hf
    split
    · exact ⟨vb_zb, by simp⟩
    · rename_i hl
      split
      · exact ⟨vb_zb, by simp⟩
      · rename_i a ha
        split
        · exact ⟨vb_zb, by simp⟩
        · rename_i hc
          split
          · exact ⟨vb_zb, by simp⟩
          · rename_i hfull
            split
            · exact ⟨vb_zb, by simp⟩
            · rename_i hcv
              have hcv := Classical.not_not.1 hcv
              obtain ⟨hi, he⟩ := accF_some ha
              rw [getDA hi] at hcv ⊢
              have hra : right b.accs[a].p := h.rg.2.1 _ (List.getElem_mem hi)
              have ht : total ⟨setP b.accs a (sub b.accs[a].p l.h), insL l b.ls, b.sp⟩ = total b := by
                show sumL (insL l b.ls) (sumA (setP b.accs a (sub b.accs[a].p l.h)) b.sp) = sumL b.ls (sumA b.accs b.sp)
                rw [sumL_ins, ← sumL_plus]
                congr 1
                have := sumA_setP hi (sub b.accs[a].p l.h) b.sp
                have e := congrArg (fun q => sub (plus q l.h) b.accs[a].p) this
                refine Eq.trans (Eq.trans ?_ e) ?_ <;> apply purse_ext <;> simp only [plus, sub] <;> omega
              refine ⟨setP_vb h hi (right_sub hra hf.2.2.2.2.2.2 hcv) (by rw [insL_length]; omega) (insL_incr l _ h.il (leaF_none.1 hl)) (fun x hx => ?_) h.rg.1 (fun x hx => ?_) ?_ (by rw [ht]; exact h.rg.2.2.2), fun _ => ⟨ht, rfl⟩⟩
              · rcases insL_mem.1 hx with rfl | hx
                · exact hf
                · exact h.rg.2.2.1 x hx
              · rcases insL_mem.1 hx with rfl | hx
                · exact ⟨_, List.getElem_mem hi, he⟩
                · exact h.ow x hx
              · refine ((insL_perm l b.ls).pairwise_iff (fun {x y} hxy hyx => hxy (confl_comm.1 hyx))).2 (List.pairwise_cons.2 ⟨fun y hy hcf => hc ⟨y, hy, hcf⟩, h.ap⟩)

theorem charge_keeps {b : Bank} (h : VB b) (id tick : Int) {cost : Purse} (hco : right cost) : VB (charge b id tick cost).1 ∧ ((charge b id tick cost).2 = 0 → total (charge b id tick cost).1 = total b ∧ cov (charge b id tick cost).1.sp b.sp) := by
  unfold charge
  split
  · exact ⟨vb_zb, by simp⟩
  · rename_i i hi0
    obtain ⟨hi, he⟩ := leaF_some hi0
    split
    · exact ⟨vb_zb, by simp⟩
    · split
      · exact ⟨vb_zb, by simp⟩
      · rename_i hcv
        have hcv := Classical.not_not.1 hcv
        rw [getDL hi] at hcv ⊢
        have hfm : formed b.ls[i] := h.rg.2.2.1 _ (List.getElem_mem hi)
        have ht : total ⟨b.accs, setH b.ls i (sub b.ls[i].h cost), plus b.sp cost⟩ = total b := by
          show sumL (setH b.ls i (sub b.ls[i].h cost)) (sumA b.accs (plus b.sp cost)) = sumL b.ls (sumA b.accs b.sp)
          rw [sumA_plus, sumL_plus]
          have := sumL_setH hi (sub b.ls[i].h cost) (sumA b.accs b.sp)
          have e := congrArg (fun q => sub (plus q cost) b.ls[i].h) this
          refine Eq.trans (Eq.trans ?_ e) ?_ <;> apply purse_ext <;> simp only [plus, sub] <;> omega
        have hrt : right (total b) := h.rg.2.2.2
        have hmem : ∀ x, x ∈ setH b.ls i (sub b.ls[i].h cost) → formed x ∧ ∃ a, a ∈ b.accs ∧ a.c = x.cu := fun x hx => by
          rcases setH_mem hi hx with hx | rfl
          · exact ⟨h.rg.2.2.1 x hx, h.ow x hx⟩
          · exact ⟨⟨hfm.1, hfm.2.1, hfm.2.2.1, hfm.2.2.2.1, hfm.2.2.2.2.1, hfm.2.2.2.2.2.1, right_sub hfm.2.2.2.2.2.2 hco hcv⟩, h.ow b.ls[i] (List.getElem_mem hi)⟩
        -- what is spent stays within the total
        have hsp : right (plus b.sp cost) := by
          have c1 := sumL_mono _ (sumA b.accs (plus b.sp cost)) (fun x hx => (hmem x hx).1.2.2.2.2.2.2)
          have c2 := sumA_mono b.accs (plus b.sp cost) h.rg.2.1
          have c3 : right (sumL (setH b.ls i (sub b.ls[i].h cost)) (sumA b.accs (plus b.sp cost))) := by
            have : right (total ⟨b.accs, setH b.ls i (sub b.ls[i].h cost), plus b.sp cost⟩) := by rw [ht]; exact hrt
            exact this
          have c4 := h.rg.1
          generalize sumL (setH b.ls i (sub b.ls[i].h cost)) (sumA b.accs (plus b.sp cost)) = T at c1 c3
          generalize sumA b.accs (plus b.sp cost) = U at c1 c2
          unfold cov right num plus at *; simp only at *; omega
        refine ⟨⟨h.la, by rw [setH_length]; exact h.ll, h.ia, ?_, ⟨hsp, h.rg.2.1, fun x hx => (hmem x hx).1, by rw [ht]; exact hrt⟩, fun x hx => (hmem x hx).2, ?_⟩, fun _ => ⟨ht, ?_⟩⟩
        · unfold incrL; rw [setH_map (·.id) (fun _ _ => rfl) _ hi]; exact h.il
        · have k : ∀ l : List Lea, apart l ↔ (l.map fun x => (x.dev, x.fr, x.un)).Pairwise (fun x y => ¬ (y.1 = x.1 ∧ y.2.1 < x.2.2 ∧ x.2.1 < y.2.2)) := fun l => by
            unfold apart; rw [List.pairwise_map]; rfl
          rw [k, setH_map (fun x => (x.dev, x.fr, x.un)) (fun _ _ => rfl) _ hi, ← k]; exact h.ap
        · show cov (plus b.sp cost) b.sp
          unfold cov plus right num at *; simp only; omega

theorem del_sub (l : List Lea) (i : Nat) : (l.take i ++ l.drop (i + 1)).Sublist l := by
  rw [← List.eraseIdx_eq_take_drop_succ]
  exact List.eraseIdx_sublist l i

theorem close_keeps {b : Bank} (h : VB b) (id : Int) : VB (close b id).1 ∧ ((close b id).2 = 0 → total (close b id).1 = total b ∧ (close b id).1.sp = b.sp) := by
  unfold close
  split
  · exact ⟨vb_zb, by simp⟩
  · rename_i i hi0
    obtain ⟨hi, he⟩ := leaF_some hi0
    rw [getDL hi]
    obtain ⟨a0, ha0, hc0⟩ := h.ow b.ls[i] (List.getElem_mem hi)
    unfold credit
    split
    · rename_i hn
      exact absurd hc0 (accF_none.1 hn a0 ha0)
    · rename_i a ha
      obtain ⟨hia, hea⟩ := accF_some ha
      rw [getDA hia]
      have hfm : formed b.ls[i] := h.rg.2.2.1 _ (List.getElem_mem hi)
      have hra : right b.accs[a].p := h.rg.2.1 _ (List.getElem_mem hia)
      have hsub := del_sub b.ls i
      have ht : total ⟨setP b.accs a (plus b.accs[a].p b.ls[i].h), b.ls.take i ++ b.ls.drop (i + 1), b.sp⟩ = total b := by
        show sumL (b.ls.take i ++ b.ls.drop (i + 1)) (sumA (setP b.accs a (plus b.accs[a].p b.ls[i].h)) b.sp) = sumL b.ls (sumA b.accs b.sp)
        have e1 : sumA (setP b.accs a (plus b.accs[a].p b.ls[i].h)) b.sp = plus (sumA b.accs b.sp) b.ls[i].h := by
          have := sumA_setP hia (plus b.accs[a].p b.ls[i].h) b.sp
          have e := congrArg (fun q => sub q b.accs[a].p) this
          refine Eq.trans (Eq.trans ?_ e) ?_ <;> apply purse_ext <;> simp only [plus, sub] <;> omega
        rw [e1, sumL_plus]
        exact sumL_del b.ls i hi _
      have hrt : right (total b) := h.rg.2.2.2
      have hrp : right (plus b.accs[a].p b.ls[i].h) := by
        have k2 := sumA_one b.accs b.sp h.rg.2.1 h.rg.1 _ (List.getElem_mem hia)
        have k1 := sumL_one b.ls (sumA b.accs b.sp) (fun x hx => (h.rg.2.2.1 x hx).2.2.2.2.2.2) _ (List.getElem_mem hi)
        have hrt2 : right (sumL b.ls (sumA b.accs b.sp)) := hrt
        have hrl := hfm.2.2.2.2.2.2
        generalize sumL b.ls (sumA b.accs b.sp) = T at k1 hrt2
        generalize sumA b.accs b.sp = U at k1 k2
        unfold cov right num plus at *; simp only at *; omega
      refine ⟨setP_vb h hia hrp (Nat.le_trans hsub.length_le h.ll) (List.Pairwise.sublist (hsub.map _) h.il) (fun x hx => h.rg.2.2.1 x (hsub.subset hx)) h.rg.1 (fun x hx => h.ow x (hsub.subset hx)) (List.Pairwise.sublist hsub h.ap) (by rw [ht]; exact hrt), fun _ => ⟨ht, rfl⟩⟩

end Go.Tv.C24

end
section
open Go Go.Tv Go.Proofs
namespace Go.Tv.C24
set_option maxRecDepth 20000
set_option maxHeartbeats 2000000
set_option linter.unusedSimpArgs false
set_option linter.unusedVariables false
theorem minusD_ret (x y : Purse) (hx : near 1000000000000000 x) (hy : near 1000000000000000 y) : Ret Try.prog 17 [encP x, encP y] (.tup [encP (minus x y).1, .bool (decide (cov x y))]) := by
  have h := minus_ret x y hx hy
  rwa [show (minus x y).2 = decide (cov x y) from by unfold minus; split <;> simp [*]] at h
theorem minusD18_ret (x y : Purse) (hx : near 1000000000000000 x) (hy : near 1000000000000000 y) : Ret Try.prog 18 [encP x, encP y] (.tup [encP (minus x y).1, .bool (decide (cov x y))]) := by
  have h := minus18_ret x y hx hy
  rwa [show (minus x y).2 = decide (cov x y) from by unfold minus; split <;> simp [*]] at h
theorem acc_nat {l : List Acc} {c : Int} (h : ¬ accIx l c < 0) : ∃ i, ∃ hi : i < l.length, accIx l c = (i : Int) ∧ accF l c = some i := by
  obtain ⟨i, hi, h1, h2, _⟩ := fIx_nat (p := fun a : Acc => a.c == c) h
  exact ⟨i, hi, h1, h2⟩
theorem lea_nat {l : List Lea} {c : Int} (h : ¬ leaIx l c < 0) : ∃ i, ∃ hi : i < l.length, leaIx l c = (i : Int) ∧ leaF l c = some i := by
  obtain ⟨i, hi, h1, h2, _⟩ := fIx_nat (p := fun a : Lea => a.id == c) h
  exact ⟨i, hi, h1, h2⟩
theorem acc_neg {l : List Acc} {c : Int} (h : accIx l c < 0) : accF l c = none := by
  unfold accF; rw [List.findIdx?_eq_none_iff]; exact fIx_neg.1 h
theorem lea_neg {l : List Lea} {c : Int} (h : leaIx l c < 0) : leaF l c = none := by
  unfold leaF; rw [List.findIdx?_eq_none_iff]; exact fIx_neg.1 h
theorem grant_5 {b : Bank} {l : Lea} (h : ¬ formed l) : grant b l = (zb, 5) := by unfold grant; rw [if_pos h]
theorem grant_4 {b : Bank} {l : Lea} (h : formed l) (h2 : ¬ leaIx b.ls l.id < 0) : grant b l = (zb, 4) := by
  obtain ⟨i, _, _, e⟩ := lea_nat h2
  unfold grant; rw [if_neg (fun g => g h), e]
theorem grant_3 {b : Bank} {l : Lea} (h : formed l) (h2 : leaIx b.ls l.id < 0) (h3 : accIx b.accs l.cu < 0) : grant b l = (zb, 3) := by
  unfold grant; rw [if_neg (fun g => g h), lea_neg h2, acc_neg h3]
theorem grant_32 {b : Bank} {l : Lea} (h : formed l) (h2 : leaIx b.ls l.id < 0) {a : Nat} (h3 : accF b.accs l.cu = some a) (h4 : ∃ x, x ∈ b.ls ∧ confl x l) : grant b l = (zb, 32) := by
  unfold grant; rw [if_neg (fun g => g h), lea_neg h2, h3]; simp only; rw [if_pos h4]
theorem grant_9 {b : Bank} {l : Lea} (h : formed l) (h2 : leaIx b.ls l.id < 0) {a : Nat} (h3 : accF b.accs l.cu = some a) (h4 : ¬ ∃ x, x ∈ b.ls ∧ confl x l) (h5 : 32 ≤ b.ls.length) : grant b l = (zb, 9) := by
  unfold grant; rw [if_neg (fun g => g h), lea_neg h2, h3]; simp only; rw [if_neg h4, if_pos h5]
theorem grant_40 {b : Bank} {l : Lea} (h : formed l) (h2 : leaIx b.ls l.id < 0) {a : Nat} (ha : a < b.accs.length) (h3 : accF b.accs l.cu = some a) (h4 : ¬ ∃ x, x ∈ b.ls ∧ confl x l) (h5 : ¬ 32 ≤ b.ls.length)
    (h6 : ¬ cov (b.accs[a]).p l.h) : grant b l = (zb, 40) := by
  unfold grant; rw [if_neg (fun g => g h), lea_neg h2, h3]; simp only; rw [if_neg h4, if_neg h5, getDA ha, if_pos h6]
theorem grant_0 {b : Bank} {l : Lea} (h : formed l) (h2 : leaIx b.ls l.id < 0) {a : Nat} (ha : a < b.accs.length) (h3 : accF b.accs l.cu = some a) (h4 : ¬ ∃ x, x ∈ b.ls ∧ confl x l) (h5 : ¬ 32 ≤ b.ls.length)
    (h6 : cov (b.accs[a]).p l.h) : grant b l = (⟨setP b.accs a (sub (b.accs[a]).p l.h), insL l b.ls, b.sp⟩, 0) := by
  unfold grant; rw [if_neg (fun g => g h), lea_neg h2, h3]; simp only; rw [if_neg h4, if_neg h5, getDA ha, if_neg (fun g => g h6)]
theorem any_conflT {l : List Lea} {x : Lea} (h : (l.any fun y => decide (confl y x)) = true) : ∃ y, y ∈ l ∧ confl y x := by
  obtain ⟨y, hy, hc⟩ := List.any_eq_true.1 h; exact ⟨y, hy, by simpa using hc⟩
theorem any_conflF {l : List Lea} {x : Lea} (h : (l.any fun y => decide (confl y x)) = false) : ¬ ∃ y, y ∈ l ∧ confl y x := by
  rintro ⟨y, hy, hc⟩; exact any_confl.1 h y hy (confl_comm.1 hc)
theorem elA {l : List Acc} {i : Nat} (h : i < l.length) : ((l.map encA).map AV.t)[i]? = some (.t (encA l[i])) := by simp [h]
theorem elL {l : List Lea} {i : Nat} (h : i < l.length) : ((l.map encL).map AV.t)[i]? = some (.t (encL l[i])) := by simp [h]
theorem setP_els {l : List Acc} {i : Nat} (h : i < l.length) (p : Purse) : ((l.map encA).map AV.t).set i (.t (.agg [encI l[i].c, encI p.e, encI p.b, encI p.d])) = ((setP l i p).map encA).map AV.t := by
  unfold setP; rw [getDA h, List.map_set, List.map_set]; rfl
theorem setH_els {l : List Lea} {i : Nat} (h : i < l.length) (p : Purse) : ((l.map encL).map AV.t).set i (.t (.agg [encI l[i].id, encI l[i].cu, encI l[i].dev, encI l[i].fr, encI l[i].un, encI p.e, encI p.b, encI p.d])) = ((setH l i p).map encL).map AV.t := by
  unfold setH; rw [getDL h, List.map_set, List.map_set]; rfl

theorem grant_ret (b : Bank) (l : Lea) (hB : BOK b) (hN : NB b) (hil : incrL b.ls) : Ret Try.prog 26 [encB b, encL l] (.tup [encB (grant b l).1, encI (grant b l).2]) := by
  refine ret_of_awp Try.func26 rfl (Nat.le_of_ble_eq_true rfl) ?_
  refine awp_seq ?_
  refine awp_rw rfl ?_
  refine RW.new rfl rfl (eff_boxK (v := .t _) (k := 5) (id := 2) rfl rfl rfl rfl rfl rfl) ?_
  refine RW.new rfl rfl (eff_boxK (v := .t _) (k := 8) (id := 3) rfl rfl rfl rfl rfl rfl) ?_
  refine RW.new rfl rfl (eff_allocK (k := 5) (id := 4) rfl rfl tz27 rfl rfl) ?_
  refine RW.op rfl rfl (eff_assign (v := .t _) rfl rfl rfl) ?_
  refine RW.nil ?_
  refine awp_seq ?_
  refine awp_rw rfl ?_
  refine RW.op rfl rfl (eff_fieldAddr rfl rfl tf27_0 (by decide) rfl rfl rfl (Nat.le_of_ble_eq_true rfl)) ?_
  refine RW.op rfl rfl (eff_load (y := .t _) rfl rfl ti22 rfl (.one rfl rfl rfl rfl)) ?_
  refine RW.op rfl rfl (eff_fieldAddr rfl rfl tf44_1 (by decide) rfl rfl rfl (Nat.le_of_ble_eq_true rfl)) ?_
  refine RW.op rfl rfl (eff_load (y := .t _) rfl rfl ti3 rfl (.one rfl rfl rfl rfl)) ?_
  refine RW.op rfl rfl (eff_callT (findA_ret b.accs l.cu hB.1) co40 rfl rfl rfl rfl) ?_
  refine RW.op rfl rfl (eff_assign (v := .t _) rfl rfl rfl) ?_
  refine RW.nil ?_
  refine awp_seq ?_
  refine awp_block ?_
  refine awp_seq ?_
  refine awp_rw rfl ?_
  refine RW.op rfl rfl (eff_load rfl rfl ti44 rfl (.whole rfl rfl rfl rfl rfl rfl)) ?_
  refine RW.op rfl rfl (eff_callT (formed_ret l) co51 rfl rfl rfl rfl) ?_
  refine RW.op rfl rfl (eff_unop rfl rfl rfl rfl) ?_
  refine RW.op rfl rfl (eff_assign (v := .t _) rfl rfl rfl) ?_
  refine RW.nil ?_
  refine awp_cond rfl (fun h1 => ?_) (fun h1 => ?_)
  · try simp only [decide_eq_true_eq, decide_eq_false_iff_not, beq_iff_eq, bne_iff_ne, bne_eq_false_iff_eq, beq_eq_false_iff_ne, Bool.not_eq_true, Bool.not_eq_false, Bool.not_eq_true', Bool.not_eq_false', ne_eq] at h1
    refine awp_seq ?_
    refine awp_rw rfl ?_
    refine RW.op rfl rfl (eff_buildT (ys := [_, _, _, _, _]) rfl rfl tz27 tg27 rfl) ?_
    refine RW.store rfl rfl (eff_storeW (v := .t _) (els := [_]) (els' := [_]) rfl rfl ti27 rfl rfl rfl rfl rfl rfl rfl rfl rfl) ?_
    refine RW.op rfl rfl (eff_assign (v := .t _) rfl rfl rfl) ?_
    refine RW.nil ?_
    refine awp_ret ?_
    rw [grant_5 h1]
    exact ⟨Or.inr rfl, [_, _], ⟨.cell rfl ti27 (.whole rfl rfl rfl rfl rfl rfl) (.t _), .tmp (.t _), trivial⟩, (by repeat' first | exact trivial | exact Wk.refl _ | exact Wk.sl _ | refine And.intro ?_ ?_ | refine Wk.tupP ?_ | refine Wk.aggP ?_)⟩
  · try simp only [decide_eq_true_eq, decide_eq_false_iff_not, beq_iff_eq, bne_iff_ne, bne_eq_false_iff_eq, beq_eq_false_iff_ne, Bool.not_eq_true, Bool.not_eq_false, Bool.not_eq_true', Bool.not_eq_false', ne_eq] at h1
    refine awp_seq ?_
    refine awp_rw rfl ?_
    refine RW.op rfl rfl (eff_fieldAddr rfl rfl tf27_1 (by decide) rfl rfl rfl (Nat.le_of_ble_eq_true rfl)) ?_
    refine RW.op rfl rfl (eff_load (y := .t _) rfl rfl ti23 rfl (.one rfl rfl rfl rfl)) ?_
    refine RW.op rfl rfl (eff_fieldAddr rfl rfl tf44_0 (by decide) rfl rfl rfl (Nat.le_of_ble_eq_true rfl)) ?_
    refine RW.op rfl rfl (eff_load (y := .t _) rfl rfl ti3 rfl (.one rfl rfl rfl rfl)) ?_
    refine RW.op rfl rfl (eff_callT (findL_ret b.ls l.id hB.2) co52 rfl rfl rfl rfl) ?_
    refine RW.op rfl rfl (eff_iop rfl rfl rfl rfl rfl) ?_
    refine RW.op rfl rfl (eff_assign (v := .t _) rfl rfl rfl) ?_
    refine RW.nil ?_
    refine awp_cond rfl (fun h2 => ?_) (fun h2 => ?_)
    · try simp only [decide_eq_true_eq, decide_eq_false_iff_not, beq_iff_eq, bne_iff_ne, bne_eq_false_iff_eq, beq_eq_false_iff_ne, Bool.not_eq_true, Bool.not_eq_false, Bool.not_eq_true', Bool.not_eq_false', ne_eq] at h2
      refine awp_seq ?_
      refine awp_rw rfl ?_
      refine RW.op rfl rfl (eff_buildT (ys := [_, _, _, _, _]) rfl rfl tz27 tg27 rfl) ?_
      refine RW.store rfl rfl (eff_storeW (v := .t _) (els := [_]) (els' := [_]) rfl rfl ti27 rfl rfl rfl rfl rfl rfl rfl rfl rfl) ?_
      refine RW.op rfl rfl (eff_assign (v := .t _) rfl rfl rfl) ?_
      refine RW.nil ?_
      refine awp_ret ?_
      rw [grant_4 h1 (by omega)]
      exact ⟨Or.inr rfl, [_, _], ⟨.cell rfl ti27 (.whole rfl rfl rfl rfl rfl rfl) (.t _), .tmp (.t _), trivial⟩, (by repeat' first | exact trivial | exact Wk.refl _ | exact Wk.sl _ | refine And.intro ?_ ?_ | refine Wk.tupP ?_ | refine Wk.aggP ?_)⟩
    · try simp only [decide_eq_true_eq, decide_eq_false_iff_not, beq_iff_eq, bne_iff_ne, bne_eq_false_iff_eq, beq_eq_false_iff_ne, Bool.not_eq_true, Bool.not_eq_false, Bool.not_eq_true', Bool.not_eq_false', ne_eq] at h2
      refine awp_seq ?_
      refine awp_rw rfl ?_
      refine RW.op rfl rfl (eff_move (v := .t _) rfl rfl rfl) ?_
      refine RW.op rfl rfl (eff_iop rfl rfl rfl rfl rfl) ?_
      refine RW.op rfl rfl (eff_assign (v := .t _) rfl rfl rfl) ?_
      refine RW.nil ?_
      refine awp_cond rfl (fun h3 => ?_) (fun h3 => ?_)
      · try simp only [decide_eq_true_eq, decide_eq_false_iff_not, beq_iff_eq, bne_iff_ne, bne_eq_false_iff_eq, beq_eq_false_iff_ne, Bool.not_eq_true, Bool.not_eq_false, Bool.not_eq_true', Bool.not_eq_false', ne_eq] at h3
        refine awp_seq ?_
        refine awp_rw rfl ?_
        refine RW.op rfl rfl (eff_buildT (ys := [_, _, _, _, _]) rfl rfl tz27 tg27 rfl) ?_
        refine RW.store rfl rfl (eff_storeW (v := .t _) (els := [_]) (els' := [_]) rfl rfl ti27 rfl rfl rfl rfl rfl rfl rfl rfl rfl) ?_
        refine RW.op rfl rfl (eff_assign (v := .t _) rfl rfl rfl) ?_
        refine RW.nil ?_
        refine awp_ret ?_
        rw [grant_3 h1 (by omega) h3]
        exact ⟨Or.inr rfl, [_, _], ⟨.cell rfl ti27 (.whole rfl rfl rfl rfl rfl rfl) (.t _), .tmp (.t _), trivial⟩, (by repeat' first | exact trivial | exact Wk.refl _ | exact Wk.sl _ | refine And.intro ?_ ?_ | refine Wk.tupP ?_ | refine Wk.aggP ?_)⟩
      · try simp only [decide_eq_true_eq, decide_eq_false_iff_not, beq_iff_eq, bne_iff_ne, bne_eq_false_iff_eq, beq_eq_false_iff_ne, Bool.not_eq_true, Bool.not_eq_false, Bool.not_eq_true', Bool.not_eq_false', ne_eq] at h3
        refine awp_seq ?_
        refine awp_rw rfl ?_
        obtain ⟨ia, hia, hfx, hfF⟩ := acc_nat h3
        rw [hfx]
        have hL := hB.1
        have hL2 := hB.2
        refine RW.op rfl rfl (eff_fieldAddr rfl rfl tf27_1 (by decide) rfl rfl rfl (Nat.le_of_ble_eq_true rfl)) ?_
        refine RW.op rfl rfl (eff_load (y := .t _) rfl rfl ti23 rfl (.one rfl rfl rfl rfl)) ?_
        refine RW.op rfl rfl (eff_makeFunc rfl rfl rfl rfl) ?_
        refine RW.op rfl rfl (eff_callB (ys := [_, _]) (caps := []) rfl rfl rfl (.t _) co41 (ResL.cons (.t _) (.refl _) (ResL.cons (Res.fnP (xs := [.ptr (encL l).cells]) ⟨Res.ptrT (x := encL l) rfl rfl rfl, trivial⟩) (.refl _) .nil)) (by rw [List.append_nil]; exact containsL_ret b.ls 53 [.ptr (encL l).cells] (fun y => decide (confl y l)) hB.2 co53 (fun x _ => closure53_ret x l)) rfl) ?_
        refine RW.op rfl rfl (eff_assign (v := .t _) rfl rfl rfl) ?_
        refine RW.nil ?_
        refine awp_cond rfl (fun h4 => ?_) (fun h4 => ?_)
        · try simp only [decide_eq_true_eq, decide_eq_false_iff_not, beq_iff_eq, bne_iff_ne, bne_eq_false_iff_eq, beq_eq_false_iff_ne, Bool.not_eq_true, Bool.not_eq_false, Bool.not_eq_true', Bool.not_eq_false', ne_eq] at h4
          refine awp_seq ?_
          refine awp_rw rfl ?_
          refine RW.op rfl rfl (eff_buildT (ys := [_, _, _, _, _]) rfl rfl tz27 tg27 rfl) ?_
          refine RW.store rfl rfl (eff_storeW (v := .t _) (els := [_]) (els' := [_]) rfl rfl ti27 rfl rfl rfl rfl rfl rfl rfl rfl rfl) ?_
          refine RW.op rfl rfl (eff_assign (v := .t _) rfl rfl rfl) ?_
          refine RW.nil ?_
          refine awp_ret ?_
          rw [grant_32 h1 (by omega) hfF (any_conflT h4)]
          exact ⟨Or.inr rfl, [_, _], ⟨.cell rfl ti27 (.whole rfl rfl rfl rfl rfl rfl) (.t _), .tmp (.t _), trivial⟩, (by repeat' first | exact trivial | exact Wk.refl _ | exact Wk.sl _ | refine And.intro ?_ ?_ | refine Wk.tupP ?_ | refine Wk.aggP ?_)⟩
        · try simp only [decide_eq_true_eq, decide_eq_false_iff_not, beq_iff_eq, bne_iff_ne, bne_eq_false_iff_eq, beq_eq_false_iff_ne, Bool.not_eq_true, Bool.not_eq_false, Bool.not_eq_true', Bool.not_eq_false', ne_eq] at h4
          refine awp_seq ?_
          refine awp_rw rfl ?_
          refine RW.op rfl rfl (eff_fieldAddr rfl rfl tf27_1 (by decide) rfl rfl rfl (Nat.le_of_ble_eq_true rfl)) ?_
          refine RW.op rfl rfl (eff_load (y := .t _) rfl rfl ti23 rfl (.one rfl rfl rfl rfl)) ?_
          refine RW.op rfl rfl (eff_lenM rfl rfl te23 rfl) ?_
          refine RW.op rfl rfl (eff_iop rfl rfl rfl rfl rfl) ?_
          refine RW.op rfl rfl (eff_assign (v := .t _) rfl rfl rfl) ?_
          refine RW.nil ?_
          refine awp_cond rfl (fun h5 => ?_) (fun h5 => ?_)
          · try simp only [decide_eq_true_eq, decide_eq_false_iff_not, beq_iff_eq, bne_iff_ne, bne_eq_false_iff_eq, beq_eq_false_iff_ne, Bool.not_eq_true, Bool.not_eq_false, Bool.not_eq_true', Bool.not_eq_false', ne_eq] at h5
            refine awp_seq ?_
            refine awp_rw rfl ?_
            refine RW.op rfl rfl (eff_buildT (ys := [_, _, _, _, _]) rfl rfl tz27 tg27 rfl) ?_
            refine RW.store rfl rfl (eff_storeW (v := .t _) (els := [_]) (els' := [_]) rfl rfl ti27 rfl rfl rfl rfl rfl rfl rfl rfl rfl) ?_
            refine RW.op rfl rfl (eff_assign (v := .t _) rfl rfl rfl) ?_
            refine RW.nil ?_
            refine awp_ret ?_
            rw [grant_9 h1 (by omega) hfF (any_conflF h4) (by omega)]
            exact ⟨Or.inr rfl, [_, _], ⟨.cell rfl ti27 (.whole rfl rfl rfl rfl rfl rfl) (.t _), .tmp (.t _), trivial⟩, (by repeat' first | exact trivial | exact Wk.refl _ | exact Wk.sl _ | refine And.intro ?_ ?_ | refine Wk.tupP ?_ | refine Wk.aggP ?_)⟩
          · try simp only [decide_eq_true_eq, decide_eq_false_iff_not, beq_iff_eq, bne_iff_ne, bne_eq_false_iff_eq, beq_eq_false_iff_ne, Bool.not_eq_true, Bool.not_eq_false, Bool.not_eq_true', Bool.not_eq_false', ne_eq] at h5
            refine awp_skip ?_
            refine awp_seq ?_
            refine awp_rd [(some 46, []), (some 47, []), (some 48, []), (some 49, []), (some 50, []), (some 51, []), (some 52, []), (some 53, []), (some 54, []), (some 45, []), (some 55, []), (some 56, []), (some 7, [7]), (none, [7]), (some 8, [])] [[], [0], [], [0, 1, 2], [0, 1, 2, 3], [0, 1, 2, 3, 4], [], [6], [0, 1, 2, 3, 4, 5, 6, 7], [0, 1, 2, 3, 4, 5, 6, 7, 8], [0, 1, 2, 3, 4, 5, 6, 7, 8, 9], [0, 1, 2, 3, 4, 5, 6, 7, 8, 9], [], [0, 1, 2, 3, 4, 5, 6, 7, 8, 9, 10, 12], [0, 1, 2, 3, 4, 5, 6, 7, 8, 9, 10, 11, 12, 13]] tm rfl rfl rfl rfl ?_
            refine RD.op rfl rfl rfl (eff_fieldAddr rfl rfl tf27_0 (by decide) rfl rfl rfl (Nat.le_of_ble_eq_true rfl)) ?_
            refine RD.op rfl rfl rfl (eff_load (y := .t _) rfl rfl ti22 rfl (.one rfl rfl rfl rfl)) ?_
            refine RD.op rfl rfl rfl (eff_move (v := .t _) rfl rfl rfl) ?_
            refine RD.op rfl rfl rfl (eff_indexM (i := ia) rfl rfl te22 rfl rfl (by first | rfl | omega) (by exact List.getElem?_eq_getElem (by omega)) rfl (by decide)) ?_
            refine RD.op rfl rfl rfl (eff_fieldAddrT rfl rfl tf57_1 (by decide) rfl) ?_
            refine RD.op rfl rfl rfl (eff_loadT (ys := [_, _, _]) rfl rfl ti25 rfl rfl rfl) ?_
            refine RD.op rfl rfl rfl (eff_fieldAddr rfl rfl tf44_5 (by decide) rfl rfl rfl (Nat.le_of_ble_eq_true rfl)) ?_
            refine RD.op rfl rfl rfl (eff_loadS (ys := [_, _, _]) rfl rfl ti25 rfl rfl rfl rfl rfl rfl) ?_
            refine RD.op rfl rfl rfl (eff_callT (minusD_ret (b.accs[ia]'hia).p l.h (hN.acc hia) (near_mono (right_near h1.2.2.2.2.2.2) (by omega))) co17 rfl rfl rfl rfl) ?_
            refine RD.op rfl rfl rfl (eff_move (v := .t _) rfl rfl rfl) ?_
            refine RD.op rfl rfl rfl (eff_extract rfl rfl rfl rfl) ?_
            refine RD.op rfl rfl rfl (eff_extract rfl rfl rfl rfl) ?_
            refine RD.new rfl rfl rfl (eff_allocK (k := 3) (id := 7) rfl rfl tz25 rfl rfl) ?_
            refine RD.store rfl rfl rfl (eff_storeW (v := .t _) (els := [_]) (els' := [_]) rfl rfl ti25 rfl rfl rfl rfl rfl rfl rfl rfl rfl) ?_
            refine RD.op rfl rfl rfl (eff_assign (v := .t _) rfl rfl rfl) ?_
            refine RD.nil ?_
            refine awp_seq ?_
            refine awp_seq ?_
            refine awp_rw rfl ?_
            refine RW.op rfl rfl (eff_move (v := .t _) rfl rfl rfl) ?_
            refine RW.op rfl rfl (eff_unop rfl rfl rfl rfl) ?_
            refine RW.nil ?_
            refine awp_cond rfl (fun h6 => ?_) (fun h6 => ?_)
            · try simp only [decide_eq_true_eq, decide_eq_false_iff_not, beq_iff_eq, bne_iff_ne, bne_eq_false_iff_eq, beq_eq_false_iff_ne, Bool.not_eq_true, Bool.not_eq_false, Bool.not_eq_true', Bool.not_eq_false', ne_eq] at h6
              refine awp_seq ?_
              refine awp_rw rfl ?_
              refine RW.op rfl rfl (eff_buildT (ys := [_, _, _, _, _]) rfl rfl tz27 tg27 rfl) ?_
              refine RW.store rfl rfl (eff_storeW (v := .t _) (els := [_]) (els' := [_]) rfl rfl ti27 rfl rfl rfl rfl rfl rfl rfl rfl rfl) ?_
              refine RW.op rfl rfl (eff_assign (v := .t _) rfl rfl rfl) ?_
              refine RW.nil ?_
              refine awp_ret ?_
              rw [grant_40 h1 (by omega) hia hfF (any_conflF h4) (by omega) h6]
              exact ⟨Or.inr rfl, [_, _], ⟨.cell rfl ti27 (.whole rfl rfl rfl rfl rfl rfl) (.t _), .tmp (.t _), trivial⟩, (by repeat' first | exact trivial | exact Wk.refl _ | exact Wk.sl _ | refine And.intro ?_ ?_ | refine Wk.tupP ?_ | refine Wk.aggP ?_)⟩
            · try simp only [decide_eq_true_eq, decide_eq_false_iff_not, beq_iff_eq, bne_iff_ne, bne_eq_false_iff_eq, beq_eq_false_iff_ne, Bool.not_eq_true, Bool.not_eq_false, Bool.not_eq_true', Bool.not_eq_false', ne_eq] at h6
              refine awp_skip ?_
              refine awp_seq ?_
              refine awp_rw rfl ?_
              rw [minus_t h6]
              refine RW.op rfl rfl (eff_load rfl rfl ti27 rfl (.whole rfl rfl rfl rfl rfl rfl)) ?_
              refine RW.new2 rfl rfl (eff_callG (clone54_retG b hB) co54 (fun id => id + 10000) rfl rfl rfl ⟨.t _, trivial⟩ (RenA.aggL (ds := [_, _, _, _, _]) ⟨.own _ _ _ _ rfl rfl, .own _ _ _ _ rfl rfl, .t _, .t _, .t _, trivial⟩) rfl trivial ⟨⟨treeEls_t, .inr rfl⟩, ⟨treeEls_t, .inr rfl⟩, trivial⟩) ?_
              refine RW.store rfl rfl (eff_storeW (v := .agg _) (els := [_]) (els' := [_]) rfl rfl ti27 rfl rfl rfl rfl rfl rfl rfl rfl rfl) ?_
              refine RW.nil ?_
              refine awp_seq ?_
              refine awp_rw rfl ?_
              refine RW.op rfl rfl (eff_fieldAddr rfl rfl tf27_0 (by decide) rfl rfl rfl (Nat.le_of_ble_eq_true rfl)) ?_
              refine RW.op rfl rfl (eff_load (y := .own _ _ _ _) rfl rfl ti22 rfl (.one rfl rfl rfl rfl)) ?_
              refine RW.op rfl rfl (eff_move (v := .t _) rfl rfl rfl) ?_
              refine RW.op rfl rfl (eff_load rfl rfl ti25 rfl (.whole rfl rfl rfl rfl rfl rfl)) ?_
              refine RW.op rfl rfl (eff_indexAddr (i := ia) rfl rfl te22 rfl rfl (by first | rfl | omega) rfl rfl rfl (by omega)) ?_
              refine RW.op rfl rfl (eff_fieldAddr rfl rfl tf57_1 (by decide) rfl rfl rfl (Nat.le_of_ble_eq_true rfl)) ?_
              refine RW.store rfl rfl (eff_storeS (v := .t _) (el := .t (encA (b.accs[ia]'hia))) (ys := [encI (b.accs[ia]'hia).c, encI (sub (b.accs[ia]'hia).p l.h).e, encI (sub (b.accs[ia]'hia).p l.h).b, encI (sub (b.accs[ia]'hia).p l.h).d]) (els := (b.accs.map encA).map .t) (els' := ((setP b.accs ia (sub (b.accs[ia]'hia).p l.h)).map encA).map .t) rfl rfl ti25 rfl rfl rfl rfl rfl rfl (by rw [Nat.zero_add]; exact elA hia) (Nat.le_of_ble_eq_true rfl) rfl (by rw [Nat.zero_add]; exact setP_els hia (sub (b.accs[ia]'hia).p l.h))) ?_
              refine RW.nil ?_
              refine awp_seq ?_
              refine awp_rw rfl ?_
              refine RW.op rfl rfl (eff_fieldAddr rfl rfl tf27_1 (by decide) rfl rfl rfl (Nat.le_of_ble_eq_true rfl)) ?_
              refine RW.op rfl rfl (eff_load (y := .own _ _ _ _) rfl rfl ti23 rfl (.one rfl rfl rfl rfl)) ?_
              refine RW.op rfl rfl (eff_load rfl rfl ti44 rfl (.whole rfl rfl rfl rfl rfl rfl)) ?_
              refine RW.op rfl rfl (eff_callB (ys := [.sl (b.ls.map encL) false, encL l, .fn 56 []]) (caps := []) rfl rfl rfl (.t _) co55 (ResL.cons (Res.ownM (xs := b.ls.map encL) rfl (by simp)) (.refl _) (ResL.cons (.t _) (.refl _) (ResL.cons (.t _) (.refl _) .nil))) (by rw [List.append_nil]; exact search_ret b.ls l (by omega) hil) rfl) ?_
              refine RW.op rfl rfl (eff_move (v := .t _) rfl rfl rfl) ?_
              refine RW.op rfl rfl (eff_extract rfl rfl rfl rfl) ?_
              refine RW.op rfl rfl (eff_extract rfl rfl rfl rfl) ?_
              refine RW.op rfl rfl (eff_assign (v := .t _) rfl rfl rfl) ?_
              refine RW.op rfl rfl (eff_assign (v := .t _) rfl rfl rfl) ?_
              refine RW.nil ?_
              refine awp_seq ?_
              refine awp_rw rfl ?_
              refine RW.op rfl rfl (eff_fieldAddr rfl rfl tf27_1 (by decide) rfl rfl rfl (Nat.le_of_ble_eq_true rfl)) ?_
              refine RW.op rfl rfl (eff_load (y := .own _ _ _ _) rfl rfl ti23 rfl (.one rfl rfl rfl rfl)) ?_
              refine RW.op rfl rfl (eff_move (v := .t _) rfl rfl rfl) ?_
              refine RW.op rfl rfl (eff_load rfl rfl ti44 rfl (.whole rfl rfl rfl rfl rfl rfl)) ?_
              refine RW.new rfl rfl (eff_buildSliceL (id := 79) (els := [.t (.agg [_, _, _, _, _, _, _, _])]) rfl rfl te23 tz44 rfl (by decide) (by decide) rfl rfl rfl rfl) ?_
              refine RW.new2 rfl rfl (eff_callG (insC b.ls 1 (posK (fun z : Lea => z.id) l.id b.ls) l (by omega) (posK_spec _ _ _).1) co58 (fun id => cond (Nat.beq id 0) 12005 79) rfl rfl rfl ⟨.own 0 _ _ _ rfl rfl, .t _, .own 1 _ _ _ rfl rfl, trivial⟩ (.own _ _ _ _ rfl rfl) rfl ⟨⟨rfl, treeEls_t, ⟨_, rfl, Nat.lt_succ_self _⟩⟩, ⟨rfl, treeEls_t (xs := [encL l]), ⟨_, rfl, Nat.lt_succ_self _⟩⟩, trivial⟩ ⟨⟨treeEls_t, .inl rfl⟩, ⟨treeEls_t (xs := [encL l]), .inl rfl⟩, trivial⟩) ?_
              refine RW.op rfl rfl (eff_fieldAddr rfl rfl tf27_1 (by decide) rfl rfl rfl (Nat.le_of_ble_eq_true rfl)) ?_
              refine RW.store rfl rfl (eff_storeA (v := .own _ _ _ _) (ys := [.own 11005 _ 0 _, .own 12005 _ 0 _, .t _, .t _, .t _]) (els := [_]) (els' := [_]) rfl rfl ti23 rfl rfl rfl rfl rfl rfl rfl (Nat.le_of_ble_eq_true rfl) rfl rfl rfl) ?_
              refine RW.nil ?_
              refine awp_seq ?_
              refine awp_rw rfl ?_
              refine RW.op rfl rfl (eff_load rfl rfl ti27 rfl (.whole rfl rfl rfl rfl rfl rfl)) ?_
              refine RW.store rfl rfl (eff_storeW (v := .agg _) (els := [_]) (els' := [_]) rfl rfl ti27 rfl rfl rfl rfl rfl rfl rfl rfl rfl) ?_
              refine RW.op rfl rfl (eff_assign (v := .t _) rfl rfl rfl) ?_
              refine RW.nil ?_
              refine awp_ret ?_
              rw [grant_0 h1 (by omega) hia hfF (any_conflF h4) (by omega) h6, insL_pos]
              exact ⟨Or.inr rfl, [_, _], ⟨.cell rfl ti27 (.whole rfl rfl rfl rfl rfl rfl) (Res.aggP (xs := [_, _, _, _, _]) ⟨Res.ownT (xs := (setP b.accs ia (sub (b.accs[ia]'hia).p l.h)).map encA) rfl rfl rfl (by simp [setP_length]), Res.ownT (xs := (b.ls.take (posK (fun z : Lea => z.id) l.id b.ls) ++ [l] ++ b.ls.drop (posK (fun z : Lea => z.id) l.id b.ls)).map encL) rfl rfl rfl (by simp; have := (posK_spec (fun z : Lea => z.id) l.id b.ls).1; omega), .t _, .t _, .t _, trivial⟩), .tmp (.t _), trivial⟩, (by repeat' first | exact trivial | exact Wk.refl _ | exact Wk.sl _ | refine And.intro ?_ ?_ | refine Wk.tupP ?_ | refine Wk.aggP ?_)⟩

end Go.Tv.C24

end
section
open Go Go.Tv Go.Proofs
namespace Go.Tv.C24
set_option maxRecDepth 20000
set_option maxHeartbeats 2000000
set_option linter.unusedSimpArgs false
set_option linter.unusedVariables false
theorem owned_nat {b : Bank} (h : owned b) {l : Lea} (hl : l ∈ b.ls) : ¬ accIx b.accs l.cu < 0 := fun hn => not_owned hl hn h
theorem close_3 {b : Bank} {n : Int} (h : leaIx b.ls n < 0) : close b n = (zb, 3) := by unfold close; rw [lea_neg h]
theorem close_0 {b : Bank} {n : Int} {i a : Nat} (hi : i < b.ls.length) (ha : a < b.accs.length) (h : leaF b.ls n = some i) (h2 : accF b.accs (b.ls[i]).cu = some a) :
    close b n = (⟨setP b.accs a (plus (b.accs[a]).p (b.ls[i]).h), b.ls.take i ++ b.ls.drop (i + 1), b.sp⟩, 0) := by
  unfold close; rw [h]; simp only; rw [getDL hi]; unfold credit; rw [h2]; simp only; rw [getDA ha]
theorem charge_3 {b : Bank} {n t : Int} {c : Purse} (h : leaIx b.ls n < 0) : charge b n t c = (zb, 3) := by unfold charge; rw [lea_neg h]
theorem charge_32 {b : Bank} {n t : Int} {c : Purse} {i : Nat} (hi : i < b.ls.length) (h : leaF b.ls n = some i) (h2 : t < (b.ls[i]).fr ∨ (b.ls[i]).un ≤ t) : charge b n t c = (zb, 32) := by
  unfold charge; rw [h]; simp only; rw [getDL hi, if_pos h2]
theorem charge_40 {b : Bank} {n t : Int} {c : Purse} {i : Nat} (hi : i < b.ls.length) (h : leaF b.ls n = some i) (h2 : ¬ (t < (b.ls[i]).fr ∨ (b.ls[i]).un ≤ t)) (h3 : ¬ cov (b.ls[i]).h c) : charge b n t c = (zb, 40) := by
  unfold charge; rw [h]; simp only; rw [getDL hi, if_neg h2, if_pos h3]
theorem charge_0 {b : Bank} {n t : Int} {c : Purse} {i : Nat} (hi : i < b.ls.length) (h : leaF b.ls n = some i) (h2 : ¬ (t < (b.ls[i]).fr ∨ (b.ls[i]).un ≤ t)) (h3 : cov (b.ls[i]).h c) :
    charge b n t c = (⟨b.accs, setH b.ls i (sub (b.ls[i]).h c), plus b.sp c⟩, 0) := by
  unfold charge; rw [h]; simp only; rw [getDL hi, if_neg h2, if_neg (fun g => g h3)]
theorem transfer_3 {b : Bank} {f t : Int} {p : Purse} (h : accIx b.accs f < 0 ∨ accIx b.accs t < 0) : transfer b f t p = (zb, 3) := by
  unfold transfer
  split
  · rename_i i k h1 h2
    rcases h with h | h
    · rw [acc_neg h] at h1; cases h1
    · rw [acc_neg h] at h2; cases h2
  · rfl
theorem transfer_40 {b : Bank} {f t : Int} {p : Purse} {i k : Nat} (hi : i < b.accs.length) (h1 : accF b.accs f = some i) (h2 : accF b.accs t = some k) (h3 : ¬ cov (b.accs[i]).p p) : transfer b f t p = (zb, 40) := by
  unfold transfer; rw [h1, h2]; simp only; rw [getDA hi, if_pos h3]
theorem transfer_0 {b : Bank} {f t : Int} {p : Purse} {i k : Nat} (hi : i < b.accs.length) (h1 : accF b.accs f = some i) (h2 : accF b.accs t = some k) (h3 : cov (b.accs[i]).p p) (hk : k < (setP b.accs i (sub (b.accs[i]).p p)).length) :
    transfer b f t p = (⟨setP (setP b.accs i (sub (b.accs[i]).p p)) k (plus ((setP b.accs i (sub (b.accs[i]).p p))[k]).p p), b.ls, b.sp⟩, 0) := by
  unfold transfer; rw [h1, h2]; simp only; rw [getDA hi, if_neg (fun g => g h3), getDA hk]
theorem near_setP {l : List Acc} {i k : Nat} (hi : i < l.length) {q : Purse} {n : Int} (hq : near n q) (hl : ∀ a, a ∈ l → near n a.p) (hk : k < (setP l i q).length) : near n ((setP l i q)[k]).p := by
  rcases setP_mem hi (List.getElem_mem hk) with h | h
  · exact hl _ h
  · rw [h]; exact hq
theorem near_sub {n : Int} {x y : Purse} (h : near n x) (hy : near n y) (c : cov x y) : near n (sub x y) := by
  unfold near cov sub at *; simp only; omega
def stepE (t : Int) (o : Bank) (l : Lea) : Bank := if l.un ≤ t then (close o l.id).1 else o
def expT (b : Bank) (t : Int) (i : Nat) : Bank := (b.ls.take i).foldl (stepE t) b
theorem expT_step {b : Bank} {t : Int} {i : Nat} (h : i < b.ls.length) : expT b t (i + 1) = stepE t (expT b t i) b.ls[i] := by
  unfold expT; rw [take_succ_get h, List.foldl_append]; rfl
theorem stepE_t {t : Int} {o : Bank} {l : Lea} (h : l.un ≤ t) : stepE t o l = (close o l.id).1 := if_pos h
theorem stepE_f {t : Int} {o : Bank} {l : Lea} (h : ¬ l.un ≤ t) : stepE t o l = o := if_neg h
theorem stepE_vb {t : Int} {o : Bank} {l : Lea} (h : VB o) : VB (stepE t o l) := by
  unfold stepE; split
  · exact (close_keeps h _).1
  · exact h
theorem foldE_vb {t : Int} : ∀ (l : List Lea) {o : Bank}, VB o → VB (l.foldl (stepE t) o)
  | [], _, h => h
  | _ :: l, _, h => foldE_vb l (stepE_vb h)
theorem expT_vb {b : Bank} (h : VB b) (t : Int) (i : Nat) : VB (expT b t i) := foldE_vb _ h
theorem expire_T {b : Bank} {t : Int} : expire b t = expT b t b.ls.length := by unfold expT; rw [List.take_length]; rfl
theorem clone54_ret (b : Bank) (hB : BOK b) : Ret Try.prog 54 [encB b] (encB b) :=
  ret_of_retG (clone54_retG b hB) (Res.aggP (xs := [_, _, _, _, _]) ⟨Res.ownT (xs := b.accs.map encA) rfl rfl rfl (by simp), Res.ownT (xs := b.ls.map encL) rfl rfl rfl (by simp), .t _, .t _, .t _, trivial⟩) (.refl _)
theorem copy73_ret (b : Bank) (hB : BOK b) : Ret Try.prog 73 [encB b] (encB b) :=
  ret_of_retG (copy_retG b hB) (Res.aggP (xs := [_, _, _, _, _]) ⟨Res.ownT (xs := b.accs.map encA) rfl rfl rfl (by simp), Res.ownT (xs := b.ls.map encL) rfl rfl rfl (by simp), .t _, .t _, .t _, trivial⟩) (.refl _)
theorem delE (l : List Lea) (i : Nat) : (((l.map encL).take i ++ (l.map encL).drop (i + 1) ++ [z44]).map AV.t) = ((l.take i ++ l.drop (i + 1)).map encL).map AV.t ++ [AV.t z44] := by simp [List.map_take, List.map_drop]

theorem close_ret (b : Bank) (n : Int) (hB : BOK b) (hN : NB b) (hO : owned b) : Ret Try.prog 27 [encB b, encI n] (.tup [encB (close b n).1, encI (close b n).2]) := by
  refine ret_of_awp Try.func27 rfl (Nat.le_of_ble_eq_true rfl) ?_
  refine awp_seq ?_
  refine awp_rw rfl ?_
  refine RW.new rfl rfl (eff_boxK (v := .t _) (k := 5) (id := 2) rfl rfl rfl rfl rfl rfl) ?_
  refine RW.new rfl rfl (eff_allocK (k := 5) (id := 4) rfl rfl tz27 rfl rfl) ?_
  refine RW.op rfl rfl (eff_assign (v := .t _) rfl rfl rfl) ?_
  refine RW.nil ?_
  refine awp_seq ?_
  refine awp_rw rfl ?_
  refine RW.op rfl rfl (eff_fieldAddr rfl rfl tf27_1 (by decide) rfl rfl rfl (Nat.le_of_ble_eq_true rfl)) ?_
  refine RW.op rfl rfl (eff_load (y := .t _) rfl rfl ti23 rfl (.one rfl rfl rfl rfl)) ?_
  refine RW.op rfl rfl (eff_move (v := .t _) rfl rfl rfl) ?_
  refine RW.op rfl rfl (eff_callT (findL_ret b.ls n hB.2) co52 rfl rfl rfl rfl) ?_
  refine RW.op rfl rfl (eff_assign (v := .t _) rfl rfl rfl) ?_
  refine RW.nil ?_
  refine awp_seq ?_
  refine awp_seq ?_
  refine awp_rw rfl ?_
  refine RW.op rfl rfl (eff_move (v := .t _) rfl rfl rfl) ?_
  refine RW.op rfl rfl (eff_iop rfl rfl rfl rfl rfl) ?_
  refine RW.nil ?_
  refine awp_cond rfl (fun h1 => ?_) (fun h1 => ?_)
  · try simp only [decide_eq_true_eq, decide_eq_false_iff_not, beq_iff_eq, bne_iff_ne, bne_eq_false_iff_eq, beq_eq_false_iff_ne, Bool.not_eq_true, Bool.not_eq_false, Bool.not_eq_true', Bool.not_eq_false', ne_eq] at h1
    refine awp_seq ?_
    refine awp_rw rfl ?_
    refine RW.op rfl rfl (eff_buildT (ys := [_, _, _, _, _]) rfl rfl tz27 tg27 rfl) ?_
    refine RW.store rfl rfl (eff_storeW (v := .t _) (els := [_]) (els' := [_]) rfl rfl ti27 rfl rfl rfl rfl rfl rfl rfl rfl rfl) ?_
    refine RW.op rfl rfl (eff_assign (v := .t _) rfl rfl rfl) ?_
    refine RW.nil ?_
    refine awp_ret ?_
    rw [close_3 h1]
    exact ⟨Or.inr rfl, [_, _], ⟨.cell rfl ti27 (.whole rfl rfl rfl rfl rfl rfl) (.t _), .tmp (.t _), trivial⟩, (by repeat' first | exact trivial | exact Wk.refl _ | exact Wk.sl _ | refine And.intro ?_ ?_ | refine Wk.tupP ?_ | refine Wk.aggP ?_)⟩
  · try simp only [decide_eq_true_eq, decide_eq_false_iff_not, beq_iff_eq, bne_iff_ne, bne_eq_false_iff_eq, beq_eq_false_iff_ne, Bool.not_eq_true, Bool.not_eq_false, Bool.not_eq_true', Bool.not_eq_false', ne_eq] at h1
    refine awp_skip ?_
    refine awp_seq ?_
    refine awp_rw rfl ?_
    obtain ⟨il, hil, hfx, hfF⟩ := lea_nat h1
    rw [hfx]
    have hL := hB.1
    have hL2 := hB.2
    obtain ⟨ia, hia, hax, haF⟩ := acc_nat (owned_nat hO (List.getElem_mem hil))
    refine RW.op rfl rfl (eff_load rfl rfl ti27 rfl (.whole rfl rfl rfl rfl rfl rfl)) ?_
    refine RW.new2 rfl rfl (eff_callG (clone54_retG b hB) co54 (fun id => id + 10000) rfl rfl rfl ⟨.t _, trivial⟩ (RenA.aggL (ds := [_, _, _, _, _]) ⟨.own _ _ _ _ rfl rfl, .own _ _ _ _ rfl rfl, .t _, .t _, .t _, trivial⟩) rfl trivial ⟨⟨treeEls_t, .inr rfl⟩, ⟨treeEls_t, .inr rfl⟩, trivial⟩) ?_
    refine RW.store rfl rfl (eff_storeW (v := .agg _) (els := [_]) (els' := [_]) rfl rfl ti27 rfl rfl rfl rfl rfl rfl rfl rfl rfl) ?_
    refine RW.nil ?_
    refine awp_seq ?_
    refine awp_rd [(some 17, []), (some 18, []), (some 19, []), (some 20, []), (some 21, []), (some 22, []), (some 23, []), (some 24, []), (some 25, []), (some 7, [])] [[], [0], [], [2], [], [2, 3, 4], [2, 3, 4, 5], [2, 3, 4, 5, 6], [0, 1, 2, 3, 4, 5, 6, 7], [0, 1, 2, 3, 4, 5, 6, 7, 8]] tm rfl rfl rfl rfl ?_
    refine RD.op rfl rfl rfl (eff_fieldAddr rfl rfl tf27_0 (by decide) rfl rfl rfl (Nat.le_of_ble_eq_true rfl)) ?_
    refine RD.op rfl rfl rfl (eff_load (y := .own _ _ _ _) rfl rfl ti22 rfl (.one rfl rfl rfl rfl)) ?_
    refine RD.op rfl rfl rfl (eff_fieldAddr rfl rfl tf27_1 (by decide) rfl rfl rfl (Nat.le_of_ble_eq_true rfl)) ?_
    refine RD.op rfl rfl rfl (eff_load (y := .own _ _ _ _) rfl rfl ti23 rfl (.one rfl rfl rfl rfl)) ?_
    refine RD.op rfl rfl rfl (eff_move (v := .t _) rfl rfl rfl) ?_
    refine RD.op rfl rfl rfl (eff_indexAddr (i := il) rfl rfl te23 rfl rfl (by first | rfl | omega) rfl rfl rfl (by omega)) ?_
    refine RD.op rfl rfl rfl (eff_fieldAddr rfl rfl tf44_1 (by decide) rfl rfl rfl (Nat.le_of_ble_eq_true rfl)) ?_
    refine RD.op rfl rfl rfl (eff_load (y := .t (encI (b.ls[il]'hil).cu)) rfl rfl ti3 rfl (.one (el := .t (encL (b.ls[il]'hil))) rfl rfl (by rw [Nat.zero_add]; exact elL hil) rfl)) ?_
    refine RD.op rfl rfl rfl (eff_callB (ys := [.sl (b.accs.map encA) false, encI (b.ls[il]'hil).cu, .fn 36 []]) (caps := []) rfl rfl rfl (.t _) co40 (ResL.cons (Res.ownM (xs := b.accs.map encA) rfl (by simp)) (.refl _) (ResL.cons (.t _) (.refl _) (ResL.cons (.t _) (.refl _) .nil))) (by rw [List.append_nil]; exact findA_ret b.accs (b.ls[il]'hil).cu hB.1) rfl) ?_
    refine RD.op rfl rfl rfl (eff_assign (v := .t _) rfl rfl rfl) ?_
    refine RD.nil ?_
    rw [hax]
    refine awp_seq ?_
    refine awp_rd [(some 26, []), (some 27, []), (some 28, []), (some 29, []), (some 30, []), (some 31, []), (some 32, []), (some 33, []), (some 34, []), (some 35, []), (some 36, []), (some 37, []), (some 38, []), (some 39, []), (some 40, []), (some 41, []), (some 42, []), (some 43, []), (none, [11005])] [[], [0], [], [], [3], [], [3, 4, 5], [3, 4, 5, 6], [3, 4, 5, 6, 7], [], [9], [], [9, 10, 11], [9, 10, 11, 12], [9, 10, 11, 12, 13], [3, 4, 5, 6, 7, 8, 9, 10, 11, 12, 13, 14], [0, 1, 2, 3, 4, 5, 6, 7, 8, 9, 10, 11, 12, 13, 14, 15], [0, 1, 2, 3, 4, 5, 6, 7, 8, 9, 10, 11, 12, 13, 14, 15, 16], [0, 1, 2, 3, 4, 5, 6, 7, 8, 9, 10, 11, 12, 13, 14, 15, 16, 17]] tm rfl rfl rfl rfl ?_
    refine RD.op rfl rfl rfl (eff_fieldAddr rfl rfl tf27_0 (by decide) rfl rfl rfl (Nat.le_of_ble_eq_true rfl)) ?_
    refine RD.op rfl rfl rfl (eff_load (y := .own _ _ _ _) rfl rfl ti22 rfl (.one rfl rfl rfl rfl)) ?_
    refine RD.op rfl rfl rfl (eff_move (v := .t _) rfl rfl rfl) ?_
    refine RD.op rfl rfl rfl (eff_fieldAddr rfl rfl tf27_0 (by decide) rfl rfl rfl (Nat.le_of_ble_eq_true rfl)) ?_
    refine RD.op rfl rfl rfl (eff_load (y := .own _ _ _ _) rfl rfl ti22 rfl (.one rfl rfl rfl rfl)) ?_
    refine RD.op rfl rfl rfl (eff_move (v := .t _) rfl rfl rfl) ?_
    refine RD.op rfl rfl rfl (eff_indexAddr (i := ia) rfl rfl te22 rfl rfl (by first | rfl | omega) rfl rfl rfl (by omega)) ?_
    refine RD.op rfl rfl rfl (eff_fieldAddr rfl rfl tf57_1 (by decide) rfl rfl rfl (Nat.le_of_ble_eq_true rfl)) ?_
    refine RD.op rfl rfl rfl (eff_loadS (el := .t (encA (b.accs[ia]'hia))) (ys := [encI (b.accs[ia]'hia).p.e, encI (b.accs[ia]'hia).p.b, encI (b.accs[ia]'hia).p.d]) rfl rfl ti25 rfl rfl rfl (by rw [Nat.zero_add]; exact elA hia) rfl rfl) ?_
    refine RD.op rfl rfl rfl (eff_fieldAddr rfl rfl tf27_1 (by decide) rfl rfl rfl (Nat.le_of_ble_eq_true rfl)) ?_
    refine RD.op rfl rfl rfl (eff_load (y := .own _ _ _ _) rfl rfl ti23 rfl (.one rfl rfl rfl rfl)) ?_
    refine RD.op rfl rfl rfl (eff_move (v := .t _) rfl rfl rfl) ?_
    refine RD.op rfl rfl rfl (eff_indexAddr (i := il) rfl rfl te23 rfl rfl (by first | rfl | omega) rfl rfl rfl (by omega)) ?_
    refine RD.op rfl rfl rfl (eff_fieldAddr rfl rfl tf44_5 (by decide) rfl rfl rfl (Nat.le_of_ble_eq_true rfl)) ?_
    refine RD.op rfl rfl rfl (eff_loadS (el := .t (encL (b.ls[il]'hil))) (ys := [encI (b.ls[il]'hil).h.e, encI (b.ls[il]'hil).h.b, encI (b.ls[il]'hil).h.d]) rfl rfl ti25 rfl rfl rfl (by rw [Nat.zero_add]; exact elL hil) rfl rfl) ?_
    refine RD.op rfl rfl rfl (eff_callT (plus_ret (b.accs[ia]'hia).p (b.ls[il]'hil).h (hN.acc hia) (hN.lea hil)) co19 rfl rfl rfl rfl) ?_
    refine RD.op rfl rfl rfl (eff_indexAddr (i := ia) rfl rfl te22 rfl rfl (by first | rfl | omega) rfl rfl rfl (by omega)) ?_
    refine RD.op rfl rfl rfl (eff_fieldAddr rfl rfl tf57_1 (by decide) rfl rfl rfl (Nat.le_of_ble_eq_true rfl)) ?_
    refine RD.store rfl rfl rfl (eff_storeS (v := .t _) (el := .t (encA (b.accs[ia]'hia))) (ys := [encI (b.accs[ia]'hia).c, encI (plus (b.accs[ia]'hia).p (b.ls[il]'hil).h).e, encI (plus (b.accs[ia]'hia).p (b.ls[il]'hil).h).b, encI (plus (b.accs[ia]'hia).p (b.ls[il]'hil).h).d]) (els := (b.accs.map encA).map .t) (els' := ((setP b.accs ia (plus (b.accs[ia]'hia).p (b.ls[il]'hil).h)).map encA).map .t) rfl rfl ti25 rfl rfl rfl rfl rfl rfl (by rw [Nat.zero_add]; exact elA hia) (Nat.le_of_ble_eq_true rfl) rfl (by rw [Nat.zero_add]; exact setP_els hia (plus (b.accs[ia]'hia).p (b.ls[il]'hil).h))) ?_
    refine RD.nil ?_
    refine awp_seq ?_
    refine awp_rw rfl ?_
    refine RW.op rfl rfl (eff_fieldAddr rfl rfl tf27_1 (by decide) rfl rfl rfl (Nat.le_of_ble_eq_true rfl)) ?_
    refine RW.op rfl rfl (eff_load (y := .own _ _ _ _) rfl rfl ti23 rfl (.one rfl rfl rfl rfl)) ?_
    refine RW.op rfl rfl (eff_move (v := .t _) rfl rfl rfl) ?_
    refine RW.op rfl rfl (eff_move (v := .t _) rfl rfl rfl) ?_
    refine RW.op rfl rfl (eff_iop rfl rfl rfl rfl (iadd (by omega))) ?_
    refine RW.new rfl rfl (eff_callG (delete59M b.ls 1 il (by omega) hil) co59 (fun id => id + 12005) rfl rfl rfl ⟨.own 0 _ _ _ rfl rfl, .t _, .t _, trivial⟩ (.own _ _ _ _ rfl rfl) rfl ⟨⟨rfl, treeEls_t, ⟨_, rfl, Nat.lt_succ_self _⟩⟩, trivial⟩ ⟨⟨treeEls_t, .inl rfl⟩, trivial⟩) ?_
    refine RW.op rfl rfl (eff_fieldAddr rfl rfl tf27_1 (by decide) rfl rfl rfl (Nat.le_of_ble_eq_true rfl)) ?_
    refine RW.store rfl rfl (eff_storeA (v := .own _ _ _ _) (ys := [.own 11005 _ 0 _, .own 12005 _ 0 _, .t _, .t _, .t _]) (els := [_]) (els' := [_]) rfl rfl ti23 rfl rfl rfl rfl rfl rfl rfl (Nat.le_of_ble_eq_true rfl) rfl rfl rfl) ?_
    refine RW.nil ?_
    refine awp_seq ?_
    refine awp_rw rfl ?_
    refine RW.op rfl rfl (eff_load rfl rfl ti27 rfl (.whole rfl rfl rfl rfl rfl rfl)) ?_
    refine RW.store rfl rfl (eff_storeW (v := .agg _) (els := [_]) (els' := [_]) rfl rfl ti27 rfl rfl rfl rfl rfl rfl rfl rfl rfl) ?_
    refine RW.op rfl rfl (eff_assign (v := .t _) rfl rfl rfl) ?_
    refine RW.nil ?_
    refine awp_ret ?_
    rw [close_0 hil hia hfF haF]
    exact ⟨Or.inr rfl, [_, _], ⟨.cell rfl ti27 (.whole rfl rfl rfl rfl rfl rfl) (Res.aggP (xs := [_, _, _, _, _]) ⟨Res.ownT (xs := (setP b.accs ia (plus (b.accs[ia]'hia).p (b.ls[il]'hil).h)).map encA) rfl rfl rfl (by simp [setP_length]), Res.ownPre (xs := (b.ls.take il ++ b.ls.drop (il + 1)).map encL) [AV.t z44] rfl rfl (delE _ _) (by simp; omega), .t _, .t _, .t _, trivial⟩), .tmp (.t _), trivial⟩, (by repeat' first | exact trivial | exact Wk.refl _ | exact Wk.sl _ | refine And.intro ?_ ?_ | refine Wk.tupP ?_ | refine Wk.aggP ?_)⟩

theorem charge_ret (b : Bank) (n t : Int) (c : Purse) (hB : BOK b) (hN : NB b) (hc : near 1000000000000000 c) : Ret Try.prog 28 [encB b, encI n, encI t, encP c] (.tup [encB (charge b n t c).1, encI (charge b n t c).2]) := by
  refine ret_of_awp Try.func28 rfl (Nat.le_of_ble_eq_true rfl) ?_
  refine awp_seq ?_
  refine awp_rw rfl ?_
  refine RW.new rfl rfl (eff_boxK (v := .t _) (k := 5) (id := 4) rfl rfl rfl rfl rfl rfl) ?_
  refine RW.new rfl rfl (eff_boxK (v := .t _) (k := 3) (id := 7) rfl rfl rfl rfl rfl rfl) ?_
  refine RW.new rfl rfl (eff_allocK (k := 5) (id := 8) rfl rfl tz27 rfl rfl) ?_
  refine RW.op rfl rfl (eff_assign (v := .t _) rfl rfl rfl) ?_
  refine RW.nil ?_
  refine awp_seq ?_
  refine awp_rw rfl ?_
  refine RW.op rfl rfl (eff_fieldAddr rfl rfl tf27_1 (by decide) rfl rfl rfl (Nat.le_of_ble_eq_true rfl)) ?_
  refine RW.op rfl rfl (eff_load (y := .t _) rfl rfl ti23 rfl (.one rfl rfl rfl rfl)) ?_
  refine RW.op rfl rfl (eff_move (v := .t _) rfl rfl rfl) ?_
  refine RW.op rfl rfl (eff_callT (findL_ret b.ls n hB.2) co52 rfl rfl rfl rfl) ?_
  refine RW.op rfl rfl (eff_assign (v := .t _) rfl rfl rfl) ?_
  refine RW.nil ?_
  refine awp_seq ?_
  refine awp_seq ?_
  refine awp_rw rfl ?_
  refine RW.op rfl rfl (eff_move (v := .t _) rfl rfl rfl) ?_
  refine RW.op rfl rfl (eff_iop rfl rfl rfl rfl rfl) ?_
  refine RW.nil ?_
  refine awp_cond rfl (fun h1 => ?_) (fun h1 => ?_)
  · try simp only [decide_eq_true_eq, decide_eq_false_iff_not, beq_iff_eq, bne_iff_ne, bne_eq_false_iff_eq, beq_eq_false_iff_ne, Bool.not_eq_true, Bool.not_eq_false, Bool.not_eq_true', Bool.not_eq_false', ne_eq] at h1
    refine awp_seq ?_
    refine awp_rw rfl ?_
    refine RW.op rfl rfl (eff_buildT (ys := [_, _, _, _, _]) rfl rfl tz27 tg27 rfl) ?_
    refine RW.store rfl rfl (eff_storeW (v := .t _) (els := [_]) (els' := [_]) rfl rfl ti27 rfl rfl rfl rfl rfl rfl rfl rfl rfl) ?_
    refine RW.op rfl rfl (eff_assign (v := .t _) rfl rfl rfl) ?_
    refine RW.nil ?_
    refine awp_ret ?_
    rw [charge_3 h1]
    exact ⟨Or.inr rfl, [_, _], ⟨.cell rfl ti27 (.whole rfl rfl rfl rfl rfl rfl) (.t _), .tmp (.t _), trivial⟩, (by repeat' first | exact trivial | exact Wk.refl _ | exact Wk.sl _ | refine And.intro ?_ ?_ | refine Wk.tupP ?_ | refine Wk.aggP ?_)⟩
  · try simp only [decide_eq_true_eq, decide_eq_false_iff_not, beq_iff_eq, bne_iff_ne, bne_eq_false_iff_eq, beq_eq_false_iff_ne, Bool.not_eq_true, Bool.not_eq_false, Bool.not_eq_true', Bool.not_eq_false', ne_eq] at h1
    refine awp_skip ?_
    refine awp_seq ?_
    refine awp_seq ?_
    refine awp_rw rfl ?_
    obtain ⟨il, hil, hfx, hfF⟩ := lea_nat h1
    rw [hfx]
    have hL := hB.1
    have hL2 := hB.2
    refine RW.op rfl rfl (eff_fieldAddr rfl rfl tf27_1 (by decide) rfl rfl rfl (Nat.le_of_ble_eq_true rfl)) ?_
    refine RW.op rfl rfl (eff_load (y := .t _) rfl rfl ti23 rfl (.one rfl rfl rfl rfl)) ?_
    refine RW.op rfl rfl (eff_move (v := .t _) rfl rfl rfl) ?_
    refine RW.op rfl rfl (eff_indexM (i := il) rfl rfl te23 rfl rfl (by first | rfl | omega) (by exact List.getElem?_eq_getElem (by omega)) rfl (by decide)) ?_
    refine RW.op rfl rfl (eff_loadW rfl rfl ti44 rfl rfl rfl) ?_
    refine RW.new rfl rfl (eff_allocK (k := 8) (id := 11) rfl rfl tz44 rfl rfl) ?_
    refine RW.store rfl rfl (eff_storeW (v := .t _) (els := [_]) (els' := [_]) rfl rfl ti44 rfl rfl rfl rfl rfl rfl rfl rfl rfl) ?_
    refine RW.nil ?_
    refine awp_seq ?_
    refine awp_rw rfl ?_
    refine RW.op rfl rfl (eff_move (v := .t _) rfl rfl rfl) ?_
    refine RW.op rfl rfl (eff_fieldAddr rfl rfl tf44_3 (by decide) rfl rfl rfl (Nat.le_of_ble_eq_true rfl)) ?_
    refine RW.op rfl rfl (eff_load (y := .t _) rfl rfl ti3 rfl (.one rfl rfl rfl rfl)) ?_
    refine RW.op rfl rfl (eff_iop rfl rfl rfl rfl rfl) ?_
    refine RW.op rfl rfl (eff_move (v := .t _) rfl rfl rfl) ?_
    refine RW.split 30 rfl (fun h2 => ?_) (fun h2 => ?_)
    · try simp only [decide_eq_true_eq, decide_eq_false_iff_not, beq_iff_eq, bne_iff_ne, bne_eq_false_iff_eq, beq_eq_false_iff_ne, Bool.not_eq_true, Bool.not_eq_false, Bool.not_eq_true', Bool.not_eq_false', ne_eq] at h2
      refine RW.gskip rfl rfl rfl rfl rfl (by decide) ?_
      refine RW.gskip rfl rfl rfl rfl rfl (by decide) ?_
      refine RW.gskip rfl rfl rfl rfl rfl (by decide) ?_
      refine RW.gskip rfl rfl rfl rfl rfl (by decide) ?_
      refine RW.op rfl rfl (eff_pick (v := .t _) rfl rfl rfl rfl) ?_
      refine RW.nil ?_
      refine awp_cond rfl (fun _ => ?_) (fun h => nomatch h)
      refine awp_seq ?_
      refine awp_rw rfl ?_
      refine RW.op rfl rfl (eff_buildT (ys := [_, _, _, _, _]) rfl rfl tz27 tg27 rfl) ?_
      refine RW.store rfl rfl (eff_storeW (v := .t _) (els := [_]) (els' := [_]) rfl rfl ti27 rfl rfl rfl rfl rfl rfl rfl rfl rfl) ?_
      refine RW.op rfl rfl (eff_assign (v := .t _) rfl rfl rfl) ?_
      refine RW.nil ?_
      refine awp_ret ?_
      rw [charge_32 hil hfF (by omega)]
      exact ⟨Or.inr rfl, [_, _], ⟨.cell rfl ti27 (.whole rfl rfl rfl rfl rfl rfl) (.t _), .tmp (.t _), trivial⟩, (by repeat' first | exact trivial | exact Wk.refl _ | exact Wk.sl _ | refine And.intro ?_ ?_ | refine Wk.tupP ?_ | refine Wk.aggP ?_)⟩
    · try simp only [decide_eq_true_eq, decide_eq_false_iff_not, beq_iff_eq, bne_iff_ne, bne_eq_false_iff_eq, beq_eq_false_iff_ne, Bool.not_eq_true, Bool.not_eq_false, Bool.not_eq_true', Bool.not_eq_false', ne_eq] at h2
      refine RW.gop rfl rfl rfl rfl rfl rfl (eff_move (v := .t _) rfl rfl rfl) ?_
      refine RW.gop rfl rfl rfl rfl rfl rfl (eff_fieldAddr rfl rfl tf44_4 (by decide) rfl rfl rfl (Nat.le_of_ble_eq_true rfl)) ?_
      refine RW.gop rfl rfl rfl rfl rfl rfl (eff_load (y := .t _) rfl rfl ti3 rfl (.one rfl rfl rfl rfl)) ?_
      refine RW.gop rfl rfl rfl rfl rfl rfl (eff_iop rfl rfl rfl rfl rfl) ?_
      refine RW.op rfl rfl (eff_pick (v := .t _) rfl rfl rfl rfl) ?_
      refine RW.nil ?_
      refine awp_cond rfl (fun h3 => ?_) (fun h3 => ?_)
      · try simp only [decide_eq_true_eq, decide_eq_false_iff_not, beq_iff_eq, bne_iff_ne, bne_eq_false_iff_eq, beq_eq_false_iff_ne, Bool.not_eq_true, Bool.not_eq_false, Bool.not_eq_true', Bool.not_eq_false', ne_eq] at h3
        refine awp_seq ?_
        refine awp_rw rfl ?_
        refine RW.op rfl rfl (eff_buildT (ys := [_, _, _, _, _]) rfl rfl tz27 tg27 rfl) ?_
        refine RW.store rfl rfl (eff_storeW (v := .t _) (els := [_]) (els' := [_]) rfl rfl ti27 rfl rfl rfl rfl rfl rfl rfl rfl rfl) ?_
        refine RW.op rfl rfl (eff_assign (v := .t _) rfl rfl rfl) ?_
        refine RW.nil ?_
        refine awp_ret ?_
        rw [charge_32 hil hfF (by omega)]
        exact ⟨Or.inr rfl, [_, _], ⟨.cell rfl ti27 (.whole rfl rfl rfl rfl rfl rfl) (.t _), .tmp (.t _), trivial⟩, (by repeat' first | exact trivial | exact Wk.refl _ | exact Wk.sl _ | refine And.intro ?_ ?_ | refine Wk.tupP ?_ | refine Wk.aggP ?_)⟩
      · try simp only [decide_eq_true_eq, decide_eq_false_iff_not, beq_iff_eq, bne_iff_ne, bne_eq_false_iff_eq, beq_eq_false_iff_ne, Bool.not_eq_true, Bool.not_eq_false, Bool.not_eq_true', Bool.not_eq_false', ne_eq] at h3
        refine awp_skip ?_
        refine awp_seq ?_
        refine awp_rd [(some 38, []), (some 39, []), (some 40, []), (some 41, []), (some 42, []), (some 43, []), (some 44, []), (some 45, []), (some 37, []), (some 46, []), (some 47, []), (some 12, [12]), (none, [12]), (some 13, [])] [[], [0], [], [0, 1, 2], [0, 1, 2, 3], [0, 1, 2, 3, 4], [], [0, 1, 2, 3, 4, 5, 6], [0, 1, 2, 3, 4, 5, 6, 7], [0, 1, 2, 3, 4, 5, 6, 7, 8], [0, 1, 2, 3, 4, 5, 6, 7, 8], [], [0, 1, 2, 3, 4, 5, 6, 7, 8, 9, 11], [0, 1, 2, 3, 4, 5, 6, 7, 8, 9, 10, 11, 12]] tm rfl rfl rfl rfl ?_
        refine RD.op rfl rfl rfl (eff_fieldAddr rfl rfl tf27_1 (by decide) rfl rfl rfl (Nat.le_of_ble_eq_true rfl)) ?_
        refine RD.op rfl rfl rfl (eff_load (y := .t _) rfl rfl ti23 rfl (.one rfl rfl rfl rfl)) ?_
        refine RD.op rfl rfl rfl (eff_move (v := .t _) rfl rfl rfl) ?_
        refine RD.op rfl rfl rfl (eff_indexM (i := il) rfl rfl te23 rfl rfl (by first | rfl | omega) (by exact List.getElem?_eq_getElem (by omega)) rfl (by decide)) ?_
        refine RD.op rfl rfl rfl (eff_fieldAddrT rfl rfl tf44_5 (by decide) rfl) ?_
        refine RD.op rfl rfl rfl (eff_loadT (ys := [_, _, _]) rfl rfl ti25 rfl rfl rfl) ?_
        refine RD.op rfl rfl rfl (eff_load rfl rfl ti25 rfl (.whole rfl rfl rfl rfl rfl rfl)) ?_
        refine RD.op rfl rfl rfl (eff_callT (minusD_ret (b.ls[il]'hil).h c (hN.lea hil) hc) co17 rfl rfl rfl rfl) ?_
        refine RD.op rfl rfl rfl (eff_move (v := .t _) rfl rfl rfl) ?_
        refine RD.op rfl rfl rfl (eff_extract rfl rfl rfl rfl) ?_
        refine RD.op rfl rfl rfl (eff_extract rfl rfl rfl rfl) ?_
        refine RD.new rfl rfl rfl (eff_allocK (k := 3) (id := 12) rfl rfl tz25 rfl rfl) ?_
        refine RD.store rfl rfl rfl (eff_storeW (v := .t _) (els := [_]) (els' := [_]) rfl rfl ti25 rfl rfl rfl rfl rfl rfl rfl rfl rfl) ?_
        refine RD.op rfl rfl rfl (eff_assign (v := .t _) rfl rfl rfl) ?_
        refine RD.nil ?_
        refine awp_seq ?_
        refine awp_seq ?_
        refine awp_rw rfl ?_
        refine RW.op rfl rfl (eff_move (v := .t _) rfl rfl rfl) ?_
        refine RW.op rfl rfl (eff_unop rfl rfl rfl rfl) ?_
        refine RW.nil ?_
        refine awp_cond rfl (fun h4 => ?_) (fun h4 => ?_)
        · try simp only [decide_eq_true_eq, decide_eq_false_iff_not, beq_iff_eq, bne_iff_ne, bne_eq_false_iff_eq, beq_eq_false_iff_ne, Bool.not_eq_true, Bool.not_eq_false, Bool.not_eq_true', Bool.not_eq_false', ne_eq] at h4
          refine awp_seq ?_
          refine awp_rw rfl ?_
          refine RW.op rfl rfl (eff_buildT (ys := [_, _, _, _, _]) rfl rfl tz27 tg27 rfl) ?_
          refine RW.store rfl rfl (eff_storeW (v := .t _) (els := [_]) (els' := [_]) rfl rfl ti27 rfl rfl rfl rfl rfl rfl rfl rfl rfl) ?_
          refine RW.op rfl rfl (eff_assign (v := .t _) rfl rfl rfl) ?_
          refine RW.nil ?_
          refine awp_ret ?_
          rw [charge_40 hil hfF (by omega) h4]
          exact ⟨Or.inr rfl, [_, _], ⟨.cell rfl ti27 (.whole rfl rfl rfl rfl rfl rfl) (.t _), .tmp (.t _), trivial⟩, (by repeat' first | exact trivial | exact Wk.refl _ | exact Wk.sl _ | refine And.intro ?_ ?_ | refine Wk.tupP ?_ | refine Wk.aggP ?_)⟩
        · try simp only [decide_eq_true_eq, decide_eq_false_iff_not, beq_iff_eq, bne_iff_ne, bne_eq_false_iff_eq, beq_eq_false_iff_ne, Bool.not_eq_true, Bool.not_eq_false, Bool.not_eq_true', Bool.not_eq_false', ne_eq] at h4
          refine awp_skip ?_
          refine awp_seq ?_
          refine awp_rw rfl ?_
          rw [minus_t h4]
          refine RW.op rfl rfl (eff_load rfl rfl ti27 rfl (.whole rfl rfl rfl rfl rfl rfl)) ?_
          refine RW.new2 rfl rfl (eff_callG (clone54_retG b hB) co54 (fun id => id + 10000) rfl rfl rfl ⟨.t _, trivial⟩ (RenA.aggL (ds := [_, _, _, _, _]) ⟨.own _ _ _ _ rfl rfl, .own _ _ _ _ rfl rfl, .t _, .t _, .t _, trivial⟩) rfl trivial ⟨⟨treeEls_t, .inr rfl⟩, ⟨treeEls_t, .inr rfl⟩, trivial⟩) ?_
          refine RW.store rfl rfl (eff_storeW (v := .agg _) (els := [_]) (els' := [_]) rfl rfl ti27 rfl rfl rfl rfl rfl rfl rfl rfl rfl) ?_
          refine RW.nil ?_
          refine awp_seq ?_
          refine awp_rw rfl ?_
          refine RW.op rfl rfl (eff_fieldAddr rfl rfl tf27_1 (by decide) rfl rfl rfl (Nat.le_of_ble_eq_true rfl)) ?_
          refine RW.op rfl rfl (eff_load (y := .own _ _ _ _) rfl rfl ti23 rfl (.one rfl rfl rfl rfl)) ?_
          refine RW.op rfl rfl (eff_move (v := .t _) rfl rfl rfl) ?_
          refine RW.op rfl rfl (eff_load rfl rfl ti25 rfl (.whole rfl rfl rfl rfl rfl rfl)) ?_
          refine RW.op rfl rfl (eff_indexAddr (i := il) rfl rfl te23 rfl rfl (by first | rfl | omega) rfl rfl rfl (by omega)) ?_
          refine RW.op rfl rfl (eff_fieldAddr rfl rfl tf44_5 (by decide) rfl rfl rfl (Nat.le_of_ble_eq_true rfl)) ?_
          refine RW.store rfl rfl (eff_storeS (v := .t _) (el := .t (encL (b.ls[il]'hil))) (ys := [encI (b.ls[il]'hil).id, encI (b.ls[il]'hil).cu, encI (b.ls[il]'hil).dev, encI (b.ls[il]'hil).fr, encI (b.ls[il]'hil).un, encI (sub (b.ls[il]'hil).h c).e, encI (sub (b.ls[il]'hil).h c).b, encI (sub (b.ls[il]'hil).h c).d]) (els := (b.ls.map encL).map .t) (els' := ((setH b.ls il (sub (b.ls[il]'hil).h c)).map encL).map .t) rfl rfl ti25 rfl rfl rfl rfl rfl rfl (by rw [Nat.zero_add]; exact elL hil) (Nat.le_of_ble_eq_true rfl) rfl (by rw [Nat.zero_add]; exact setH_els hil (sub (b.ls[il]'hil).h c))) ?_
          refine RW.nil ?_
          refine awp_seq ?_
          refine awp_rw rfl ?_
          refine RW.op rfl rfl (eff_fieldAddr rfl rfl tf27_2 (by decide) rfl rfl rfl (Nat.le_of_ble_eq_true rfl)) ?_
          refine RW.op rfl rfl (eff_loadS (ys := [_, _, _]) rfl rfl ti25 rfl rfl rfl rfl rfl rfl) ?_
          refine RW.op rfl rfl (eff_load rfl rfl ti25 rfl (.whole rfl rfl rfl rfl rfl rfl)) ?_
          refine RW.op rfl rfl (eff_callT (plus_ret b.sp c (near_mono hN.1 (by omega)) hc) co19 rfl rfl rfl rfl) ?_
          refine RW.op rfl rfl (eff_fieldAddr rfl rfl tf27_2 (by decide) rfl rfl rfl (Nat.le_of_ble_eq_true rfl)) ?_
          refine RW.store rfl rfl (eff_storeA (v := .t _) (ys := [.own 11005 _ 0 _, .own 12005 _ 0 _, .t _, .t _, .t _]) (els := [_]) (els' := [_]) rfl rfl ti25 rfl rfl rfl rfl rfl rfl rfl (Nat.le_of_ble_eq_true rfl) rfl rfl rfl) ?_
          refine RW.nil ?_
          refine awp_seq ?_
          refine awp_rw rfl ?_
          refine RW.op rfl rfl (eff_load rfl rfl ti27 rfl (.whole rfl rfl rfl rfl rfl rfl)) ?_
          refine RW.store rfl rfl (eff_storeW (v := .agg _) (els := [_]) (els' := [_]) rfl rfl ti27 rfl rfl rfl rfl rfl rfl rfl rfl rfl) ?_
          refine RW.op rfl rfl (eff_assign (v := .t _) rfl rfl rfl) ?_
          refine RW.nil ?_
          refine awp_ret ?_
          rw [charge_0 hil hfF (by omega) h4]
          exact ⟨Or.inr rfl, [_, _], ⟨.cell rfl ti27 (.whole rfl rfl rfl rfl rfl rfl) (Res.aggP (xs := [_, _, _, _, _]) ⟨Res.ownT (xs := b.accs.map encA) rfl rfl rfl (by simp [setP_length]), Res.ownT (xs := (setH b.ls il (sub (b.ls[il]'hil).h c)).map encL) rfl rfl rfl (by simp [setH_length]), .t _, .t _, .t _, trivial⟩), .tmp (.t _), trivial⟩, (by repeat' first | exact trivial | exact Wk.refl _ | exact Wk.sl _ | refine And.intro ?_ ?_ | refine Wk.tupP ?_ | refine Wk.aggP ?_)⟩

theorem transfer_ret (b : Bank) (f t : Int) (p : Purse) (hB : BOK b) (hN : NB b) (hp : near 2147483647 p) : Ret Try.prog 30 [encB b, encI f, encI t, encP p] (.tup [encB (transfer b f t p).1, encI (transfer b f t p).2]) := by
  refine ret_of_awp Try.func30 rfl (Nat.le_of_ble_eq_true rfl) ?_
  refine awp_seq ?_
  refine awp_rw rfl ?_
  refine RW.new rfl rfl (eff_boxK (v := .t _) (k := 5) (id := 4) rfl rfl rfl rfl rfl rfl) ?_
  refine RW.new rfl rfl (eff_boxK (v := .t _) (k := 3) (id := 7) rfl rfl rfl rfl rfl rfl) ?_
  refine RW.new rfl rfl (eff_allocK (k := 5) (id := 8) rfl rfl tz27 rfl rfl) ?_
  refine RW.op rfl rfl (eff_assign (v := .t _) rfl rfl rfl) ?_
  refine RW.nil ?_
  refine awp_seq ?_
  refine awp_rd [(some 14, []), (some 15, []), (some 16, []), (some 17, []), (some 18, []), (some 19, []), (some 20, []), (some 21, []), (some 10, []), (some 11, [])] [[], [0], [], [0, 1, 2], [], [4], [], [0, 1, 2, 3, 4, 5, 6], [0, 1, 2, 3, 4, 5, 6, 7], [0, 1, 2, 3, 4, 5, 6, 7, 8]] tm rfl rfl rfl rfl ?_
  refine RD.op rfl rfl rfl (eff_fieldAddr rfl rfl tf27_0 (by decide) rfl rfl rfl (Nat.le_of_ble_eq_true rfl)) ?_
  refine RD.op rfl rfl rfl (eff_load (y := .t _) rfl rfl ti22 rfl (.one rfl rfl rfl rfl)) ?_
  refine RD.op rfl rfl rfl (eff_move (v := .t _) rfl rfl rfl) ?_
  refine RD.op rfl rfl rfl (eff_callT (findA_ret b.accs f hB.1) co40 rfl rfl rfl rfl) ?_
  refine RD.op rfl rfl rfl (eff_fieldAddr rfl rfl tf27_0 (by decide) rfl rfl rfl (Nat.le_of_ble_eq_true rfl)) ?_
  refine RD.op rfl rfl rfl (eff_load (y := .t _) rfl rfl ti22 rfl (.one rfl rfl rfl rfl)) ?_
  refine RD.op rfl rfl rfl (eff_move (v := .t _) rfl rfl rfl) ?_
  refine RD.op rfl rfl rfl (eff_callT (findA_ret b.accs t hB.1) co40 rfl rfl rfl rfl) ?_
  refine RD.op rfl rfl rfl (eff_assign (v := .t _) rfl rfl rfl) ?_
  refine RD.op rfl rfl rfl (eff_assign (v := .t _) rfl rfl rfl) ?_
  refine RD.nil ?_
  refine awp_seq ?_
  refine awp_seq ?_
  refine awp_rw rfl ?_
  refine RW.op rfl rfl (eff_move (v := .t _) rfl rfl rfl) ?_
  refine RW.op rfl rfl (eff_iop rfl rfl rfl rfl rfl) ?_
  refine RW.op rfl rfl (eff_move (v := .t _) rfl rfl rfl) ?_
  refine RW.split 24 rfl (fun h1 => ?_) (fun h1 => ?_)
  · try simp only [decide_eq_true_eq, decide_eq_false_iff_not, beq_iff_eq, bne_iff_ne, bne_eq_false_iff_eq, beq_eq_false_iff_ne, Bool.not_eq_true, Bool.not_eq_false, Bool.not_eq_true', Bool.not_eq_false', ne_eq] at h1
    refine RW.gskip rfl rfl rfl rfl rfl (by decide) ?_
    refine RW.gskip rfl rfl rfl rfl rfl (by decide) ?_
    refine RW.op rfl rfl (eff_pick (v := .t _) rfl rfl rfl rfl) ?_
    refine RW.nil ?_
    refine awp_cond rfl (fun _ => ?_) (fun h => nomatch h)
    refine awp_seq ?_
    refine awp_rw rfl ?_
    refine RW.op rfl rfl (eff_buildT (ys := [_, _, _, _, _]) rfl rfl tz27 tg27 rfl) ?_
    refine RW.store rfl rfl (eff_storeW (v := .t _) (els := [_]) (els' := [_]) rfl rfl ti27 rfl rfl rfl rfl rfl rfl rfl rfl rfl) ?_
    refine RW.op rfl rfl (eff_assign (v := .t _) rfl rfl rfl) ?_
    refine RW.nil ?_
    refine awp_ret ?_
    rw [transfer_3 (by omega)]
    exact ⟨Or.inr rfl, [_, _], ⟨.cell rfl ti27 (.whole rfl rfl rfl rfl rfl rfl) (.t _), .tmp (.t _), trivial⟩, (by repeat' first | exact trivial | exact Wk.refl _ | exact Wk.sl _ | refine And.intro ?_ ?_ | refine Wk.tupP ?_ | refine Wk.aggP ?_)⟩
  · try simp only [decide_eq_true_eq, decide_eq_false_iff_not, beq_iff_eq, bne_iff_ne, bne_eq_false_iff_eq, beq_eq_false_iff_ne, Bool.not_eq_true, Bool.not_eq_false, Bool.not_eq_true', Bool.not_eq_false', ne_eq] at h1
    refine RW.gop rfl rfl rfl rfl rfl rfl (eff_move (v := .t _) rfl rfl rfl) ?_
    refine RW.gop rfl rfl rfl rfl rfl rfl (eff_iop rfl rfl rfl rfl rfl) ?_
    refine RW.op rfl rfl (eff_pick (v := .t _) rfl rfl rfl rfl) ?_
    refine RW.nil ?_
    refine awp_cond rfl (fun h2 => ?_) (fun h2 => ?_)
    · try simp only [decide_eq_true_eq, decide_eq_false_iff_not, beq_iff_eq, bne_iff_ne, bne_eq_false_iff_eq, beq_eq_false_iff_ne, Bool.not_eq_true, Bool.not_eq_false, Bool.not_eq_true', Bool.not_eq_false', ne_eq] at h2
      refine awp_seq ?_
      refine awp_rw rfl ?_
      refine RW.op rfl rfl (eff_buildT (ys := [_, _, _, _, _]) rfl rfl tz27 tg27 rfl) ?_
      refine RW.store rfl rfl (eff_storeW (v := .t _) (els := [_]) (els' := [_]) rfl rfl ti27 rfl rfl rfl rfl rfl rfl rfl rfl rfl) ?_
      refine RW.op rfl rfl (eff_assign (v := .t _) rfl rfl rfl) ?_
      refine RW.nil ?_
      refine awp_ret ?_
      rw [transfer_3 (by omega)]
      exact ⟨Or.inr rfl, [_, _], ⟨.cell rfl ti27 (.whole rfl rfl rfl rfl rfl rfl) (.t _), .tmp (.t _), trivial⟩, (by repeat' first | exact trivial | exact Wk.refl _ | exact Wk.sl _ | refine And.intro ?_ ?_ | refine Wk.tupP ?_ | refine Wk.aggP ?_)⟩
    · try simp only [decide_eq_true_eq, decide_eq_false_iff_not, beq_iff_eq, bne_iff_ne, bne_eq_false_iff_eq, beq_eq_false_iff_ne, Bool.not_eq_true, Bool.not_eq_false, Bool.not_eq_true', Bool.not_eq_false', ne_eq] at h2
      refine awp_skip ?_
      refine awp_seq ?_
      obtain ⟨ia, hia, hfx, hfF⟩ := acc_nat h1
      obtain ⟨ka, hka0, hkx, hkF⟩ := acc_nat h2
      rw [hfx, hkx]
      have hL := hB.1
      have hL2 := hB.2
      have hp2 : near 1000000000000000 p := near_mono hp (by omega)
      refine awp_rd [(some 30, []), (some 31, []), (some 32, []), (some 33, []), (some 34, []), (some 35, []), (some 36, []), (some 37, []), (some 29, []), (some 38, []), (some 39, []), (some 12, [12]), (none, [12]), (some 13, [])] [[], [0], [], [0, 1, 2], [0, 1, 2, 3], [0, 1, 2, 3, 4], [], [0, 1, 2, 3, 4, 5, 6], [0, 1, 2, 3, 4, 5, 6, 7], [0, 1, 2, 3, 4, 5, 6, 7, 8], [0, 1, 2, 3, 4, 5, 6, 7, 8], [], [0, 1, 2, 3, 4, 5, 6, 7, 8, 9, 11], [0, 1, 2, 3, 4, 5, 6, 7, 8, 9, 10, 11, 12]] tm rfl rfl rfl rfl ?_
      refine RD.op rfl rfl rfl (eff_fieldAddr rfl rfl tf27_0 (by decide) rfl rfl rfl (Nat.le_of_ble_eq_true rfl)) ?_
      refine RD.op rfl rfl rfl (eff_load (y := .t _) rfl rfl ti22 rfl (.one rfl rfl rfl rfl)) ?_
      refine RD.op rfl rfl rfl (eff_move (v := .t _) rfl rfl rfl) ?_
      refine RD.op rfl rfl rfl (eff_indexM (i := ia) rfl rfl te22 rfl rfl (by first | rfl | omega) (by exact List.getElem?_eq_getElem (by omega)) rfl (by decide)) ?_
      refine RD.op rfl rfl rfl (eff_fieldAddrT rfl rfl tf57_1 (by decide) rfl) ?_
      refine RD.op rfl rfl rfl (eff_loadT (ys := [_, _, _]) rfl rfl ti25 rfl rfl rfl) ?_
      refine RD.op rfl rfl rfl (eff_load rfl rfl ti25 rfl (.whole rfl rfl rfl rfl rfl rfl)) ?_
      refine RD.op rfl rfl rfl (eff_callT (minusD_ret (b.accs[ia]'hia).p p (hN.acc hia) hp2) co17 rfl rfl rfl rfl) ?_
      refine RD.op rfl rfl rfl (eff_move (v := .t _) rfl rfl rfl) ?_
      refine RD.op rfl rfl rfl (eff_extract rfl rfl rfl rfl) ?_
      refine RD.op rfl rfl rfl (eff_extract rfl rfl rfl rfl) ?_
      refine RD.new rfl rfl rfl (eff_allocK (k := 3) (id := 12) rfl rfl tz25 rfl rfl) ?_
      refine RD.store rfl rfl rfl (eff_storeW (v := .t _) (els := [_]) (els' := [_]) rfl rfl ti25 rfl rfl rfl rfl rfl rfl rfl rfl rfl) ?_
      refine RD.op rfl rfl rfl (eff_assign (v := .t _) rfl rfl rfl) ?_
      refine RD.nil ?_
      refine awp_seq ?_
      refine awp_seq ?_
      refine awp_rw rfl ?_
      refine RW.op rfl rfl (eff_move (v := .t _) rfl rfl rfl) ?_
      refine RW.op rfl rfl (eff_unop rfl rfl rfl rfl) ?_
      refine RW.nil ?_
      refine awp_cond rfl (fun h3 => ?_) (fun h3 => ?_)
      · try simp only [decide_eq_true_eq, decide_eq_false_iff_not, beq_iff_eq, bne_iff_ne, bne_eq_false_iff_eq, beq_eq_false_iff_ne, Bool.not_eq_true, Bool.not_eq_false, Bool.not_eq_true', Bool.not_eq_false', ne_eq] at h3
        refine awp_seq ?_
        refine awp_rw rfl ?_
        refine RW.op rfl rfl (eff_buildT (ys := [_, _, _, _, _]) rfl rfl tz27 tg27 rfl) ?_
        refine RW.store rfl rfl (eff_storeW (v := .t _) (els := [_]) (els' := [_]) rfl rfl ti27 rfl rfl rfl rfl rfl rfl rfl rfl rfl) ?_
        refine RW.op rfl rfl (eff_assign (v := .t _) rfl rfl rfl) ?_
        refine RW.nil ?_
        refine awp_ret ?_
        rw [transfer_40 hia hfF hkF h3]
        exact ⟨Or.inr rfl, [_, _], ⟨.cell rfl ti27 (.whole rfl rfl rfl rfl rfl rfl) (.t _), .tmp (.t _), trivial⟩, (by repeat' first | exact trivial | exact Wk.refl _ | exact Wk.sl _ | refine And.intro ?_ ?_ | refine Wk.tupP ?_ | refine Wk.aggP ?_)⟩
      · try simp only [decide_eq_true_eq, decide_eq_false_iff_not, beq_iff_eq, bne_iff_ne, bne_eq_false_iff_eq, beq_eq_false_iff_ne, Bool.not_eq_true, Bool.not_eq_false, Bool.not_eq_true', Bool.not_eq_false', ne_eq] at h3
        refine awp_skip ?_
        refine awp_seq ?_
        refine awp_rw rfl ?_
        rw [minus_t h3]
        have hka : ka < (setP b.accs ia (sub (b.accs[ia]'hia).p p)).length := by rw [setP_length]; exact hka0
        have hsl : (setP b.accs ia (sub (b.accs[ia]'hia).p p)).length = b.accs.length := setP_length _ _ _
        refine RW.op rfl rfl (eff_load rfl rfl ti27 rfl (.whole rfl rfl rfl rfl rfl rfl)) ?_
        refine RW.new2 rfl rfl (eff_callG (clone54_retG b hB) co54 (fun id => id + 10000) rfl rfl rfl ⟨.t _, trivial⟩ (RenA.aggL (ds := [_, _, _, _, _]) ⟨.own _ _ _ _ rfl rfl, .own _ _ _ _ rfl rfl, .t _, .t _, .t _, trivial⟩) rfl trivial ⟨⟨treeEls_t, .inr rfl⟩, ⟨treeEls_t, .inr rfl⟩, trivial⟩) ?_
        refine RW.store rfl rfl (eff_storeW (v := .agg _) (els := [_]) (els' := [_]) rfl rfl ti27 rfl rfl rfl rfl rfl rfl rfl rfl rfl) ?_
        refine RW.nil ?_
        refine awp_seq ?_
        refine awp_rw rfl ?_
        refine RW.op rfl rfl (eff_fieldAddr rfl rfl tf27_0 (by decide) rfl rfl rfl (Nat.le_of_ble_eq_true rfl)) ?_
        refine RW.op rfl rfl (eff_load (y := .own _ _ _ _) rfl rfl ti22 rfl (.one rfl rfl rfl rfl)) ?_
        refine RW.op rfl rfl (eff_move (v := .t _) rfl rfl rfl) ?_
        refine RW.op rfl rfl (eff_load rfl rfl ti25 rfl (.whole rfl rfl rfl rfl rfl rfl)) ?_
        refine RW.op rfl rfl (eff_indexAddr (i := ia) rfl rfl te22 rfl rfl (by first | rfl | omega) rfl rfl rfl (by omega)) ?_
        refine RW.op rfl rfl (eff_fieldAddr rfl rfl tf57_1 (by decide) rfl rfl rfl (Nat.le_of_ble_eq_true rfl)) ?_
        refine RW.store rfl rfl (eff_storeS (v := .t _) (el := .t (encA (b.accs[ia]'hia))) (ys := [encI (b.accs[ia]'hia).c, encI (sub (b.accs[ia]'hia).p p).e, encI (sub (b.accs[ia]'hia).p p).b, encI (sub (b.accs[ia]'hia).p p).d]) (els := (b.accs.map encA).map .t) (els' := ((setP b.accs ia (sub (b.accs[ia]'hia).p p)).map encA).map .t) rfl rfl ti25 rfl rfl rfl rfl rfl rfl (by rw [Nat.zero_add]; exact elA hia) (Nat.le_of_ble_eq_true rfl) rfl (by rw [Nat.zero_add]; exact setP_els hia (sub (b.accs[ia]'hia).p p))) ?_
        refine RW.nil ?_
        refine awp_seq ?_
        refine awp_rd [(some 51, []), (some 52, []), (some 53, []), (some 54, []), (some 55, []), (some 56, []), (some 57, []), (some 58, []), (some 59, []), (some 60, []), (some 61, []), (some 62, []), (some 63, []), (none, [11005])] [[], [0], [], [], [3], [], [3, 4, 5], [3, 4, 5, 6], [3, 4, 5, 6, 7], [], [3, 4, 5, 6, 7, 8, 9], [0, 1, 2, 3, 4, 5, 6, 7, 8, 9, 10], [0, 1, 2, 3, 4, 5, 6, 7, 8, 9, 10, 11], [0, 1, 2, 3, 4, 5, 6, 7, 8, 9, 10, 11, 12]] tm rfl rfl rfl rfl ?_
        refine RD.op rfl rfl rfl (eff_fieldAddr rfl rfl tf27_0 (by decide) rfl rfl rfl (Nat.le_of_ble_eq_true rfl)) ?_
        refine RD.op rfl rfl rfl (eff_load (y := .own _ _ _ _) rfl rfl ti22 rfl (.one rfl rfl rfl rfl)) ?_
        refine RD.op rfl rfl rfl (eff_move (v := .t _) rfl rfl rfl) ?_
        refine RD.op rfl rfl rfl (eff_fieldAddr rfl rfl tf27_0 (by decide) rfl rfl rfl (Nat.le_of_ble_eq_true rfl)) ?_
        refine RD.op rfl rfl rfl (eff_load (y := .own _ _ _ _) rfl rfl ti22 rfl (.one rfl rfl rfl rfl)) ?_
        refine RD.op rfl rfl rfl (eff_move (v := .t _) rfl rfl rfl) ?_
        refine RD.op rfl rfl rfl (eff_indexAddr (i := ka) rfl rfl te22 rfl rfl (by first | rfl | omega) rfl rfl rfl (by omega)) ?_
        refine RD.op rfl rfl rfl (eff_fieldAddr rfl rfl tf57_1 (by decide) rfl rfl rfl (Nat.le_of_ble_eq_true rfl)) ?_
        refine RD.op rfl rfl rfl (eff_loadS (el := .t (encA ((setP b.accs ia (sub (b.accs[ia]'hia).p p))[ka]'hka))) (ys := [encI ((setP b.accs ia (sub (b.accs[ia]'hia).p p))[ka]'hka).p.e, encI ((setP b.accs ia (sub (b.accs[ia]'hia).p p))[ka]'hka).p.b, encI ((setP b.accs ia (sub (b.accs[ia]'hia).p p))[ka]'hka).p.d]) rfl rfl ti25 rfl rfl rfl (by rw [Nat.zero_add]; exact elA hka) rfl rfl) ?_
        refine RD.op rfl rfl rfl (eff_load rfl rfl ti25 rfl (.whole rfl rfl rfl rfl rfl rfl)) ?_
        refine RD.op rfl rfl rfl (eff_callT (plus_ret ((setP b.accs ia (sub (b.accs[ia]'hia).p p))[ka]'hka).p p (near_mono (near_setP hia (near_sub (hN.2.1 _ (List.getElem_mem hia)) hp h3) hN.2.1 hka) (by omega)) hp2) co19 rfl rfl rfl rfl) ?_
        refine RD.op rfl rfl rfl (eff_indexAddr (i := ka) rfl rfl te22 rfl rfl (by first | rfl | omega) rfl rfl rfl (by omega)) ?_
        refine RD.op rfl rfl rfl (eff_fieldAddr rfl rfl tf57_1 (by decide) rfl rfl rfl (Nat.le_of_ble_eq_true rfl)) ?_
        refine RD.store rfl rfl rfl (eff_storeS (v := .t _) (el := .t (encA ((setP b.accs ia (sub (b.accs[ia]'hia).p p))[ka]'hka))) (ys := [encI ((setP b.accs ia (sub (b.accs[ia]'hia).p p))[ka]'hka).c, encI (plus ((setP b.accs ia (sub (b.accs[ia]'hia).p p))[ka]'hka).p p).e, encI (plus ((setP b.accs ia (sub (b.accs[ia]'hia).p p))[ka]'hka).p p).b, encI (plus ((setP b.accs ia (sub (b.accs[ia]'hia).p p))[ka]'hka).p p).d]) (els := ((setP b.accs ia (sub (b.accs[ia]'hia).p p)).map encA).map .t) (els' := ((setP (setP b.accs ia (sub (b.accs[ia]'hia).p p)) ka (plus ((setP b.accs ia (sub (b.accs[ia]'hia).p p))[ka]'hka).p p)).map encA).map .t) rfl rfl ti25 rfl rfl rfl rfl rfl rfl (by rw [Nat.zero_add]; exact elA hka) (Nat.le_of_ble_eq_true rfl) rfl (by rw [Nat.zero_add]; exact setP_els hka (plus ((setP b.accs ia (sub (b.accs[ia]'hia).p p))[ka]'hka).p p))) ?_
        refine RD.nil ?_
        refine awp_seq ?_
        refine awp_rw rfl ?_
        refine RW.op rfl rfl (eff_load rfl rfl ti27 rfl (.whole rfl rfl rfl rfl rfl rfl)) ?_
        refine RW.store rfl rfl (eff_storeW (v := .agg _) (els := [_]) (els' := [_]) rfl rfl ti27 rfl rfl rfl rfl rfl rfl rfl rfl rfl) ?_
        refine RW.op rfl rfl (eff_assign (v := .t _) rfl rfl rfl) ?_
        refine RW.nil ?_
        refine awp_ret ?_
        rw [transfer_0 hia hfF hkF h3 hka]
        exact ⟨Or.inr rfl, [_, _], ⟨.cell rfl ti27 (.whole rfl rfl rfl rfl rfl rfl) (Res.aggP (xs := [_, _, _, _, _]) ⟨Res.ownT (xs := (setP (setP b.accs ia (sub (b.accs[ia]'hia).p p)) ka (plus ((setP b.accs ia (sub (b.accs[ia]'hia).p p))[ka]'hka).p p)).map encA) rfl rfl rfl (by simp [setP_length]), Res.ownT (xs := b.ls.map encL) rfl rfl rfl (by simp [setP_length]), .t _, .t _, .t _, trivial⟩), .tmp (.t _), trivial⟩, (by repeat' first | exact trivial | exact Wk.refl _ | exact Wk.sl _ | refine And.intro ?_ ?_ | refine Wk.tupP ?_ | refine Wk.aggP ?_)⟩

theorem expire_ret (b : Bank) (t : Int) (hV : VB b) : Ret Try.prog 29 [encB b, encI t] (encB (expire b t)) := by
  have hB := hV.bok
  refine ret_of_awp Try.func29 rfl (Nat.le_of_ble_eq_true rfl) ?_
  refine awp_seq ?_
  refine awp_rw rfl ?_
  refine RW.new rfl rfl (eff_boxK (v := .t _) (k := 5) (id := 2) rfl rfl rfl rfl rfl rfl) ?_
  refine RW.new rfl rfl (eff_allocK (k := 5) (id := 4) rfl rfl tz27 rfl rfl) ?_
  refine RW.nil ?_
  refine awp_seq ?_
  refine awp_rw rfl ?_
  refine RW.op rfl rfl (eff_load rfl rfl ti27 rfl (.whole rfl rfl rfl rfl rfl rfl)) ?_
  refine RW.op rfl rfl (eff_callT (clone54_ret b hB) co54 rfl rfl rfl rfl) ?_
  refine RW.new rfl rfl (eff_allocK (k := 5) (id := 5) rfl rfl tz27 rfl rfl) ?_
  refine RW.store rfl rfl (eff_storeW (v := .t _) (els := [_]) (els' := [_]) rfl rfl ti27 rfl rfl rfl rfl rfl rfl rfl rfl rfl) ?_
  refine RW.nil ?_
  refine awp_seq ?_
  refine awp_seq ?_
  refine awp_rw rfl ?_
  refine RW.op rfl rfl (eff_fieldAddr rfl rfl tf27_1 (by decide) rfl rfl rfl (Nat.le_of_ble_eq_true rfl)) ?_
  refine RW.op rfl rfl (eff_load (y := .t _) rfl rfl ti23 rfl (.one rfl rfl rfl rfl)) ?_
  refine RW.op rfl rfl (eff_lenM rfl rfl te23 rfl) ?_
  refine RW.op rfl rfl (eff_move (v := .t _) rfl rfl rfl) ?_
  refine RW.nil ?_
  refine awp_block ?_
  refine awp_loopW (fun m s => ∃ (i : Nat), (i ≤ b.ls.length) ∧ m = b.ls.length - i ∧ s = ⟨30, [(1, .t (encI t)), (2, .ptr 2 0 0 0), (4, .ptr 4 0 0 0), (5, .ptr 5 0 0 0), (11, .t (.sl (b.ls.map encL) false)), (12, .t (encI b.ls.length)), (13, .t (encI (i : Nat)))], [(2, some ⟨5, 27, 0, [.t (encB b)]⟩), (4, some ⟨5, 27, 0, [.t z27]⟩), (5, some ⟨5, 27, 0, [.t (encB (expT b t i))]⟩)]⟩) (_) (⟨_, weak_keep (n := 30) (fr' := [(1, .t (encI t)), (2, .ptr 2 0 0 0), (4, .ptr 4 0 0 0), (5, .ptr 5 0 0 0), (11, .t (.sl (b.ls.map encL) false)), (12, .t (encI b.ls.length)), (13, .t (encI (0 : Nat)))]) (st' := [(2, some ⟨5, 27, 0, [.t (encB b)]⟩), (4, some ⟨5, 27, 0, [.t z27]⟩), (5, some ⟨5, 27, 0, [.t (encB (expT b t 0))]⟩)]) ⟨rfl, rfl, rfl, rfl, rfl, rfl, rfl, rfl, rfl, rfl, rfl, rfl, rfl, rfl, trivial⟩ ⟨rfl, okE_one rfl, rfl, okE_one rfl, (by first | rfl | (rw [expT_step (by omega)]; first | (rw [stepE_t h2]; rfl) | (rw [stepE_f h2]; rfl))), okE_one rfl, trivial⟩, 0, (by omega), rfl, rfl⟩) ?_
  rintro m s ⟨i, hi, rfl, rfl⟩
  have hL := hB.1
  have hL2 := hB.2
  have hT := expT_vb hV t i
  refine awp_seq ?_
  refine awp_rw rfl ?_
  refine RW.op rfl rfl (eff_iop rfl rfl rfl rfl rfl) ?_
  refine RW.nil ?_
  refine awp_seq ?_
  refine awp_cond rfl (fun h1 => ?_) (fun h1 => ?_)
  · try simp only [decide_eq_true_eq, decide_eq_false_iff_not, beq_iff_eq, bne_iff_ne, bne_eq_false_iff_eq, beq_eq_false_iff_ne, Bool.not_eq_true, Bool.not_eq_false, Bool.not_eq_true', Bool.not_eq_false', ne_eq] at h1
    refine awp_skip ?_
    refine awp_seq ?_
    refine awp_block ?_
    refine awp_seq ?_
    refine awp_rw rfl ?_
    refine RW.op rfl rfl (eff_indexM rfl rfl te23 rfl rfl rfl (by first | assumption | exact List.getElem?_eq_getElem (by omega)) rfl (by decide)) ?_
    refine RW.op rfl rfl (eff_loadW rfl rfl ti44 rfl rfl rfl) ?_
    refine RW.new rfl rfl (eff_allocK (k := 8) (id := 7) rfl rfl tz44 rfl rfl) ?_
    refine RW.store rfl rfl (eff_storeW (v := .t _) (els := [_]) (els' := [_]) rfl rfl ti44 rfl rfl rfl rfl rfl rfl rfl rfl rfl) ?_
    refine RW.nil ?_
    refine awp_seq ?_
    refine awp_rw rfl ?_
    refine RW.op rfl rfl (eff_fieldAddr rfl rfl tf44_4 (by decide) rfl rfl rfl (Nat.le_of_ble_eq_true rfl)) ?_
    refine RW.op rfl rfl (eff_load (y := .t _) rfl rfl ti3 rfl (.one rfl rfl rfl rfl)) ?_
    refine RW.op rfl rfl (eff_move (v := .t _) rfl rfl rfl) ?_
    refine RW.op rfl rfl (eff_iop rfl rfl rfl rfl rfl) ?_
    refine RW.nil ?_
    refine awp_cond rfl (fun h2 => ?_) (fun h2 => ?_)
    · try simp only [decide_eq_true_eq, decide_eq_false_iff_not, beq_iff_eq, bne_iff_ne, bne_eq_false_iff_eq, beq_eq_false_iff_ne, Bool.not_eq_true, Bool.not_eq_false, Bool.not_eq_true', Bool.not_eq_false', ne_eq] at h2
      refine awp_rw rfl ?_
      refine RW.op rfl rfl (eff_load rfl rfl ti27 rfl (.whole rfl rfl rfl rfl rfl rfl)) ?_
      refine RW.op rfl rfl (eff_fieldAddr rfl rfl tf44_0 (by decide) rfl rfl rfl (Nat.le_of_ble_eq_true rfl)) ?_
      refine RW.op rfl rfl (eff_load (y := .t _) rfl rfl ti3 rfl (.one rfl rfl rfl rfl)) ?_
      refine RW.op rfl rfl (eff_callT (close_ret (expT b t i) (b.ls[i]'(by omega)).id hT.bok hT.nb hT.ow) co27 rfl rfl rfl rfl) ?_
      refine RW.op rfl rfl (eff_move (v := .t _) rfl rfl rfl) ?_
      refine RW.op rfl rfl (eff_extract rfl rfl rfl rfl) ?_
      refine RW.op rfl rfl (eff_extract rfl rfl rfl rfl) ?_
      refine RW.store rfl rfl (eff_storeW (v := .t _) (els := [_]) (els' := [_]) rfl rfl ti27 rfl rfl rfl rfl rfl rfl rfl rfl rfl) ?_
      refine RW.nil ?_
      refine awp_rw rfl ?_
      refine RW.op rfl rfl (eff_iop rfl rfl rfl rfl (iadd (by omega))) ?_
      refine RW.op rfl rfl (eff_move (v := .t _) rfl rfl rfl) ?_
      refine RW.nil ?_
      refine ⟨_, ?_, _, weak_keep (n := 30) (fr' := [(1, .t (encI t)), (2, .ptr 2 0 0 0), (4, .ptr 4 0 0 0), (5, .ptr 5 0 0 0), (11, .t (.sl (b.ls.map encL) false)), (12, .t (encI b.ls.length)), (13, .t (encI ((i + 1) : Nat)))]) (st' := [(2, some ⟨5, 27, 0, [.t (encB b)]⟩), (4, some ⟨5, 27, 0, [.t z27]⟩), (5, some ⟨5, 27, 0, [.t (encB (expT b t (i + 1)))]⟩)]) ⟨rfl, rfl, rfl, rfl, rfl, rfl, rfl, rfl, rfl, rfl, rfl, rfl, rfl, rfl, trivial⟩ ⟨rfl, okE_one rfl, rfl, okE_one rfl, (by first | rfl | (rw [expT_step (by omega)]; first | (rw [stepE_t h2]; rfl) | (rw [stepE_f h2]; rfl))), okE_one rfl, trivial⟩, i + 1, (by omega), rfl, rfl⟩
      omega
    · try simp only [decide_eq_true_eq, decide_eq_false_iff_not, beq_iff_eq, bne_iff_ne, bne_eq_false_iff_eq, beq_eq_false_iff_ne, Bool.not_eq_true, Bool.not_eq_false, Bool.not_eq_true', Bool.not_eq_false', ne_eq] at h2
      refine awp_skip ?_
      refine awp_rw rfl ?_
      refine RW.op rfl rfl (eff_iop rfl rfl rfl rfl (iadd (by omega))) ?_
      refine RW.op rfl rfl (eff_move (v := .t _) rfl rfl rfl) ?_
      refine RW.nil ?_
      refine ⟨_, ?_, _, weak_keep (n := 30) (fr' := [(1, .t (encI t)), (2, .ptr 2 0 0 0), (4, .ptr 4 0 0 0), (5, .ptr 5 0 0 0), (11, .t (.sl (b.ls.map encL) false)), (12, .t (encI b.ls.length)), (13, .t (encI ((i + 1) : Nat)))]) (st' := [(2, some ⟨5, 27, 0, [.t (encB b)]⟩), (4, some ⟨5, 27, 0, [.t z27]⟩), (5, some ⟨5, 27, 0, [.t (encB (expT b t (i + 1)))]⟩)]) ⟨rfl, rfl, rfl, rfl, rfl, rfl, rfl, rfl, rfl, rfl, rfl, rfl, rfl, rfl, trivial⟩ ⟨rfl, okE_one rfl, rfl, okE_one rfl, (by first | rfl | (rw [expT_step (by omega)]; first | (rw [stepE_t h2]; rfl) | (rw [stepE_f h2]; rfl))), okE_one rfl, trivial⟩, i + 1, (by omega), rfl, rfl⟩
      omega
  · try simp only [decide_eq_true_eq, decide_eq_false_iff_not, beq_iff_eq, bne_iff_ne, bne_eq_false_iff_eq, beq_eq_false_iff_ne, Bool.not_eq_true, Bool.not_eq_false, Bool.not_eq_true', Bool.not_eq_false', ne_eq] at h1
    refine awp_exit ?_
    refine awp_seq ?_
    refine awp_rw rfl ?_
    refine RW.op rfl rfl (eff_load rfl rfl ti27 rfl (.whole rfl rfl rfl rfl rfl rfl)) ?_
    refine RW.store rfl rfl (eff_storeW (v := .t _) (els := [_]) (els' := [_]) rfl rfl ti27 rfl rfl rfl rfl rfl rfl rfl rfl rfl) ?_
    refine RW.nil ?_
    refine awp_ret ?_
    obtain rfl : i = b.ls.length := by omega
    rw [expire_T]
    exact ⟨Or.inr rfl, [_], ⟨.cell rfl ti27 (.whole rfl rfl rfl rfl rfl rfl) (.t _), trivial⟩, .refl _⟩

end Go.Tv.C24

end
